/- A part of a proof for the laws of the seat Ytmhdjmbckgamlaa; it has no conditions of its own. -/
import Derived.Test.YtmhdjmbckgamlaaPlW9
import Derived.Test.YtmhdjmbckgamlaaPlFits
import Derived.Test.YtmhdjmbckgamlaaPlPlain
namespace Go.Place
open Go Go.SL Go.Proofs
set_option maxHeartbeats 4000000 in
theorem law_round (w : World) (id : Int) : Does Try.prog 6 #[.int .i64 id] w (fun v w' => v = .bool true ∧ St w Emp [] w') := by
  refine fn_body (fn := Try.f6) Try.func6 rfl [(0, .int .i64 id)] (by exact ⟨rfl, trivial⟩) rfl (St.start w) ?_
  refine jc_seq ?_
  refine sc_region ?_
  refine so_pure (opv_assign (by rfl)) (by rfl) rfl ?_
  refine jo_nil ?_
  refine jk_then ?_
  refine jc_seq ?_
  refine jc_seq ?_
  refine sc_region ?_
  refine so_pure (opv_move (by rfl)) (by rfl) rfl ?_
  refine so_pure (opv_cmp (by rfl) (by rfl) (by rfl)) (by rfl) rfl ?_
  refine so_pure (opv_move (by rfl)) (by rfl) rfl ?_
  refine sk_split (x := 11) (by rfl) (fun h2 => ?_) (fun h2 => ?_)
  · first | have p2 := of_decide_eq_true h2 | have p2 := of_decide_eq_false h2 | have p2 := ndT h2 | have p2 := ndF h2 | have p2 := nbT h2 | have p2 := nbF h2 | have p2 := h2
    refine so_skip (wtd_not rfl rfl (by rfl) h2) rfl ?_
    refine so_skip (wtd_not rfl rfl (by rfl) h2) rfl ?_
    refine so_pure (sv_pick_t (by rfl) h2 (by rfl)) (by rfl) rfl ?_
    refine jo_nil ?_
    refine jk_then ?_
    refine sc_true (by rfl) rfl ?_
    refine jc_seq ?_
    refine sc_region ?_
    refine so_eff (eff_call0 (G := fun u New => u = .bool true ∧ New = []) (by rfl) (by rfl) tx9 (by exact fun w1 hw1 => (live_spec w1).mono (fun _ _ ⟨hv, hst⟩ => ⟨[], ⟨hv, rfl⟩, hst⟩))) (by rfl) rfl ?_
    rintro _ _ ⟨_, ⟨rfl, rfl⟩, rfl⟩
    refine so_pure (opv_assign (by rfl)) (by rfl) rfl ?_
    refine jo_nil ?_
    refine jk_then ?_
    refine jc_ret ?_
    refine jk_then_ret ?_
    refine jk_fn_ret rfl rfl (by rfl) (fun w hw => ?_)
    exact ⟨rfl, hw.forget⟩
  · first | have p2 := of_decide_eq_true h2 | have p2 := of_decide_eq_false h2 | have p2 := ndT h2 | have p2 := ndF h2 | have p2 := nbT h2 | have p2 := nbF h2 | have p2 := h2
    refine so_pure (opv_move (by rfl)) (wtd_run rfl rfl (by rfl) h2) rfl ?_
    refine so_pure (opv_cmp (by rfl) (by rfl) (by rfl)) (wtd_run rfl rfl (by rfl) h2) rfl ?_
    refine so_pure (sv_pick_f (by rfl) h2 (by rfl)) (by rfl) rfl ?_
    refine jo_nil ?_
    refine jk_then ?_
    refine sk_split (x := 14) (by rfl) (fun h4 => ?_) (fun h4 => ?_)
    · first | have p4 := of_decide_eq_true h4 | have p4 := of_decide_eq_false h4 | have p4 := ndT h4 | have p4 := ndF h4 | have p4 := nbT h4 | have p4 := nbF h4 | have p4 := h4
      refine sc_true (by rfl) h4 ?_
      refine jc_seq ?_
      refine sc_region ?_
      refine so_eff (eff_call0 (G := fun u New => u = .bool true ∧ New = []) (by rfl) (by rfl) tx9 (by exact fun w1 hw1 => (live_spec w1).mono (fun _ _ ⟨hv, hst⟩ => ⟨[], ⟨hv, rfl⟩, hst⟩))) (by rfl) rfl ?_
      rintro _ _ ⟨_, ⟨rfl, rfl⟩, rfl⟩
      refine so_pure (opv_assign (by rfl)) (by rfl) rfl ?_
      refine jo_nil ?_
      refine jk_then ?_
      refine jc_ret ?_
      refine jk_then_ret ?_
      refine jk_fn_ret rfl rfl (by rfl) (fun w hw => ?_)
      exact ⟨rfl, hw.forget⟩
    · first | have p4 := of_decide_eq_true h4 | have p4 := of_decide_eq_false h4 | have p4 := ndT h4 | have p4 := ndF h4 | have p4 := nbT h4 | have p4 := nbF h4 | have p4 := h4
      refine sc_false (by rfl) h4 ?_
      refine jc_skip ?_
      refine jk_then ?_
      refine jc_seq ?_
      obtain ⟨f, rfl⟩ : ∃ f : Nat, id = f := ⟨id.toNat, by omega⟩
      refine sc_region ?_
      refine so_eff (eff_makeSlice (n := 12) (by rfl) (by rfl) Try.underlying22 ti3 (by decide) (by decide)) (by rfl) rfl ?_
      rintro _ _ ⟨lb, rfl, rfl⟩
      refine jo_ownmk (n := 12) (cap := 12) (size := 1) (xs := zero12.flatMap ic) (by repeat (first | exact Pk.here _ | apply Pk.there)) (Nat.le_refl _) (by decide) (by kernel_rfl) (by kernel_rfl) ?_
      refine so_pure (opv_assign (by rfl)) (by rfl) rfl ?_
      refine jo_nil ?_
      refine jk_then ?_
      refine jc_seq ?_
      refine jc_seq ?_
      refine sc_region ?_
      refine so_pure (opv_assign (by rfl)) (by rfl) rfl ?_
      refine jo_nil ?_
      refine jk_then ?_
      refine jc_block ?_
      refine jc_loop (σ := Nat) (fun i => [(0, .int .i64 (f : Int)), (3, .slice (some ⟨lb, 0, none⟩) 12 12), (4, .int .i64 i)]) (fun i => [own (.slice (some ⟨lb, 0, none⟩) 12 12) 3 1 12 ((rnd f i).flatMap ic)]) (fun i => (i ≤ 12) ∧ (Bd (rnd f i) (9 * i))) (fun i => 12 - i) 0 ⟨Nat.zero_le _, Bd.zero⟩ ⟨rfl, rfl, rfl, trivial⟩ (fun w hw => St.sel hw (by repeat (first | exact Pks.nil _ | exact Pk.here _ | apply Pk.there | apply Pks.cons))) ?_
      rintro i ⟨hi, hb⟩
      show Jc _ _ [(0, .int .i64 (f : Int)), (3, .slice (some ⟨lb, 0, none⟩) 12 12), (4, .int .i64 i)] [own (.slice (some ⟨lb, 0, none⟩) 12 12) 3 1 12 ((rnd f i).flatMap ic)] _
      refine jc_seq ?_
      refine jc_seq ?_
      refine sc_region ?_
      refine so_pure (opv_move (by rfl)) (by rfl) rfl ?_
      refine so_pure (opv_cmp (by rfl) (by rfl) (by rfl)) (by rfl) rfl ?_
      refine jo_nil ?_
      refine jk_then ?_
      refine sk_split (x := 18) (by rfl) (fun h9 => ?_) (fun h9 => ?_)
      · first | have p9 := of_decide_eq_true h9 | have p9 := of_decide_eq_false h9 | have p9 := ndT h9 | have p9 := ndF h9 | have p9 := nbT h9 | have p9 := nbF h9 | have p9 := h9
        refine sc_true (by rfl) h9 ?_
        refine jc_skip ?_
        refine jk_then ?_
        refine jc_seq ?_
        refine jc_block ?_
        refine jc_seq ?_
        refine sc_region ?_
        refine so_pure (opv_move (by rfl)) (by rfl) rfl ?_
        refine so_pure (opv_move (by rfl)) (by rfl) rfl ?_
        refine so_pure (opv_add_nat (m := f) (n := i) (by rfl) (by rfl) (by omega)) (by rfl) rfl ?_
        refine so_eff (eff_call0 (fl := []) (cl := []) (G := fun v New => ∃ b, v = .slice (some ⟨b, 0, none⟩) 12 12 ∧ New = [own (.slice (some ⟨b, 0, none⟩) 12 12) 3 1 12 (([0, 1, 2, 3, 4, 5, 6, 7, 8, 9, 10, 11] : List Int).flatMap ic)]) (by rfl) (by rfl) tx19 (by exact fun w1 hw1 => (all_spec w1).mono (fun _ _ ⟨b, hv, hst⟩ => ⟨_, ⟨b, hv, rfl⟩, hst⟩))) (by rfl) rfl ?_
        rintro _ _ ⟨_, ⟨ba, rfl, rfl⟩, rfl⟩
        refine so_eff (eff_call0 (fl := []) (cl := []) (G := fun v New => ∃ sl, v = .tuple #[sl, .int .i64 (chooseE ((f + i : Nat) : Int) 0 all12)] ∧ New = [own sl 3 1 (chooseL ((f + i : Nat) : Int) 0 all12).length ((chooseL ((f + i : Nat) : Int) 0 all12).flatMap ic)]) (by rfl) (by rfl) tx10 (by exact fun w1 hw1 => (choose_spec w1 (some ⟨ba, 0, none⟩) 12 12 all12 (St.slr ic_len hw1 (by repeat (first | exact Pk.here _ | apply Pk.there)) rfl) (by omega) ((f + i : Nat) : Int) 0).mono (fun _ _ ⟨sl, hv, hst⟩ => ⟨_, ⟨sl, hv, rfl⟩, hst⟩))) (by rfl) rfl ?_
        rintro _ _ ⟨_, ⟨sl1, rfl, rfl⟩, rfl⟩
        rw [(choose_all (a := f + i) (by omega)).1, (choose_all (a := f + i) (by omega)).2]
        refine jo_sv (v := sl1) (by repeat (first | exact Pk.here _ | apply Pk.there)) (fun hsv1 => ?_)
        obtain ⟨A1, c1, rfl, _⟩ := hsv1
        refine so_pure (opv_move (by rfl)) (by rfl) rfl ?_
        refine so_pure (opv_extract (by rfl) (by rfl)) (by rfl) rfl ?_
        refine so_pure (opv_extract (by rfl) (by rfl)) (by rfl) rfl ?_
        refine so_pure (opv_assign (by rfl)) (by rfl) rfl ?_
        refine so_pure (opv_assign (by rfl)) (by rfl) rfl ?_
        refine jo_nil ?_
        refine jk_then ?_
        refine jc_seq ?_
        refine jc_seq ?_
        refine sc_region ?_
        refine so_pure (opv_move (by rfl)) (by rfl) rfl ?_
        refine so_pure (opv_cmp (b := false) (by rfl) (by rfl) (by rfl)) (by rfl) rfl ?_
        refine so_pure (opv_move (by rfl)) (by rfl) rfl ?_
        refine so_pure (opv_move (by rfl)) (wtd_run rfl rfl (by rfl) rfl) rfl ?_
        refine so_pure (opv_len_slice (by rfl) Try.underlying22) (wtd_run rfl rfl (by rfl) rfl) rfl ?_
        refine so_pure (opv_cmp (b := false) (by rfl) (by rfl) (by rw [rotL_len]; rfl)) (wtd_run rfl rfl (by rfl) rfl) rfl ?_
        refine so_pure (sv_pick_f (by rfl) rfl (by rfl)) (by rfl) rfl ?_
        refine jo_nil ?_
        refine jk_then ?_
        refine sc_false (by rfl) rfl ?_
        refine jc_skip ?_
        refine jk_then ?_
        refine jc_seq ?_
        refine sc_region ?_
        refine so_pure (opv_assign (by rfl)) (by rfl) rfl ?_
        refine jo_nil ?_
        refine jk_then ?_
        refine jc_block ?_
        refine jc_loop (σ := Nat) (fun k => [(0, .int .i64 (f : Int)), (3, .slice (some ⟨lb, 0, none⟩) 12 12), (4, .int .i64 i), (5, .slice A1 (rotL all12 (5 * (f + i)) 9).length c1), (7, .int .i64 k)]) (fun k => [own (.slice (some ⟨lb, 0, none⟩) 12 12) 3 1 12 ((bumpsI (rnd f i) ((rotL all12 (5 * (f + i)) 9).take k)).flatMap ic), own (.slice A1 (rotL all12 (5 * (f + i)) 9).length c1) 3 1 (rotL all12 (5 * (f + i)) 9).length ((rotL all12 (5 * (f + i)) 9).flatMap ic)]) (fun k => (k ≤ 9) ∧ (Bd (bumpsI (rnd f i) ((rotL all12 (5 * (f + i)) 9).take k)) (9 * i + k))) (fun k => 9 - k) 0 ⟨Nat.zero_le _, hb⟩ ⟨rfl, rfl, rfl, rfl, rfl, trivial⟩ (fun w hw => St.sel hw (by repeat (first | exact Pks.nil _ | exact Pk.here _ | apply Pk.there | apply Pks.cons))) ?_
        rintro k ⟨hk, hbk⟩
        show Jc _ _ [(0, .int .i64 (f : Int)), (3, .slice (some ⟨lb, 0, none⟩) 12 12), (4, .int .i64 i), (5, .slice A1 (rotL all12 (5 * (f + i)) 9).length c1), (7, .int .i64 k)] [own (.slice (some ⟨lb, 0, none⟩) 12 12) 3 1 12 ((bumpsI (rnd f i) ((rotL all12 (5 * (f + i)) 9).take k)).flatMap ic), own (.slice A1 (rotL all12 (5 * (f + i)) 9).length c1) 3 1 (rotL all12 (5 * (f + i)) 9).length ((rotL all12 (5 * (f + i)) 9).flatMap ic)] _
        refine jc_seq ?_
        refine jc_seq ?_
        refine sc_region ?_
        refine so_pure (opv_move (by rfl)) (by rfl) rfl ?_
        refine so_pure (opv_cmp (by rfl) (by rfl) (by rfl)) (by rfl) rfl ?_
        refine jo_nil ?_
        refine jk_then ?_
        refine sk_split (x := 37) (by rfl) (fun h19 => ?_) (fun h19 => ?_)
        · first | have p19 := of_decide_eq_true h19 | have p19 := of_decide_eq_false h19 | have p19 := ndT h19 | have p19 := ndF h19 | have p19 := nbT h19 | have p19 := nbF h19 | have p19 := h19
          refine sc_true (by rfl) h19 ?_
          refine jc_skip ?_
          refine jk_then ?_
          refine jc_seq ?_
          refine jc_block ?_
          refine jc_seq ?_
          refine jc_seq ?_
          have hkl : k < (rotL all12 (5 * (f + i)) 9).length := by rw [rotL_len]; omega
          obtain ⟨x, hx⟩ : ∃ x, (rotL all12 (5 * (f + i)) 9)[k]? = some x := ⟨(rotL all12 (5 * (f + i)) 9)[k], List.getElem?_eq_getElem hkl⟩
          have hxr : 0 ≤ x ∧ x < 12 := by rw [rotL_get (by omega)] at hx; obtain rfl := Option.some.inj hx; exact rot12_lt _ _
          obtain ⟨d, rfl⟩ : ∃ d : Nat, x = d := ⟨x.toNat, by omega⟩
          obtain ⟨cc, hcc, hc0, hc1⟩ := hbk.get (i := d) (by omega)
          have hlen12 := hbk.1
          have hbi := bump_in (ld := (bumpsI (rnd f i) ((rotL all12 (5 * (f + i)) 9).take k))) (d := (d : Int)) (y := cc) (by omega) (by rw [Int.toNat_natCast]; exact hcc)
          rw [Int.toNat_natCast] at hbi
          have hbn := hbk.bump (d : Int)
          rw [← bumpsI_snoc hx] at hbn
          refine sc_region ?_
          refine so_pure (opv_move (by rfl)) (by rfl) rfl ?_
          refine so_pure (opv_move (by rfl)) (by rfl) rfl ?_
          refine so_pure (opv_indexAddr_own (i := k) (v := .slice A1 (rotL all12 (5 * (f + i)) 9).length c1) (by rfl) (by rfl) Try.underlying22 ti3 (by repeat (first | exact Pk.here _ | apply Pk.there)) rfl hkl) (by rfl) rfl ?_
          refine so_pure (opv_load_fld (enc := ic) (v := .slice A1 (rotL all12 (5 * (f + i)) 9).length c1) (i := k) (u := (d : Int)) (fo := 0) (w := .int .i64 (d : Int)) ic_len (by rfl) na3 (by repeat (first | exact Pk.here _ | apply Pk.there)) hx rfl) (by rfl) rfl ?_
          refine so_pure (opv_cmp (b := false) (by rfl) (by rfl) (by exact congrArg some (decide_eq_false (by omega)))) (by rfl) rfl ?_
          refine so_pure (opv_move (by rfl)) (by rfl) rfl ?_
          refine so_pure (opv_move (by rfl)) (wtd_run rfl rfl (by rfl) rfl) rfl ?_
          refine so_pure (opv_move (by rfl)) (wtd_run rfl rfl (by rfl) rfl) rfl ?_
          refine so_pure (opv_indexAddr_own (i := k) (v := .slice A1 (rotL all12 (5 * (f + i)) 9).length c1) (by rfl) (by rfl) Try.underlying22 ti3 (by repeat (first | exact Pk.here _ | apply Pk.there)) rfl hkl) (wtd_run rfl rfl (by rfl) rfl) rfl ?_
          refine so_pure (opv_load_fld (enc := ic) (v := .slice A1 (rotL all12 (5 * (f + i)) 9).length c1) (i := k) (u := (d : Int)) (fo := 0) (w := .int .i64 (d : Int)) ic_len (by rfl) na3 (by repeat (first | exact Pk.here _ | apply Pk.there)) hx rfl) (wtd_run rfl rfl (by rfl) rfl) rfl ?_
          refine so_pure (opv_cmp (b := false) (by rfl) (by rfl) (by exact congrArg some (decide_eq_false (by omega)))) (wtd_run rfl rfl (by rfl) rfl) rfl ?_
          refine so_pure (sv_pick_f (by rfl) rfl (by rfl)) (by rfl) rfl ?_
          refine jo_nil ?_
          refine jk_then ?_
          refine sc_false (by rfl) rfl ?_
          refine jc_skip ?_
          refine jk_then ?_
          refine sc_region ?_
          refine so_pure (opv_move (by rfl)) (by rfl) rfl ?_
          refine so_pure (opv_move (by rfl)) (by rfl) rfl ?_
          refine so_pure (opv_move (by rfl)) (by rfl) rfl ?_
          refine so_pure (opv_indexAddr_own (i := k) (v := .slice A1 (rotL all12 (5 * (f + i)) 9).length c1) (by rfl) (by rfl) Try.underlying22 ti3 (by repeat (first | exact Pk.here _ | apply Pk.there)) rfl hkl) (by rfl) rfl ?_
          refine so_pure (opv_load_fld (enc := ic) (v := .slice A1 (rotL all12 (5 * (f + i)) 9).length c1) (i := k) (u := (d : Int)) (fo := 0) (w := .int .i64 (d : Int)) ic_len (by rfl) na3 (by repeat (first | exact Pk.here _ | apply Pk.there)) hx rfl) (by rfl) rfl ?_
          refine so_pure (opv_indexAddr (i := d) (by rfl) (by rfl) Try.underlying22 ti3 rfl (by omega)) (by rfl) rfl ?_
          refine so_pure (opv_load_fld (enc := ic) (v := .slice (some ⟨lb, 0, none⟩) 12 12) (i := d) (u := cc) (fo := 0) (w := .int .i64 cc) ic_len (by rfl) na3 (by repeat (first | exact Pk.here _ | apply Pk.there)) hcc rfl) (by rfl) rfl ?_
          refine so_pure (opv_add (by rfl) (by rfl) (wrap64_ok (by omega))) (by rfl) rfl ?_
          refine so_pure (opv_indexAddr (i := d) (by rfl) (by rfl) Try.underlying22 ti3 rfl (by omega)) (by rfl) rfl ?_
          refine so_eff0 (eff_store_elem (enc := ic) (v := .slice (some ⟨lb, 0, none⟩) 12 12) (i := d) (p := cc) (q := cc + 1) (vs := [.int .i64 (cc + 1)]) (fo := 0) ic_len (by rfl) (by rfl) (by rfl) ti3 (by rfl) (by repeat (first | exact Pk.here _ | apply Pk.there)) (by omega) hcc (by exact Nat.le_refl _) rfl (by rfl)) (by rfl) ?_
          rintro _ _ ⟨rfl, rfl⟩
          refine jo_nil ?_
          refine jk_block ?_
          refine jk_then ?_
          refine sc_region ?_
          refine so_pure (opv_move (by rfl)) (by rfl) rfl ?_
          refine so_pure (opv_add (by rfl) (by rfl) (wrap64_ok (by omega))) (by rfl) rfl ?_
          refine so_pure (opv_assign (by rfl)) (by rfl) rfl ?_
          refine jo_nil ?_
          refine jk_round (k + 1) ⟨by omega, hbn⟩ (by show 9 - (k + 1) < 9 - k; omega) ⟨rfl, rfl, rfl, rfl, rfl, trivial⟩ (fun w hw => ?_)
          show St _ _ [own (.slice (some ⟨lb, 0, none⟩) 12 12) 3 1 12 ((bumpsI (rnd f i) ((rotL all12 (5 * (f + i)) 9).take (k + 1))).flatMap ic), own (.slice A1 (rotL all12 (5 * (f + i)) 9).length c1) 3 1 (rotL all12 (5 * (f + i)) 9).length ((rotL all12 (5 * (f + i)) 9).flatMap ic)] _
          rw [bumpsI_snoc hx, hbi]
          exact St.sel (Sb := [own (.slice (some ⟨lb, 0, none⟩) 12 12) 3 1 12 (((bumpsI (rnd f i) ((rotL all12 (5 * (f + i)) 9).take k)).set d (cc + 1)).flatMap ic), own (.slice A1 (rotL all12 (5 * (f + i)) 9).length c1) 3 1 (rotL all12 (5 * (f + i)) 9).length ((rotL all12 (5 * (f + i)) 9).flatMap ic)]) hw (by repeat (first | exact Pks.nil _ | exact Pk.here _ | apply Pk.there | apply Pks.cons))
        · first | have p19 := of_decide_eq_true h19 | have p19 := of_decide_eq_false h19 | have p19 := ndT h19 | have p19 := ndF h19 | have p19 := nbT h19 | have p19 := nbF h19 | have p19 := h19
          refine sc_false (by rfl) h19 ?_
          refine jc_exit ?_
          refine jk_then_exit ?_
          refine jk_then_exit ?_
          refine jk_block_exit ?_
          refine jk_block ?_
          refine jk_then ?_
          refine sc_region ?_
          refine so_pure (opv_move (by rfl)) (by rfl) rfl ?_
          refine so_pure (opv_add (by rfl) (by rfl) (wrap64_ok (by omega))) (by rfl) rfl ?_
          refine so_pure (opv_assign (by rfl)) (by rfl) rfl ?_
          refine jo_nil ?_
          have ek : k = 9 := by omega
          subst ek
          have et : (rotL all12 (5 * (f + i)) 9).take 9 = (rotL all12 (5 * (f + i)) 9) := List.take_of_length_le (by rw [rotL_len]; omega)
          rw [et] at hbk
          refine jk_round (i + 1) ⟨by omega, by rw [rnd_succ]; exact hbk.up (by omega)⟩ (by show 12 - (i + 1) < 12 - i; omega) ⟨rfl, rfl, rfl, trivial⟩ (fun w hw => ?_)
          show St _ _ [own (.slice (some ⟨lb, 0, none⟩) 12 12) 3 1 12 ((rnd f (i + 1)).flatMap ic)] _
          rw [rnd_succ]
          rw [et] at hw
          exact St.sel hw (by repeat (first | exact Pks.nil _ | exact Pk.here _ | apply Pk.there | apply Pks.cons))
      · first | have p9 := of_decide_eq_true h9 | have p9 := of_decide_eq_false h9 | have p9 := ndT h9 | have p9 := ndF h9 | have p9 := nbT h9 | have p9 := nbF h9 | have p9 := h9
        refine sc_false (by rfl) h9 ?_
        refine jc_exit ?_
        refine jk_then_exit ?_
        refine jk_then_exit ?_
        refine jk_block_exit ?_
        refine jk_then ?_
        refine jc_seq ?_
        refine jc_seq ?_
        obtain rfl : i = 12 := by omega
        refine sc_region ?_
        refine so_pure (opv_assign (by rfl)) (by rfl) rfl ?_
        refine jo_nil ?_
        refine jk_then ?_
        refine jc_block ?_
        refine jc_loop (σ := Nat) (fun k => [(3, .slice (some ⟨lb, 0, none⟩) 12 12), (8, .int .i64 k)]) (fun k => [own (.slice (some ⟨lb, 0, none⟩) 12 12) 3 1 12 ((rnd f 12).flatMap ic)]) (fun k => (k ≤ 12) ∧ (True)) (fun k => 12 - k) 0 ⟨Nat.zero_le _, trivial⟩ ⟨rfl, rfl, trivial⟩ (fun w hw => St.sel hw (by repeat (first | exact Pks.nil _ | exact Pk.here _ | apply Pk.there | apply Pks.cons))) ?_
        rintro k ⟨hk, ht⟩
        show Jc _ _ [(3, .slice (some ⟨lb, 0, none⟩) 12 12), (8, .int .i64 k)] [own (.slice (some ⟨lb, 0, none⟩) 12 12) 3 1 12 ((rnd f 12).flatMap ic)] _
        refine jc_seq ?_
        refine jc_seq ?_
        refine sc_region ?_
        refine so_pure (opv_move (by rfl)) (by rfl) rfl ?_
        refine so_pure (opv_cmp (by rfl) (by rfl) (by rfl)) (by rfl) rfl ?_
        refine jo_nil ?_
        refine jk_then ?_
        refine sk_split (x := 62) (by rfl) (fun h39 => ?_) (fun h39 => ?_)
        · first | have p39 := of_decide_eq_true h39 | have p39 := of_decide_eq_false h39 | have p39 := ndT h39 | have p39 := ndF h39 | have p39 := nbT h39 | have p39 := nbF h39 | have p39 := h39
          refine sc_true (by rfl) h39 ?_
          refine jc_skip ?_
          refine jk_then ?_
          refine jc_seq ?_
          refine jc_block ?_
          refine jc_seq ?_
          have hk12 : k < 12 := by omega
          have hr9 : (rnd f 12)[k]? = some 9 := by rw [rnd_all, List.getElem?_replicate, if_pos hk12]
          refine sc_region ?_
          refine so_pure (opv_move (by rfl)) (by rfl) rfl ?_
          refine so_pure (opv_move (by rfl)) (by rfl) rfl ?_
          refine so_pure (opv_indexAddr (i := k) (by rfl) (by rfl) Try.underlying22 ti3 rfl (by omega)) (by rfl) rfl ?_
          refine so_pure (opv_load_fld (enc := ic) (v := .slice (some ⟨lb, 0, none⟩) 12 12) (i := k) (u := 9) (fo := 0) (w := .int .i64 9) ic_len (by rfl) na3 (by repeat (first | exact Pk.here _ | apply Pk.there)) hr9 rfl) (by rfl) rfl ?_
          refine so_pure (opv_cmp (b := false) (by rfl) (by rfl) (by rfl)) (by rfl) rfl ?_
          refine jo_nil ?_
          refine jk_then ?_
          refine sc_false (by rfl) rfl ?_
          refine jc_skip ?_
          refine jk_block ?_
          refine jk_then ?_
          refine sc_region ?_
          refine so_pure (opv_move (by rfl)) (by rfl) rfl ?_
          refine so_pure (opv_add (by rfl) (by rfl) (wrap64_ok (by omega))) (by rfl) rfl ?_
          refine so_pure (opv_assign (by rfl)) (by rfl) rfl ?_
          refine jo_nil ?_
          refine jk_round (k + 1) ⟨by omega, trivial⟩ (by show 12 - (k + 1) < 12 - k; omega) ⟨rfl, rfl, trivial⟩ (fun w hw => ?_)
          show St _ _ [own (.slice (some ⟨lb, 0, none⟩) 12 12) 3 1 12 ((rnd f 12).flatMap ic)] _
          exact St.sel hw (by repeat (first | exact Pks.nil _ | exact Pk.here _ | apply Pk.there | apply Pks.cons))
        · first | have p39 := of_decide_eq_true h39 | have p39 := of_decide_eq_false h39 | have p39 := ndT h39 | have p39 := ndF h39 | have p39 := nbT h39 | have p39 := nbF h39 | have p39 := h39
          refine sc_false (by rfl) h39 ?_
          refine jc_exit ?_
          refine jk_then_exit ?_
          refine jk_then_exit ?_
          refine jk_block_exit ?_
          refine jk_then ?_
          refine jc_seq ?_
          refine sc_region ?_
          refine so_eff (eff_call0 (G := fun u New => u = .bool true ∧ New = []) (by rfl) (by rfl) tx9 (by exact fun w1 hw1 => (live_spec w1).mono (fun _ _ ⟨hv, hst⟩ => ⟨[], ⟨hv, rfl⟩, hst⟩))) (by rfl) rfl ?_
          rintro _ _ ⟨_, ⟨rfl, rfl⟩, rfl⟩
          refine so_pure (opv_assign (by rfl)) (by rfl) rfl ?_
          refine jo_nil ?_
          refine jk_then ?_
          refine jc_ret ?_
          refine jk_fn_ret rfl rfl (by rfl) (fun w hw => ?_)
          exact ⟨rfl, hw.forget⟩
end Go.Place
