/- A part of a proof for the laws of the seat Ytmhdjmbckgamlaa; it has no conditions of its own. -/
import Derived.Test.YtmhdjmbckgamlaaPlW9
import Derived.Test.YtmhdjmbckgamlaaPlFits
import Derived.Test.YtmhdjmbckgamlaaPlMove
namespace Go.Place
open Go Go.SL Go.Proofs
set_option maxHeartbeats 4000000 in
theorem law_moves (w : World) (A : Option Addr) (n c : Nat) (vs : List Vol) (hs : SlR w 36 4 Vol.cells A n vs) (hok : ∀ v ∈ vs, VolOk w v) (hmn : n ≤ 9223372036854775807) (B : Option Addr) (m c2 : Nat) (xs : List Int) (hx : SlR w 3 1 ic B m xs) (hmm : m ≤ 9223372036854775807) : Does Try.prog 7 #[.slice A n c, .slice B m c2] w (fun v w' => v = .bool true ∧ St w Emp [] w') := by
  obtain ⟨lss, hr⟩ := all2_of hok
  refine fn_body (fn := Try.f7) Try.func7 rfl [(0, .slice A n c), (1, .slice B m c2)] (by exact ⟨rfl, rfl, trivial⟩) rfl (St.start w) ?_
  refine jc_seq ?_
  refine sc_region ?_
  refine so_pure (opv_assign (by rfl)) (by rfl) rfl ?_
  refine jo_nil ?_
  refine jk_then ?_
  refine jc_seq ?_
  refine jc_seq ?_
  refine sc_region ?_
  refine so_pure (opv_move (by rfl)) (by rfl) rfl ?_
  refine so_pure (opv_len_slice (by rfl) Try.underlying33) (by rfl) rfl ?_
  refine so_pure (opv_cmp (by rfl) (by rfl) (by rfl)) (by rfl) rfl ?_
  refine so_pure (opv_move (by rfl)) (by rfl) rfl ?_
  refine sk_split (x := 19) (by rfl) (fun h4 => ?_) (fun h4 => ?_)
  · first | have p4 := of_decide_eq_true h4 | have p4 := of_decide_eq_false h4 | have p4 := ndT h4 | have p4 := ndF h4 | have p4 := nbT h4 | have p4 := nbF h4 | have p4 := h4
    refine so_skip (wtd_not rfl rfl (by rfl) h4) rfl ?_
    refine so_skip (wtd_not rfl rfl (by rfl) h4) rfl ?_
    refine so_skip (wtd_not rfl rfl (by rfl) h4) rfl ?_
    refine so_pure (sv_pick_t (by rfl) h4 (by rfl)) (by rfl) rfl ?_
    refine jo_nil ?_
    refine jk_then ?_
    refine sc_true (by rfl) rfl ?_
    refine jc_seq ?_
    refine sc_region ?_
    refine so_eff (eff_call0 (G := fun u New => u = .bool true ∧ New = []) (by rfl) (by rfl) tx9 (by exact fun w1 hw1 => (live_spec w1).mono (fun _ _ ⟨hv, hst⟩ => ⟨[], ⟨hv, rfl⟩, hst⟩))) (by rfl) rfl ?_
    rintro _ _ ⟨_, ⟨rfl, rfl⟩, rfl⟩
    refine so_pure (opv_assign (by rfl)) (by rfl) rfl ?_
    refine jo_nil ?_
    refine jk_then ?_
    refine jc_ret ?_
    refine jk_then_ret ?_
    refine jk_fn_ret rfl rfl (by rfl) (fun w hw => ?_)
    exact ⟨rfl, hw.forget⟩
  · first | have p4 := of_decide_eq_true h4 | have p4 := of_decide_eq_false h4 | have p4 := ndT h4 | have p4 := ndF h4 | have p4 := nbT h4 | have p4 := nbF h4 | have p4 := h4
    refine so_pure (opv_move (by rfl)) (wtd_run rfl rfl (by rfl) h4) rfl ?_
    refine so_pure (opv_len_slice (by rfl) Try.underlying22) (wtd_run rfl rfl (by rfl) h4) rfl ?_
    refine so_pure (opv_cmp (by rfl) (by rfl) (by rfl)) (wtd_run rfl rfl (by rfl) h4) rfl ?_
    refine so_pure (sv_pick_f (by rfl) h4 (by rfl)) (by rfl) rfl ?_
    refine jo_nil ?_
    refine jk_then ?_
    refine sk_split (x := 23) (by rfl) (fun h7 => ?_) (fun h7 => ?_)
    · first | have p7 := of_decide_eq_true h7 | have p7 := of_decide_eq_false h7 | have p7 := ndT h7 | have p7 := ndF h7 | have p7 := nbT h7 | have p7 := nbF h7 | have p7 := h7
      refine sc_true (by rfl) h7 ?_
      refine jc_seq ?_
      refine sc_region ?_
      refine so_eff (eff_call0 (G := fun u New => u = .bool true ∧ New = []) (by rfl) (by rfl) tx9 (by exact fun w1 hw1 => (live_spec w1).mono (fun _ _ ⟨hv, hst⟩ => ⟨[], ⟨hv, rfl⟩, hst⟩))) (by rfl) rfl ?_
      rintro _ _ ⟨_, ⟨rfl, rfl⟩, rfl⟩
      refine so_pure (opv_assign (by rfl)) (by rfl) rfl ?_
      refine jo_nil ?_
      refine jk_then ?_
      refine jc_ret ?_
      refine jk_then_ret ?_
      refine jk_fn_ret rfl rfl (by rfl) (fun w hw => ?_)
      exact ⟨rfl, hw.forget⟩
    · first | have p7 := of_decide_eq_true h7 | have p7 := of_decide_eq_false h7 | have p7 := ndT h7 | have p7 := ndF h7 | have p7 := nbT h7 | have p7 := nbF h7 | have p7 := h7
      refine sc_false (by rfl) h7 ?_
      refine jc_skip ?_
      refine jk_then ?_
      refine jc_seq ?_
      refine sc_region ?_
      refine so_pure (opv_move (by rfl)) (by rfl) rfl ?_
      refine so_pure (opv_move (by rfl)) (by rfl) rfl ?_
      refine so_eff (eff_call0 (fl := []) (cl := []) (G := fun v New => v = .tuple #[.int .i64 (evenR (loadL lss) xs).1, .int .i64 (evenR (loadL lss) xs).2.1, .bool (evenR (loadL lss) xs).2.2] ∧ New = []) (by rfl) (by rfl) tx15 (by exact fun w1 hw1 => (even_spec w1 A B n m c c2 vs lss xs (hs.keepSt hw1) (hr.mono (Vr.keep hw1)) (by omega) (hx.keepSt hw1) (by omega)).mono (fun _ _ ⟨hv, hst⟩ => ⟨[], ⟨hv, rfl⟩, hst⟩))) (by rfl) rfl ?_
      rintro _ _ ⟨_, ⟨rfl, rfl⟩, rfl⟩
      refine so_pure (opv_move (by rfl)) (by rfl) rfl ?_
      refine so_pure (opv_extract (by rfl) (by rfl)) (by rfl) rfl ?_
      refine so_pure (opv_extract (by rfl) (by rfl)) (by rfl) rfl ?_
      refine so_pure (opv_extract (by rfl) (by rfl)) (by rfl) rfl ?_
      refine so_pure (opv_assign (by rfl)) (by rfl) rfl ?_
      refine so_pure (opv_assign (by rfl)) (by rfl) rfl ?_
      refine so_pure (opv_assign (by rfl)) (by rfl) rfl ?_
      refine jo_nil ?_
      refine jk_then ?_
      refine jc_seq ?_
      refine jc_seq ?_
      refine sc_region ?_
      refine so_pure (opv_move (by rfl)) (by rfl) rfl ?_
      refine so_pure (opv_not (by rfl)) (by rfl) rfl ?_
      refine jo_nil ?_
      refine jk_then ?_
      refine sk_split (x := 33) (by rfl) (fun h12 => ?_) (fun h12 => ?_)
      · first | have p12 := of_decide_eq_true h12 | have p12 := of_decide_eq_false h12 | have p12 := ndT h12 | have p12 := ndF h12 | have p12 := nbT h12 | have p12 := nbF h12 | have p12 := h12
        refine sc_true (by rfl) (not_t (nbT h12)) ?_
        refine jc_seq ?_
        refine sc_region ?_
        refine so_eff (eff_call0 (G := fun u New => u = .bool true ∧ New = []) (by rfl) (by rfl) tx9 (by exact fun w1 hw1 => (live_spec w1).mono (fun _ _ ⟨hv, hst⟩ => ⟨[], ⟨hv, rfl⟩, hst⟩))) (by rfl) rfl ?_
        rintro _ _ ⟨_, ⟨rfl, rfl⟩, rfl⟩
        refine so_pure (opv_assign (by rfl)) (by rfl) rfl ?_
        refine jo_nil ?_
        refine jk_then ?_
        refine jc_ret ?_
        refine jk_then_ret ?_
        refine jk_fn_ret rfl rfl (by rfl) (fun w hw => ?_)
        exact ⟨rfl, hw.forget⟩
      · first | have p12 := of_decide_eq_true h12 | have p12 := of_decide_eq_false h12 | have p12 := ndT h12 | have p12 := ndF h12 | have p12 := nbT h12 | have p12 := nbF h12 | have p12 := h12
        refine sc_false (by rfl) (not_f (nbF h12)) ?_
        refine jc_skip ?_
        refine jk_then ?_
        refine jc_seq ?_
        obtain ⟨mo, le, hev1, hev2, hmo, hle, hun⟩ := uneven_get p12
        rw [hev1, hev2]
        refine sc_region ?_
        refine so_pure (opv_move (by rfl)) (by rfl) rfl ?_
        refine so_eff (eff_call0 (fl := []) (cl := []) (G := fun v New => ∃ lb N, v = .slice (some ⟨lb, 0, none⟩) 12 12 ∧ (N ≤ 8796093022208000 ∧ Bd (loadL lss) N) ∧ New = [own (.slice (some ⟨lb, 0, none⟩) 12 12) 3 1 12 ((loadL lss).flatMap ic)]) (by rfl) (by rfl) tx17 (by exact fun w1 hw1 => (load_spec w1 A n c vs lss (hs.keepSt hw1) (hr.mono (Vr.keep hw1)) (by omega)).mono (fun _ _ ⟨lb, N, hv, h1, h2, hst⟩ => ⟨_, ⟨lb, N, hv, ⟨h1, h2⟩, rfl⟩, hst⟩))) (by rfl) rfl ?_
        rintro _ _ ⟨_, ⟨lb1, N1, rfl, ⟨hN1, hb1⟩, rfl⟩, rfl⟩
        refine so_pure (opv_assign (by rfl)) (by rfl) rfl ?_
        refine jo_nil ?_
        refine jk_then ?_
        refine jc_seq ?_
        refine jc_seq ?_
        refine sc_region ?_
        refine so_pure (opv_move (by rfl)) (by rfl) rfl ?_
        refine so_pure (opv_len_slice (by rfl) Try.underlying22) (by rfl) rfl ?_
        refine so_pure (opv_cmp (b := false) (by rfl) (by rfl) (by rfl)) (by rfl) rfl ?_
        refine so_pure (opv_move (by rfl)) (by rfl) rfl ?_
        refine so_pure (opv_move (by rfl)) (wtd_run rfl rfl (by rfl) rfl) rfl ?_
        refine so_pure (opv_cmp (b := false) (by rfl) (by rfl) (by exact congrArg some (decide_eq_false (by omega)))) (wtd_run rfl rfl (by rfl) rfl) rfl ?_
        refine so_pure (sv_pick_f (by rfl) rfl (by rfl)) (by rfl) rfl ?_
        refine so_pure (opv_move (by rfl)) (by rfl) rfl ?_
        refine so_pure (opv_move (by rfl)) (wtd_run rfl rfl (by rfl) rfl) rfl ?_
        refine so_pure (opv_cmp (b := false) (by rfl) (by rfl) (by exact congrArg some (decide_eq_false (by omega)))) (wtd_run rfl rfl (by rfl) rfl) rfl ?_
        refine so_pure (sv_pick_f (by rfl) rfl (by rfl)) (by rfl) rfl ?_
        refine so_pure (opv_move (by rfl)) (by rfl) rfl ?_
        refine so_pure (opv_move (by rfl)) (wtd_run rfl rfl (by rfl) rfl) rfl ?_
        refine so_pure (opv_cmp (b := false) (by rfl) (by rfl) (by exact congrArg some (decide_eq_false (by omega)))) (wtd_run rfl rfl (by rfl) rfl) rfl ?_
        refine so_pure (sv_pick_f (by rfl) rfl (by rfl)) (by rfl) rfl ?_
        refine so_pure (opv_move (by rfl)) (by rfl) rfl ?_
        refine so_pure (opv_move (by rfl)) (wtd_run rfl rfl (by rfl) rfl) rfl ?_
        refine so_pure (opv_cmp (b := false) (by rfl) (by rfl) (by exact congrArg some (decide_eq_false (by omega)))) (wtd_run rfl rfl (by rfl) rfl) rfl ?_
        refine so_pure (sv_pick_f (by rfl) rfl (by rfl)) (by rfl) rfl ?_
        refine jo_nil ?_
        refine jk_then ?_
        refine sc_false (by rfl) rfl ?_
        refine jc_skip ?_
        refine jk_then ?_
        refine jc_seq ?_
        refine sc_region ?_
        refine so_pure (opv_assign (by rfl)) (by rfl) rfl ?_
        refine jo_nil ?_
        refine jk_then ?_
        refine jc_seq ?_
        refine sc_region ?_
        refine so_pure (opv_assign (by rfl)) (by rfl) rfl ?_
        refine jo_nil ?_
        refine jk_then ?_
        refine jc_seq ?_
        refine jc_seq ?_
        refine sc_region ?_
        refine so_pure (opv_assign (by rfl)) (by rfl) rfl ?_
        refine jo_nil ?_
        refine jk_then ?_
        refine jc_block ?_
        refine jc_loop (σ := Nat × Value × List (Nat × Obj) × List Vol × Bool) (fun (k, nv, fs, ws, mv) => [(0, .slice A n c), (5, .int .i64 (mo : Int)), (6, .int .i64 (le : Int)), (8, .slice (some ⟨lb1, 0, none⟩) 12 12), (9, nv), (10, .bool mv), (11, .int .i64 k)]) (fun (k, nv, fs, ws, mv) => [own (.slice (some ⟨lb1, 0, none⟩) 12 12) 3 1 12 ((loadL lss).flatMap ic), own nv 36 4 ws.length (ws.flatMap Vol.cells), bunch fs]) (fun (k, nv, fs, ws, mv) => (k ≤ n) ∧ (ws.length = k) ∧ (All2 (Vf w Emp fs) ws (mvTot (mo : Int) (le : Int) (lss.take k)).1) ∧ (mv = (mvTot (mo : Int) (le : Int) (lss.take k)).2)) (fun (k, nv, fs, ws, mv) => n - k) (0, .slice none 0 0, [], [], false) ⟨Nat.zero_le _, rfl, trivial, rfl⟩ ⟨rfl, rfl, rfl, rfl, rfl, rfl, rfl, trivial⟩ (fun w hw => St.sel ((hw.bunch_nil).own_nil 36 4) (by repeat (first | exact Pks.nil _ | exact Pk.here _ | apply Pk.there | apply Pks.cons))) ?_
        rintro ⟨k, nv, fs, ws, mv⟩ ⟨hk, hwl, ha, hmv⟩
        show Jc _ _ [(0, .slice A n c), (5, .int .i64 (mo : Int)), (6, .int .i64 (le : Int)), (8, .slice (some ⟨lb1, 0, none⟩) 12 12), (9, nv), (10, .bool mv), (11, .int .i64 k)] [own (.slice (some ⟨lb1, 0, none⟩) 12 12) 3 1 12 ((loadL lss).flatMap ic), own nv 36 4 ws.length (ws.flatMap Vol.cells), bunch fs] _
        refine jc_seq ?_
        refine jc_seq ?_
        refine sc_region ?_
        refine so_pure (opv_move (by rfl)) (by rfl) rfl ?_
        refine so_pure (opv_move (by rfl)) (by rfl) rfl ?_
        refine so_pure (opv_len_slice (by rfl) Try.underlying33) (by rfl) rfl ?_
        refine so_pure (opv_cmp (by rfl) (by rfl) (by rfl)) (by rfl) rfl ?_
        refine jo_nil ?_
        refine jk_then ?_
        refine sk_split (x := 59) (by rfl) (fun h20 => ?_) (fun h20 => ?_)
        · first | have p20 := of_decide_eq_true h20 | have p20 := of_decide_eq_false h20 | have p20 := ndT h20 | have p20 := ndF h20 | have p20 := nbT h20 | have p20 := nbF h20 | have p20 := h20
          refine sc_true (by rfl) h20 ?_
          refine jc_skip ?_
          refine jk_then ?_
          refine jc_seq ?_
          refine jc_block ?_
          refine jc_seq ?_
          refine jc_seq ?_
          have hlt : k < n := by omega
          obtain ⟨_, _, _, _, x, _, _, hxx, _⟩ := hs.get hlt
          obtain ⟨ls, hls, hv⟩ := hr.get hxx
          refine sc_region ?_
          refine so_pure (opv_move (by rfl)) (by rfl) rfl ?_
          refine so_pure (opv_move (by rfl)) (by rfl) rfl ?_
          refine so_pure (opv_indexAddr_slr (i := k) (by rfl) hs (by rfl) Try.underlying33 ti36 rfl hlt) (by rfl) rfl ?_
          refine so_pure (opv_fieldAddr (by rfl) fld36_3) (by rfl) rfl ?_
          refine so_pure (opv_load_slr (enc := Vol.cells) (u := x) (fo := 3) (v := .slice x.lA x.ln x.lc) (by rfl) na34 rfl hs hxx rfl) (by rfl) rfl ?_
          refine so_pure (opv_len_slice (by rfl) Try.underlying34) (by rfl) rfl ?_
          refine so_pure (opv_cmp (by rfl) (by rfl) (by rfl)) (by rfl) rfl ?_
          refine jo_nil ?_
          refine jk_then ?_
          refine sk_split (x := 68) (by rfl) (fun h26 => ?_) (fun h26 => ?_)
          · first | have p26 := of_decide_eq_true h26 | have p26 := of_decide_eq_false h26 | have p26 := ndT h26 | have p26 := ndF h26 | have p26 := nbT h26 | have p26 := nbF h26 | have p26 := h26
            refine sc_true (by rfl) h26 ?_
            refine jc_seq ?_
            refine sc_region ?_
            refine so_eff (eff_call0 (G := fun u New => u = .bool true ∧ New = []) (by rfl) (by rfl) tx9 (by exact fun w1 hw1 => (live_spec w1).mono (fun _ _ ⟨hv, hst⟩ => ⟨[], ⟨hv, rfl⟩, hst⟩))) (by rfl) rfl ?_
            rintro _ _ ⟨_, ⟨rfl, rfl⟩, rfl⟩
            refine so_pure (opv_assign (by rfl)) (by rfl) rfl ?_
            refine jo_nil ?_
            refine jk_then ?_
            refine jc_ret ?_
            refine jk_then_ret ?_
            refine jk_block_ret ?_
            refine jk_then_ret ?_
            refine jk_then_ret ?_
            refine jk_block_ret ?_
            refine jk_then_ret ?_
            refine jk_fn_ret rfl rfl (by rfl) (fun w hw => ?_)
            exact ⟨rfl, hw.forget⟩
          · first | have p26 := of_decide_eq_true h26 | have p26 := of_decide_eq_false h26 | have p26 := ndT h26 | have p26 := ndF h26 | have p26 := nbT h26 | have p26 := nbF h26 | have p26 := h26
            refine sc_false (by rfl) h26 ?_
            refine jc_skip ?_
            refine jk_then ?_
            refine jc_seq ?_
            refine sc_region ?_
            refine so_pure (opv_move (by rfl)) (by rfl) rfl ?_
            refine so_pure (opv_move (by rfl)) (by rfl) rfl ?_
            refine so_pure (opv_indexAddr_slr (i := k) (by rfl) hs (by rfl) Try.underlying33 ti36 rfl hlt) (by rfl) rfl ?_
            refine so_pure (opv_load_agg_slr (u := x) Vol.cells_len (by rfl) ag36 ti36 rfl hs hxx) (by rfl) rfl ?_
            refine so_eff (eff_alloc ti36 rfl) (by rfl) rfl ?_
            rintro _ _ ⟨b12, rfl, rfl⟩
            refine so_eff0 (eff_store_all (vs := x.cells) (by rfl) (by rfl) (by rfl) ti36 (by rfl) (by repeat (first | exact Pk.here _ | apply Pk.there)) (by rfl) (by rfl)) (by rfl) ?_
            rintro _ _ ⟨rfl, rfl⟩
            refine jo_nil ?_
            refine jk_then ?_
            refine jc_seq ?_
            refine sc_region ?_
            refine so_pure (opv_fieldAddr (by rfl) fld36_3) (by rfl) rfl ?_
            refine so_eff0 (eff_store (by rfl) (by rfl) (by rfl) ti34 (by rfl) (by repeat (first | exact Pk.here _ | apply Pk.there)) (by first | exact Nat.le_refl _ | (simp; done) | omega | (simp; omega)) (by rfl)) (by rfl) ?_
            rintro _ _ ⟨rfl, rfl⟩
            refine jo_nil ?_
            refine jk_then ?_
            refine jc_seq ?_
            refine jc_seq ?_
            refine sc_region ?_
            refine so_pure (opv_assign (by rfl)) (by rfl) rfl ?_
            refine jo_nil ?_
            refine jk_then ?_
            refine jc_block ?_
            refine jk_own_nil 45 2 ?_
            refine jc_loop (σ := Nat × Value × Bool) (fun (j, sv, m2) => [(0, .slice A n c), (5, .int .i64 (mo : Int)), (6, .int .i64 (le : Int)), (8, .slice (some ⟨lb1, 0, none⟩) 12 12), (9, nv), (10, .bool m2), (11, .int .i64 k), (12, .pointer (some ⟨b12, 0, none⟩)), (13, .int .i64 j)]) (fun (j, sv, m2) => [blk b12 (.cells #[.int .i64 x.id, .int .i64 x.gen, .int .i64 x.size, sv] 36 (0, 0)), own sv 45 2 (mvLs (mo : Int) (le : Int) (mvTot (mo : Int) (le : Int) (lss.take k)).2 (ls.take j)).1.length ((mvLs (mo : Int) (le : Int) (mvTot (mo : Int) (le : Int) (lss.take k)).2 (ls.take j)).1.flatMap Loc.cells), own (.slice (some ⟨lb1, 0, none⟩) 12 12) 3 1 12 ((loadL lss).flatMap ic), own nv 36 4 ws.length (ws.flatMap Vol.cells), bunch fs]) (fun (j, sv, m2) => (j ≤ x.ln) ∧ (m2 = (mvLs (mo : Int) (le : Int) (mvTot (mo : Int) (le : Int) (lss.take k)).2 (ls.take j)).2) ∧ ((mvLs (mo : Int) (le : Int) (mvTot (mo : Int) (le : Int) (lss.take k)).2 (ls.take j)).1.length = j)) (fun (j, sv, m2) => x.ln - j) (0, .slice none 0 0, mv) ⟨Nat.zero_le _, hmv, rfl⟩ ⟨rfl, rfl, rfl, rfl, rfl, rfl, rfl, rfl, rfl, trivial⟩ (fun w hw => St.sel hw (by repeat (first | exact Pks.nil _ | exact Pk.here _ | apply Pk.there | apply Pks.cons))) ?_
            rintro ⟨j, sv, m2⟩ ⟨hj, hm2, hcl⟩
            show Jc _ _ [(0, .slice A n c), (5, .int .i64 (mo : Int)), (6, .int .i64 (le : Int)), (8, .slice (some ⟨lb1, 0, none⟩) 12 12), (9, nv), (10, .bool m2), (11, .int .i64 k), (12, .pointer (some ⟨b12, 0, none⟩)), (13, .int .i64 j)] [blk b12 (.cells #[.int .i64 x.id, .int .i64 x.gen, .int .i64 x.size, sv] 36 (0, 0)), own sv 45 2 (mvLs (mo : Int) (le : Int) (mvTot (mo : Int) (le : Int) (lss.take k)).2 (ls.take j)).1.length ((mvLs (mo : Int) (le : Int) (mvTot (mo : Int) (le : Int) (lss.take k)).2 (ls.take j)).1.flatMap Loc.cells), own (.slice (some ⟨lb1, 0, none⟩) 12 12) 3 1 12 ((loadL lss).flatMap ic), own nv 36 4 ws.length (ws.flatMap Vol.cells), bunch fs] _
            refine jc_seq ?_
            refine jc_seq ?_
            refine sc_region ?_
            refine so_pure (opv_move (by rfl)) (by rfl) rfl ?_
            refine so_pure (opv_move (by rfl)) (by rfl) rfl ?_
            refine so_pure (opv_move (by rfl)) (by rfl) rfl ?_
            refine so_pure (opv_indexAddr_slr (i := k) (by rfl) hs (by rfl) Try.underlying33 ti36 rfl hlt) (by rfl) rfl ?_
            refine so_pure (opv_fieldAddr (by rfl) fld36_3) (by rfl) rfl ?_
            refine so_pure (opv_load_slr (enc := Vol.cells) (u := x) (fo := 3) (v := .slice x.lA x.ln x.lc) (by rfl) na34 rfl hs hxx rfl) (by rfl) rfl ?_
            refine so_pure (opv_len_slice (by rfl) Try.underlying34) (by rfl) rfl ?_
            refine so_pure (opv_cmp (by rfl) (by rfl) (by rfl)) (by rfl) rfl ?_
            refine jo_nil ?_
            refine jk_then ?_
            refine sk_split (x := 82) (by rfl) (fun h40 => ?_) (fun h40 => ?_)
            · first | have p40 := of_decide_eq_true h40 | have p40 := of_decide_eq_false h40 | have p40 := ndT h40 | have p40 := ndF h40 | have p40 := nbT h40 | have p40 := nbF h40 | have p40 := h40
              refine sc_true (by rfl) h40 ?_
              refine jc_skip ?_
              refine jk_then ?_
              refine jc_seq ?_
              refine jc_block ?_
              refine jc_seq ?_
              have hltj : j < x.ln := by omega
              obtain ⟨_, _, _, _, y, _, _, hy, _⟩ := hv.1.get hltj
              refine sc_region ?_
              refine so_pure (opv_move (by rfl)) (by rfl) rfl ?_
              refine so_pure (opv_move (by rfl)) (by rfl) rfl ?_
              refine so_pure (opv_indexAddr_slr (i := k) (by rfl) hs (by rfl) Try.underlying33 ti36 rfl hlt) (by rfl) rfl ?_
              refine so_pure (opv_fieldAddr (by rfl) fld36_3) (by rfl) rfl ?_
              refine so_pure (opv_load_slr (enc := Vol.cells) (u := x) (fo := 3) (v := .slice x.lA x.ln x.lc) (by rfl) na34 rfl hs hxx rfl) (by rfl) rfl ?_
              refine so_pure (opv_move (by rfl)) (by rfl) rfl ?_
              refine so_pure (opv_indexAddr_slr (i := j) (by rfl) hv.1 (by rfl) Try.underlying34 ti45 rfl hltj) (by rfl) rfl ?_
              refine so_pure (opv_load_agg_slr (u := y) Loc.cells_len (by rfl) ag45 ti45 rfl hv.1 hy) (by rfl) rfl ?_
              refine so_eff (eff_alloc ti45 rfl) (by rfl) rfl ?_
              rintro _ _ ⟨b14, rfl, rfl⟩
              refine so_eff0 (eff_store_all (vs := y.cells) (by rfl) (by rfl) (by rfl) ti45 (by rfl) (by repeat (first | exact Pk.here _ | apply Pk.there)) (by rfl) (by rfl)) (by rfl) ?_
              rintro _ _ ⟨rfl, rfl⟩
              refine jo_nil ?_
              refine jk_then ?_
              refine jc_seq ?_
              refine jc_seq ?_
              refine sc_region ?_
              refine so_pure (opv_move (by rfl)) (by rfl) rfl ?_
              refine so_pure (opv_not (by rfl)) (by rfl) rfl ?_
              refine so_pure (opv_move (by rfl)) (by rfl) rfl ?_
              refine sk_split (x := 95) (by rfl) (fun h49 => ?_) (fun h49 => ?_)
              · first | have p49 := of_decide_eq_true h49 | have p49 := of_decide_eq_false h49 | have p49 := ndT h49 | have p49 := ndF h49 | have p49 := nbT h49 | have p49 := nbF h49 | have p49 := h49
                refine so_pure (opv_fieldAddr (by rfl) fld45_0) (wtd_run rfl rfl (by rfl) (not_t (nbT h49))) rfl ?_
                refine so_pure (opv_load (by rfl) na3 (rd_pk (by repeat (first | exact Pk.here _ | apply Pk.there))) (by rfl)) (wtd_run rfl rfl (by rfl) (not_t (nbT h49))) rfl ?_
                refine so_pure (opv_move (by rfl)) (wtd_run rfl rfl (by rfl) (not_t (nbT h49))) rfl ?_
                refine so_pure (opv_cmp (by rfl) (by rfl) (by rfl)) (wtd_run rfl rfl (by rfl) (not_t (nbT h49))) rfl ?_
                refine so_pure (sv_pick_t (by rfl) (not_t (nbT h49)) (by rfl)) (by rfl) rfl ?_
                refine jo_nil ?_
                refine jk_then ?_
                refine sk_split (x := 100) (by rfl) (fun h52 => ?_) (fun h52 => ?_)
                · first | have p52 := of_decide_eq_true h52 | have p52 := of_decide_eq_false h52 | have p52 := ndT h52 | have p52 := ndF h52 | have p52 := nbT h52 | have p52 := nbF h52 | have p52 := h52
                  refine sc_true (by rfl) h52 ?_
                  refine jc_seq ?_
                  refine sc_region ?_
                  refine so_pure (opv_move (by rfl)) (by rfl) rfl ?_
                  refine so_pure (opv_fieldAddr (by rfl) fld45_0) (by rfl) rfl ?_
                  refine so_eff0 (eff_store (vs := [.int .i64 (le : Int)]) (by rfl) (by rfl) (by rfl) ti3 (by rfl) (by repeat (first | exact Pk.here _ | apply Pk.there)) (by exact Nat.le_of_ble_eq_true rfl) (by rfl)) (by rfl) ?_
                  rintro _ _ ⟨rfl, rfl⟩
                  refine jo_nil ?_
                  refine jk_then ?_
                  refine sc_region ?_
                  refine so_pure (opv_assign (by rfl)) (by rfl) rfl ?_
                  refine jo_nil ?_
                  refine jk_then ?_
                  refine sc_region ?_
                  refine so_pure (opv_fieldAddr (by rfl) fld36_3) (by rfl) rfl ?_
                  refine so_pure (opv_load (by rfl) na34 (rd_pk (by repeat (first | exact Pk.here _ | apply Pk.there))) (by rfl)) (by rfl) rfl ?_
                  refine so_pure (opv_load_agg (vs := [.int .i64 (le : Int), .int .i64 y.slot]) (by rfl) ag45 ti45 (rd_pk (by repeat (first | exact Pk.here _ | apply Pk.there))) (by exact ⟨rfl, rfl, trivial⟩) rfl) (by rfl) rfl ?_
                  refine so_eff (eff_buildSlice (by rfl) (fun w => by exact bsl34_1_0 ..)) (by rfl) rfl ?_
                  rintro _ _ ⟨b106, rfl, rfl⟩
                  refine so_eff (eff_append_lit (by rfl) (by rfl) Try.underlying34 ti45 (by rfl) (by omega) (by repeat (first | exact Pk.here _ | apply Pk.there)) (rd_pk (by repeat (first | exact Pk.here _ | apply Pk.there))) (by rfl) (by rfl) (by rw [hcl]; unfold maxLen; omega) (by rw [hcl]; omega)) (by rfl) rfl ?_
                  rintro nv2 _ ⟨rfl, _⟩
                  refine jo_sv (v := nv2) (by repeat (first | exact Pk.here _ | apply Pk.there)) (fun hsv2 => ?_)
                  obtain ⟨A2, c2', rfl, _⟩ := hsv2
                  refine so_pure (opv_fieldAddr (by rfl) fld36_3) (by rfl) rfl ?_
                  refine so_eff0 (eff_store (vs := [.slice A2 ((mvLs (mo : Int) (le : Int) (mvTot (mo : Int) (le : Int) (lss.take k)).2 (ls.take j)).1.length + 1) c2']) (by rfl) (by rfl) (by rfl) ti34 (by rfl) (by repeat (first | exact Pk.here _ | apply Pk.there)) (by exact Nat.le_of_ble_eq_true rfl) (by rfl)) (by rfl) ?_
                  rintro _ _ ⟨rfl, rfl⟩
                  refine jo_nil ?_
                  refine jk_block ?_
                  refine jk_then ?_
                  refine sc_region ?_
                  refine so_pure (opv_move (by rfl)) (by rfl) rfl ?_
                  refine so_pure (opv_add (by rfl) (by rfl) (wrap64_ok (by omega))) (by rfl) rfl ?_
                  refine so_pure (opv_assign (by rfl)) (by rfl) rfl ?_
                  refine jo_nil ?_
                  have hf : (mvLs (mo : Int) (le : Int) (mvTot (mo : Int) (le : Int) (lss.take k)).2 (ls.take j)).2 = false := by rw [← hm2]; exact p49
                  have hnew : (mvLs (mo : Int) (le : Int) (mvTot (mo : Int) (le : Int) (lss.take k)).2 (ls.take (j + 1))) = ((mvLs (mo : Int) (le : Int) (mvTot (mo : Int) (le : Int) (lss.take k)).2 (ls.take j)).1 ++ [(⟨(le : Int), y.slot⟩ : Loc)], true) := by rw [mvLs_snoc hy]; exact mvStep_pos hf p52
                  have hz : own (.slice A2 ((mvLs (mo : Int) (le : Int) (mvTot (mo : Int) (le : Int) (lss.take k)).2 (ls.take j)).1.length + 1) c2') 45 2 ((mvLs (mo : Int) (le : Int) (mvTot (mo : Int) (le : Int) (lss.take k)).2 (ls.take j)).1.length + 1) ((mvLs (mo : Int) (le : Int) (mvTot (mo : Int) (le : Int) (lss.take k)).2 (ls.take j)).1.flatMap Loc.cells ++ [.int .i64 (le : Int), .int .i64 y.slot]) = own (.slice A2 ((mvLs (mo : Int) (le : Int) (mvTot (mo : Int) (le : Int) (lss.take k)).2 (ls.take j)).1.length + 1) c2') 45 2 (mvLs (mo : Int) (le : Int) (mvTot (mo : Int) (le : Int) (lss.take k)).2 (ls.take (j + 1))).1.length ((mvLs (mo : Int) (le : Int) (mvTot (mo : Int) (le : Int) (lss.take k)).2 (ls.take (j + 1))).1.flatMap Loc.cells) := by
                    rw [hnew]
                    show _ = own (.slice A2 ((mvLs (mo : Int) (le : Int) (mvTot (mo : Int) (le : Int) (lss.take k)).2 (ls.take j)).1.length + 1) c2') 45 2 ((mvLs (mo : Int) (le : Int) (mvTot (mo : Int) (le : Int) (lss.take k)).2 (ls.take j)).1 ++ [(⟨(le : Int), y.slot⟩ : Loc)]).length (((mvLs (mo : Int) (le : Int) (mvTot (mo : Int) (le : Int) (lss.take k)).2 (ls.take j)).1 ++ [(⟨(le : Int), y.slot⟩ : Loc)]).flatMap Loc.cells)
                    rw [List.length_append, List.flatMap_append]; rfl
                  refine jk_round (j + 1, .slice A2 ((mvLs (mo : Int) (le : Int) (mvTot (mo : Int) (le : Int) (lss.take k)).2 (ls.take j)).1.length + 1) c2', true) ⟨by omega, by rw [hnew], by rw [hnew]; show (_ ++ [_]).length = _; rw [List.length_append, hcl]; rfl⟩ (by show x.ln - (j + 1) < x.ln - j; omega) ⟨rfl, rfl, rfl, rfl, rfl, rfl, rfl, rfl, rfl, trivial⟩ (fun w hw => ?_)
                  show St _ _ [blk b12 (.cells #[.int .i64 x.id, .int .i64 x.gen, .int .i64 x.size, (.slice A2 ((mvLs (mo : Int) (le : Int) (mvTot (mo : Int) (le : Int) (lss.take k)).2 (ls.take j)).1.length + 1) c2')] 36 (0, 0)), own (.slice A2 ((mvLs (mo : Int) (le : Int) (mvTot (mo : Int) (le : Int) (lss.take k)).2 (ls.take j)).1.length + 1) c2') 45 2 (mvLs (mo : Int) (le : Int) (mvTot (mo : Int) (le : Int) (lss.take k)).2 (ls.take (j + 1))).1.length ((mvLs (mo : Int) (le : Int) (mvTot (mo : Int) (le : Int) (lss.take k)).2 (ls.take (j + 1))).1.flatMap Loc.cells), own (.slice (some ⟨lb1, 0, none⟩) 12 12) 3 1 12 ((loadL lss).flatMap ic), own nv 36 4 ws.length (ws.flatMap Vol.cells), bunch fs] _
                  rw [← hz]
                  exact St.sel hw (by repeat (first | exact Pks.nil _ | exact Pk.here _ | apply Pk.there | apply Pks.cons))
                · first | have p52 := of_decide_eq_true h52 | have p52 := of_decide_eq_false h52 | have p52 := ndT h52 | have p52 := ndF h52 | have p52 := nbT h52 | have p52 := nbF h52 | have p52 := h52
                  refine sc_false (by rfl) h52 ?_
                  refine jc_skip ?_
                  refine jk_then ?_
                  refine sc_region ?_
                  refine so_pure (opv_fieldAddr (by rfl) fld36_3) (by rfl) rfl ?_
                  refine so_pure (opv_load (by rfl) na34 (rd_pk (by repeat (first | exact Pk.here _ | apply Pk.there))) (by rfl)) (by rfl) rfl ?_
                  refine so_pure (opv_load_agg (vs := [.int .i64 y.disk, .int .i64 y.slot]) (by rfl) ag45 ti45 (rd_pk (by repeat (first | exact Pk.here _ | apply Pk.there))) (by exact ⟨rfl, rfl, trivial⟩) rfl) (by rfl) rfl ?_
                  refine so_eff (eff_buildSlice (by rfl) (fun w => by exact bsl34_1_0 ..)) (by rfl) rfl ?_
                  rintro _ _ ⟨b106, rfl, rfl⟩
                  refine so_eff (eff_append_lit (by rfl) (by rfl) Try.underlying34 ti45 (by rfl) (by omega) (by repeat (first | exact Pk.here _ | apply Pk.there)) (rd_pk (by repeat (first | exact Pk.here _ | apply Pk.there))) (by rfl) (by rfl) (by rw [hcl]; unfold maxLen; omega) (by rw [hcl]; omega)) (by rfl) rfl ?_
                  rintro nv2 _ ⟨rfl, _⟩
                  refine jo_sv (v := nv2) (by repeat (first | exact Pk.here _ | apply Pk.there)) (fun hsv2 => ?_)
                  obtain ⟨A2, c2', rfl, _⟩ := hsv2
                  refine so_pure (opv_fieldAddr (by rfl) fld36_3) (by rfl) rfl ?_
                  refine so_eff0 (eff_store (vs := [.slice A2 ((mvLs (mo : Int) (le : Int) (mvTot (mo : Int) (le : Int) (lss.take k)).2 (ls.take j)).1.length + 1) c2']) (by rfl) (by rfl) (by rfl) ti34 (by rfl) (by repeat (first | exact Pk.here _ | apply Pk.there)) (by exact Nat.le_of_ble_eq_true rfl) (by rfl)) (by rfl) ?_
                  rintro _ _ ⟨rfl, rfl⟩
                  refine jo_nil ?_
                  refine jk_block ?_
                  refine jk_then ?_
                  refine sc_region ?_
                  refine so_pure (opv_move (by rfl)) (by rfl) rfl ?_
                  refine so_pure (opv_add (by rfl) (by rfl) (wrap64_ok (by omega))) (by rfl) rfl ?_
                  refine so_pure (opv_assign (by rfl)) (by rfl) rfl ?_
                  refine jo_nil ?_
                  have hnew : (mvLs (mo : Int) (le : Int) (mvTot (mo : Int) (le : Int) (lss.take k)).2 (ls.take (j + 1))) = ((mvLs (mo : Int) (le : Int) (mvTot (mo : Int) (le : Int) (lss.take k)).2 (ls.take j)).1 ++ [y], (mvLs (mo : Int) (le : Int) (mvTot (mo : Int) (le : Int) (lss.take k)).2 (ls.take j)).2) := by rw [mvLs_snoc hy]; exact mvStep_neg (fun h => p52 h.2)
                  have hz : own (.slice A2 ((mvLs (mo : Int) (le : Int) (mvTot (mo : Int) (le : Int) (lss.take k)).2 (ls.take j)).1.length + 1) c2') 45 2 ((mvLs (mo : Int) (le : Int) (mvTot (mo : Int) (le : Int) (lss.take k)).2 (ls.take j)).1.length + 1) ((mvLs (mo : Int) (le : Int) (mvTot (mo : Int) (le : Int) (lss.take k)).2 (ls.take j)).1.flatMap Loc.cells ++ [.int .i64 y.disk, .int .i64 y.slot]) = own (.slice A2 ((mvLs (mo : Int) (le : Int) (mvTot (mo : Int) (le : Int) (lss.take k)).2 (ls.take j)).1.length + 1) c2') 45 2 (mvLs (mo : Int) (le : Int) (mvTot (mo : Int) (le : Int) (lss.take k)).2 (ls.take (j + 1))).1.length ((mvLs (mo : Int) (le : Int) (mvTot (mo : Int) (le : Int) (lss.take k)).2 (ls.take (j + 1))).1.flatMap Loc.cells) := by
                    rw [hnew]
                    show _ = own (.slice A2 ((mvLs (mo : Int) (le : Int) (mvTot (mo : Int) (le : Int) (lss.take k)).2 (ls.take j)).1.length + 1) c2') 45 2 ((mvLs (mo : Int) (le : Int) (mvTot (mo : Int) (le : Int) (lss.take k)).2 (ls.take j)).1 ++ [y]).length (((mvLs (mo : Int) (le : Int) (mvTot (mo : Int) (le : Int) (lss.take k)).2 (ls.take j)).1 ++ [y]).flatMap Loc.cells)
                    rw [List.length_append, List.flatMap_append]; rfl
                  refine jk_round (j + 1, .slice A2 ((mvLs (mo : Int) (le : Int) (mvTot (mo : Int) (le : Int) (lss.take k)).2 (ls.take j)).1.length + 1) c2', m2) ⟨by omega, by rw [hnew]; exact hm2, by rw [hnew]; show (_ ++ [_]).length = _; rw [List.length_append, hcl]; rfl⟩ (by show x.ln - (j + 1) < x.ln - j; omega) ⟨rfl, rfl, rfl, rfl, rfl, rfl, rfl, rfl, rfl, trivial⟩ (fun w hw => ?_)
                  show St _ _ [blk b12 (.cells #[.int .i64 x.id, .int .i64 x.gen, .int .i64 x.size, (.slice A2 ((mvLs (mo : Int) (le : Int) (mvTot (mo : Int) (le : Int) (lss.take k)).2 (ls.take j)).1.length + 1) c2')] 36 (0, 0)), own (.slice A2 ((mvLs (mo : Int) (le : Int) (mvTot (mo : Int) (le : Int) (lss.take k)).2 (ls.take j)).1.length + 1) c2') 45 2 (mvLs (mo : Int) (le : Int) (mvTot (mo : Int) (le : Int) (lss.take k)).2 (ls.take (j + 1))).1.length ((mvLs (mo : Int) (le : Int) (mvTot (mo : Int) (le : Int) (lss.take k)).2 (ls.take (j + 1))).1.flatMap Loc.cells), own (.slice (some ⟨lb1, 0, none⟩) 12 12) 3 1 12 ((loadL lss).flatMap ic), own nv 36 4 ws.length (ws.flatMap Vol.cells), bunch fs] _
                  rw [← hz]
                  exact St.sel hw (by repeat (first | exact Pks.nil _ | exact Pk.here _ | apply Pk.there | apply Pks.cons))
              · first | have p49 := of_decide_eq_true h49 | have p49 := of_decide_eq_false h49 | have p49 := ndT h49 | have p49 := ndF h49 | have p49 := nbT h49 | have p49 := nbF h49 | have p49 := h49
                refine so_skip (wtd_not rfl rfl (by rfl) (not_f (nbF h49))) rfl ?_
                refine so_skip (wtd_not rfl rfl (by rfl) (not_f (nbF h49))) rfl ?_
                refine so_skip (wtd_not rfl rfl (by rfl) (not_f (nbF h49))) rfl ?_
                refine so_skip (wtd_not rfl rfl (by rfl) (not_f (nbF h49))) rfl ?_
                refine so_pure (sv_pick_f (by rfl) (not_f (nbF h49)) (by rfl)) (by rfl) rfl ?_
                refine jo_nil ?_
                refine jk_then ?_
                refine sc_false (by rfl) rfl ?_
                refine jc_skip ?_
                refine jk_then ?_
                refine sc_region ?_
                refine so_pure (opv_fieldAddr (by rfl) fld36_3) (by rfl) rfl ?_
                refine so_pure (opv_load (by rfl) na34 (rd_pk (by repeat (first | exact Pk.here _ | apply Pk.there))) (by rfl)) (by rfl) rfl ?_
                refine so_pure (opv_load_agg (vs := [.int .i64 y.disk, .int .i64 y.slot]) (by rfl) ag45 ti45 (rd_pk (by repeat (first | exact Pk.here _ | apply Pk.there))) (by exact ⟨rfl, rfl, trivial⟩) rfl) (by rfl) rfl ?_
                refine so_eff (eff_buildSlice (by rfl) (fun w => by exact bsl34_1_0 ..)) (by rfl) rfl ?_
                rintro _ _ ⟨b106, rfl, rfl⟩
                refine so_eff (eff_append_lit (by rfl) (by rfl) Try.underlying34 ti45 (by rfl) (by omega) (by repeat (first | exact Pk.here _ | apply Pk.there)) (rd_pk (by repeat (first | exact Pk.here _ | apply Pk.there))) (by rfl) (by rfl) (by rw [hcl]; unfold maxLen; omega) (by rw [hcl]; omega)) (by rfl) rfl ?_
                rintro nv2 _ ⟨rfl, _⟩
                refine jo_sv (v := nv2) (by repeat (first | exact Pk.here _ | apply Pk.there)) (fun hsv2 => ?_)
                obtain ⟨A2, c2', rfl, _⟩ := hsv2
                refine so_pure (opv_fieldAddr (by rfl) fld36_3) (by rfl) rfl ?_
                refine so_eff0 (eff_store (vs := [.slice A2 ((mvLs (mo : Int) (le : Int) (mvTot (mo : Int) (le : Int) (lss.take k)).2 (ls.take j)).1.length + 1) c2']) (by rfl) (by rfl) (by rfl) ti34 (by rfl) (by repeat (first | exact Pk.here _ | apply Pk.there)) (by exact Nat.le_of_ble_eq_true rfl) (by rfl)) (by rfl) ?_
                rintro _ _ ⟨rfl, rfl⟩
                refine jo_nil ?_
                refine jk_block ?_
                refine jk_then ?_
                refine sc_region ?_
                refine so_pure (opv_move (by rfl)) (by rfl) rfl ?_
                refine so_pure (opv_add (by rfl) (by rfl) (wrap64_ok (by omega))) (by rfl) rfl ?_
                refine so_pure (opv_assign (by rfl)) (by rfl) rfl ?_
                refine jo_nil ?_
                have hnew : (mvLs (mo : Int) (le : Int) (mvTot (mo : Int) (le : Int) (lss.take k)).2 (ls.take (j + 1))) = ((mvLs (mo : Int) (le : Int) (mvTot (mo : Int) (le : Int) (lss.take k)).2 (ls.take j)).1 ++ [y], (mvLs (mo : Int) (le : Int) (mvTot (mo : Int) (le : Int) (lss.take k)).2 (ls.take j)).2) := by rw [mvLs_snoc hy]; exact mvStep_neg (fun h => by rw [← hm2, p49] at h; exact absurd h.1 (by decide))
                have hz : own (.slice A2 ((mvLs (mo : Int) (le : Int) (mvTot (mo : Int) (le : Int) (lss.take k)).2 (ls.take j)).1.length + 1) c2') 45 2 ((mvLs (mo : Int) (le : Int) (mvTot (mo : Int) (le : Int) (lss.take k)).2 (ls.take j)).1.length + 1) ((mvLs (mo : Int) (le : Int) (mvTot (mo : Int) (le : Int) (lss.take k)).2 (ls.take j)).1.flatMap Loc.cells ++ [.int .i64 y.disk, .int .i64 y.slot]) = own (.slice A2 ((mvLs (mo : Int) (le : Int) (mvTot (mo : Int) (le : Int) (lss.take k)).2 (ls.take j)).1.length + 1) c2') 45 2 (mvLs (mo : Int) (le : Int) (mvTot (mo : Int) (le : Int) (lss.take k)).2 (ls.take (j + 1))).1.length ((mvLs (mo : Int) (le : Int) (mvTot (mo : Int) (le : Int) (lss.take k)).2 (ls.take (j + 1))).1.flatMap Loc.cells) := by
                  rw [hnew]
                  show _ = own (.slice A2 ((mvLs (mo : Int) (le : Int) (mvTot (mo : Int) (le : Int) (lss.take k)).2 (ls.take j)).1.length + 1) c2') 45 2 ((mvLs (mo : Int) (le : Int) (mvTot (mo : Int) (le : Int) (lss.take k)).2 (ls.take j)).1 ++ [y]).length (((mvLs (mo : Int) (le : Int) (mvTot (mo : Int) (le : Int) (lss.take k)).2 (ls.take j)).1 ++ [y]).flatMap Loc.cells)
                  rw [List.length_append, List.flatMap_append]; rfl
                refine jk_round (j + 1, .slice A2 ((mvLs (mo : Int) (le : Int) (mvTot (mo : Int) (le : Int) (lss.take k)).2 (ls.take j)).1.length + 1) c2', m2) ⟨by omega, by rw [hnew]; exact hm2, by rw [hnew]; show (_ ++ [_]).length = _; rw [List.length_append, hcl]; rfl⟩ (by show x.ln - (j + 1) < x.ln - j; omega) ⟨rfl, rfl, rfl, rfl, rfl, rfl, rfl, rfl, rfl, trivial⟩ (fun w hw => ?_)
                show St _ _ [blk b12 (.cells #[.int .i64 x.id, .int .i64 x.gen, .int .i64 x.size, (.slice A2 ((mvLs (mo : Int) (le : Int) (mvTot (mo : Int) (le : Int) (lss.take k)).2 (ls.take j)).1.length + 1) c2')] 36 (0, 0)), own (.slice A2 ((mvLs (mo : Int) (le : Int) (mvTot (mo : Int) (le : Int) (lss.take k)).2 (ls.take j)).1.length + 1) c2') 45 2 (mvLs (mo : Int) (le : Int) (mvTot (mo : Int) (le : Int) (lss.take k)).2 (ls.take (j + 1))).1.length ((mvLs (mo : Int) (le : Int) (mvTot (mo : Int) (le : Int) (lss.take k)).2 (ls.take (j + 1))).1.flatMap Loc.cells), own (.slice (some ⟨lb1, 0, none⟩) 12 12) 3 1 12 ((loadL lss).flatMap ic), own nv 36 4 ws.length (ws.flatMap Vol.cells), bunch fs] _
                rw [← hz]
                exact St.sel hw (by repeat (first | exact Pks.nil _ | exact Pk.here _ | apply Pk.there | apply Pks.cons))
            · first | have p40 := of_decide_eq_true h40 | have p40 := of_decide_eq_false h40 | have p40 := ndT h40 | have p40 := ndF h40 | have p40 := nbT h40 | have p40 := nbF h40 | have p40 := h40
              refine sc_false (by rfl) h40 ?_
              refine jc_exit ?_
              refine jk_then_exit ?_
              refine jk_then_exit ?_
              refine jk_block_exit ?_
              refine jk_then ?_
              have hxl : x.ln = ls.length := hv.1.1
              have ejl : ls.take j = ls := List.take_of_length_le (by omega)
              rw [ejl] at hm2 hcl ⊢
              refine jk_svc (v := sv) (by repeat (first | exact Pk.here _ | apply Pk.there)) (fun A3 c3 hsv _ _ => ?_)
              subst hsv
              refine sc_region ?_
              refine so_pure (opv_move (by rfl)) (by rfl) rfl ?_
              refine so_pure (opv_load_agg (vs := [.int .i64 x.id, .int .i64 x.gen, .int .i64 x.size, .slice A3 (mvLs (mo : Int) (le : Int) (mvTot (mo : Int) (le : Int) (lss.take k)).2 ls).1.length c3]) (by rfl) ag36 ti36 (rd_pk (by repeat (first | exact Pk.here _ | apply Pk.there))) (by exact ⟨rfl, rfl, rfl, rfl, trivial⟩) rfl) (by rfl) rfl ?_
              refine so_eff (eff_buildSlice (by rfl) (fun w => by exact bsl33_1_0 ..)) (by rfl) rfl ?_
              rintro _ _ ⟨b111, rfl, rfl⟩
              refine so_eff (eff_append_lit (by rfl) (by rfl) Try.underlying33 ti36 (by rfl) (by omega) (by repeat (first | exact Pk.here _ | apply Pk.there)) (rd_pk (by repeat (first | exact Pk.here _ | apply Pk.there))) (by rfl) (by rfl) (by unfold maxLen; omega) (by omega)) (by rfl) rfl ?_
              rintro mvv _ ⟨rfl, _⟩
              refine so_pure (opv_assign (by rfl)) (by rfl) rfl ?_
              refine jo_nil ?_
              refine jk_bunch_own (fs := fs) (xs := (mvLs (mo : Int) (le : Int) (mvTot (mo : Int) (le : Int) (lss.take k)).2 ls).1) (A := A3) Loc.cells_len rfl (by repeat (first | exact Pk.here _ | apply Pk.there)) (by repeat (first | exact Pk.here _ | apply Pk.there)) (fun fq hq1 hq2 => ?_)
              refine jk_block ?_
              refine jk_then ?_
              refine sc_region ?_
              refine so_pure (opv_move (by rfl)) (by rfl) rfl ?_
              refine so_pure (opv_add (by rfl) (by rfl) (wrap64_ok (by omega))) (by rfl) rfl ?_
              refine so_pure (opv_assign (by rfl)) (by rfl) rfl ?_
              refine jo_nil ?_
              have hnewT : (mvTot (mo : Int) (le : Int) (lss.take (k + 1))) = ((mvTot (mo : Int) (le : Int) (lss.take k)).1 ++ [(mvLs (mo : Int) (le : Int) (mvTot (mo : Int) (le : Int) (lss.take k)).2 ls).1], (mvLs (mo : Int) (le : Int) (mvTot (mo : Int) (le : Int) (lss.take k)).2 ls).2) := by rw [mvTot_snoc hls]; rfl
              have hz : own mvv 36 4 (ws.length + 1) (ws.flatMap Vol.cells ++ [.int .i64 x.id, .int .i64 x.gen, .int .i64 x.size, .slice A3 (mvLs (mo : Int) (le : Int) (mvTot (mo : Int) (le : Int) (lss.take k)).2 ls).1.length c3]) = own mvv 36 4 (ws ++ [(⟨x.id, x.gen, x.size, A3, (mvLs (mo : Int) (le : Int) (mvTot (mo : Int) (le : Int) (lss.take k)).2 ls).1.length, c3⟩ : Vol)]).length ((ws ++ [(⟨x.id, x.gen, x.size, A3, (mvLs (mo : Int) (le : Int) (mvTot (mo : Int) (le : Int) (lss.take k)).2 ls).1.length, c3⟩ : Vol)]).flatMap Vol.cells) := by rw [List.length_append, List.flatMap_append]; rfl
              refine jk_round (k + 1, mvv, fq, (ws ++ [(⟨x.id, x.gen, x.size, A3, (mvLs (mo : Int) (le : Int) (mvTot (mo : Int) (le : Int) (lss.take k)).2 ls).1.length, c3⟩ : Vol)]), m2) ⟨by omega, by rw [List.length_append, hwl]; rfl, by rw [hnewT]; exact (ha.mono (Vf.more hq1)).append (show All2 (Vf w Emp fq) [(⟨x.id, x.gen, x.size, A3, (mvLs (mo : Int) (le : Int) (mvTot (mo : Int) (le : Int) (lss.take k)).2 ls).1.length, c3⟩ : Vol)] [(mvLs (mo : Int) (le : Int) (mvTot (mo : Int) (le : Int) (lss.take k)).2 ls).1] from ⟨⟨hq2, small_of (by show (mvLs (mo : Int) (le : Int) (mvTot (mo : Int) (le : Int) (lss.take k)).2 ls).1.length ≤ 1000000; omega)⟩, trivial⟩), by rw [hnewT]; exact hm2⟩ (by show n - (k + 1) < n - k; omega) ⟨rfl, rfl, rfl, rfl, rfl, rfl, rfl, trivial⟩ (fun w hw => ?_)
              show St _ _ [own (.slice (some ⟨lb1, 0, none⟩) 12 12) 3 1 12 ((loadL lss).flatMap ic), own (mvv) 36 4 ((ws ++ [(⟨x.id, x.gen, x.size, A3, (mvLs (mo : Int) (le : Int) (mvTot (mo : Int) (le : Int) (lss.take k)).2 ls).1.length, c3⟩ : Vol)])).length (((ws ++ [(⟨x.id, x.gen, x.size, A3, (mvLs (mo : Int) (le : Int) (mvTot (mo : Int) (le : Int) (lss.take k)).2 ls).1.length, c3⟩ : Vol)])).flatMap Vol.cells), bunch (fq)] _
              rw [← hz]
              exact St.sel hw (by repeat (first | exact Pks.nil _ | exact Pk.here _ | apply Pk.there | apply Pks.cons))
        · first | have p20 := of_decide_eq_true h20 | have p20 := of_decide_eq_false h20 | have p20 := ndT h20 | have p20 := ndF h20 | have p20 := nbT h20 | have p20 := nbF h20 | have p20 := h20
          refine sc_false (by rfl) h20 ?_
          refine jc_exit ?_
          refine jk_then_exit ?_
          refine jk_then_exit ?_
          refine jk_block_exit ?_
          refine jk_then ?_
          refine jc_seq ?_
          have ek : lss.take k = lss := List.take_of_length_le (by have := hr.len; have := hs.1; omega)
          rw [ek] at ha hmv
          refine jk_svc (v := nv) (by repeat (first | exact Pk.here _ | apply Pk.there)) (fun LA lc hlv _ _ => ?_)
          subst hlv
          refine sc_region ?_
          refine so_pure (opv_move (by rfl)) (by rfl) rfl ?_
          refine so_eff (eff_call0 (fl := []) (cl := []) (G := fun v New => ∃ lb N, v = .slice (some ⟨lb, 0, none⟩) 12 12 ∧ (N ≤ 8796093022208000 ∧ Bd (loadL (mvTot (mo : Int) (le : Int) lss).1) N) ∧ New = [own (.slice (some ⟨lb, 0, none⟩) 12 12) 3 1 12 ((loadL (mvTot (mo : Int) (le : Int) lss).1).flatMap ic)]) (by rfl) (by rfl) tx17 (by exact fun w1 hw1 => (load_spec w1 LA ws.length lc ws (mvTot (mo : Int) (le : Int) lss).1 (St.slr Vol.cells_len hw1 (by repeat (first | exact Pk.here _ | apply Pk.there)) rfl) (ha.mono (Vf.vr hw1 (by repeat (first | exact Pk.here _ | apply Pk.there)))) (by omega)).mono (fun _ _ ⟨lb, N, hv, h1, h2, hst⟩ => ⟨_, ⟨lb, N, hv, ⟨h1, h2⟩, rfl⟩, hst⟩))) (by rfl) rfl ?_
          rintro _ _ ⟨_, ⟨lb2, N2, rfl, ⟨hN2, hb2⟩, rfl⟩, rfl⟩
          refine so_pure (opv_assign (by rfl)) (by rfl) rfl ?_
          refine jo_nil ?_
          refine jk_then ?_
          refine jc_seq ?_
          have hml := moved_loads hmo hle hun
          obtain rfl : mv = true := by rw [hmv]; exact hml.1
          obtain ⟨x1, hx1, hx10, hx11⟩ := hb1.get hmo
          obtain ⟨y1, hy1, hy10, hy11⟩ := hb1.get hle
          obtain ⟨x2, hx2, hx20, hx21⟩ := hb2.get hmo
          obtain ⟨y2, hy2, hy20, hy21⟩ := hb2.get hle
          rw [at12_get hx1, at12_get hx2, at12_get hy1, at12_get hy2] at hml
          rw [at12_get hx1, at12_get hy1] at hun
          have hm1 := hml.2.1
          have hm2 := hml.2.2
          refine so_draw [] (by kernel_rfl) (by kernel_rfl) (by kernel_rfl) rfl (by rfl) (fun hap htm => ?_)
          refine da_any hap htm (i := 0) (by rfl) (by kernel_rfl) (by rfl) (listed' := #[true, false, false, false, false, false, false, false, false, false, false, false, false, false, false, false, false, false, false, false, false, false, false, false, false, false, false, false, false, false, false, false, false, false, false, false, false, false, false, false, false, false, false, false, false]) (by rfl) (fun _ => (opv_move (by rfl))) (by rfl) rfl ?_
          refine da_any hap htm (i := 1) (by rfl) (by kernel_rfl) (by rfl) (listed' := #[true, true, false, false, false, false, false, false, false, false, false, false, false, false, false, false, false, false, false, false, false, false, false, false, false, false, false, false, false, false, false, false, false, false, false, false, false, false, false, false, false, false, false, false, false]) (by rfl) (fun _ => (opv_move (by rfl))) (by rfl) rfl ?_
          refine da_any hap htm (i := 2) (by rfl) (by kernel_rfl) (by rfl) (listed' := #[true, true, true, false, false, false, false, false, false, false, false, false, false, false, false, false, false, false, false, false, false, false, false, false, false, false, false, false, false, false, false, false, false, false, false, false, false, false, false, false, false, false, false, false, false]) (by rfl) (fun _ => (opv_move (by rfl))) (wtd_run rfl rfl (by rfl) rfl) rfl ?_
          refine da_any hap htm (i := 3) (by rfl) (by kernel_rfl) (by rfl) (listed' := #[true, true, true, true, false, false, false, false, false, false, false, false, false, false, false, false, false, false, false, false, false, false, false, false, false, false, false, false, false, false, false, false, false, false, false, false, false, false, false, false, false, false, false, false, false]) (by rfl) (fun _ => (opv_len_slice (by rfl) Try.underlying22)) (wtd_run rfl rfl (by rfl) rfl) rfl ?_
          refine da_any hap htm (i := 4) (by rfl) (by kernel_rfl) (by rfl) (listed' := #[true, true, true, true, true, false, false, false, false, false, false, false, false, false, false, false, false, false, false, false, false, false, false, false, false, false, false, false, false, false, false, false, false, false, false, false, false, false, false, false, false, false, false, false, false]) (by rfl) (fun _ => (opv_cmp (b := true) (by rfl) (by rfl) (by rfl))) (wtd_run rfl rfl (by rfl) rfl) rfl ?_
          refine da_any hap htm (i := 5) (by rfl) (by kernel_rfl) (by rfl) (listed' := #[true, true, true, true, true, true, false, false, false, false, false, false, false, false, false, false, false, false, false, false, false, false, false, false, false, false, false, false, false, false, false, false, false, false, false, false, false, false, false, false, false, false, false, false, false]) (by rfl) (fun _ => (sv_pick_t (by rfl) rfl (by rfl))) (by rfl) rfl ?_
          refine da_any hap htm (i := 6) (by rfl) (by kernel_rfl) (by rfl) (listed' := #[true, true, true, true, true, true, true, false, false, false, false, false, false, false, false, false, false, false, false, false, false, false, false, false, false, false, false, false, false, false, false, false, false, false, false, false, false, false, false, false, false, false, false, false, false]) (by rfl) (fun _ => (opv_move (by rfl))) (by rfl) rfl ?_
          refine da_any hap htm (i := 7) (by rfl) (by kernel_rfl) (by rfl) (listed' := #[true, true, true, true, true, true, true, true, false, false, false, false, false, false, false, false, false, false, false, false, false, false, false, false, false, false, false, false, false, false, false, false, false, false, false, false, false, false, false, false, false, false, false, false, false]) (by rfl) (fun _ => (opv_move (by rfl))) (wtd_run rfl rfl (by rfl) rfl) rfl ?_
          refine da_any hap htm (i := 8) (by rfl) (by kernel_rfl) (by rfl) (listed' := #[true, true, true, true, true, true, true, true, true, false, false, false, false, false, false, false, false, false, false, false, false, false, false, false, false, false, false, false, false, false, false, false, false, false, false, false, false, false, false, false, false, false, false, false, false]) (by rfl) (fun _ => (opv_move (by rfl))) (wtd_run rfl rfl (by rfl) rfl) rfl ?_
          refine da_any hap htm (i := 9) (by rfl) (by kernel_rfl) (by rfl) (listed' := #[true, true, true, true, true, true, true, true, true, true, false, false, false, false, false, false, false, false, false, false, false, false, false, false, false, false, false, false, false, false, false, false, false, false, false, false, false, false, false, false, false, false, false, false, false]) (by rfl) (fun _ => (opv_indexAddr (i := mo) (by rfl) (by rfl) Try.underlying22 ti3 rfl (by omega))) (wtd_run rfl rfl (by rfl) rfl) rfl ?_
          refine da_now [16, 17, 18, 19, 20, 21, 22, 23, 24, 25, 26, 27, 28, 29, 30, 31, 32, 33, 34, 35, 36, 37, 38, 39, 40, 41, 42, 43, 44] hap htm (i := 10) (by rfl) (by kernel_rfl) (by rfl) (listed' := #[true, true, true, true, true, true, true, true, true, true, true, false, false, false, false, false, false, false, false, false, false, false, false, false, false, false, false, false, false, false, false, false, false, false, false, false, false, false, false, false, false, false, false, false, false]) (by rfl) (by kernel_rfl) (by kernel_rfl) (opv_load_fld (enc := ic) (v := .slice (some ⟨lb2, 0, none⟩) 12 12) (i := mo) (u := x2) (fo := 0) (w := .int .i64 x2) ic_len (by rfl) na3 (by repeat (first | exact Pk.here _ | apply Pk.there)) hx2 rfl) (wtd_run rfl rfl (by rfl) rfl) rfl ?_
          refine da_any hap htm (i := 11) (by rfl) (by kernel_rfl) (by rfl) (listed' := #[true, true, true, true, true, true, true, true, true, true, true, true, false, false, false, false, false, false, false, false, false, false, false, false, false, false, false, false, false, false, false, false, false, false, false, false, false, false, false, false, false, false, false, false, false]) (by rfl) (fun _ => (opv_move (by rfl))) (wtd_run rfl rfl (by rfl) rfl) rfl ?_
          refine da_any hap htm (i := 12) (by rfl) (by kernel_rfl) (by rfl) (listed' := #[true, true, true, true, true, true, true, true, true, true, true, true, true, false, false, false, false, false, false, false, false, false, false, false, false, false, false, false, false, false, false, false, false, false, false, false, false, false, false, false, false, false, false, false, false]) (by rfl) (fun _ => (opv_move (by rfl))) (wtd_run rfl rfl (by rfl) rfl) rfl ?_
          refine da_any hap htm (i := 13) (by rfl) (by kernel_rfl) (by rfl) (listed' := #[true, true, true, true, true, true, true, true, true, true, true, true, true, true, false, false, false, false, false, false, false, false, false, false, false, false, false, false, false, false, false, false, false, false, false, false, false, false, false, false, false, false, false, false, false]) (by rfl) (fun _ => (opv_indexAddr (i := mo) (by rfl) (by rfl) Try.underlying22 ti3 rfl (by omega))) (wtd_run rfl rfl (by rfl) rfl) rfl ?_
          refine da_now [15, 16, 17, 18, 19, 20, 21, 22, 23, 24, 25, 26, 27, 28, 29, 30, 31, 32, 33, 34, 35, 36, 37, 38, 39, 40, 41, 42, 43, 44] hap htm (i := 14) (by rfl) (by kernel_rfl) (by rfl) (listed' := #[true, true, true, true, true, true, true, true, true, true, true, true, true, true, true, false, false, false, false, false, false, false, false, false, false, false, false, false, false, false, false, false, false, false, false, false, false, false, false, false, false, false, false, false, false]) (by rfl) (by kernel_rfl) (by kernel_rfl) (opv_load_fld (enc := ic) (v := .slice (some ⟨lb1, 0, none⟩) 12 12) (i := mo) (u := x1) (fo := 0) (w := .int .i64 x1) ic_len (by rfl) na3 (by repeat (first | exact Pk.here _ | apply Pk.there)) hx1 rfl) (wtd_run rfl rfl (by rfl) rfl) rfl ?_
          refine da_any hap htm (i := 15) (by rfl) (by kernel_rfl) (by rfl) (listed' := #[true, true, true, true, true, true, true, true, true, true, true, true, true, true, true, true, false, false, false, false, false, false, false, false, false, false, false, false, false, false, false, false, false, false, false, false, false, false, false, false, false, false, false, false, false]) (by rfl) (fun _ => (opv_sub (by rfl) (by rfl) (wrap64_ok (by omega)))) (wtd_run rfl rfl (by rfl) rfl) rfl ?_
          refine da_any hap htm (i := 16) (by rfl) (by kernel_rfl) (by rfl) (listed' := #[true, true, true, true, true, true, true, true, true, true, true, true, true, true, true, true, true, false, false, false, false, false, false, false, false, false, false, false, false, false, false, false, false, false, false, false, false, false, false, false, false, false, false, false, false]) (by rfl) (fun _ => (opv_cmp (b := true) (by rfl) (by rfl) (by exact congrArg some (decide_eq_true (by omega))))) (wtd_run rfl rfl (by rfl) rfl) rfl ?_
          refine da_any hap htm (i := 17) (by rfl) (by kernel_rfl) (by rfl) (listed' := #[true, true, true, true, true, true, true, true, true, true, true, true, true, true, true, true, true, true, false, false, false, false, false, false, false, false, false, false, false, false, false, false, false, false, false, false, false, false, false, false, false, false, false, false, false]) (by rfl) (fun _ => (sv_pick_t (by rfl) rfl (by rfl))) (by rfl) rfl ?_
          refine da_any hap htm (i := 18) (by rfl) (by kernel_rfl) (by rfl) (listed' := #[true, true, true, true, true, true, true, true, true, true, true, true, true, true, true, true, true, true, true, false, false, false, false, false, false, false, false, false, false, false, false, false, false, false, false, false, false, false, false, false, false, false, false, false, false]) (by rfl) (fun _ => (opv_move (by rfl))) (by rfl) rfl ?_
          refine da_any hap htm (i := 19) (by rfl) (by kernel_rfl) (by rfl) (listed' := #[true, true, true, true, true, true, true, true, true, true, true, true, true, true, true, true, true, true, true, true, false, false, false, false, false, false, false, false, false, false, false, false, false, false, false, false, false, false, false, false, false, false, false, false, false]) (by rfl) (fun _ => (opv_move (by rfl))) (wtd_run rfl rfl (by rfl) rfl) rfl ?_
          refine da_any hap htm (i := 20) (by rfl) (by kernel_rfl) (by rfl) (listed' := #[true, true, true, true, true, true, true, true, true, true, true, true, true, true, true, true, true, true, true, true, true, false, false, false, false, false, false, false, false, false, false, false, false, false, false, false, false, false, false, false, false, false, false, false, false]) (by rfl) (fun _ => (opv_move (by rfl))) (wtd_run rfl rfl (by rfl) rfl) rfl ?_
          refine da_any hap htm (i := 21) (by rfl) (by kernel_rfl) (by rfl) (listed' := #[true, true, true, true, true, true, true, true, true, true, true, true, true, true, true, true, true, true, true, true, true, true, false, false, false, false, false, false, false, false, false, false, false, false, false, false, false, false, false, false, false, false, false, false, false]) (by rfl) (fun _ => (opv_indexAddr (i := le) (by rfl) (by rfl) Try.underlying22 ti3 rfl (by omega))) (wtd_run rfl rfl (by rfl) rfl) rfl ?_
          refine da_now [28, 29, 30, 31, 32, 33, 34, 35, 36, 37, 38, 39, 40, 41, 42, 43, 44] hap htm (i := 22) (by rfl) (by kernel_rfl) (by rfl) (listed' := #[true, true, true, true, true, true, true, true, true, true, true, true, true, true, true, true, true, true, true, true, true, true, true, false, false, false, false, false, false, false, false, false, false, false, false, false, false, false, false, false, false, false, false, false, false]) (by rfl) (by kernel_rfl) (by kernel_rfl) (opv_load_fld (enc := ic) (v := .slice (some ⟨lb2, 0, none⟩) 12 12) (i := le) (u := y2) (fo := 0) (w := .int .i64 y2) ic_len (by rfl) na3 (by repeat (first | exact Pk.here _ | apply Pk.there)) hy2 rfl) (wtd_run rfl rfl (by rfl) rfl) rfl ?_
          refine da_any hap htm (i := 23) (by rfl) (by kernel_rfl) (by rfl) (listed' := #[true, true, true, true, true, true, true, true, true, true, true, true, true, true, true, true, true, true, true, true, true, true, true, true, false, false, false, false, false, false, false, false, false, false, false, false, false, false, false, false, false, false, false, false, false]) (by rfl) (fun _ => (opv_move (by rfl))) (wtd_run rfl rfl (by rfl) rfl) rfl ?_
          refine da_any hap htm (i := 24) (by rfl) (by kernel_rfl) (by rfl) (listed' := #[true, true, true, true, true, true, true, true, true, true, true, true, true, true, true, true, true, true, true, true, true, true, true, true, true, false, false, false, false, false, false, false, false, false, false, false, false, false, false, false, false, false, false, false, false]) (by rfl) (fun _ => (opv_move (by rfl))) (wtd_run rfl rfl (by rfl) rfl) rfl ?_
          refine da_any hap htm (i := 25) (by rfl) (by kernel_rfl) (by rfl) (listed' := #[true, true, true, true, true, true, true, true, true, true, true, true, true, true, true, true, true, true, true, true, true, true, true, true, true, true, false, false, false, false, false, false, false, false, false, false, false, false, false, false, false, false, false, false, false]) (by rfl) (fun _ => (opv_indexAddr (i := le) (by rfl) (by rfl) Try.underlying22 ti3 rfl (by omega))) (wtd_run rfl rfl (by rfl) rfl) rfl ?_
          refine da_now [27, 28, 29, 30, 31, 32, 33, 34, 35, 36, 37, 38, 39, 40, 41, 42, 43, 44] hap htm (i := 26) (by rfl) (by kernel_rfl) (by rfl) (listed' := #[true, true, true, true, true, true, true, true, true, true, true, true, true, true, true, true, true, true, true, true, true, true, true, true, true, true, true, false, false, false, false, false, false, false, false, false, false, false, false, false, false, false, false, false, false]) (by rfl) (by kernel_rfl) (by kernel_rfl) (opv_load_fld (enc := ic) (v := .slice (some ⟨lb1, 0, none⟩) 12 12) (i := le) (u := y1) (fo := 0) (w := .int .i64 y1) ic_len (by rfl) na3 (by repeat (first | exact Pk.here _ | apply Pk.there)) hy1 rfl) (wtd_run rfl rfl (by rfl) rfl) rfl ?_
          refine da_any hap htm (i := 27) (by rfl) (by kernel_rfl) (by rfl) (listed' := #[true, true, true, true, true, true, true, true, true, true, true, true, true, true, true, true, true, true, true, true, true, true, true, true, true, true, true, true, false, false, false, false, false, false, false, false, false, false, false, false, false, false, false, false, false]) (by rfl) (fun _ => (opv_add (by rfl) (by rfl) (wrap64_ok (by omega)))) (wtd_run rfl rfl (by rfl) rfl) rfl ?_
          refine da_any hap htm (i := 28) (by rfl) (by kernel_rfl) (by rfl) (listed' := #[true, true, true, true, true, true, true, true, true, true, true, true, true, true, true, true, true, true, true, true, true, true, true, true, true, true, true, true, true, false, false, false, false, false, false, false, false, false, false, false, false, false, false, false, false]) (by rfl) (fun _ => (opv_cmp (b := true) (by rfl) (by rfl) (by exact congrArg some (decide_eq_true (by omega))))) (wtd_run rfl rfl (by rfl) rfl) rfl ?_
          refine da_any hap htm (i := 29) (by rfl) (by kernel_rfl) (by rfl) (listed' := #[true, true, true, true, true, true, true, true, true, true, true, true, true, true, true, true, true, true, true, true, true, true, true, true, true, true, true, true, true, true, false, false, false, false, false, false, false, false, false, false, false, false, false, false, false]) (by rfl) (fun _ => (sv_pick_t (by rfl) rfl (by rfl))) (by rfl) rfl ?_
          refine da_any hap htm (i := 30) (by rfl) (by kernel_rfl) (by rfl) (listed' := #[true, true, true, true, true, true, true, true, true, true, true, true, true, true, true, true, true, true, true, true, true, true, true, true, true, true, true, true, true, true, true, false, false, false, false, false, false, false, false, false, false, false, false, false, false]) (by rfl) (fun _ => (opv_move (by rfl))) (by rfl) rfl ?_
          refine da_any hap htm (i := 31) (by rfl) (by kernel_rfl) (by rfl) (listed' := #[true, true, true, true, true, true, true, true, true, true, true, true, true, true, true, true, true, true, true, true, true, true, true, true, true, true, true, true, true, true, true, true, false, false, false, false, false, false, false, false, false, false, false, false, false]) (by rfl) (fun _ => (opv_move (by rfl))) (wtd_run rfl rfl (by rfl) rfl) rfl ?_
          refine da_any hap htm (i := 32) (by rfl) (by kernel_rfl) (by rfl) (listed' := #[true, true, true, true, true, true, true, true, true, true, true, true, true, true, true, true, true, true, true, true, true, true, true, true, true, true, true, true, true, true, true, true, true, false, false, false, false, false, false, false, false, false, false, false, false]) (by rfl) (fun _ => (opv_move (by rfl))) (wtd_run rfl rfl (by rfl) rfl) rfl ?_
          refine da_any hap htm (i := 33) (by rfl) (by kernel_rfl) (by rfl) (listed' := #[true, true, true, true, true, true, true, true, true, true, true, true, true, true, true, true, true, true, true, true, true, true, true, true, true, true, true, true, true, true, true, true, true, true, false, false, false, false, false, false, false, false, false, false, false]) (by rfl) (fun _ => (opv_indexAddr (i := mo) (by rfl) (by rfl) Try.underlying22 ti3 rfl (by omega))) (wtd_run rfl rfl (by rfl) rfl) rfl ?_
          refine da_now [39, 40, 41, 42, 43, 44] hap htm (i := 34) (by rfl) (by kernel_rfl) (by rfl) (listed' := #[true, true, true, true, true, true, true, true, true, true, true, true, true, true, true, true, true, true, true, true, true, true, true, true, true, true, true, true, true, true, true, true, true, true, true, false, false, false, false, false, false, false, false, false, false]) (by rfl) (by kernel_rfl) (by kernel_rfl) (opv_load_fld (enc := ic) (v := .slice (some ⟨lb2, 0, none⟩) 12 12) (i := mo) (u := x2) (fo := 0) (w := .int .i64 x2) ic_len (by rfl) na3 (by repeat (first | exact Pk.here _ | apply Pk.there)) hx2 rfl) (wtd_run rfl rfl (by rfl) rfl) rfl ?_
          refine da_any hap htm (i := 35) (by rfl) (by kernel_rfl) (by rfl) (listed' := #[true, true, true, true, true, true, true, true, true, true, true, true, true, true, true, true, true, true, true, true, true, true, true, true, true, true, true, true, true, true, true, true, true, true, true, true, false, false, false, false, false, false, false, false, false]) (by rfl) (fun _ => (opv_move (by rfl))) (wtd_run rfl rfl (by rfl) rfl) rfl ?_
          refine da_any hap htm (i := 36) (by rfl) (by kernel_rfl) (by rfl) (listed' := #[true, true, true, true, true, true, true, true, true, true, true, true, true, true, true, true, true, true, true, true, true, true, true, true, true, true, true, true, true, true, true, true, true, true, true, true, true, false, false, false, false, false, false, false, false]) (by rfl) (fun _ => (opv_move (by rfl))) (wtd_run rfl rfl (by rfl) rfl) rfl ?_
          refine da_any hap htm (i := 37) (by rfl) (by kernel_rfl) (by rfl) (listed' := #[true, true, true, true, true, true, true, true, true, true, true, true, true, true, true, true, true, true, true, true, true, true, true, true, true, true, true, true, true, true, true, true, true, true, true, true, true, true, false, false, false, false, false, false, false]) (by rfl) (fun _ => (opv_indexAddr (i := le) (by rfl) (by rfl) Try.underlying22 ti3 rfl (by omega))) (wtd_run rfl rfl (by rfl) rfl) rfl ?_
          refine da_now [39, 40, 41, 42, 43, 44] hap htm (i := 38) (by rfl) (by kernel_rfl) (by rfl) (listed' := #[true, true, true, true, true, true, true, true, true, true, true, true, true, true, true, true, true, true, true, true, true, true, true, true, true, true, true, true, true, true, true, true, true, true, true, true, true, true, true, false, false, false, false, false, false]) (by rfl) (by kernel_rfl) (by kernel_rfl) (opv_load_fld (enc := ic) (v := .slice (some ⟨lb2, 0, none⟩) 12 12) (i := le) (u := y2) (fo := 0) (w := .int .i64 y2) ic_len (by rfl) na3 (by repeat (first | exact Pk.here _ | apply Pk.there)) hy2 rfl) (wtd_run rfl rfl (by rfl) rfl) rfl ?_
          refine da_any hap htm (i := 39) (by rfl) (by kernel_rfl) (by rfl) (listed' := #[true, true, true, true, true, true, true, true, true, true, true, true, true, true, true, true, true, true, true, true, true, true, true, true, true, true, true, true, true, true, true, true, true, true, true, true, true, true, true, true, false, false, false, false, false]) (by rfl) (fun _ => (opv_cmp (b := true) (by rfl) (by rfl) (by exact congrArg some (decide_eq_true (by omega))))) (wtd_run rfl rfl (by rfl) rfl) rfl ?_
          refine da_any hap htm (i := 40) (by rfl) (by kernel_rfl) (by rfl) (listed' := #[true, true, true, true, true, true, true, true, true, true, true, true, true, true, true, true, true, true, true, true, true, true, true, true, true, true, true, true, true, true, true, true, true, true, true, true, true, true, true, true, true, false, false, false, false]) (by rfl) (fun _ => (sv_pick_t (by rfl) rfl (by rfl))) (by rfl) rfl ?_
          refine da_any hap htm (i := 41) (by rfl) (by kernel_rfl) (by rfl) (listed' := #[true, true, true, true, true, true, true, true, true, true, true, true, true, true, true, true, true, true, true, true, true, true, true, true, true, true, true, true, true, true, true, true, true, true, true, true, true, true, true, true, true, true, false, false, false]) (by rfl) (fun _ => (opv_move (by rfl))) (by rfl) rfl ?_
          refine da_eff (i := 42) (by rfl) (by kernel_rfl) (by rfl) (listed' := #[true, true, true, true, true, true, true, true, true, true, true, true, true, true, true, true, true, true, true, true, true, true, true, true, true, true, true, true, true, true, true, true, true, true, true, true, true, true, true, true, true, true, true, false, false]) (by rfl) (eff_call0 (G := fun u New => u = .bool true ∧ New = []) (by rfl) (by rfl) tx9 (by exact fun w1 hw1 => (live_spec w1).mono (fun _ _ ⟨hv, hst⟩ => ⟨[], ⟨hv, rfl⟩, hst⟩))) (fun _ _ _ _ hw => cw_nil hw) (wtd_run rfl rfl (by rfl) rfl) rfl ?_
          rintro _ _ ⟨_, ⟨rfl, rfl⟩, rfl⟩
          refine da_any hap htm (i := 43) (by rfl) (by kernel_rfl) (by rfl) (listed' := #[true, true, true, true, true, true, true, true, true, true, true, true, true, true, true, true, true, true, true, true, true, true, true, true, true, true, true, true, true, true, true, true, true, true, true, true, true, true, true, true, true, true, true, true, false]) (by rfl) (fun _ => (sv_pick_t (by rfl) rfl (by rfl))) (by rfl) rfl ?_
          refine da_any hap htm (i := 44) (by rfl) (by kernel_rfl) (by rfl) (listed' := #[true, true, true, true, true, true, true, true, true, true, true, true, true, true, true, true, true, true, true, true, true, true, true, true, true, true, true, true, true, true, true, true, true, true, true, true, true, true, true, true, true, true, true, true, true]) (by rfl) (fun _ => (opv_assign (by rfl))) (by rfl) rfl ?_
          refine da_done (by kernel_rfl) ?_
          refine jk_then ?_
          refine jc_ret ?_
          refine jk_fn_ret rfl rfl (by rfl) (fun w hw => ?_)
          exact ⟨rfl, hw.forget⟩
end Go.Place
