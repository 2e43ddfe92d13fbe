/- A part of a proof for the laws of the seat Ytmhdjmbckgamlaa; it has no conditions of its own. -/
import Derived.Test.YtmhdjmbckgamlaaPlW9
import Derived.Test.YtmhdjmbckgamlaaPlFits
import Derived.Test.YtmhdjmbckgamlaaPlPlain
namespace Go.Place
open Go Go.SL Go.Proofs
set_option maxHeartbeats 4000000 in
theorem law_even (w : World) (many : Int) : Does Try.prog 8 #[.int .i64 many] w (fun v w' => v = .bool true ∧ St w Emp [] w') := by
  refine fn_body (fn := Try.f8) Try.func8 rfl [(0, .int .i64 many)] (by exact ⟨rfl, trivial⟩) rfl (St.start w) ?_
  refine jc_seq ?_
  refine sc_region ?_
  refine so_pure (opv_assign (by rfl)) (by rfl) rfl ?_
  refine jo_nil ?_
  refine jk_then ?_
  refine jc_seq ?_
  refine jc_seq ?_
  refine sc_region ?_
  refine so_pure (opv_move (by rfl)) (by rfl) rfl ?_
  refine so_pure (opv_cmp (by rfl) (by rfl) (by rfl)) (by rfl) rfl ?_
  refine so_pure (opv_move (by rfl)) (by rfl) rfl ?_
  refine sk_split (x := 17) (by rfl) (fun h2 => ?_) (fun h2 => ?_)
  · first | have p2 := of_decide_eq_true h2 | have p2 := of_decide_eq_false h2 | have p2 := ndT h2 | have p2 := ndF h2 | have p2 := nbT h2 | have p2 := nbF h2 | have p2 := h2
    refine so_skip (wtd_not rfl rfl (by rfl) h2) rfl ?_
    refine so_skip (wtd_not rfl rfl (by rfl) h2) rfl ?_
    refine so_pure (sv_pick_t (by rfl) h2 (by rfl)) (by rfl) rfl ?_
    refine jo_nil ?_
    refine jk_then ?_
    refine sc_true (by rfl) rfl ?_
    refine jc_seq ?_
    refine sc_region ?_
    refine so_eff (eff_call0 (G := fun u New => u = .bool true ∧ New = []) (by rfl) (by rfl) tx9 (by exact fun w1 hw1 => (live_spec w1).mono (fun _ _ ⟨hv, hst⟩ => ⟨[], ⟨hv, rfl⟩, hst⟩))) (by rfl) rfl ?_
    rintro _ _ ⟨_, ⟨rfl, rfl⟩, rfl⟩
    refine so_pure (opv_assign (by rfl)) (by rfl) rfl ?_
    refine jo_nil ?_
    refine jk_then ?_
    refine jc_ret ?_
    refine jk_then_ret ?_
    refine jk_fn_ret rfl rfl (by rfl) (fun w hw => ?_)
    exact ⟨rfl, hw.forget⟩
  · first | have p2 := of_decide_eq_true h2 | have p2 := of_decide_eq_false h2 | have p2 := ndT h2 | have p2 := ndF h2 | have p2 := nbT h2 | have p2 := nbF h2 | have p2 := h2
    refine so_pure (opv_move (by rfl)) (wtd_run rfl rfl (by rfl) h2) rfl ?_
    refine so_pure (opv_cmp (by rfl) (by rfl) (by rfl)) (wtd_run rfl rfl (by rfl) h2) rfl ?_
    refine so_pure (sv_pick_f (by rfl) h2 (by rfl)) (by rfl) rfl ?_
    refine jo_nil ?_
    refine jk_then ?_
    refine sk_split (x := 20) (by rfl) (fun h4 => ?_) (fun h4 => ?_)
    · first | have p4 := of_decide_eq_true h4 | have p4 := of_decide_eq_false h4 | have p4 := ndT h4 | have p4 := ndF h4 | have p4 := nbT h4 | have p4 := nbF h4 | have p4 := h4
      refine sc_true (by rfl) h4 ?_
      refine jc_seq ?_
      refine sc_region ?_
      refine so_eff (eff_call0 (G := fun u New => u = .bool true ∧ New = []) (by rfl) (by rfl) tx9 (by exact fun w1 hw1 => (live_spec w1).mono (fun _ _ ⟨hv, hst⟩ => ⟨[], ⟨hv, rfl⟩, hst⟩))) (by rfl) rfl ?_
      rintro _ _ ⟨_, ⟨rfl, rfl⟩, rfl⟩
      refine so_pure (opv_assign (by rfl)) (by rfl) rfl ?_
      refine jo_nil ?_
      refine jk_then ?_
      refine jc_ret ?_
      refine jk_then_ret ?_
      refine jk_fn_ret rfl rfl (by rfl) (fun w hw => ?_)
      exact ⟨rfl, hw.forget⟩
    · first | have p4 := of_decide_eq_true h4 | have p4 := of_decide_eq_false h4 | have p4 := ndT h4 | have p4 := ndF h4 | have p4 := nbT h4 | have p4 := nbF h4 | have p4 := h4
      refine sc_false (by rfl) h4 ?_
      refine jc_skip ?_
      refine jk_then ?_
      refine jc_seq ?_
      obtain ⟨m, rfl⟩ : ∃ m : Nat, many = m := ⟨many.toNat, by omega⟩
      refine sc_region ?_
      refine so_pure (opv_assign (by rfl)) (by rfl) rfl ?_
      refine jo_nil ?_
      refine jk_then ?_
      refine jc_seq ?_
      refine jc_seq ?_
      refine sc_region ?_
      refine so_pure (opv_assign (by rfl)) (by rfl) rfl ?_
      refine jo_nil ?_
      refine jk_then ?_
      refine jc_block ?_
      refine jc_loop (σ := Nat × Value × List (Nat × Obj) × List Vol) (fun (k, lv, fs, vs) => [(0, .int .i64 (m : Int)), (3, lv), (4, .int .i64 k)]) (fun (k, lv, fs, vs) => [own lv 36 4 vs.length (vs.flatMap Vol.cells), bunch fs]) (fun (k, lv, fs, vs) => (k ≤ m) ∧ (vs.length = k) ∧ (All2 (Vf w Emp fs) vs (lssE k))) (fun (k, lv, fs, vs) => m - k) (0, .slice none 0 0, [], []) ⟨Nat.zero_le _, rfl, trivial⟩ ⟨rfl, rfl, rfl, trivial⟩ (fun w hw => (hw.bunch_nil).own_nil 36 4) ?_
      rintro ⟨k, lv, fs, vs⟩ ⟨hk, hvl, ha⟩
      show Jc _ _ [(0, .int .i64 (m : Int)), (3, lv), (4, .int .i64 k)] [own lv 36 4 vs.length (vs.flatMap Vol.cells), bunch fs] _
      refine jc_seq ?_
      refine jc_seq ?_
      refine sc_region ?_
      refine so_pure (opv_move (by rfl)) (by rfl) rfl ?_
      refine so_pure (opv_move (by rfl)) (by rfl) rfl ?_
      refine so_pure (opv_cmp (by rfl) (by rfl) (by rfl)) (by rfl) rfl ?_
      refine jo_nil ?_
      refine jk_then ?_
      refine sk_split (x := 24) (by rfl) (fun h9 => ?_) (fun h9 => ?_)
      · first | have p9 := of_decide_eq_true h9 | have p9 := of_decide_eq_false h9 | have p9 := ndT h9 | have p9 := ndF h9 | have p9 := nbT h9 | have p9 := nbF h9 | have p9 := h9
        refine sc_true (by rfl) h9 ?_
        refine jc_skip ?_
        refine jk_then ?_
        refine jc_seq ?_
        refine jc_block ?_
        refine jc_seq ?_
        refine sc_region ?_
        refine so_pure (opv_move (by rfl)) (by rfl) rfl ?_
        refine so_eff (eff_call0 (fl := []) (cl := []) (G := fun v New => ∃ b, v = .slice (some ⟨b, 0, none⟩) 12 12 ∧ New = [own (.slice (some ⟨b, 0, none⟩) 12 12) 3 1 12 (([0, 1, 2, 3, 4, 5, 6, 7, 8, 9, 10, 11] : List Int).flatMap ic)]) (by rfl) (by rfl) tx19 (by exact fun w1 hw1 => (all_spec w1).mono (fun _ _ ⟨b, hv, hst⟩ => ⟨_, ⟨b, hv, rfl⟩, hst⟩))) (by rfl) rfl ?_
        rintro _ _ ⟨_, ⟨ba, rfl, rfl⟩, rfl⟩
        refine so_eff (eff_call0 (fl := []) (cl := []) (G := fun v New => ∃ sl, v = .tuple #[sl, .int .i64 (chooseE (k : Int) 0 all12)] ∧ New = [own sl 3 1 (chooseL (k : Int) 0 all12).length ((chooseL (k : Int) 0 all12).flatMap ic)]) (by rfl) (by rfl) tx10 (by exact fun w1 hw1 => (choose_spec w1 (some ⟨ba, 0, none⟩) 12 12 all12 (St.slr ic_len hw1 (by repeat (first | exact Pk.here _ | apply Pk.there)) rfl) (by omega) (k : Int) 0).mono (fun _ _ ⟨sl, hv, hst⟩ => ⟨_, ⟨sl, hv, rfl⟩, hst⟩))) (by rfl) rfl ?_
        rintro _ _ ⟨_, ⟨sl1, rfl, rfl⟩, rfl⟩
        rw [(choose_all (a := k) (by omega)).1, (choose_all (a := k) (by omega)).2]
        refine jo_sv (v := sl1) (by repeat (first | exact Pk.here _ | apply Pk.there)) (fun hsv1 => ?_)
        obtain ⟨A1, c1, rfl, hA1⟩ := hsv1
        have hsv1 : SV (.slice A1 (rotL all12 (5 * k) 9).length c1) (rotL all12 (5 * k) 9).length := ⟨A1, c1, rfl, hA1⟩
        refine so_pure (opv_move (by rfl)) (by rfl) rfl ?_
        refine so_pure (opv_extract (by rfl) (by rfl)) (by rfl) rfl ?_
        refine so_pure (opv_extract (by rfl) (by rfl)) (by rfl) rfl ?_
        refine so_pure (opv_assign (by rfl)) (by rfl) rfl ?_
        refine so_pure (opv_assign (by rfl)) (by rfl) rfl ?_
        refine jo_nil ?_
        refine jk_then ?_
        refine jc_seq ?_
        refine jc_seq ?_
        refine sc_region ?_
        refine so_pure (opv_move (by rfl)) (by rfl) rfl ?_
        refine so_pure (opv_cmp (b := false) (by rfl) (by rfl) (by rfl)) (by rfl) rfl ?_
        refine jo_nil ?_
        refine jk_then ?_
        refine sc_false (by rfl) rfl ?_
        refine jc_skip ?_
        refine jk_then ?_
        refine jc_seq ?_
        refine sc_region ?_
        refine so_pure (opv_move (by rfl)) (by rfl) rfl ?_
        refine so_pure (opv_build (by rfl) (fun w => by exact bld36_0 ..)) (by rfl) rfl ?_
        refine so_eff (eff_alloc ti36 rfl) (by rfl) rfl ?_
        rintro _ _ ⟨b7, rfl, rfl⟩
        refine so_eff0 (eff_store_all (by rfl) (by rfl) (by rfl) ti36 (by rfl) (by repeat (first | exact Pk.here _ | apply Pk.there)) (by rfl) (by rfl)) (by rfl) ?_
        rintro _ _ ⟨rfl, rfl⟩
        refine jo_nil ?_
        refine jk_then ?_
        refine jc_seq ?_
        refine jc_seq ?_
        refine sc_region ?_
        refine so_pure (opv_assign (by rfl)) (by rfl) rfl ?_
        refine jo_nil ?_
        refine jk_then ?_
        refine jc_block ?_
        refine jk_own_nil 45 2 ?_
        refine jc_loop (σ := Nat × Value) (fun (j, sv) => [(0, .int .i64 (m : Int)), (3, lv), (4, .int .i64 k), (5, .slice A1 (rotL all12 (5 * k) 9).length c1), (7, .pointer (some ⟨b7, 0, none⟩)), (8, .int .i64 j)]) (fun (j, sv) => [blk b7 (.cells #[.int .i64 (k : Int), .int .i64 0, .int .i64 0, sv] 36 (0, 0)), own sv 45 2 ((lsE k).take j).length (((lsE k).take j).flatMap Loc.cells), own (.slice A1 (rotL all12 (5 * k) 9).length c1) 3 1 (rotL all12 (5 * k) 9).length ((rotL all12 (5 * k) 9).flatMap ic), own lv 36 4 vs.length (vs.flatMap Vol.cells), bunch fs]) (fun (j, sv) => (j ≤ 9) ∧ (True)) (fun (j, sv) => 9 - j) (0, .slice none 0 0) ⟨Nat.zero_le _, trivial⟩ ⟨rfl, rfl, rfl, rfl, rfl, rfl, trivial⟩ (fun w hw => St.sel hw (by repeat (first | exact Pks.nil _ | exact Pk.here _ | apply Pk.there | apply Pks.cons))) ?_
        rintro ⟨j, sv⟩ ⟨hj, ht⟩
        show Jc _ _ [(0, .int .i64 (m : Int)), (3, lv), (4, .int .i64 k), (5, .slice A1 (rotL all12 (5 * k) 9).length c1), (7, .pointer (some ⟨b7, 0, none⟩)), (8, .int .i64 j)] [blk b7 (.cells #[.int .i64 (k : Int), .int .i64 0, .int .i64 0, sv] 36 (0, 0)), own sv 45 2 ((lsE k).take j).length (((lsE k).take j).flatMap Loc.cells), own (.slice A1 (rotL all12 (5 * k) 9).length c1) 3 1 (rotL all12 (5 * k) 9).length ((rotL all12 (5 * k) 9).flatMap ic), own lv 36 4 vs.length (vs.flatMap Vol.cells), bunch fs] _
        refine jc_seq ?_
        refine jc_seq ?_
        refine sc_region ?_
        refine so_pure (opv_move (by rfl)) (by rfl) rfl ?_
        refine so_pure (opv_move (by rfl)) (by rfl) rfl ?_
        refine so_pure (opv_len_slice (by rfl) Try.underlying22) (by rfl) rfl ?_
        refine so_pure (opv_cmp (by rfl) (by rfl) (by rfl)) (by rfl) rfl ?_
        refine jo_nil ?_
        refine jk_then ?_
        refine sk_split (x := 40) (by rfl) (fun h21 => ?_) (fun h21 => ?_)
        · first | have p21 := of_decide_eq_true h21 | have p21 := of_decide_eq_false h21 | have p21 := ndT h21 | have p21 := ndF h21 | have p21 := nbT h21 | have p21 := nbF h21 | have p21 := h21
          refine sc_true (by rfl) h21 ?_
          refine jc_skip ?_
          refine jk_then ?_
          refine jc_seq ?_
          refine jc_block ?_
          have hr9 := rotL_len all12 (5 * k) 9
          have hjl : j < (rotL all12 (5 * k) 9).length := by omega
          obtain ⟨x, hx⟩ : ∃ x, (rotL all12 (5 * k) 9)[j]? = some x := ⟨(rotL all12 (5 * k) 9)[j], List.getElem?_eq_getElem hjl⟩
          have hlx := lsE_get hx
          have hl9 := lsE_len k
          have htl : ((lsE k).take j).length ≤ 9 := by rw [List.length_take]; omega
          refine so_draw [] (by kernel_rfl) (by kernel_rfl) (by kernel_rfl) rfl (by rfl) (fun hap htm => ?_)
          refine da_any hap htm (i := 0) (by rfl) (by kernel_rfl) (by rfl) (listed' := #[true, false, false, false, false, false, false, false, false, false, false]) (by rfl) (fun _ => (opv_fieldAddr (by rfl) fld36_3)) (by rfl) rfl ?_
          refine da_any hap htm (i := 2) (by rfl) (by kernel_rfl) (by rfl) (listed' := #[true, false, true, false, false, false, false, false, false, false, false]) (by rfl) (fun _ => (opv_move (by rfl))) (by rfl) rfl ?_
          refine da_any hap htm (i := 3) (by rfl) (by kernel_rfl) (by rfl) (listed' := #[true, false, true, true, false, false, false, false, false, false, false]) (by rfl) (fun _ => (opv_move (by rfl))) (by rfl) rfl ?_
          refine da_any hap htm (i := 4) (by rfl) (by kernel_rfl) (by rfl) (listed' := #[true, false, true, true, true, false, false, false, false, false, false]) (by rfl) (fun _ => (opv_indexAddr_sv (i := j) (v := .slice A1 (rotL all12 (5 * k) 9).length c1) (n := (rotL all12 (5 * k) 9).length) (by rfl) hsv1 (by rfl) Try.underlying22 ti3 rfl hjl)) (by rfl) rfl ?_
          refine da_now [6, 7, 8, 9, 10] hap htm (i := 5) (by rfl) (by kernel_rfl) (by rfl) (listed' := #[true, false, true, true, true, true, false, false, false, false, false]) (by rfl) (by kernel_rfl) (by kernel_rfl) (opv_load_fld (enc := ic) (v := .slice A1 (rotL all12 (5 * k) 9).length c1) (i := j) (u := x) (fo := 0) (w := .int .i64 x) ic_len (by rfl) na3 (by repeat (first | exact Pk.here _ | apply Pk.there)) hx rfl) (by rfl) rfl ?_
          refine da_any hap htm (i := 6) (by rfl) (by kernel_rfl) (by rfl) (listed' := #[true, false, true, true, true, true, true, false, false, false, false]) (by rfl) (fun _ => (opv_build (by rfl) (fun w => by exact bld45_0 ..))) (by rfl) rfl ?_
          refine ja_two (i := 1) (j := 7) (by kernel_rfl) ?_ ?_
          · refine js_pure htm (i := 1) (by rfl) (by rfl) (listed' := #[true, true, true, true, true, true, true, false, false, false, false]) (by rfl) (opv_load (by rfl) na34 (rd_pk (by repeat (first | exact Pk.here _ | apply Pk.there))) (by rfl)) (by rfl) rfl ?_
            refine da_eff (i := 7) (by rfl) (by kernel_rfl) (by rfl) (listed' := #[true, true, true, true, true, true, true, true, false, false, false]) (by rfl) (eff_buildSlice (by rfl) (fun w => by exact bsl34_1_0 ..)) (fun _ _ _ _ hw => cw_nil hw) (by rfl) rfl ?_
            rintro _ _ ⟨b50, rfl, rfl⟩
            refine da_eff (i := 8) (by rfl) (by kernel_rfl) (by rfl) (listed' := #[true, true, true, true, true, true, true, true, true, false, false]) (by rfl) (eff_append_lit (by rfl) (by rfl) Try.underlying34 ti45 (by rfl) (by omega) (by repeat (first | exact Pk.here _ | apply Pk.there)) (rd_pk (by repeat (first | exact Pk.here _ | apply Pk.there))) (by rfl) (by rfl) (by unfold maxLen; omega) (by omega)) (fun _ _ _ _ hw => cw_nil hw) (by rfl) rfl ?_
            rintro nv _ ⟨rfl, _⟩
            refine ja_sv (v := nv) (by repeat (first | exact Pk.here _ | apply Pk.there)) (fun hsv2 => ?_)
            obtain ⟨A2, c2, rfl, _⟩ := hsv2
            refine da_any hap htm (i := 9) (by rfl) (by kernel_rfl) (by rfl) (listed' := #[true, true, true, true, true, true, true, true, true, true, false]) (by rfl) (fun _ => (opv_fieldAddr (by rfl) fld36_3)) (by rfl) rfl ?_
            refine da_eff0 (i := 10) (by rfl) (by kernel_rfl) (by rfl) (listed' := #[true, true, true, true, true, true, true, true, true, true, true]) (by rfl) (eff_store (vs := [.slice A2 (((lsE k).take j).length + 1) c2]) (by rfl) (by rfl) (by rfl) ti34 (by rfl) (by repeat (first | exact Pk.here _ | apply Pk.there)) (by exact Nat.le_of_ble_eq_true rfl) (by rfl)) (fun _ _ _ _ hw => cw_nil hw) (by rfl) ?_
            rintro _ _ ⟨rfl, rfl⟩
            refine da_done (by kernel_rfl) ?_
            refine jk_block ?_
            refine jk_then ?_
            refine sc_region ?_
            refine so_pure (opv_move (by rfl)) (by rfl) rfl ?_
            refine so_pure (opv_add (by rfl) (by rfl) (wrap64_ok (by omega))) (by rfl) rfl ?_
            refine so_pure (opv_assign (by rfl)) (by rfl) rfl ?_
            refine jo_nil ?_
            have hz : own (.slice A2 (((lsE k).take j).length + 1) c2) 45 2 (((lsE k).take j).length + 1) (((lsE k).take j).flatMap Loc.cells ++ [.int .i64 x, .int .i64 0]) = own (.slice A2 (((lsE k).take j).length + 1) c2) 45 2 ((lsE k).take (j + 1)).length (((lsE k).take (j + 1)).flatMap Loc.cells) := by rw [take_snoc hlx, List.length_append, List.flatMap_append]; rfl
            refine jk_round (j + 1, .slice A2 (((lsE k).take j).length + 1) c2) ⟨by omega, trivial⟩ (by show 9 - (j + 1) < 9 - j; omega) ⟨rfl, rfl, rfl, rfl, rfl, rfl, trivial⟩ (fun w hw => ?_)
            show St _ _ [blk b7 (.cells #[.int .i64 (k : Int), .int .i64 0, .int .i64 0, (.slice A2 (((lsE k).take j).length + 1) c2)] 36 (0, 0)), own (.slice A2 (((lsE k).take j).length + 1) c2) 45 2 ((lsE k).take (j + 1)).length (((lsE k).take (j + 1)).flatMap Loc.cells), own (.slice A1 (rotL all12 (5 * k) 9).length c1) 3 1 (rotL all12 (5 * k) 9).length ((rotL all12 (5 * k) 9).flatMap ic), own lv 36 4 vs.length (vs.flatMap Vol.cells), bunch fs] _
            rw [← hz]
            exact St.sel hw (by repeat (first | exact Pks.nil _ | exact Pk.here _ | apply Pk.there | apply Pks.cons))
          · refine js_eff (i := 7) (by rfl) (by rfl) (listed' := #[true, false, true, true, true, true, true, true, false, false, false]) (by rfl) (eff_buildSlice (by rfl) (fun w => by exact bsl34_1_0 ..)) (fun _ _ _ _ hw => cw_nil hw) (by rfl) rfl ?_
            rintro _ _ ⟨b50, rfl, rfl⟩
            refine da_now [8, 9, 10] hap htm (i := 1) (by rfl) (by kernel_rfl) (by rfl) (listed' := #[true, true, true, true, true, true, true, true, false, false, false]) (by rfl) (by kernel_rfl) (by kernel_rfl) (opv_load (by rfl) na34 (rd_pk (by repeat (first | exact Pk.here _ | apply Pk.there))) (by rfl)) (by rfl) rfl ?_
            refine da_eff (i := 8) (by rfl) (by kernel_rfl) (by rfl) (listed' := #[true, true, true, true, true, true, true, true, true, false, false]) (by rfl) (eff_append_lit (by rfl) (by rfl) Try.underlying34 ti45 (by rfl) (by omega) (by repeat (first | exact Pk.here _ | apply Pk.there)) (rd_pk (by repeat (first | exact Pk.here _ | apply Pk.there))) (by rfl) (by rfl) (by unfold maxLen; omega) (by omega)) (fun _ _ _ _ hw => cw_nil hw) (by rfl) rfl ?_
            rintro nv _ ⟨rfl, _⟩
            refine ja_sv (v := nv) (by repeat (first | exact Pk.here _ | apply Pk.there)) (fun hsv2 => ?_)
            obtain ⟨A2, c2, rfl, _⟩ := hsv2
            refine da_any hap htm (i := 9) (by rfl) (by kernel_rfl) (by rfl) (listed' := #[true, true, true, true, true, true, true, true, true, true, false]) (by rfl) (fun _ => (opv_fieldAddr (by rfl) fld36_3)) (by rfl) rfl ?_
            refine da_eff0 (i := 10) (by rfl) (by kernel_rfl) (by rfl) (listed' := #[true, true, true, true, true, true, true, true, true, true, true]) (by rfl) (eff_store (vs := [.slice A2 (((lsE k).take j).length + 1) c2]) (by rfl) (by rfl) (by rfl) ti34 (by rfl) (by repeat (first | exact Pk.here _ | apply Pk.there)) (by exact Nat.le_of_ble_eq_true rfl) (by rfl)) (fun _ _ _ _ hw => cw_nil hw) (by rfl) ?_
            rintro _ _ ⟨rfl, rfl⟩
            refine da_done (by kernel_rfl) ?_
            refine jk_block ?_
            refine jk_then ?_
            refine sc_region ?_
            refine so_pure (opv_move (by rfl)) (by rfl) rfl ?_
            refine so_pure (opv_add (by rfl) (by rfl) (wrap64_ok (by omega))) (by rfl) rfl ?_
            refine so_pure (opv_assign (by rfl)) (by rfl) rfl ?_
            refine jo_nil ?_
            have hz : own (.slice A2 (((lsE k).take j).length + 1) c2) 45 2 (((lsE k).take j).length + 1) (((lsE k).take j).flatMap Loc.cells ++ [.int .i64 x, .int .i64 0]) = own (.slice A2 (((lsE k).take j).length + 1) c2) 45 2 ((lsE k).take (j + 1)).length (((lsE k).take (j + 1)).flatMap Loc.cells) := by rw [take_snoc hlx, List.length_append, List.flatMap_append]; rfl
            refine jk_round (j + 1, .slice A2 (((lsE k).take j).length + 1) c2) ⟨by omega, trivial⟩ (by show 9 - (j + 1) < 9 - j; omega) ⟨rfl, rfl, rfl, rfl, rfl, rfl, trivial⟩ (fun w hw => ?_)
            show St _ _ [blk b7 (.cells #[.int .i64 (k : Int), .int .i64 0, .int .i64 0, (.slice A2 (((lsE k).take j).length + 1) c2)] 36 (0, 0)), own (.slice A2 (((lsE k).take j).length + 1) c2) 45 2 ((lsE k).take (j + 1)).length (((lsE k).take (j + 1)).flatMap Loc.cells), own (.slice A1 (rotL all12 (5 * k) 9).length c1) 3 1 (rotL all12 (5 * k) 9).length ((rotL all12 (5 * k) 9).flatMap ic), own lv 36 4 vs.length (vs.flatMap Vol.cells), bunch fs] _
            rw [← hz]
            exact St.sel hw (by repeat (first | exact Pks.nil _ | exact Pk.here _ | apply Pk.there | apply Pks.cons))
        · first | have p21 := of_decide_eq_true h21 | have p21 := of_decide_eq_false h21 | have p21 := ndT h21 | have p21 := ndF h21 | have p21 := nbT h21 | have p21 := nbF h21 | have p21 := h21
          refine sc_false (by rfl) h21 ?_
          refine jc_exit ?_
          refine jk_then_exit ?_
          refine jk_then_exit ?_
          refine jk_block_exit ?_
          refine jk_then ?_
          have hr9 := rotL_len all12 (5 * k) 9
          have ej : j = 9 := by omega
          subst ej
          have et : (lsE k).take 9 = lsE k := List.take_of_length_le (by rw [lsE_len]; omega)
          rw [et]
          have hl9 := lsE_len k
          refine jk_svc (v := sv) (by repeat (first | exact Pk.here _ | apply Pk.there)) (fun A3 c3 hsv _ _ => ?_)
          subst hsv
          refine sc_region ?_
          refine so_pure (opv_move (by rfl)) (by rfl) rfl ?_
          refine so_pure (opv_load_agg (vs := [.int .i64 (k : Int), .int .i64 0, .int .i64 0, .slice A3 (lsE k).length c3]) (by rfl) ag36 ti36 (rd_pk (by repeat (first | exact Pk.here _ | apply Pk.there))) (by exact ⟨rfl, rfl, rfl, rfl, trivial⟩) rfl) (by rfl) rfl ?_
          refine so_eff (eff_buildSlice (by rfl) (fun w => by exact bsl33_1_0 ..)) (by rfl) rfl ?_
          rintro _ _ ⟨b55, rfl, rfl⟩
          refine so_eff (eff_append_lit (by rfl) (by rfl) Try.underlying33 ti36 (by rfl) (by omega) (by repeat (first | exact Pk.here _ | apply Pk.there)) (rd_pk (by repeat (first | exact Pk.here _ | apply Pk.there))) (by rfl) (by rfl) (by unfold maxLen; omega) (by omega)) (by rfl) rfl ?_
          rintro mv _ ⟨rfl, _⟩
          refine so_pure (opv_assign (by rfl)) (by rfl) rfl ?_
          refine jo_nil ?_
          refine jk_bunch_own (fs := fs) (xs := lsE k) (A := A3) Loc.cells_len rfl (by repeat (first | exact Pk.here _ | apply Pk.there)) (by repeat (first | exact Pk.here _ | apply Pk.there)) (fun fq hq1 hq2 => ?_)
          refine jk_block ?_
          refine jk_then ?_
          refine sc_region ?_
          refine so_pure (opv_move (by rfl)) (by rfl) rfl ?_
          refine so_pure (opv_add (by rfl) (by rfl) (wrap64_ok (by omega))) (by rfl) rfl ?_
          refine so_pure (opv_assign (by rfl)) (by rfl) rfl ?_
          refine jo_nil ?_
          have hz : own mv 36 4 (vs.length + 1) (vs.flatMap Vol.cells ++ [.int .i64 (k : Int), .int .i64 0, .int .i64 0, .slice A3 (lsE k).length c3]) = own mv 36 4 (vs ++ [(⟨(k : Int), 0, 0, A3, (lsE k).length, c3⟩ : Vol)]).length ((vs ++ [(⟨(k : Int), 0, 0, A3, (lsE k).length, c3⟩ : Vol)]).flatMap Vol.cells) := by rw [List.length_append, List.flatMap_append]; rfl
          refine jk_round (k + 1, mv, fq, (vs ++ [(⟨(k : Int), 0, 0, A3, (lsE k).length, c3⟩ : Vol)])) ⟨by omega, by rw [List.length_append, hvl]; rfl, by rw [lssE_succ]; exact (ha.mono (Vf.more hq1)).append (show All2 (Vf w Emp fq) [(⟨(k : Int), 0, 0, A3, (lsE k).length, c3⟩ : Vol)] [lsE k] from ⟨⟨hq2, small_of (by show (lsE k).length ≤ 1000000; omega)⟩, trivial⟩)⟩ (by show m - (k + 1) < m - k; omega) ⟨rfl, rfl, rfl, trivial⟩ (fun w hw => ?_)
          show St _ _ [own (mv) 36 4 ((vs ++ [(⟨(k : Int), 0, 0, A3, (lsE k).length, c3⟩ : Vol)])).length (((vs ++ [(⟨(k : Int), 0, 0, A3, (lsE k).length, c3⟩ : Vol)])).flatMap Vol.cells), bunch (fq)] _
          rw [← hz]
          exact St.sel hw (by repeat (first | exact Pks.nil _ | exact Pk.here _ | apply Pk.there | apply Pks.cons))
      · first | have p9 := of_decide_eq_true h9 | have p9 := of_decide_eq_false h9 | have p9 := ndT h9 | have p9 := ndF h9 | have p9 := nbT h9 | have p9 := nbF h9 | have p9 := h9
        refine sc_false (by rfl) h9 ?_
        refine jc_exit ?_
        refine jk_then_exit ?_
        refine jk_then_exit ?_
        refine jk_block_exit ?_
        refine jk_then ?_
        refine jc_seq ?_
        have ek : k = m := by omega
        subst ek
        refine jk_svc (v := lv) (by repeat (first | exact Pk.here _ | apply Pk.there)) (fun LA lc hlv _ _ => ?_)
        subst hlv
        refine sc_region ?_
        refine so_pure (opv_move (by rfl)) (by rfl) rfl ?_
        refine so_eff (eff_call0 (fl := []) (cl := []) (G := fun v New => ∃ lb N, v = .slice (some ⟨lb, 0, none⟩) 12 12 ∧ (N ≤ 8796093022208000 ∧ Bd (loadL (lssE k)) N) ∧ New = [own (.slice (some ⟨lb, 0, none⟩) 12 12) 3 1 12 ((loadL (lssE k)).flatMap ic)]) (by rfl) (by rfl) tx17 (by exact fun w1 hw1 => (load_spec w1 LA vs.length lc vs (lssE k) (St.slr Vol.cells_len hw1 (by repeat (first | exact Pk.here _ | apply Pk.there)) rfl) (ha.mono (Vf.vr hw1 (by repeat (first | exact Pk.here _ | apply Pk.there)))) (by omega)).mono (fun _ _ ⟨lb, N, hv, h1, h2, hst⟩ => ⟨_, ⟨lb, N, hv, ⟨h1, h2⟩, rfl⟩, hst⟩))) (by rfl) rfl ?_
        rintro _ _ ⟨_, ⟨lb, N, rfl, ⟨hN, hb⟩, rfl⟩, rfl⟩
        refine so_pure (opv_assign (by rfl)) (by rfl) rfl ?_
        refine jo_nil ?_
        refine jk_then ?_
        refine jc_seq ?_
        refine sc_region ?_
        refine so_pure (opv_move (by rfl)) (by rfl) rfl ?_
        refine so_eff (eff_call0 (fl := []) (cl := []) (G := fun v New => ∃ b, v = .slice (some ⟨b, 0, none⟩) 12 12 ∧ New = [own (.slice (some ⟨b, 0, none⟩) 12 12) 3 1 12 (([0, 1, 2, 3, 4, 5, 6, 7, 8, 9, 10, 11] : List Int).flatMap ic)]) (by rfl) (by rfl) tx19 (by exact fun w1 hw1 => (all_spec w1).mono (fun _ _ ⟨b, hv, hst⟩ => ⟨_, ⟨b, hv, rfl⟩, hst⟩))) (by rfl) rfl ?_
        rintro _ _ ⟨_, ⟨bb, rfl, rfl⟩, rfl⟩
        refine so_eff (eff_call0 (fl := []) (cl := []) (G := fun v New => v = .tuple #[.int .i64 (evenR (loadL (lssE k)) all12).1, .int .i64 (evenR (loadL (lssE k)) all12).2.1, .bool (evenR (loadL (lssE k)) all12).2.2] ∧ New = []) (by rfl) (by rfl) tx15 (by exact fun w1 hw1 => (even_spec w1 LA (some ⟨bb, 0, none⟩) vs.length 12 lc 12 vs (lssE k) all12 (St.slr Vol.cells_len hw1 (by repeat (first | exact Pk.here _ | apply Pk.there)) rfl) (ha.mono (Vf.vr hw1 (by repeat (first | exact Pk.here _ | apply Pk.there)))) (by omega) (St.slr ic_len hw1 (by repeat (first | exact Pk.here _ | apply Pk.there)) rfl) (by omega)).mono (fun _ _ ⟨hv, hst⟩ => ⟨[], ⟨hv, rfl⟩, hst⟩))) (by rfl) rfl ?_
        rintro _ _ ⟨_, ⟨rfl, rfl⟩, rfl⟩
        refine so_pure (opv_move (by rfl)) (by rfl) rfl ?_
        refine so_pure (opv_extract (by rfl) (by rfl)) (by rfl) rfl ?_
        refine so_pure (opv_extract (by rfl) (by rfl)) (by rfl) rfl ?_
        refine so_pure (opv_extract (by rfl) (by rfl)) (by rfl) rfl ?_
        refine so_pure (opv_assign (by rfl)) (by rfl) rfl ?_
        refine so_pure (opv_assign (by rfl)) (by rfl) rfl ?_
        refine so_pure (opv_assign (by rfl)) (by rfl) rfl ?_
        refine jo_nil ?_
        refine jk_then ?_
        refine jc_seq ?_
        refine jc_seq ?_
        have hok := okE_get (m := k) (by omega)
        obtain ⟨mo, hmo⟩ : ∃ mo : Nat, (evenR (loadL (lssE k)) all12).1 = mo := ⟨(evenR (loadL (lssE k)) all12).1.toNat, by omega⟩
        obtain ⟨le, hle⟩ : ∃ le : Nat, (evenR (loadL (lssE k)) all12).2.1 = le := ⟨(evenR (loadL (lssE k)) all12).2.1.toNat, by omega⟩
        rw [hmo, hle] at hok ⊢
        obtain ⟨x, hx, hx0, hx1⟩ := hb.get (i := mo) (by omega)
        obtain ⟨y, hy, hy0, hy1⟩ := hb.get (i := le) (by omega)
        rw [at12_get hx, at12_get hy] at hok
        refine sc_region ?_
        refine so_pure (opv_move (by rfl)) (by rfl) rfl ?_
        refine so_pure (opv_len_slice (by rfl) Try.underlying22) (by rfl) rfl ?_
        refine so_pure (opv_cmp (b := false) (by rfl) (by rfl) (by rfl)) (by rfl) rfl ?_
        refine so_pure (opv_move (by rfl)) (by rfl) rfl ?_
        refine so_pure (opv_move (by rfl)) (wtd_run rfl rfl (by rfl) rfl) rfl ?_
        refine so_pure (opv_cmp (b := false) (by rfl) (by rfl) (by exact congrArg some (decide_eq_false (by omega)))) (wtd_run rfl rfl (by rfl) rfl) rfl ?_
        refine so_pure (sv_pick_f (by rfl) rfl (by rfl)) (by rfl) rfl ?_
        refine so_pure (opv_move (by rfl)) (by rfl) rfl ?_
        refine so_pure (opv_move (by rfl)) (wtd_run rfl rfl (by rfl) rfl) rfl ?_
        refine so_pure (opv_cmp (b := false) (by rfl) (by rfl) (by exact congrArg some (decide_eq_false (by omega)))) (wtd_run rfl rfl (by rfl) rfl) rfl ?_
        refine so_pure (sv_pick_f (by rfl) rfl (by rfl)) (by rfl) rfl ?_
        refine so_pure (opv_move (by rfl)) (by rfl) rfl ?_
        refine so_pure (opv_move (by rfl)) (wtd_run rfl rfl (by rfl) rfl) rfl ?_
        refine so_pure (opv_cmp (b := false) (by rfl) (by rfl) (by exact congrArg some (decide_eq_false (by omega)))) (wtd_run rfl rfl (by rfl) rfl) rfl ?_
        refine so_pure (sv_pick_f (by rfl) rfl (by rfl)) (by rfl) rfl ?_
        refine so_pure (opv_move (by rfl)) (by rfl) rfl ?_
        refine so_pure (opv_move (by rfl)) (wtd_run rfl rfl (by rfl) rfl) rfl ?_
        refine so_pure (opv_cmp (b := false) (by rfl) (by rfl) (by exact congrArg some (decide_eq_false (by omega)))) (wtd_run rfl rfl (by rfl) rfl) rfl ?_
        refine so_pure (sv_pick_f (by rfl) rfl (by rfl)) (by rfl) rfl ?_
        refine jo_nil ?_
        refine jk_then ?_
        refine sc_false (by rfl) rfl ?_
        refine jc_skip ?_
        refine jk_then ?_
        refine jc_seq ?_
        refine sc_region ?_
        refine so_pure (opv_assign (by rfl)) (by rfl) rfl ?_
        refine jo_nil ?_
        refine jk_then ?_
        refine jc_seq ?_
        refine jc_seq ?_
        refine sc_region ?_
        refine so_pure (opv_assign (by rfl)) (by rfl) rfl ?_
        refine jo_nil ?_
        refine jk_then ?_
        refine jc_block ?_
        refine jc_loop (σ := Nat) (fun i => [(0, .int .i64 (k : Int)), (9, .slice (some ⟨lb, 0, none⟩) 12 12), (10, .int .i64 (mo : Int)), (11, .int .i64 (le : Int)), (13, .int .i64 (sumK (loadL (lssE k)) i)), (14, .int .i64 i)]) (fun i => [own (.slice (some ⟨lb, 0, none⟩) 12 12) 3 1 12 ((loadL (lssE k)).flatMap ic)]) (fun i => (i ≤ 12) ∧ (0 ≤ sumK (loadL (lssE k)) i) ∧ (sumK (loadL (lssE k)) i ≤ i * 8796093022208000)) (fun i => 12 - i) 0 ⟨Nat.zero_le _, Int.le_refl _, by rw [show sumK (loadL (lssE k)) 0 = 0 from rfl]; omega⟩ ⟨rfl, rfl, rfl, rfl, rfl, rfl, trivial⟩ (fun w hw => St.sel hw (by repeat (first | exact Pks.nil _ | exact Pk.here _ | apply Pk.there | apply Pks.cons))) ?_
        rintro i ⟨hi, hs0, hs1⟩
        show Jc _ _ [(0, .int .i64 (k : Int)), (9, .slice (some ⟨lb, 0, none⟩) 12 12), (10, .int .i64 (mo : Int)), (11, .int .i64 (le : Int)), (13, .int .i64 (sumK (loadL (lssE k)) i)), (14, .int .i64 i)] [own (.slice (some ⟨lb, 0, none⟩) 12 12) 3 1 12 ((loadL (lssE k)).flatMap ic)] _
        refine jc_seq ?_
        refine jc_seq ?_
        refine sc_region ?_
        refine so_pure (opv_move (by rfl)) (by rfl) rfl ?_
        refine so_pure (opv_cmp (by rfl) (by rfl) (by rfl)) (by rfl) rfl ?_
        refine jo_nil ?_
        refine jk_then ?_
        refine sk_split (x := 86) (by rfl) (fun h57 => ?_) (fun h57 => ?_)
        · first | have p57 := of_decide_eq_true h57 | have p57 := of_decide_eq_false h57 | have p57 := ndT h57 | have p57 := ndF h57 | have p57 := nbT h57 | have p57 := nbF h57 | have p57 := h57
          refine sc_true (by rfl) h57 ?_
          refine jc_skip ?_
          refine jk_then ?_
          refine jc_seq ?_
          refine jc_block ?_
          have hi12 : i < 12 := by omega
          obtain ⟨cc, hcc, hc0, hc1⟩ := hb.get hi12
          have hsu := sumK_succ hcc
          refine sc_region ?_
          refine so_pure (opv_move (by rfl)) (by rfl) rfl ?_
          refine so_pure (opv_move (by rfl)) (by rfl) rfl ?_
          refine so_pure (opv_move (by rfl)) (by rfl) rfl ?_
          refine so_pure (opv_indexAddr (i := i) (by rfl) (by rfl) Try.underlying22 ti3 rfl (by omega)) (by rfl) rfl ?_
          refine so_pure (opv_load_fld (enc := ic) (v := .slice (some ⟨lb, 0, none⟩) 12 12) (i := i) (u := cc) (fo := 0) (w := .int .i64 cc) ic_len (by rfl) na3 (by repeat (first | exact Pk.here _ | apply Pk.there)) hcc rfl) (by rfl) rfl ?_
          refine so_pure (opv_add (by rfl) (by rfl) (wrap64_ok (by omega))) (by rfl) rfl ?_
          refine so_pure (opv_assign (by rfl)) (by rfl) rfl ?_
          refine jo_nil ?_
          refine jk_block ?_
          refine jk_then ?_
          refine sc_region ?_
          refine so_pure (opv_move (by rfl)) (by rfl) rfl ?_
          refine so_pure (opv_add (by rfl) (by rfl) (wrap64_ok (by omega))) (by rfl) rfl ?_
          refine so_pure (opv_assign (by rfl)) (by rfl) rfl ?_
          refine jo_nil ?_
          refine jk_round (i + 1) ⟨by omega, by rw [hsu]; omega, by rw [hsu]; omega⟩ (by show 12 - (i + 1) < 12 - i; omega) ⟨rfl, rfl, rfl, rfl, by rw [hsu]; rfl, rfl, trivial⟩ (fun w hw => ?_)
          show St _ _ [own (.slice (some ⟨lb, 0, none⟩) 12 12) 3 1 12 ((loadL (lssE k)).flatMap ic)] _
          exact St.sel hw (by repeat (first | exact Pks.nil _ | exact Pk.here _ | apply Pk.there | apply Pks.cons))
        · first | have p57 := of_decide_eq_true h57 | have p57 := of_decide_eq_false h57 | have p57 := ndT h57 | have p57 := ndF h57 | have p57 := nbT h57 | have p57 := nbF h57 | have p57 := h57
          refine sc_false (by rfl) h57 ?_
          refine jc_exit ?_
          refine jk_then_exit ?_
          refine jk_then_exit ?_
          refine jk_block_exit ?_
          refine jk_then ?_
          refine jc_seq ?_
          have ei : i = 12 := by omega
          subst ei
          refine so_draw [] (by kernel_rfl) (by kernel_rfl) (by kernel_rfl) rfl (by rfl) (fun hap htm => ?_)
          refine da_any hap htm (i := 0) (by rfl) (by kernel_rfl) (by rfl) (listed' := #[true, false, false, false, false, false, false, false, false, false, false, false, false, false, false, false, false, false, false, false]) (by rfl) (fun _ => (opv_move (by rfl))) (by rfl) rfl ?_
          refine da_any hap htm (i := 1) (by rfl) (by kernel_rfl) (by rfl) (listed' := #[true, true, false, false, false, false, false, false, false, false, false, false, false, false, false, false, false, false, false, false]) (by rfl) (fun _ => (opv_move (by rfl))) (by rfl) rfl ?_
          refine da_any hap htm (i := 2) (by rfl) (by kernel_rfl) (by rfl) (listed' := #[true, true, true, false, false, false, false, false, false, false, false, false, false, false, false, false, false, false, false, false]) (by rfl) (fun _ => (opv_mul (by rfl) (by rfl) (wrap64_ok (by omega)))) (by rfl) rfl ?_
          refine da_any hap htm (i := 3) (by rfl) (by kernel_rfl) (by rfl) (listed' := #[true, true, true, true, false, false, false, false, false, false, false, false, false, false, false, false, false, false, false, false]) (by rfl) (fun _ => (opv_cmp (b := true) (by rfl) (by rfl) (by exact congrArg some (decide_eq_true hok.2.2.1)))) (by rfl) rfl ?_
          refine da_any hap htm (i := 4) (by rfl) (by kernel_rfl) (by rfl) (listed' := #[true, true, true, true, true, false, false, false, false, false, false, false, false, false, false, false, false, false, false, false]) (by rfl) (fun _ => (opv_move (by rfl))) (by rfl) rfl ?_
          refine da_any hap htm (i := 5) (by rfl) (by kernel_rfl) (by rfl) (listed' := #[true, true, true, true, true, true, false, false, false, false, false, false, false, false, false, false, false, false, false, false]) (by rfl) (fun _ => (opv_move (by rfl))) (wtd_run rfl rfl (by rfl) rfl) rfl ?_
          refine da_any hap htm (i := 6) (by rfl) (by kernel_rfl) (by rfl) (listed' := #[true, true, true, true, true, true, true, false, false, false, false, false, false, false, false, false, false, false, false, false]) (by rfl) (fun _ => (opv_move (by rfl))) (wtd_run rfl rfl (by rfl) rfl) rfl ?_
          refine da_any hap htm (i := 7) (by rfl) (by kernel_rfl) (by rfl) (listed' := #[true, true, true, true, true, true, true, true, false, false, false, false, false, false, false, false, false, false, false, false]) (by rfl) (fun _ => (opv_indexAddr (i := mo) (by rfl) (by rfl) Try.underlying22 ti3 rfl (by omega))) (wtd_run rfl rfl (by rfl) rfl) rfl ?_
          refine da_now [13, 14, 15, 16, 17, 18, 19] hap htm (i := 8) (by rfl) (by kernel_rfl) (by rfl) (listed' := #[true, true, true, true, true, true, true, true, true, false, false, false, false, false, false, false, false, false, false, false]) (by rfl) (by kernel_rfl) (by kernel_rfl) (opv_load_fld (enc := ic) (v := .slice (some ⟨lb, 0, none⟩) 12 12) (i := mo) (u := x) (fo := 0) (w := .int .i64 x) ic_len (by rfl) na3 (by repeat (first | exact Pk.here _ | apply Pk.there)) hx rfl) (wtd_run rfl rfl (by rfl) rfl) rfl ?_
          refine da_any hap htm (i := 9) (by rfl) (by kernel_rfl) (by rfl) (listed' := #[true, true, true, true, true, true, true, true, true, true, false, false, false, false, false, false, false, false, false, false]) (by rfl) (fun _ => (opv_move (by rfl))) (wtd_run rfl rfl (by rfl) rfl) rfl ?_
          refine da_any hap htm (i := 10) (by rfl) (by kernel_rfl) (by rfl) (listed' := #[true, true, true, true, true, true, true, true, true, true, true, false, false, false, false, false, false, false, false, false]) (by rfl) (fun _ => (opv_move (by rfl))) (wtd_run rfl rfl (by rfl) rfl) rfl ?_
          refine da_any hap htm (i := 11) (by rfl) (by kernel_rfl) (by rfl) (listed' := #[true, true, true, true, true, true, true, true, true, true, true, true, false, false, false, false, false, false, false, false]) (by rfl) (fun _ => (opv_indexAddr (i := le) (by rfl) (by rfl) Try.underlying22 ti3 rfl (by omega))) (wtd_run rfl rfl (by rfl) rfl) rfl ?_
          refine da_now [13, 14, 15, 16, 17, 18, 19] hap htm (i := 12) (by rfl) (by kernel_rfl) (by rfl) (listed' := #[true, true, true, true, true, true, true, true, true, true, true, true, true, false, false, false, false, false, false, false]) (by rfl) (by kernel_rfl) (by kernel_rfl) (opv_load_fld (enc := ic) (v := .slice (some ⟨lb, 0, none⟩) 12 12) (i := le) (u := y) (fo := 0) (w := .int .i64 y) ic_len (by rfl) na3 (by repeat (first | exact Pk.here _ | apply Pk.there)) hy rfl) (wtd_run rfl rfl (by rfl) rfl) rfl ?_
          refine da_any hap htm (i := 13) (by rfl) (by kernel_rfl) (by rfl) (listed' := #[true, true, true, true, true, true, true, true, true, true, true, true, true, true, false, false, false, false, false, false]) (by rfl) (fun _ => (opv_sub (by rfl) (by rfl) (wrap64_ok (by omega)))) (wtd_run rfl rfl (by rfl) rfl) rfl ?_
          refine da_any hap htm (i := 14) (by rfl) (by kernel_rfl) (by rfl) (listed' := #[true, true, true, true, true, true, true, true, true, true, true, true, true, true, true, false, false, false, false, false]) (by rfl) (fun _ => (opv_cmp (b := true) (by rfl) (by rfl) (by exact congrArg some (decide_eq_true hok.2.2.2)))) (wtd_run rfl rfl (by rfl) rfl) rfl ?_
          refine da_any hap htm (i := 15) (by rfl) (by kernel_rfl) (by rfl) (listed' := #[true, true, true, true, true, true, true, true, true, true, true, true, true, true, true, true, false, false, false, false]) (by rfl) (fun _ => (sv_pick_t (by rfl) rfl (by rfl))) (by rfl) rfl ?_
          refine da_any hap htm (i := 16) (by rfl) (by kernel_rfl) (by rfl) (listed' := #[true, true, true, true, true, true, true, true, true, true, true, true, true, true, true, true, true, false, false, false]) (by rfl) (fun _ => (opv_move (by rfl))) (by rfl) rfl ?_
          refine da_eff (i := 17) (by rfl) (by kernel_rfl) (by rfl) (listed' := #[true, true, true, true, true, true, true, true, true, true, true, true, true, true, true, true, true, true, false, false]) (by rfl) (eff_call0 (G := fun u New => u = .bool true ∧ New = []) (by rfl) (by rfl) tx9 (by exact fun w1 hw1 => (live_spec w1).mono (fun _ _ ⟨hv, hst⟩ => ⟨[], ⟨hv, rfl⟩, hst⟩))) (fun _ _ _ _ hw => cw_nil hw) (wtd_run rfl rfl (by rfl) rfl) rfl ?_
          rintro _ _ ⟨_, ⟨rfl, rfl⟩, rfl⟩
          refine da_any hap htm (i := 18) (by rfl) (by kernel_rfl) (by rfl) (listed' := #[true, true, true, true, true, true, true, true, true, true, true, true, true, true, true, true, true, true, true, false]) (by rfl) (fun _ => (sv_pick_t (by rfl) rfl (by rfl))) (by rfl) rfl ?_
          refine da_any hap htm (i := 19) (by rfl) (by kernel_rfl) (by rfl) (listed' := #[true, true, true, true, true, true, true, true, true, true, true, true, true, true, true, true, true, true, true, true]) (by rfl) (fun _ => (opv_assign (by rfl))) (by rfl) rfl ?_
          refine da_done (by kernel_rfl) ?_
          refine jk_then ?_
          refine jc_ret ?_
          refine jk_fn_ret rfl rfl (by rfl) (fun w hw => ?_)
          exact ⟨rfl, hw.forget⟩
end Go.Place
