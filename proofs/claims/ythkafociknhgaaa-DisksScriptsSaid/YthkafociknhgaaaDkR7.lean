/- A part of a proof for the laws of the seat Ythkafociknhgaaa; it has no conditions of its own. -/
import Derived.Test.YthkafociknhgaaaDkR6
namespace Go.Disks
open Go Go.SL Go.Proofs
set_option maxHeartbeats 4000000 in
theorem ints_spec (w : World) (A B : Option Addr) (n m c c2 : Nat) (xs ys : List Int) (hs : SlR w 3 1 ic A n xs) (ht0 : SlR w 3 1 ic B m ys) (hn : n ≤ 1000000) : Does Try.prog 18 #[.slice A n c, .slice B m c2] w (fun v w' => v = .bool (decide (xs = ys)) ∧ St w Emp [] w') := by
  refine fn_body (fn := Try.f18) Try.func18 rfl [(0, .slice A n c), (1, .slice B m c2)] (by exact ⟨rfl, rfl, trivial⟩) rfl (St.start w) ?_
  refine jc_seq ?_
  refine sc_region ?_
  refine so_pure (opv_assign (by rfl)) (by rfl) rfl ?_
  refine jo_nil ?_
  refine jk_then ?_
  refine jc_seq ?_
  refine jc_seq ?_
  refine sc_region ?_
  refine so_pure (opv_move (by rfl)) (by rfl) rfl ?_
  refine so_pure (opv_len_slice (by rfl) Try.underlying42) (by rfl) rfl ?_
  refine so_pure (opv_move (by rfl)) (by rfl) rfl ?_
  refine so_pure (opv_len_slice (by rfl) Try.underlying42) (by rfl) rfl ?_
  refine so_pure (opv_cmp (by rfl) (by rfl) (by rfl)) (by rfl) rfl ?_
  refine jo_nil ?_
  refine jk_then ?_
  refine sk_split (x := 10) (by rfl) (fun h5 => ?_) (fun h5 => ?_)
  · first | have p5 := of_decide_eq_true h5 | have p5 := of_decide_eq_false h5 | have p5 := ndT h5 | have p5 := ndF h5 | have p5 := nbT h5 | have p5 := nbF h5 | have p5 := h5
    refine sc_true (by rfl) h5 ?_
    refine jc_seq ?_
    refine sc_region ?_
    refine so_pure (opv_assign (by rfl)) (by rfl) rfl ?_
    refine jo_nil ?_
    refine jk_then ?_
    refine jc_ret ?_
    refine jk_then_ret ?_
    refine jk_fn_ret rfl rfl (by rfl) (fun w hw => ?_)
    exact ⟨congrArg Value.bool (decide_eq_false (fun e => p5 (by rw [hs.1, ht0.1, e]))).symm, hw.forget⟩
  · first | have p5 := of_decide_eq_true h5 | have p5 := of_decide_eq_false h5 | have p5 := ndT h5 | have p5 := ndF h5 | have p5 := nbT h5 | have p5 := nbF h5 | have p5 := h5
    refine sc_false (by rfl) h5 ?_
    refine jc_skip ?_
    refine jk_then ?_
    refine jc_seq ?_
    refine jc_seq ?_
    refine sc_region ?_
    refine so_pure (opv_assign (by rfl)) (by rfl) rfl ?_
    refine jo_nil ?_
    refine jk_then ?_
    refine jc_block ?_
    refine jc_loop (σ := Nat) (fun k => [(0, .slice A n c), (1, .slice B m c2), (5, .int .i64 k)]) (fun k => []) (fun k => (k ≤ n) ∧ (xs.take k = ys.take k)) (fun k => n - k) 0 ⟨Nat.zero_le _, rfl⟩ ⟨rfl, rfl, rfl, trivial⟩ (fun w hw => St.sel hw (by repeat (first | exact Pks.nil _ | exact Pk.here _ | apply Pk.there | apply Pks.cons))) ?_
    rintro k ⟨hk, ht⟩
    show Jc _ _ [(0, .slice A n c), (1, .slice B m c2), (5, .int .i64 k)] [] _
    refine jc_seq ?_
    refine jc_seq ?_
    refine sc_region ?_
    refine so_pure (opv_move (by rfl)) (by rfl) rfl ?_
    refine so_pure (opv_move (by rfl)) (by rfl) rfl ?_
    refine so_pure (opv_len_slice (by rfl) Try.underlying42) (by rfl) rfl ?_
    refine so_pure (opv_cmp (by rfl) (by rfl) (by rfl)) (by rfl) rfl ?_
    refine jo_nil ?_
    refine jk_then ?_
    refine sk_split (x := 14) (by rfl) (fun h9 => ?_) (fun h9 => ?_)
    · first | have p9 := of_decide_eq_true h9 | have p9 := of_decide_eq_false h9 | have p9 := ndT h9 | have p9 := ndF h9 | have p9 := nbT h9 | have p9 := nbF h9 | have p9 := h9
      refine sc_true (by rfl) h9 ?_
      refine jc_skip ?_
      refine jk_then ?_
      refine jc_seq ?_
      refine jc_block ?_
      refine jc_seq ?_
      have hlt : k < n := by omega
      obtain ⟨_, _, _, _, x, _, _, hx, _⟩ := hs.get hlt
      have hlt2 : k < m := by omega
      obtain ⟨_, _, _, _, y, _, _, hy, _⟩ := ht0.get hlt2
      refine so_draw [] (by kernel_rfl) (by kernel_rfl) (by kernel_rfl) rfl (by rfl) (fun hap htm => ?_)
      refine da_any hap htm (i := 0) (by rfl) (by kernel_rfl) (by rfl) (listed' := #[true, false, false, false, false, false, false, false, false]) (by rfl) (fun _ => (opv_move (by rfl))) (by rfl) rfl ?_
      refine da_any hap htm (i := 1) (by rfl) (by kernel_rfl) (by rfl) (listed' := #[true, true, false, false, false, false, false, false, false]) (by rfl) (fun _ => (opv_move (by rfl))) (by rfl) rfl ?_
      refine da_any hap htm (i := 2) (by rfl) (by kernel_rfl) (by rfl) (listed' := #[true, true, true, false, false, false, false, false, false]) (by rfl) (fun _ => (opv_indexAddr_slr (i := k) (by rfl) hs (by rfl) Try.underlying42 ti3 rfl hlt)) (by rfl) rfl ?_
      refine da_now [8] hap htm (i := 3) (by rfl) (by kernel_rfl) (by rfl) (listed' := #[true, true, true, true, false, false, false, false, false]) (by rfl) (by kernel_rfl) (by kernel_rfl) (opv_load_slr (enc := ic) (u := x) (fo := 0) (v := .int .i64 x) (by rfl) na3 rfl hs hx rfl) (by rfl) rfl ?_
      refine da_any hap htm (i := 4) (by rfl) (by kernel_rfl) (by rfl) (listed' := #[true, true, true, true, true, false, false, false, false]) (by rfl) (fun _ => (opv_move (by rfl))) (by rfl) rfl ?_
      refine da_any hap htm (i := 5) (by rfl) (by kernel_rfl) (by rfl) (listed' := #[true, true, true, true, true, true, false, false, false]) (by rfl) (fun _ => (opv_move (by rfl))) (by rfl) rfl ?_
      refine da_any hap htm (i := 6) (by rfl) (by kernel_rfl) (by rfl) (listed' := #[true, true, true, true, true, true, true, false, false]) (by rfl) (fun _ => (opv_indexAddr_slr (i := k) (by rfl) ht0 (by rfl) Try.underlying42 ti3 rfl hlt2)) (by rfl) rfl ?_
      refine da_now [8] hap htm (i := 7) (by rfl) (by kernel_rfl) (by rfl) (listed' := #[true, true, true, true, true, true, true, true, false]) (by rfl) (by kernel_rfl) (by kernel_rfl) (opv_load_slr (enc := ic) (u := y) (fo := 0) (v := .int .i64 y) (by rfl) na3 rfl ht0 hy rfl) (by rfl) rfl ?_
      refine da_any hap htm (i := 8) (by rfl) (by kernel_rfl) (by rfl) (listed' := #[true, true, true, true, true, true, true, true, true]) (by rfl) (fun _ => (opv_cmp (by rfl) (by rfl) (by rfl))) (by rfl) rfl ?_
      refine da_done (by kernel_rfl) ?_
      refine jk_then ?_
      refine sk_split (x := 25) (by rfl) (fun h16 => ?_) (fun h16 => ?_)
      · first | have p16 := of_decide_eq_true h16 | have p16 := of_decide_eq_false h16 | have p16 := ndT h16 | have p16 := ndF h16 | have p16 := nbT h16 | have p16 := nbF h16 | have p16 := h16
        refine sc_true (by rfl) h16 ?_
        refine jc_seq ?_
        refine sc_region ?_
        refine so_pure (opv_assign (by rfl)) (by rfl) rfl ?_
        refine jo_nil ?_
        refine jk_then ?_
        refine jc_ret ?_
        refine jk_block_ret ?_
        refine jk_then_ret ?_
        refine jk_then_ret ?_
        refine jk_block_ret ?_
        refine jk_then_ret ?_
        refine jk_fn_ret rfl rfl (by rfl) (fun w hw => ?_)
        exact ⟨congrArg Value.bool (decide_eq_false (ne_of_get hx hy p16)).symm, hw.forget⟩
      · first | have p16 := of_decide_eq_true h16 | have p16 := of_decide_eq_false h16 | have p16 := ndT h16 | have p16 := ndF h16 | have p16 := nbT h16 | have p16 := nbF h16 | have p16 := h16
        refine sc_false (by rfl) h16 ?_
        refine jc_skip ?_
        refine jk_block ?_
        refine jk_then ?_
        refine sc_region ?_
        refine so_pure (opv_move (by rfl)) (by rfl) rfl ?_
        refine so_pure (opv_add (by rfl) (by rfl) (wrap64_ok (by omega))) (by rfl) rfl ?_
        refine so_pure (opv_assign (by rfl)) (by rfl) rfl ?_
        refine jo_nil ?_
        refine jk_round (k + 1) ⟨by omega, take_step ht hx hy (by have := p16; omega)⟩ (by show n - (k + 1) < n - k; omega) ⟨rfl, rfl, rfl, trivial⟩ (fun w hw => ?_)
        show St _ _ [] _
        exact St.sel hw (by repeat (first | exact Pks.nil _ | exact Pk.here _ | apply Pk.there | apply Pks.cons))
    · first | have p9 := of_decide_eq_true h9 | have p9 := of_decide_eq_false h9 | have p9 := ndT h9 | have p9 := ndF h9 | have p9 := nbT h9 | have p9 := nbF h9 | have p9 := h9
      refine sc_false (by rfl) h9 ?_
      refine jc_exit ?_
      refine jk_then_exit ?_
      refine jk_then_exit ?_
      refine jk_block_exit ?_
      refine jk_then ?_
      refine jc_seq ?_
      refine sc_region ?_
      refine so_pure (opv_assign (by rfl)) (by rfl) rfl ?_
      refine jo_nil ?_
      refine jk_then ?_
      refine jc_ret ?_
      refine jk_fn_ret rfl rfl (by rfl) (fun w hw => ?_)
      exact ⟨congrArg Value.bool (decide_eq_true (eq_of_take ht (by have := hs.1; omega) (by have := ht0.1; have := p9; omega))).symm, hw.forget⟩
set_option maxHeartbeats 4000000 in
theorem rnew_spec (w : World) : Does Try.prog 16 #[] w (fun v w' => ∃ bk dv rps, rps.length = 12 ∧ v = .pointer (some ⟨bk, 0, none⟩) ∧ St w Emp [blk bk (.cells #[dv] 73 (0, 0)), own dv 74 1 12 (rps.flatMap pc), grp (List.zipWith rdI rps (new12 12))] w') := by
  refine fn_body (fn := Try.f16) Try.func16 rfl [] (by exact trivial) rfl (St.start w) ?_
  refine jc_seq ?_
  refine sc_region ?_
  refine so_pure (opv_assign (by rfl)) (by rfl) rfl ?_
  refine jo_nil ?_
  refine jk_then ?_
  refine jc_seq ?_
  refine sc_region ?_
  refine so_pure (opv_build (by rfl) (fun w => by exact bld73_ ..)) (by rfl) rfl ?_
  refine so_eff (eff_box (by rfl) rfl) (by rfl) rfl ?_
  rintro _ _ ⟨b4, rfl, rfl⟩
  refine so_pure (opv_assign (by rfl)) (by rfl) rfl ?_
  refine jo_nil ?_
  refine jk_then ?_
  refine jc_seq ?_
  refine jc_seq ?_
  refine sc_region ?_
  refine so_pure (opv_assign (by rfl)) (by rfl) rfl ?_
  refine jo_nil ?_
  refine jk_then ?_
  refine jc_block ?_
  refine jc_loop (σ := List Nat × Value) (fun (qs, dv) => [(1, .pointer (some ⟨b4, 0, none⟩)), (2, .int .i64 qs.length)]) (fun (qs, dv) => ([blk b4 (.cells #[dv] 73 (0, 0)), own dv 74 1 qs.length (qs.flatMap pc), grp (List.zipWith rdI qs (new12 qs.length))])) (fun (qs, dv) => (qs.length ≤ 12) ∧ (True)) (fun (qs, dv) => 12 - qs.length) (([] : List Nat), .slice none 0 0) ⟨Nat.zero_le _, trivial⟩ ⟨rfl, rfl, trivial⟩ (fun w hw => St.sel (St.grp_mk (L := []) (hw.own_nil 74 1)) (by repeat (first | exact Pks.nil _ | exact Pk.here _ | apply Pk.there | apply Pks.cons))) ?_
  rintro ⟨qs, dv⟩ ⟨hl, ht⟩
  show Jc _ _ [(1, .pointer (some ⟨b4, 0, none⟩)), (2, .int .i64 qs.length)] ([blk b4 (.cells #[dv] 73 (0, 0)), own dv 74 1 qs.length (qs.flatMap pc), grp (List.zipWith rdI qs (new12 qs.length))]) _
  refine jc_seq ?_
  refine jc_seq ?_
  refine sc_region ?_
  refine so_pure (opv_move (by rfl)) (by rfl) rfl ?_
  refine so_pure (opv_cmp (by rfl) (by rfl) (by rfl)) (by rfl) rfl ?_
  refine jo_nil ?_
  refine jk_then ?_
  refine sk_split (x := 6) (by rfl) (fun h6 => ?_) (fun h6 => ?_)
  · first | have p6 := of_decide_eq_true h6 | have p6 := of_decide_eq_false h6 | have p6 := ndT h6 | have p6 := ndF h6 | have p6 := nbT h6 | have p6 := nbF h6 | have p6 := h6
    refine sc_true (by rfl) h6 ?_
    refine jc_skip ?_
    refine jk_then ?_
    refine jc_seq ?_
    refine jc_block ?_
    refine so_draw [] (by kernel_rfl) (by kernel_rfl) (by kernel_rfl) rfl (by rfl) (fun hap htm => ?_)
    refine da_any hap htm (i := 0) (by rfl) (by kernel_rfl) (by rfl) (listed' := #[true, false, false, false, false, false, false, false, false, false, false, false, false]) (by rfl) (fun _ => (opv_move (by rfl))) (by rfl) rfl ?_
    refine da_any hap htm (i := 1) (by rfl) (by kernel_rfl) (by rfl) (listed' := #[true, true, false, false, false, false, false, false, false, false, false, false, false]) (by rfl) (fun _ => (opv_move (by rfl))) (by rfl) rfl ?_
    refine da_any hap htm (i := 2) (by rfl) (by kernel_rfl) (by rfl) (listed' := #[true, true, true, false, false, false, false, false, false, false, false, false, false]) (by rfl) (fun _ => (opv_nilCheck (by rfl))) (by rfl) rfl ?_
    refine da_any hap htm (i := 3) (by rfl) (by kernel_rfl) (by rfl) (listed' := #[true, true, true, true, false, false, false, false, false, false, false, false, false]) (by rfl) (fun _ => (opv_fieldAddr (by rfl) fld73_0)) (by rfl) rfl ?_
    refine ja_two (i := 4) (j := 5) (by kernel_rfl) ?_ ?_
    · refine js_pure htm (i := 4) (by rfl) (by rfl) (listed' := #[true, true, true, true, true, false, false, false, false, false, false, false, false]) (by rfl) (opv_load (by rfl) na71 (rd_pk (by repeat (first | exact Pk.here _ | apply Pk.there))) (by rfl)) (by rfl) rfl ?_
      refine da_eff (i := 5) (by rfl) (by kernel_rfl) (by rfl) (listed' := #[true, true, true, true, true, true, false, false, false, false, false, false, false]) (by rfl) (eff_makeSlice (n := 112) (by rfl) (by rfl) Try.underlying75 ti9 (by decide) (by decide)) (fun _ _ _ _ hw => cw_nil hw) (by rfl) rfl ?_
      rintro _ _ ⟨lb, rfl, rfl⟩
      refine jk_own_mk (n := 112) (cap := 112) (size := 1) (xs := (lK []).flatMap sc) (by repeat (first | exact Pk.here _ | apply Pk.there)) (Nat.le_refl _) (by decide) (by kernel_rfl) (by kernel_rfl) ?_
      show Ja _ _ _ _ _ _ _ _
      refine da_any hap htm (i := 6) (by rfl) (by kernel_rfl) (by rfl) (listed' := #[true, true, true, true, true, true, true, false, false, false, false, false, false]) (by rfl) (fun _ => (opv_build (by rfl) (fun w => by exact bld78_0 ..))) (by rfl) rfl ?_
      refine da_eff (i := 7) (by rfl) (by kernel_rfl) (by rfl) (listed' := #[true, true, true, true, true, true, true, true, false, false, false, false, false]) (by rfl) (eff_box (by rfl) rfl) (fun _ _ _ _ hw => cw_nil hw) (by rfl) rfl ?_
      rintro _ _ ⟨b16, rfl, rfl⟩
      refine da_eff (i := 8) (by rfl) (by kernel_rfl) (by rfl) (listed' := #[true, true, true, true, true, true, true, true, true, false, false, false, false]) (by rfl) (eff_buildSlice (by rfl) (fun w => by exact bsl71_1_0 ..)) (fun _ _ _ _ hw => cw_nil hw) (by rfl) rfl ?_
      rintro _ _ ⟨b17, rfl, rfl⟩
      refine da_eff (i := 9) (by rfl) (by kernel_rfl) (by rfl) (listed' := #[true, true, true, true, true, true, true, true, true, true, false, false, false]) (by rfl) (eff_append_lit (by rfl) (by rfl) Try.underlying71 ti74 (by rfl) (by omega) (by repeat (first | exact Pk.here _ | apply Pk.there)) (rd_pk (by repeat (first | exact Pk.here _ | apply Pk.there))) (by rfl) (by rfl) (by unfold maxLen; omega) (by omega)) (fun _ _ _ _ hw => cw_nil hw) (by rfl) rfl ?_
      rintro wv2 _ ⟨rfl, _⟩
      refine ja_sv (by repeat (first | exact Pk.here _ | apply Pk.there)) (fun hsv2 => ?_)
      obtain ⟨A2, c2, rfl, _⟩ := hsv2
      refine da_any hap htm (i := 10) (by rfl) (by kernel_rfl) (by rfl) (listed' := #[true, true, true, true, true, true, true, true, true, true, true, false, false]) (by rfl) (fun _ => (opv_nilCheck (by rfl))) (by rfl) rfl ?_
      refine da_any hap htm (i := 11) (by rfl) (by kernel_rfl) (by rfl) (listed' := #[true, true, true, true, true, true, true, true, true, true, true, true, false]) (by rfl) (fun _ => (opv_fieldAddr (by rfl) fld73_0)) (by rfl) rfl ?_
      refine da_eff0 (i := 12) (by rfl) (by kernel_rfl) (by rfl) (listed' := #[true, true, true, true, true, true, true, true, true, true, true, true, true]) (by rfl) (eff_store (vs := [(.slice A2 (qs.length + 1) c2)]) (by rfl) (by rfl) (by rfl) ti71 (by rfl) (by repeat (first | exact Pk.here _ | apply Pk.there)) (by exact Nat.le_of_ble_eq_true rfl) (by rfl)) (fun _ _ _ _ hw => cw_nil hw) (by rfl) ?_
      rintro _ _ ⟨rfl, rfl⟩
      refine da_done (by kernel_rfl) ?_
      refine jk_block ?_
      refine jk_then ?_
      refine sc_region ?_
      refine so_pure (opv_move (by rfl)) (by rfl) rfl ?_
      refine so_pure (opv_add (by rfl) (by rfl) (wrap64_ok (by omega))) (by rfl) rfl ?_
      refine so_pure (opv_assign (by rfl)) (by rfl) rfl ?_
      refine jo_nil ?_
      have e3 : (qs ++ [b16]).length = qs.length + 1 := by simp
      refine jk_round (qs ++ [b16], .slice A2 (qs.length + 1) c2) ⟨by rw [e3]; omega, trivial⟩ (by show 12 - (qs ++ [b16]).length < 12 - qs.length; (rw [e3]; omega)) ⟨rfl, by rw [e3]; rfl, trivial⟩ (fun w hw => ?_)
      show St _ _ ([blk b4 (.cells #[(.slice A2 (qs.length + 1) c2)] 73 (0, 0)), own (.slice A2 (qs.length + 1) c2) 74 1 (qs ++ [b16]).length ((qs ++ [b16]).flatMap pc), grp (List.zipWith rdI (qs ++ [b16]) (new12 (qs ++ [b16]).length))]) _
      rw [e3, new12_succ, rzip_snoc (by rw [new12_len]), List.flatMap_append]
      have hw1 := St.own_nil hw 81 2
      have hw2 := rd_mk (D := some ⟨[], []⟩) (lv := .slice (some ⟨lb, 0, none⟩) 112 112) (wv := .slice none 0 0) (rb := b16) (St.sel (Sb := [blk b16 (.cells #[.slice (some ⟨lb, 0, none⟩) 112 112, .slice none 0 0, .bool false] 78 (0, 0)), own (.slice (some ⟨lb, 0, none⟩) 112 112) 9 1 112 ((lK []).flatMap sc), own (.slice none 0 0) 81 2 0 [], grp (List.zipWith rdI qs (new12 qs.length)), own (.slice A2 (qs.length + 1) c2) 74 1 (qs.length + 1) (qs.flatMap pc ++ [.pointer (some ⟨b16, 0, none⟩)]), blk b4 (.cells #[(.slice A2 (qs.length + 1) c2)] 73 (0, 0))]) hw1 (by repeat (first | exact Pks.nil _ | exact Pk.here _ | apply Pk.there | apply Pks.cons)))
      have hw3 := grp_snoc (I := rdI b16 (some ⟨[], []⟩)) (St.sel (Sb := [rdI b16 (some ⟨[], []⟩), grp (List.zipWith rdI qs (new12 qs.length)), own (.slice A2 (qs.length + 1) c2) 74 1 (qs.length + 1) (qs.flatMap pc ++ [.pointer (some ⟨b16, 0, none⟩)]), blk b4 (.cells #[(.slice A2 (qs.length + 1) c2)] 73 (0, 0))]) hw2 (by repeat (first | exact Pks.nil _ | exact Pk.here _ | apply Pk.there | apply Pks.cons)))
      exact St.sel hw3 (by repeat (first | exact Pks.nil _ | exact Pk.here _ | apply Pk.there | apply Pks.cons))
    · refine js_eff (i := 5) (by rfl) (by rfl) (listed' := #[true, true, true, true, false, true, false, false, false, false, false, false, false]) (by rfl) (eff_makeSlice (n := 112) (by rfl) (by rfl) Try.underlying75 ti9 (by decide) (by decide)) (fun _ _ _ _ hw => cw_nil hw) (by rfl) rfl ?_
      rintro _ _ ⟨lb, rfl, rfl⟩
      refine jk_own_mk (n := 112) (cap := 112) (size := 1) (xs := (lK []).flatMap sc) (by repeat (first | exact Pk.here _ | apply Pk.there)) (Nat.le_refl _) (by decide) (by kernel_rfl) (by kernel_rfl) ?_
      show Ja _ _ _ _ _ _ _ _
      refine da_any hap htm (i := 6) (by rfl) (by kernel_rfl) (by rfl) (listed' := #[true, true, true, true, false, true, true, false, false, false, false, false, false]) (by rfl) (fun _ => (opv_build (by rfl) (fun w => by exact bld78_0 ..))) (by rfl) rfl ?_
      refine ja_two (i := 4) (j := 7) (by kernel_rfl) ?_ ?_
      · refine js_pure htm (i := 4) (by rfl) (by rfl) (listed' := #[true, true, true, true, true, true, true, false, false, false, false, false, false]) (by rfl) (opv_load (by rfl) na71 (rd_pk (by repeat (first | exact Pk.here _ | apply Pk.there))) (by rfl)) (by rfl) rfl ?_
        refine da_eff (i := 7) (by rfl) (by kernel_rfl) (by rfl) (listed' := #[true, true, true, true, true, true, true, true, false, false, false, false, false]) (by rfl) (eff_box (by rfl) rfl) (fun _ _ _ _ hw => cw_nil hw) (by rfl) rfl ?_
        rintro _ _ ⟨b16, rfl, rfl⟩
        refine da_eff (i := 8) (by rfl) (by kernel_rfl) (by rfl) (listed' := #[true, true, true, true, true, true, true, true, true, false, false, false, false]) (by rfl) (eff_buildSlice (by rfl) (fun w => by exact bsl71_1_0 ..)) (fun _ _ _ _ hw => cw_nil hw) (by rfl) rfl ?_
        rintro _ _ ⟨b17, rfl, rfl⟩
        refine da_eff (i := 9) (by rfl) (by kernel_rfl) (by rfl) (listed' := #[true, true, true, true, true, true, true, true, true, true, false, false, false]) (by rfl) (eff_append_lit (by rfl) (by rfl) Try.underlying71 ti74 (by rfl) (by omega) (by repeat (first | exact Pk.here _ | apply Pk.there)) (rd_pk (by repeat (first | exact Pk.here _ | apply Pk.there))) (by rfl) (by rfl) (by unfold maxLen; omega) (by omega)) (fun _ _ _ _ hw => cw_nil hw) (by rfl) rfl ?_
        rintro wv2 _ ⟨rfl, _⟩
        refine ja_sv (by repeat (first | exact Pk.here _ | apply Pk.there)) (fun hsv2 => ?_)
        obtain ⟨A2, c2, rfl, _⟩ := hsv2
        refine da_any hap htm (i := 10) (by rfl) (by kernel_rfl) (by rfl) (listed' := #[true, true, true, true, true, true, true, true, true, true, true, false, false]) (by rfl) (fun _ => (opv_nilCheck (by rfl))) (by rfl) rfl ?_
        refine da_any hap htm (i := 11) (by rfl) (by kernel_rfl) (by rfl) (listed' := #[true, true, true, true, true, true, true, true, true, true, true, true, false]) (by rfl) (fun _ => (opv_fieldAddr (by rfl) fld73_0)) (by rfl) rfl ?_
        refine da_eff0 (i := 12) (by rfl) (by kernel_rfl) (by rfl) (listed' := #[true, true, true, true, true, true, true, true, true, true, true, true, true]) (by rfl) (eff_store (vs := [(.slice A2 (qs.length + 1) c2)]) (by rfl) (by rfl) (by rfl) ti71 (by rfl) (by repeat (first | exact Pk.here _ | apply Pk.there)) (by exact Nat.le_of_ble_eq_true rfl) (by rfl)) (fun _ _ _ _ hw => cw_nil hw) (by rfl) ?_
        rintro _ _ ⟨rfl, rfl⟩
        refine da_done (by kernel_rfl) ?_
        refine jk_block ?_
        refine jk_then ?_
        refine sc_region ?_
        refine so_pure (opv_move (by rfl)) (by rfl) rfl ?_
        refine so_pure (opv_add (by rfl) (by rfl) (wrap64_ok (by omega))) (by rfl) rfl ?_
        refine so_pure (opv_assign (by rfl)) (by rfl) rfl ?_
        refine jo_nil ?_
        have e3 : (qs ++ [b16]).length = qs.length + 1 := by simp
        refine jk_round (qs ++ [b16], .slice A2 (qs.length + 1) c2) ⟨by rw [e3]; omega, trivial⟩ (by show 12 - (qs ++ [b16]).length < 12 - qs.length; (rw [e3]; omega)) ⟨rfl, by rw [e3]; rfl, trivial⟩ (fun w hw => ?_)
        show St _ _ ([blk b4 (.cells #[(.slice A2 (qs.length + 1) c2)] 73 (0, 0)), own (.slice A2 (qs.length + 1) c2) 74 1 (qs ++ [b16]).length ((qs ++ [b16]).flatMap pc), grp (List.zipWith rdI (qs ++ [b16]) (new12 (qs ++ [b16]).length))]) _
        rw [e3, new12_succ, rzip_snoc (by rw [new12_len]), List.flatMap_append]
        have hw1 := St.own_nil hw 81 2
        have hw2 := rd_mk (D := some ⟨[], []⟩) (lv := .slice (some ⟨lb, 0, none⟩) 112 112) (wv := .slice none 0 0) (rb := b16) (St.sel (Sb := [blk b16 (.cells #[.slice (some ⟨lb, 0, none⟩) 112 112, .slice none 0 0, .bool false] 78 (0, 0)), own (.slice (some ⟨lb, 0, none⟩) 112 112) 9 1 112 ((lK []).flatMap sc), own (.slice none 0 0) 81 2 0 [], grp (List.zipWith rdI qs (new12 qs.length)), own (.slice A2 (qs.length + 1) c2) 74 1 (qs.length + 1) (qs.flatMap pc ++ [.pointer (some ⟨b16, 0, none⟩)]), blk b4 (.cells #[(.slice A2 (qs.length + 1) c2)] 73 (0, 0))]) hw1 (by repeat (first | exact Pks.nil _ | exact Pk.here _ | apply Pk.there | apply Pks.cons)))
        have hw3 := grp_snoc (I := rdI b16 (some ⟨[], []⟩)) (St.sel (Sb := [rdI b16 (some ⟨[], []⟩), grp (List.zipWith rdI qs (new12 qs.length)), own (.slice A2 (qs.length + 1) c2) 74 1 (qs.length + 1) (qs.flatMap pc ++ [.pointer (some ⟨b16, 0, none⟩)]), blk b4 (.cells #[(.slice A2 (qs.length + 1) c2)] 73 (0, 0))]) hw2 (by repeat (first | exact Pks.nil _ | exact Pk.here _ | apply Pk.there | apply Pks.cons)))
        exact St.sel hw3 (by repeat (first | exact Pks.nil _ | exact Pk.here _ | apply Pk.there | apply Pks.cons))
      · refine js_eff (i := 7) (by rfl) (by rfl) (listed' := #[true, true, true, true, false, true, true, true, false, false, false, false, false]) (by rfl) (eff_box (by rfl) rfl) (fun _ _ _ _ hw => cw_nil hw) (by rfl) rfl ?_
        rintro _ _ ⟨b16, rfl, rfl⟩
        refine ja_two (i := 4) (j := 8) (by kernel_rfl) ?_ ?_
        · refine js_pure htm (i := 4) (by rfl) (by rfl) (listed' := #[true, true, true, true, true, true, true, true, false, false, false, false, false]) (by rfl) (opv_load (by rfl) na71 (rd_pk (by repeat (first | exact Pk.here _ | apply Pk.there))) (by rfl)) (by rfl) rfl ?_
          refine da_eff (i := 8) (by rfl) (by kernel_rfl) (by rfl) (listed' := #[true, true, true, true, true, true, true, true, true, false, false, false, false]) (by rfl) (eff_buildSlice (by rfl) (fun w => by exact bsl71_1_0 ..)) (fun _ _ _ _ hw => cw_nil hw) (by rfl) rfl ?_
          rintro _ _ ⟨b17, rfl, rfl⟩
          refine da_eff (i := 9) (by rfl) (by kernel_rfl) (by rfl) (listed' := #[true, true, true, true, true, true, true, true, true, true, false, false, false]) (by rfl) (eff_append_lit (by rfl) (by rfl) Try.underlying71 ti74 (by rfl) (by omega) (by repeat (first | exact Pk.here _ | apply Pk.there)) (rd_pk (by repeat (first | exact Pk.here _ | apply Pk.there))) (by rfl) (by rfl) (by unfold maxLen; omega) (by omega)) (fun _ _ _ _ hw => cw_nil hw) (by rfl) rfl ?_
          rintro wv2 _ ⟨rfl, _⟩
          refine ja_sv (by repeat (first | exact Pk.here _ | apply Pk.there)) (fun hsv2 => ?_)
          obtain ⟨A2, c2, rfl, _⟩ := hsv2
          refine da_any hap htm (i := 10) (by rfl) (by kernel_rfl) (by rfl) (listed' := #[true, true, true, true, true, true, true, true, true, true, true, false, false]) (by rfl) (fun _ => (opv_nilCheck (by rfl))) (by rfl) rfl ?_
          refine da_any hap htm (i := 11) (by rfl) (by kernel_rfl) (by rfl) (listed' := #[true, true, true, true, true, true, true, true, true, true, true, true, false]) (by rfl) (fun _ => (opv_fieldAddr (by rfl) fld73_0)) (by rfl) rfl ?_
          refine da_eff0 (i := 12) (by rfl) (by kernel_rfl) (by rfl) (listed' := #[true, true, true, true, true, true, true, true, true, true, true, true, true]) (by rfl) (eff_store (vs := [(.slice A2 (qs.length + 1) c2)]) (by rfl) (by rfl) (by rfl) ti71 (by rfl) (by repeat (first | exact Pk.here _ | apply Pk.there)) (by exact Nat.le_of_ble_eq_true rfl) (by rfl)) (fun _ _ _ _ hw => cw_nil hw) (by rfl) ?_
          rintro _ _ ⟨rfl, rfl⟩
          refine da_done (by kernel_rfl) ?_
          refine jk_block ?_
          refine jk_then ?_
          refine sc_region ?_
          refine so_pure (opv_move (by rfl)) (by rfl) rfl ?_
          refine so_pure (opv_add (by rfl) (by rfl) (wrap64_ok (by omega))) (by rfl) rfl ?_
          refine so_pure (opv_assign (by rfl)) (by rfl) rfl ?_
          refine jo_nil ?_
          have e3 : (qs ++ [b16]).length = qs.length + 1 := by simp
          refine jk_round (qs ++ [b16], .slice A2 (qs.length + 1) c2) ⟨by rw [e3]; omega, trivial⟩ (by show 12 - (qs ++ [b16]).length < 12 - qs.length; (rw [e3]; omega)) ⟨rfl, by rw [e3]; rfl, trivial⟩ (fun w hw => ?_)
          show St _ _ ([blk b4 (.cells #[(.slice A2 (qs.length + 1) c2)] 73 (0, 0)), own (.slice A2 (qs.length + 1) c2) 74 1 (qs ++ [b16]).length ((qs ++ [b16]).flatMap pc), grp (List.zipWith rdI (qs ++ [b16]) (new12 (qs ++ [b16]).length))]) _
          rw [e3, new12_succ, rzip_snoc (by rw [new12_len]), List.flatMap_append]
          have hw1 := St.own_nil hw 81 2
          have hw2 := rd_mk (D := some ⟨[], []⟩) (lv := .slice (some ⟨lb, 0, none⟩) 112 112) (wv := .slice none 0 0) (rb := b16) (St.sel (Sb := [blk b16 (.cells #[.slice (some ⟨lb, 0, none⟩) 112 112, .slice none 0 0, .bool false] 78 (0, 0)), own (.slice (some ⟨lb, 0, none⟩) 112 112) 9 1 112 ((lK []).flatMap sc), own (.slice none 0 0) 81 2 0 [], grp (List.zipWith rdI qs (new12 qs.length)), own (.slice A2 (qs.length + 1) c2) 74 1 (qs.length + 1) (qs.flatMap pc ++ [.pointer (some ⟨b16, 0, none⟩)]), blk b4 (.cells #[(.slice A2 (qs.length + 1) c2)] 73 (0, 0))]) hw1 (by repeat (first | exact Pks.nil _ | exact Pk.here _ | apply Pk.there | apply Pks.cons)))
          have hw3 := grp_snoc (I := rdI b16 (some ⟨[], []⟩)) (St.sel (Sb := [rdI b16 (some ⟨[], []⟩), grp (List.zipWith rdI qs (new12 qs.length)), own (.slice A2 (qs.length + 1) c2) 74 1 (qs.length + 1) (qs.flatMap pc ++ [.pointer (some ⟨b16, 0, none⟩)]), blk b4 (.cells #[(.slice A2 (qs.length + 1) c2)] 73 (0, 0))]) hw2 (by repeat (first | exact Pks.nil _ | exact Pk.here _ | apply Pk.there | apply Pks.cons)))
          exact St.sel hw3 (by repeat (first | exact Pks.nil _ | exact Pk.here _ | apply Pk.there | apply Pks.cons))
        · refine js_eff (i := 8) (by rfl) (by rfl) (listed' := #[true, true, true, true, false, true, true, true, true, false, false, false, false]) (by rfl) (eff_buildSlice (by rfl) (fun w => by exact bsl71_1_0 ..)) (fun _ _ _ _ hw => cw_nil hw) (by rfl) rfl ?_
          rintro _ _ ⟨b17, rfl, rfl⟩
          refine da_now [9, 10, 11, 12] hap htm (i := 4) (by rfl) (by kernel_rfl) (by rfl) (listed' := #[true, true, true, true, true, true, true, true, true, false, false, false, false]) (by rfl) (by kernel_rfl) (by kernel_rfl) (opv_load (by rfl) na71 (rd_pk (by repeat (first | exact Pk.here _ | apply Pk.there))) (by rfl)) (by rfl) rfl ?_
          refine da_eff (i := 9) (by rfl) (by kernel_rfl) (by rfl) (listed' := #[true, true, true, true, true, true, true, true, true, true, false, false, false]) (by rfl) (eff_append_lit (by rfl) (by rfl) Try.underlying71 ti74 (by rfl) (by omega) (by repeat (first | exact Pk.here _ | apply Pk.there)) (rd_pk (by repeat (first | exact Pk.here _ | apply Pk.there))) (by rfl) (by rfl) (by unfold maxLen; omega) (by omega)) (fun _ _ _ _ hw => cw_nil hw) (by rfl) rfl ?_
          rintro wv2 _ ⟨rfl, _⟩
          refine ja_sv (by repeat (first | exact Pk.here _ | apply Pk.there)) (fun hsv2 => ?_)
          obtain ⟨A2, c2, rfl, _⟩ := hsv2
          refine da_any hap htm (i := 10) (by rfl) (by kernel_rfl) (by rfl) (listed' := #[true, true, true, true, true, true, true, true, true, true, true, false, false]) (by rfl) (fun _ => (opv_nilCheck (by rfl))) (by rfl) rfl ?_
          refine da_any hap htm (i := 11) (by rfl) (by kernel_rfl) (by rfl) (listed' := #[true, true, true, true, true, true, true, true, true, true, true, true, false]) (by rfl) (fun _ => (opv_fieldAddr (by rfl) fld73_0)) (by rfl) rfl ?_
          refine da_eff0 (i := 12) (by rfl) (by kernel_rfl) (by rfl) (listed' := #[true, true, true, true, true, true, true, true, true, true, true, true, true]) (by rfl) (eff_store (vs := [(.slice A2 (qs.length + 1) c2)]) (by rfl) (by rfl) (by rfl) ti71 (by rfl) (by repeat (first | exact Pk.here _ | apply Pk.there)) (by exact Nat.le_of_ble_eq_true rfl) (by rfl)) (fun _ _ _ _ hw => cw_nil hw) (by rfl) ?_
          rintro _ _ ⟨rfl, rfl⟩
          refine da_done (by kernel_rfl) ?_
          refine jk_block ?_
          refine jk_then ?_
          refine sc_region ?_
          refine so_pure (opv_move (by rfl)) (by rfl) rfl ?_
          refine so_pure (opv_add (by rfl) (by rfl) (wrap64_ok (by omega))) (by rfl) rfl ?_
          refine so_pure (opv_assign (by rfl)) (by rfl) rfl ?_
          refine jo_nil ?_
          have e3 : (qs ++ [b16]).length = qs.length + 1 := by simp
          refine jk_round (qs ++ [b16], .slice A2 (qs.length + 1) c2) ⟨by rw [e3]; omega, trivial⟩ (by show 12 - (qs ++ [b16]).length < 12 - qs.length; (rw [e3]; omega)) ⟨rfl, by rw [e3]; rfl, trivial⟩ (fun w hw => ?_)
          show St _ _ ([blk b4 (.cells #[(.slice A2 (qs.length + 1) c2)] 73 (0, 0)), own (.slice A2 (qs.length + 1) c2) 74 1 (qs ++ [b16]).length ((qs ++ [b16]).flatMap pc), grp (List.zipWith rdI (qs ++ [b16]) (new12 (qs ++ [b16]).length))]) _
          rw [e3, new12_succ, rzip_snoc (by rw [new12_len]), List.flatMap_append]
          have hw1 := St.own_nil hw 81 2
          have hw2 := rd_mk (D := some ⟨[], []⟩) (lv := .slice (some ⟨lb, 0, none⟩) 112 112) (wv := .slice none 0 0) (rb := b16) (St.sel (Sb := [blk b16 (.cells #[.slice (some ⟨lb, 0, none⟩) 112 112, .slice none 0 0, .bool false] 78 (0, 0)), own (.slice (some ⟨lb, 0, none⟩) 112 112) 9 1 112 ((lK []).flatMap sc), own (.slice none 0 0) 81 2 0 [], grp (List.zipWith rdI qs (new12 qs.length)), own (.slice A2 (qs.length + 1) c2) 74 1 (qs.length + 1) (qs.flatMap pc ++ [.pointer (some ⟨b16, 0, none⟩)]), blk b4 (.cells #[(.slice A2 (qs.length + 1) c2)] 73 (0, 0))]) hw1 (by repeat (first | exact Pks.nil _ | exact Pk.here _ | apply Pk.there | apply Pks.cons)))
          have hw3 := grp_snoc (I := rdI b16 (some ⟨[], []⟩)) (St.sel (Sb := [rdI b16 (some ⟨[], []⟩), grp (List.zipWith rdI qs (new12 qs.length)), own (.slice A2 (qs.length + 1) c2) 74 1 (qs.length + 1) (qs.flatMap pc ++ [.pointer (some ⟨b16, 0, none⟩)]), blk b4 (.cells #[(.slice A2 (qs.length + 1) c2)] 73 (0, 0))]) hw2 (by repeat (first | exact Pks.nil _ | exact Pk.here _ | apply Pk.there | apply Pks.cons)))
          exact St.sel hw3 (by repeat (first | exact Pks.nil _ | exact Pk.here _ | apply Pk.there | apply Pks.cons))
  · first | have p6 := of_decide_eq_true h6 | have p6 := of_decide_eq_false h6 | have p6 := ndT h6 | have p6 := ndF h6 | have p6 := nbT h6 | have p6 := nbF h6 | have p6 := h6
    refine sc_false (by rfl) h6 ?_
    refine jc_exit ?_
    refine jk_then_exit ?_
    refine jk_then_exit ?_
    refine jk_block_exit ?_
    refine jk_then ?_
    refine jc_seq ?_
    refine sc_region ?_
    refine so_pure (opv_move (by rfl)) (by rfl) rfl ?_
    refine so_pure (opv_assign (by rfl)) (by rfl) rfl ?_
    refine jo_nil ?_
    refine jk_then ?_
    refine jc_ret ?_
    refine jk_fn_ret rfl rfl (by rfl) (fun w hw => ?_)
    have el : qs.length = 12 := by omega
    refine ⟨b4, dv, qs, el, rfl, ?_⟩
    rw [el] at hw
    exact hw
end Go.Disks
