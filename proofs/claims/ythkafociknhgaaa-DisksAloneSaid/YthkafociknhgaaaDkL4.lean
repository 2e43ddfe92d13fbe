/- A part of a proof for the laws of the seat Ythkafociknhgaaa; it has no conditions of its own. -/
import Derived.Test.YthkafociknhgaaaDkW14
import Derived.Test.YthkafociknhgaaaDkPlain
import Derived.Test.YthkafociknhgaaaDkFits
import Derived.Test.YthkafociknhgaaaSLEven
namespace Go.Disks
open Go Go.SL Go.Proofs
set_option maxHeartbeats 4000000 in
theorem law_flush (w : World) (A0 : Option Addr) (n0 c0 : Nat) (xs0 : List OpD) (hs0 : SlR w 30 6 OpD.cells A0 n0 xs0) (hok0 : ∀ o ∈ xs0, OpOk w o) (hm0 : n0 ≤ 9223372036854775807) (A1 : Option Addr) (n1 c1 : Nat) (xs1 : List Bool) (hs1 : SlR w 4 1 bc A1 n1 xs1) (hm1 : n1 ≤ 9223372036854775807) (A2 : Option Addr) (n2 c2 : Nat) (xs2 : List Bool) (hs2 : SlR w 4 1 bc A2 n2 xs2) (hm2 : n2 ≤ 9223372036854775807) : Does Try.prog 4 #[.slice A0 n0 c0, .slice A1 n1 c1, .slice A2 n2 c2] w (fun v w' => v = .bool true ∧ St w Emp [] w') := by
  refine fn_body (fn := Try.f4) Try.func4 rfl [(0, .slice A0 n0 c0), (1, .slice A1 n1 c1), (2, .slice A2 n2 c2)] (by exact ⟨rfl, rfl, rfl, trivial⟩) rfl (St.start w) ?_
  refine jc_seq ?_
  refine sc_region ?_
  refine so_pure (opv_assign (by rfl)) (by rfl) rfl ?_
  refine jo_nil ?_
  refine jk_then ?_
  refine jc_seq ?_
  refine jc_seq ?_
  refine sc_region ?_
  refine so_pure (opv_move (by rfl)) (by rfl) rfl ?_
  refine so_pure (opv_len_slice (by rfl) Try.underlying22) (by rfl) rfl ?_
  refine so_pure (opv_cmp (by rfl) (by rfl) (by rfl)) (by rfl) rfl ?_
  refine so_pure (opv_move (by rfl)) (by rfl) rfl ?_
  refine sk_split (x := 19) (by rfl) (fun h5 => ?_) (fun h5 => ?_)
  · first | have p5 := of_decide_eq_true h5 | have p5 := of_decide_eq_false h5 | have p5 := ndT h5 | have p5 := ndF h5 | have p5 := nbT h5 | have p5 := nbF h5 | have p5 := h5
    refine so_skip (wtd_not rfl rfl (by rfl) h5) rfl ?_
    refine so_skip (wtd_not rfl rfl (by rfl) h5) rfl ?_
    refine so_skip (wtd_not rfl rfl (by rfl) h5) rfl ?_
    refine so_pure (sv_pick_t (by rfl) h5 (by rfl)) (by rfl) rfl ?_
    refine so_pure (opv_move (by rfl)) (by rfl) rfl ?_
    refine so_skip (wtd_not rfl rfl (by rfl) rfl) rfl ?_
    refine so_skip (wtd_not rfl rfl (by rfl) rfl) rfl ?_
    refine so_skip (wtd_not rfl rfl (by rfl) rfl) rfl ?_
    refine so_pure (sv_pick_t (by rfl) rfl (by rfl)) (by rfl) rfl ?_
    refine jo_nil ?_
    refine jk_then ?_
    refine sc_true (by rfl) rfl ?_
    refine jc_seq ?_
    refine sc_region ?_
    refine so_eff (eff_call0 (G := fun u New => u = .bool true ∧ New = []) (by rfl) (by rfl) tx8 (by exact fun w1 hw1 => (live_spec w1).mono (fun _ _ ⟨hv, hst⟩ => ⟨[], ⟨hv, rfl⟩, hst⟩))) (by rfl) rfl ?_
    rintro _ _ ⟨_, ⟨rfl, rfl⟩, rfl⟩
    refine so_pure (opv_assign (by rfl)) (by rfl) rfl ?_
    refine jo_nil ?_
    refine jk_then ?_
    refine jc_ret ?_
    refine jk_then_ret ?_
    refine jk_fn_ret rfl rfl (by rfl) (fun w hw => ?_)
    exact ⟨rfl, hw.forget⟩
  · first | have p5 := of_decide_eq_true h5 | have p5 := of_decide_eq_false h5 | have p5 := ndT h5 | have p5 := ndF h5 | have p5 := nbT h5 | have p5 := nbF h5 | have p5 := h5
    refine so_pure (opv_move (by rfl)) (wtd_run rfl rfl (by rfl) h5) rfl ?_
    refine so_pure (opv_len_slice (by rfl) Try.underlying23) (wtd_run rfl rfl (by rfl) h5) rfl ?_
    refine so_pure (opv_cmp (by rfl) (by rfl) (by rfl)) (wtd_run rfl rfl (by rfl) h5) rfl ?_
    refine so_pure (sv_pick_f (by rfl) h5 (by rfl)) (by rfl) rfl ?_
    refine so_pure (opv_move (by rfl)) (by rfl) rfl ?_
    refine sk_split (x := 24) (by rfl) (fun h8 => ?_) (fun h8 => ?_)
    · first | have p8 := of_decide_eq_true h8 | have p8 := of_decide_eq_false h8 | have p8 := ndT h8 | have p8 := ndF h8 | have p8 := nbT h8 | have p8 := nbF h8 | have p8 := h8
      refine so_skip (wtd_not rfl rfl (by rfl) h8) rfl ?_
      refine so_skip (wtd_not rfl rfl (by rfl) h8) rfl ?_
      refine so_skip (wtd_not rfl rfl (by rfl) h8) rfl ?_
      refine so_pure (sv_pick_t (by rfl) h8 (by rfl)) (by rfl) rfl ?_
      refine jo_nil ?_
      refine jk_then ?_
      refine sc_true (by rfl) rfl ?_
      refine jc_seq ?_
      refine sc_region ?_
      refine so_eff (eff_call0 (G := fun u New => u = .bool true ∧ New = []) (by rfl) (by rfl) tx8 (by exact fun w1 hw1 => (live_spec w1).mono (fun _ _ ⟨hv, hst⟩ => ⟨[], ⟨hv, rfl⟩, hst⟩))) (by rfl) rfl ?_
      rintro _ _ ⟨_, ⟨rfl, rfl⟩, rfl⟩
      refine so_pure (opv_assign (by rfl)) (by rfl) rfl ?_
      refine jo_nil ?_
      refine jk_then ?_
      refine jc_ret ?_
      refine jk_then_ret ?_
      refine jk_fn_ret rfl rfl (by rfl) (fun w hw => ?_)
      exact ⟨rfl, hw.forget⟩
    · first | have p8 := of_decide_eq_true h8 | have p8 := of_decide_eq_false h8 | have p8 := ndT h8 | have p8 := ndF h8 | have p8 := nbT h8 | have p8 := nbF h8 | have p8 := h8
      refine so_pure (opv_move (by rfl)) (wtd_run rfl rfl (by rfl) h8) rfl ?_
      refine so_pure (opv_len_slice (by rfl) Try.underlying23) (wtd_run rfl rfl (by rfl) h8) rfl ?_
      refine so_pure (opv_cmp (by rfl) (by rfl) (by rfl)) (wtd_run rfl rfl (by rfl) h8) rfl ?_
      refine so_pure (sv_pick_f (by rfl) h8 (by rfl)) (by rfl) rfl ?_
      refine jo_nil ?_
      refine jk_then ?_
      refine sk_split (x := 28) (by rfl) (fun h11 => ?_) (fun h11 => ?_)
      · first | have p11 := of_decide_eq_true h11 | have p11 := of_decide_eq_false h11 | have p11 := ndT h11 | have p11 := ndF h11 | have p11 := nbT h11 | have p11 := nbF h11 | have p11 := h11
        refine sc_true (by rfl) h11 ?_
        refine jc_seq ?_
        refine sc_region ?_
        refine so_eff (eff_call0 (G := fun u New => u = .bool true ∧ New = []) (by rfl) (by rfl) tx8 (by exact fun w1 hw1 => (live_spec w1).mono (fun _ _ ⟨hv, hst⟩ => ⟨[], ⟨hv, rfl⟩, hst⟩))) (by rfl) rfl ?_
        rintro _ _ ⟨_, ⟨rfl, rfl⟩, rfl⟩
        refine so_pure (opv_assign (by rfl)) (by rfl) rfl ?_
        refine jo_nil ?_
        refine jk_then ?_
        refine jc_ret ?_
        refine jk_then_ret ?_
        refine jk_fn_ret rfl rfl (by rfl) (fun w hw => ?_)
        exact ⟨rfl, hw.forget⟩
      · first | have p11 := of_decide_eq_true h11 | have p11 := of_decide_eq_false h11 | have p11 := ndT h11 | have p11 := ndF h11 | have p11 := nbT h11 | have p11 := nbF h11 | have p11 := h11
        refine sc_false (by rfl) h11 ?_
        refine jc_skip ?_
        refine jk_then ?_
        refine jc_seq ?_
        refine sc_region ?_
        refine so_eff (eff_call0 (fl := []) (cl := []) (G := fun v New => ∃ bb ps, ps.length = 12 ∧ v = .pointer (some ⟨bb, 0, none⟩) ∧ New = [blk bb (.cells (ptrs ps).toArray 50 (0, 0)), grp (List.zipWith dkI ps (new12 12))]) (by rfl) (by rfl) tx9 (by exact fun w1 hw1 => (new_spec w1).mono (fun _ _ ⟨bb, ps, hl, hv, hst⟩ => ⟨_, ⟨bb, ps, hl, hv, rfl⟩, hst⟩))) (by rfl) rfl ?_
        rintro _ _ ⟨_, ⟨bb, ps, hlp, rfl, rfl⟩, rfl⟩
        refine so_pure (opv_assign (by rfl)) (by rfl) rfl ?_
        refine jo_nil ?_
        refine jk_then ?_
        refine jc_seq ?_
        refine jc_seq ?_
        refine sc_region ?_
        refine so_pure (opv_move (by rfl)) (by rfl) rfl ?_
        refine so_pure (opv_ptr_nil (by rfl) (by rfl) Try.underlying25) (by rfl) rfl ?_
        refine jo_nil ?_
        refine jk_then ?_
        refine sc_false (by rfl) rfl ?_
        refine jc_skip ?_
        refine jk_then ?_
        refine jc_seq ?_
        refine jc_seq ?_
        refine sc_region ?_
        refine so_pure (opv_assign (by rfl)) (by rfl) rfl ?_
        refine jo_nil ?_
        refine jk_then ?_
        refine jc_block ?_
        refine jc_loop (σ := Nat × List DD) (fun (i, ds) => [(0, .slice A0 n0 c0), (1, .slice A1 n1 c1), (2, .slice A2 n2 c2), (7, .pointer (some ⟨bb, 0, none⟩)), (8, .int .i64 i)]) (fun (i, ds) => [blk bb (.cells (ptrs ps).toArray 50 (0, 0)), grp (List.zipWith dkI ps ds)]) (fun (i, ds) => (i ≤ n0) ∧ (AllS ds) ∧ (WB ds i)) (fun (i, ds) => n0 - i) (0, new12 12) ⟨Nat.zero_le _, allS_new, wb_new⟩ ⟨rfl, rfl, rfl, rfl, rfl, trivial⟩ (fun w hw => St.sel hw (by repeat (first | exact Pks.nil _ | exact Pk.here _ | apply Pk.there | apply Pks.cons))) ?_
        rintro ⟨i, ds⟩ ⟨hi, hA, hW⟩
        show Jc _ _ [(0, .slice A0 n0 c0), (1, .slice A1 n1 c1), (2, .slice A2 n2 c2), (7, .pointer (some ⟨bb, 0, none⟩)), (8, .int .i64 i)] [blk bb (.cells (ptrs ps).toArray 50 (0, 0)), grp (List.zipWith dkI ps ds)] _
        refine jc_seq ?_
        refine jc_seq ?_
        refine sc_region ?_
        refine so_pure (opv_move (by rfl)) (by rfl) rfl ?_
        refine so_pure (opv_move (by rfl)) (by rfl) rfl ?_
        refine so_pure (opv_len_slice (by rfl) Try.underlying22) (by rfl) rfl ?_
        refine so_pure (opv_cmp (by rfl) (by rfl) (by rfl)) (by rfl) rfl ?_
        refine jo_nil ?_
        refine jk_then ?_
        refine sk_split (x := 36) (by rfl) (fun h17 => ?_) (fun h17 => ?_)
        · first | have p17 := of_decide_eq_true h17 | have p17 := of_decide_eq_false h17 | have p17 := ndT h17 | have p17 := ndF h17 | have p17 := nbT h17 | have p17 := nbF h17 | have p17 := h17
          refine sc_true (by rfl) h17 ?_
          refine jc_skip ?_
          refine jk_then ?_
          refine jc_seq ?_
          refine jc_block ?_
          have hlt : i < n0 := by omega
          obtain ⟨_, _, _, _, x, _, _, hx, _⟩ := hs0.get hlt
          refine so_draw [] (by kernel_rfl) (by kernel_rfl) (by kernel_rfl) rfl (by rfl) (fun hap htm => ?_)
          refine da_any hap htm (i := 0) (by rfl) (by kernel_rfl) (by rfl) (listed' := #[true, false, false, false, false, false, false, false, false, false, false, false, false, false, false, false, false]) (by rfl) (fun _ => (opv_move (by rfl))) (by rfl) rfl ?_
          refine da_any hap htm (i := 1) (by rfl) (by kernel_rfl) (by rfl) (listed' := #[true, true, false, false, false, false, false, false, false, false, false, false, false, false, false, false, false]) (by rfl) (fun _ => (opv_move (by rfl))) (by rfl) rfl ?_
          refine da_any hap htm (i := 2) (by rfl) (by kernel_rfl) (by rfl) (listed' := #[true, true, true, false, false, false, false, false, false, false, false, false, false, false, false, false, false]) (by rfl) (fun _ => (opv_move (by rfl))) (by rfl) rfl ?_
          refine da_any hap htm (i := 3) (by rfl) (by kernel_rfl) (by rfl) (listed' := #[true, true, true, true, false, false, false, false, false, false, false, false, false, false, false, false, false]) (by rfl) (fun _ => (opv_indexAddr_slr (i := i) (by rfl) hs0 (by rfl) Try.underlying22 ti30 rfl hlt)) (by rfl) rfl ?_
          refine da_any hap htm (i := 4) (by rfl) (by kernel_rfl) (by rfl) (listed' := #[true, true, true, true, true, false, false, false, false, false, false, false, false, false, false, false, false]) (by rfl) (fun _ => (opv_fieldAddr (by rfl) fld30_1)) (by rfl) rfl ?_
          refine da_now [16] hap htm (i := 5) (by rfl) (by kernel_rfl) (by rfl) (listed' := #[true, true, true, true, true, true, false, false, false, false, false, false, false, false, false, false, false]) (by rfl) (by kernel_rfl) (by kernel_rfl) (opv_load_slr (u := x) (fo := 1) (v := .int .i64 x.d) (by rfl) na3 rfl hs0 hx rfl) (by rfl) rfl ?_
          refine da_any hap htm (i := 6) (by rfl) (by kernel_rfl) (by rfl) (listed' := #[true, true, true, true, true, true, true, false, false, false, false, false, false, false, false, false, false]) (by rfl) (fun _ => (opv_move (by rfl))) (by rfl) rfl ?_
          refine da_any hap htm (i := 7) (by rfl) (by kernel_rfl) (by rfl) (listed' := #[true, true, true, true, true, true, true, true, false, false, false, false, false, false, false, false, false]) (by rfl) (fun _ => (opv_move (by rfl))) (by rfl) rfl ?_
          refine da_any hap htm (i := 8) (by rfl) (by kernel_rfl) (by rfl) (listed' := #[true, true, true, true, true, true, true, true, true, false, false, false, false, false, false, false, false]) (by rfl) (fun _ => (opv_indexAddr_slr (i := i) (by rfl) hs0 (by rfl) Try.underlying22 ti30 rfl hlt)) (by rfl) rfl ?_
          refine da_any hap htm (i := 9) (by rfl) (by kernel_rfl) (by rfl) (listed' := #[true, true, true, true, true, true, true, true, true, true, false, false, false, false, false, false, false]) (by rfl) (fun _ => (opv_fieldAddr (by rfl) fld30_2)) (by rfl) rfl ?_
          refine da_now [16] hap htm (i := 10) (by rfl) (by kernel_rfl) (by rfl) (listed' := #[true, true, true, true, true, true, true, true, true, true, true, false, false, false, false, false, false]) (by rfl) (by kernel_rfl) (by kernel_rfl) (opv_load_slr (u := x) (fo := 2) (v := .int .i64 x.n) (by rfl) na3 rfl hs0 hx rfl) (by rfl) rfl ?_
          refine da_any hap htm (i := 11) (by rfl) (by kernel_rfl) (by rfl) (listed' := #[true, true, true, true, true, true, true, true, true, true, true, true, false, false, false, false, false]) (by rfl) (fun _ => (opv_move (by rfl))) (by rfl) rfl ?_
          refine da_any hap htm (i := 12) (by rfl) (by kernel_rfl) (by rfl) (listed' := #[true, true, true, true, true, true, true, true, true, true, true, true, true, false, false, false, false]) (by rfl) (fun _ => (opv_move (by rfl))) (by rfl) rfl ?_
          refine da_any hap htm (i := 13) (by rfl) (by kernel_rfl) (by rfl) (listed' := #[true, true, true, true, true, true, true, true, true, true, true, true, true, true, false, false, false]) (by rfl) (fun _ => (opv_indexAddr_slr (i := i) (by rfl) hs0 (by rfl) Try.underlying22 ti30 rfl hlt)) (by rfl) rfl ?_
          refine da_any hap htm (i := 14) (by rfl) (by kernel_rfl) (by rfl) (listed' := #[true, true, true, true, true, true, true, true, true, true, true, true, true, true, true, false, false]) (by rfl) (fun _ => (opv_fieldAddr (by rfl) fld30_3)) (by rfl) rfl ?_
          refine da_now [16] hap htm (i := 15) (by rfl) (by kernel_rfl) (by rfl) (listed' := #[true, true, true, true, true, true, true, true, true, true, true, true, true, true, true, true, false]) (by rfl) (by kernel_rfl) (by kernel_rfl) (opv_load_slr (u := x) (fo := 3) (v := .string x.s) (by rfl) na9 rfl hs0 hx rfl) (by rfl) rfl ?_
          refine da_eff (i := 16) (by rfl) (by kernel_rfl) (by rfl) (listed' := #[true, true, true, true, true, true, true, true, true, true, true, true, true, true, true, true, true]) (by rfl) (eff_callF [blk bb (.cells (ptrs ps).toArray 50 (0, 0)), grp (List.zipWith dkI ps ds)] (fl := []) (cl := []) (G := fun v Is' => v = .int .i64 (chk ds x.d x.n x.s.size) ∧ Is' = [blk bb (.cells (ptrs ps).toArray 50 (0, 0)), grp (List.zipWith dkI ps (onD ds x.d x.n x.s.size (fun D => { D with ws := D.ws ++ [⟨x.n, x.s⟩] })))]) (by rfl) (by rfl) tx10 (by repeat (first | exact Pks.nil _ | exact Pk.here _ | apply Pk.there | apply Pks.cons)) (by exact fun w1 hw1 => (write_spec x.d x.n x.s hw1 hlp hA.1 hW (by omega)).mono (fun _ _ ⟨hv, hst⟩ => ⟨_, ⟨hv, rfl⟩, hst⟩))) (fun _ _ _ _ hw => cw_nil hw) (by rfl) rfl ?_
          rintro _ _ ⟨_, ⟨rfl, rfl⟩, rfl⟩
          refine da_done (by kernel_rfl) ?_
          refine jk_block ?_
          refine jk_then ?_
          refine sc_region ?_
          refine so_pure (opv_move (by rfl)) (by rfl) rfl ?_
          refine so_pure (opv_add (by rfl) (by rfl) (wrap64_ok (by omega))) (by rfl) rfl ?_
          refine so_pure (opv_assign (by rfl)) (by rfl) rfl ?_
          refine jo_nil ?_
          refine jk_round (i + 1, (onD ds x.d x.n x.s.size (fun D => { D with ws := D.ws ++ [⟨x.n, x.s⟩] }))) ⟨by omega, hA.onD _ _ _ _, hW.write hA.1 _ _ _⟩ (by show n0 - (i + 1) < n0 - i; omega) ⟨rfl, rfl, rfl, rfl, rfl, trivial⟩ (fun w hw => ?_)
          show St _ _ [blk bb (.cells (ptrs ps).toArray 50 (0, 0)), grp (List.zipWith dkI ps ((onD ds x.d x.n x.s.size (fun D => { D with ws := D.ws ++ [⟨x.n, x.s⟩] }))))] _
          exact St.sel hw (by repeat (first | exact Pks.nil _ | exact Pk.here _ | apply Pk.there | apply Pks.cons))
        · first | have p17 := of_decide_eq_true h17 | have p17 := of_decide_eq_false h17 | have p17 := ndT h17 | have p17 := ndF h17 | have p17 := nbT h17 | have p17 := nbF h17 | have p17 := h17
          refine sc_false (by rfl) h17 ?_
          refine jc_exit ?_
          refine jk_then_exit ?_
          refine jk_then_exit ?_
          refine jk_block_exit ?_
          refine jk_then ?_
          refine jc_seq ?_
          refine sc_region ?_
          refine so_pure (opv_move (by rfl)) (by rfl) rfl ?_
          refine so_eff (eff_callF [blk bb (.cells (ptrs ps).toArray 50 (0, 0)), grp (List.zipWith dkI ps ds)] (fl := []) (cl := []) (G := fun v Is' => ∃ b9 qs, qs.length = 12 ∧ v = .pointer (some ⟨b9, 0, none⟩) ∧ Is' = [blk b9 (.cells (ptrs qs).toArray 50 (0, 0)), grp (List.zipWith dkI qs ds), blk bb (.cells (ptrs ps).toArray 50 (0, 0)), grp (List.zipWith dkI ps ds)]) (by rfl) (by rfl) tx12 (by repeat (first | exact Pks.nil _ | exact Pk.here _ | apply Pk.there | apply Pks.cons)) (by exact fun w1 hw1 => (copy_spec hw1 hlp hA.1 hW (by omega)).mono (fun _ _ ⟨b9, qs, hl, hv, hst⟩ => ⟨_, ⟨b9, qs, hl, hv, rfl⟩, hst⟩))) (by rfl) rfl ?_
          rintro _ _ ⟨_, ⟨b9, qs, hlq, rfl, rfl⟩, rfl⟩
          refine so_pure (opv_assign (by rfl)) (by rfl) rfl ?_
          refine jo_nil ?_
          refine jk_then ?_
          refine jc_seq ?_
          refine jc_seq ?_
          refine sc_region ?_
          refine so_pure (opv_assign (by rfl)) (by rfl) rfl ?_
          refine jo_nil ?_
          refine jk_then ?_
          refine jc_block ?_
          refine jc_loop (σ := Nat) (fun k => [(0, .slice A0 n0 c0), (1, .slice A1 n1 c1), (2, .slice A2 n2 c2), (7, .pointer (some ⟨bb, 0, none⟩)), (9, .pointer (some ⟨b9, 0, none⟩)), (10, .int .i64 k)]) (fun k => [blk b9 (.cells (ptrs qs).toArray 50 (0, 0)), grp (List.zipWith dkI qs ds), blk bb (.cells (ptrs ps).toArray 50 (0, 0)), grp (List.zipWith dkI ps (flK ds k))]) (fun k => (k ≤ 12) ∧ (True)) (fun k => 12 - k) 0 ⟨Nat.zero_le _, trivial⟩ ⟨rfl, rfl, rfl, rfl, rfl, rfl, trivial⟩ (fun w hw => St.sel hw (by repeat (first | exact Pks.nil _ | exact Pk.here _ | apply Pk.there | apply Pks.cons))) ?_
          rintro k ⟨hk, ht⟩
          show Jc _ _ [(0, .slice A0 n0 c0), (1, .slice A1 n1 c1), (2, .slice A2 n2 c2), (7, .pointer (some ⟨bb, 0, none⟩)), (9, .pointer (some ⟨b9, 0, none⟩)), (10, .int .i64 k)] [blk b9 (.cells (ptrs qs).toArray 50 (0, 0)), grp (List.zipWith dkI qs ds), blk bb (.cells (ptrs ps).toArray 50 (0, 0)), grp (List.zipWith dkI ps (flK ds k))] _
          refine jc_seq ?_
          refine jc_seq ?_
          refine sc_region ?_
          refine so_pure (opv_move (by rfl)) (by rfl) rfl ?_
          refine so_pure (opv_cmp (by rfl) (by rfl) (by rfl)) (by rfl) rfl ?_
          refine jo_nil ?_
          refine jk_then ?_
          refine sk_split (x := 59) (by rfl) (fun h36 => ?_) (fun h36 => ?_)
          · first | have p36 := of_decide_eq_true h36 | have p36 := of_decide_eq_false h36 | have p36 := ndT h36 | have p36 := ndF h36 | have p36 := nbT h36 | have p36 := nbF h36 | have p36 := h36
            refine sc_true (by rfl) h36 ?_
            refine jc_skip ?_
            refine jk_then ?_
            refine jc_seq ?_
            refine jc_block ?_
            refine sc_region ?_
            refine so_pure (opv_move (by rfl)) (by rfl) rfl ?_
            refine so_pure (opv_move (by rfl)) (by rfl) rfl ?_
            refine so_eff (eff_callF [blk bb (.cells (ptrs ps).toArray 50 (0, 0)), grp (List.zipWith dkI ps (flK ds k))] (fl := []) (cl := []) (G := fun v Is' => v = .int .i64 (chk (flK ds k) (k : Int) 0 0) ∧ Is' = [blk bb (.cells (ptrs ps).toArray 50 (0, 0)), grp (List.zipWith dkI ps (onD (flK ds k) (k : Int) 0 0 (settleD (fun _ => some false))))]) (by rfl) (by rfl) tx11 (by repeat (first | exact Pks.nil _ | exact Pk.here _ | apply Pk.there | apply Pks.cons)) (by exact fun w1 hw1 => (flush_spec (k : Int) hw1 hlp (flK_allS hA k).1 (flK_wb hA hW k) (by omega)).mono (fun _ _ ⟨hv, hst⟩ => ⟨_, ⟨hv, rfl⟩, hst⟩))) (by rfl) rfl ?_
            rintro _ _ ⟨_, ⟨rfl, rfl⟩, rfl⟩
            refine jo_nil ?_
            refine jk_block ?_
            refine jk_then ?_
            refine sc_region ?_
            refine so_pure (opv_move (by rfl)) (by rfl) rfl ?_
            refine so_pure (opv_add (by rfl) (by rfl) (wrap64_ok (by omega))) (by rfl) rfl ?_
            refine so_pure (opv_assign (by rfl)) (by rfl) rfl ?_
            refine jo_nil ?_
            refine jk_round (k + 1) ⟨by omega, trivial⟩ (by show 12 - (k + 1) < 12 - k; omega) ⟨rfl, rfl, rfl, rfl, rfl, rfl, trivial⟩ (fun w hw => ?_)
            show St _ _ [blk b9 (.cells (ptrs qs).toArray 50 (0, 0)), grp (List.zipWith dkI qs ds), blk bb (.cells (ptrs ps).toArray 50 (0, 0)), grp (List.zipWith dkI ps (flK ds (k + 1)))] _
            exact St.sel hw (by repeat (first | exact Pks.nil _ | exact Pk.here _ | apply Pk.there | apply Pks.cons))
          · first | have p36 := of_decide_eq_true h36 | have p36 := of_decide_eq_false h36 | have p36 := ndT h36 | have p36 := ndF h36 | have p36 := nbT h36 | have p36 := nbF h36 | have p36 := h36
            refine sc_false (by rfl) h36 ?_
            refine jc_exit ?_
            refine jk_then_exit ?_
            refine jk_then_exit ?_
            refine jk_block_exit ?_
            refine jk_then ?_
            refine jc_seq ?_
            obtain rfl : k = 12 := by omega
            refine sc_region ?_
            refine so_pure (opv_move (by rfl)) (by rfl) rfl ?_
            refine so_pure (opv_move (by rfl)) (by rfl) rfl ?_
            refine so_pure (opv_move (by rfl)) (by rfl) rfl ?_
            refine so_eff (eff_callF [blk bb (.cells (ptrs ps).toArray 50 (0, 0)), grp (List.zipWith dkI ps (flK ds 12))] (fl := []) (cl := []) (G := fun v Is' => v = .int .i64 0 ∧ Is' = [blk bb (.cells (ptrs ps).toArray 50 (0, 0)), grp (List.zipWith dkI ps (crashK xs1 xs2 (flK ds 12) 12))]) (by rfl) (by rfl) tx13 (by repeat (first | exact Pks.nil _ | exact Pk.here _ | apply Pk.there | apply Pks.cons)) (by exact fun w1 hw1 => (crash_spec A1 A2 n1 n2 c1 c2 xs1 xs2 hw1 hlp (flK_allS hA 12).1 (flK_wb hA hW 12) (by omega) (fun w1 hw1 => hs1.keepSt hw1) (fun w1 hw1 => hs2.keepSt hw1)).mono (fun _ _ ⟨hv, hst⟩ => ⟨_, ⟨hv, rfl⟩, hst⟩))) (by rfl) rfl ?_
            rintro _ _ ⟨_, ⟨rfl, rfl⟩, rfl⟩
            rw [crashK_id _ _ (fun k D h => flushed_nil hA h) 12]
            refine jo_nil ?_
            refine jk_then ?_
            refine jc_seq ?_
            refine jc_seq ?_
            refine sc_region ?_
            refine so_pure (opv_assign (by rfl)) (by rfl) rfl ?_
            refine jo_nil ?_
            refine jk_then ?_
            refine jc_block ?_
            refine jc_loop (σ := Nat) (fun j => [(0, .slice A0 n0 c0), (1, .slice A1 n1 c1), (2, .slice A2 n2 c2), (7, .pointer (some ⟨bb, 0, none⟩)), (9, .pointer (some ⟨b9, 0, none⟩)), (11, .int .i64 j)]) (fun j => [blk b9 (.cells (ptrs qs).toArray 50 (0, 0)), grp (List.zipWith dkI qs ds), blk bb (.cells (ptrs ps).toArray 50 (0, 0)), grp (List.zipWith dkI ps (flK ds 12))]) (fun j => (j ≤ n0) ∧ (True)) (fun j => n0 - j) 0 ⟨Nat.zero_le _, trivial⟩ ⟨rfl, rfl, rfl, rfl, rfl, rfl, trivial⟩ (fun w hw => St.sel hw (by repeat (first | exact Pks.nil _ | exact Pk.here _ | apply Pk.there | apply Pks.cons))) ?_
            rintro j ⟨hj, ht⟩
            show Jc _ _ [(0, .slice A0 n0 c0), (1, .slice A1 n1 c1), (2, .slice A2 n2 c2), (7, .pointer (some ⟨bb, 0, none⟩)), (9, .pointer (some ⟨b9, 0, none⟩)), (11, .int .i64 j)] [blk b9 (.cells (ptrs qs).toArray 50 (0, 0)), grp (List.zipWith dkI qs ds), blk bb (.cells (ptrs ps).toArray 50 (0, 0)), grp (List.zipWith dkI ps (flK ds 12))] _
            refine jc_seq ?_
            refine jc_seq ?_
            refine sc_region ?_
            refine so_pure (opv_move (by rfl)) (by rfl) rfl ?_
            refine so_pure (opv_move (by rfl)) (by rfl) rfl ?_
            refine so_pure (opv_len_slice (by rfl) Try.underlying22) (by rfl) rfl ?_
            refine so_pure (opv_cmp (by rfl) (by rfl) (by rfl)) (by rfl) rfl ?_
            refine jo_nil ?_
            refine jk_then ?_
            refine sk_split (x := 72) (by rfl) (fun h45 => ?_) (fun h45 => ?_)
            · first | have p45 := of_decide_eq_true h45 | have p45 := of_decide_eq_false h45 | have p45 := ndT h45 | have p45 := ndF h45 | have p45 := nbT h45 | have p45 := nbF h45 | have p45 := h45
              refine sc_true (by rfl) h45 ?_
              refine jc_skip ?_
              refine jk_then ?_
              refine jc_seq ?_
              refine jc_block ?_
              refine jc_seq ?_
              have hlt : j < n0 := by omega
              obtain ⟨_, _, _, _, x, _, _, hx, _⟩ := hs0.get hlt
              refine so_draw [] (by kernel_rfl) (by kernel_rfl) (by kernel_rfl) rfl (by rfl) (fun hap htm => ?_)
              refine da_any hap htm (i := 0) (by rfl) (by kernel_rfl) (by rfl) (listed' := #[true, false, false, false, false, false, false, false, false, false, false, false, false, false, false, false, false]) (by rfl) (fun _ => (opv_move (by rfl))) (by rfl) rfl ?_
              refine da_any hap htm (i := 1) (by rfl) (by kernel_rfl) (by rfl) (listed' := #[true, true, false, false, false, false, false, false, false, false, false, false, false, false, false, false, false]) (by rfl) (fun _ => (opv_move (by rfl))) (by rfl) rfl ?_
              refine da_any hap htm (i := 2) (by rfl) (by kernel_rfl) (by rfl) (listed' := #[true, true, true, false, false, false, false, false, false, false, false, false, false, false, false, false, false]) (by rfl) (fun _ => (opv_move (by rfl))) (by rfl) rfl ?_
              refine da_any hap htm (i := 3) (by rfl) (by kernel_rfl) (by rfl) (listed' := #[true, true, true, true, false, false, false, false, false, false, false, false, false, false, false, false, false]) (by rfl) (fun _ => (opv_indexAddr_slr (i := j) (by rfl) hs0 (by rfl) Try.underlying22 ti30 rfl hlt)) (by rfl) rfl ?_
              refine da_any hap htm (i := 4) (by rfl) (by kernel_rfl) (by rfl) (listed' := #[true, true, true, true, true, false, false, false, false, false, false, false, false, false, false, false, false]) (by rfl) (fun _ => (opv_fieldAddr (by rfl) fld30_1)) (by rfl) rfl ?_
              refine da_now [11, 12, 13, 14, 15, 16] hap htm (i := 5) (by rfl) (by kernel_rfl) (by rfl) (listed' := #[true, true, true, true, true, true, false, false, false, false, false, false, false, false, false, false, false]) (by rfl) (by kernel_rfl) (by kernel_rfl) (opv_load_slr (u := x) (fo := 1) (v := .int .i64 x.d) (by rfl) na3 rfl hs0 hx rfl) (by rfl) rfl ?_
              refine da_any hap htm (i := 6) (by rfl) (by kernel_rfl) (by rfl) (listed' := #[true, true, true, true, true, true, true, false, false, false, false, false, false, false, false, false, false]) (by rfl) (fun _ => (opv_move (by rfl))) (by rfl) rfl ?_
              refine da_any hap htm (i := 7) (by rfl) (by kernel_rfl) (by rfl) (listed' := #[true, true, true, true, true, true, true, true, false, false, false, false, false, false, false, false, false]) (by rfl) (fun _ => (opv_move (by rfl))) (by rfl) rfl ?_
              refine da_any hap htm (i := 8) (by rfl) (by kernel_rfl) (by rfl) (listed' := #[true, true, true, true, true, true, true, true, true, false, false, false, false, false, false, false, false]) (by rfl) (fun _ => (opv_indexAddr_slr (i := j) (by rfl) hs0 (by rfl) Try.underlying22 ti30 rfl hlt)) (by rfl) rfl ?_
              refine da_any hap htm (i := 9) (by rfl) (by kernel_rfl) (by rfl) (listed' := #[true, true, true, true, true, true, true, true, true, true, false, false, false, false, false, false, false]) (by rfl) (fun _ => (opv_fieldAddr (by rfl) fld30_2)) (by rfl) rfl ?_
              refine da_now [11, 12, 13, 14, 15, 16] hap htm (i := 10) (by rfl) (by kernel_rfl) (by rfl) (listed' := #[true, true, true, true, true, true, true, true, true, true, true, false, false, false, false, false, false]) (by rfl) (by kernel_rfl) (by kernel_rfl) (opv_load_slr (u := x) (fo := 2) (v := .int .i64 x.n) (by rfl) na3 rfl hs0 hx rfl) (by rfl) rfl ?_
              refine da_eff (i := 11) (by rfl) (by kernel_rfl) (by rfl) (listed' := #[true, true, true, true, true, true, true, true, true, true, true, true, false, false, false, false, false]) (by rfl) (eff_callF [blk bb (.cells (ptrs ps).toArray 50 (0, 0)), grp (List.zipWith dkI ps (flK ds 12))] (fl := []) (cl := []) (G := fun v Is' => v = .tuple #[.string (rdD (flK ds 12) x.d x.n), .int .i64 (chk (flK ds 12) x.d x.n 0)] ∧ Is' = [blk bb (.cells (ptrs ps).toArray 50 (0, 0)), grp (List.zipWith dkI ps (flK ds 12))]) (by rfl) (by rfl) tx14 (by repeat (first | exact Pks.nil _ | exact Pk.here _ | apply Pk.there | apply Pks.cons)) (by exact fun w1 hw1 => (read_spec x.d x.n hw1 hlp (flK_allS hA 12).1 (flK_wb hA hW 12) (by omega)).mono (fun _ _ ⟨hv, hst⟩ => ⟨_, ⟨hv, rfl⟩, hst⟩))) (fun _ _ _ _ hw => cw_nil hw) (by rfl) rfl ?_
              rintro _ _ ⟨_, ⟨rfl, rfl⟩, rfl⟩
              rw [flushed_read hA, (flK_allS hA 12).chk hA]
              refine da_any hap htm (i := 12) (by rfl) (by kernel_rfl) (by rfl) (listed' := #[true, true, true, true, true, true, true, true, true, true, true, true, true, false, false, false, false]) (by rfl) (fun _ => (opv_move (by rfl))) (by rfl) rfl ?_
              refine da_any hap htm (i := 13) (by rfl) (by kernel_rfl) (by rfl) (listed' := #[true, true, true, true, true, true, true, true, true, true, true, true, true, true, false, false, false]) (by rfl) (fun _ => (opv_extract (by rfl) (by rfl))) (by rfl) rfl ?_
              refine da_any hap htm (i := 14) (by rfl) (by kernel_rfl) (by rfl) (listed' := #[true, true, true, true, true, true, true, true, true, true, true, true, true, true, true, false, false]) (by rfl) (fun _ => (opv_extract (by rfl) (by rfl))) (by rfl) rfl ?_
              refine da_any hap htm (i := 15) (by rfl) (by kernel_rfl) (by rfl) (listed' := #[true, true, true, true, true, true, true, true, true, true, true, true, true, true, true, true, false]) (by rfl) (fun _ => (opv_assign (by rfl))) (by rfl) rfl ?_
              refine da_any hap htm (i := 16) (by rfl) (by kernel_rfl) (by rfl) (listed' := #[true, true, true, true, true, true, true, true, true, true, true, true, true, true, true, true, true]) (by rfl) (fun _ => (opv_assign (by rfl))) (by rfl) rfl ?_
              refine da_done (by kernel_rfl) ?_
              refine jk_then ?_
              refine jc_seq ?_
              refine so_draw [] (by kernel_rfl) (by kernel_rfl) (by kernel_rfl) rfl (by rfl) (fun hap htm => ?_)
              refine da_any hap htm (i := 0) (by rfl) (by kernel_rfl) (by rfl) (listed' := #[true, false, false, false, false, false, false, false, false, false, false, false, false, false, false, false, false]) (by rfl) (fun _ => (opv_move (by rfl))) (by rfl) rfl ?_
              refine da_any hap htm (i := 1) (by rfl) (by kernel_rfl) (by rfl) (listed' := #[true, true, false, false, false, false, false, false, false, false, false, false, false, false, false, false, false]) (by rfl) (fun _ => (opv_move (by rfl))) (by rfl) rfl ?_
              refine da_any hap htm (i := 2) (by rfl) (by kernel_rfl) (by rfl) (listed' := #[true, true, true, false, false, false, false, false, false, false, false, false, false, false, false, false, false]) (by rfl) (fun _ => (opv_move (by rfl))) (by rfl) rfl ?_
              refine da_any hap htm (i := 3) (by rfl) (by kernel_rfl) (by rfl) (listed' := #[true, true, true, true, false, false, false, false, false, false, false, false, false, false, false, false, false]) (by rfl) (fun _ => (opv_indexAddr_slr (i := j) (by rfl) hs0 (by rfl) Try.underlying22 ti30 rfl hlt)) (by rfl) rfl ?_
              refine da_any hap htm (i := 4) (by rfl) (by kernel_rfl) (by rfl) (listed' := #[true, true, true, true, true, false, false, false, false, false, false, false, false, false, false, false, false]) (by rfl) (fun _ => (opv_fieldAddr (by rfl) fld30_1)) (by rfl) rfl ?_
              refine da_now [11, 12, 13, 14, 15, 16] hap htm (i := 5) (by rfl) (by kernel_rfl) (by rfl) (listed' := #[true, true, true, true, true, true, false, false, false, false, false, false, false, false, false, false, false]) (by rfl) (by kernel_rfl) (by kernel_rfl) (opv_load_slr (u := x) (fo := 1) (v := .int .i64 x.d) (by rfl) na3 rfl hs0 hx rfl) (by rfl) rfl ?_
              refine da_any hap htm (i := 6) (by rfl) (by kernel_rfl) (by rfl) (listed' := #[true, true, true, true, true, true, true, false, false, false, false, false, false, false, false, false, false]) (by rfl) (fun _ => (opv_move (by rfl))) (by rfl) rfl ?_
              refine da_any hap htm (i := 7) (by rfl) (by kernel_rfl) (by rfl) (listed' := #[true, true, true, true, true, true, true, true, false, false, false, false, false, false, false, false, false]) (by rfl) (fun _ => (opv_move (by rfl))) (by rfl) rfl ?_
              refine da_any hap htm (i := 8) (by rfl) (by kernel_rfl) (by rfl) (listed' := #[true, true, true, true, true, true, true, true, true, false, false, false, false, false, false, false, false]) (by rfl) (fun _ => (opv_indexAddr_slr (i := j) (by rfl) hs0 (by rfl) Try.underlying22 ti30 rfl hlt)) (by rfl) rfl ?_
              refine da_any hap htm (i := 9) (by rfl) (by kernel_rfl) (by rfl) (listed' := #[true, true, true, true, true, true, true, true, true, true, false, false, false, false, false, false, false]) (by rfl) (fun _ => (opv_fieldAddr (by rfl) fld30_2)) (by rfl) rfl ?_
              refine da_now [11, 12, 13, 14, 15, 16] hap htm (i := 10) (by rfl) (by kernel_rfl) (by rfl) (listed' := #[true, true, true, true, true, true, true, true, true, true, true, false, false, false, false, false, false]) (by rfl) (by kernel_rfl) (by kernel_rfl) (opv_load_slr (u := x) (fo := 2) (v := .int .i64 x.n) (by rfl) na3 rfl hs0 hx rfl) (by rfl) rfl ?_
              refine da_eff (i := 11) (by rfl) (by kernel_rfl) (by rfl) (listed' := #[true, true, true, true, true, true, true, true, true, true, true, true, false, false, false, false, false]) (by rfl) (eff_callF [blk b9 (.cells (ptrs qs).toArray 50 (0, 0)), grp (List.zipWith dkI qs ds)] (fl := []) (cl := []) (G := fun v Is' => v = .tuple #[.string (rdD ds x.d x.n), .int .i64 (chk ds x.d x.n 0)] ∧ Is' = [blk b9 (.cells (ptrs qs).toArray 50 (0, 0)), grp (List.zipWith dkI qs ds)]) (by rfl) (by rfl) tx14 (by repeat (first | exact Pks.nil _ | exact Pk.here _ | apply Pk.there | apply Pks.cons)) (by exact fun w1 hw1 => (read_spec x.d x.n hw1 hlq hA.1 hW (by omega)).mono (fun _ _ ⟨hv, hst⟩ => ⟨_, ⟨hv, rfl⟩, hst⟩))) (fun _ _ _ _ hw => cw_nil hw) (by rfl) rfl ?_
              rintro _ _ ⟨_, ⟨rfl, rfl⟩, rfl⟩
              refine da_any hap htm (i := 12) (by rfl) (by kernel_rfl) (by rfl) (listed' := #[true, true, true, true, true, true, true, true, true, true, true, true, true, false, false, false, false]) (by rfl) (fun _ => (opv_move (by rfl))) (by rfl) rfl ?_
              refine da_any hap htm (i := 13) (by rfl) (by kernel_rfl) (by rfl) (listed' := #[true, true, true, true, true, true, true, true, true, true, true, true, true, true, false, false, false]) (by rfl) (fun _ => (opv_extract (by rfl) (by rfl))) (by rfl) rfl ?_
              refine da_any hap htm (i := 14) (by rfl) (by kernel_rfl) (by rfl) (listed' := #[true, true, true, true, true, true, true, true, true, true, true, true, true, true, true, false, false]) (by rfl) (fun _ => (opv_extract (by rfl) (by rfl))) (by rfl) rfl ?_
              refine da_any hap htm (i := 15) (by rfl) (by kernel_rfl) (by rfl) (listed' := #[true, true, true, true, true, true, true, true, true, true, true, true, true, true, true, true, false]) (by rfl) (fun _ => (opv_assign (by rfl))) (by rfl) rfl ?_
              refine da_any hap htm (i := 16) (by rfl) (by kernel_rfl) (by rfl) (listed' := #[true, true, true, true, true, true, true, true, true, true, true, true, true, true, true, true, true]) (by rfl) (fun _ => (opv_assign (by rfl))) (by rfl) rfl ?_
              refine da_done (by kernel_rfl) ?_
              refine jk_then ?_
              refine jc_seq ?_
              refine sc_region ?_
              refine so_pure (opv_move (by rfl)) (by rfl) rfl ?_
              refine so_pure (opv_move (by rfl)) (by rfl) rfl ?_
              refine so_pure (opv_sne_false (by rfl) (by rfl) rfl) (by rfl) rfl ?_
              refine so_pure (opv_move (by rfl)) (by rfl) rfl ?_
              refine so_pure (opv_move (by rfl)) (wtd_run rfl rfl (by rfl) rfl) rfl ?_
              refine so_pure (opv_move (by rfl)) (wtd_run rfl rfl (by rfl) rfl) rfl ?_
              refine so_pure (opv_cmp (b := false) (by rfl) (by rfl) (by exact congrArg some (by simp))) (wtd_run rfl rfl (by rfl) rfl) rfl ?_
              refine so_pure (sv_pick_f (by rfl) rfl (by rfl)) (by rfl) rfl ?_
              refine so_pure (opv_move (by rfl)) (by rfl) rfl ?_
              refine so_pure (opv_move (by rfl)) (wtd_run rfl rfl (by rfl) rfl) rfl ?_
              refine so_pure (opv_move (by rfl)) (wtd_run rfl rfl (by rfl) rfl) rfl ?_
              refine so_pure (opv_move (by rfl)) (wtd_run rfl rfl (by rfl) rfl) rfl ?_
              refine so_pure (opv_indexAddr_slr (i := j) (by rfl) hs0 (by rfl) Try.underlying22 ti30 rfl hlt) (wtd_run rfl rfl (by rfl) rfl) rfl ?_
              refine so_pure (opv_fieldAddr (by rfl) fld30_1) (wtd_run rfl rfl (by rfl) rfl) rfl ?_
              refine so_pure (opv_load_slr (u := x) (fo := 1) (v := .int .i64 x.d) (by rfl) na3 rfl hs0 hx rfl) (wtd_run rfl rfl (by rfl) rfl) rfl ?_
              refine so_eff (eff_callF [blk bb (.cells (ptrs ps).toArray 50 (0, 0)), grp (List.zipWith dkI ps (flK ds 12))] (fl := []) (cl := []) (G := fun v Is' => v = .int .i64 (waitsD (flK ds 12) x.d) ∧ Is' = [blk bb (.cells (ptrs ps).toArray 50 (0, 0)), grp (List.zipWith dkI ps (flK ds 12))]) (by rfl) (by rfl) tx15 (by repeat (first | exact Pks.nil _ | exact Pk.here _ | apply Pk.there | apply Pks.cons)) (by exact fun w1 hw1 => (waits_spec x.d hw1 hlp (flK_allS hA 12).1 ).mono (fun _ _ ⟨hv, hst⟩ => ⟨_, ⟨hv, rfl⟩, hst⟩))) (wtd_run rfl rfl (by rfl) rfl) rfl ?_
              rintro _ _ ⟨_, ⟨rfl, rfl⟩, rfl⟩
              rw [flushed_waits hA]
              refine so_pure (opv_cmp (b := false) (by rfl) (by rfl) (by rfl)) (wtd_run rfl rfl (by rfl) rfl) rfl ?_
              refine so_pure (sv_pick_f (by rfl) rfl (by rfl)) (by rfl) rfl ?_
              refine jo_nil ?_
              refine jk_then ?_
              refine sc_false (by rfl) rfl ?_
              refine jc_skip ?_
              refine jk_block ?_
              refine jk_then ?_
              refine sc_region ?_
              refine so_pure (opv_move (by rfl)) (by rfl) rfl ?_
              refine so_pure (opv_add (by rfl) (by rfl) (wrap64_ok (by omega))) (by rfl) rfl ?_
              refine so_pure (opv_assign (by rfl)) (by rfl) rfl ?_
              refine jo_nil ?_
              refine jk_round (j + 1) ⟨by omega, trivial⟩ (by show n0 - (j + 1) < n0 - j; omega) ⟨rfl, rfl, rfl, rfl, rfl, rfl, trivial⟩ (fun w hw => ?_)
              show St _ _ [blk b9 (.cells (ptrs qs).toArray 50 (0, 0)), grp (List.zipWith dkI qs ds), blk bb (.cells (ptrs ps).toArray 50 (0, 0)), grp (List.zipWith dkI ps (flK ds 12))] _
              exact St.sel hw (by repeat (first | exact Pks.nil _ | exact Pk.here _ | apply Pk.there | apply Pks.cons))
            · first | have p45 := of_decide_eq_true h45 | have p45 := of_decide_eq_false h45 | have p45 := ndT h45 | have p45 := ndF h45 | have p45 := nbT h45 | have p45 := nbF h45 | have p45 := h45
              refine sc_false (by rfl) h45 ?_
              refine jc_exit ?_
              refine jk_then_exit ?_
              refine jk_then_exit ?_
              refine jk_block_exit ?_
              refine jk_then ?_
              refine jc_seq ?_
              refine sc_region ?_
              refine so_eff (eff_call0 (G := fun u New => u = .bool true ∧ New = []) (by rfl) (by rfl) tx8 (by exact fun w1 hw1 => (live_spec w1).mono (fun _ _ ⟨hv, hst⟩ => ⟨[], ⟨hv, rfl⟩, hst⟩))) (by rfl) rfl ?_
              rintro _ _ ⟨_, ⟨rfl, rfl⟩, rfl⟩
              refine so_pure (opv_assign (by rfl)) (by rfl) rfl ?_
              refine jo_nil ?_
              refine jk_then ?_
              refine jc_ret ?_
              refine jk_fn_ret rfl rfl (by rfl) (fun w hw => ?_)
              exact ⟨rfl, hw.forget⟩
end Go.Disks
