/- A part of a proof for the laws of the seat Ythkafociknhgaaa; it has no conditions of its own. -/
import Derived.Test.YthkafociknhgaaaDkL4
import Derived.Test.YthkafociknhgaaaDkPlain2
namespace Go.Disks
open Go Go.SL Go.Proofs
set_option maxHeartbeats 4000000 in
theorem law_crash (w : World) (A0 : Option Addr) (n0 c0 : Nat) (xs0 : List OpD) (hs0 : SlR w 30 6 OpD.cells A0 n0 xs0) (hok0 : ∀ o ∈ xs0, OpOk w o) (hm0 : n0 ≤ 9223372036854775807) (A1 : Option Addr) (n1 c1 : Nat) (xs1 : List OpD) (hs1 : SlR w 30 6 OpD.cells A1 n1 xs1) (hok1 : ∀ o ∈ xs1, OpOk w o) (hm1 : n1 ≤ 9223372036854775807) (A2 : Option Addr) (n2 c2 : Nat) (xs2 : List Bool) (hs2 : SlR w 4 1 bc A2 n2 xs2) (hm2 : n2 ≤ 9223372036854775807) : Does Try.prog 3 #[.slice A0 n0 c0, .slice A1 n1 c1, .slice A2 n2 c2] w (fun v w' => v = .bool true ∧ St w Emp [] w') := by
  refine fn_body (fn := Try.f3) Try.func3 rfl [(0, .slice A0 n0 c0), (1, .slice A1 n1 c1), (2, .slice A2 n2 c2)] (by exact ⟨rfl, rfl, rfl, trivial⟩) rfl (St.start w) ?_
  refine jc_seq ?_
  refine sc_region ?_
  refine so_pure (opv_assign (by rfl)) (by rfl) rfl ?_
  refine jo_nil ?_
  refine jk_then ?_
  refine jc_seq ?_
  refine jc_seq ?_
  refine sc_region ?_
  refine so_pure (opv_move (by rfl)) (by rfl) rfl ?_
  refine so_pure (opv_len_slice (by rfl) Try.underlying22) (by rfl) rfl ?_
  refine so_pure (opv_cmp (by rfl) (by rfl) (by rfl)) (by rfl) rfl ?_
  refine so_pure (opv_move (by rfl)) (by rfl) rfl ?_
  refine sk_split (x := 22) (by rfl) (fun h5 => ?_) (fun h5 => ?_)
  · first | have p5 := of_decide_eq_true h5 | have p5 := of_decide_eq_false h5 | have p5 := ndT h5 | have p5 := ndF h5 | have p5 := nbT h5 | have p5 := nbF h5 | have p5 := h5
    refine so_skip (wtd_not rfl rfl (by rfl) h5) rfl ?_
    refine so_skip (wtd_not rfl rfl (by rfl) h5) rfl ?_
    refine so_skip (wtd_not rfl rfl (by rfl) h5) rfl ?_
    refine so_pure (sv_pick_t (by rfl) h5 (by rfl)) (by rfl) rfl ?_
    refine so_pure (opv_move (by rfl)) (by rfl) rfl ?_
    refine so_skip (wtd_not rfl rfl (by rfl) rfl) rfl ?_
    refine so_skip (wtd_not rfl rfl (by rfl) rfl) rfl ?_
    refine so_skip (wtd_not rfl rfl (by rfl) rfl) rfl ?_
    refine so_pure (sv_pick_t (by rfl) rfl (by rfl)) (by rfl) rfl ?_
    refine jo_nil ?_
    refine jk_then ?_
    refine sc_true (by rfl) rfl ?_
    refine jc_seq ?_
    refine sc_region ?_
    refine so_eff (eff_call0 (G := fun u New => u = .bool true ∧ New = []) (by rfl) (by rfl) tx8 (by exact fun w1 hw1 => (live_spec w1).mono (fun _ _ ⟨hv, hst⟩ => ⟨[], ⟨hv, rfl⟩, hst⟩))) (by rfl) rfl ?_
    rintro _ _ ⟨_, ⟨rfl, rfl⟩, rfl⟩
    refine so_pure (opv_assign (by rfl)) (by rfl) rfl ?_
    refine jo_nil ?_
    refine jk_then ?_
    refine jc_ret ?_
    refine jk_then_ret ?_
    refine jk_fn_ret rfl rfl (by rfl) (fun w hw => ?_)
    exact ⟨rfl, hw.forget⟩
  · first | have p5 := of_decide_eq_true h5 | have p5 := of_decide_eq_false h5 | have p5 := ndT h5 | have p5 := ndF h5 | have p5 := nbT h5 | have p5 := nbF h5 | have p5 := h5
    refine so_pure (opv_move (by rfl)) (wtd_run rfl rfl (by rfl) h5) rfl ?_
    refine so_pure (opv_len_slice (by rfl) Try.underlying22) (wtd_run rfl rfl (by rfl) h5) rfl ?_
    refine so_pure (opv_cmp (by rfl) (by rfl) (by rfl)) (wtd_run rfl rfl (by rfl) h5) rfl ?_
    refine so_pure (sv_pick_f (by rfl) h5 (by rfl)) (by rfl) rfl ?_
    refine so_pure (opv_move (by rfl)) (by rfl) rfl ?_
    refine sk_split (x := 27) (by rfl) (fun h8 => ?_) (fun h8 => ?_)
    · first | have p8 := of_decide_eq_true h8 | have p8 := of_decide_eq_false h8 | have p8 := ndT h8 | have p8 := ndF h8 | have p8 := nbT h8 | have p8 := nbF h8 | have p8 := h8
      refine so_skip (wtd_not rfl rfl (by rfl) h8) rfl ?_
      refine so_skip (wtd_not rfl rfl (by rfl) h8) rfl ?_
      refine so_skip (wtd_not rfl rfl (by rfl) h8) rfl ?_
      refine so_pure (sv_pick_t (by rfl) h8 (by rfl)) (by rfl) rfl ?_
      refine jo_nil ?_
      refine jk_then ?_
      refine sc_true (by rfl) rfl ?_
      refine jc_seq ?_
      refine sc_region ?_
      refine so_eff (eff_call0 (G := fun u New => u = .bool true ∧ New = []) (by rfl) (by rfl) tx8 (by exact fun w1 hw1 => (live_spec w1).mono (fun _ _ ⟨hv, hst⟩ => ⟨[], ⟨hv, rfl⟩, hst⟩))) (by rfl) rfl ?_
      rintro _ _ ⟨_, ⟨rfl, rfl⟩, rfl⟩
      refine so_pure (opv_assign (by rfl)) (by rfl) rfl ?_
      refine jo_nil ?_
      refine jk_then ?_
      refine jc_ret ?_
      refine jk_then_ret ?_
      refine jk_fn_ret rfl rfl (by rfl) (fun w hw => ?_)
      exact ⟨rfl, hw.forget⟩
    · first | have p8 := of_decide_eq_true h8 | have p8 := of_decide_eq_false h8 | have p8 := ndT h8 | have p8 := ndF h8 | have p8 := nbT h8 | have p8 := nbF h8 | have p8 := h8
      refine so_pure (opv_move (by rfl)) (wtd_run rfl rfl (by rfl) h8) rfl ?_
      refine so_pure (opv_len_slice (by rfl) Try.underlying23) (wtd_run rfl rfl (by rfl) h8) rfl ?_
      refine so_pure (opv_cmp (by rfl) (by rfl) (by rfl)) (wtd_run rfl rfl (by rfl) h8) rfl ?_
      refine so_pure (sv_pick_f (by rfl) h8 (by rfl)) (by rfl) rfl ?_
      refine jo_nil ?_
      refine jk_then ?_
      refine sk_split (x := 31) (by rfl) (fun h11 => ?_) (fun h11 => ?_)
      · first | have p11 := of_decide_eq_true h11 | have p11 := of_decide_eq_false h11 | have p11 := ndT h11 | have p11 := ndF h11 | have p11 := nbT h11 | have p11 := nbF h11 | have p11 := h11
        refine sc_true (by rfl) h11 ?_
        refine jc_seq ?_
        refine sc_region ?_
        refine so_eff (eff_call0 (G := fun u New => u = .bool true ∧ New = []) (by rfl) (by rfl) tx8 (by exact fun w1 hw1 => (live_spec w1).mono (fun _ _ ⟨hv, hst⟩ => ⟨[], ⟨hv, rfl⟩, hst⟩))) (by rfl) rfl ?_
        rintro _ _ ⟨_, ⟨rfl, rfl⟩, rfl⟩
        refine so_pure (opv_assign (by rfl)) (by rfl) rfl ?_
        refine jo_nil ?_
        refine jk_then ?_
        refine jc_ret ?_
        refine jk_then_ret ?_
        refine jk_fn_ret rfl rfl (by rfl) (fun w hw => ?_)
        exact ⟨rfl, hw.forget⟩
      · first | have p11 := of_decide_eq_true h11 | have p11 := of_decide_eq_false h11 | have p11 := ndT h11 | have p11 := ndF h11 | have p11 := nbT h11 | have p11 := nbF h11 | have p11 := h11
        refine sc_false (by rfl) h11 ?_
        refine jc_skip ?_
        refine jk_then ?_
        refine jc_seq ?_
        refine sc_region ?_
        refine so_eff (eff_call0 (fl := []) (cl := []) (G := fun v New => ∃ bb ps, ps.length = 12 ∧ v = .pointer (some ⟨bb, 0, none⟩) ∧ New = [blk bb (.cells (ptrs ps).toArray 50 (0, 0)), grp (List.zipWith dkI ps (new12 12))]) (by rfl) (by rfl) tx9 (by exact fun w1 hw1 => (new_spec w1).mono (fun _ _ ⟨bb, ps, hl, hv, hst⟩ => ⟨_, ⟨bb, ps, hl, hv, rfl⟩, hst⟩))) (by rfl) rfl ?_
        rintro _ _ ⟨_, ⟨bb, ps, hlp, rfl, rfl⟩, rfl⟩
        refine so_pure (opv_assign (by rfl)) (by rfl) rfl ?_
        refine jo_nil ?_
        refine jk_then ?_
        refine jc_seq ?_
        refine jc_seq ?_
        refine sc_region ?_
        refine so_pure (opv_move (by rfl)) (by rfl) rfl ?_
        refine so_pure (opv_ptr_nil (by rfl) (by rfl) Try.underlying25) (by rfl) rfl ?_
        refine jo_nil ?_
        refine jk_then ?_
        refine sc_false (by rfl) rfl ?_
        refine jc_skip ?_
        refine jk_then ?_
        refine jc_seq ?_
        refine jc_seq ?_
        refine sc_region ?_
        refine so_pure (opv_assign (by rfl)) (by rfl) rfl ?_
        refine jo_nil ?_
        refine jk_then ?_
        refine jc_block ?_
        refine jc_loop (σ := Nat × List DD) (fun (i, ds) => [(0, .slice A0 n0 c0), (1, .slice A1 n1 c1), (2, .slice A2 n2 c2), (7, .pointer (some ⟨bb, 0, none⟩)), (8, .int .i64 i)]) (fun (i, ds) => [blk bb (.cells (ptrs ps).toArray 50 (0, 0)), grp (List.zipWith dkI ps ds)]) (fun (i, ds) => (i ≤ n0) ∧ (AllS ds) ∧ (NoWs ds)) (fun (i, ds) => n0 - i) (0, new12 12) ⟨Nat.zero_le _, allS_new, nows_new⟩ ⟨rfl, rfl, rfl, rfl, rfl, trivial⟩ (fun w hw => St.sel hw (by repeat (first | exact Pks.nil _ | exact Pk.here _ | apply Pk.there | apply Pks.cons))) ?_
        rintro ⟨i, ds⟩ ⟨hi, hA, hN⟩
        show Jc _ _ [(0, .slice A0 n0 c0), (1, .slice A1 n1 c1), (2, .slice A2 n2 c2), (7, .pointer (some ⟨bb, 0, none⟩)), (8, .int .i64 i)] [blk bb (.cells (ptrs ps).toArray 50 (0, 0)), grp (List.zipWith dkI ps ds)] _
        refine jc_seq ?_
        refine jc_seq ?_
        refine sc_region ?_
        refine so_pure (opv_move (by rfl)) (by rfl) rfl ?_
        refine so_pure (opv_move (by rfl)) (by rfl) rfl ?_
        refine so_pure (opv_len_slice (by rfl) Try.underlying22) (by rfl) rfl ?_
        refine so_pure (opv_cmp (by rfl) (by rfl) (by rfl)) (by rfl) rfl ?_
        refine jo_nil ?_
        refine jk_then ?_
        refine sk_split (x := 39) (by rfl) (fun h17 => ?_) (fun h17 => ?_)
        · first | have p17 := of_decide_eq_true h17 | have p17 := of_decide_eq_false h17 | have p17 := ndT h17 | have p17 := ndF h17 | have p17 := nbT h17 | have p17 := nbF h17 | have p17 := h17
          refine sc_true (by rfl) h17 ?_
          refine jc_skip ?_
          refine jk_then ?_
          refine jc_seq ?_
          refine jc_block ?_
          refine jc_seq ?_
          have hlt : i < n0 := by omega
          obtain ⟨_, _, _, _, x, _, _, hx, _⟩ := hs0.get hlt
          refine so_draw [] (by kernel_rfl) (by kernel_rfl) (by kernel_rfl) rfl (by rfl) (fun hap htm => ?_)
          refine da_any hap htm (i := 0) (by rfl) (by kernel_rfl) (by rfl) (listed' := #[true, false, false, false, false, false, false, false, false, false, false, false, false, false, false, false, false]) (by rfl) (fun _ => (opv_move (by rfl))) (by rfl) rfl ?_
          refine da_any hap htm (i := 1) (by rfl) (by kernel_rfl) (by rfl) (listed' := #[true, true, false, false, false, false, false, false, false, false, false, false, false, false, false, false, false]) (by rfl) (fun _ => (opv_move (by rfl))) (by rfl) rfl ?_
          refine da_any hap htm (i := 2) (by rfl) (by kernel_rfl) (by rfl) (listed' := #[true, true, true, false, false, false, false, false, false, false, false, false, false, false, false, false, false]) (by rfl) (fun _ => (opv_move (by rfl))) (by rfl) rfl ?_
          refine da_any hap htm (i := 3) (by rfl) (by kernel_rfl) (by rfl) (listed' := #[true, true, true, true, false, false, false, false, false, false, false, false, false, false, false, false, false]) (by rfl) (fun _ => (opv_indexAddr_slr (i := i) (by rfl) hs0 (by rfl) Try.underlying22 ti30 rfl hlt)) (by rfl) rfl ?_
          refine da_any hap htm (i := 4) (by rfl) (by kernel_rfl) (by rfl) (listed' := #[true, true, true, true, true, false, false, false, false, false, false, false, false, false, false, false, false]) (by rfl) (fun _ => (opv_fieldAddr (by rfl) fld30_1)) (by rfl) rfl ?_
          refine da_now [16] hap htm (i := 5) (by rfl) (by kernel_rfl) (by rfl) (listed' := #[true, true, true, true, true, true, false, false, false, false, false, false, false, false, false, false, false]) (by rfl) (by kernel_rfl) (by kernel_rfl) (opv_load_slr (u := x) (fo := 1) (v := .int .i64 x.d) (by rfl) na3 rfl hs0 hx rfl) (by rfl) rfl ?_
          refine da_any hap htm (i := 6) (by rfl) (by kernel_rfl) (by rfl) (listed' := #[true, true, true, true, true, true, true, false, false, false, false, false, false, false, false, false, false]) (by rfl) (fun _ => (opv_move (by rfl))) (by rfl) rfl ?_
          refine da_any hap htm (i := 7) (by rfl) (by kernel_rfl) (by rfl) (listed' := #[true, true, true, true, true, true, true, true, false, false, false, false, false, false, false, false, false]) (by rfl) (fun _ => (opv_move (by rfl))) (by rfl) rfl ?_
          refine da_any hap htm (i := 8) (by rfl) (by kernel_rfl) (by rfl) (listed' := #[true, true, true, true, true, true, true, true, true, false, false, false, false, false, false, false, false]) (by rfl) (fun _ => (opv_indexAddr_slr (i := i) (by rfl) hs0 (by rfl) Try.underlying22 ti30 rfl hlt)) (by rfl) rfl ?_
          refine da_any hap htm (i := 9) (by rfl) (by kernel_rfl) (by rfl) (listed' := #[true, true, true, true, true, true, true, true, true, true, false, false, false, false, false, false, false]) (by rfl) (fun _ => (opv_fieldAddr (by rfl) fld30_2)) (by rfl) rfl ?_
          refine da_now [16] hap htm (i := 10) (by rfl) (by kernel_rfl) (by rfl) (listed' := #[true, true, true, true, true, true, true, true, true, true, true, false, false, false, false, false, false]) (by rfl) (by kernel_rfl) (by kernel_rfl) (opv_load_slr (u := x) (fo := 2) (v := .int .i64 x.n) (by rfl) na3 rfl hs0 hx rfl) (by rfl) rfl ?_
          refine da_any hap htm (i := 11) (by rfl) (by kernel_rfl) (by rfl) (listed' := #[true, true, true, true, true, true, true, true, true, true, true, true, false, false, false, false, false]) (by rfl) (fun _ => (opv_move (by rfl))) (by rfl) rfl ?_
          refine da_any hap htm (i := 12) (by rfl) (by kernel_rfl) (by rfl) (listed' := #[true, true, true, true, true, true, true, true, true, true, true, true, true, false, false, false, false]) (by rfl) (fun _ => (opv_move (by rfl))) (by rfl) rfl ?_
          refine da_any hap htm (i := 13) (by rfl) (by kernel_rfl) (by rfl) (listed' := #[true, true, true, true, true, true, true, true, true, true, true, true, true, true, false, false, false]) (by rfl) (fun _ => (opv_indexAddr_slr (i := i) (by rfl) hs0 (by rfl) Try.underlying22 ti30 rfl hlt)) (by rfl) rfl ?_
          refine da_any hap htm (i := 14) (by rfl) (by kernel_rfl) (by rfl) (listed' := #[true, true, true, true, true, true, true, true, true, true, true, true, true, true, true, false, false]) (by rfl) (fun _ => (opv_fieldAddr (by rfl) fld30_3)) (by rfl) rfl ?_
          refine da_now [16] hap htm (i := 15) (by rfl) (by kernel_rfl) (by rfl) (listed' := #[true, true, true, true, true, true, true, true, true, true, true, true, true, true, true, true, false]) (by rfl) (by kernel_rfl) (by kernel_rfl) (opv_load_slr (u := x) (fo := 3) (v := .string x.s) (by rfl) na9 rfl hs0 hx rfl) (by rfl) rfl ?_
          refine da_eff (i := 16) (by rfl) (by kernel_rfl) (by rfl) (listed' := #[true, true, true, true, true, true, true, true, true, true, true, true, true, true, true, true, true]) (by rfl) (eff_callF [blk bb (.cells (ptrs ps).toArray 50 (0, 0)), grp (List.zipWith dkI ps ds)] (fl := []) (cl := []) (G := fun v Is' => v = .int .i64 (chk ds x.d x.n x.s.size) ∧ Is' = [blk bb (.cells (ptrs ps).toArray 50 (0, 0)), grp (List.zipWith dkI ps (onD ds x.d x.n x.s.size (fun D => { D with ws := D.ws ++ [⟨x.n, x.s⟩] })))]) (by rfl) (by rfl) tx10 (by repeat (first | exact Pks.nil _ | exact Pk.here _ | apply Pk.there | apply Pks.cons)) (by exact fun w1 hw1 => (write_spec x.d x.n x.s hw1 hlp hA.1 (hN.wb 0) (by omega)).mono (fun _ _ ⟨hv, hst⟩ => ⟨_, ⟨hv, rfl⟩, hst⟩))) (fun _ _ _ _ hw => cw_nil hw) (by rfl) rfl ?_
          rintro _ _ ⟨_, ⟨rfl, rfl⟩, rfl⟩
          refine da_done (by kernel_rfl) ?_
          refine jk_then ?_
          refine sc_region ?_
          refine so_pure (opv_move (by rfl)) (by rfl) rfl ?_
          refine so_pure (opv_move (by rfl)) (by rfl) rfl ?_
          refine so_pure (opv_move (by rfl)) (by rfl) rfl ?_
          refine so_pure (opv_indexAddr_slr (i := i) (by rfl) hs0 (by rfl) Try.underlying22 ti30 rfl hlt) (by rfl) rfl ?_
          refine so_pure (opv_fieldAddr (by rfl) fld30_1) (by rfl) rfl ?_
          refine so_pure (opv_load_slr (u := x) (fo := 1) (v := .int .i64 x.d) (by rfl) na3 rfl hs0 hx rfl) (by rfl) rfl ?_
          refine so_eff (eff_callF [blk bb (.cells (ptrs ps).toArray 50 (0, 0)), grp (List.zipWith dkI ps (onD ds x.d x.n x.s.size (fun D => { D with ws := D.ws ++ [⟨x.n, x.s⟩] })))] (fl := []) (cl := []) (G := fun v Is' => v = .int .i64 (chk (onD ds x.d x.n x.s.size (fun D => { D with ws := D.ws ++ [⟨x.n, x.s⟩] })) x.d 0 0) ∧ Is' = [blk bb (.cells (ptrs ps).toArray 50 (0, 0)), grp (List.zipWith dkI ps (onD (onD ds x.d x.n x.s.size (fun D => { D with ws := D.ws ++ [⟨x.n, x.s⟩] })) x.d 0 0 (settleD (fun _ => some false))))]) (by rfl) (by rfl) tx11 (by repeat (first | exact Pks.nil _ | exact Pk.here _ | apply Pk.there | apply Pks.cons)) (by exact fun w1 hw1 => (flush_spec x.d hw1 hlp (hA.onD _ _ _ _).1 ((hN.wb 0).write hA.1 _ _ _) (by omega)).mono (fun _ _ ⟨hv, hst⟩ => ⟨_, ⟨hv, rfl⟩, hst⟩))) (by rfl) rfl ?_
          rintro _ _ ⟨_, ⟨rfl, rfl⟩, rfl⟩
          refine jo_nil ?_
          refine jk_block ?_
          refine jk_then ?_
          refine sc_region ?_
          refine so_pure (opv_move (by rfl)) (by rfl) rfl ?_
          refine so_pure (opv_add (by rfl) (by rfl) (wrap64_ok (by omega))) (by rfl) rfl ?_
          refine so_pure (opv_assign (by rfl)) (by rfl) rfl ?_
          refine jo_nil ?_
          refine jk_round (i + 1, (onD (onD ds x.d x.n x.s.size (fun D => { D with ws := D.ws ++ [⟨x.n, x.s⟩] })) x.d 0 0 (settleD (fun _ => some false)))) ⟨by omega, (hA.onD _ _ _ _).onD _ _ _ _, hN.flush hA _ _ _ _⟩ (by show n0 - (i + 1) < n0 - i; omega) ⟨rfl, rfl, rfl, rfl, rfl, trivial⟩ (fun w hw => ?_)
          show St _ _ [blk bb (.cells (ptrs ps).toArray 50 (0, 0)), grp (List.zipWith dkI ps ((onD (onD ds x.d x.n x.s.size (fun D => { D with ws := D.ws ++ [⟨x.n, x.s⟩] })) x.d 0 0 (settleD (fun _ => some false)))))] _
          exact St.sel hw (by repeat (first | exact Pks.nil _ | exact Pk.here _ | apply Pk.there | apply Pks.cons))
        · first | have p17 := of_decide_eq_true h17 | have p17 := of_decide_eq_false h17 | have p17 := ndT h17 | have p17 := ndF h17 | have p17 := nbT h17 | have p17 := nbF h17 | have p17 := h17
          refine sc_false (by rfl) h17 ?_
          refine jc_exit ?_
          refine jk_then_exit ?_
          refine jk_then_exit ?_
          refine jk_block_exit ?_
          refine jk_then ?_
          refine jc_seq ?_
          refine sc_region ?_
          refine so_pure (opv_move (by rfl)) (by rfl) rfl ?_
          refine so_eff (eff_callF [blk bb (.cells (ptrs ps).toArray 50 (0, 0)), grp (List.zipWith dkI ps ds)] (fl := []) (cl := []) (G := fun v Is' => ∃ b9 qs, qs.length = 12 ∧ v = .pointer (some ⟨b9, 0, none⟩) ∧ Is' = [blk b9 (.cells (ptrs qs).toArray 50 (0, 0)), grp (List.zipWith dkI qs ds), blk bb (.cells (ptrs ps).toArray 50 (0, 0)), grp (List.zipWith dkI ps ds)]) (by rfl) (by rfl) tx12 (by repeat (first | exact Pks.nil _ | exact Pk.here _ | apply Pk.there | apply Pks.cons)) (by exact fun w1 hw1 => (copy_spec hw1 hlp hA.1 (hN.wb 0) (by omega)).mono (fun _ _ ⟨b9, qs, hl, hv, hst⟩ => ⟨_, ⟨b9, qs, hl, hv, rfl⟩, hst⟩))) (by rfl) rfl ?_
          rintro _ _ ⟨_, ⟨b9, qs, hlq, rfl, rfl⟩, rfl⟩
          refine so_pure (opv_assign (by rfl)) (by rfl) rfl ?_
          refine jo_nil ?_
          refine jk_then ?_
          refine jc_seq ?_
          refine jc_seq ?_
          refine sc_region ?_
          refine so_pure (opv_assign (by rfl)) (by rfl) rfl ?_
          refine jo_nil ?_
          refine jk_then ?_
          refine jc_block ?_
          refine jc_loop (σ := Nat × List DD) (fun (j, d2) => [(0, .slice A0 n0 c0), (1, .slice A1 n1 c1), (2, .slice A2 n2 c2), (7, .pointer (some ⟨bb, 0, none⟩)), (9, .pointer (some ⟨b9, 0, none⟩)), (10, .int .i64 j)]) (fun (j, d2) => [blk b9 (.cells (ptrs qs).toArray 50 (0, 0)), grp (List.zipWith dkI qs ds), blk bb (.cells (ptrs ps).toArray 50 (0, 0)), grp (List.zipWith dkI ps d2)]) (fun (j, d2) => (j ≤ n1) ∧ (AllS d2) ∧ (WB d2 j) ∧ (Later ds d2 xs1)) (fun (j, d2) => n1 - j) (0, ds) ⟨Nat.zero_le _, hA, hN.wb 0, later_same hN xs1⟩ ⟨rfl, rfl, rfl, rfl, rfl, rfl, trivial⟩ (fun w hw => St.sel hw (by repeat (first | exact Pks.nil _ | exact Pk.here _ | apply Pk.there | apply Pks.cons))) ?_
          rintro ⟨j, d2⟩ ⟨hj, hA2, hW2, hL⟩
          show Jc _ _ [(0, .slice A0 n0 c0), (1, .slice A1 n1 c1), (2, .slice A2 n2 c2), (7, .pointer (some ⟨bb, 0, none⟩)), (9, .pointer (some ⟨b9, 0, none⟩)), (10, .int .i64 j)] [blk b9 (.cells (ptrs qs).toArray 50 (0, 0)), grp (List.zipWith dkI qs ds), blk bb (.cells (ptrs ps).toArray 50 (0, 0)), grp (List.zipWith dkI ps d2)] _
          refine jc_seq ?_
          refine jc_seq ?_
          refine sc_region ?_
          refine so_pure (opv_move (by rfl)) (by rfl) rfl ?_
          refine so_pure (opv_move (by rfl)) (by rfl) rfl ?_
          refine so_pure (opv_len_slice (by rfl) Try.underlying22) (by rfl) rfl ?_
          refine so_pure (opv_cmp (by rfl) (by rfl) (by rfl)) (by rfl) rfl ?_
          refine jo_nil ?_
          refine jk_then ?_
          refine sk_split (x := 71) (by rfl) (fun h42 => ?_) (fun h42 => ?_)
          · first | have p42 := of_decide_eq_true h42 | have p42 := of_decide_eq_false h42 | have p42 := ndT h42 | have p42 := ndF h42 | have p42 := nbT h42 | have p42 := nbF h42 | have p42 := h42
            refine sc_true (by rfl) h42 ?_
            refine jc_skip ?_
            refine jk_then ?_
            refine jc_seq ?_
            refine jc_block ?_
            have hlt : j < n1 := by omega
            obtain ⟨_, _, _, _, x, _, _, hx, _⟩ := hs1.get hlt
            refine so_draw [] (by kernel_rfl) (by kernel_rfl) (by kernel_rfl) rfl (by rfl) (fun hap htm => ?_)
            refine da_any hap htm (i := 0) (by rfl) (by kernel_rfl) (by rfl) (listed' := #[true, false, false, false, false, false, false, false, false, false, false, false, false, false, false, false, false]) (by rfl) (fun _ => (opv_move (by rfl))) (by rfl) rfl ?_
            refine da_any hap htm (i := 1) (by rfl) (by kernel_rfl) (by rfl) (listed' := #[true, true, false, false, false, false, false, false, false, false, false, false, false, false, false, false, false]) (by rfl) (fun _ => (opv_move (by rfl))) (by rfl) rfl ?_
            refine da_any hap htm (i := 2) (by rfl) (by kernel_rfl) (by rfl) (listed' := #[true, true, true, false, false, false, false, false, false, false, false, false, false, false, false, false, false]) (by rfl) (fun _ => (opv_move (by rfl))) (by rfl) rfl ?_
            refine da_any hap htm (i := 3) (by rfl) (by kernel_rfl) (by rfl) (listed' := #[true, true, true, true, false, false, false, false, false, false, false, false, false, false, false, false, false]) (by rfl) (fun _ => (opv_indexAddr_slr (i := j) (by rfl) hs1 (by rfl) Try.underlying22 ti30 rfl hlt)) (by rfl) rfl ?_
            refine da_any hap htm (i := 4) (by rfl) (by kernel_rfl) (by rfl) (listed' := #[true, true, true, true, true, false, false, false, false, false, false, false, false, false, false, false, false]) (by rfl) (fun _ => (opv_fieldAddr (by rfl) fld30_1)) (by rfl) rfl ?_
            refine da_now [16] hap htm (i := 5) (by rfl) (by kernel_rfl) (by rfl) (listed' := #[true, true, true, true, true, true, false, false, false, false, false, false, false, false, false, false, false]) (by rfl) (by kernel_rfl) (by kernel_rfl) (opv_load_slr (u := x) (fo := 1) (v := .int .i64 x.d) (by rfl) na3 rfl hs1 hx rfl) (by rfl) rfl ?_
            refine da_any hap htm (i := 6) (by rfl) (by kernel_rfl) (by rfl) (listed' := #[true, true, true, true, true, true, true, false, false, false, false, false, false, false, false, false, false]) (by rfl) (fun _ => (opv_move (by rfl))) (by rfl) rfl ?_
            refine da_any hap htm (i := 7) (by rfl) (by kernel_rfl) (by rfl) (listed' := #[true, true, true, true, true, true, true, true, false, false, false, false, false, false, false, false, false]) (by rfl) (fun _ => (opv_move (by rfl))) (by rfl) rfl ?_
            refine da_any hap htm (i := 8) (by rfl) (by kernel_rfl) (by rfl) (listed' := #[true, true, true, true, true, true, true, true, true, false, false, false, false, false, false, false, false]) (by rfl) (fun _ => (opv_indexAddr_slr (i := j) (by rfl) hs1 (by rfl) Try.underlying22 ti30 rfl hlt)) (by rfl) rfl ?_
            refine da_any hap htm (i := 9) (by rfl) (by kernel_rfl) (by rfl) (listed' := #[true, true, true, true, true, true, true, true, true, true, false, false, false, false, false, false, false]) (by rfl) (fun _ => (opv_fieldAddr (by rfl) fld30_2)) (by rfl) rfl ?_
            refine da_now [16] hap htm (i := 10) (by rfl) (by kernel_rfl) (by rfl) (listed' := #[true, true, true, true, true, true, true, true, true, true, true, false, false, false, false, false, false]) (by rfl) (by kernel_rfl) (by kernel_rfl) (opv_load_slr (u := x) (fo := 2) (v := .int .i64 x.n) (by rfl) na3 rfl hs1 hx rfl) (by rfl) rfl ?_
            refine da_any hap htm (i := 11) (by rfl) (by kernel_rfl) (by rfl) (listed' := #[true, true, true, true, true, true, true, true, true, true, true, true, false, false, false, false, false]) (by rfl) (fun _ => (opv_move (by rfl))) (by rfl) rfl ?_
            refine da_any hap htm (i := 12) (by rfl) (by kernel_rfl) (by rfl) (listed' := #[true, true, true, true, true, true, true, true, true, true, true, true, true, false, false, false, false]) (by rfl) (fun _ => (opv_move (by rfl))) (by rfl) rfl ?_
            refine da_any hap htm (i := 13) (by rfl) (by kernel_rfl) (by rfl) (listed' := #[true, true, true, true, true, true, true, true, true, true, true, true, true, true, false, false, false]) (by rfl) (fun _ => (opv_indexAddr_slr (i := j) (by rfl) hs1 (by rfl) Try.underlying22 ti30 rfl hlt)) (by rfl) rfl ?_
            refine da_any hap htm (i := 14) (by rfl) (by kernel_rfl) (by rfl) (listed' := #[true, true, true, true, true, true, true, true, true, true, true, true, true, true, true, false, false]) (by rfl) (fun _ => (opv_fieldAddr (by rfl) fld30_3)) (by rfl) rfl ?_
            refine da_now [16] hap htm (i := 15) (by rfl) (by kernel_rfl) (by rfl) (listed' := #[true, true, true, true, true, true, true, true, true, true, true, true, true, true, true, true, false]) (by rfl) (by kernel_rfl) (by kernel_rfl) (opv_load_slr (u := x) (fo := 3) (v := .string x.s) (by rfl) na9 rfl hs1 hx rfl) (by rfl) rfl ?_
            refine da_eff (i := 16) (by rfl) (by kernel_rfl) (by rfl) (listed' := #[true, true, true, true, true, true, true, true, true, true, true, true, true, true, true, true, true]) (by rfl) (eff_callF [blk bb (.cells (ptrs ps).toArray 50 (0, 0)), grp (List.zipWith dkI ps d2)] (fl := []) (cl := []) (G := fun v Is' => v = .int .i64 (chk d2 x.d x.n x.s.size) ∧ Is' = [blk bb (.cells (ptrs ps).toArray 50 (0, 0)), grp (List.zipWith dkI ps (onD d2 x.d x.n x.s.size (fun D => { D with ws := D.ws ++ [⟨x.n, x.s⟩] })))]) (by rfl) (by rfl) tx10 (by repeat (first | exact Pks.nil _ | exact Pk.here _ | apply Pk.there | apply Pks.cons)) (by exact fun w1 hw1 => (write_spec x.d x.n x.s hw1 hlp hA2.1 hW2 (by omega)).mono (fun _ _ ⟨hv, hst⟩ => ⟨_, ⟨hv, rfl⟩, hst⟩))) (fun _ _ _ _ hw => cw_nil hw) (by rfl) rfl ?_
            rintro _ _ ⟨_, ⟨rfl, rfl⟩, rfl⟩
            refine da_done (by kernel_rfl) ?_
            refine jk_block ?_
            refine jk_then ?_
            refine sc_region ?_
            refine so_pure (opv_move (by rfl)) (by rfl) rfl ?_
            refine so_pure (opv_add (by rfl) (by rfl) (wrap64_ok (by omega))) (by rfl) rfl ?_
            refine so_pure (opv_assign (by rfl)) (by rfl) rfl ?_
            refine jo_nil ?_
            refine jk_round (j + 1, (onD d2 x.d x.n x.s.size (fun D => { D with ws := D.ws ++ [⟨x.n, x.s⟩] }))) ⟨by omega, hA2.onD _ _ _ _, hW2.write hA2.1 _ _ _, hL.write hA2 (List.mem_of_getElem? hx)⟩ (by show n1 - (j + 1) < n1 - j; omega) ⟨rfl, rfl, rfl, rfl, rfl, rfl, trivial⟩ (fun w hw => ?_)
            show St _ _ [blk b9 (.cells (ptrs qs).toArray 50 (0, 0)), grp (List.zipWith dkI qs ds), blk bb (.cells (ptrs ps).toArray 50 (0, 0)), grp (List.zipWith dkI ps ((onD d2 x.d x.n x.s.size (fun D => { D with ws := D.ws ++ [⟨x.n, x.s⟩] }))))] _
            exact St.sel hw (by repeat (first | exact Pks.nil _ | exact Pk.here _ | apply Pk.there | apply Pks.cons))
          · first | have p42 := of_decide_eq_true h42 | have p42 := of_decide_eq_false h42 | have p42 := ndT h42 | have p42 := ndF h42 | have p42 := nbT h42 | have p42 := nbF h42 | have p42 := h42
            refine sc_false (by rfl) h42 ?_
            refine jc_exit ?_
            refine jk_then_exit ?_
            refine jk_then_exit ?_
            refine jk_block_exit ?_
            refine jk_then ?_
            refine jc_seq ?_
            refine sc_region ?_
            refine so_pure (opv_move (by rfl)) (by rfl) rfl ?_
            refine so_pure (opv_move (by rfl)) (by rfl) rfl ?_
            refine so_eff (eff_callF [blk bb (.cells (ptrs ps).toArray 50 (0, 0)), grp (List.zipWith dkI ps d2)] (fl := []) (cl := []) (G := fun v Is' => v = .int .i64 0 ∧ Is' = [blk bb (.cells (ptrs ps).toArray 50 (0, 0)), grp (List.zipWith dkI ps (crashK xs2 ([] : List Bool) d2 12))]) (by rfl) (by rfl) tx13 (by repeat (first | exact Pks.nil _ | exact Pk.here _ | apply Pk.there | apply Pks.cons)) (by exact fun w1 hw1 => (crash_spec A2 none n2 0 c2 0 xs2 ([] : List Bool) hw1 hlp hA2.1 hW2 (by omega) (fun w1 hw1 => hs2.keepSt hw1) (fun w1 _ => SlR.nil w1 4 none)).mono (fun _ _ ⟨hv, hst⟩ => ⟨_, ⟨hv, rfl⟩, hst⟩))) (by rfl) rfl ?_
            rintro _ _ ⟨_, ⟨rfl, rfl⟩, rfl⟩
            refine jo_nil ?_
            have hA3 := crash_allS hA2 xs2 []
            have hN3 := crash_nows hA2 xs2 []
            have hR3 := crash_read hA hN hA2 hL xs2
            generalize crashK xs2 [] d2 12 = ds3 at hA3 hN3 hR3 ⊢
            refine jk_then ?_
            refine jc_seq ?_
            refine jc_seq ?_
            refine sc_region ?_
            refine so_pure (opv_assign (by rfl)) (by rfl) rfl ?_
            refine jo_nil ?_
            refine jk_then ?_
            refine jc_block ?_
            refine jc_loop (σ := Nat) (fun i => [(0, .slice A0 n0 c0), (1, .slice A1 n1 c1), (2, .slice A2 n2 c2), (7, .pointer (some ⟨bb, 0, none⟩)), (9, .pointer (some ⟨b9, 0, none⟩)), (11, .int .i64 i)]) (fun i => [blk b9 (.cells (ptrs qs).toArray 50 (0, 0)), grp (List.zipWith dkI qs ds), blk bb (.cells (ptrs ps).toArray 50 (0, 0)), grp (List.zipWith dkI ps ds3)]) (fun i => (i ≤ n1) ∧ (True)) (fun i => n1 - i) 0 ⟨Nat.zero_le _, trivial⟩ ⟨rfl, rfl, rfl, rfl, rfl, rfl, trivial⟩ (fun w hw => St.sel hw (by repeat (first | exact Pks.nil _ | exact Pk.here _ | apply Pk.there | apply Pks.cons))) ?_
            rintro i ⟨hi, ht⟩
            show Jc _ _ [(0, .slice A0 n0 c0), (1, .slice A1 n1 c1), (2, .slice A2 n2 c2), (7, .pointer (some ⟨bb, 0, none⟩)), (9, .pointer (some ⟨b9, 0, none⟩)), (11, .int .i64 i)] [blk b9 (.cells (ptrs qs).toArray 50 (0, 0)), grp (List.zipWith dkI qs ds), blk bb (.cells (ptrs ps).toArray 50 (0, 0)), grp (List.zipWith dkI ps ds3)] _
            refine jc_seq ?_
            refine jc_seq ?_
            refine sc_region ?_
            refine so_pure (opv_move (by rfl)) (by rfl) rfl ?_
            refine so_pure (opv_move (by rfl)) (by rfl) rfl ?_
            refine so_pure (opv_len_slice (by rfl) Try.underlying22) (by rfl) rfl ?_
            refine so_pure (opv_cmp (by rfl) (by rfl) (by rfl)) (by rfl) rfl ?_
            refine jo_nil ?_
            refine jk_then ?_
            refine sk_split (x := 97) (by rfl) (fun h62 => ?_) (fun h62 => ?_)
            · first | have p62 := of_decide_eq_true h62 | have p62 := of_decide_eq_false h62 | have p62 := ndT h62 | have p62 := ndF h62 | have p62 := nbT h62 | have p62 := nbF h62 | have p62 := h62
              refine sc_true (by rfl) h62 ?_
              refine jc_skip ?_
              refine jk_then ?_
              refine jc_seq ?_
              refine jc_block ?_
              refine jc_seq ?_
              have hlt : i < n1 := by omega
              obtain ⟨_, _, _, _, x, _, _, hx, _⟩ := hs1.get hlt
              refine sc_region ?_
              refine so_pure (opv_move (by rfl)) (by rfl) rfl ?_
              refine so_pure (opv_move (by rfl)) (by rfl) rfl ?_
              refine so_pure (opv_indexAddr_slr (i := i) (by rfl) hs1 (by rfl) Try.underlying22 ti30 rfl hlt) (by rfl) rfl ?_
              refine so_pure (opv_load_agg_slr (u := x) OpD.cells_len (by rfl) ag30 ti30 rfl hs1 hx) (by rfl) rfl ?_
              refine so_eff (eff_alloc ti30 rfl) (by rfl) rfl ?_
              rintro _ _ ⟨b12, rfl, rfl⟩
              refine so_eff0 (eff_store_all (vs := x.cells) (by rfl) (by rfl) (by rfl) ti30 (by rfl) (by repeat (first | exact Pk.here _ | apply Pk.there)) (by rfl) (by rfl)) (by rfl) ?_
              rintro _ _ ⟨rfl, rfl⟩
              refine jo_nil ?_
              refine jk_then ?_
              refine jc_seq ?_
              refine sc_region ?_
              refine so_pure (opv_move (by rfl)) (by rfl) rfl ?_
              refine so_pure (opv_fieldAddr (by rfl) fld30_1) (by rfl) rfl ?_
              refine so_pure (opv_load (by rfl) na3 (rd_pk (by repeat (first | exact Pk.here _ | apply Pk.there))) (by rfl)) (by rfl) rfl ?_
              refine so_pure (opv_fieldAddr (by rfl) fld30_2) (by rfl) rfl ?_
              refine so_pure (opv_load (by rfl) na3 (rd_pk (by repeat (first | exact Pk.here _ | apply Pk.there))) (by rfl)) (by rfl) rfl ?_
              refine so_eff (eff_callF [blk bb (.cells (ptrs ps).toArray 50 (0, 0)), grp (List.zipWith dkI ps ds3)] (fl := []) (cl := []) (G := fun v Is' => v = .tuple #[.string (rdD ds3 x.d x.n), .int .i64 (chk ds3 x.d x.n 0)] ∧ Is' = [blk bb (.cells (ptrs ps).toArray 50 (0, 0)), grp (List.zipWith dkI ps ds3)]) (by rfl) (by rfl) tx14 (by repeat (first | exact Pks.nil _ | exact Pk.here _ | apply Pk.there | apply Pks.cons)) (by exact fun w1 hw1 => (read_spec x.d x.n hw1 hlp hA3.1 (hN3.wb 0) (by omega)).mono (fun _ _ ⟨hv, hst⟩ => ⟨_, ⟨hv, rfl⟩, hst⟩))) (by rfl) rfl ?_
              rintro _ _ ⟨_, ⟨rfl, rfl⟩, rfl⟩
              rw [hA3.chk hA]
              refine so_pure (opv_move (by rfl)) (by rfl) rfl ?_
              refine so_pure (opv_extract (by rfl) (by rfl)) (by rfl) rfl ?_
              refine so_pure (opv_extract (by rfl) (by rfl)) (by rfl) rfl ?_
              refine so_pure (opv_assign (by rfl)) (by rfl) rfl ?_
              refine so_pure (opv_assign (by rfl)) (by rfl) rfl ?_
              refine jo_nil ?_
              refine jk_then ?_
              refine jc_seq ?_
              refine sc_region ?_
              refine so_pure (opv_move (by rfl)) (by rfl) rfl ?_
              refine so_pure (opv_fieldAddr (by rfl) fld30_1) (by rfl) rfl ?_
              refine so_pure (opv_load (by rfl) na3 (rd_pk (by repeat (first | exact Pk.here _ | apply Pk.there))) (by rfl)) (by rfl) rfl ?_
              refine so_pure (opv_fieldAddr (by rfl) fld30_2) (by rfl) rfl ?_
              refine so_pure (opv_load (by rfl) na3 (rd_pk (by repeat (first | exact Pk.here _ | apply Pk.there))) (by rfl)) (by rfl) rfl ?_
              refine so_eff (eff_callF [blk b9 (.cells (ptrs qs).toArray 50 (0, 0)), grp (List.zipWith dkI qs ds)] (fl := []) (cl := []) (G := fun v Is' => v = .tuple #[.string (rdD ds x.d x.n), .int .i64 (chk ds x.d x.n 0)] ∧ Is' = [blk b9 (.cells (ptrs qs).toArray 50 (0, 0)), grp (List.zipWith dkI qs ds)]) (by rfl) (by rfl) tx14 (by repeat (first | exact Pks.nil _ | exact Pk.here _ | apply Pk.there | apply Pks.cons)) (by exact fun w1 hw1 => (read_spec x.d x.n hw1 hlq hA.1 (hN.wb 0) (by omega)).mono (fun _ _ ⟨hv, hst⟩ => ⟨_, ⟨hv, rfl⟩, hst⟩))) (by rfl) rfl ?_
              rintro _ _ ⟨_, ⟨rfl, rfl⟩, rfl⟩
              refine so_pure (opv_move (by rfl)) (by rfl) rfl ?_
              refine so_pure (opv_extract (by rfl) (by rfl)) (by rfl) rfl ?_
              refine so_pure (opv_extract (by rfl) (by rfl)) (by rfl) rfl ?_
              refine so_pure (opv_assign (by rfl)) (by rfl) rfl ?_
              refine so_pure (opv_assign (by rfl)) (by rfl) rfl ?_
              refine jo_nil ?_
              refine jk_then ?_
              refine jc_seq ?_
              refine jc_seq ?_
              refine sc_region ?_
              refine so_pure (opv_move (by rfl)) (by rfl) rfl ?_
              refine so_pure (opv_move (by rfl)) (by rfl) rfl ?_
              refine so_pure (opv_cmp (b := false) (by rfl) (by rfl) (by exact congrArg some (by simp))) (by rfl) rfl ?_
              refine jo_nil ?_
              refine jk_then ?_
              refine sc_false (by rfl) rfl ?_
              refine jc_skip ?_
              refine jk_then ?_
              refine jc_seq ?_
              refine sc_region ?_
              refine so_pure (opv_move (by rfl)) (by rfl) rfl ?_
              refine so_pure (opv_move (by rfl)) (by rfl) rfl ?_
              refine so_pure (opv_seq (by rfl) (by rfl)) (by rfl) rfl ?_
              refine so_pure (opv_assign (by rfl)) (by rfl) rfl ?_
              refine jo_nil ?_
              refine jk_then ?_
              refine jc_seq ?_
              refine jc_seq ?_
              refine sc_region ?_
              refine so_pure (opv_assign (by rfl)) (by rfl) rfl ?_
              refine jo_nil ?_
              refine jk_then ?_
              refine jc_block ?_
              refine jc_loop (σ := Nat × Bool) (fun (m, f) => [(0, .slice A0 n0 c0), (1, .slice A1 n1 c1), (2, .slice A2 n2 c2), (7, .pointer (some ⟨bb, 0, none⟩)), (9, .pointer (some ⟨b9, 0, none⟩)), (11, .int .i64 i), (12, .pointer (some ⟨b12, 0, none⟩)), (13, .string (rdD ds3 x.d x.n)), (17, .bool f), (18, .int .i64 m)]) (fun (m, f) => [blk b12 (.cells #[.int .i64 x.op, .int .i64 x.d, .int .i64 x.n, .string x.s, .slice x.kA x.kn x.kc, .slice x.tA x.tn x.tc] 30 (0, 0)), blk b9 (.cells (ptrs qs).toArray 50 (0, 0)), grp (List.zipWith dkI qs ds), blk bb (.cells (ptrs ps).toArray 50 (0, 0)), grp (List.zipWith dkI ps ds3)]) (fun (m, f) => (m ≤ n1) ∧ (f = fnd (rdD ds3 x.d x.n) (rdD ds x.d x.n) x xs1 m)) (fun (m, f) => n1 - m) (0, decide ((rdD ds3 x.d x.n) = (rdD ds x.d x.n))) ⟨Nat.zero_le _, fnd_zero _ _ _ _⟩ ⟨rfl, rfl, rfl, rfl, rfl, rfl, rfl, rfl, rfl, rfl, trivial⟩ (fun w hw => St.sel hw (by repeat (first | exact Pks.nil _ | exact Pk.here _ | apply Pk.there | apply Pks.cons))) ?_
              rintro ⟨m, f⟩ ⟨hm, hf⟩
              show Jc _ _ [(0, .slice A0 n0 c0), (1, .slice A1 n1 c1), (2, .slice A2 n2 c2), (7, .pointer (some ⟨bb, 0, none⟩)), (9, .pointer (some ⟨b9, 0, none⟩)), (11, .int .i64 i), (12, .pointer (some ⟨b12, 0, none⟩)), (13, .string (rdD ds3 x.d x.n)), (17, .bool f), (18, .int .i64 m)] [blk b12 (.cells #[.int .i64 x.op, .int .i64 x.d, .int .i64 x.n, .string x.s, .slice x.kA x.kn x.kc, .slice x.tA x.tn x.tc] 30 (0, 0)), blk b9 (.cells (ptrs qs).toArray 50 (0, 0)), grp (List.zipWith dkI qs ds), blk bb (.cells (ptrs ps).toArray 50 (0, 0)), grp (List.zipWith dkI ps ds3)] _
              refine jc_seq ?_
              refine jc_seq ?_
              refine sc_region ?_
              refine so_pure (opv_move (by rfl)) (by rfl) rfl ?_
              refine so_pure (opv_move (by rfl)) (by rfl) rfl ?_
              refine so_pure (opv_len_slice (by rfl) Try.underlying22) (by rfl) rfl ?_
              refine so_pure (opv_cmp (by rfl) (by rfl) (by rfl)) (by rfl) rfl ?_
              refine jo_nil ?_
              refine jk_then ?_
              refine sk_split (x := 131) (by rfl) (fun h85 => ?_) (fun h85 => ?_)
              · first | have p85 := of_decide_eq_true h85 | have p85 := of_decide_eq_false h85 | have p85 := ndT h85 | have p85 := ndF h85 | have p85 := nbT h85 | have p85 := nbF h85 | have p85 := h85
                refine sc_true (by rfl) h85 ?_
                refine jc_skip ?_
                refine jk_then ?_
                refine jc_seq ?_
                refine jc_block ?_
                have hlt2 : m < n1 := by omega
                obtain ⟨_, _, _, _, y, _, _, hy, _⟩ := hs1.get hlt2
                refine so_draw [] (by kernel_rfl) (by kernel_rfl) (by kernel_rfl) rfl (by rfl) (fun hap htm => ?_)
                refine da_any hap htm (i := 0) (by rfl) (by kernel_rfl) (by rfl) (listed' := #[true, false, false, false, false, false, false, false, false, false, false, false, false, false, false, false, false, false, false, false, false, false, false, false, false, false, false, false, false, false, false]) (by rfl) (fun _ => (opv_move (by rfl))) (by rfl) rfl ?_
                refine da_any hap htm (i := 1) (by rfl) (by kernel_rfl) (by rfl) (listed' := #[true, true, false, false, false, false, false, false, false, false, false, false, false, false, false, false, false, false, false, false, false, false, false, false, false, false, false, false, false, false, false]) (by rfl) (fun _ => (opv_move (by rfl))) (by rfl) rfl ?_
                refine sk_split (x := 135) (by rfl) (fun h86 => ?_) (fun h86 => ?_)
                · first | have p86 := of_decide_eq_true h86 | have p86 := of_decide_eq_false h86 | have p86 := ndT h86 | have p86 := ndF h86 | have p86 := nbT h86 | have p86 := nbF h86 | have p86 := h86
                  refine da_skip hap htm (i := 2) (by rfl) (by kernel_rfl) (listed' := #[true, true, true, false, false, false, false, false, false, false, false, false, false, false, false, false, false, false, false, false, false, false, false, false, false, false, false, false, false, false, false]) (by rfl) (wtd_not rfl rfl (by rfl) h86) rfl ?_
                  refine da_skip hap htm (i := 3) (by rfl) (by kernel_rfl) (listed' := #[true, true, true, true, false, false, false, false, false, false, false, false, false, false, false, false, false, false, false, false, false, false, false, false, false, false, false, false, false, false, false]) (by rfl) (wtd_not rfl rfl (by rfl) h86) rfl ?_
                  refine da_skip hap htm (i := 4) (by rfl) (by kernel_rfl) (listed' := #[true, true, true, true, true, false, false, false, false, false, false, false, false, false, false, false, false, false, false, false, false, false, false, false, false, false, false, false, false, false, false]) (by rfl) (wtd_not rfl rfl (by rfl) h86) rfl ?_
                  refine da_skip hap htm (i := 5) (by rfl) (by kernel_rfl) (listed' := #[true, true, true, true, true, true, false, false, false, false, false, false, false, false, false, false, false, false, false, false, false, false, false, false, false, false, false, false, false, false, false]) (by rfl) (wtd_not rfl rfl (by rfl) h86) rfl ?_
                  refine da_skip hap htm (i := 6) (by rfl) (by kernel_rfl) (listed' := #[true, true, true, true, true, true, true, false, false, false, false, false, false, false, false, false, false, false, false, false, false, false, false, false, false, false, false, false, false, false, false]) (by rfl) (wtd_not rfl rfl (by rfl) h86) rfl ?_
                  refine da_skip hap htm (i := 7) (by rfl) (by kernel_rfl) (listed' := #[true, true, true, true, true, true, true, true, false, false, false, false, false, false, false, false, false, false, false, false, false, false, false, false, false, false, false, false, false, false, false]) (by rfl) (wtd_not rfl rfl (by rfl) h86) rfl ?_
                  refine da_skip hap htm (i := 8) (by rfl) (by kernel_rfl) (listed' := #[true, true, true, true, true, true, true, true, true, false, false, false, false, false, false, false, false, false, false, false, false, false, false, false, false, false, false, false, false, false, false]) (by rfl) (wtd_not rfl rfl (by rfl) h86) rfl ?_
                  refine da_skip hap htm (i := 9) (by rfl) (by kernel_rfl) (listed' := #[true, true, true, true, true, true, true, true, true, true, false, false, false, false, false, false, false, false, false, false, false, false, false, false, false, false, false, false, false, false, false]) (by rfl) (wtd_not rfl rfl (by rfl) h86) rfl ?_
                  refine da_skip hap htm (i := 10) (by rfl) (by kernel_rfl) (listed' := #[true, true, true, true, true, true, true, true, true, true, true, false, false, false, false, false, false, false, false, false, false, false, false, false, false, false, false, false, false, false, false]) (by rfl) (wtd_not rfl rfl (by rfl) h86) rfl ?_
                  refine da_skip hap htm (i := 11) (by rfl) (by kernel_rfl) (listed' := #[true, true, true, true, true, true, true, true, true, true, true, true, false, false, false, false, false, false, false, false, false, false, false, false, false, false, false, false, false, false, false]) (by rfl) (wtd_undef rfl rfl (by rfl)) rfl ?_
                  refine da_skip hap htm (i := 12) (by rfl) (by kernel_rfl) (listed' := #[true, true, true, true, true, true, true, true, true, true, true, true, true, false, false, false, false, false, false, false, false, false, false, false, false, false, false, false, false, false, false]) (by rfl) (wtd_undef rfl rfl (by rfl)) rfl ?_
                  refine da_skip hap htm (i := 13) (by rfl) (by kernel_rfl) (listed' := #[true, true, true, true, true, true, true, true, true, true, true, true, true, true, false, false, false, false, false, false, false, false, false, false, false, false, false, false, false, false, false]) (by rfl) (wtd_undef rfl rfl (by rfl)) rfl ?_
                  refine da_skip hap htm (i := 14) (by rfl) (by kernel_rfl) (listed' := #[true, true, true, true, true, true, true, true, true, true, true, true, true, true, true, false, false, false, false, false, false, false, false, false, false, false, false, false, false, false, false]) (by rfl) (wtd_undef rfl rfl (by rfl)) rfl ?_
                  refine da_skip hap htm (i := 15) (by rfl) (by kernel_rfl) (listed' := #[true, true, true, true, true, true, true, true, true, true, true, true, true, true, true, true, false, false, false, false, false, false, false, false, false, false, false, false, false, false, false]) (by rfl) (wtd_undef rfl rfl (by rfl)) rfl ?_
                  refine da_skip hap htm (i := 16) (by rfl) (by kernel_rfl) (listed' := #[true, true, true, true, true, true, true, true, true, true, true, true, true, true, true, true, true, false, false, false, false, false, false, false, false, false, false, false, false, false, false]) (by rfl) (wtd_undef rfl rfl (by rfl)) rfl ?_
                  refine da_skip hap htm (i := 17) (by rfl) (by kernel_rfl) (listed' := #[true, true, true, true, true, true, true, true, true, true, true, true, true, true, true, true, true, true, false, false, false, false, false, false, false, false, false, false, false, false, false]) (by rfl) (wtd_undef rfl rfl (by rfl)) rfl ?_
                  refine da_skip hap htm (i := 18) (by rfl) (by kernel_rfl) (listed' := #[true, true, true, true, true, true, true, true, true, true, true, true, true, true, true, true, true, true, true, false, false, false, false, false, false, false, false, false, false, false, false]) (by rfl) (wtd_undef rfl rfl (by rfl)) rfl ?_
                  refine da_skip hap htm (i := 19) (by rfl) (by kernel_rfl) (listed' := #[true, true, true, true, true, true, true, true, true, true, true, true, true, true, true, true, true, true, true, true, false, false, false, false, false, false, false, false, false, false, false]) (by rfl) (wtd_not rfl rfl (by rfl) h86) rfl ?_
                  refine da_skip hap htm (i := 20) (by rfl) (by kernel_rfl) (listed' := #[true, true, true, true, true, true, true, true, true, true, true, true, true, true, true, true, true, true, true, true, true, false, false, false, false, false, false, false, false, false, false]) (by rfl) (wtd_not rfl rfl (by rfl) h86) rfl ?_
                  refine da_skip hap htm (i := 21) (by rfl) (by kernel_rfl) (listed' := #[true, true, true, true, true, true, true, true, true, true, true, true, true, true, true, true, true, true, true, true, true, true, false, false, false, false, false, false, false, false, false]) (by rfl) (wtd_undef rfl rfl (by rfl)) rfl ?_
                  refine da_skip hap htm (i := 22) (by rfl) (by kernel_rfl) (listed' := #[true, true, true, true, true, true, true, true, true, true, true, true, true, true, true, true, true, true, true, true, true, true, true, false, false, false, false, false, false, false, false]) (by rfl) (wtd_undef rfl rfl (by rfl)) rfl ?_
                  refine da_skip hap htm (i := 23) (by rfl) (by kernel_rfl) (listed' := #[true, true, true, true, true, true, true, true, true, true, true, true, true, true, true, true, true, true, true, true, true, true, true, true, false, false, false, false, false, false, false]) (by rfl) (wtd_undef rfl rfl (by rfl)) rfl ?_
                  refine da_skip hap htm (i := 24) (by rfl) (by kernel_rfl) (listed' := #[true, true, true, true, true, true, true, true, true, true, true, true, true, true, true, true, true, true, true, true, true, true, true, true, true, false, false, false, false, false, false]) (by rfl) (wtd_undef rfl rfl (by rfl)) rfl ?_
                  refine da_skip hap htm (i := 25) (by rfl) (by kernel_rfl) (listed' := #[true, true, true, true, true, true, true, true, true, true, true, true, true, true, true, true, true, true, true, true, true, true, true, true, true, true, false, false, false, false, false]) (by rfl) (wtd_undef rfl rfl (by rfl)) rfl ?_
                  refine da_skip hap htm (i := 26) (by rfl) (by kernel_rfl) (listed' := #[true, true, true, true, true, true, true, true, true, true, true, true, true, true, true, true, true, true, true, true, true, true, true, true, true, true, true, false, false, false, false]) (by rfl) (wtd_undef rfl rfl (by rfl)) rfl ?_
                  refine da_skip hap htm (i := 27) (by rfl) (by kernel_rfl) (listed' := #[true, true, true, true, true, true, true, true, true, true, true, true, true, true, true, true, true, true, true, true, true, true, true, true, true, true, true, true, false, false, false]) (by rfl) (wtd_undef rfl rfl (by rfl)) rfl ?_
                  refine da_skip hap htm (i := 28) (by rfl) (by kernel_rfl) (listed' := #[true, true, true, true, true, true, true, true, true, true, true, true, true, true, true, true, true, true, true, true, true, true, true, true, true, true, true, true, true, false, false]) (by rfl) (wtd_not rfl rfl (by rfl) h86) rfl ?_
                  refine da_any hap htm (i := 29) (by rfl) (by kernel_rfl) (by rfl) (listed' := #[true, true, true, true, true, true, true, true, true, true, true, true, true, true, true, true, true, true, true, true, true, true, true, true, true, true, true, true, true, true, false]) (by rfl) (fun _ => (sv_pick_t (by rfl) h86 (by rfl))) (by rfl) rfl ?_
                  refine da_any hap htm (i := 30) (by rfl) (by kernel_rfl) (by rfl) (listed' := #[true, true, true, true, true, true, true, true, true, true, true, true, true, true, true, true, true, true, true, true, true, true, true, true, true, true, true, true, true, true, true]) (by rfl) (fun _ => (opv_assign (by rfl))) (by rfl) rfl ?_
                  refine da_done (by kernel_rfl) ?_
                  refine jk_block ?_
                  refine jk_then ?_
                  refine sc_region ?_
                  refine so_pure (opv_move (by rfl)) (by rfl) rfl ?_
                  refine so_pure (opv_add (by rfl) (by rfl) (wrap64_ok (by omega))) (by rfl) rfl ?_
                  refine so_pure (opv_assign (by rfl)) (by rfl) rfl ?_
                  refine jo_nil ?_
                  have hs3 := fnd_succ (s := (rdD ds3 x.d x.n)) (t := (rdD ds x.d x.n)) (x := x) hy
                  rw [← hf] at hs3
                  refine jk_round (m + 1, true) ⟨by omega, by rw [hs3, p86]; rfl⟩ (by show n1 - (m + 1) < n1 - m; omega) ⟨rfl, rfl, rfl, rfl, rfl, rfl, rfl, rfl, rfl, rfl, trivial⟩ (fun w hw => ?_)
                  show St _ _ [blk b12 (.cells #[.int .i64 x.op, .int .i64 x.d, .int .i64 x.n, .string x.s, .slice x.kA x.kn x.kc, .slice x.tA x.tn x.tc] 30 (0, 0)), blk b9 (.cells (ptrs qs).toArray 50 (0, 0)), grp (List.zipWith dkI qs ds), blk bb (.cells (ptrs ps).toArray 50 (0, 0)), grp (List.zipWith dkI ps ds3)] _
                  exact St.sel hw (by repeat (first | exact Pks.nil _ | exact Pk.here _ | apply Pk.there | apply Pks.cons))
                · first | have p86 := of_decide_eq_true h86 | have p86 := of_decide_eq_false h86 | have p86 := ndT h86 | have p86 := ndF h86 | have p86 := nbT h86 | have p86 := nbF h86 | have p86 := h86
                  refine da_any hap htm (i := 2) (by rfl) (by kernel_rfl) (by rfl) (listed' := #[true, true, true, false, false, false, false, false, false, false, false, false, false, false, false, false, false, false, false, false, false, false, false, false, false, false, false, false, false, false, false]) (by rfl) (fun _ => (opv_move (by rfl))) (wtd_run rfl rfl (by rfl) h86) rfl ?_
                  refine da_any hap htm (i := 3) (by rfl) (by kernel_rfl) (by rfl) (listed' := #[true, true, true, true, false, false, false, false, false, false, false, false, false, false, false, false, false, false, false, false, false, false, false, false, false, false, false, false, false, false, false]) (by rfl) (fun _ => (opv_move (by rfl))) (wtd_run rfl rfl (by rfl) h86) rfl ?_
                  refine da_any hap htm (i := 4) (by rfl) (by kernel_rfl) (by rfl) (listed' := #[true, true, true, true, true, false, false, false, false, false, false, false, false, false, false, false, false, false, false, false, false, false, false, false, false, false, false, false, false, false, false]) (by rfl) (fun _ => (opv_indexAddr_slr (i := m) (by rfl) hs1 (by rfl) Try.underlying22 ti30 rfl hlt2)) (wtd_run rfl rfl (by rfl) h86) rfl ?_
                  refine da_any hap htm (i := 5) (by rfl) (by kernel_rfl) (by rfl) (listed' := #[true, true, true, true, true, true, false, false, false, false, false, false, false, false, false, false, false, false, false, false, false, false, false, false, false, false, false, false, false, false, false]) (by rfl) (fun _ => (opv_fieldAddr (by rfl) fld30_1)) (wtd_run rfl rfl (by rfl) h86) rfl ?_
                  refine da_now [9, 10, 11, 12, 13, 14, 15, 16, 17, 18, 19, 20, 21, 22, 23, 24, 25, 26, 27, 28, 29, 30] hap htm (i := 6) (by rfl) (by kernel_rfl) (by rfl) (listed' := #[true, true, true, true, true, true, true, false, false, false, false, false, false, false, false, false, false, false, false, false, false, false, false, false, false, false, false, false, false, false, false]) (by rfl) (by kernel_rfl) (by kernel_rfl) (opv_load_slr (u := y) (fo := 1) (v := .int .i64 y.d) (by rfl) na3 rfl hs1 hy rfl) (wtd_run rfl rfl (by rfl) h86) rfl ?_
                  refine da_any hap htm (i := 7) (by rfl) (by kernel_rfl) (by rfl) (listed' := #[true, true, true, true, true, true, true, true, false, false, false, false, false, false, false, false, false, false, false, false, false, false, false, false, false, false, false, false, false, false, false]) (by rfl) (fun _ => (opv_fieldAddr (by rfl) fld30_1)) (wtd_run rfl rfl (by rfl) h86) rfl ?_
                  refine da_now [9, 10, 11, 12, 13, 14, 15, 16, 17, 18, 19, 20, 21, 22, 23, 24, 25, 26, 27, 28, 29, 30] hap htm (i := 8) (by rfl) (by kernel_rfl) (by rfl) (listed' := #[true, true, true, true, true, true, true, true, true, false, false, false, false, false, false, false, false, false, false, false, false, false, false, false, false, false, false, false, false, false, false]) (by rfl) (by kernel_rfl) (by kernel_rfl) (opv_load (by rfl) na3 (rd_pk (by repeat (first | exact Pk.here _ | apply Pk.there))) (by rfl)) (wtd_run rfl rfl (by rfl) h86) rfl ?_
                  refine da_any hap htm (i := 9) (by rfl) (by kernel_rfl) (by rfl) (listed' := #[true, true, true, true, true, true, true, true, true, true, false, false, false, false, false, false, false, false, false, false, false, false, false, false, false, false, false, false, false, false, false]) (by rfl) (fun _ => (opv_cmp (by rfl) (by rfl) (by rfl))) (wtd_run rfl rfl (by rfl) h86) rfl ?_
                  refine da_any hap htm (i := 10) (by rfl) (by kernel_rfl) (by rfl) (listed' := #[true, true, true, true, true, true, true, true, true, true, true, false, false, false, false, false, false, false, false, false, false, false, false, false, false, false, false, false, false, false, false]) (by rfl) (fun _ => (opv_move (by rfl))) (wtd_run rfl rfl (by rfl) h86) rfl ?_
                  refine sk_split (x := 144) (by rfl) (fun h95 => ?_) (fun h95 => ?_)
                  · first | have p95 := of_decide_eq_true h95 | have p95 := of_decide_eq_false h95 | have p95 := ndT h95 | have p95 := ndF h95 | have p95 := nbT h95 | have p95 := nbF h95 | have p95 := h95
                    refine da_any hap htm (i := 11) (by rfl) (by kernel_rfl) (by rfl) (listed' := #[true, true, true, true, true, true, true, true, true, true, true, true, false, false, false, false, false, false, false, false, false, false, false, false, false, false, false, false, false, false, false]) (by rfl) (fun _ => (opv_move (by rfl))) (wtd_run rfl rfl (by rfl) h95) rfl ?_
                    refine da_any hap htm (i := 12) (by rfl) (by kernel_rfl) (by rfl) (listed' := #[true, true, true, true, true, true, true, true, true, true, true, true, true, false, false, false, false, false, false, false, false, false, false, false, false, false, false, false, false, false, false]) (by rfl) (fun _ => (opv_move (by rfl))) (wtd_run rfl rfl (by rfl) h95) rfl ?_
                    refine da_any hap htm (i := 13) (by rfl) (by kernel_rfl) (by rfl) (listed' := #[true, true, true, true, true, true, true, true, true, true, true, true, true, true, false, false, false, false, false, false, false, false, false, false, false, false, false, false, false, false, false]) (by rfl) (fun _ => (opv_indexAddr_slr (i := m) (by rfl) hs1 (by rfl) Try.underlying22 ti30 rfl hlt2)) (wtd_run rfl rfl (by rfl) h95) rfl ?_
                    refine da_any hap htm (i := 14) (by rfl) (by kernel_rfl) (by rfl) (listed' := #[true, true, true, true, true, true, true, true, true, true, true, true, true, true, true, false, false, false, false, false, false, false, false, false, false, false, false, false, false, false, false]) (by rfl) (fun _ => (opv_fieldAddr (by rfl) fld30_2)) (wtd_run rfl rfl (by rfl) h95) rfl ?_
                    refine da_now [18, 19, 20, 21, 22, 23, 24, 25, 26, 27, 28, 29, 30] hap htm (i := 15) (by rfl) (by kernel_rfl) (by rfl) (listed' := #[true, true, true, true, true, true, true, true, true, true, true, true, true, true, true, true, false, false, false, false, false, false, false, false, false, false, false, false, false, false, false]) (by rfl) (by kernel_rfl) (by kernel_rfl) (opv_load_slr (u := y) (fo := 2) (v := .int .i64 y.n) (by rfl) na3 rfl hs1 hy rfl) (wtd_run rfl rfl (by rfl) h95) rfl ?_
                    refine da_any hap htm (i := 16) (by rfl) (by kernel_rfl) (by rfl) (listed' := #[true, true, true, true, true, true, true, true, true, true, true, true, true, true, true, true, true, false, false, false, false, false, false, false, false, false, false, false, false, false, false]) (by rfl) (fun _ => (opv_fieldAddr (by rfl) fld30_2)) (wtd_run rfl rfl (by rfl) h95) rfl ?_
                    refine da_now [18, 19, 20, 21, 22, 23, 24, 25, 26, 27, 28, 29, 30] hap htm (i := 17) (by rfl) (by kernel_rfl) (by rfl) (listed' := #[true, true, true, true, true, true, true, true, true, true, true, true, true, true, true, true, true, true, false, false, false, false, false, false, false, false, false, false, false, false, false]) (by rfl) (by kernel_rfl) (by kernel_rfl) (opv_load (by rfl) na3 (rd_pk (by repeat (first | exact Pk.here _ | apply Pk.there))) (by rfl)) (wtd_run rfl rfl (by rfl) h95) rfl ?_
                    refine da_any hap htm (i := 18) (by rfl) (by kernel_rfl) (by rfl) (listed' := #[true, true, true, true, true, true, true, true, true, true, true, true, true, true, true, true, true, true, true, false, false, false, false, false, false, false, false, false, false, false, false]) (by rfl) (fun _ => (opv_cmp (by rfl) (by rfl) (by rfl))) (wtd_run rfl rfl (by rfl) h95) rfl ?_
                    refine da_any hap htm (i := 19) (by rfl) (by kernel_rfl) (by rfl) (listed' := #[true, true, true, true, true, true, true, true, true, true, true, true, true, true, true, true, true, true, true, true, false, false, false, false, false, false, false, false, false, false, false]) (by rfl) (fun _ => (sv_pick_t (by rfl) h95 (by rfl))) (wtd_run rfl rfl (by rfl) h86) rfl ?_
                    refine da_any hap htm (i := 20) (by rfl) (by kernel_rfl) (by rfl) (listed' := #[true, true, true, true, true, true, true, true, true, true, true, true, true, true, true, true, true, true, true, true, true, false, false, false, false, false, false, false, false, false, false]) (by rfl) (fun _ => (opv_move (by rfl))) (wtd_run rfl rfl (by rfl) h86) rfl ?_
                    refine sk_split (x := 154) (by rfl) (fun h102 => ?_) (fun h102 => ?_)
                    · first | have p102 := of_decide_eq_true h102 | have p102 := of_decide_eq_false h102 | have p102 := ndT h102 | have p102 := ndF h102 | have p102 := nbT h102 | have p102 := nbF h102 | have p102 := h102
                      refine da_any hap htm (i := 21) (by rfl) (by kernel_rfl) (by rfl) (listed' := #[true, true, true, true, true, true, true, true, true, true, true, true, true, true, true, true, true, true, true, true, true, true, false, false, false, false, false, false, false, false, false]) (by rfl) (fun _ => (opv_move (by rfl))) (wtd_run rfl rfl (by rfl) h102) rfl ?_
                      refine da_any hap htm (i := 22) (by rfl) (by kernel_rfl) (by rfl) (listed' := #[true, true, true, true, true, true, true, true, true, true, true, true, true, true, true, true, true, true, true, true, true, true, true, false, false, false, false, false, false, false, false]) (by rfl) (fun _ => (opv_move (by rfl))) (wtd_run rfl rfl (by rfl) h102) rfl ?_
                      refine da_any hap htm (i := 23) (by rfl) (by kernel_rfl) (by rfl) (listed' := #[true, true, true, true, true, true, true, true, true, true, true, true, true, true, true, true, true, true, true, true, true, true, true, true, false, false, false, false, false, false, false]) (by rfl) (fun _ => (opv_indexAddr_slr (i := m) (by rfl) hs1 (by rfl) Try.underlying22 ti30 rfl hlt2)) (wtd_run rfl rfl (by rfl) h102) rfl ?_
                      refine da_any hap htm (i := 24) (by rfl) (by kernel_rfl) (by rfl) (listed' := #[true, true, true, true, true, true, true, true, true, true, true, true, true, true, true, true, true, true, true, true, true, true, true, true, true, false, false, false, false, false, false]) (by rfl) (fun _ => (opv_fieldAddr (by rfl) fld30_3)) (wtd_run rfl rfl (by rfl) h102) rfl ?_
                      refine da_now [27, 28, 29, 30] hap htm (i := 25) (by rfl) (by kernel_rfl) (by rfl) (listed' := #[true, true, true, true, true, true, true, true, true, true, true, true, true, true, true, true, true, true, true, true, true, true, true, true, true, true, false, false, false, false, false]) (by rfl) (by kernel_rfl) (by kernel_rfl) (opv_load_slr (u := y) (fo := 3) (v := .string y.s) (by rfl) na9 rfl hs1 hy rfl) (wtd_run rfl rfl (by rfl) h102) rfl ?_
                      refine da_any hap htm (i := 26) (by rfl) (by kernel_rfl) (by rfl) (listed' := #[true, true, true, true, true, true, true, true, true, true, true, true, true, true, true, true, true, true, true, true, true, true, true, true, true, true, true, false, false, false, false]) (by rfl) (fun _ => (opv_move (by rfl))) (wtd_run rfl rfl (by rfl) h102) rfl ?_
                      refine da_any hap htm (i := 27) (by rfl) (by kernel_rfl) (by rfl) (listed' := #[true, true, true, true, true, true, true, true, true, true, true, true, true, true, true, true, true, true, true, true, true, true, true, true, true, true, true, true, false, false, false]) (by rfl) (fun _ => (opv_seq (by rfl) (by rfl))) (wtd_run rfl rfl (by rfl) h102) rfl ?_
                      refine da_any hap htm (i := 28) (by rfl) (by kernel_rfl) (by rfl) (listed' := #[true, true, true, true, true, true, true, true, true, true, true, true, true, true, true, true, true, true, true, true, true, true, true, true, true, true, true, true, true, false, false]) (by rfl) (fun _ => (sv_pick_t (by rfl) h102 (by rfl))) (wtd_run rfl rfl (by rfl) h86) rfl ?_
                      refine da_any hap htm (i := 29) (by rfl) (by kernel_rfl) (by rfl) (listed' := #[true, true, true, true, true, true, true, true, true, true, true, true, true, true, true, true, true, true, true, true, true, true, true, true, true, true, true, true, true, true, false]) (by rfl) (fun _ => (sv_pick_f (by rfl) h86 (by rfl))) (by rfl) rfl ?_
                      refine da_any hap htm (i := 30) (by rfl) (by kernel_rfl) (by rfl) (listed' := #[true, true, true, true, true, true, true, true, true, true, true, true, true, true, true, true, true, true, true, true, true, true, true, true, true, true, true, true, true, true, true]) (by rfl) (fun _ => (opv_assign (by rfl))) (by rfl) rfl ?_
                      refine da_done (by kernel_rfl) ?_
                      refine jk_block ?_
                      refine jk_then ?_
                      refine sc_region ?_
                      refine so_pure (opv_move (by rfl)) (by rfl) rfl ?_
                      refine so_pure (opv_add (by rfl) (by rfl) (wrap64_ok (by omega))) (by rfl) rfl ?_
                      refine so_pure (opv_assign (by rfl)) (by rfl) rfl ?_
                      refine jo_nil ?_
                      have hs3 := fnd_succ (s := (rdD ds3 x.d x.n)) (t := (rdD ds x.d x.n)) (x := x) hy
                      rw [← hf] at hs3
                      refine jk_round (m + 1, decide (y.s = (rdD ds3 x.d x.n))) ⟨by omega, by rw [hs3, p86, decide_eq_true p95, decide_eq_true p102]; rfl⟩ (by show n1 - (m + 1) < n1 - m; omega) ⟨rfl, rfl, rfl, rfl, rfl, rfl, rfl, rfl, rfl, rfl, trivial⟩ (fun w hw => ?_)
                      show St _ _ [blk b12 (.cells #[.int .i64 x.op, .int .i64 x.d, .int .i64 x.n, .string x.s, .slice x.kA x.kn x.kc, .slice x.tA x.tn x.tc] 30 (0, 0)), blk b9 (.cells (ptrs qs).toArray 50 (0, 0)), grp (List.zipWith dkI qs ds), blk bb (.cells (ptrs ps).toArray 50 (0, 0)), grp (List.zipWith dkI ps ds3)] _
                      exact St.sel hw (by repeat (first | exact Pks.nil _ | exact Pk.here _ | apply Pk.there | apply Pks.cons))
                    · first | have p102 := of_decide_eq_true h102 | have p102 := of_decide_eq_false h102 | have p102 := ndT h102 | have p102 := ndF h102 | have p102 := nbT h102 | have p102 := nbF h102 | have p102 := h102
                      refine da_skip hap htm (i := 21) (by rfl) (by kernel_rfl) (listed' := #[true, true, true, true, true, true, true, true, true, true, true, true, true, true, true, true, true, true, true, true, true, true, false, false, false, false, false, false, false, false, false]) (by rfl) (wtd_not rfl rfl (by rfl) h102) rfl ?_
                      refine da_skip hap htm (i := 22) (by rfl) (by kernel_rfl) (listed' := #[true, true, true, true, true, true, true, true, true, true, true, true, true, true, true, true, true, true, true, true, true, true, true, false, false, false, false, false, false, false, false]) (by rfl) (wtd_not rfl rfl (by rfl) h102) rfl ?_
                      refine da_skip hap htm (i := 23) (by rfl) (by kernel_rfl) (listed' := #[true, true, true, true, true, true, true, true, true, true, true, true, true, true, true, true, true, true, true, true, true, true, true, true, false, false, false, false, false, false, false]) (by rfl) (wtd_not rfl rfl (by rfl) h102) rfl ?_
                      refine da_skip hap htm (i := 24) (by rfl) (by kernel_rfl) (listed' := #[true, true, true, true, true, true, true, true, true, true, true, true, true, true, true, true, true, true, true, true, true, true, true, true, true, false, false, false, false, false, false]) (by rfl) (wtd_not rfl rfl (by rfl) h102) rfl ?_
                      refine da_skip hap htm (i := 25) (by rfl) (by kernel_rfl) (listed' := #[true, true, true, true, true, true, true, true, true, true, true, true, true, true, true, true, true, true, true, true, true, true, true, true, true, true, false, false, false, false, false]) (by rfl) (wtd_not rfl rfl (by rfl) h102) rfl ?_
                      refine da_skip hap htm (i := 26) (by rfl) (by kernel_rfl) (listed' := #[true, true, true, true, true, true, true, true, true, true, true, true, true, true, true, true, true, true, true, true, true, true, true, true, true, true, true, false, false, false, false]) (by rfl) (wtd_not rfl rfl (by rfl) h102) rfl ?_
                      refine da_skip hap htm (i := 27) (by rfl) (by kernel_rfl) (listed' := #[true, true, true, true, true, true, true, true, true, true, true, true, true, true, true, true, true, true, true, true, true, true, true, true, true, true, true, true, false, false, false]) (by rfl) (wtd_not rfl rfl (by rfl) h102) rfl ?_
                      refine da_any hap htm (i := 28) (by rfl) (by kernel_rfl) (by rfl) (listed' := #[true, true, true, true, true, true, true, true, true, true, true, true, true, true, true, true, true, true, true, true, true, true, true, true, true, true, true, true, true, false, false]) (by rfl) (fun _ => (sv_pick_f (by rfl) h102 (by rfl))) (wtd_run rfl rfl (by rfl) h86) rfl ?_
                      refine da_any hap htm (i := 29) (by rfl) (by kernel_rfl) (by rfl) (listed' := #[true, true, true, true, true, true, true, true, true, true, true, true, true, true, true, true, true, true, true, true, true, true, true, true, true, true, true, true, true, true, false]) (by rfl) (fun _ => (sv_pick_f (by rfl) h86 (by rfl))) (by rfl) rfl ?_
                      refine da_any hap htm (i := 30) (by rfl) (by kernel_rfl) (by rfl) (listed' := #[true, true, true, true, true, true, true, true, true, true, true, true, true, true, true, true, true, true, true, true, true, true, true, true, true, true, true, true, true, true, true]) (by rfl) (fun _ => (opv_assign (by rfl))) (by rfl) rfl ?_
                      refine da_done (by kernel_rfl) ?_
                      refine jk_block ?_
                      refine jk_then ?_
                      refine sc_region ?_
                      refine so_pure (opv_move (by rfl)) (by rfl) rfl ?_
                      refine so_pure (opv_add (by rfl) (by rfl) (wrap64_ok (by omega))) (by rfl) rfl ?_
                      refine so_pure (opv_assign (by rfl)) (by rfl) rfl ?_
                      refine jo_nil ?_
                      have hs3 := fnd_succ (s := (rdD ds3 x.d x.n)) (t := (rdD ds x.d x.n)) (x := x) hy
                      rw [← hf] at hs3
                      refine jk_round (m + 1, false) ⟨by omega, by rw [hs3, p86, decide_eq_true p95, decide_eq_false p102]; rfl⟩ (by show n1 - (m + 1) < n1 - m; omega) ⟨rfl, rfl, rfl, rfl, rfl, rfl, rfl, rfl, rfl, rfl, trivial⟩ (fun w hw => ?_)
                      show St _ _ [blk b12 (.cells #[.int .i64 x.op, .int .i64 x.d, .int .i64 x.n, .string x.s, .slice x.kA x.kn x.kc, .slice x.tA x.tn x.tc] 30 (0, 0)), blk b9 (.cells (ptrs qs).toArray 50 (0, 0)), grp (List.zipWith dkI qs ds), blk bb (.cells (ptrs ps).toArray 50 (0, 0)), grp (List.zipWith dkI ps ds3)] _
                      exact St.sel hw (by repeat (first | exact Pks.nil _ | exact Pk.here _ | apply Pk.there | apply Pks.cons))
                  · first | have p95 := of_decide_eq_true h95 | have p95 := of_decide_eq_false h95 | have p95 := ndT h95 | have p95 := ndF h95 | have p95 := nbT h95 | have p95 := nbF h95 | have p95 := h95
                    refine da_skip hap htm (i := 11) (by rfl) (by kernel_rfl) (listed' := #[true, true, true, true, true, true, true, true, true, true, true, true, false, false, false, false, false, false, false, false, false, false, false, false, false, false, false, false, false, false, false]) (by rfl) (wtd_not rfl rfl (by rfl) h95) rfl ?_
                    refine da_skip hap htm (i := 12) (by rfl) (by kernel_rfl) (listed' := #[true, true, true, true, true, true, true, true, true, true, true, true, true, false, false, false, false, false, false, false, false, false, false, false, false, false, false, false, false, false, false]) (by rfl) (wtd_not rfl rfl (by rfl) h95) rfl ?_
                    refine da_skip hap htm (i := 13) (by rfl) (by kernel_rfl) (listed' := #[true, true, true, true, true, true, true, true, true, true, true, true, true, true, false, false, false, false, false, false, false, false, false, false, false, false, false, false, false, false, false]) (by rfl) (wtd_not rfl rfl (by rfl) h95) rfl ?_
                    refine da_skip hap htm (i := 14) (by rfl) (by kernel_rfl) (listed' := #[true, true, true, true, true, true, true, true, true, true, true, true, true, true, true, false, false, false, false, false, false, false, false, false, false, false, false, false, false, false, false]) (by rfl) (wtd_not rfl rfl (by rfl) h95) rfl ?_
                    refine da_skip hap htm (i := 15) (by rfl) (by kernel_rfl) (listed' := #[true, true, true, true, true, true, true, true, true, true, true, true, true, true, true, true, false, false, false, false, false, false, false, false, false, false, false, false, false, false, false]) (by rfl) (wtd_not rfl rfl (by rfl) h95) rfl ?_
                    refine da_skip hap htm (i := 16) (by rfl) (by kernel_rfl) (listed' := #[true, true, true, true, true, true, true, true, true, true, true, true, true, true, true, true, true, false, false, false, false, false, false, false, false, false, false, false, false, false, false]) (by rfl) (wtd_not rfl rfl (by rfl) h95) rfl ?_
                    refine da_skip hap htm (i := 17) (by rfl) (by kernel_rfl) (listed' := #[true, true, true, true, true, true, true, true, true, true, true, true, true, true, true, true, true, true, false, false, false, false, false, false, false, false, false, false, false, false, false]) (by rfl) (wtd_not rfl rfl (by rfl) h95) rfl ?_
                    refine da_skip hap htm (i := 18) (by rfl) (by kernel_rfl) (listed' := #[true, true, true, true, true, true, true, true, true, true, true, true, true, true, true, true, true, true, true, false, false, false, false, false, false, false, false, false, false, false, false]) (by rfl) (wtd_not rfl rfl (by rfl) h95) rfl ?_
                    refine da_any hap htm (i := 19) (by rfl) (by kernel_rfl) (by rfl) (listed' := #[true, true, true, true, true, true, true, true, true, true, true, true, true, true, true, true, true, true, true, true, false, false, false, false, false, false, false, false, false, false, false]) (by rfl) (fun _ => (sv_pick_f (by rfl) h95 (by rfl))) (wtd_run rfl rfl (by rfl) h86) rfl ?_
                    refine da_any hap htm (i := 20) (by rfl) (by kernel_rfl) (by rfl) (listed' := #[true, true, true, true, true, true, true, true, true, true, true, true, true, true, true, true, true, true, true, true, true, false, false, false, false, false, false, false, false, false, false]) (by rfl) (fun _ => (opv_move (by rfl))) (wtd_run rfl rfl (by rfl) h86) rfl ?_
                    refine da_skip hap htm (i := 21) (by rfl) (by kernel_rfl) (listed' := #[true, true, true, true, true, true, true, true, true, true, true, true, true, true, true, true, true, true, true, true, true, true, false, false, false, false, false, false, false, false, false]) (by rfl) (wtd_not rfl rfl (by rfl) rfl) rfl ?_
                    refine da_skip hap htm (i := 22) (by rfl) (by kernel_rfl) (listed' := #[true, true, true, true, true, true, true, true, true, true, true, true, true, true, true, true, true, true, true, true, true, true, true, false, false, false, false, false, false, false, false]) (by rfl) (wtd_not rfl rfl (by rfl) rfl) rfl ?_
                    refine da_skip hap htm (i := 23) (by rfl) (by kernel_rfl) (listed' := #[true, true, true, true, true, true, true, true, true, true, true, true, true, true, true, true, true, true, true, true, true, true, true, true, false, false, false, false, false, false, false]) (by rfl) (wtd_not rfl rfl (by rfl) rfl) rfl ?_
                    refine da_skip hap htm (i := 24) (by rfl) (by kernel_rfl) (listed' := #[true, true, true, true, true, true, true, true, true, true, true, true, true, true, true, true, true, true, true, true, true, true, true, true, true, false, false, false, false, false, false]) (by rfl) (wtd_not rfl rfl (by rfl) rfl) rfl ?_
                    refine da_skip hap htm (i := 25) (by rfl) (by kernel_rfl) (listed' := #[true, true, true, true, true, true, true, true, true, true, true, true, true, true, true, true, true, true, true, true, true, true, true, true, true, true, false, false, false, false, false]) (by rfl) (wtd_not rfl rfl (by rfl) rfl) rfl ?_
                    refine da_skip hap htm (i := 26) (by rfl) (by kernel_rfl) (listed' := #[true, true, true, true, true, true, true, true, true, true, true, true, true, true, true, true, true, true, true, true, true, true, true, true, true, true, true, false, false, false, false]) (by rfl) (wtd_not rfl rfl (by rfl) rfl) rfl ?_
                    refine da_skip hap htm (i := 27) (by rfl) (by kernel_rfl) (listed' := #[true, true, true, true, true, true, true, true, true, true, true, true, true, true, true, true, true, true, true, true, true, true, true, true, true, true, true, true, false, false, false]) (by rfl) (wtd_not rfl rfl (by rfl) rfl) rfl ?_
                    refine da_any hap htm (i := 28) (by rfl) (by kernel_rfl) (by rfl) (listed' := #[true, true, true, true, true, true, true, true, true, true, true, true, true, true, true, true, true, true, true, true, true, true, true, true, true, true, true, true, true, false, false]) (by rfl) (fun _ => (sv_pick_f (by rfl) rfl (by rfl))) (wtd_run rfl rfl (by rfl) h86) rfl ?_
                    refine da_any hap htm (i := 29) (by rfl) (by kernel_rfl) (by rfl) (listed' := #[true, true, true, true, true, true, true, true, true, true, true, true, true, true, true, true, true, true, true, true, true, true, true, true, true, true, true, true, true, true, false]) (by rfl) (fun _ => (sv_pick_f (by rfl) h86 (by rfl))) (by rfl) rfl ?_
                    refine da_any hap htm (i := 30) (by rfl) (by kernel_rfl) (by rfl) (listed' := #[true, true, true, true, true, true, true, true, true, true, true, true, true, true, true, true, true, true, true, true, true, true, true, true, true, true, true, true, true, true, true]) (by rfl) (fun _ => (opv_assign (by rfl))) (by rfl) rfl ?_
                    refine da_done (by kernel_rfl) ?_
                    refine jk_block ?_
                    refine jk_then ?_
                    refine sc_region ?_
                    refine so_pure (opv_move (by rfl)) (by rfl) rfl ?_
                    refine so_pure (opv_add (by rfl) (by rfl) (wrap64_ok (by omega))) (by rfl) rfl ?_
                    refine so_pure (opv_assign (by rfl)) (by rfl) rfl ?_
                    refine jo_nil ?_
                    have hs3 := fnd_succ (s := (rdD ds3 x.d x.n)) (t := (rdD ds x.d x.n)) (x := x) hy
                    rw [← hf] at hs3
                    refine jk_round (m + 1, false) ⟨by omega, by rw [hs3, p86, decide_eq_false p95]; rfl⟩ (by show n1 - (m + 1) < n1 - m; omega) ⟨rfl, rfl, rfl, rfl, rfl, rfl, rfl, rfl, rfl, rfl, trivial⟩ (fun w hw => ?_)
                    show St _ _ [blk b12 (.cells #[.int .i64 x.op, .int .i64 x.d, .int .i64 x.n, .string x.s, .slice x.kA x.kn x.kc, .slice x.tA x.tn x.tc] 30 (0, 0)), blk b9 (.cells (ptrs qs).toArray 50 (0, 0)), grp (List.zipWith dkI qs ds), blk bb (.cells (ptrs ps).toArray 50 (0, 0)), grp (List.zipWith dkI ps ds3)] _
                    exact St.sel hw (by repeat (first | exact Pks.nil _ | exact Pk.here _ | apply Pk.there | apply Pks.cons))
              · first | have p85 := of_decide_eq_true h85 | have p85 := of_decide_eq_false h85 | have p85 := ndT h85 | have p85 := ndF h85 | have p85 := nbT h85 | have p85 := nbF h85 | have p85 := h85
                refine sc_false (by rfl) h85 ?_
                refine jc_exit ?_
                refine jk_then_exit ?_
                refine jk_then_exit ?_
                refine jk_block_exit ?_
                refine jk_then ?_
                refine jc_seq ?_
                obtain rfl : f = true := by rw [hf]; exact fnd_all (by have := hs1.1; omega) (hR3 x.d x.n)
                refine sc_region ?_
                refine so_pure (opv_move (by rfl)) (by rfl) rfl ?_
                refine so_pure (opv_not (by rfl)) (by rfl) rfl ?_
                refine so_pure (opv_move (by rfl)) (by rfl) rfl ?_
                refine so_pure (opv_move (by rfl)) (wtd_run rfl rfl (by rfl) rfl) rfl ?_
                refine so_pure (opv_fieldAddr (by rfl) fld30_1) (wtd_run rfl rfl (by rfl) rfl) rfl ?_
                refine so_pure (opv_load (by rfl) na3 (rd_pk (by repeat (first | exact Pk.here _ | apply Pk.there))) (by rfl)) (wtd_run rfl rfl (by rfl) rfl) rfl ?_
                refine so_eff (eff_callF [blk bb (.cells (ptrs ps).toArray 50 (0, 0)), grp (List.zipWith dkI ps ds3)] (fl := []) (cl := []) (G := fun v Is' => v = .int .i64 (waitsD ds3 x.d) ∧ Is' = [blk bb (.cells (ptrs ps).toArray 50 (0, 0)), grp (List.zipWith dkI ps ds3)]) (by rfl) (by rfl) tx15 (by repeat (first | exact Pks.nil _ | exact Pk.here _ | apply Pk.there | apply Pks.cons)) (by exact fun w1 hw1 => (waits_spec x.d hw1 hlp hA3.1 ).mono (fun _ _ ⟨hv, hst⟩ => ⟨_, ⟨hv, rfl⟩, hst⟩))) (wtd_run rfl rfl (by rfl) rfl) rfl ?_
                rintro _ _ ⟨_, ⟨rfl, rfl⟩, rfl⟩
                rw [hN3.waits]
                refine so_pure (opv_cmp (b := false) (by rfl) (by rfl) (by rfl)) (wtd_run rfl rfl (by rfl) rfl) rfl ?_
                refine so_pure (sv_pick_f (by rfl) rfl (by rfl)) (by rfl) rfl ?_
                refine jo_nil ?_
                refine jk_then ?_
                refine sc_false (by rfl) rfl ?_
                refine jc_skip ?_
                refine jk_block ?_
                refine jk_then ?_
                refine sc_region ?_
                refine so_pure (opv_move (by rfl)) (by rfl) rfl ?_
                refine so_pure (opv_add (by rfl) (by rfl) (wrap64_ok (by omega))) (by rfl) rfl ?_
                refine so_pure (opv_assign (by rfl)) (by rfl) rfl ?_
                refine jo_nil ?_
                refine jk_round (i + 1) ⟨by omega, trivial⟩ (by show n1 - (i + 1) < n1 - i; omega) ⟨rfl, rfl, rfl, rfl, rfl, rfl, trivial⟩ (fun w hw => ?_)
                show St _ _ [blk b9 (.cells (ptrs qs).toArray 50 (0, 0)), grp (List.zipWith dkI qs ds), blk bb (.cells (ptrs ps).toArray 50 (0, 0)), grp (List.zipWith dkI ps ds3)] _
                exact St.sel hw (by repeat (first | exact Pks.nil _ | exact Pk.here _ | apply Pk.there | apply Pks.cons))
            · first | have p62 := of_decide_eq_true h62 | have p62 := of_decide_eq_false h62 | have p62 := ndT h62 | have p62 := ndF h62 | have p62 := nbT h62 | have p62 := nbF h62 | have p62 := h62
              refine sc_false (by rfl) h62 ?_
              refine jc_exit ?_
              refine jk_then_exit ?_
              refine jk_then_exit ?_
              refine jk_block_exit ?_
              refine jk_then ?_
              refine jc_seq ?_
              refine sc_region ?_
              refine so_eff (eff_call0 (G := fun u New => u = .bool true ∧ New = []) (by rfl) (by rfl) tx8 (by exact fun w1 hw1 => (live_spec w1).mono (fun _ _ ⟨hv, hst⟩ => ⟨[], ⟨hv, rfl⟩, hst⟩))) (by rfl) rfl ?_
              rintro _ _ ⟨_, ⟨rfl, rfl⟩, rfl⟩
              refine so_pure (opv_assign (by rfl)) (by rfl) rfl ?_
              refine jo_nil ?_
              refine jk_then ?_
              refine jc_ret ?_
              refine jk_fn_ret rfl rfl (by rfl) (fun w hw => ?_)
              exact ⟨rfl, hw.forget⟩
end Go.Disks
