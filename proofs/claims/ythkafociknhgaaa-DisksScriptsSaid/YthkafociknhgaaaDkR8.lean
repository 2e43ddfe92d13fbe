/- A part of a proof for the laws of the seat Ythkafociknhgaaa; it has no conditions of its own. -/
import Derived.Test.YthkafociknhgaaaDkR7
namespace Go.Disks
open Go Go.SL Go.Proofs
set_option maxHeartbeats 4000000 in
theorem does_spec {w0 w : World} {Fr : List Itm} {bb bk : Nat} {dv : Value} {ps rps : List Nat} {ds : List DD} {N : Nat} {xs ys : List Bool} (o : OpD) (hst : St w0 Emp (blk bb (.cells (ptrs ps).toArray 50 (0, 0)) :: grp (List.zipWith dkI ps ds) :: blk bk (.cells #[dv] 73 (0, 0)) :: own dv 74 1 12 (rps.flatMap pc) :: grp (List.zipWith rdI rps ds) :: Fr) w) (hlp : ps.length = 12) (hlr : rps.length = 12) (hld : ds.length = 12) (hwb : WB ds N) (hN : N ≤ 1000) (hwn : WN ds) (hk : SlR w0 4 1 bc o.kA o.kn xs) (ht : SlR w0 4 1 bc o.tA o.tn ys) : Does Try.prog 17 #[.pointer (some ⟨bb, 0, none⟩), .pointer (some ⟨bk, 0, none⟩), .agg #[.int .i64 o.op, .int .i64 o.d, .int .i64 o.n, .string o.s, .slice o.kA o.kn o.kc, .slice o.tA o.tn o.tc]] w (fun v w' => ∃ ps' rps' ds', ps'.length = 12 ∧ rps'.length = 12 ∧ ds'.length = 12 ∧ WB ds' (N + 1) ∧ WN ds' ∧ v = .bool true ∧ St w0 Emp (blk bb (.cells (ptrs ps').toArray 50 (0, 0)) :: grp (List.zipWith dkI ps' ds') :: blk bk (.cells #[dv] 73 (0, 0)) :: own dv 74 1 12 (rps'.flatMap pc) :: grp (List.zipWith rdI rps' ds') :: Fr) w') := by
  refine fn_bodyX (fn := Try.f17) Try.func17 rfl [(0, .pointer (some ⟨bb, 0, none⟩)), (1, .pointer (some ⟨bk, 0, none⟩)), (2, .agg #[.int .i64 o.op, .int .i64 o.d, .int .i64 o.n, .string o.s, .slice o.kA o.kn o.kc, .slice o.tA o.tn o.tc])] (by exact ⟨rfl, rfl, rfl, trivial⟩) rfl hst ?_
  refine jc_seq ?_
  refine sc_region ?_
  refine so_eff (eff_box (by rfl) rfl) (by rfl) rfl ?_
  rintro _ _ ⟨b5, rfl, rfl⟩
  refine so_pure (opv_assign (by rfl)) (by rfl) rfl ?_
  refine jo_nil ?_
  refine jk_then ?_
  refine jc_seq ?_
  refine jc_seq ?_
  refine sc_region ?_
  refine so_pure (opv_fieldAddr (by rfl) fld30_0) (by rfl) rfl ?_
  refine so_pure (opv_load (by rfl) na3 (rd_pk (by repeat (first | exact Pk.here _ | apply Pk.there))) (by rfl)) (by rfl) rfl ?_
  refine jo_nil ?_
  refine jk_then ?_
  refine jc_block ?_
  refine jc_seq ?_
  refine sc_region ?_
  refine so_pure (opv_cmp (by rfl) (by rfl) (by rfl)) (by rfl) rfl ?_
  refine so_pure (opv_assign (by rfl)) (by rfl) rfl ?_
  refine jo_nil ?_
  refine jk_then ?_
  refine sk_split (x := 14) (by rfl) (fun h7 => ?_) (fun h7 => ?_)
  · first | have p7 := of_decide_eq_true h7 | have p7 := of_decide_eq_false h7 | have p7 := ndT h7 | have p7 := ndF h7 | have p7 := nbT h7 | have p7 := nbF h7 | have p7 := h7
    refine sc_true (by rfl) h7 ?_
    refine jc_seq ?_
    refine so_draw [blk b5 (.cells #[.int .i64 o.op, .int .i64 o.d, .int .i64 o.n, .string o.s, .slice o.kA o.kn o.kc, .slice o.tA o.tn o.tc] 30 (0, 0))] (by kernel_rfl) (by kernel_rfl) (by kernel_rfl) rfl (by rfl) (fun hap htm => ?_)
    refine da_any hap htm (i := 0) (by rfl) (by kernel_rfl) (by rfl) (listed' := #[true, false, false, false, false, false, false, false, false, false, false, false, false, false, false, false, false, false]) (by rfl) (fun _ => (opv_move (by rfl))) (by rfl) rfl ?_
    refine da_any hap htm (i := 1) (by rfl) (by kernel_rfl) (by rfl) (listed' := #[true, true, false, false, false, false, false, false, false, false, false, false, false, false, false, false, false, false]) (by rfl) (fun _ => (opv_fieldAddr (by rfl) fld30_1)) (by rfl) rfl ?_
    refine da_now [7, 15, 16, 17] hap htm (i := 2) (by rfl) (by kernel_rfl) (by rfl) (listed' := #[true, true, true, false, false, false, false, false, false, false, false, false, false, false, false, false, false, false]) (by rfl) (by kernel_rfl) (by kernel_rfl) (opv_load (by rfl) na3 (rd_pk (by repeat (first | exact Pk.here _ | apply Pk.there))) (by rfl)) (by rfl) rfl ?_
    refine da_any hap htm (i := 3) (by rfl) (by kernel_rfl) (by rfl) (listed' := #[true, true, true, true, false, false, false, false, false, false, false, false, false, false, false, false, false, false]) (by rfl) (fun _ => (opv_fieldAddr (by rfl) fld30_2)) (by rfl) rfl ?_
    refine da_now [7, 15, 16, 17] hap htm (i := 4) (by rfl) (by kernel_rfl) (by rfl) (listed' := #[true, true, true, true, true, false, false, false, false, false, false, false, false, false, false, false, false, false]) (by rfl) (by kernel_rfl) (by kernel_rfl) (opv_load (by rfl) na3 (rd_pk (by repeat (first | exact Pk.here _ | apply Pk.there))) (by rfl)) (by rfl) rfl ?_
    refine da_any hap htm (i := 5) (by rfl) (by kernel_rfl) (by rfl) (listed' := #[true, true, true, true, true, true, false, false, false, false, false, false, false, false, false, false, false, false]) (by rfl) (fun _ => (opv_fieldAddr (by rfl) fld30_3)) (by rfl) rfl ?_
    refine da_now [7, 15, 16, 17] hap htm (i := 6) (by rfl) (by kernel_rfl) (by rfl) (listed' := #[true, true, true, true, true, true, true, false, false, false, false, false, false, false, false, false, false, false]) (by rfl) (by kernel_rfl) (by kernel_rfl) (opv_load (by rfl) na9 (rd_pk (by repeat (first | exact Pk.here _ | apply Pk.there))) (by rfl)) (by rfl) rfl ?_
    refine da_any hap htm (i := 8) (by rfl) (by kernel_rfl) (by rfl) (listed' := #[true, true, true, true, true, true, true, false, true, false, false, false, false, false, false, false, false, false]) (by rfl) (fun _ => (opv_move (by rfl))) (by rfl) rfl ?_
    refine da_any hap htm (i := 9) (by rfl) (by kernel_rfl) (by rfl) (listed' := #[true, true, true, true, true, true, true, false, true, true, false, false, false, false, false, false, false, false]) (by rfl) (fun _ => (opv_fieldAddr (by rfl) fld30_1)) (by rfl) rfl ?_
    refine da_free hap htm (i := 10) (by rfl) (by kernel_rfl) (by rfl) (listed' := #[true, true, true, true, true, true, true, false, true, true, true, false, false, false, false, false, false, false]) (by rfl) (fun w hw => Pks.cw (by repeat (first | exact Pks.nil _ | exact Pk.here _ | apply Pk.there | apply Pks.cons)) hw) (fun _ => (opv_load (by rfl) na3 (rd_pk (by repeat (first | exact Pk.here _ | apply Pk.there))) (by rfl))) (by rfl) rfl ?_
    refine da_any hap htm (i := 11) (by rfl) (by kernel_rfl) (by rfl) (listed' := #[true, true, true, true, true, true, true, false, true, true, true, true, false, false, false, false, false, false]) (by rfl) (fun _ => (opv_fieldAddr (by rfl) fld30_2)) (by rfl) rfl ?_
    refine da_free hap htm (i := 12) (by rfl) (by kernel_rfl) (by rfl) (listed' := #[true, true, true, true, true, true, true, false, true, true, true, true, true, false, false, false, false, false]) (by rfl) (fun w hw => Pks.cw (by repeat (first | exact Pks.nil _ | exact Pk.here _ | apply Pk.there | apply Pks.cons)) hw) (fun _ => (opv_load (by rfl) na3 (rd_pk (by repeat (first | exact Pk.here _ | apply Pk.there))) (by rfl))) (by rfl) rfl ?_
    refine da_any hap htm (i := 13) (by rfl) (by kernel_rfl) (by rfl) (listed' := #[true, true, true, true, true, true, true, false, true, true, true, true, true, true, false, false, false, false]) (by rfl) (fun _ => (opv_fieldAddr (by rfl) fld30_3)) (by rfl) rfl ?_
    refine da_free hap htm (i := 14) (by rfl) (by kernel_rfl) (by rfl) (listed' := #[true, true, true, true, true, true, true, false, true, true, true, true, true, true, true, false, false, false]) (by rfl) (fun w hw => Pks.cw (by repeat (first | exact Pks.nil _ | exact Pk.here _ | apply Pk.there | apply Pks.cons)) hw) (fun _ => (opv_load (by rfl) na9 (rd_pk (by repeat (first | exact Pk.here _ | apply Pk.there))) (by rfl))) (by rfl) rfl ?_
    refine da_eff (i := 7) (by rfl) (by kernel_rfl) (by rfl) (listed' := #[true, true, true, true, true, true, true, true, true, true, true, true, true, true, true, false, false, false]) (by rfl) (eff_callF [blk bb (.cells (ptrs ps).toArray 50 (0, 0)), grp (List.zipWith dkI ps ds)] (fl := []) (cl := []) (G := fun v Is' => v = .int .i64 (chk ds o.d o.n o.s.size) ∧ Is' = [blk bb (.cells (ptrs ps).toArray 50 (0, 0)), grp (List.zipWith dkI ps (onD ds o.d o.n o.s.size (fun D => { D with ws := D.ws ++ [⟨o.n, o.s⟩] })))]) (by rfl) (by rfl) tx10 (by repeat (first | exact Pks.nil _ | exact Pk.here _ | apply Pk.there | apply Pks.cons)) (by exact fun w1 hw1 => (write_spec o.d o.n o.s hw1 hlp hld hwb (by omega)).mono (fun _ _ ⟨hv, hst⟩ => ⟨_, ⟨hv, rfl⟩, hst⟩))) (fun _ _ h w hw => by obtain ⟨_, ⟨_, rfl⟩, rfl⟩ := h; exact Pks.cw (by repeat (first | exact Pks.nil _ | exact Pk.here _ | apply Pk.there | apply Pks.cons)) hw) (by rfl) rfl ?_
    rintro _ _ ⟨_, ⟨rfl, rfl⟩, rfl⟩
    refine da_eff (i := 15) (by rfl) (by kernel_rfl) (by rfl) (listed' := #[true, true, true, true, true, true, true, true, true, true, true, true, true, true, true, true, false, false]) (by rfl) (eff_callF [blk bk (.cells #[dv] 73 (0, 0)), own dv 74 1 12 (rps.flatMap pc), grp (List.zipWith rdI rps ds)] (fl := []) (cl := []) (G := fun v Is' => v = .int .i64 (chk ds o.d o.n o.s.size) ∧ Is' = [blk bk (.cells #[dv] 73 (0, 0)), own dv 74 1 12 (rps.flatMap pc), grp (List.zipWith rdI rps (onD ds o.d o.n o.s.size (fun D => { D with ws := D.ws ++ [⟨o.n, o.s⟩] })))]) (by rfl) (by rfl) tx38 (by repeat (first | exact Pks.nil _ | exact Pk.here _ | apply Pk.there | apply Pks.cons)) (by exact fun w1 hw1 => (rwrite_spec o.d o.n o.s hw1 hlr hld hwb (by omega) hwn).mono (fun _ _ ⟨hv, hst⟩ => ⟨_, ⟨hv, rfl⟩, hst⟩))) (fun _ _ h w hw => by obtain ⟨_, ⟨_, rfl⟩, rfl⟩ := h; exact Pks.cw (by repeat (first | exact Pks.nil _ | exact Pk.here _ | apply Pk.there | apply Pks.cons)) hw) (by rfl) rfl ?_
    rintro _ _ ⟨_, ⟨rfl, rfl⟩, rfl⟩
    refine da_any hap htm (i := 16) (by rfl) (by kernel_rfl) (by rfl) (listed' := #[true, true, true, true, true, true, true, true, true, true, true, true, true, true, true, true, true, false]) (by rfl) (fun _ => (opv_cmp (b := true) (by rfl) (by rfl) (by exact congrArg some (decide_eq_true rfl)))) (by rfl) rfl ?_
    refine da_any hap htm (i := 17) (by rfl) (by kernel_rfl) (by rfl) (listed' := #[true, true, true, true, true, true, true, true, true, true, true, true, true, true, true, true, true, true]) (by rfl) (fun _ => (opv_assign (by rfl))) (by rfl) rfl ?_
    refine da_done (by kernel_rfl) ?_
    refine jk_then ?_
    refine jc_ret ?_
    refine jk_block_ret ?_
    refine jk_then_ret ?_
    refine jk_fn_ret rfl rfl (by rfl) (fun w hw => ?_)
    exact ⟨ps, rps, (onD ds o.d o.n o.s.size (fun D => { D with ws := D.ws ++ [⟨o.n, o.s⟩] })), hlp, hlr, (onD_len _ _ _ _ _).trans hld, hwb.write hld _ _ _, hwn.write hld _ _ _, rfl, St.keep (Sb := [blk bb (.cells (ptrs ps).toArray 50 (0, 0)), grp (List.zipWith dkI ps (onD ds o.d o.n o.s.size (fun D => { D with ws := D.ws ++ [⟨o.n, o.s⟩] }))), blk bk (.cells #[dv] 73 (0, 0)), own dv 74 1 12 (rps.flatMap pc), grp (List.zipWith rdI rps (onD ds o.d o.n o.s.size (fun D => { D with ws := D.ws ++ [⟨o.n, o.s⟩] })))]) hw (by repeat (first | exact Pks.nil _ | exact Pk.here _ | apply Pk.there | apply Pks.cons)) (by repeat (first | exact Tl.here _ | apply Tl.there))⟩
  · first | have p7 := of_decide_eq_true h7 | have p7 := of_decide_eq_false h7 | have p7 := ndT h7 | have p7 := ndF h7 | have p7 := nbT h7 | have p7 := nbF h7 | have p7 := h7
    refine sc_false (by rfl) h7 ?_
    refine jc_seq ?_
    refine sc_region ?_
    refine so_pure (opv_cmp (by rfl) (by rfl) (by rfl)) (by rfl) rfl ?_
    refine so_pure (opv_assign (by rfl)) (by rfl) rfl ?_
    refine jo_nil ?_
    refine jk_then ?_
    refine sk_split (x := 33) (by rfl) (fun h23 => ?_) (fun h23 => ?_)
    · first | have p23 := of_decide_eq_true h23 | have p23 := of_decide_eq_false h23 | have p23 := ndT h23 | have p23 := ndF h23 | have p23 := nbT h23 | have p23 := nbF h23 | have p23 := h23
      refine sc_true (by rfl) h23 ?_
      refine jc_seq ?_
      refine sc_region ?_
      refine so_pure (opv_move (by rfl)) (by rfl) rfl ?_
      refine so_pure (opv_fieldAddr (by rfl) fld30_1) (by rfl) rfl ?_
      refine so_pure (opv_load (by rfl) na3 (rd_pk (by repeat (first | exact Pk.here _ | apply Pk.there))) (by rfl)) (by rfl) rfl ?_
      refine so_pure (opv_fieldAddr (by rfl) fld30_2) (by rfl) rfl ?_
      refine so_pure (opv_load (by rfl) na3 (rd_pk (by repeat (first | exact Pk.here _ | apply Pk.there))) (by rfl)) (by rfl) rfl ?_
      refine so_eff (eff_callF [blk bb (.cells (ptrs ps).toArray 50 (0, 0)), grp (List.zipWith dkI ps ds)] (fl := []) (cl := []) (G := fun v Is' => v = .tuple #[.string (rdD ds o.d o.n), .int .i64 (chk ds o.d o.n 0)] ∧ Is' = [blk bb (.cells (ptrs ps).toArray 50 (0, 0)), grp (List.zipWith dkI ps ds)]) (by rfl) (by rfl) tx14 (by repeat (first | exact Pks.nil _ | exact Pk.here _ | apply Pk.there | apply Pks.cons)) (by exact fun w1 hw1 => (read_spec o.d o.n hw1 hlp hld hwb (by omega)).mono (fun _ _ ⟨hv, hst⟩ => ⟨_, ⟨hv, rfl⟩, hst⟩))) (by rfl) rfl ?_
      rintro _ _ ⟨_, ⟨rfl, rfl⟩, rfl⟩
      refine so_pure (opv_move (by rfl)) (by rfl) rfl ?_
      refine so_pure (opv_extract (by rfl) (by rfl)) (by rfl) rfl ?_
      refine so_pure (opv_extract (by rfl) (by rfl)) (by rfl) rfl ?_
      refine so_pure (opv_assign (by rfl)) (by rfl) rfl ?_
      refine so_pure (opv_assign (by rfl)) (by rfl) rfl ?_
      refine jo_nil ?_
      refine jk_then ?_
      refine jc_seq ?_
      refine sc_region ?_
      refine so_pure (opv_move (by rfl)) (by rfl) rfl ?_
      refine so_pure (opv_fieldAddr (by rfl) fld30_1) (by rfl) rfl ?_
      refine so_pure (opv_load (by rfl) na3 (rd_pk (by repeat (first | exact Pk.here _ | apply Pk.there))) (by rfl)) (by rfl) rfl ?_
      refine so_pure (opv_fieldAddr (by rfl) fld30_2) (by rfl) rfl ?_
      refine so_pure (opv_load (by rfl) na3 (rd_pk (by repeat (first | exact Pk.here _ | apply Pk.there))) (by rfl)) (by rfl) rfl ?_
      refine so_eff (eff_callF [blk bk (.cells #[dv] 73 (0, 0)), own dv 74 1 12 (rps.flatMap pc), grp (List.zipWith rdI rps ds)] (fl := []) (cl := []) (G := fun v Is' => v = .tuple #[.string (rdD ds o.d o.n), .int .i64 (chk ds o.d o.n 0)] ∧ Is' = [blk bk (.cells #[dv] 73 (0, 0)), own dv 74 1 12 (rps.flatMap pc), grp (List.zipWith rdI rps ds)]) (by rfl) (by rfl) tx21 (by repeat (first | exact Pks.nil _ | exact Pk.here _ | apply Pk.there | apply Pks.cons)) (by exact fun w1 hw1 => (rread_spec o.d o.n hw1 hlr hld hwb (by omega) hwn).mono (fun _ _ ⟨hv, hst⟩ => ⟨_, ⟨hv, rfl⟩, hst⟩))) (by rfl) rfl ?_
      rintro _ _ ⟨_, ⟨rfl, rfl⟩, rfl⟩
      refine so_pure (opv_move (by rfl)) (by rfl) rfl ?_
      refine so_pure (opv_extract (by rfl) (by rfl)) (by rfl) rfl ?_
      refine so_pure (opv_extract (by rfl) (by rfl)) (by rfl) rfl ?_
      refine so_pure (opv_assign (by rfl)) (by rfl) rfl ?_
      refine so_pure (opv_assign (by rfl)) (by rfl) rfl ?_
      refine jo_nil ?_
      refine jk_then ?_
      refine jc_seq ?_
      refine sc_region ?_
      refine so_pure (opv_move (by rfl)) (by rfl) rfl ?_
      refine so_pure (opv_move (by rfl)) (by rfl) rfl ?_
      refine so_pure (opv_seq_true (by rfl) (by rfl) rfl) (by rfl) rfl ?_
      refine so_pure (opv_move (by rfl)) (by rfl) rfl ?_
      refine so_pure (opv_move (by rfl)) (wtd_run rfl rfl (by rfl) rfl) rfl ?_
      refine so_pure (opv_move (by rfl)) (wtd_run rfl rfl (by rfl) rfl) rfl ?_
      refine so_pure (opv_cmp (b := true) (by rfl) (by rfl) (by exact congrArg some (decide_eq_true rfl))) (wtd_run rfl rfl (by rfl) rfl) rfl ?_
      refine so_pure (sv_pick_t (by rfl) rfl (by rfl)) (by rfl) rfl ?_
      refine so_pure (opv_assign (by rfl)) (by rfl) rfl ?_
      refine jo_nil ?_
      refine jk_then ?_
      refine jc_ret ?_
      refine jk_block_ret ?_
      refine jk_then_ret ?_
      refine jk_fn_ret rfl rfl (by rfl) (fun w hw => ?_)
      exact ⟨ps, rps, ds, hlp, hlr, hld, hwb.up (by omega), hwn, rfl, St.keep (Sb := [blk bb (.cells (ptrs ps).toArray 50 (0, 0)), grp (List.zipWith dkI ps ds), blk bk (.cells #[dv] 73 (0, 0)), own dv 74 1 12 (rps.flatMap pc), grp (List.zipWith rdI rps ds)]) hw (by repeat (first | exact Pks.nil _ | exact Pk.here _ | apply Pk.there | apply Pks.cons)) (by repeat (first | exact Tl.here _ | apply Tl.there))⟩
    · first | have p23 := of_decide_eq_true h23 | have p23 := of_decide_eq_false h23 | have p23 := ndT h23 | have p23 := ndF h23 | have p23 := nbT h23 | have p23 := nbF h23 | have p23 := h23
      refine sc_false (by rfl) h23 ?_
      refine jc_seq ?_
      refine sc_region ?_
      refine so_pure (opv_cmp (by rfl) (by rfl) (by rfl)) (by rfl) rfl ?_
      refine so_pure (opv_assign (by rfl)) (by rfl) rfl ?_
      refine jo_nil ?_
      refine jk_then ?_
      refine sk_split (x := 61) (by rfl) (fun h38 => ?_) (fun h38 => ?_)
      · first | have p38 := of_decide_eq_true h38 | have p38 := of_decide_eq_false h38 | have p38 := ndT h38 | have p38 := ndF h38 | have p38 := nbT h38 | have p38 := nbF h38 | have p38 := h38
        refine sc_true (by rfl) h38 ?_
        refine jc_seq ?_
        refine so_draw [blk b5 (.cells #[.int .i64 o.op, .int .i64 o.d, .int .i64 o.n, .string o.s, .slice o.kA o.kn o.kc, .slice o.tA o.tn o.tc] 30 (0, 0))] (by kernel_rfl) (by kernel_rfl) (by kernel_rfl) rfl (by rfl) (fun hap htm => ?_)
        refine da_any hap htm (i := 0) (by rfl) (by kernel_rfl) (by rfl) (listed' := #[true, false, false, false, false, false, false, false, false, false]) (by rfl) (fun _ => (opv_move (by rfl))) (by rfl) rfl ?_
        refine da_any hap htm (i := 1) (by rfl) (by kernel_rfl) (by rfl) (listed' := #[true, true, false, false, false, false, false, false, false, false]) (by rfl) (fun _ => (opv_fieldAddr (by rfl) fld30_1)) (by rfl) rfl ?_
        refine da_now [3, 7, 8, 9] hap htm (i := 2) (by rfl) (by kernel_rfl) (by rfl) (listed' := #[true, true, true, false, false, false, false, false, false, false]) (by rfl) (by kernel_rfl) (by kernel_rfl) (opv_load (by rfl) na3 (rd_pk (by repeat (first | exact Pk.here _ | apply Pk.there))) (by rfl)) (by rfl) rfl ?_
        refine da_any hap htm (i := 4) (by rfl) (by kernel_rfl) (by rfl) (listed' := #[true, true, true, false, true, false, false, false, false, false]) (by rfl) (fun _ => (opv_move (by rfl))) (by rfl) rfl ?_
        refine da_any hap htm (i := 5) (by rfl) (by kernel_rfl) (by rfl) (listed' := #[true, true, true, false, true, true, false, false, false, false]) (by rfl) (fun _ => (opv_fieldAddr (by rfl) fld30_1)) (by rfl) rfl ?_
        refine da_free hap htm (i := 6) (by rfl) (by kernel_rfl) (by rfl) (listed' := #[true, true, true, false, true, true, true, false, false, false]) (by rfl) (fun w hw => Pks.cw (by repeat (first | exact Pks.nil _ | exact Pk.here _ | apply Pk.there | apply Pks.cons)) hw) (fun _ => (opv_load (by rfl) na3 (rd_pk (by repeat (first | exact Pk.here _ | apply Pk.there))) (by rfl))) (by rfl) rfl ?_
        refine da_eff (i := 3) (by rfl) (by kernel_rfl) (by rfl) (listed' := #[true, true, true, true, true, true, true, false, false, false]) (by rfl) (eff_callF [blk bb (.cells (ptrs ps).toArray 50 (0, 0)), grp (List.zipWith dkI ps ds)] (fl := []) (cl := []) (G := fun v Is' => v = .int .i64 (chk ds o.d 0 0) ∧ Is' = [blk bb (.cells (ptrs ps).toArray 50 (0, 0)), grp (List.zipWith dkI ps (onD ds o.d 0 0 (settleD (fun _ => some false))))]) (by rfl) (by rfl) tx11 (by repeat (first | exact Pks.nil _ | exact Pk.here _ | apply Pk.there | apply Pks.cons)) (by exact fun w1 hw1 => (flush_spec o.d hw1 hlp hld hwb (by omega)).mono (fun _ _ ⟨hv, hst⟩ => ⟨_, ⟨hv, rfl⟩, hst⟩))) (fun _ _ h w hw => by obtain ⟨_, ⟨_, rfl⟩, rfl⟩ := h; exact Pks.cw (by repeat (first | exact Pks.nil _ | exact Pk.here _ | apply Pk.there | apply Pks.cons)) hw) (by rfl) rfl ?_
        rintro _ _ ⟨_, ⟨rfl, rfl⟩, rfl⟩
        refine da_eff (i := 7) (by rfl) (by kernel_rfl) (by rfl) (listed' := #[true, true, true, true, true, true, true, true, false, false]) (by rfl) (eff_callF [blk bk (.cells #[dv] 73 (0, 0)), own dv 74 1 12 (rps.flatMap pc), grp (List.zipWith rdI rps ds)] (fl := []) (cl := []) (G := fun v Is' => v = .int .i64 (chk ds o.d 0 0) ∧ Is' = [blk bk (.cells #[dv] 73 (0, 0)), own dv 74 1 12 (rps.flatMap pc), grp (List.zipWith rdI rps (onD ds o.d 0 0 (settleD whole)))]) (by rfl) (by rfl) tx39 (by repeat (first | exact Pks.nil _ | exact Pk.here _ | apply Pk.there | apply Pks.cons)) (by exact fun w1 hw1 => (rflush_spec o.d hw1 hlr hld hwb (by omega) hwn).mono (fun _ _ ⟨hv, hst⟩ => ⟨_, ⟨hv, rfl⟩, hst⟩))) (fun _ _ h w hw => by obtain ⟨_, ⟨_, rfl⟩, rfl⟩ := h; exact Pks.cw (by repeat (first | exact Pks.nil _ | exact Pk.here _ | apply Pk.there | apply Pks.cons)) hw) (by rfl) rfl ?_
        rintro _ _ ⟨_, ⟨rfl, rfl⟩, rfl⟩
        refine da_any hap htm (i := 8) (by rfl) (by kernel_rfl) (by rfl) (listed' := #[true, true, true, true, true, true, true, true, true, false]) (by rfl) (fun _ => (opv_cmp (b := true) (by rfl) (by rfl) (by exact congrArg some (decide_eq_true rfl)))) (by rfl) rfl ?_
        refine da_any hap htm (i := 9) (by rfl) (by kernel_rfl) (by rfl) (listed' := #[true, true, true, true, true, true, true, true, true, true]) (by rfl) (fun _ => (opv_assign (by rfl))) (by rfl) rfl ?_
        refine da_done (by kernel_rfl) ?_
        refine jk_then ?_
        refine jc_ret ?_
        refine jk_block_ret ?_
        refine jk_then_ret ?_
        refine jk_fn_ret rfl rfl (by rfl) (fun w hw => ?_)
        exact ⟨ps, rps, (onD ds o.d 0 0 (settleD whole)), hlp, hlr, (onD_len _ _ _ _ _).trans hld, (hwb.settle hld _).up (by omega), hwn.flush hld _, rfl, St.keep (Sb := [blk bb (.cells (ptrs ps).toArray 50 (0, 0)), grp (List.zipWith dkI ps (onD ds o.d 0 0 (settleD whole))), blk bk (.cells #[dv] 73 (0, 0)), own dv 74 1 12 (rps.flatMap pc), grp (List.zipWith rdI rps (onD ds o.d 0 0 (settleD whole)))]) hw (by repeat (first | exact Pks.nil _ | exact Pk.here _ | apply Pk.there | apply Pks.cons)) (by repeat (first | exact Tl.here _ | apply Tl.there))⟩
      · first | have p38 := of_decide_eq_true h38 | have p38 := of_decide_eq_false h38 | have p38 := ndT h38 | have p38 := ndF h38 | have p38 := nbT h38 | have p38 := nbF h38 | have p38 := h38
        refine sc_false (by rfl) h38 ?_
        refine jc_seq ?_
        refine sc_region ?_
        refine so_pure (opv_cmp (by rfl) (by rfl) (by rfl)) (by rfl) rfl ?_
        refine so_pure (opv_assign (by rfl)) (by rfl) rfl ?_
        refine jo_nil ?_
        refine jk_then ?_
        refine sk_split (x := 72) (by rfl) (fun h46 => ?_) (fun h46 => ?_)
        · first | have p46 := of_decide_eq_true h46 | have p46 := of_decide_eq_false h46 | have p46 := ndT h46 | have p46 := ndF h46 | have p46 := nbT h46 | have p46 := nbF h46 | have p46 := h46
          refine sc_true (by rfl) h46 ?_
          refine jc_seq ?_
          refine so_draw [blk b5 (.cells #[.int .i64 o.op, .int .i64 o.d, .int .i64 o.n, .string o.s, .slice o.kA o.kn o.kc, .slice o.tA o.tn o.tc] 30 (0, 0))] (by kernel_rfl) (by kernel_rfl) (by kernel_rfl) rfl (by rfl) (fun hap htm => ?_)
          refine da_any hap htm (i := 0) (by rfl) (by kernel_rfl) (by rfl) (listed' := #[true, false, false, false, false, false, false, false, false, false, false, false, false, false]) (by rfl) (fun _ => (opv_move (by rfl))) (by rfl) rfl ?_
          refine da_any hap htm (i := 1) (by rfl) (by kernel_rfl) (by rfl) (listed' := #[true, true, false, false, false, false, false, false, false, false, false, false, false, false]) (by rfl) (fun _ => (opv_fieldAddr (by rfl) fld30_4)) (by rfl) rfl ?_
          refine da_now [5, 11, 12, 13] hap htm (i := 2) (by rfl) (by kernel_rfl) (by rfl) (listed' := #[true, true, true, false, false, false, false, false, false, false, false, false, false, false]) (by rfl) (by kernel_rfl) (by kernel_rfl) (opv_load (by rfl) na23 (rd_pk (by repeat (first | exact Pk.here _ | apply Pk.there))) (by rfl)) (by rfl) rfl ?_
          refine da_any hap htm (i := 3) (by rfl) (by kernel_rfl) (by rfl) (listed' := #[true, true, true, true, false, false, false, false, false, false, false, false, false, false]) (by rfl) (fun _ => (opv_fieldAddr (by rfl) fld30_5)) (by rfl) rfl ?_
          refine da_now [5, 11, 12, 13] hap htm (i := 4) (by rfl) (by kernel_rfl) (by rfl) (listed' := #[true, true, true, true, true, false, false, false, false, false, false, false, false, false]) (by rfl) (by kernel_rfl) (by kernel_rfl) (opv_load (by rfl) na23 (rd_pk (by repeat (first | exact Pk.here _ | apply Pk.there))) (by rfl)) (by rfl) rfl ?_
          refine da_any hap htm (i := 6) (by rfl) (by kernel_rfl) (by rfl) (listed' := #[true, true, true, true, true, false, true, false, false, false, false, false, false, false]) (by rfl) (fun _ => (opv_move (by rfl))) (by rfl) rfl ?_
          refine da_any hap htm (i := 7) (by rfl) (by kernel_rfl) (by rfl) (listed' := #[true, true, true, true, true, false, true, true, false, false, false, false, false, false]) (by rfl) (fun _ => (opv_fieldAddr (by rfl) fld30_4)) (by rfl) rfl ?_
          refine da_free hap htm (i := 8) (by rfl) (by kernel_rfl) (by rfl) (listed' := #[true, true, true, true, true, false, true, true, true, false, false, false, false, false]) (by rfl) (fun w hw => Pks.cw (by repeat (first | exact Pks.nil _ | exact Pk.here _ | apply Pk.there | apply Pks.cons)) hw) (fun _ => (opv_load (by rfl) na23 (rd_pk (by repeat (first | exact Pk.here _ | apply Pk.there))) (by rfl))) (by rfl) rfl ?_
          refine da_any hap htm (i := 9) (by rfl) (by kernel_rfl) (by rfl) (listed' := #[true, true, true, true, true, false, true, true, true, true, false, false, false, false]) (by rfl) (fun _ => (opv_fieldAddr (by rfl) fld30_5)) (by rfl) rfl ?_
          refine da_free hap htm (i := 10) (by rfl) (by kernel_rfl) (by rfl) (listed' := #[true, true, true, true, true, false, true, true, true, true, true, false, false, false]) (by rfl) (fun w hw => Pks.cw (by repeat (first | exact Pks.nil _ | exact Pk.here _ | apply Pk.there | apply Pks.cons)) hw) (fun _ => (opv_load (by rfl) na23 (rd_pk (by repeat (first | exact Pk.here _ | apply Pk.there))) (by rfl))) (by rfl) rfl ?_
          refine da_eff (i := 5) (by rfl) (by kernel_rfl) (by rfl) (listed' := #[true, true, true, true, true, true, true, true, true, true, true, false, false, false]) (by rfl) (eff_callF [blk bb (.cells (ptrs ps).toArray 50 (0, 0)), grp (List.zipWith dkI ps ds)] (fl := []) (cl := []) (G := fun v Is' => v = .int .i64 0 ∧ Is' = [blk bb (.cells (ptrs ps).toArray 50 (0, 0)), grp (List.zipWith dkI ps (crashK xs ys ds 12))]) (by rfl) (by rfl) tx13 (by repeat (first | exact Pks.nil _ | exact Pk.here _ | apply Pk.there | apply Pks.cons)) (by exact fun w1 hw1 => (crash_spec o.kA o.tA o.kn o.tn o.kc o.tc xs ys hw1 hlp hld hwb (by omega) (fun w1 hw1 => hk.keepSt hw1) (fun w1 hw1 => ht.keepSt hw1)).mono (fun _ _ ⟨hv, hst⟩ => ⟨_, ⟨hv, rfl⟩, hst⟩))) (fun _ _ h w hw => by obtain ⟨_, ⟨_, rfl⟩, rfl⟩ := h; exact Pks.cw (by repeat (first | exact Pks.nil _ | exact Pk.here _ | apply Pk.there | apply Pks.cons)) hw) (by rfl) rfl ?_
          rintro _ _ ⟨_, ⟨rfl, rfl⟩, rfl⟩
          refine da_eff (i := 11) (by rfl) (by kernel_rfl) (by rfl) (listed' := #[true, true, true, true, true, true, true, true, true, true, true, true, false, false]) (by rfl) (eff_callF [blk bk (.cells #[dv] 73 (0, 0)), own dv 74 1 12 (rps.flatMap pc), grp (List.zipWith rdI rps ds)] (fl := []) (cl := []) (G := fun v Is' => v = .int .i64 0 ∧ Is' = [blk bk (.cells #[dv] 73 (0, 0)), own dv 74 1 12 (rps.flatMap pc), grp (List.zipWith rdI rps (crashK xs ys ds 12))]) (by rfl) (by rfl) tx40 (by repeat (first | exact Pks.nil _ | exact Pk.here _ | apply Pk.there | apply Pks.cons)) (by exact fun w1 hw1 => (rcrash_spec o.kA o.tA o.kn o.tn o.kc o.tc xs ys hw1 hlr hld hwb (by omega) hwn (fun w1 hw1 => hk.keepSt hw1) (fun w1 hw1 => ht.keepSt hw1)).mono (fun _ _ ⟨hv, hst⟩ => ⟨_, ⟨hv, rfl⟩, hst⟩))) (fun _ _ h w hw => by obtain ⟨_, ⟨_, rfl⟩, rfl⟩ := h; exact Pks.cw (by repeat (first | exact Pks.nil _ | exact Pk.here _ | apply Pk.there | apply Pks.cons)) hw) (by rfl) rfl ?_
          rintro _ _ ⟨_, ⟨rfl, rfl⟩, rfl⟩
          refine da_any hap htm (i := 12) (by rfl) (by kernel_rfl) (by rfl) (listed' := #[true, true, true, true, true, true, true, true, true, true, true, true, true, false]) (by rfl) (fun _ => (opv_cmp (b := true) (by rfl) (by rfl) (by rfl))) (by rfl) rfl ?_
          refine da_any hap htm (i := 13) (by rfl) (by kernel_rfl) (by rfl) (listed' := #[true, true, true, true, true, true, true, true, true, true, true, true, true, true]) (by rfl) (fun _ => (opv_assign (by rfl))) (by rfl) rfl ?_
          refine da_done (by kernel_rfl) ?_
          refine jk_then ?_
          refine jc_ret ?_
          refine jk_block_ret ?_
          refine jk_then_ret ?_
          refine jk_fn_ret rfl rfl (by rfl) (fun w hw => ?_)
          exact ⟨ps, rps, (crashK xs ys ds 12), hlp, hlr, (crashK_len _ _ _ _).trans hld, WB.crash hld _ _ _, WN.crash hld _ _, rfl, St.keep (Sb := [blk bb (.cells (ptrs ps).toArray 50 (0, 0)), grp (List.zipWith dkI ps (crashK xs ys ds 12)), blk bk (.cells #[dv] 73 (0, 0)), own dv 74 1 12 (rps.flatMap pc), grp (List.zipWith rdI rps (crashK xs ys ds 12))]) hw (by repeat (first | exact Pks.nil _ | exact Pk.here _ | apply Pk.there | apply Pks.cons)) (by repeat (first | exact Tl.here _ | apply Tl.there))⟩
        · first | have p46 := of_decide_eq_true h46 | have p46 := of_decide_eq_false h46 | have p46 := ndT h46 | have p46 := ndF h46 | have p46 := nbT h46 | have p46 := nbF h46 | have p46 := h46
          refine sc_false (by rfl) h46 ?_
          refine jc_seq ?_
          refine sc_region ?_
          refine so_pure (opv_cmp (by rfl) (by rfl) (by rfl)) (by rfl) rfl ?_
          refine so_pure (opv_assign (by rfl)) (by rfl) rfl ?_
          refine jo_nil ?_
          refine jk_then ?_
          refine sk_split (x := 87) (by rfl) (fun h58 => ?_) (fun h58 => ?_)
          · first | have p58 := of_decide_eq_true h58 | have p58 := of_decide_eq_false h58 | have p58 := ndT h58 | have p58 := ndF h58 | have p58 := nbT h58 | have p58 := nbF h58 | have p58 := h58
            refine sc_true (by rfl) h58 ?_
            refine jc_seq ?_
            refine so_draw [blk b5 (.cells #[.int .i64 o.op, .int .i64 o.d, .int .i64 o.n, .string o.s, .slice o.kA o.kn o.kc, .slice o.tA o.tn o.tc] 30 (0, 0))] (by kernel_rfl) (by kernel_rfl) (by kernel_rfl) rfl (by rfl) (fun hap htm => ?_)
            refine da_any hap htm (i := 0) (by rfl) (by kernel_rfl) (by rfl) (listed' := #[true, false, false, false, false, false, false, false, false, false, false, false, false, false, false, false, false, false]) (by rfl) (fun _ => (opv_move (by rfl))) (by rfl) rfl ?_
            refine da_any hap htm (i := 1) (by rfl) (by kernel_rfl) (by rfl) (listed' := #[true, true, false, false, false, false, false, false, false, false, false, false, false, false, false, false, false, false]) (by rfl) (fun _ => (opv_fieldAddr (by rfl) fld30_1)) (by rfl) rfl ?_
            refine da_now [7, 15, 16, 17] hap htm (i := 2) (by rfl) (by kernel_rfl) (by rfl) (listed' := #[true, true, true, false, false, false, false, false, false, false, false, false, false, false, false, false, false, false]) (by rfl) (by kernel_rfl) (by kernel_rfl) (opv_load (by rfl) na3 (rd_pk (by repeat (first | exact Pk.here _ | apply Pk.there))) (by rfl)) (by rfl) rfl ?_
            refine da_any hap htm (i := 3) (by rfl) (by kernel_rfl) (by rfl) (listed' := #[true, true, true, true, false, false, false, false, false, false, false, false, false, false, false, false, false, false]) (by rfl) (fun _ => (opv_fieldAddr (by rfl) fld30_2)) (by rfl) rfl ?_
            refine da_now [7, 15, 16, 17] hap htm (i := 4) (by rfl) (by kernel_rfl) (by rfl) (listed' := #[true, true, true, true, true, false, false, false, false, false, false, false, false, false, false, false, false, false]) (by rfl) (by kernel_rfl) (by kernel_rfl) (opv_load (by rfl) na3 (rd_pk (by repeat (first | exact Pk.here _ | apply Pk.there))) (by rfl)) (by rfl) rfl ?_
            refine da_any hap htm (i := 5) (by rfl) (by kernel_rfl) (by rfl) (listed' := #[true, true, true, true, true, true, false, false, false, false, false, false, false, false, false, false, false, false]) (by rfl) (fun _ => (opv_fieldAddr (by rfl) fld30_3)) (by rfl) rfl ?_
            refine da_now [7, 15, 16, 17] hap htm (i := 6) (by rfl) (by kernel_rfl) (by rfl) (listed' := #[true, true, true, true, true, true, true, false, false, false, false, false, false, false, false, false, false, false]) (by rfl) (by kernel_rfl) (by kernel_rfl) (opv_load (by rfl) na9 (rd_pk (by repeat (first | exact Pk.here _ | apply Pk.there))) (by rfl)) (by rfl) rfl ?_
            refine da_any hap htm (i := 8) (by rfl) (by kernel_rfl) (by rfl) (listed' := #[true, true, true, true, true, true, true, false, true, false, false, false, false, false, false, false, false, false]) (by rfl) (fun _ => (opv_move (by rfl))) (by rfl) rfl ?_
            refine da_any hap htm (i := 9) (by rfl) (by kernel_rfl) (by rfl) (listed' := #[true, true, true, true, true, true, true, false, true, true, false, false, false, false, false, false, false, false]) (by rfl) (fun _ => (opv_fieldAddr (by rfl) fld30_1)) (by rfl) rfl ?_
            refine da_free hap htm (i := 10) (by rfl) (by kernel_rfl) (by rfl) (listed' := #[true, true, true, true, true, true, true, false, true, true, true, false, false, false, false, false, false, false]) (by rfl) (fun w hw => Pks.cw (by repeat (first | exact Pks.nil _ | exact Pk.here _ | apply Pk.there | apply Pks.cons)) hw) (fun _ => (opv_load (by rfl) na3 (rd_pk (by repeat (first | exact Pk.here _ | apply Pk.there))) (by rfl))) (by rfl) rfl ?_
            refine da_any hap htm (i := 11) (by rfl) (by kernel_rfl) (by rfl) (listed' := #[true, true, true, true, true, true, true, false, true, true, true, true, false, false, false, false, false, false]) (by rfl) (fun _ => (opv_fieldAddr (by rfl) fld30_2)) (by rfl) rfl ?_
            refine da_free hap htm (i := 12) (by rfl) (by kernel_rfl) (by rfl) (listed' := #[true, true, true, true, true, true, true, false, true, true, true, true, true, false, false, false, false, false]) (by rfl) (fun w hw => Pks.cw (by repeat (first | exact Pks.nil _ | exact Pk.here _ | apply Pk.there | apply Pks.cons)) hw) (fun _ => (opv_load (by rfl) na3 (rd_pk (by repeat (first | exact Pk.here _ | apply Pk.there))) (by rfl))) (by rfl) rfl ?_
            refine da_any hap htm (i := 13) (by rfl) (by kernel_rfl) (by rfl) (listed' := #[true, true, true, true, true, true, true, false, true, true, true, true, true, true, false, false, false, false]) (by rfl) (fun _ => (opv_fieldAddr (by rfl) fld30_3)) (by rfl) rfl ?_
            refine da_free hap htm (i := 14) (by rfl) (by kernel_rfl) (by rfl) (listed' := #[true, true, true, true, true, true, true, false, true, true, true, true, true, true, true, false, false, false]) (by rfl) (fun w hw => Pks.cw (by repeat (first | exact Pks.nil _ | exact Pk.here _ | apply Pk.there | apply Pks.cons)) hw) (fun _ => (opv_load (by rfl) na9 (rd_pk (by repeat (first | exact Pk.here _ | apply Pk.there))) (by rfl))) (by rfl) rfl ?_
            refine da_eff (i := 7) (by rfl) (by kernel_rfl) (by rfl) (listed' := #[true, true, true, true, true, true, true, true, true, true, true, true, true, true, true, false, false, false]) (by rfl) (eff_callF [blk bb (.cells (ptrs ps).toArray 50 (0, 0)), grp (List.zipWith dkI ps ds)] (fl := []) (cl := []) (G := fun v Is' => v = .int .i64 (chk ds o.d o.n o.s.size) ∧ Is' = [blk bb (.cells (ptrs ps).toArray 50 (0, 0)), grp (List.zipWith dkI ps (onD ds o.d o.n o.s.size (spD o.n o.s)))]) (by rfl) (by rfl) tx23 (by repeat (first | exact Pks.nil _ | exact Pk.here _ | apply Pk.there | apply Pks.cons)) (by exact fun w1 hw1 => (spoil_spec o.d o.n o.s hw1 hlp hld hwb (by omega)).mono (fun _ _ ⟨hv, hst⟩ => ⟨_, ⟨hv, rfl⟩, hst⟩))) (fun _ _ h w hw => by obtain ⟨_, ⟨_, rfl⟩, rfl⟩ := h; exact Pks.cw (by repeat (first | exact Pks.nil _ | exact Pk.here _ | apply Pk.there | apply Pks.cons)) hw) (by rfl) rfl ?_
            rintro _ _ ⟨_, ⟨rfl, rfl⟩, rfl⟩
            refine da_eff (i := 15) (by rfl) (by kernel_rfl) (by rfl) (listed' := #[true, true, true, true, true, true, true, true, true, true, true, true, true, true, true, true, false, false]) (by rfl) (eff_callF [blk bk (.cells #[dv] 73 (0, 0)), own dv 74 1 12 (rps.flatMap pc), grp (List.zipWith rdI rps ds)] (fl := []) (cl := []) (G := fun v Is' => v = .int .i64 (chk ds o.d o.n o.s.size) ∧ Is' = [blk bk (.cells #[dv] 73 (0, 0)), own dv 74 1 12 (rps.flatMap pc), grp (List.zipWith rdI rps (onD ds o.d o.n o.s.size (spD o.n o.s)))]) (by rfl) (by rfl) tx41 (by repeat (first | exact Pks.nil _ | exact Pk.here _ | apply Pk.there | apply Pks.cons)) (by exact fun w1 hw1 => (rspoil_spec o.d o.n o.s hw1 hlr hld hwb (by omega) hwn).mono (fun _ _ ⟨hv, hst⟩ => ⟨_, ⟨hv, rfl⟩, hst⟩))) (fun _ _ h w hw => by obtain ⟨_, ⟨_, rfl⟩, rfl⟩ := h; exact Pks.cw (by repeat (first | exact Pks.nil _ | exact Pk.here _ | apply Pk.there | apply Pks.cons)) hw) (by rfl) rfl ?_
            rintro _ _ ⟨_, ⟨rfl, rfl⟩, rfl⟩
            refine da_any hap htm (i := 16) (by rfl) (by kernel_rfl) (by rfl) (listed' := #[true, true, true, true, true, true, true, true, true, true, true, true, true, true, true, true, true, false]) (by rfl) (fun _ => (opv_cmp (b := true) (by rfl) (by rfl) (by exact congrArg some (decide_eq_true rfl)))) (by rfl) rfl ?_
            refine da_any hap htm (i := 17) (by rfl) (by kernel_rfl) (by rfl) (listed' := #[true, true, true, true, true, true, true, true, true, true, true, true, true, true, true, true, true, true]) (by rfl) (fun _ => (opv_assign (by rfl))) (by rfl) rfl ?_
            refine da_done (by kernel_rfl) ?_
            refine jk_then ?_
            refine jc_ret ?_
            refine jk_block_ret ?_
            refine jk_then_ret ?_
            refine jk_fn_ret rfl rfl (by rfl) (fun w hw => ?_)
            exact ⟨ps, rps, (onD ds o.d o.n o.s.size (spD o.n o.s)), hlp, hlr, (onD_len _ _ _ _ _).trans hld, (hwb.spoil hld _ _ _ _ _).up (by omega), hwn.spoil hld _ _ _, rfl, St.keep (Sb := [blk bb (.cells (ptrs ps).toArray 50 (0, 0)), grp (List.zipWith dkI ps (onD ds o.d o.n o.s.size (spD o.n o.s))), blk bk (.cells #[dv] 73 (0, 0)), own dv 74 1 12 (rps.flatMap pc), grp (List.zipWith rdI rps (onD ds o.d o.n o.s.size (spD o.n o.s)))]) hw (by repeat (first | exact Pks.nil _ | exact Pk.here _ | apply Pk.there | apply Pks.cons)) (by repeat (first | exact Tl.here _ | apply Tl.there))⟩
          · first | have p58 := of_decide_eq_true h58 | have p58 := of_decide_eq_false h58 | have p58 := ndT h58 | have p58 := ndF h58 | have p58 := nbT h58 | have p58 := nbF h58 | have p58 := h58
            refine sc_false (by rfl) h58 ?_
            refine jc_seq ?_
            refine sc_region ?_
            refine so_pure (opv_cmp (by rfl) (by rfl) (by rfl)) (by rfl) rfl ?_
            refine so_pure (opv_assign (by rfl)) (by rfl) rfl ?_
            refine jo_nil ?_
            refine jk_then ?_
            refine sk_split (x := 106) (by rfl) (fun h74 => ?_) (fun h74 => ?_)
            · first | have p74 := of_decide_eq_true h74 | have p74 := of_decide_eq_false h74 | have p74 := ndT h74 | have p74 := ndF h74 | have p74 := nbT h74 | have p74 := nbF h74 | have p74 := h74
              refine sc_true (by rfl) h74 ?_
              refine jc_seq ?_
              refine so_draw [blk b5 (.cells #[.int .i64 o.op, .int .i64 o.d, .int .i64 o.n, .string o.s, .slice o.kA o.kn o.kc, .slice o.tA o.tn o.tc] 30 (0, 0))] (by kernel_rfl) (by kernel_rfl) (by kernel_rfl) rfl (by rfl) (fun hap htm => ?_)
              refine da_any hap htm (i := 0) (by rfl) (by kernel_rfl) (by rfl) (listed' := #[true, false, false, false, false, false, false, false, false, false]) (by rfl) (fun _ => (opv_move (by rfl))) (by rfl) rfl ?_
              refine da_any hap htm (i := 1) (by rfl) (by kernel_rfl) (by rfl) (listed' := #[true, true, false, false, false, false, false, false, false, false]) (by rfl) (fun _ => (opv_fieldAddr (by rfl) fld30_1)) (by rfl) rfl ?_
              refine da_now [3, 7, 8, 9] hap htm (i := 2) (by rfl) (by kernel_rfl) (by rfl) (listed' := #[true, true, true, false, false, false, false, false, false, false]) (by rfl) (by kernel_rfl) (by kernel_rfl) (opv_load (by rfl) na3 (rd_pk (by repeat (first | exact Pk.here _ | apply Pk.there))) (by rfl)) (by rfl) rfl ?_
              refine da_any hap htm (i := 4) (by rfl) (by kernel_rfl) (by rfl) (listed' := #[true, true, true, false, true, false, false, false, false, false]) (by rfl) (fun _ => (opv_move (by rfl))) (by rfl) rfl ?_
              refine da_any hap htm (i := 5) (by rfl) (by kernel_rfl) (by rfl) (listed' := #[true, true, true, false, true, true, false, false, false, false]) (by rfl) (fun _ => (opv_fieldAddr (by rfl) fld30_1)) (by rfl) rfl ?_
              refine da_free hap htm (i := 6) (by rfl) (by kernel_rfl) (by rfl) (listed' := #[true, true, true, false, true, true, true, false, false, false]) (by rfl) (fun w hw => Pks.cw (by repeat (first | exact Pks.nil _ | exact Pk.here _ | apply Pk.there | apply Pks.cons)) hw) (fun _ => (opv_load (by rfl) na3 (rd_pk (by repeat (first | exact Pk.here _ | apply Pk.there))) (by rfl))) (by rfl) rfl ?_
              refine da_eff (i := 3) (by rfl) (by kernel_rfl) (by rfl) (listed' := #[true, true, true, true, true, true, true, false, false, false]) (by rfl) (eff_callF [blk bb (.cells (ptrs ps).toArray 50 (0, 0)), grp (List.zipWith dkI ps ds)] (fl := []) (cl := []) (G := fun v Is' => ∃ ps', ps'.length = 12 ∧ v = .int .i64 (if inR o.d then 0 else 1) ∧ Is' = [blk bb (.cells (ptrs ps').toArray 50 (0, 0)), grp (List.zipWith dkI ps' (putD ds o.d none))]) (by rfl) (by rfl) tx24 (by repeat (first | exact Pks.nil _ | exact Pk.here _ | apply Pk.there | apply Pks.cons)) (by exact fun w1 hw1 => (lose_spec o.d hw1 hlp hld).mono (fun _ _ ⟨ps', hl, hv, hst⟩ => ⟨_, ⟨ps', hl, hv, rfl⟩, hst⟩))) (fun _ _ h w hw => by obtain ⟨_, ⟨_, _, _, rfl⟩, rfl⟩ := h; exact Pks.cw (by repeat (first | exact Pks.nil _ | exact Pk.here _ | apply Pk.there | apply Pks.cons)) hw) (by rfl) rfl ?_
              rintro _ _ ⟨_, ⟨ps, hlp, rfl, rfl⟩, rfl⟩
              refine da_eff (i := 7) (by rfl) (by kernel_rfl) (by rfl) (listed' := #[true, true, true, true, true, true, true, true, false, false]) (by rfl) (eff_callF [blk bk (.cells #[dv] 73 (0, 0)), own dv 74 1 12 (rps.flatMap pc), grp (List.zipWith rdI rps ds)] (fl := []) (cl := []) (G := fun v Is' => ∃ rps', rps'.length = 12 ∧ v = .int .i64 (if inR o.d then 0 else 1) ∧ Is' = [blk bk (.cells #[dv] 73 (0, 0)), own dv 74 1 12 (rps'.flatMap pc), grp (List.zipWith rdI rps' (putD ds o.d none))]) (by rfl) (by rfl) tx42 (by repeat (first | exact Pks.nil _ | exact Pk.here _ | apply Pk.there | apply Pks.cons)) (by exact fun w1 hw1 => (ragain_spec o.d true hw1 hlr hld).mono (fun _ _ ⟨rps', hl, hv, hst⟩ => ⟨_, ⟨rps', hl, hv, rfl⟩, hst⟩))) (fun _ _ h w hw => by obtain ⟨_, ⟨_, _, _, rfl⟩, rfl⟩ := h; exact Pks.cw (by repeat (first | exact Pks.nil _ | exact Pk.here _ | apply Pk.there | apply Pks.cons)) hw) (by rfl) rfl ?_
              rintro _ _ ⟨_, ⟨rps, hlr, rfl, rfl⟩, rfl⟩
              refine da_any hap htm (i := 8) (by rfl) (by kernel_rfl) (by rfl) (listed' := #[true, true, true, true, true, true, true, true, true, false]) (by rfl) (fun _ => (opv_cmp (b := true) (by rfl) (by rfl) (by exact congrArg some (decide_eq_true rfl)))) (by rfl) rfl ?_
              refine da_any hap htm (i := 9) (by rfl) (by kernel_rfl) (by rfl) (listed' := #[true, true, true, true, true, true, true, true, true, true]) (by rfl) (fun _ => (opv_assign (by rfl))) (by rfl) rfl ?_
              refine da_done (by kernel_rfl) ?_
              refine jk_then ?_
              refine jc_ret ?_
              refine jk_block_ret ?_
              refine jk_then_ret ?_
              refine jk_fn_ret rfl rfl (by rfl) (fun w hw => ?_)
              exact ⟨ps, rps, (putD ds o.d none), hlp, hlr, (putD_len _ _ _).trans hld, (hwb.put _ (.inl rfl)).up (by omega), hwn.put _ (.inl rfl), rfl, St.keep (Sb := [blk bb (.cells (ptrs ps).toArray 50 (0, 0)), grp (List.zipWith dkI ps (putD ds o.d none)), blk bk (.cells #[dv] 73 (0, 0)), own dv 74 1 12 (rps.flatMap pc), grp (List.zipWith rdI rps (putD ds o.d none))]) hw (by repeat (first | exact Pks.nil _ | exact Pk.here _ | apply Pk.there | apply Pks.cons)) (by repeat (first | exact Tl.here _ | apply Tl.there))⟩
            · first | have p74 := of_decide_eq_true h74 | have p74 := of_decide_eq_false h74 | have p74 := ndT h74 | have p74 := ndF h74 | have p74 := nbT h74 | have p74 := nbF h74 | have p74 := h74
              refine sc_false (by rfl) h74 ?_
              refine jc_seq ?_
              refine sc_region ?_
              refine so_pure (opv_cmp (by rfl) (by rfl) (by rfl)) (by rfl) rfl ?_
              refine so_pure (opv_assign (by rfl)) (by rfl) rfl ?_
              refine jo_nil ?_
              refine jk_then ?_
              refine sk_split (x := 117) (by rfl) (fun h82 => ?_) (fun h82 => ?_)
              · first | have p82 := of_decide_eq_true h82 | have p82 := of_decide_eq_false h82 | have p82 := ndT h82 | have p82 := ndF h82 | have p82 := nbT h82 | have p82 := nbF h82 | have p82 := h82
                refine sc_true (by rfl) h82 ?_
                refine jc_seq ?_
                refine so_draw [blk b5 (.cells #[.int .i64 o.op, .int .i64 o.d, .int .i64 o.n, .string o.s, .slice o.kA o.kn o.kc, .slice o.tA o.tn o.tc] 30 (0, 0))] (by kernel_rfl) (by kernel_rfl) (by kernel_rfl) rfl (by rfl) (fun hap htm => ?_)
                refine da_any hap htm (i := 0) (by rfl) (by kernel_rfl) (by rfl) (listed' := #[true, false, false, false, false, false, false, false, false, false]) (by rfl) (fun _ => (opv_move (by rfl))) (by rfl) rfl ?_
                refine da_any hap htm (i := 1) (by rfl) (by kernel_rfl) (by rfl) (listed' := #[true, true, false, false, false, false, false, false, false, false]) (by rfl) (fun _ => (opv_fieldAddr (by rfl) fld30_1)) (by rfl) rfl ?_
                refine da_now [3, 7, 8, 9] hap htm (i := 2) (by rfl) (by kernel_rfl) (by rfl) (listed' := #[true, true, true, false, false, false, false, false, false, false]) (by rfl) (by kernel_rfl) (by kernel_rfl) (opv_load (by rfl) na3 (rd_pk (by repeat (first | exact Pk.here _ | apply Pk.there))) (by rfl)) (by rfl) rfl ?_
                refine da_any hap htm (i := 4) (by rfl) (by kernel_rfl) (by rfl) (listed' := #[true, true, true, false, true, false, false, false, false, false]) (by rfl) (fun _ => (opv_move (by rfl))) (by rfl) rfl ?_
                refine da_any hap htm (i := 5) (by rfl) (by kernel_rfl) (by rfl) (listed' := #[true, true, true, false, true, true, false, false, false, false]) (by rfl) (fun _ => (opv_fieldAddr (by rfl) fld30_1)) (by rfl) rfl ?_
                refine da_free hap htm (i := 6) (by rfl) (by kernel_rfl) (by rfl) (listed' := #[true, true, true, false, true, true, true, false, false, false]) (by rfl) (fun w hw => Pks.cw (by repeat (first | exact Pks.nil _ | exact Pk.here _ | apply Pk.there | apply Pks.cons)) hw) (fun _ => (opv_load (by rfl) na3 (rd_pk (by repeat (first | exact Pk.here _ | apply Pk.there))) (by rfl))) (by rfl) rfl ?_
                refine da_eff (i := 3) (by rfl) (by kernel_rfl) (by rfl) (listed' := #[true, true, true, true, true, true, true, false, false, false]) (by rfl) (eff_callF [blk bb (.cells (ptrs ps).toArray 50 (0, 0)), grp (List.zipWith dkI ps ds)] (fl := []) (cl := []) (G := fun v Is' => ∃ ps', ps'.length = 12 ∧ v = .int .i64 (if inR o.d then 0 else 1) ∧ Is' = [blk bb (.cells (ptrs ps').toArray 50 (0, 0)), grp (List.zipWith dkI ps' (putD ds o.d (some ⟨[], []⟩)))]) (by rfl) (by rfl) tx25 (by repeat (first | exact Pks.nil _ | exact Pk.here _ | apply Pk.there | apply Pks.cons)) (by exact fun w1 hw1 => (replace_spec o.d hw1 hlp hld).mono (fun _ _ ⟨ps', hl, hv, hst⟩ => ⟨_, ⟨ps', hl, hv, rfl⟩, hst⟩))) (fun _ _ h w hw => by obtain ⟨_, ⟨_, _, _, rfl⟩, rfl⟩ := h; exact Pks.cw (by repeat (first | exact Pks.nil _ | exact Pk.here _ | apply Pk.there | apply Pks.cons)) hw) (by rfl) rfl ?_
                rintro _ _ ⟨_, ⟨ps, hlp, rfl, rfl⟩, rfl⟩
                refine da_eff (i := 7) (by rfl) (by kernel_rfl) (by rfl) (listed' := #[true, true, true, true, true, true, true, true, false, false]) (by rfl) (eff_callF [blk bk (.cells #[dv] 73 (0, 0)), own dv 74 1 12 (rps.flatMap pc), grp (List.zipWith rdI rps ds)] (fl := []) (cl := []) (G := fun v Is' => ∃ rps', rps'.length = 12 ∧ v = .int .i64 (if inR o.d then 0 else 1) ∧ Is' = [blk bk (.cells #[dv] 73 (0, 0)), own dv 74 1 12 (rps'.flatMap pc), grp (List.zipWith rdI rps' (putD ds o.d (some ⟨[], []⟩)))]) (by rfl) (by rfl) tx42 (by repeat (first | exact Pks.nil _ | exact Pk.here _ | apply Pk.there | apply Pks.cons)) (by exact fun w1 hw1 => (ragain_spec o.d false hw1 hlr hld).mono (fun _ _ ⟨rps', hl, hv, hst⟩ => ⟨_, ⟨rps', hl, hv, rfl⟩, hst⟩))) (fun _ _ h w hw => by obtain ⟨_, ⟨_, _, _, rfl⟩, rfl⟩ := h; exact Pks.cw (by repeat (first | exact Pks.nil _ | exact Pk.here _ | apply Pk.there | apply Pks.cons)) hw) (by rfl) rfl ?_
                rintro _ _ ⟨_, ⟨rps, hlr, rfl, rfl⟩, rfl⟩
                refine da_any hap htm (i := 8) (by rfl) (by kernel_rfl) (by rfl) (listed' := #[true, true, true, true, true, true, true, true, true, false]) (by rfl) (fun _ => (opv_cmp (b := true) (by rfl) (by rfl) (by exact congrArg some (decide_eq_true rfl)))) (by rfl) rfl ?_
                refine da_any hap htm (i := 9) (by rfl) (by kernel_rfl) (by rfl) (listed' := #[true, true, true, true, true, true, true, true, true, true]) (by rfl) (fun _ => (opv_assign (by rfl))) (by rfl) rfl ?_
                refine da_done (by kernel_rfl) ?_
                refine jk_then ?_
                refine jc_ret ?_
                refine jk_block_ret ?_
                refine jk_then_ret ?_
                refine jk_fn_ret rfl rfl (by rfl) (fun w hw => ?_)
                exact ⟨ps, rps, (putD ds o.d (some ⟨[], []⟩)), hlp, hlr, (putD_len _ _ _).trans hld, (hwb.put _ (.inr rfl)).up (by omega), hwn.put _ (.inr rfl), rfl, St.keep (Sb := [blk bb (.cells (ptrs ps).toArray 50 (0, 0)), grp (List.zipWith dkI ps (putD ds o.d (some ⟨[], []⟩))), blk bk (.cells #[dv] 73 (0, 0)), own dv 74 1 12 (rps.flatMap pc), grp (List.zipWith rdI rps (putD ds o.d (some ⟨[], []⟩)))]) hw (by repeat (first | exact Pks.nil _ | exact Pk.here _ | apply Pk.there | apply Pks.cons)) (by repeat (first | exact Tl.here _ | apply Tl.there))⟩
              · first | have p82 := of_decide_eq_true h82 | have p82 := of_decide_eq_false h82 | have p82 := ndT h82 | have p82 := ndF h82 | have p82 := nbT h82 | have p82 := nbF h82 | have p82 := h82
                refine sc_false (by rfl) h82 ?_
                refine jc_skip ?_
                refine jk_block ?_
                refine jk_then ?_
                refine jc_seq ?_
                refine sc_region ?_
                refine so_pure (opv_move (by rfl)) (by rfl) rfl ?_
                refine so_eff (eff_callF [blk bb (.cells (ptrs ps).toArray 50 (0, 0)), grp (List.zipWith dkI ps ds)] (fl := []) (cl := []) (G := fun v Is' => ∃ b9 qs, qs.length = 12 ∧ v = .pointer (some ⟨b9, 0, none⟩) ∧ Is' = [blk b9 (.cells (ptrs qs).toArray 50 (0, 0)), grp (List.zipWith dkI qs ds), blk bb (.cells (ptrs ps).toArray 50 (0, 0)), grp (List.zipWith dkI ps ds)]) (by rfl) (by rfl) tx12 (by repeat (first | exact Pks.nil _ | exact Pk.here _ | apply Pk.there | apply Pks.cons)) (by exact fun w1 hw1 => (copy_spec hw1 hlp hld hwb (by omega)).mono (fun _ _ ⟨b9, qs, hl, hv, hst⟩ => ⟨_, ⟨b9, qs, hl, hv, rfl⟩, hst⟩))) (by rfl) rfl ?_
                rintro _ _ ⟨_, ⟨b9, qs, hlq, rfl, rfl⟩, rfl⟩
                refine so_pure (opv_assign (by rfl)) (by rfl) rfl ?_
                refine jo_nil ?_
                refine jk_then ?_
                refine jc_seq ?_
                refine jc_seq ?_
                refine sc_region ?_
                refine so_pure (opv_move (by rfl)) (by rfl) rfl ?_
                refine so_pure (opv_ptr_nil (by rfl) (by rfl) Try.underlying25) (by rfl) rfl ?_
                refine jo_nil ?_
                refine jk_then ?_
                refine sc_false (by rfl) rfl ?_
                refine jc_skip ?_
                refine jk_then ?_
                refine jc_seq ?_
                refine sc_region ?_
                refine so_pure (opv_move (by rfl)) (by rfl) rfl ?_
                refine so_pure (opv_fieldAddr (by rfl) fld30_1) (by rfl) rfl ?_
                refine so_pure (opv_load (by rfl) na3 (rd_pk (by repeat (first | exact Pk.here _ | apply Pk.there))) (by rfl)) (by rfl) rfl ?_
                refine so_pure (opv_fieldAddr (by rfl) fld30_2) (by rfl) rfl ?_
                refine so_pure (opv_load (by rfl) na3 (rd_pk (by repeat (first | exact Pk.here _ | apply Pk.there))) (by rfl)) (by rfl) rfl ?_
                refine so_pure (opv_fieldAddr (by rfl) fld30_3) (by rfl) rfl ?_
                refine so_pure (opv_load (by rfl) na9 (rd_pk (by repeat (first | exact Pk.here _ | apply Pk.there))) (by rfl)) (by rfl) rfl ?_
                refine so_eff (eff_callF [blk b9 (.cells (ptrs qs).toArray 50 (0, 0)), grp (List.zipWith dkI qs ds)] (fl := []) (cl := []) (G := fun v Is' => v = .int .i64 (chk ds o.d o.n o.s.size) ∧ Is' = [blk b9 (.cells (ptrs qs).toArray 50 (0, 0)), grp (List.zipWith dkI qs (onD ds o.d o.n o.s.size (fun D => { D with ws := D.ws ++ [⟨o.n, o.s⟩] })))]) (by rfl) (by rfl) tx10 (by repeat (first | exact Pks.nil _ | exact Pk.here _ | apply Pk.there | apply Pks.cons)) (by exact fun w1 hw1 => (write_spec o.d o.n o.s hw1 hlq hld hwb (by omega)).mono (fun _ _ ⟨hv, hst⟩ => ⟨_, ⟨hv, rfl⟩, hst⟩))) (by rfl) rfl ?_
                rintro _ _ ⟨_, ⟨rfl, rfl⟩, rfl⟩
                refine jo_nil ?_
                refine jk_then ?_
                refine jc_seq ?_
                refine sc_region ?_
                refine so_pure (opv_move (by rfl)) (by rfl) rfl ?_
                refine so_pure (opv_fieldAddr (by rfl) fld30_1) (by rfl) rfl ?_
                refine so_pure (opv_load (by rfl) na3 (rd_pk (by repeat (first | exact Pk.here _ | apply Pk.there))) (by rfl)) (by rfl) rfl ?_
                refine so_eff (eff_callF [blk b9 (.cells (ptrs qs).toArray 50 (0, 0)), grp (List.zipWith dkI qs (onD ds o.d o.n o.s.size (fun D => { D with ws := D.ws ++ [⟨o.n, o.s⟩] })))] (fl := []) (cl := []) (G := fun v Is' => v = .int .i64 (chk (onD ds o.d o.n o.s.size (fun D => { D with ws := D.ws ++ [⟨o.n, o.s⟩] })) o.d 0 0) ∧ Is' = [blk b9 (.cells (ptrs qs).toArray 50 (0, 0)), grp (List.zipWith dkI qs (onD (onD ds o.d o.n o.s.size (fun D => { D with ws := D.ws ++ [⟨o.n, o.s⟩] })) o.d 0 0 (settleD (fun _ => some false))))]) (by rfl) (by rfl) tx11 (by repeat (first | exact Pks.nil _ | exact Pk.here _ | apply Pk.there | apply Pks.cons)) (by exact fun w1 hw1 => (flush_spec o.d hw1 hlq ((onD_len _ _ _ _ _).trans hld) (hwb.write hld _ _ _) (by omega)).mono (fun _ _ ⟨hv, hst⟩ => ⟨_, ⟨hv, rfl⟩, hst⟩))) (by rfl) rfl ?_
                rintro _ _ ⟨_, ⟨rfl, rfl⟩, rfl⟩
                refine jo_nil ?_
                refine jk_then ?_
                refine jc_seq ?_
                refine sc_region ?_
                refine so_pure (opv_assign (by rfl)) (by rfl) rfl ?_
                refine jo_nil ?_
                refine jk_then ?_
                refine jc_ret ?_
                refine jk_fn_ret rfl rfl (by rfl) (fun w hw => ?_)
                exact ⟨ps, rps, ds, hlp, hlr, hld, hwb.up (by omega), hwn, rfl, St.keep (Sb := [blk bb (.cells (ptrs ps).toArray 50 (0, 0)), grp (List.zipWith dkI ps ds), blk bk (.cells #[dv] 73 (0, 0)), own dv 74 1 12 (rps.flatMap pc), grp (List.zipWith rdI rps ds)]) hw (by repeat (first | exact Pks.nil _ | exact Pk.here _ | apply Pk.there | apply Pks.cons)) (by repeat (first | exact Tl.here _ | apply Tl.there))⟩
end Go.Disks
