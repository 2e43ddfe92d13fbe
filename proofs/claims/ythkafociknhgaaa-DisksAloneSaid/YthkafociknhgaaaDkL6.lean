/- A part of a proof for the laws of the seat Ythkafociknhgaaa; it has no conditions of its own. -/
import Derived.Test.YthkafociknhgaaaDkW17
import Derived.Test.YthkafociknhgaaaDkPlain3
import Derived.Test.YthkafociknhgaaaDkL3
namespace Go.Disks
open Go Go.SL Go.Proofs
set_option maxHeartbeats 4000000 in
theorem law_alone (w : World) (A0 : Option Addr) (n0 c0 : Nat) (xs0 : List OpD) (hs0 : SlR w 30 6 OpD.cells A0 n0 xs0) (hok0 : ∀ o ∈ xs0, OpOk w o) (hm0 : n0 ≤ 9223372036854775807) (d : Int) : Does Try.prog 6 #[.slice A0 n0 c0, .int .i64 d] w (fun v w' => v = .bool true ∧ St w Emp [] w') := by
  refine fn_body (fn := Try.f6) Try.func6 rfl [(0, .slice A0 n0 c0), (1, .int .i64 d)] (by exact ⟨rfl, rfl, trivial⟩) rfl (St.start w) ?_
  refine jc_seq ?_
  refine sc_region ?_
  refine so_pure (opv_assign (by rfl)) (by rfl) rfl ?_
  refine jo_nil ?_
  refine jk_then ?_
  refine jc_seq ?_
  refine jc_seq ?_
  refine sc_region ?_
  refine so_pure (opv_move (by rfl)) (by rfl) rfl ?_
  refine so_pure (opv_len_slice (by rfl) Try.underlying22) (by rfl) rfl ?_
  refine so_pure (opv_cmp (by rfl) (by rfl) (by rfl)) (by rfl) rfl ?_
  refine so_pure (opv_move (by rfl)) (by rfl) rfl ?_
  refine sk_split (x := 13) (by rfl) (fun h4 => ?_) (fun h4 => ?_)
  · first | have p4 := of_decide_eq_true h4 | have p4 := of_decide_eq_false h4 | have p4 := ndT h4 | have p4 := ndF h4 | have p4 := nbT h4 | have p4 := nbF h4 | have p4 := h4
    refine so_skip (wtd_not rfl rfl (by rfl) h4) rfl ?_
    refine so_skip (wtd_not rfl rfl (by rfl) h4) rfl ?_
    refine so_pure (sv_pick_t (by rfl) h4 (by rfl)) (by rfl) rfl ?_
    refine so_pure (opv_move (by rfl)) (by rfl) rfl ?_
    refine so_skip (wtd_not rfl rfl (by rfl) rfl) rfl ?_
    refine so_skip (wtd_not rfl rfl (by rfl) rfl) rfl ?_
    refine so_pure (sv_pick_t (by rfl) rfl (by rfl)) (by rfl) rfl ?_
    refine jo_nil ?_
    refine jk_then ?_
    refine sc_true (by rfl) rfl ?_
    refine jc_seq ?_
    refine sc_region ?_
    refine so_eff (eff_call0 (G := fun u New => u = .bool true ∧ New = []) (by rfl) (by rfl) tx8 (by exact fun w1 hw1 => (live_spec w1).mono (fun _ _ ⟨hv, hst⟩ => ⟨[], ⟨hv, rfl⟩, hst⟩))) (by rfl) rfl ?_
    rintro _ _ ⟨_, ⟨rfl, rfl⟩, rfl⟩
    refine so_pure (opv_assign (by rfl)) (by rfl) rfl ?_
    refine jo_nil ?_
    refine jk_then ?_
    refine jc_ret ?_
    refine jk_then_ret ?_
    refine jk_fn_ret rfl rfl (by rfl) (fun w hw => ?_)
    exact ⟨rfl, hw.forget⟩
  · first | have p4 := of_decide_eq_true h4 | have p4 := of_decide_eq_false h4 | have p4 := ndT h4 | have p4 := ndF h4 | have p4 := nbT h4 | have p4 := nbF h4 | have p4 := h4
    refine so_pure (opv_move (by rfl)) (wtd_run rfl rfl (by rfl) h4) rfl ?_
    refine so_pure (opv_cmp (by rfl) (by rfl) (by rfl)) (wtd_run rfl rfl (by rfl) h4) rfl ?_
    refine so_pure (sv_pick_f (by rfl) h4 (by rfl)) (by rfl) rfl ?_
    refine so_pure (opv_move (by rfl)) (by rfl) rfl ?_
    refine sk_split (x := 17) (by rfl) (fun h6 => ?_) (fun h6 => ?_)
    · first | have p6 := of_decide_eq_true h6 | have p6 := of_decide_eq_false h6 | have p6 := ndT h6 | have p6 := ndF h6 | have p6 := nbT h6 | have p6 := nbF h6 | have p6 := h6
      refine so_skip (wtd_not rfl rfl (by rfl) h6) rfl ?_
      refine so_skip (wtd_not rfl rfl (by rfl) h6) rfl ?_
      refine so_pure (sv_pick_t (by rfl) h6 (by rfl)) (by rfl) rfl ?_
      refine jo_nil ?_
      refine jk_then ?_
      refine sc_true (by rfl) rfl ?_
      refine jc_seq ?_
      refine sc_region ?_
      refine so_eff (eff_call0 (G := fun u New => u = .bool true ∧ New = []) (by rfl) (by rfl) tx8 (by exact fun w1 hw1 => (live_spec w1).mono (fun _ _ ⟨hv, hst⟩ => ⟨[], ⟨hv, rfl⟩, hst⟩))) (by rfl) rfl ?_
      rintro _ _ ⟨_, ⟨rfl, rfl⟩, rfl⟩
      refine so_pure (opv_assign (by rfl)) (by rfl) rfl ?_
      refine jo_nil ?_
      refine jk_then ?_
      refine jc_ret ?_
      refine jk_then_ret ?_
      refine jk_fn_ret rfl rfl (by rfl) (fun w hw => ?_)
      exact ⟨rfl, hw.forget⟩
    · first | have p6 := of_decide_eq_true h6 | have p6 := of_decide_eq_false h6 | have p6 := ndT h6 | have p6 := ndF h6 | have p6 := nbT h6 | have p6 := nbF h6 | have p6 := h6
      refine so_pure (opv_move (by rfl)) (wtd_run rfl rfl (by rfl) h6) rfl ?_
      refine so_pure (opv_cmp (by rfl) (by rfl) (by rfl)) (wtd_run rfl rfl (by rfl) h6) rfl ?_
      refine so_pure (sv_pick_f (by rfl) h6 (by rfl)) (by rfl) rfl ?_
      refine jo_nil ?_
      refine jk_then ?_
      refine sk_split (x := 20) (by rfl) (fun h8 => ?_) (fun h8 => ?_)
      · first | have p8 := of_decide_eq_true h8 | have p8 := of_decide_eq_false h8 | have p8 := ndT h8 | have p8 := ndF h8 | have p8 := nbT h8 | have p8 := nbF h8 | have p8 := h8
        refine sc_true (by rfl) h8 ?_
        refine jc_seq ?_
        refine sc_region ?_
        refine so_eff (eff_call0 (G := fun u New => u = .bool true ∧ New = []) (by rfl) (by rfl) tx8 (by exact fun w1 hw1 => (live_spec w1).mono (fun _ _ ⟨hv, hst⟩ => ⟨[], ⟨hv, rfl⟩, hst⟩))) (by rfl) rfl ?_
        rintro _ _ ⟨_, ⟨rfl, rfl⟩, rfl⟩
        refine so_pure (opv_assign (by rfl)) (by rfl) rfl ?_
        refine jo_nil ?_
        refine jk_then ?_
        refine jc_ret ?_
        refine jk_then_ret ?_
        refine jk_fn_ret rfl rfl (by rfl) (fun w hw => ?_)
        exact ⟨rfl, hw.forget⟩
      · first | have p8 := of_decide_eq_true h8 | have p8 := of_decide_eq_false h8 | have p8 := ndT h8 | have p8 := ndF h8 | have p8 := nbT h8 | have p8 := nbF h8 | have p8 := h8
        refine sc_false (by rfl) h8 ?_
        refine jc_skip ?_
        refine jk_then ?_
        refine jc_seq ?_
        refine sc_region ?_
        refine so_eff (eff_call0 (fl := []) (cl := []) (G := fun v New => ∃ bb ps, ps.length = 12 ∧ v = .pointer (some ⟨bb, 0, none⟩) ∧ New = [blk bb (.cells (ptrs ps).toArray 50 (0, 0)), grp (List.zipWith dkI ps (new12 12))]) (by rfl) (by rfl) tx9 (by exact fun w1 hw1 => (new_spec w1).mono (fun _ _ ⟨bb, ps, hl, hv, hst⟩ => ⟨_, ⟨bb, ps, hl, hv, rfl⟩, hst⟩))) (by rfl) rfl ?_
        rintro _ _ ⟨_, ⟨bb, ps, hlp, rfl, rfl⟩, rfl⟩
        refine so_pure (opv_assign (by rfl)) (by rfl) rfl ?_
        refine jo_nil ?_
        refine jk_then ?_
        refine jc_seq ?_
        refine jc_seq ?_
        refine sc_region ?_
        refine so_pure (opv_move (by rfl)) (by rfl) rfl ?_
        refine so_pure (opv_ptr_nil (by rfl) (by rfl) Try.underlying25) (by rfl) rfl ?_
        refine jo_nil ?_
        refine jk_then ?_
        refine sc_false (by rfl) rfl ?_
        refine jc_skip ?_
        refine jk_then ?_
        refine jc_seq ?_
        obtain ⟨k, rfl⟩ : ∃ k : Nat, d = k := ⟨d.toNat, by omega⟩
        have hk12 : k < 12 := by omega
        refine sc_region ?_
        refine so_pure (opv_move (by rfl)) (by rfl) rfl ?_
        refine so_pure (opv_move (by rfl)) (by rfl) rfl ?_
        refine so_eff (eff_callF [blk bb (.cells (ptrs ps).toArray 50 (0, 0)), grp (List.zipWith dkI ps (new12 12))] (fl := []) (cl := []) (G := fun v Is' => v = .int .i64 (chk (new12 12) (k : Int) 7 kept.size) ∧ Is' = [blk bb (.cells (ptrs ps).toArray 50 (0, 0)), grp (List.zipWith dkI ps (onD (new12 12) (k : Int) 7 kept.size (fun D => { D with ws := D.ws ++ [⟨7, kept⟩] })))]) (by rfl) (by rfl) tx10 (by repeat (first | exact Pks.nil _ | exact Pk.here _ | apply Pk.there | apply Pks.cons)) (by exact fun w1 hw1 => (write_spec (k : Int) 7 kept hw1 hlp (new12_len 12) wb_new (by omega)).mono (fun _ _ ⟨hv, hst⟩ => ⟨_, ⟨hv, rfl⟩, hst⟩))) (by rfl) rfl ?_
        rintro _ _ ⟨_, ⟨rfl, rfl⟩, rfl⟩
        refine jo_nil ?_
        refine jk_then ?_
        refine jc_seq ?_
        refine sc_region ?_
        refine so_pure (opv_move (by rfl)) (by rfl) rfl ?_
        refine so_pure (opv_move (by rfl)) (by rfl) rfl ?_
        refine so_eff (eff_callF [blk bb (.cells (ptrs ps).toArray 50 (0, 0)), grp (List.zipWith dkI ps (onD (new12 12) (k : Int) 7 kept.size (fun D => { D with ws := D.ws ++ [⟨7, kept⟩] })))] (fl := []) (cl := []) (G := fun v Is' => v = .int .i64 (chk (onD (new12 12) (k : Int) 7 kept.size (fun D => { D with ws := D.ws ++ [⟨7, kept⟩] })) (k : Int) 0 0) ∧ Is' = [blk bb (.cells (ptrs ps).toArray 50 (0, 0)), grp (List.zipWith dkI ps (onD (onD (new12 12) (k : Int) 7 kept.size (fun D => { D with ws := D.ws ++ [⟨7, kept⟩] })) (k : Int) 0 0 (settleD (fun _ => some false))))]) (by rfl) (by rfl) tx11 (by repeat (first | exact Pks.nil _ | exact Pk.here _ | apply Pk.there | apply Pks.cons)) (by exact fun w1 hw1 => (flush_spec (k : Int) hw1 hlp ((onD_len _ _ _ _ _).trans (new12_len 12)) (wb_new.write (new12_len 12) _ _ _) (by omega)).mono (fun _ _ ⟨hv, hst⟩ => ⟨_, ⟨hv, rfl⟩, hst⟩))) (by rfl) rfl ?_
        rintro _ _ ⟨_, ⟨rfl, rfl⟩, rfl⟩
        refine jo_nil ?_
        have hkd := kept_get hk12
        have hW := (wb_new.write (new12_len 12) (k : Int) 7 kept).settle ((onD_len _ _ _ _ _).trans (new12_len 12)) (k : Int)
        have hl := (onD_len (onD (new12 12) (k : Int) 7 kept.size (fun D => { D with ws := D.ws ++ [⟨7, kept⟩] })) (k : Int) 0 0 (settleD whole)).trans ((onD_len _ _ _ _ _).trans (new12_len 12))
        generalize onD (onD (new12 12) (k : Int) 7 kept.size (fun D => { D with ws := D.ws ++ [⟨7, kept⟩] })) (k : Int) 0 0 (settleD whole) = ds at hkd hW hl ⊢
        refine jk_then ?_
        refine jc_seq ?_
        refine jc_seq ?_
        refine sc_region ?_
        refine so_pure (opv_assign (by rfl)) (by rfl) rfl ?_
        refine jo_nil ?_
        refine jk_then ?_
        refine jc_block ?_
        refine jc_loop (σ := Nat × List Nat × List DD) (fun (i, ps, ds) => [(0, .slice A0 n0 c0), (1, .int .i64 (k : Int)), (5, .pointer (some ⟨bb, 0, none⟩)), (6, .int .i64 i)]) (fun (i, ps, ds) => [blk bb (.cells (ptrs ps).toArray 50 (0, 0)), grp (List.zipWith dkI ps ds)]) (fun (i, ps, ds) => (i ≤ n0) ∧ (ps.length = 12) ∧ (ds.length = 12) ∧ (ds[k]? = some (some KD)) ∧ (WB ds (i + 1))) (fun (i, ps, ds) => n0 - i) (0, ps, ds) ⟨Nat.zero_le _, hlp, hl, hkd, hW⟩ ⟨rfl, rfl, rfl, rfl, trivial⟩ (fun w hw => St.sel hw (by repeat (first | exact Pks.nil _ | exact Pk.here _ | apply Pk.there | apply Pks.cons))) ?_
        rintro ⟨i, ps, ds⟩ ⟨hi, hlp, hl, hkd, hW⟩
        show Jc _ _ [(0, .slice A0 n0 c0), (1, .int .i64 (k : Int)), (5, .pointer (some ⟨bb, 0, none⟩)), (6, .int .i64 i)] [blk bb (.cells (ptrs ps).toArray 50 (0, 0)), grp (List.zipWith dkI ps ds)] _
        refine jc_seq ?_
        refine jc_seq ?_
        refine sc_region ?_
        refine so_pure (opv_move (by rfl)) (by rfl) rfl ?_
        refine so_pure (opv_move (by rfl)) (by rfl) rfl ?_
        refine so_pure (opv_len_slice (by rfl) Try.underlying22) (by rfl) rfl ?_
        refine so_pure (opv_cmp (by rfl) (by rfl) (by rfl)) (by rfl) rfl ?_
        refine jo_nil ?_
        refine jk_then ?_
        refine sk_split (x := 34) (by rfl) (fun h16 => ?_) (fun h16 => ?_)
        · first | have p16 := of_decide_eq_true h16 | have p16 := of_decide_eq_false h16 | have p16 := ndT h16 | have p16 := ndF h16 | have p16 := nbT h16 | have p16 := nbF h16 | have p16 := h16
          refine sc_true (by rfl) h16 ?_
          refine jc_skip ?_
          refine jk_then ?_
          refine jc_seq ?_
          refine jc_block ?_
          refine jc_seq ?_
          have hlt : i < n0 := by omega
          obtain ⟨_, _, _, _, x, _, _, hx, _⟩ := hs0.get hlt
          refine sc_region ?_
          refine so_pure (opv_move (by rfl)) (by rfl) rfl ?_
          refine so_pure (opv_move (by rfl)) (by rfl) rfl ?_
          refine so_pure (opv_indexAddr_slr (i := i) (by rfl) hs0 (by rfl) Try.underlying22 ti30 rfl hlt) (by rfl) rfl ?_
          refine so_pure (opv_load_agg_slr (u := x) OpD.cells_len (by rfl) ag30 ti30 rfl hs0 hx) (by rfl) rfl ?_
          refine so_eff (eff_alloc ti30 rfl) (by rfl) rfl ?_
          rintro _ _ ⟨b7, rfl, rfl⟩
          refine so_eff0 (eff_store_all (vs := x.cells) (by rfl) (by rfl) (by rfl) ti30 (by rfl) (by repeat (first | exact Pk.here _ | apply Pk.there)) (by rfl) (by rfl)) (by rfl) ?_
          rintro _ _ ⟨rfl, rfl⟩
          refine jo_nil ?_
          refine jk_then ?_
          refine jc_seq ?_
          refine jc_seq ?_
          refine sc_region ?_
          refine so_pure (opv_fieldAddr (by rfl) fld30_1) (by rfl) rfl ?_
          refine so_pure (opv_load (by rfl) na3 (rd_pk (by repeat (first | exact Pk.here _ | apply Pk.there))) (by rfl)) (by rfl) rfl ?_
          refine so_pure (opv_move (by rfl)) (by rfl) rfl ?_
          refine so_pure (opv_cmp (by rfl) (by rfl) (by rfl)) (by rfl) rfl ?_
          refine jo_nil ?_
          refine jk_then ?_
          refine sk_split (x := 44) (by rfl) (fun h23 => ?_) (fun h23 => ?_)
          · first | have p23 := of_decide_eq_true h23 | have p23 := of_decide_eq_false h23 | have p23 := ndT h23 | have p23 := ndF h23 | have p23 := nbT h23 | have p23 := nbF h23 | have p23 := h23
            refine sc_true (by rfl) h23 ?_
            refine jc_exit ?_
            refine jk_then_exit ?_
            refine jk_block_exit ?_
            refine jk_then ?_
            refine sc_region ?_
            refine so_pure (opv_move (by rfl)) (by rfl) rfl ?_
            refine so_pure (opv_add (by rfl) (by rfl) (wrap64_ok (by omega))) (by rfl) rfl ?_
            refine so_pure (opv_assign (by rfl)) (by rfl) rfl ?_
            refine jo_nil ?_
            refine jk_round (i + 1, ps, ds) ⟨by omega, hlp, hl, hkd, hW.up (by omega)⟩ (by show n0 - (i + 1) < n0 - i; omega) ⟨rfl, rfl, rfl, rfl, trivial⟩ (fun w hw => ?_)
            show St _ _ [blk bb (.cells (ptrs (ps)).toArray 50 (0, 0)), grp (List.zipWith dkI (ps) (ds))] _
            exact St.sel hw (by repeat (first | exact Pks.nil _ | exact Pk.here _ | apply Pk.there | apply Pks.cons))
          · first | have p23 := of_decide_eq_true h23 | have p23 := of_decide_eq_false h23 | have p23 := ndT h23 | have p23 := ndF h23 | have p23 := nbT h23 | have p23 := nbF h23 | have p23 := h23
            refine sc_false (by rfl) h23 ?_
            refine jc_skip ?_
            refine jk_then ?_
            refine jc_seq ?_
            have hne : ¬ x.d = (k : Int) := p23
            refine sc_region ?_
            refine so_pure (opv_fieldAddr (by rfl) fld30_0) (by rfl) rfl ?_
            refine so_pure (opv_load (by rfl) na3 (rd_pk (by repeat (first | exact Pk.here _ | apply Pk.there))) (by rfl)) (by rfl) rfl ?_
            refine jo_nil ?_
            refine jk_then ?_
            refine jc_block ?_
            refine jc_seq ?_
            refine sc_region ?_
            refine so_pure (opv_cmp (by rfl) (by rfl) (by rfl)) (by rfl) rfl ?_
            refine so_pure (opv_assign (by rfl)) (by rfl) rfl ?_
            refine jo_nil ?_
            refine jk_then ?_
            refine sk_split (x := 47) (by rfl) (fun h28 => ?_) (fun h28 => ?_)
            · first | have p28 := of_decide_eq_true h28 | have p28 := of_decide_eq_false h28 | have p28 := ndT h28 | have p28 := ndF h28 | have p28 := nbT h28 | have p28 := nbF h28 | have p28 := h28
              refine sc_true (by rfl) h28 ?_
              refine sc_region ?_
              refine so_pure (opv_move (by rfl)) (by rfl) rfl ?_
              refine so_pure (opv_fieldAddr (by rfl) fld30_1) (by rfl) rfl ?_
              refine so_pure (opv_load (by rfl) na3 (rd_pk (by repeat (first | exact Pk.here _ | apply Pk.there))) (by rfl)) (by rfl) rfl ?_
              refine so_pure (opv_fieldAddr (by rfl) fld30_2) (by rfl) rfl ?_
              refine so_pure (opv_load (by rfl) na3 (rd_pk (by repeat (first | exact Pk.here _ | apply Pk.there))) (by rfl)) (by rfl) rfl ?_
              refine so_pure (opv_fieldAddr (by rfl) fld30_3) (by rfl) rfl ?_
              refine so_pure (opv_load (by rfl) na9 (rd_pk (by repeat (first | exact Pk.here _ | apply Pk.there))) (by rfl)) (by rfl) rfl ?_
              refine so_eff (eff_callF [blk bb (.cells (ptrs ps).toArray 50 (0, 0)), grp (List.zipWith dkI ps ds)] (fl := []) (cl := []) (G := fun v Is' => v = .int .i64 (chk ds x.d x.n x.s.size) ∧ Is' = [blk bb (.cells (ptrs ps).toArray 50 (0, 0)), grp (List.zipWith dkI ps (onD ds x.d x.n x.s.size (fun D => { D with ws := D.ws ++ [⟨x.n, x.s⟩] })))]) (by rfl) (by rfl) tx10 (by repeat (first | exact Pks.nil _ | exact Pk.here _ | apply Pk.there | apply Pks.cons)) (by exact fun w1 hw1 => (write_spec x.d x.n x.s hw1 hlp hl hW (by omega)).mono (fun _ _ ⟨hv, hst⟩ => ⟨_, ⟨hv, rfl⟩, hst⟩))) (by rfl) rfl ?_
              rintro _ _ ⟨_, ⟨rfl, rfl⟩, rfl⟩
              refine jo_nil ?_
              replace hkd : (onD ds x.d x.n x.s.size (fun D => { D with ws := D.ws ++ [⟨x.n, x.s⟩] }))[k]? = some (some KD) := onD_other hl hkd hne
              replace hW := hW.write hl x.d x.n x.s
              replace hl : (onD ds x.d x.n x.s.size (fun D => { D with ws := D.ws ++ [⟨x.n, x.s⟩] })).length = 12 := (onD_len _ _ _ _ _).trans hl
              generalize onD ds x.d x.n x.s.size (fun D => { D with ws := D.ws ++ [⟨x.n, x.s⟩] }) = ds at hkd hW hl ⊢
              refine jk_block ?_
              refine jk_block ?_
              refine jk_then ?_
              refine sc_region ?_
              refine so_pure (opv_move (by rfl)) (by rfl) rfl ?_
              refine so_pure (opv_add (by rfl) (by rfl) (wrap64_ok (by omega))) (by rfl) rfl ?_
              refine so_pure (opv_assign (by rfl)) (by rfl) rfl ?_
              refine jo_nil ?_
              refine jk_round (i + 1, ps, ds) ⟨by omega, hlp, hl, hkd, hW.up (by omega)⟩ (by show n0 - (i + 1) < n0 - i; omega) ⟨rfl, rfl, rfl, rfl, trivial⟩ (fun w hw => ?_)
              show St _ _ [blk bb (.cells (ptrs (ps)).toArray 50 (0, 0)), grp (List.zipWith dkI (ps) (ds))] _
              exact St.sel hw (by repeat (first | exact Pks.nil _ | exact Pk.here _ | apply Pk.there | apply Pks.cons))
            · first | have p28 := of_decide_eq_true h28 | have p28 := of_decide_eq_false h28 | have p28 := ndT h28 | have p28 := ndF h28 | have p28 := nbT h28 | have p28 := nbF h28 | have p28 := h28
              refine sc_false (by rfl) h28 ?_
              refine jc_seq ?_
              refine sc_region ?_
              refine so_pure (opv_cmp (by rfl) (by rfl) (by rfl)) (by rfl) rfl ?_
              refine so_pure (opv_assign (by rfl)) (by rfl) rfl ?_
              refine jo_nil ?_
              refine jk_then ?_
              refine sk_split (x := 57) (by rfl) (fun h38 => ?_) (fun h38 => ?_)
              · first | have p38 := of_decide_eq_true h38 | have p38 := of_decide_eq_false h38 | have p38 := ndT h38 | have p38 := ndF h38 | have p38 := nbT h38 | have p38 := nbF h38 | have p38 := h38
                refine sc_true (by rfl) h38 ?_
                refine sc_region ?_
                refine so_pure (opv_move (by rfl)) (by rfl) rfl ?_
                refine so_pure (opv_fieldAddr (by rfl) fld30_1) (by rfl) rfl ?_
                refine so_pure (opv_load (by rfl) na3 (rd_pk (by repeat (first | exact Pk.here _ | apply Pk.there))) (by rfl)) (by rfl) rfl ?_
                refine so_eff (eff_callF [blk bb (.cells (ptrs ps).toArray 50 (0, 0)), grp (List.zipWith dkI ps ds)] (fl := []) (cl := []) (G := fun v Is' => v = .int .i64 (chk ds x.d 0 0) ∧ Is' = [blk bb (.cells (ptrs ps).toArray 50 (0, 0)), grp (List.zipWith dkI ps (onD ds x.d 0 0 (settleD (fun _ => some false))))]) (by rfl) (by rfl) tx11 (by repeat (first | exact Pks.nil _ | exact Pk.here _ | apply Pk.there | apply Pks.cons)) (by exact fun w1 hw1 => (flush_spec x.d hw1 hlp hl hW (by omega)).mono (fun _ _ ⟨hv, hst⟩ => ⟨_, ⟨hv, rfl⟩, hst⟩))) (by rfl) rfl ?_
                rintro _ _ ⟨_, ⟨rfl, rfl⟩, rfl⟩
                refine jo_nil ?_
                replace hkd : (onD ds x.d 0 0 (settleD whole))[k]? = some (some KD) := onD_other hl hkd hne
                replace hW := (hW.settle hl x.d).up (Nat.le_succ _)
                replace hl : (onD ds x.d 0 0 (settleD whole)).length = 12 := (onD_len _ _ _ _ _).trans hl
                generalize onD ds x.d 0 0 (settleD whole) = ds at hkd hW hl ⊢
                refine jk_block ?_
                refine jk_block ?_
                refine jk_then ?_
                refine sc_region ?_
                refine so_pure (opv_move (by rfl)) (by rfl) rfl ?_
                refine so_pure (opv_add (by rfl) (by rfl) (wrap64_ok (by omega))) (by rfl) rfl ?_
                refine so_pure (opv_assign (by rfl)) (by rfl) rfl ?_
                refine jo_nil ?_
                refine jk_round (i + 1, ps, ds) ⟨by omega, hlp, hl, hkd, hW.up (by omega)⟩ (by show n0 - (i + 1) < n0 - i; omega) ⟨rfl, rfl, rfl, rfl, trivial⟩ (fun w hw => ?_)
                show St _ _ [blk bb (.cells (ptrs (ps)).toArray 50 (0, 0)), grp (List.zipWith dkI (ps) (ds))] _
                exact St.sel hw (by repeat (first | exact Pks.nil _ | exact Pk.here _ | apply Pk.there | apply Pks.cons))
              · first | have p38 := of_decide_eq_true h38 | have p38 := of_decide_eq_false h38 | have p38 := ndT h38 | have p38 := ndF h38 | have p38 := nbT h38 | have p38 := nbF h38 | have p38 := h38
                refine sc_false (by rfl) h38 ?_
                refine jc_seq ?_
                refine sc_region ?_
                refine so_pure (opv_cmp (by rfl) (by rfl) (by rfl)) (by rfl) rfl ?_
                refine so_pure (opv_assign (by rfl)) (by rfl) rfl ?_
                refine jo_nil ?_
                refine jk_then ?_
                refine sk_split (x := 63) (by rfl) (fun h44 => ?_) (fun h44 => ?_)
                · first | have p44 := of_decide_eq_true h44 | have p44 := of_decide_eq_false h44 | have p44 := ndT h44 | have p44 := ndF h44 | have p44 := nbT h44 | have p44 := nbF h44 | have p44 := h44
                  refine sc_true (by rfl) h44 ?_
                  refine sc_region ?_
                  refine so_pure (opv_move (by rfl)) (by rfl) rfl ?_
                  refine so_pure (opv_fieldAddr (by rfl) fld30_1) (by rfl) rfl ?_
                  refine so_pure (opv_load (by rfl) na3 (rd_pk (by repeat (first | exact Pk.here _ | apply Pk.there))) (by rfl)) (by rfl) rfl ?_
                  refine so_pure (opv_fieldAddr (by rfl) fld30_2) (by rfl) rfl ?_
                  refine so_pure (opv_load (by rfl) na3 (rd_pk (by repeat (first | exact Pk.here _ | apply Pk.there))) (by rfl)) (by rfl) rfl ?_
                  refine so_pure (opv_fieldAddr (by rfl) fld30_3) (by rfl) rfl ?_
                  refine so_pure (opv_load (by rfl) na9 (rd_pk (by repeat (first | exact Pk.here _ | apply Pk.there))) (by rfl)) (by rfl) rfl ?_
                  refine so_eff (eff_callF [blk bb (.cells (ptrs ps).toArray 50 (0, 0)), grp (List.zipWith dkI ps ds)] (fl := []) (cl := []) (G := fun v Is' => v = .int .i64 (chk ds x.d x.n x.s.size) ∧ Is' = [blk bb (.cells (ptrs ps).toArray 50 (0, 0)), grp (List.zipWith dkI ps (onD ds x.d x.n x.s.size (spD x.n x.s)))]) (by rfl) (by rfl) tx23 (by repeat (first | exact Pks.nil _ | exact Pk.here _ | apply Pk.there | apply Pks.cons)) (by exact fun w1 hw1 => (spoil_spec x.d x.n x.s hw1 hlp hl hW (by omega)).mono (fun _ _ ⟨hv, hst⟩ => ⟨_, ⟨hv, rfl⟩, hst⟩))) (by rfl) rfl ?_
                  rintro _ _ ⟨_, ⟨rfl, rfl⟩, rfl⟩
                  refine jo_nil ?_
                  replace hkd : (onD ds x.d x.n x.s.size (spD x.n x.s))[k]? = some (some KD) := onD_other hl hkd hne
                  replace hW := (hW.spoil hl x.d x.n x.n x.s.size x.s).up (Nat.le_succ _)
                  replace hl : (onD ds x.d x.n x.s.size (spD x.n x.s)).length = 12 := (onD_len _ _ _ _ _).trans hl
                  generalize onD ds x.d x.n x.s.size (spD x.n x.s) = ds at hkd hW hl ⊢
                  refine jk_block ?_
                  refine jk_block ?_
                  refine jk_then ?_
                  refine sc_region ?_
                  refine so_pure (opv_move (by rfl)) (by rfl) rfl ?_
                  refine so_pure (opv_add (by rfl) (by rfl) (wrap64_ok (by omega))) (by rfl) rfl ?_
                  refine so_pure (opv_assign (by rfl)) (by rfl) rfl ?_
                  refine jo_nil ?_
                  refine jk_round (i + 1, ps, ds) ⟨by omega, hlp, hl, hkd, hW.up (by omega)⟩ (by show n0 - (i + 1) < n0 - i; omega) ⟨rfl, rfl, rfl, rfl, trivial⟩ (fun w hw => ?_)
                  show St _ _ [blk bb (.cells (ptrs (ps)).toArray 50 (0, 0)), grp (List.zipWith dkI (ps) (ds))] _
                  exact St.sel hw (by repeat (first | exact Pks.nil _ | exact Pk.here _ | apply Pk.there | apply Pks.cons))
                · first | have p44 := of_decide_eq_true h44 | have p44 := of_decide_eq_false h44 | have p44 := ndT h44 | have p44 := ndF h44 | have p44 := nbT h44 | have p44 := nbF h44 | have p44 := h44
                  refine sc_false (by rfl) h44 ?_
                  refine jc_seq ?_
                  refine sc_region ?_
                  refine so_pure (opv_cmp (by rfl) (by rfl) (by rfl)) (by rfl) rfl ?_
                  refine so_pure (opv_assign (by rfl)) (by rfl) rfl ?_
                  refine jo_nil ?_
                  refine jk_then ?_
                  refine sk_split (x := 73) (by rfl) (fun h54 => ?_) (fun h54 => ?_)
                  · first | have p54 := of_decide_eq_true h54 | have p54 := of_decide_eq_false h54 | have p54 := ndT h54 | have p54 := ndF h54 | have p54 := nbT h54 | have p54 := nbF h54 | have p54 := h54
                    refine sc_true (by rfl) h54 ?_
                    refine sc_region ?_
                    refine so_pure (opv_move (by rfl)) (by rfl) rfl ?_
                    refine so_pure (opv_fieldAddr (by rfl) fld30_1) (by rfl) rfl ?_
                    refine so_pure (opv_load (by rfl) na3 (rd_pk (by repeat (first | exact Pk.here _ | apply Pk.there))) (by rfl)) (by rfl) rfl ?_
                    refine so_eff (eff_callF [blk bb (.cells (ptrs ps).toArray 50 (0, 0)), grp (List.zipWith dkI ps ds)] (fl := []) (cl := []) (G := fun v Is' => ∃ ps', ps'.length = 12 ∧ v = .int .i64 (if inR x.d then 0 else 1) ∧ Is' = [blk bb (.cells (ptrs ps').toArray 50 (0, 0)), grp (List.zipWith dkI ps' (putD ds x.d none))]) (by rfl) (by rfl) tx24 (by repeat (first | exact Pks.nil _ | exact Pk.here _ | apply Pk.there | apply Pks.cons)) (by exact fun w1 hw1 => (lose_spec x.d hw1 hlp hl).mono (fun _ _ ⟨ps', hl, hv, hst⟩ => ⟨_, ⟨ps', hl, hv, rfl⟩, hst⟩))) (by rfl) rfl ?_
                    rintro _ _ ⟨_, ⟨ps, hlp, rfl, rfl⟩, rfl⟩
                    refine jo_nil ?_
                    replace hkd : (putD ds x.d none)[k]? = some (some KD) := putD_other hkd hne
                    replace hW := (hW.put x.d (.inl rfl)).up (Nat.le_succ _)
                    replace hl : (putD ds x.d none).length = 12 := (putD_len _ _ _).trans hl
                    generalize putD ds x.d none = ds at hkd hW hl ⊢
                    refine jk_block ?_
                    refine jk_block ?_
                    refine jk_then ?_
                    refine sc_region ?_
                    refine so_pure (opv_move (by rfl)) (by rfl) rfl ?_
                    refine so_pure (opv_add (by rfl) (by rfl) (wrap64_ok (by omega))) (by rfl) rfl ?_
                    refine so_pure (opv_assign (by rfl)) (by rfl) rfl ?_
                    refine jo_nil ?_
                    refine jk_round (i + 1, ps, ds) ⟨by omega, hlp, hl, hkd, hW.up (by omega)⟩ (by show n0 - (i + 1) < n0 - i; omega) ⟨rfl, rfl, rfl, rfl, trivial⟩ (fun w hw => ?_)
                    show St _ _ [blk bb (.cells (ptrs (ps)).toArray 50 (0, 0)), grp (List.zipWith dkI (ps) (ds))] _
                    exact St.sel hw (by repeat (first | exact Pks.nil _ | exact Pk.here _ | apply Pk.there | apply Pks.cons))
                  · first | have p54 := of_decide_eq_true h54 | have p54 := of_decide_eq_false h54 | have p54 := ndT h54 | have p54 := ndF h54 | have p54 := nbT h54 | have p54 := nbF h54 | have p54 := h54
                    refine sc_false (by rfl) h54 ?_
                    refine jc_seq ?_
                    refine sc_region ?_
                    refine so_pure (opv_cmp (by rfl) (by rfl) (by rfl)) (by rfl) rfl ?_
                    refine so_pure (opv_assign (by rfl)) (by rfl) rfl ?_
                    refine jo_nil ?_
                    refine jk_then ?_
                    refine sk_split (x := 79) (by rfl) (fun h60 => ?_) (fun h60 => ?_)
                    · first | have p60 := of_decide_eq_true h60 | have p60 := of_decide_eq_false h60 | have p60 := ndT h60 | have p60 := ndF h60 | have p60 := nbT h60 | have p60 := nbF h60 | have p60 := h60
                      refine sc_true (by rfl) h60 ?_
                      refine sc_region ?_
                      refine so_pure (opv_move (by rfl)) (by rfl) rfl ?_
                      refine so_pure (opv_fieldAddr (by rfl) fld30_1) (by rfl) rfl ?_
                      refine so_pure (opv_load (by rfl) na3 (rd_pk (by repeat (first | exact Pk.here _ | apply Pk.there))) (by rfl)) (by rfl) rfl ?_
                      refine so_eff (eff_callF [blk bb (.cells (ptrs ps).toArray 50 (0, 0)), grp (List.zipWith dkI ps ds)] (fl := []) (cl := []) (G := fun v Is' => ∃ ps', ps'.length = 12 ∧ v = .int .i64 (if inR x.d then 0 else 1) ∧ Is' = [blk bb (.cells (ptrs ps').toArray 50 (0, 0)), grp (List.zipWith dkI ps' (putD ds x.d (some ⟨[], []⟩)))]) (by rfl) (by rfl) tx25 (by repeat (first | exact Pks.nil _ | exact Pk.here _ | apply Pk.there | apply Pks.cons)) (by exact fun w1 hw1 => (replace_spec x.d hw1 hlp hl).mono (fun _ _ ⟨ps', hl, hv, hst⟩ => ⟨_, ⟨ps', hl, hv, rfl⟩, hst⟩))) (by rfl) rfl ?_
                      rintro _ _ ⟨_, ⟨ps, hlp, rfl, rfl⟩, rfl⟩
                      refine jo_nil ?_
                      replace hkd : (putD ds x.d (some ⟨[], []⟩))[k]? = some (some KD) := putD_other hkd hne
                      replace hW := (hW.put x.d (.inr rfl)).up (Nat.le_succ _)
                      replace hl : (putD ds x.d (some ⟨[], []⟩)).length = 12 := (putD_len _ _ _).trans hl
                      generalize putD ds x.d (some ⟨[], []⟩) = ds at hkd hW hl ⊢
                      refine jk_block ?_
                      refine jk_block ?_
                      refine jk_then ?_
                      refine sc_region ?_
                      refine so_pure (opv_move (by rfl)) (by rfl) rfl ?_
                      refine so_pure (opv_add (by rfl) (by rfl) (wrap64_ok (by omega))) (by rfl) rfl ?_
                      refine so_pure (opv_assign (by rfl)) (by rfl) rfl ?_
                      refine jo_nil ?_
                      refine jk_round (i + 1, ps, ds) ⟨by omega, hlp, hl, hkd, hW.up (by omega)⟩ (by show n0 - (i + 1) < n0 - i; omega) ⟨rfl, rfl, rfl, rfl, trivial⟩ (fun w hw => ?_)
                      show St _ _ [blk bb (.cells (ptrs (ps)).toArray 50 (0, 0)), grp (List.zipWith dkI (ps) (ds))] _
                      exact St.sel hw (by repeat (first | exact Pks.nil _ | exact Pk.here _ | apply Pk.there | apply Pks.cons))
                    · first | have p60 := of_decide_eq_true h60 | have p60 := of_decide_eq_false h60 | have p60 := ndT h60 | have p60 := ndF h60 | have p60 := nbT h60 | have p60 := nbF h60 | have p60 := h60
                      refine sc_false (by rfl) h60 ?_
                      refine jc_skip ?_
                      refine jk_block ?_
                      refine jk_block ?_
                      refine jk_then ?_
                      refine sc_region ?_
                      refine so_pure (opv_move (by rfl)) (by rfl) rfl ?_
                      refine so_pure (opv_add (by rfl) (by rfl) (wrap64_ok (by omega))) (by rfl) rfl ?_
                      refine so_pure (opv_assign (by rfl)) (by rfl) rfl ?_
                      refine jo_nil ?_
                      refine jk_round (i + 1, ps, ds) ⟨by omega, hlp, hl, hkd, hW.up (by omega)⟩ (by show n0 - (i + 1) < n0 - i; omega) ⟨rfl, rfl, rfl, rfl, trivial⟩ (fun w hw => ?_)
                      show St _ _ [blk bb (.cells (ptrs (ps)).toArray 50 (0, 0)), grp (List.zipWith dkI (ps) (ds))] _
                      exact St.sel hw (by repeat (first | exact Pks.nil _ | exact Pk.here _ | apply Pk.there | apply Pks.cons))
        · first | have p16 := of_decide_eq_true h16 | have p16 := of_decide_eq_false h16 | have p16 := ndT h16 | have p16 := ndF h16 | have p16 := nbT h16 | have p16 := nbF h16 | have p16 := h16
          refine sc_false (by rfl) h16 ?_
          refine jc_exit ?_
          refine jk_then_exit ?_
          refine jk_then_exit ?_
          refine jk_block_exit ?_
          refine jk_then ?_
          refine jc_seq ?_
          refine sc_region ?_
          refine so_pure (opv_move (by rfl)) (by rfl) rfl ?_
          refine so_pure (opv_move (by rfl)) (by rfl) rfl ?_
          refine so_eff (eff_callF [blk bb (.cells (ptrs ps).toArray 50 (0, 0)), grp (List.zipWith dkI ps ds)] (fl := []) (cl := []) (G := fun v Is' => v = .tuple #[.string (rdD ds (k : Int) 7), .int .i64 (chk ds (k : Int) 7 0)] ∧ Is' = [blk bb (.cells (ptrs ps).toArray 50 (0, 0)), grp (List.zipWith dkI ps ds)]) (by rfl) (by rfl) tx14 (by repeat (first | exact Pks.nil _ | exact Pk.here _ | apply Pk.there | apply Pks.cons)) (by exact fun w1 hw1 => (read_spec (k : Int) 7 hw1 hlp hl hW (by omega)).mono (fun _ _ ⟨hv, hst⟩ => ⟨_, ⟨hv, rfl⟩, hst⟩))) (by rfl) rfl ?_
          rintro _ _ ⟨_, ⟨rfl, rfl⟩, rfl⟩
          rw [kept_read hk12 hkd, kept_chk hk12 hkd]
          refine so_pure (opv_move (by rfl)) (by rfl) rfl ?_
          refine so_pure (opv_extract (by rfl) (by rfl)) (by rfl) rfl ?_
          refine so_pure (opv_extract (by rfl) (by rfl)) (by rfl) rfl ?_
          refine so_pure (opv_assign (by rfl)) (by rfl) rfl ?_
          refine so_pure (opv_assign (by rfl)) (by rfl) rfl ?_
          refine jo_nil ?_
          refine jk_then ?_
          refine jc_seq ?_
          refine sc_region ?_
          refine so_pure (opv_move (by rfl)) (by rfl) rfl ?_
          refine so_pure (opv_seq_true (by rfl) (by rfl) rfl) (by rfl) rfl ?_
          refine so_pure (opv_move (by rfl)) (by rfl) rfl ?_
          refine so_pure (opv_move (by rfl)) (wtd_run rfl rfl (by rfl) rfl) rfl ?_
          refine so_pure (opv_cmp (b := true) (by rfl) (by rfl) (by rfl)) (wtd_run rfl rfl (by rfl) rfl) rfl ?_
          refine so_pure (sv_pick_t (by rfl) rfl (by rfl)) (by rfl) rfl ?_
          refine so_pure (opv_move (by rfl)) (by rfl) rfl ?_
          refine so_eff (eff_call0 (G := fun u New => u = .bool true ∧ New = []) (by rfl) (by rfl) tx8 (by exact fun w1 hw1 => (live_spec w1).mono (fun _ _ ⟨hv, hst⟩ => ⟨[], ⟨hv, rfl⟩, hst⟩))) (wtd_run rfl rfl (by rfl) rfl) rfl ?_
          rintro _ _ ⟨_, ⟨rfl, rfl⟩, rfl⟩
          refine so_pure (sv_pick_t (by rfl) rfl (by rfl)) (by rfl) rfl ?_
          refine so_pure (opv_assign (by rfl)) (by rfl) rfl ?_
          refine jo_nil ?_
          refine jk_then ?_
          refine jc_ret ?_
          refine jk_fn_ret rfl rfl (by rfl) (fun w hw => ?_)
          exact ⟨rfl, hw.forget⟩
end Go.Disks
