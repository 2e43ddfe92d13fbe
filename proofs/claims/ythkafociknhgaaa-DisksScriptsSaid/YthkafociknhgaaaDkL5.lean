/- A part of a proof for the laws of the seat Ythkafociknhgaaa; it has no conditions of its own. -/
import Derived.Test.YthkafociknhgaaaDkR8
import Derived.Test.YthkafociknhgaaaSLEven
namespace Go.Disks
open Go Go.SL Go.Proofs
set_option maxHeartbeats 4000000 in
theorem law_scripts (w : World) (A0 : Option Addr) (n0 c0 : Nat) (xs0 : List OpD) (hs0 : SlR w 30 6 OpD.cells A0 n0 xs0) (hok0 : ∀ o ∈ xs0, OpOk w o) (hm0 : n0 ≤ 9223372036854775807) : Does Try.prog 5 #[.slice A0 n0 c0] w (fun v w' => v = .bool true ∧ St w Emp [] w') := by
  refine fn_body (fn := Try.f5) Try.func5 rfl [(0, .slice A0 n0 c0)] (by exact ⟨rfl, trivial⟩) rfl (St.start w) ?_
  refine jc_seq ?_
  refine sc_region ?_
  refine so_pure (opv_assign (by rfl)) (by rfl) rfl ?_
  refine jo_nil ?_
  refine jk_then ?_
  refine jc_seq ?_
  refine jc_seq ?_
  refine sc_region ?_
  refine so_pure (opv_move (by rfl)) (by rfl) rfl ?_
  refine so_pure (opv_len_slice (by rfl) Try.underlying22) (by rfl) rfl ?_
  refine so_pure (opv_cmp (by rfl) (by rfl) (by rfl)) (by rfl) rfl ?_
  refine jo_nil ?_
  refine jk_then ?_
  refine sk_split (x := 13) (by rfl) (fun h3 => ?_) (fun h3 => ?_)
  · first | have p3 := of_decide_eq_true h3 | have p3 := of_decide_eq_false h3 | have p3 := ndT h3 | have p3 := ndF h3 | have p3 := nbT h3 | have p3 := nbF h3 | have p3 := h3
    refine sc_true (by rfl) h3 ?_
    refine jc_seq ?_
    refine sc_region ?_
    refine so_eff (eff_call0 (G := fun u New => u = .bool true ∧ New = []) (by rfl) (by rfl) tx8 (by exact fun w1 hw1 => (live_spec w1).mono (fun _ _ ⟨hv, hst⟩ => ⟨[], ⟨hv, rfl⟩, hst⟩))) (by rfl) rfl ?_
    rintro _ _ ⟨_, ⟨rfl, rfl⟩, rfl⟩
    refine so_pure (opv_assign (by rfl)) (by rfl) rfl ?_
    refine jo_nil ?_
    refine jk_then ?_
    refine jc_ret ?_
    refine jk_then_ret ?_
    refine jk_fn_ret rfl rfl (by rfl) (fun w hw => ?_)
    exact ⟨rfl, hw.forget⟩
  · first | have p3 := of_decide_eq_true h3 | have p3 := of_decide_eq_false h3 | have p3 := ndT h3 | have p3 := ndF h3 | have p3 := nbT h3 | have p3 := nbF h3 | have p3 := h3
    refine sc_false (by rfl) h3 ?_
    refine jc_skip ?_
    refine jk_then ?_
    refine jc_seq ?_
    refine sc_region ?_
    refine so_eff (eff_call0 (fl := []) (cl := []) (G := fun v New => ∃ bb ps, ps.length = 12 ∧ v = .pointer (some ⟨bb, 0, none⟩) ∧ New = [blk bb (.cells (ptrs ps).toArray 50 (0, 0)), grp (List.zipWith dkI ps (new12 12))]) (by rfl) (by rfl) tx9 (by exact fun w1 hw1 => (new_spec w1).mono (fun _ _ ⟨bb, ps, hl, hv, hst⟩ => ⟨_, ⟨bb, ps, hl, hv, rfl⟩, hst⟩))) (by rfl) rfl ?_
    rintro _ _ ⟨_, ⟨bb, ps, hlp, rfl, rfl⟩, rfl⟩
    refine so_pure (opv_assign (by rfl)) (by rfl) rfl ?_
    refine jo_nil ?_
    refine jk_then ?_
    refine jc_seq ?_
    refine sc_region ?_
    refine so_eff (eff_call0 (fl := []) (cl := []) (G := fun v New => ∃ bk dv rps, rps.length = 12 ∧ v = .pointer (some ⟨bk, 0, none⟩) ∧ New = [blk bk (.cells #[dv] 73 (0, 0)), own dv 74 1 12 (rps.flatMap pc), grp (List.zipWith rdI rps (new12 12))]) (by rfl) (by rfl) tx16 (by exact fun w1 hw1 => (rnew_spec w1).mono (fun _ _ ⟨bk, dv, rps, hl, hv, hst⟩ => ⟨_, ⟨bk, dv, rps, hl, hv, rfl⟩, hst⟩))) (by rfl) rfl ?_
    rintro _ _ ⟨_, ⟨bk, dv, rps, hlr, rfl, rfl⟩, rfl⟩
    refine so_pure (opv_assign (by rfl)) (by rfl) rfl ?_
    refine jo_nil ?_
    refine jk_then ?_
    refine jc_seq ?_
    refine jc_seq ?_
    refine sc_region ?_
    refine so_pure (opv_assign (by rfl)) (by rfl) rfl ?_
    refine jo_nil ?_
    refine jk_then ?_
    refine jc_block ?_
    refine jc_loop (σ := Nat × List Nat × List Nat × List DD) (fun (i, ps, rps, ds) => [(0, .slice A0 n0 c0), (3, .pointer (some ⟨bb, 0, none⟩)), (4, .pointer (some ⟨bk, 0, none⟩)), (5, .int .i64 i)]) (fun (i, ps, rps, ds) => [blk bb (.cells (ptrs ps).toArray 50 (0, 0)), grp (List.zipWith dkI ps ds), blk bk (.cells #[dv] 73 (0, 0)), own dv 74 1 12 (rps.flatMap pc), grp (List.zipWith rdI rps ds)]) (fun (i, ps, rps, ds) => (i ≤ n0) ∧ (ps.length = 12) ∧ (rps.length = 12) ∧ (ds.length = 12) ∧ (WB ds i) ∧ (WN ds)) (fun (i, ps, rps, ds) => n0 - i) (0, ps, rps, new12 12) ⟨Nat.zero_le _, hlp, hlr, new12_len 12, wb_new, wn_new⟩ ⟨rfl, rfl, rfl, rfl, trivial⟩ (fun w hw => St.sel hw (by repeat (first | exact Pks.nil _ | exact Pk.here _ | apply Pk.there | apply Pks.cons))) ?_
    rintro ⟨i, ps, rps, ds⟩ ⟨hi, hlp, hlr, hld, hwb, hwn⟩
    show Jc _ _ [(0, .slice A0 n0 c0), (3, .pointer (some ⟨bb, 0, none⟩)), (4, .pointer (some ⟨bk, 0, none⟩)), (5, .int .i64 i)] [blk bb (.cells (ptrs ps).toArray 50 (0, 0)), grp (List.zipWith dkI ps ds), blk bk (.cells #[dv] 73 (0, 0)), own dv 74 1 12 (rps.flatMap pc), grp (List.zipWith rdI rps ds)] _
    refine jc_seq ?_
    refine jc_seq ?_
    refine sc_region ?_
    refine so_pure (opv_move (by rfl)) (by rfl) rfl ?_
    refine so_pure (opv_move (by rfl)) (by rfl) rfl ?_
    refine so_pure (opv_len_slice (by rfl) Try.underlying22) (by rfl) rfl ?_
    refine so_pure (opv_cmp (by rfl) (by rfl) (by rfl)) (by rfl) rfl ?_
    refine jo_nil ?_
    refine jk_then ?_
    refine sk_split (x := 20) (by rfl) (fun h10 => ?_) (fun h10 => ?_)
    · first | have p10 := of_decide_eq_true h10 | have p10 := of_decide_eq_false h10 | have p10 := ndT h10 | have p10 := ndF h10 | have p10 := nbT h10 | have p10 := nbF h10 | have p10 := h10
      refine sc_true (by rfl) h10 ?_
      refine jc_skip ?_
      refine jk_then ?_
      refine jc_seq ?_
      refine jc_block ?_
      refine jc_seq ?_
      refine jc_seq ?_
      have hlt : i < n0 := by omega
      obtain ⟨_, _, _, _, x, _, _, hx, _⟩ := hs0.get hlt
      obtain ⟨⟨kxs, hkx⟩, ⟨txs, htx⟩, _, _, hsx⟩ := hok0 x (List.mem_of_getElem? hx)
      refine sc_region ?_
      refine so_pure (opv_move (by rfl)) (by rfl) rfl ?_
      refine so_pure (opv_move (by rfl)) (by rfl) rfl ?_
      refine so_pure (opv_indexAddr_slr (i := i) (by rfl) hs0 (by rfl) Try.underlying22 ti30 rfl hlt) (by rfl) rfl ?_
      refine so_pure (opv_fieldAddr (by rfl) fld30_3) (by rfl) rfl ?_
      refine so_pure (opv_load_slr (u := x) (fo := 3) (v := .string x.s) (by rfl) na9 rfl hs0 hx rfl) (by rfl) rfl ?_
      refine so_pure (opv_len_string (by rfl) Try.underlying9) (by rfl) rfl ?_
      refine so_pure (opv_cmp (by rfl) (by rfl) (by rfl)) (by rfl) rfl ?_
      refine so_pure (opv_move (by rfl)) (by rfl) rfl ?_
      refine sk_split (x := 30) (by rfl) (fun h16 => ?_) (fun h16 => ?_)
      · first | have p16 := of_decide_eq_true h16 | have p16 := of_decide_eq_false h16 | have p16 := ndT h16 | have p16 := ndF h16 | have p16 := nbT h16 | have p16 := nbF h16 | have p16 := h16
        refine so_skip (wtd_not rfl rfl (by rfl) h16) rfl ?_
        refine so_skip (wtd_not rfl rfl (by rfl) h16) rfl ?_
        refine so_skip (wtd_not rfl rfl (by rfl) h16) rfl ?_
        refine so_skip (wtd_not rfl rfl (by rfl) h16) rfl ?_
        refine so_skip (wtd_not rfl rfl (by rfl) h16) rfl ?_
        refine so_skip (wtd_not rfl rfl (by rfl) h16) rfl ?_
        refine so_skip (wtd_not rfl rfl (by rfl) h16) rfl ?_
        refine so_pure (sv_pick_t (by rfl) h16 (by rfl)) (by rfl) rfl ?_
        refine so_pure (opv_move (by rfl)) (by rfl) rfl ?_
        refine so_skip (wtd_not rfl rfl (by rfl) rfl) rfl ?_
        refine so_skip (wtd_not rfl rfl (by rfl) rfl) rfl ?_
        refine so_skip (wtd_not rfl rfl (by rfl) rfl) rfl ?_
        refine so_skip (wtd_not rfl rfl (by rfl) rfl) rfl ?_
        refine so_skip (wtd_not rfl rfl (by rfl) rfl) rfl ?_
        refine so_skip (wtd_not rfl rfl (by rfl) rfl) rfl ?_
        refine so_skip (wtd_not rfl rfl (by rfl) rfl) rfl ?_
        refine so_pure (sv_pick_t (by rfl) rfl (by rfl)) (by rfl) rfl ?_
        refine jo_nil ?_
        refine jk_then ?_
        refine sc_true (by rfl) rfl ?_
        refine jc_seq ?_
        refine sc_region ?_
        refine so_eff (eff_call0 (G := fun u New => u = .bool true ∧ New = []) (by rfl) (by rfl) tx8 (by exact fun w1 hw1 => (live_spec w1).mono (fun _ _ ⟨hv, hst⟩ => ⟨[], ⟨hv, rfl⟩, hst⟩))) (by rfl) rfl ?_
        rintro _ _ ⟨_, ⟨rfl, rfl⟩, rfl⟩
        refine so_pure (opv_assign (by rfl)) (by rfl) rfl ?_
        refine jo_nil ?_
        refine jk_then ?_
        refine jc_ret ?_
        refine jk_then_ret ?_
        refine jk_block_ret ?_
        refine jk_then_ret ?_
        refine jk_then_ret ?_
        refine jk_block_ret ?_
        refine jk_then_ret ?_
        refine jk_fn_ret rfl rfl (by rfl) (fun w hw => ?_)
        exact ⟨rfl, hw.forget⟩
      · first | have p16 := of_decide_eq_true h16 | have p16 := of_decide_eq_false h16 | have p16 := ndT h16 | have p16 := ndF h16 | have p16 := nbT h16 | have p16 := nbF h16 | have p16 := h16
        refine so_pure (opv_move (by rfl)) (wtd_run rfl rfl (by rfl) h16) rfl ?_
        refine so_pure (opv_move (by rfl)) (wtd_run rfl rfl (by rfl) h16) rfl ?_
        refine so_pure (opv_indexAddr_slr (i := i) (by rfl) hs0 (by rfl) Try.underlying22 ti30 rfl hlt) (wtd_run rfl rfl (by rfl) h16) rfl ?_
        refine so_pure (opv_fieldAddr (by rfl) fld30_4) (wtd_run rfl rfl (by rfl) h16) rfl ?_
        refine so_pure (opv_load_slr (u := x) (fo := 4) (v := .slice x.kA x.kn x.kc) (by rfl) na23 rfl hs0 hx rfl) (wtd_run rfl rfl (by rfl) h16) rfl ?_
        refine so_pure (opv_len_slice (by rfl) Try.underlying23) (wtd_run rfl rfl (by rfl) h16) rfl ?_
        refine so_pure (opv_cmp (by rfl) (by rfl) (by rfl)) (wtd_run rfl rfl (by rfl) h16) rfl ?_
        refine so_pure (sv_pick_f (by rfl) h16 (by rfl)) (by rfl) rfl ?_
        refine so_pure (opv_move (by rfl)) (by rfl) rfl ?_
        refine sk_split (x := 39) (by rfl) (fun h23 => ?_) (fun h23 => ?_)
        · first | have p23 := of_decide_eq_true h23 | have p23 := of_decide_eq_false h23 | have p23 := ndT h23 | have p23 := ndF h23 | have p23 := nbT h23 | have p23 := nbF h23 | have p23 := h23
          refine so_skip (wtd_not rfl rfl (by rfl) h23) rfl ?_
          refine so_skip (wtd_not rfl rfl (by rfl) h23) rfl ?_
          refine so_skip (wtd_not rfl rfl (by rfl) h23) rfl ?_
          refine so_skip (wtd_not rfl rfl (by rfl) h23) rfl ?_
          refine so_skip (wtd_not rfl rfl (by rfl) h23) rfl ?_
          refine so_skip (wtd_not rfl rfl (by rfl) h23) rfl ?_
          refine so_skip (wtd_not rfl rfl (by rfl) h23) rfl ?_
          refine so_pure (sv_pick_t (by rfl) h23 (by rfl)) (by rfl) rfl ?_
          refine jo_nil ?_
          refine jk_then ?_
          refine sc_true (by rfl) rfl ?_
          refine jc_seq ?_
          refine sc_region ?_
          refine so_eff (eff_call0 (G := fun u New => u = .bool true ∧ New = []) (by rfl) (by rfl) tx8 (by exact fun w1 hw1 => (live_spec w1).mono (fun _ _ ⟨hv, hst⟩ => ⟨[], ⟨hv, rfl⟩, hst⟩))) (by rfl) rfl ?_
          rintro _ _ ⟨_, ⟨rfl, rfl⟩, rfl⟩
          refine so_pure (opv_assign (by rfl)) (by rfl) rfl ?_
          refine jo_nil ?_
          refine jk_then ?_
          refine jc_ret ?_
          refine jk_then_ret ?_
          refine jk_block_ret ?_
          refine jk_then_ret ?_
          refine jk_then_ret ?_
          refine jk_block_ret ?_
          refine jk_then_ret ?_
          refine jk_fn_ret rfl rfl (by rfl) (fun w hw => ?_)
          exact ⟨rfl, hw.forget⟩
        · first | have p23 := of_decide_eq_true h23 | have p23 := of_decide_eq_false h23 | have p23 := ndT h23 | have p23 := ndF h23 | have p23 := nbT h23 | have p23 := nbF h23 | have p23 := h23
          refine so_pure (opv_move (by rfl)) (wtd_run rfl rfl (by rfl) h23) rfl ?_
          refine so_pure (opv_move (by rfl)) (wtd_run rfl rfl (by rfl) h23) rfl ?_
          refine so_pure (opv_indexAddr_slr (i := i) (by rfl) hs0 (by rfl) Try.underlying22 ti30 rfl hlt) (wtd_run rfl rfl (by rfl) h23) rfl ?_
          refine so_pure (opv_fieldAddr (by rfl) fld30_5) (wtd_run rfl rfl (by rfl) h23) rfl ?_
          refine so_pure (opv_load_slr (u := x) (fo := 5) (v := .slice x.tA x.tn x.tc) (by rfl) na23 rfl hs0 hx rfl) (wtd_run rfl rfl (by rfl) h23) rfl ?_
          refine so_pure (opv_len_slice (by rfl) Try.underlying23) (wtd_run rfl rfl (by rfl) h23) rfl ?_
          refine so_pure (opv_cmp (by rfl) (by rfl) (by rfl)) (wtd_run rfl rfl (by rfl) h23) rfl ?_
          refine so_pure (sv_pick_f (by rfl) h23 (by rfl)) (by rfl) rfl ?_
          refine jo_nil ?_
          refine jk_then ?_
          refine sk_split (x := 47) (by rfl) (fun h30 => ?_) (fun h30 => ?_)
          · first | have p30 := of_decide_eq_true h30 | have p30 := of_decide_eq_false h30 | have p30 := ndT h30 | have p30 := ndF h30 | have p30 := nbT h30 | have p30 := nbF h30 | have p30 := h30
            refine sc_true (by rfl) h30 ?_
            refine jc_seq ?_
            refine sc_region ?_
            refine so_eff (eff_call0 (G := fun u New => u = .bool true ∧ New = []) (by rfl) (by rfl) tx8 (by exact fun w1 hw1 => (live_spec w1).mono (fun _ _ ⟨hv, hst⟩ => ⟨[], ⟨hv, rfl⟩, hst⟩))) (by rfl) rfl ?_
            rintro _ _ ⟨_, ⟨rfl, rfl⟩, rfl⟩
            refine so_pure (opv_assign (by rfl)) (by rfl) rfl ?_
            refine jo_nil ?_
            refine jk_then ?_
            refine jc_ret ?_
            refine jk_then_ret ?_
            refine jk_block_ret ?_
            refine jk_then_ret ?_
            refine jk_then_ret ?_
            refine jk_block_ret ?_
            refine jk_then_ret ?_
            refine jk_fn_ret rfl rfl (by rfl) (fun w hw => ?_)
            exact ⟨rfl, hw.forget⟩
          · first | have p30 := of_decide_eq_true h30 | have p30 := of_decide_eq_false h30 | have p30 := ndT h30 | have p30 := ndF h30 | have p30 := nbT h30 | have p30 := nbF h30 | have p30 := h30
            refine sc_false (by rfl) h30 ?_
            refine jc_skip ?_
            refine jk_then ?_
            refine jc_seq ?_
            refine jc_seq ?_
            refine sc_region ?_
            refine so_pure (opv_move (by rfl)) (by rfl) rfl ?_
            refine so_pure (opv_move (by rfl)) (by rfl) rfl ?_
            refine so_pure (opv_move (by rfl)) (by rfl) rfl ?_
            refine so_pure (opv_move (by rfl)) (by rfl) rfl ?_
            refine so_pure (opv_indexAddr_slr (i := i) (by rfl) hs0 (by rfl) Try.underlying22 ti30 rfl hlt) (by rfl) rfl ?_
            refine so_pure (opv_load_agg_slr (u := x) OpD.cells_len (by rfl) ag30 ti30 rfl hs0 hx) (by rfl) rfl ?_
            refine so_eff (eff_callF [blk bb (.cells (ptrs ps).toArray 50 (0, 0)), grp (List.zipWith dkI ps ds), blk bk (.cells #[dv] 73 (0, 0)), own dv 74 1 12 (rps.flatMap pc), grp (List.zipWith rdI rps ds)] (fl := []) (cl := []) (G := fun v Is' => ∃ ps' rps' ds', ps'.length = 12 ∧ rps'.length = 12 ∧ ds'.length = 12 ∧ WB ds' (i + 1) ∧ WN ds' ∧ v = .bool true ∧ Is' = [blk bb (.cells (ptrs ps').toArray 50 (0, 0)), grp (List.zipWith dkI ps' ds'), blk bk (.cells #[dv] 73 (0, 0)), own dv 74 1 12 (rps'.flatMap pc), grp (List.zipWith rdI rps' ds')]) (by rfl) (by rfl) tx17 (by repeat (first | exact Pks.nil _ | exact Pk.here _ | apply Pk.there | apply Pks.cons)) (by exact fun w1 hw1 => (does_spec x hw1 hlp hlr hld hwb (by omega) hwn hkx htx).mono (fun _ _ ⟨ps', rps', ds', h1, h2, h3, h4, h5, hv, hst⟩ => ⟨_, ⟨ps', rps', ds', h1, h2, h3, h4, h5, hv, rfl⟩, hst⟩))) (by rfl) rfl ?_
            rintro _ _ ⟨_, ⟨ps, rps, ds, hlp, hlr, hld, hwb, hwn, rfl, rfl⟩, rfl⟩
            refine so_pure (opv_not (by rfl)) (by rfl) rfl ?_
            refine so_pure (opv_move (by rfl)) (by rfl) rfl ?_
            refine so_pure (opv_move (by rfl)) (wtd_run rfl rfl (by rfl) rfl) rfl ?_
            refine so_eff (eff_callF [blk bb (.cells (ptrs ps).toArray 50 (0, 0)), grp (List.zipWith dkI ps ds)] (fl := []) (cl := []) (G := fun v Is' => Is' = [own v 3 1 (liveK ds 12).length ((liveK ds 12).flatMap ic), blk bb (.cells (ptrs ps).toArray 50 (0, 0)), grp (List.zipWith dkI ps ds)]) (by rfl) (by rfl) tx19 (by repeat (first | exact Pks.nil _ | exact Pk.here _ | apply Pk.there | apply Pks.cons)) (by exact fun w1 hw1 => (live19_spec hw1 hlp hld).mono (fun _ _ hst => ⟨_, rfl, hst⟩))) (wtd_run rfl rfl (by rfl) rfl) rfl ?_
            rintro lq _ ⟨_, rfl, rfl⟩
            refine jo_sv (v := lq) (by repeat (first | exact Pk.here _ | apply Pk.there)) (fun hsl => ?_)
            obtain ⟨lA, lc, rfl, _⟩ := hsl
            refine so_pure (opv_move (by rfl)) (wtd_run rfl rfl (by rfl) rfl) rfl ?_
            refine so_eff (eff_callF [blk bk (.cells #[dv] 73 (0, 0)), own dv 74 1 12 (rps.flatMap pc), grp (List.zipWith rdI rps ds)] (fl := []) (cl := []) (G := fun v Is' => Is' = [own v 3 1 (liveK ds 12).length ((liveK ds 12).flatMap ic), blk bk (.cells #[dv] 73 (0, 0)), own dv 74 1 12 (rps.flatMap pc), grp (List.zipWith rdI rps ds)]) (by rfl) (by rfl) tx20 (by repeat (first | exact Pks.nil _ | exact Pk.here _ | apply Pk.there | apply Pks.cons)) (by exact fun w1 hw1 => (rlive_spec hw1 hlr hld).mono (fun _ _ hst => ⟨_, rfl, hst⟩))) (wtd_run rfl rfl (by rfl) rfl) rfl ?_
            rintro rq _ ⟨_, rfl, rfl⟩
            refine jo_sv (v := rq) (by repeat (first | exact Pk.here _ | apply Pk.there)) (fun hsr => ?_)
            obtain ⟨rA, rc, rfl, _⟩ := hsr
            refine so_eff (eff_call0 (fl := []) (cl := []) (G := fun v New => v = .bool true ∧ New = []) (by rfl) (by rfl) tx18 (by exact fun w1 hw1 => (ints_spec w1 lA rA (liveK ds 12).length (liveK ds 12).length lc rc (liveK ds 12) (liveK ds 12) (St.slr ic_len hw1 (by repeat (first | exact Pk.here _ | apply Pk.there)) rfl) (St.slr ic_len hw1 (by repeat (first | exact Pk.here _ | apply Pk.there)) rfl) (Nat.le_trans (liveK_len ds 12) (by decide))).mono (fun _ _ ⟨hv, hst⟩ => ⟨[], ⟨hv.trans (by simp), rfl⟩, hst⟩))) (wtd_run rfl rfl (by rfl) rfl) rfl ?_
            rintro _ _ ⟨_, ⟨rfl, rfl⟩, rfl⟩
            refine so_pure (opv_not (by rfl)) (wtd_run rfl rfl (by rfl) rfl) rfl ?_
            refine so_pure (sv_pick_f (by rfl) rfl (by rfl)) (by rfl) rfl ?_
            refine jo_nil ?_
            refine jk_then ?_
            refine sc_false (by rfl) rfl ?_
            refine jc_skip ?_
            refine jk_then ?_
            refine jc_seq ?_
            refine sc_region ?_
            refine so_pure (opv_assign (by rfl)) (by rfl) rfl ?_
            refine jo_nil ?_
            refine jk_then ?_
            refine jc_block ?_
            refine jc_loop (σ := Nat) (fun j => [(0, .slice A0 n0 c0), (3, .pointer (some ⟨bb, 0, none⟩)), (4, .pointer (some ⟨bk, 0, none⟩)), (5, .int .i64 (i : Int)), (6, .int .i64 j)]) (fun j => [blk bb (.cells (ptrs ps).toArray 50 (0, 0)), grp (List.zipWith dkI ps ds), blk bk (.cells #[dv] 73 (0, 0)), own dv 74 1 12 (rps.flatMap pc), grp (List.zipWith rdI rps ds)]) (fun j => (j ≤ i + 1) ∧ (True)) (fun j => i + 1 - j) 0 ⟨Nat.zero_le _, trivial⟩ ⟨rfl, rfl, rfl, rfl, rfl, trivial⟩ (fun w hw => St.sel hw (by repeat (first | exact Pks.nil _ | exact Pk.here _ | apply Pk.there | apply Pks.cons))) ?_
            rintro j ⟨hj, ht⟩
            show Jc _ _ [(0, .slice A0 n0 c0), (3, .pointer (some ⟨bb, 0, none⟩)), (4, .pointer (some ⟨bk, 0, none⟩)), (5, .int .i64 (i : Int)), (6, .int .i64 j)] [blk bb (.cells (ptrs ps).toArray 50 (0, 0)), grp (List.zipWith dkI ps ds), blk bk (.cells #[dv] 73 (0, 0)), own dv 74 1 12 (rps.flatMap pc), grp (List.zipWith rdI rps ds)] _
            refine jc_seq ?_
            refine jc_seq ?_
            refine sc_region ?_
            refine so_pure (opv_move (by rfl)) (by rfl) rfl ?_
            refine so_pure (opv_move (by rfl)) (by rfl) rfl ?_
            refine so_pure (opv_cmp (by rfl) (by rfl) (by rfl)) (by rfl) rfl ?_
            refine jo_nil ?_
            refine jk_then ?_
            refine sk_split (x := 67) (by rfl) (fun h40 => ?_) (fun h40 => ?_)
            · first | have p40 := of_decide_eq_true h40 | have p40 := of_decide_eq_false h40 | have p40 := ndT h40 | have p40 := ndF h40 | have p40 := nbT h40 | have p40 := nbF h40 | have p40 := h40
              refine sc_true (by rfl) h40 ?_
              refine jc_skip ?_
              refine jk_then ?_
              refine jc_seq ?_
              refine jc_block ?_
              refine jc_seq ?_
              have hltj : j < n0 := by omega
              obtain ⟨_, _, _, _, y, _, _, hy, _⟩ := hs0.get hltj
              refine so_draw [] (by kernel_rfl) (by kernel_rfl) (by kernel_rfl) rfl (by rfl) (fun hap htm => ?_)
              refine da_any hap htm (i := 0) (by rfl) (by kernel_rfl) (by rfl) (listed' := #[true, false, false, false, false, false, false, false, false, false, false, false, false, false, false, false, false]) (by rfl) (fun _ => (opv_move (by rfl))) (by rfl) rfl ?_
              refine da_any hap htm (i := 1) (by rfl) (by kernel_rfl) (by rfl) (listed' := #[true, true, false, false, false, false, false, false, false, false, false, false, false, false, false, false, false]) (by rfl) (fun _ => (opv_move (by rfl))) (by rfl) rfl ?_
              refine da_any hap htm (i := 2) (by rfl) (by kernel_rfl) (by rfl) (listed' := #[true, true, true, false, false, false, false, false, false, false, false, false, false, false, false, false, false]) (by rfl) (fun _ => (opv_move (by rfl))) (by rfl) rfl ?_
              refine da_any hap htm (i := 3) (by rfl) (by kernel_rfl) (by rfl) (listed' := #[true, true, true, true, false, false, false, false, false, false, false, false, false, false, false, false, false]) (by rfl) (fun _ => (opv_indexAddr_slr (i := j) (by rfl) hs0 (by rfl) Try.underlying22 ti30 rfl hltj)) (by rfl) rfl ?_
              refine da_any hap htm (i := 4) (by rfl) (by kernel_rfl) (by rfl) (listed' := #[true, true, true, true, true, false, false, false, false, false, false, false, false, false, false, false, false]) (by rfl) (fun _ => (opv_fieldAddr (by rfl) fld30_1)) (by rfl) rfl ?_
              refine da_now [11, 12, 13, 14, 15, 16] hap htm (i := 5) (by rfl) (by kernel_rfl) (by rfl) (listed' := #[true, true, true, true, true, true, false, false, false, false, false, false, false, false, false, false, false]) (by rfl) (by kernel_rfl) (by kernel_rfl) (opv_load_slr (u := y) (fo := 1) (v := .int .i64 y.d) (by rfl) na3 rfl hs0 hy rfl) (by rfl) rfl ?_
              refine da_any hap htm (i := 6) (by rfl) (by kernel_rfl) (by rfl) (listed' := #[true, true, true, true, true, true, true, false, false, false, false, false, false, false, false, false, false]) (by rfl) (fun _ => (opv_move (by rfl))) (by rfl) rfl ?_
              refine da_any hap htm (i := 7) (by rfl) (by kernel_rfl) (by rfl) (listed' := #[true, true, true, true, true, true, true, true, false, false, false, false, false, false, false, false, false]) (by rfl) (fun _ => (opv_move (by rfl))) (by rfl) rfl ?_
              refine da_any hap htm (i := 8) (by rfl) (by kernel_rfl) (by rfl) (listed' := #[true, true, true, true, true, true, true, true, true, false, false, false, false, false, false, false, false]) (by rfl) (fun _ => (opv_indexAddr_slr (i := j) (by rfl) hs0 (by rfl) Try.underlying22 ti30 rfl hltj)) (by rfl) rfl ?_
              refine da_any hap htm (i := 9) (by rfl) (by kernel_rfl) (by rfl) (listed' := #[true, true, true, true, true, true, true, true, true, true, false, false, false, false, false, false, false]) (by rfl) (fun _ => (opv_fieldAddr (by rfl) fld30_2)) (by rfl) rfl ?_
              refine da_now [11, 12, 13, 14, 15, 16] hap htm (i := 10) (by rfl) (by kernel_rfl) (by rfl) (listed' := #[true, true, true, true, true, true, true, true, true, true, true, false, false, false, false, false, false]) (by rfl) (by kernel_rfl) (by kernel_rfl) (opv_load_slr (u := y) (fo := 2) (v := .int .i64 y.n) (by rfl) na3 rfl hs0 hy rfl) (by rfl) rfl ?_
              refine da_eff (i := 11) (by rfl) (by kernel_rfl) (by rfl) (listed' := #[true, true, true, true, true, true, true, true, true, true, true, true, false, false, false, false, false]) (by rfl) (eff_callF [blk bb (.cells (ptrs ps).toArray 50 (0, 0)), grp (List.zipWith dkI ps ds)] (fl := []) (cl := []) (G := fun v Is' => v = .tuple #[.string (rdD ds y.d y.n), .int .i64 (chk ds y.d y.n 0)] ∧ Is' = [blk bb (.cells (ptrs ps).toArray 50 (0, 0)), grp (List.zipWith dkI ps ds)]) (by rfl) (by rfl) tx14 (by repeat (first | exact Pks.nil _ | exact Pk.here _ | apply Pk.there | apply Pks.cons)) (by exact fun w1 hw1 => (read_spec y.d y.n hw1 hlp hld hwb (by omega)).mono (fun _ _ ⟨hv, hst⟩ => ⟨_, ⟨hv, rfl⟩, hst⟩))) (fun _ _ _ _ hw => cw_nil hw) (by rfl) rfl ?_
              rintro _ _ ⟨_, ⟨rfl, rfl⟩, rfl⟩
              refine da_any hap htm (i := 12) (by rfl) (by kernel_rfl) (by rfl) (listed' := #[true, true, true, true, true, true, true, true, true, true, true, true, true, false, false, false, false]) (by rfl) (fun _ => (opv_move (by rfl))) (by rfl) rfl ?_
              refine da_any hap htm (i := 13) (by rfl) (by kernel_rfl) (by rfl) (listed' := #[true, true, true, true, true, true, true, true, true, true, true, true, true, true, false, false, false]) (by rfl) (fun _ => (opv_extract (by rfl) (by rfl))) (by rfl) rfl ?_
              refine da_any hap htm (i := 14) (by rfl) (by kernel_rfl) (by rfl) (listed' := #[true, true, true, true, true, true, true, true, true, true, true, true, true, true, true, false, false]) (by rfl) (fun _ => (opv_extract (by rfl) (by rfl))) (by rfl) rfl ?_
              refine da_any hap htm (i := 15) (by rfl) (by kernel_rfl) (by rfl) (listed' := #[true, true, true, true, true, true, true, true, true, true, true, true, true, true, true, true, false]) (by rfl) (fun _ => (opv_assign (by rfl))) (by rfl) rfl ?_
              refine da_any hap htm (i := 16) (by rfl) (by kernel_rfl) (by rfl) (listed' := #[true, true, true, true, true, true, true, true, true, true, true, true, true, true, true, true, true]) (by rfl) (fun _ => (opv_assign (by rfl))) (by rfl) rfl ?_
              refine da_done (by kernel_rfl) ?_
              refine jk_then ?_
              refine jc_seq ?_
              refine so_draw [] (by kernel_rfl) (by kernel_rfl) (by kernel_rfl) rfl (by rfl) (fun hap htm => ?_)
              refine da_any hap htm (i := 0) (by rfl) (by kernel_rfl) (by rfl) (listed' := #[true, false, false, false, false, false, false, false, false, false, false, false, false, false, false, false, false]) (by rfl) (fun _ => (opv_move (by rfl))) (by rfl) rfl ?_
              refine da_any hap htm (i := 1) (by rfl) (by kernel_rfl) (by rfl) (listed' := #[true, true, false, false, false, false, false, false, false, false, false, false, false, false, false, false, false]) (by rfl) (fun _ => (opv_move (by rfl))) (by rfl) rfl ?_
              refine da_any hap htm (i := 2) (by rfl) (by kernel_rfl) (by rfl) (listed' := #[true, true, true, false, false, false, false, false, false, false, false, false, false, false, false, false, false]) (by rfl) (fun _ => (opv_move (by rfl))) (by rfl) rfl ?_
              refine da_any hap htm (i := 3) (by rfl) (by kernel_rfl) (by rfl) (listed' := #[true, true, true, true, false, false, false, false, false, false, false, false, false, false, false, false, false]) (by rfl) (fun _ => (opv_indexAddr_slr (i := j) (by rfl) hs0 (by rfl) Try.underlying22 ti30 rfl hltj)) (by rfl) rfl ?_
              refine da_any hap htm (i := 4) (by rfl) (by kernel_rfl) (by rfl) (listed' := #[true, true, true, true, true, false, false, false, false, false, false, false, false, false, false, false, false]) (by rfl) (fun _ => (opv_fieldAddr (by rfl) fld30_1)) (by rfl) rfl ?_
              refine da_now [11, 12, 13, 14, 15, 16] hap htm (i := 5) (by rfl) (by kernel_rfl) (by rfl) (listed' := #[true, true, true, true, true, true, false, false, false, false, false, false, false, false, false, false, false]) (by rfl) (by kernel_rfl) (by kernel_rfl) (opv_load_slr (u := y) (fo := 1) (v := .int .i64 y.d) (by rfl) na3 rfl hs0 hy rfl) (by rfl) rfl ?_
              refine da_any hap htm (i := 6) (by rfl) (by kernel_rfl) (by rfl) (listed' := #[true, true, true, true, true, true, true, false, false, false, false, false, false, false, false, false, false]) (by rfl) (fun _ => (opv_move (by rfl))) (by rfl) rfl ?_
              refine da_any hap htm (i := 7) (by rfl) (by kernel_rfl) (by rfl) (listed' := #[true, true, true, true, true, true, true, true, false, false, false, false, false, false, false, false, false]) (by rfl) (fun _ => (opv_move (by rfl))) (by rfl) rfl ?_
              refine da_any hap htm (i := 8) (by rfl) (by kernel_rfl) (by rfl) (listed' := #[true, true, true, true, true, true, true, true, true, false, false, false, false, false, false, false, false]) (by rfl) (fun _ => (opv_indexAddr_slr (i := j) (by rfl) hs0 (by rfl) Try.underlying22 ti30 rfl hltj)) (by rfl) rfl ?_
              refine da_any hap htm (i := 9) (by rfl) (by kernel_rfl) (by rfl) (listed' := #[true, true, true, true, true, true, true, true, true, true, false, false, false, false, false, false, false]) (by rfl) (fun _ => (opv_fieldAddr (by rfl) fld30_2)) (by rfl) rfl ?_
              refine da_now [11, 12, 13, 14, 15, 16] hap htm (i := 10) (by rfl) (by kernel_rfl) (by rfl) (listed' := #[true, true, true, true, true, true, true, true, true, true, true, false, false, false, false, false, false]) (by rfl) (by kernel_rfl) (by kernel_rfl) (opv_load_slr (u := y) (fo := 2) (v := .int .i64 y.n) (by rfl) na3 rfl hs0 hy rfl) (by rfl) rfl ?_
              refine da_eff (i := 11) (by rfl) (by kernel_rfl) (by rfl) (listed' := #[true, true, true, true, true, true, true, true, true, true, true, true, false, false, false, false, false]) (by rfl) (eff_callF [blk bk (.cells #[dv] 73 (0, 0)), own dv 74 1 12 (rps.flatMap pc), grp (List.zipWith rdI rps ds)] (fl := []) (cl := []) (G := fun v Is' => v = .tuple #[.string (rdD ds y.d y.n), .int .i64 (chk ds y.d y.n 0)] ∧ Is' = [blk bk (.cells #[dv] 73 (0, 0)), own dv 74 1 12 (rps.flatMap pc), grp (List.zipWith rdI rps ds)]) (by rfl) (by rfl) tx21 (by repeat (first | exact Pks.nil _ | exact Pk.here _ | apply Pk.there | apply Pks.cons)) (by exact fun w1 hw1 => (rread_spec y.d y.n hw1 hlr hld hwb (by omega) hwn).mono (fun _ _ ⟨hv, hst⟩ => ⟨_, ⟨hv, rfl⟩, hst⟩))) (fun _ _ _ _ hw => cw_nil hw) (by rfl) rfl ?_
              rintro _ _ ⟨_, ⟨rfl, rfl⟩, rfl⟩
              refine da_any hap htm (i := 12) (by rfl) (by kernel_rfl) (by rfl) (listed' := #[true, true, true, true, true, true, true, true, true, true, true, true, true, false, false, false, false]) (by rfl) (fun _ => (opv_move (by rfl))) (by rfl) rfl ?_
              refine da_any hap htm (i := 13) (by rfl) (by kernel_rfl) (by rfl) (listed' := #[true, true, true, true, true, true, true, true, true, true, true, true, true, true, false, false, false]) (by rfl) (fun _ => (opv_extract (by rfl) (by rfl))) (by rfl) rfl ?_
              refine da_any hap htm (i := 14) (by rfl) (by kernel_rfl) (by rfl) (listed' := #[true, true, true, true, true, true, true, true, true, true, true, true, true, true, true, false, false]) (by rfl) (fun _ => (opv_extract (by rfl) (by rfl))) (by rfl) rfl ?_
              refine da_any hap htm (i := 15) (by rfl) (by kernel_rfl) (by rfl) (listed' := #[true, true, true, true, true, true, true, true, true, true, true, true, true, true, true, true, false]) (by rfl) (fun _ => (opv_assign (by rfl))) (by rfl) rfl ?_
              refine da_any hap htm (i := 16) (by rfl) (by kernel_rfl) (by rfl) (listed' := #[true, true, true, true, true, true, true, true, true, true, true, true, true, true, true, true, true]) (by rfl) (fun _ => (opv_assign (by rfl))) (by rfl) rfl ?_
              refine da_done (by kernel_rfl) ?_
              refine jk_then ?_
              refine jc_seq ?_
              refine so_draw [] (by kernel_rfl) (by kernel_rfl) (by kernel_rfl) rfl (by rfl) (fun hap htm => ?_)
              refine da_any hap htm (i := 0) (by rfl) (by kernel_rfl) (by rfl) (listed' := #[true, false, false, false, false, false, false, false, false, false, false, false, false, false, false, false, false, false, false, false, false, false, false, false, false]) (by rfl) (fun _ => (opv_move (by rfl))) (by rfl) rfl ?_
              refine da_any hap htm (i := 1) (by rfl) (by kernel_rfl) (by rfl) (listed' := #[true, true, false, false, false, false, false, false, false, false, false, false, false, false, false, false, false, false, false, false, false, false, false, false, false]) (by rfl) (fun _ => (opv_move (by rfl))) (by rfl) rfl ?_
              refine da_any hap htm (i := 2) (by rfl) (by kernel_rfl) (by rfl) (listed' := #[true, true, true, false, false, false, false, false, false, false, false, false, false, false, false, false, false, false, false, false, false, false, false, false, false]) (by rfl) (fun _ => (opv_sne_false (by rfl) (by rfl) rfl)) (by rfl) rfl ?_
              refine da_any hap htm (i := 3) (by rfl) (by kernel_rfl) (by rfl) (listed' := #[true, true, true, true, false, false, false, false, false, false, false, false, false, false, false, false, false, false, false, false, false, false, false, false, false]) (by rfl) (fun _ => (opv_move (by rfl))) (by rfl) rfl ?_
              refine da_any hap htm (i := 4) (by rfl) (by kernel_rfl) (by rfl) (listed' := #[true, true, true, true, true, false, false, false, false, false, false, false, false, false, false, false, false, false, false, false, false, false, false, false, false]) (by rfl) (fun _ => (opv_move (by rfl))) (wtd_run rfl rfl (by rfl) rfl) rfl ?_
              refine da_any hap htm (i := 5) (by rfl) (by kernel_rfl) (by rfl) (listed' := #[true, true, true, true, true, true, false, false, false, false, false, false, false, false, false, false, false, false, false, false, false, false, false, false, false]) (by rfl) (fun _ => (opv_move (by rfl))) (wtd_run rfl rfl (by rfl) rfl) rfl ?_
              refine da_any hap htm (i := 6) (by rfl) (by kernel_rfl) (by rfl) (listed' := #[true, true, true, true, true, true, true, false, false, false, false, false, false, false, false, false, false, false, false, false, false, false, false, false, false]) (by rfl) (fun _ => (opv_cmp (b := false) (by rfl) (by rfl) (by exact congrArg some (by simp)))) (wtd_run rfl rfl (by rfl) rfl) rfl ?_
              refine da_any hap htm (i := 7) (by rfl) (by kernel_rfl) (by rfl) (listed' := #[true, true, true, true, true, true, true, true, false, false, false, false, false, false, false, false, false, false, false, false, false, false, false, false, false]) (by rfl) (fun _ => (sv_pick_f (by rfl) rfl (by rfl))) (by rfl) rfl ?_
              refine da_any hap htm (i := 8) (by rfl) (by kernel_rfl) (by rfl) (listed' := #[true, true, true, true, true, true, true, true, true, false, false, false, false, false, false, false, false, false, false, false, false, false, false, false, false]) (by rfl) (fun _ => (opv_move (by rfl))) (by rfl) rfl ?_
              refine da_any hap htm (i := 9) (by rfl) (by kernel_rfl) (by rfl) (listed' := #[true, true, true, true, true, true, true, true, true, true, false, false, false, false, false, false, false, false, false, false, false, false, false, false, false]) (by rfl) (fun _ => (opv_move (by rfl))) (wtd_run rfl rfl (by rfl) rfl) rfl ?_
              refine da_any hap htm (i := 10) (by rfl) (by kernel_rfl) (by rfl) (listed' := #[true, true, true, true, true, true, true, true, true, true, true, false, false, false, false, false, false, false, false, false, false, false, false, false, false]) (by rfl) (fun _ => (opv_move (by rfl))) (wtd_run rfl rfl (by rfl) rfl) rfl ?_
              refine da_any hap htm (i := 11) (by rfl) (by kernel_rfl) (by rfl) (listed' := #[true, true, true, true, true, true, true, true, true, true, true, true, false, false, false, false, false, false, false, false, false, false, false, false, false]) (by rfl) (fun _ => (opv_move (by rfl))) (wtd_run rfl rfl (by rfl) rfl) rfl ?_
              refine da_any hap htm (i := 12) (by rfl) (by kernel_rfl) (by rfl) (listed' := #[true, true, true, true, true, true, true, true, true, true, true, true, true, false, false, false, false, false, false, false, false, false, false, false, false]) (by rfl) (fun _ => (opv_indexAddr_slr (i := j) (by rfl) hs0 (by rfl) Try.underlying22 ti30 rfl hltj)) (wtd_run rfl rfl (by rfl) rfl) rfl ?_
              refine da_any hap htm (i := 13) (by rfl) (by kernel_rfl) (by rfl) (listed' := #[true, true, true, true, true, true, true, true, true, true, true, true, true, true, false, false, false, false, false, false, false, false, false, false, false]) (by rfl) (fun _ => (opv_fieldAddr (by rfl) fld30_1)) (wtd_run rfl rfl (by rfl) rfl) rfl ?_
              refine da_now [15, 22, 23, 24] hap htm (i := 14) (by rfl) (by kernel_rfl) (by rfl) (listed' := #[true, true, true, true, true, true, true, true, true, true, true, true, true, true, true, false, false, false, false, false, false, false, false, false, false]) (by rfl) (by kernel_rfl) (by kernel_rfl) (opv_load_slr (u := y) (fo := 1) (v := .int .i64 y.d) (by rfl) na3 rfl hs0 hy rfl) (wtd_run rfl rfl (by rfl) rfl) rfl ?_
              refine da_any hap htm (i := 16) (by rfl) (by kernel_rfl) (by rfl) (listed' := #[true, true, true, true, true, true, true, true, true, true, true, true, true, true, true, false, true, false, false, false, false, false, false, false, false]) (by rfl) (fun _ => (opv_move (by rfl))) (wtd_run rfl rfl (by rfl) rfl) rfl ?_
              refine da_any hap htm (i := 17) (by rfl) (by kernel_rfl) (by rfl) (listed' := #[true, true, true, true, true, true, true, true, true, true, true, true, true, true, true, false, true, true, false, false, false, false, false, false, false]) (by rfl) (fun _ => (opv_move (by rfl))) (wtd_run rfl rfl (by rfl) rfl) rfl ?_
              refine da_any hap htm (i := 18) (by rfl) (by kernel_rfl) (by rfl) (listed' := #[true, true, true, true, true, true, true, true, true, true, true, true, true, true, true, false, true, true, true, false, false, false, false, false, false]) (by rfl) (fun _ => (opv_move (by rfl))) (wtd_run rfl rfl (by rfl) rfl) rfl ?_
              refine da_any hap htm (i := 19) (by rfl) (by kernel_rfl) (by rfl) (listed' := #[true, true, true, true, true, true, true, true, true, true, true, true, true, true, true, false, true, true, true, true, false, false, false, false, false]) (by rfl) (fun _ => (opv_indexAddr_slr (i := j) (by rfl) hs0 (by rfl) Try.underlying22 ti30 rfl hltj)) (wtd_run rfl rfl (by rfl) rfl) rfl ?_
              refine da_any hap htm (i := 20) (by rfl) (by kernel_rfl) (by rfl) (listed' := #[true, true, true, true, true, true, true, true, true, true, true, true, true, true, true, false, true, true, true, true, true, false, false, false, false]) (by rfl) (fun _ => (opv_fieldAddr (by rfl) fld30_1)) (wtd_run rfl rfl (by rfl) rfl) rfl ?_
              refine da_free hap htm (i := 21) (by rfl) (by kernel_rfl) (by rfl) (listed' := #[true, true, true, true, true, true, true, true, true, true, true, true, true, true, true, false, true, true, true, true, true, true, false, false, false]) (by rfl) (fun w hw => Pks.cw (by repeat (first | exact Pks.nil _ | exact Pk.here _ | apply Pk.there | apply Pks.cons)) hw) (fun _ => (opv_load_slr (u := y) (fo := 1) (v := .int .i64 y.d) (by rfl) na3 rfl hs0 hy rfl)) (wtd_run rfl rfl (by rfl) rfl) rfl ?_
              refine da_eff (i := 15) (by rfl) (by kernel_rfl) (by rfl) (listed' := #[true, true, true, true, true, true, true, true, true, true, true, true, true, true, true, true, true, true, true, true, true, true, false, false, false]) (by rfl) (eff_callF [blk bb (.cells (ptrs ps).toArray 50 (0, 0)), grp (List.zipWith dkI ps ds)] (fl := []) (cl := []) (G := fun v Is' => v = .int .i64 (waitsD ds y.d) ∧ Is' = [blk bb (.cells (ptrs ps).toArray 50 (0, 0)), grp (List.zipWith dkI ps ds)]) (by rfl) (by rfl) tx15 (by repeat (first | exact Pks.nil _ | exact Pk.here _ | apply Pk.there | apply Pks.cons)) (by exact fun w1 hw1 => (waits_spec y.d hw1 hlp hld ).mono (fun _ _ ⟨hv, hst⟩ => ⟨_, ⟨hv, rfl⟩, hst⟩))) (fun _ _ _ _ hw => cw_nil hw) (wtd_run rfl rfl (by rfl) rfl) rfl ?_
              rintro _ _ ⟨_, ⟨rfl, rfl⟩, rfl⟩
              refine da_eff (i := 22) (by rfl) (by kernel_rfl) (by rfl) (listed' := #[true, true, true, true, true, true, true, true, true, true, true, true, true, true, true, true, true, true, true, true, true, true, true, false, false]) (by rfl) (eff_callF [blk bk (.cells #[dv] 73 (0, 0)), own dv 74 1 12 (rps.flatMap pc), grp (List.zipWith rdI rps ds)] (fl := []) (cl := []) (G := fun v Is' => v = .int .i64 (waitsD ds y.d) ∧ Is' = [blk bk (.cells #[dv] 73 (0, 0)), own dv 74 1 12 (rps.flatMap pc), grp (List.zipWith rdI rps ds)]) (by rfl) (by rfl) tx22 (by repeat (first | exact Pks.nil _ | exact Pk.here _ | apply Pk.there | apply Pks.cons)) (by exact fun w1 hw1 => (rwaits_spec y.d hw1 hlr hld ).mono (fun _ _ ⟨hv, hst⟩ => ⟨_, ⟨hv, rfl⟩, hst⟩))) (fun _ _ _ _ hw => cw_nil hw) (wtd_run rfl rfl (by rfl) rfl) rfl ?_
              rintro _ _ ⟨_, ⟨rfl, rfl⟩, rfl⟩
              refine da_any hap htm (i := 23) (by rfl) (by kernel_rfl) (by rfl) (listed' := #[true, true, true, true, true, true, true, true, true, true, true, true, true, true, true, true, true, true, true, true, true, true, true, true, false]) (by rfl) (fun _ => (opv_cmp (b := false) (by rfl) (by rfl) (by exact congrArg some (by simp)))) (wtd_run rfl rfl (by rfl) rfl) rfl ?_
              refine da_any hap htm (i := 24) (by rfl) (by kernel_rfl) (by rfl) (listed' := #[true, true, true, true, true, true, true, true, true, true, true, true, true, true, true, true, true, true, true, true, true, true, true, true, true]) (by rfl) (fun _ => (sv_pick_f (by rfl) rfl (by rfl))) (by rfl) rfl ?_
              refine da_done (by kernel_rfl) ?_
              refine jk_then ?_
              refine sc_false (by rfl) rfl ?_
              refine jc_skip ?_
              refine jk_block ?_
              refine jk_then ?_
              refine sc_region ?_
              refine so_pure (opv_move (by rfl)) (by rfl) rfl ?_
              refine so_pure (opv_add (by rfl) (by rfl) (wrap64_ok (by omega))) (by rfl) rfl ?_
              refine so_pure (opv_assign (by rfl)) (by rfl) rfl ?_
              refine jo_nil ?_
              refine jk_round (j + 1) ⟨by omega, trivial⟩ (by show i + 1 - (j + 1) < i + 1 - j; omega) ⟨rfl, rfl, rfl, rfl, rfl, trivial⟩ (fun w hw => ?_)
              show St _ _ [blk bb (.cells (ptrs ps).toArray 50 (0, 0)), grp (List.zipWith dkI ps ds), blk bk (.cells #[dv] 73 (0, 0)), own dv 74 1 12 (rps.flatMap pc), grp (List.zipWith rdI rps ds)] _
              exact St.sel hw (by repeat (first | exact Pks.nil _ | exact Pk.here _ | apply Pk.there | apply Pks.cons))
            · first | have p40 := of_decide_eq_true h40 | have p40 := of_decide_eq_false h40 | have p40 := ndT h40 | have p40 := ndF h40 | have p40 := nbT h40 | have p40 := nbF h40 | have p40 := h40
              refine sc_false (by rfl) h40 ?_
              refine jc_exit ?_
              refine jk_then_exit ?_
              refine jk_then_exit ?_
              refine jk_block_exit ?_
              refine jk_block ?_
              refine jk_then ?_
              refine sc_region ?_
              refine so_pure (opv_move (by rfl)) (by rfl) rfl ?_
              refine so_pure (opv_add (by rfl) (by rfl) (wrap64_ok (by omega))) (by rfl) rfl ?_
              refine so_pure (opv_assign (by rfl)) (by rfl) rfl ?_
              refine jo_nil ?_
              refine jk_round (i + 1, ps, rps, ds) ⟨by omega, hlp, hlr, hld, hwb, hwn⟩ (by show n0 - (i + 1) < n0 - i; omega) ⟨rfl, rfl, rfl, rfl, trivial⟩ (fun w hw => ?_)
              show St _ _ [blk bb (.cells (ptrs (ps)).toArray 50 (0, 0)), grp (List.zipWith dkI (ps) (ds)), blk bk (.cells #[dv] 73 (0, 0)), own dv 74 1 12 ((rps).flatMap pc), grp (List.zipWith rdI (rps) (ds))] _
              exact St.sel hw (by repeat (first | exact Pks.nil _ | exact Pk.here _ | apply Pk.there | apply Pks.cons))
    · first | have p10 := of_decide_eq_true h10 | have p10 := of_decide_eq_false h10 | have p10 := ndT h10 | have p10 := ndF h10 | have p10 := nbT h10 | have p10 := nbF h10 | have p10 := h10
      refine sc_false (by rfl) h10 ?_
      refine jc_exit ?_
      refine jk_then_exit ?_
      refine jk_then_exit ?_
      refine jk_block_exit ?_
      refine jk_then ?_
      refine jc_seq ?_
      refine sc_region ?_
      refine so_eff (eff_call0 (G := fun u New => u = .bool true ∧ New = []) (by rfl) (by rfl) tx8 (by exact fun w1 hw1 => (live_spec w1).mono (fun _ _ ⟨hv, hst⟩ => ⟨[], ⟨hv, rfl⟩, hst⟩))) (by rfl) rfl ?_
      rintro _ _ ⟨_, ⟨rfl, rfl⟩, rfl⟩
      refine so_pure (opv_assign (by rfl)) (by rfl) rfl ?_
      refine jo_nil ?_
      refine jk_then ?_
      refine jc_ret ?_
      refine jk_fn_ret rfl rfl (by rfl) (fun w hw => ?_)
      exact ⟨rfl, hw.forget⟩
end Go.Disks
