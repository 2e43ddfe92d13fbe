/- A part of a proof for the laws of the seat Ytnjhnpfippcacaa; it has no conditions of its own. -/
import Derived.Test.YtnjhnpfippcacaaPW14
namespace Go.Pins
open Go Go.SL Go.Proofs
set_option maxHeartbeats 4000000 in
theorem same_locs (w : World) (A B : Option Addr) (n m c c2 : Nat) (xs ys : List Loc) (hs : SlR w 57 2 Loc.cells A n xs) (ht0 : SlR w 57 2 Loc.cells B m ys) (hmax : n ≤ 9223372036854775806) : Does Try.prog 31 #[.slice A n c, .slice B m c2] w (fun v w' => v = .bool (decide (xs = ys)) ∧ St w Emp [] w') := by
  refine fn_body (fn := Try.f31) Try.func31 rfl [(0, .slice A n c), (1, .slice B m c2)] (by exact ⟨rfl, rfl, trivial⟩) rfl (St.start w) ?_
  refine jc_seq ?_
  refine sc_region ?_
  refine so_pure (opv_assign (by rfl)) (by rfl) rfl ?_
  refine jo_nil ?_
  refine jk_then ?_
  refine jc_seq ?_
  refine jc_seq ?_
  refine sc_region ?_
  refine so_pure (opv_move (by rfl)) (by rfl) rfl ?_
  refine so_pure (opv_len_slice (by rfl) Try.underlying31) (by rfl) rfl ?_
  refine so_pure (opv_move (by rfl)) (by rfl) rfl ?_
  refine so_pure (opv_len_slice (by rfl) Try.underlying31) (by rfl) rfl ?_
  refine so_pure (opv_cmp (by rfl) (by rfl) (by rfl)) (by rfl) rfl ?_
  refine jo_nil ?_
  refine jk_then ?_
  refine sk_split (x := 10) (by rfl) (fun h5 => ?_) (fun h5 => ?_)
  · first | have p5 := of_decide_eq_true h5 | have p5 := of_decide_eq_false h5 | have p5 := ndT h5 | have p5 := ndF h5 | have p5 := nbT h5 | have p5 := nbF h5 | have p5 := h5
    refine sc_true (by rfl) h5 ?_
    refine jc_seq ?_
    refine sc_region ?_
    refine so_pure (opv_assign (by rfl)) (by rfl) rfl ?_
    refine jo_nil ?_
    refine jk_then ?_
    refine jc_ret ?_
    refine jk_then_ret ?_
    refine jk_fn_ret rfl rfl (by rfl) (fun w hw => ?_)
    exact ⟨congrArg Value.bool (decide_eq_false (fun e => p5 (by rw [hs.1, ht0.1, e]))).symm, hw.forget⟩
  · first | have p5 := of_decide_eq_true h5 | have p5 := of_decide_eq_false h5 | have p5 := ndT h5 | have p5 := ndF h5 | have p5 := nbT h5 | have p5 := nbF h5 | have p5 := h5
    refine sc_false (by rfl) h5 ?_
    refine jc_skip ?_
    refine jk_then ?_
    refine jc_seq ?_
    refine jc_seq ?_
    refine sc_region ?_
    refine so_pure (opv_assign (by rfl)) (by rfl) rfl ?_
    refine jo_nil ?_
    refine jk_then ?_
    refine jc_block ?_
    refine jc_loop (σ := Nat) (fun k => [(0, .slice A n c), (1, .slice B m c2), (5, .int .i64 k)]) (fun k => []) (fun k => (k ≤ n) ∧ (xs.take k = ys.take k)) (fun k => n - k) 0 ⟨Nat.zero_le _, rfl⟩ ⟨rfl, rfl, rfl, trivial⟩ (fun w hw => St.sel hw (by repeat (first | exact Pks.nil _ | exact Pk.here _ | apply Pk.there | apply Pks.cons))) ?_
    rintro k ⟨hk, ht⟩
    show Jc _ _ [(0, .slice A n c), (1, .slice B m c2), (5, .int .i64 k)] [] _
    refine jc_seq ?_
    refine jc_seq ?_
    refine sc_region ?_
    refine so_pure (opv_move (by rfl)) (by rfl) rfl ?_
    refine so_pure (opv_move (by rfl)) (by rfl) rfl ?_
    refine so_pure (opv_len_slice (by rfl) Try.underlying31) (by rfl) rfl ?_
    refine so_pure (opv_cmp (by rfl) (by rfl) (by rfl)) (by rfl) rfl ?_
    refine jo_nil ?_
    refine jk_then ?_
    refine sk_split (x := 14) (by rfl) (fun h9 => ?_) (fun h9 => ?_)
    · first | have p9 := of_decide_eq_true h9 | have p9 := of_decide_eq_false h9 | have p9 := ndT h9 | have p9 := ndF h9 | have p9 := nbT h9 | have p9 := nbF h9 | have p9 := h9
      refine sc_true (by rfl) h9 ?_
      refine jc_skip ?_
      refine jk_then ?_
      refine jc_seq ?_
      refine jc_block ?_
      refine jc_seq ?_
      have hlt : k < n := by omega
      have hlt2 : k < m := by omega
      obtain ⟨_, _, _, _, x, _, _, hx, _⟩ := hs.get hlt
      obtain ⟨_, _, _, _, y, _, _, hy, _⟩ := ht0.get hlt2
      refine so_draw [] (by kernel_rfl) (by kernel_rfl) (by kernel_rfl) rfl (by rfl) (fun hap htm => ?_)
      refine da_any hap htm (i := 0) (by rfl) (by kernel_rfl) (by rfl) (listed' := #[true, false, false, false, false, false, false, false, false]) (by rfl) (fun _ => (opv_move (by rfl))) (by rfl) rfl ?_
      refine da_any hap htm (i := 1) (by rfl) (by kernel_rfl) (by rfl) (listed' := #[true, true, false, false, false, false, false, false, false]) (by rfl) (fun _ => (opv_move (by rfl))) (by rfl) rfl ?_
      refine da_any hap htm (i := 2) (by rfl) (by kernel_rfl) (by rfl) (listed' := #[true, true, true, false, false, false, false, false, false]) (by rfl) (fun _ => (opv_indexAddr_slr (i := k) (by rfl) hs (by rfl) Try.underlying31 ti57 rfl hlt)) (by rfl) rfl ?_
      refine da_now [8] hap htm (i := 3) (by rfl) (by kernel_rfl) (by rfl) (listed' := #[true, true, true, true, false, false, false, false, false]) (by rfl) (by kernel_rfl) (by kernel_rfl) (opv_load_agg_slr (u := x) Loc.cells_len (by rfl) ag57 ti57 rfl hs hx) (by rfl) rfl ?_
      refine da_any hap htm (i := 4) (by rfl) (by kernel_rfl) (by rfl) (listed' := #[true, true, true, true, true, false, false, false, false]) (by rfl) (fun _ => (opv_move (by rfl))) (by rfl) rfl ?_
      refine da_any hap htm (i := 5) (by rfl) (by kernel_rfl) (by rfl) (listed' := #[true, true, true, true, true, true, false, false, false]) (by rfl) (fun _ => (opv_move (by rfl))) (by rfl) rfl ?_
      refine da_any hap htm (i := 6) (by rfl) (by kernel_rfl) (by rfl) (listed' := #[true, true, true, true, true, true, true, false, false]) (by rfl) (fun _ => (opv_indexAddr_slr (i := k) (by rfl) ht0 (by rfl) Try.underlying31 ti57 rfl hlt2)) (by rfl) rfl ?_
      refine da_now [8] hap htm (i := 7) (by rfl) (by kernel_rfl) (by rfl) (listed' := #[true, true, true, true, true, true, true, true, false]) (by rfl) (by kernel_rfl) (by kernel_rfl) (opv_load_agg_slr (u := y) Loc.cells_len (by rfl) ag57 ti57 rfl ht0 hy) (by rfl) rfl ?_
      refine da_any hap htm (i := 8) (by rfl) (by kernel_rfl) (by rfl) (listed' := #[true, true, true, true, true, true, true, true, true]) (by rfl) (fun _ => (opv_two_ne (a := (x.disk, x.slot)) (b := (y.disk, y.slot)) two57 guard57 (by rfl) (by rfl))) (by rfl) rfl ?_
      refine da_done (by kernel_rfl) ?_
      refine jk_then ?_
      refine sk_split (x := 25) (by rfl) (fun h16 => ?_) (fun h16 => ?_)
      · first | have p16 := of_decide_eq_true h16 | have p16 := of_decide_eq_false h16 | have p16 := ndT h16 | have p16 := ndF h16 | have p16 := nbT h16 | have p16 := nbF h16 | have p16 := h16
        refine sc_true (by rfl) h16 ?_
        refine jc_seq ?_
        refine sc_region ?_
        refine so_pure (opv_assign (by rfl)) (by rfl) rfl ?_
        refine jo_nil ?_
        refine jk_then ?_
        refine jc_ret ?_
        refine jk_block_ret ?_
        refine jk_then_ret ?_
        refine jk_then_ret ?_
        refine jk_block_ret ?_
        refine jk_then_ret ?_
        refine jk_fn_ret rfl rfl (by rfl) (fun w hw => ?_)
        exact ⟨congrArg Value.bool (decide_eq_false (ne_of_get hx hy (loc_ne (by simpa using p16)))).symm, hw.forget⟩
      · first | have p16 := of_decide_eq_true h16 | have p16 := of_decide_eq_false h16 | have p16 := ndT h16 | have p16 := ndF h16 | have p16 := nbT h16 | have p16 := nbF h16 | have p16 := h16
        refine sc_false (by rfl) h16 ?_
        refine jc_skip ?_
        refine jk_block ?_
        refine jk_then ?_
        refine sc_region ?_
        refine so_pure (opv_move (by rfl)) (by rfl) rfl ?_
        refine so_pure (opv_add (by rfl) (by rfl) (wrap64_ok (by omega))) (by rfl) rfl ?_
        refine so_pure (opv_assign (by rfl)) (by rfl) rfl ?_
        refine jo_nil ?_
        refine jk_round (k + 1) ⟨by omega, take_step ht hx hy (loc_eq (by simpa using p16))⟩ (by show n - (k + 1) < n - k; omega) ⟨rfl, rfl, rfl, trivial⟩ (fun w hw => ?_)
        show St _ _ [] _
        exact St.sel hw (by repeat (first | exact Pks.nil _ | exact Pk.here _ | apply Pk.there | apply Pks.cons))
    · first | have p9 := of_decide_eq_true h9 | have p9 := of_decide_eq_false h9 | have p9 := ndT h9 | have p9 := ndF h9 | have p9 := nbT h9 | have p9 := nbF h9 | have p9 := h9
      refine sc_false (by rfl) h9 ?_
      refine jc_exit ?_
      refine jk_then_exit ?_
      refine jk_then_exit ?_
      refine jk_block_exit ?_
      refine jk_then ?_
      refine jc_seq ?_
      refine sc_region ?_
      refine so_pure (opv_assign (by rfl)) (by rfl) rfl ?_
      refine jo_nil ?_
      refine jk_then ?_
      refine jc_ret ?_
      refine jk_fn_ret rfl rfl (by rfl) (fun w hw => ?_)
      exact ⟨congrArg Value.bool (decide_eq_true (eq_of_take ht (by have := hs.1; omega) (by have := ht0.1; have := p9; omega))).symm, hw.forget⟩
set_option maxHeartbeats 4000000 in
theorem same_vol (w : World) (x y : Vol) (r q : Rec) (hx : Vr w x r) (hy : Vr w y q) (hmax : x.ln ≤ 9223372036854775806) : Does Try.prog 26 #[.agg #[.int .i64 x.id, .int .i64 x.gen, .int .i64 x.size, .slice x.lA x.ln x.lc], .agg #[.int .i64 y.id, .int .i64 y.gen, .int .i64 y.size, .slice y.lA y.ln y.lc]] w (fun v w' => v = .bool (decide (r = q)) ∧ St w Emp [] w') := by
  refine fn_body (fn := Try.f26) Try.func26 rfl [(0, .agg #[.int .i64 x.id, .int .i64 x.gen, .int .i64 x.size, .slice x.lA x.ln x.lc]), (1, .agg #[.int .i64 y.id, .int .i64 y.gen, .int .i64 y.size, .slice y.lA y.ln y.lc])] (by exact ⟨rfl, rfl, trivial⟩) rfl (St.start w) ?_
  refine jc_seq ?_
  refine sc_region ?_
  refine so_eff (eff_box (by rfl) rfl) (by rfl) rfl ?_
  rintro _ _ ⟨b2, rfl, rfl⟩
  refine so_eff (eff_box (by rfl) rfl) (by rfl) rfl ?_
  rintro _ _ ⟨b3, rfl, rfl⟩
  refine so_pure (opv_assign (by rfl)) (by rfl) rfl ?_
  refine jo_nil ?_
  refine jk_then ?_
  refine jc_seq ?_
  refine sc_region ?_
  refine so_pure (opv_fieldAddr (by rfl) fld33_0) (by rfl) rfl ?_
  refine so_pure (opv_load (by rfl) na3 (rd_pk (by repeat (first | exact Pk.here _ | apply Pk.there))) (by rfl)) (by rfl) rfl ?_
  refine so_pure (opv_fieldAddr (by rfl) fld33_0) (by rfl) rfl ?_
  refine so_pure (opv_load (by rfl) na3 (rd_pk (by repeat (first | exact Pk.here _ | apply Pk.there))) (by rfl)) (by rfl) rfl ?_
  refine so_pure (opv_cmp (by rfl) (by rfl) (by rfl)) (by rfl) rfl ?_
  refine so_pure (opv_move (by rfl)) (by rfl) rfl ?_
  refine sk_split (x := 10) (by rfl) (fun h9 => ?_) (fun h9 => ?_)
  · first | have p9 := of_decide_eq_true h9 | have p9 := of_decide_eq_false h9 | have p9 := ndT h9 | have p9 := ndF h9 | have p9 := nbT h9 | have p9 := nbF h9 | have p9 := h9
    refine so_pure (opv_fieldAddr (by rfl) fld33_1) (wtd_run rfl rfl (by rfl) h9) rfl ?_
    refine so_pure (opv_load (by rfl) na3 (rd_pk (by repeat (first | exact Pk.here _ | apply Pk.there))) (by rfl)) (wtd_run rfl rfl (by rfl) h9) rfl ?_
    refine so_pure (opv_fieldAddr (by rfl) fld33_1) (wtd_run rfl rfl (by rfl) h9) rfl ?_
    refine so_pure (opv_load (by rfl) na3 (rd_pk (by repeat (first | exact Pk.here _ | apply Pk.there))) (by rfl)) (wtd_run rfl rfl (by rfl) h9) rfl ?_
    refine so_pure (opv_cmp (by rfl) (by rfl) (by rfl)) (wtd_run rfl rfl (by rfl) h9) rfl ?_
    refine so_pure (sv_pick_t (by rfl) h9 (by rfl)) (by rfl) rfl ?_
    refine so_pure (opv_move (by rfl)) (by rfl) rfl ?_
    refine sk_split (x := 17) (by rfl) (fun h14 => ?_) (fun h14 => ?_)
    · first | have p14 := of_decide_eq_true h14 | have p14 := of_decide_eq_false h14 | have p14 := ndT h14 | have p14 := ndF h14 | have p14 := nbT h14 | have p14 := nbF h14 | have p14 := h14
      refine so_pure (opv_fieldAddr (by rfl) fld33_2) (wtd_run rfl rfl (by rfl) h14) rfl ?_
      refine so_pure (opv_load (by rfl) na3 (rd_pk (by repeat (first | exact Pk.here _ | apply Pk.there))) (by rfl)) (wtd_run rfl rfl (by rfl) h14) rfl ?_
      refine so_pure (opv_fieldAddr (by rfl) fld33_2) (wtd_run rfl rfl (by rfl) h14) rfl ?_
      refine so_pure (opv_load (by rfl) na3 (rd_pk (by repeat (first | exact Pk.here _ | apply Pk.there))) (by rfl)) (wtd_run rfl rfl (by rfl) h14) rfl ?_
      refine so_pure (opv_cmp (by rfl) (by rfl) (by rfl)) (wtd_run rfl rfl (by rfl) h14) rfl ?_
      refine so_pure (sv_pick_t (by rfl) h14 (by rfl)) (by rfl) rfl ?_
      refine so_pure (opv_move (by rfl)) (by rfl) rfl ?_
      refine sk_split (x := 24) (by rfl) (fun h19 => ?_) (fun h19 => ?_)
      · first | have p19 := of_decide_eq_true h19 | have p19 := of_decide_eq_false h19 | have p19 := ndT h19 | have p19 := ndF h19 | have p19 := nbT h19 | have p19 := nbF h19 | have p19 := h19
        refine so_pure (opv_fieldAddr (by rfl) fld33_3) (wtd_run rfl rfl (by rfl) h19) rfl ?_
        refine so_pure (opv_load (by rfl) na31 (rd_pk (by repeat (first | exact Pk.here _ | apply Pk.there))) (by rfl)) (wtd_run rfl rfl (by rfl) h19) rfl ?_
        refine so_pure (opv_fieldAddr (by rfl) fld33_3) (wtd_run rfl rfl (by rfl) h19) rfl ?_
        refine so_pure (opv_load (by rfl) na31 (rd_pk (by repeat (first | exact Pk.here _ | apply Pk.there))) (by rfl)) (wtd_run rfl rfl (by rfl) h19) rfl ?_
        refine so_eff (eff_call0 (G := fun v New => v = .bool (decide (r.locs = q.locs)) ∧ New = []) (by rfl) (by rfl) tx31 (by exact fun w1 hw1 => (same_locs w1 x.lA y.lA x.ln y.ln x.lc y.lc r.locs q.locs (hx.2.2.2.keepSt hw1) (hy.2.2.2.keepSt hw1) hmax).mono (fun _ _ ⟨hv, hst⟩ => ⟨[], ⟨hv, rfl⟩, hst⟩))) (wtd_run rfl rfl (by rfl) h19) rfl ?_
        rintro _ _ ⟨_, ⟨rfl, rfl⟩, rfl⟩
        refine so_pure (sv_pick_t (by rfl) h19 (by rfl)) (by rfl) rfl ?_
        refine so_pure (opv_assign (by rfl)) (by rfl) rfl ?_
        refine jo_nil ?_
        refine jk_then ?_
        refine jc_ret ?_
        refine jk_fn_ret rfl rfl (by rfl) (fun w hw => ?_)
        exact ⟨congrArg Value.bool (rec_eq (by rw [← hx.1, ← hy.1]; exact p9) (by rw [← hx.2.1, ← hy.2.1]; exact p14) (by rw [← hx.2.2.1, ← hy.2.2.1]; exact p19)), hw.forget⟩
      · first | have p19 := of_decide_eq_true h19 | have p19 := of_decide_eq_false h19 | have p19 := ndT h19 | have p19 := ndF h19 | have p19 := nbT h19 | have p19 := nbF h19 | have p19 := h19
        refine so_skip (wtd_not rfl rfl (by rfl) h19) rfl ?_
        refine so_skip (wtd_not rfl rfl (by rfl) h19) rfl ?_
        refine so_skip (wtd_not rfl rfl (by rfl) h19) rfl ?_
        refine so_skip (wtd_not rfl rfl (by rfl) h19) rfl ?_
        refine so_skip (wtd_not rfl rfl (by rfl) h19) rfl ?_
        refine so_pure (sv_pick_f (by rfl) h19 (by rfl)) (by rfl) rfl ?_
        refine so_pure (opv_assign (by rfl)) (by rfl) rfl ?_
        refine jo_nil ?_
        refine jk_then ?_
        refine jc_ret ?_
        refine jk_fn_ret rfl rfl (by rfl) (fun w hw => ?_)
        exact ⟨(congrArg Value.bool ((decide_eq_false (rec_ne (.inr (.inr (.inl (by rw [← hx.2.2.1, ← hy.2.2.1]; exact p19)))))).trans (by first | exact h19.symm | simp [h19])).symm), hw.forget⟩
    · first | have p14 := of_decide_eq_true h14 | have p14 := of_decide_eq_false h14 | have p14 := ndT h14 | have p14 := ndF h14 | have p14 := nbT h14 | have p14 := nbF h14 | have p14 := h14
      refine so_skip (wtd_not rfl rfl (by rfl) h14) rfl ?_
      refine so_skip (wtd_not rfl rfl (by rfl) h14) rfl ?_
      refine so_skip (wtd_not rfl rfl (by rfl) h14) rfl ?_
      refine so_skip (wtd_not rfl rfl (by rfl) h14) rfl ?_
      refine so_skip (wtd_not rfl rfl (by rfl) h14) rfl ?_
      refine so_pure (sv_pick_f (by rfl) h14 (by rfl)) (by rfl) rfl ?_
      refine so_pure (opv_move (by rfl)) (by rfl) rfl ?_
      refine so_skip (wtd_not rfl rfl (by rfl) rfl) rfl ?_
      refine so_skip (wtd_not rfl rfl (by rfl) rfl) rfl ?_
      refine so_skip (wtd_not rfl rfl (by rfl) rfl) rfl ?_
      refine so_skip (wtd_not rfl rfl (by rfl) rfl) rfl ?_
      refine so_skip (wtd_not rfl rfl (by rfl) rfl) rfl ?_
      refine so_pure (sv_pick_f (by rfl) rfl (by rfl)) (by rfl) rfl ?_
      refine so_pure (opv_assign (by rfl)) (by rfl) rfl ?_
      refine jo_nil ?_
      refine jk_then ?_
      refine jc_ret ?_
      refine jk_fn_ret rfl rfl (by rfl) (fun w hw => ?_)
      exact ⟨(congrArg Value.bool ((decide_eq_false (rec_ne (.inr (.inl (by rw [← hx.2.1, ← hy.2.1]; exact p14))))).trans (by first | exact h14.symm | simp [h14])).symm), hw.forget⟩
  · first | have p9 := of_decide_eq_true h9 | have p9 := of_decide_eq_false h9 | have p9 := ndT h9 | have p9 := ndF h9 | have p9 := nbT h9 | have p9 := nbF h9 | have p9 := h9
    refine so_skip (wtd_not rfl rfl (by rfl) h9) rfl ?_
    refine so_skip (wtd_not rfl rfl (by rfl) h9) rfl ?_
    refine so_skip (wtd_not rfl rfl (by rfl) h9) rfl ?_
    refine so_skip (wtd_not rfl rfl (by rfl) h9) rfl ?_
    refine so_skip (wtd_not rfl rfl (by rfl) h9) rfl ?_
    refine so_pure (sv_pick_f (by rfl) h9 (by rfl)) (by rfl) rfl ?_
    refine so_pure (opv_move (by rfl)) (by rfl) rfl ?_
    refine so_skip (wtd_not rfl rfl (by rfl) rfl) rfl ?_
    refine so_skip (wtd_not rfl rfl (by rfl) rfl) rfl ?_
    refine so_skip (wtd_not rfl rfl (by rfl) rfl) rfl ?_
    refine so_skip (wtd_not rfl rfl (by rfl) rfl) rfl ?_
    refine so_skip (wtd_not rfl rfl (by rfl) rfl) rfl ?_
    refine so_pure (sv_pick_f (by rfl) rfl (by rfl)) (by rfl) rfl ?_
    refine so_pure (opv_move (by rfl)) (by rfl) rfl ?_
    refine so_skip (wtd_not rfl rfl (by rfl) rfl) rfl ?_
    refine so_skip (wtd_not rfl rfl (by rfl) rfl) rfl ?_
    refine so_skip (wtd_not rfl rfl (by rfl) rfl) rfl ?_
    refine so_skip (wtd_not rfl rfl (by rfl) rfl) rfl ?_
    refine so_skip (wtd_not rfl rfl (by rfl) rfl) rfl ?_
    refine so_pure (sv_pick_f (by rfl) rfl (by rfl)) (by rfl) rfl ?_
    refine so_pure (opv_assign (by rfl)) (by rfl) rfl ?_
    refine jo_nil ?_
    refine jk_then ?_
    refine jc_ret ?_
    refine jk_fn_ret rfl rfl (by rfl) (fun w hw => ?_)
    exact ⟨(congrArg Value.bool ((decide_eq_false (rec_ne (.inl (by rw [← hx.1, ← hy.1]; exact p9)))).trans (by first | exact h9.symm | simp [h9])).symm), hw.forget⟩
set_option maxHeartbeats 4000000 in
theorem same_vols (w : World) (A B : Option Addr) (n m c c2 : Nat) (xs ys : List Vol) (rs qs : List Rec) (hs : SlR w 33 4 Vol.cells A n xs) (ht0 : SlR w 33 4 Vol.cells B m ys) (hr : All2 (Vr w) xs rs) (hq : All2 (Vr w) ys qs) (hb : ∀ x ∈ xs, x.ln ≤ 9223372036854775806) (hmax : n ≤ 9223372036854775806) : Does Try.prog 16 #[.slice A n c, .slice B m c2] w (fun v w' => v = .bool (decide (rs = qs)) ∧ St w Emp [] w') := by
  refine fn_body (fn := Try.f16) Try.func16 rfl [(0, .slice A n c), (1, .slice B m c2)] (by exact ⟨rfl, rfl, trivial⟩) rfl (St.start w) ?_
  refine jc_seq ?_
  refine sc_region ?_
  refine so_pure (opv_assign (by rfl)) (by rfl) rfl ?_
  refine jo_nil ?_
  refine jk_then ?_
  refine jc_seq ?_
  refine jc_seq ?_
  refine sc_region ?_
  refine so_pure (opv_move (by rfl)) (by rfl) rfl ?_
  refine so_pure (opv_len_slice (by rfl) Try.underlying28) (by rfl) rfl ?_
  refine so_pure (opv_move (by rfl)) (by rfl) rfl ?_
  refine so_pure (opv_len_slice (by rfl) Try.underlying28) (by rfl) rfl ?_
  refine so_pure (opv_cmp (by rfl) (by rfl) (by rfl)) (by rfl) rfl ?_
  refine jo_nil ?_
  refine jk_then ?_
  refine sk_split (x := 10) (by rfl) (fun h5 => ?_) (fun h5 => ?_)
  · first | have p5 := of_decide_eq_true h5 | have p5 := of_decide_eq_false h5 | have p5 := ndT h5 | have p5 := ndF h5 | have p5 := nbT h5 | have p5 := nbF h5 | have p5 := h5
    refine sc_true (by rfl) h5 ?_
    refine jc_seq ?_
    refine sc_region ?_
    refine so_pure (opv_assign (by rfl)) (by rfl) rfl ?_
    refine jo_nil ?_
    refine jk_then ?_
    refine jc_ret ?_
    refine jk_then_ret ?_
    refine jk_fn_ret rfl rfl (by rfl) (fun w hw => ?_)
    exact ⟨congrArg Value.bool (decide_eq_false (fun e => p5 (by rw [hs.1, ht0.1, hr.len, hq.len, e]))).symm, hw.forget⟩
  · first | have p5 := of_decide_eq_true h5 | have p5 := of_decide_eq_false h5 | have p5 := ndT h5 | have p5 := ndF h5 | have p5 := nbT h5 | have p5 := nbF h5 | have p5 := h5
    refine sc_false (by rfl) h5 ?_
    refine jc_skip ?_
    refine jk_then ?_
    refine jc_seq ?_
    refine jc_seq ?_
    refine sc_region ?_
    refine so_pure (opv_assign (by rfl)) (by rfl) rfl ?_
    refine jo_nil ?_
    refine jk_then ?_
    refine jc_block ?_
    refine jc_loop (σ := Nat) (fun k => [(0, .slice A n c), (1, .slice B m c2), (5, .int .i64 k)]) (fun k => []) (fun k => (k ≤ n) ∧ (rs.take k = qs.take k)) (fun k => n - k) 0 ⟨Nat.zero_le _, rfl⟩ ⟨rfl, rfl, rfl, trivial⟩ (fun w hw => St.sel hw (by repeat (first | exact Pks.nil _ | exact Pk.here _ | apply Pk.there | apply Pks.cons))) ?_
    rintro k ⟨hk, ht⟩
    show Jc _ _ [(0, .slice A n c), (1, .slice B m c2), (5, .int .i64 k)] [] _
    refine jc_seq ?_
    refine jc_seq ?_
    refine sc_region ?_
    refine so_pure (opv_move (by rfl)) (by rfl) rfl ?_
    refine so_pure (opv_move (by rfl)) (by rfl) rfl ?_
    refine so_pure (opv_len_slice (by rfl) Try.underlying28) (by rfl) rfl ?_
    refine so_pure (opv_cmp (by rfl) (by rfl) (by rfl)) (by rfl) rfl ?_
    refine jo_nil ?_
    refine jk_then ?_
    refine sk_split (x := 14) (by rfl) (fun h9 => ?_) (fun h9 => ?_)
    · first | have p9 := of_decide_eq_true h9 | have p9 := of_decide_eq_false h9 | have p9 := ndT h9 | have p9 := ndF h9 | have p9 := nbT h9 | have p9 := nbF h9 | have p9 := h9
      refine sc_true (by rfl) h9 ?_
      refine jc_skip ?_
      refine jk_then ?_
      refine jc_seq ?_
      refine jc_block ?_
      refine jc_seq ?_
      have hlt : k < n := by omega
      have hlt2 : k < m := by omega
      obtain ⟨_, _, _, _, x, _, _, hx, _⟩ := hs.get hlt
      obtain ⟨_, _, _, _, y, _, _, hy, _⟩ := ht0.get hlt2
      obtain ⟨r, hr1, hr2⟩ := hr.get hx
      obtain ⟨q, hq1, hq2⟩ := hq.get hy
      refine so_draw [] (by kernel_rfl) (by kernel_rfl) (by kernel_rfl) rfl (by rfl) (fun hap htm => ?_)
      refine da_any hap htm (i := 0) (by rfl) (by kernel_rfl) (by rfl) (listed' := #[true, false, false, false, false, false, false, false, false, false]) (by rfl) (fun _ => (opv_move (by rfl))) (by rfl) rfl ?_
      refine da_any hap htm (i := 1) (by rfl) (by kernel_rfl) (by rfl) (listed' := #[true, true, false, false, false, false, false, false, false, false]) (by rfl) (fun _ => (opv_move (by rfl))) (by rfl) rfl ?_
      refine da_any hap htm (i := 2) (by rfl) (by kernel_rfl) (by rfl) (listed' := #[true, true, true, false, false, false, false, false, false, false]) (by rfl) (fun _ => (opv_indexAddr_slr (i := k) (by rfl) hs (by rfl) Try.underlying28 ti33 rfl hlt)) (by rfl) rfl ?_
      refine da_now [8, 9] hap htm (i := 3) (by rfl) (by kernel_rfl) (by rfl) (listed' := #[true, true, true, true, false, false, false, false, false, false]) (by rfl) (by kernel_rfl) (by kernel_rfl) (opv_load_agg_slr (u := x) Vol.cells_len (by rfl) ag33 ti33 rfl hs hx) (by rfl) rfl ?_
      refine da_any hap htm (i := 4) (by rfl) (by kernel_rfl) (by rfl) (listed' := #[true, true, true, true, true, false, false, false, false, false]) (by rfl) (fun _ => (opv_move (by rfl))) (by rfl) rfl ?_
      refine da_any hap htm (i := 5) (by rfl) (by kernel_rfl) (by rfl) (listed' := #[true, true, true, true, true, true, false, false, false, false]) (by rfl) (fun _ => (opv_move (by rfl))) (by rfl) rfl ?_
      refine da_any hap htm (i := 6) (by rfl) (by kernel_rfl) (by rfl) (listed' := #[true, true, true, true, true, true, true, false, false, false]) (by rfl) (fun _ => (opv_indexAddr_slr (i := k) (by rfl) ht0 (by rfl) Try.underlying28 ti33 rfl hlt2)) (by rfl) rfl ?_
      refine da_now [8, 9] hap htm (i := 7) (by rfl) (by kernel_rfl) (by rfl) (listed' := #[true, true, true, true, true, true, true, true, false, false]) (by rfl) (by kernel_rfl) (by kernel_rfl) (opv_load_agg_slr (u := y) Vol.cells_len (by rfl) ag33 ti33 rfl ht0 hy) (by rfl) rfl ?_
      refine da_eff (i := 8) (by rfl) (by kernel_rfl) (by rfl) (listed' := #[true, true, true, true, true, true, true, true, true, false]) (by rfl) (eff_call0 (G := fun v New => v = .bool (decide (r = q)) ∧ New = []) (by rfl) (by rfl) tx26 (by exact fun w1 hw1 => (same_vol w1 x y r q (hr2.keep hw1) (hq2.keep hw1) (hb x (List.mem_of_getElem? hx))).mono (fun _ _ ⟨hv, hst⟩ => ⟨[], ⟨hv, rfl⟩, hst⟩))) (fun _ _ _ _ hw => cw_nil hw) (by rfl) rfl ?_
      rintro _ _ ⟨_, ⟨rfl, rfl⟩, rfl⟩
      refine da_any hap htm (i := 9) (by rfl) (by kernel_rfl) (by rfl) (listed' := #[true, true, true, true, true, true, true, true, true, true]) (by rfl) (fun _ => (opv_not (by rfl))) (by rfl) rfl ?_
      refine da_done (by kernel_rfl) ?_
      refine jk_then ?_
      refine sk_split (x := 26) (by rfl) (fun h16 => ?_) (fun h16 => ?_)
      · first | have p16 := of_decide_eq_true h16 | have p16 := of_decide_eq_false h16 | have p16 := ndT h16 | have p16 := ndF h16 | have p16 := nbT h16 | have p16 := nbF h16 | have p16 := h16
        refine sc_true (by rfl) (not_t (by simpa using h16)) ?_
        refine jc_seq ?_
        refine sc_region ?_
        refine so_pure (opv_assign (by rfl)) (by rfl) rfl ?_
        refine jo_nil ?_
        refine jk_then ?_
        refine jc_ret ?_
        refine jk_block_ret ?_
        refine jk_then_ret ?_
        refine jk_then_ret ?_
        refine jk_block_ret ?_
        refine jk_then_ret ?_
        refine jk_fn_ret rfl rfl (by rfl) (fun w hw => ?_)
        exact ⟨congrArg Value.bool (decide_eq_false (ne_of_get hr1 hq1 (by simpa using p16))).symm, hw.forget⟩
      · first | have p16 := of_decide_eq_true h16 | have p16 := of_decide_eq_false h16 | have p16 := ndT h16 | have p16 := ndF h16 | have p16 := nbT h16 | have p16 := nbF h16 | have p16 := h16
        refine sc_false (by rfl) (not_f (by simpa using h16)) ?_
        refine jc_skip ?_
        refine jk_block ?_
        refine jk_then ?_
        refine sc_region ?_
        refine so_pure (opv_move (by rfl)) (by rfl) rfl ?_
        refine so_pure (opv_add (by rfl) (by rfl) (wrap64_ok (by omega))) (by rfl) rfl ?_
        refine so_pure (opv_assign (by rfl)) (by rfl) rfl ?_
        refine jo_nil ?_
        refine jk_round (k + 1) ⟨by omega, take_step ht hr1 hq1 (by simpa using p16)⟩ (by show n - (k + 1) < n - k; omega) ⟨rfl, rfl, rfl, trivial⟩ (fun w hw => ?_)
        show St _ _ [] _
        exact St.sel hw (by repeat (first | exact Pks.nil _ | exact Pk.here _ | apply Pk.there | apply Pks.cons))
    · first | have p9 := of_decide_eq_true h9 | have p9 := of_decide_eq_false h9 | have p9 := ndT h9 | have p9 := ndF h9 | have p9 := nbT h9 | have p9 := nbF h9 | have p9 := h9
      refine sc_false (by rfl) h9 ?_
      refine jc_exit ?_
      refine jk_then_exit ?_
      refine jk_then_exit ?_
      refine jk_block_exit ?_
      refine jk_then ?_
      refine jc_seq ?_
      refine sc_region ?_
      refine so_pure (opv_assign (by rfl)) (by rfl) rfl ?_
      refine jo_nil ?_
      refine jk_then ?_
      refine jc_ret ?_
      refine jk_fn_ret rfl rfl (by rfl) (fun w hw => ?_)
      exact ⟨congrArg Value.bool (decide_eq_true (eq_of_take ht (by have := hs.1; have := hr.len; omega) (by have := ht0.1; have := hq.len; have := p9; omega))).symm, hw.forget⟩
end Go.Pins
