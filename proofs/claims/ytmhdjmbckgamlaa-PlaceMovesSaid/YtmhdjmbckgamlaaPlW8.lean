/- A part of a proof for the laws of the seat Ytmhdjmbckgamlaa; it has no conditions of its own. -/
import Derived.Test.YtmhdjmbckgamlaaPlW7
namespace Go.Place
open Go Go.SL Go.Proofs
set_option maxHeartbeats 4000000 in
theorem even_spec (w : World) (A B : Option Addr) (n m c c2 : Nat) (vs : List Vol) (lss : List (List Loc)) (xs : List Int) (hv : SlR w 36 4 Vol.cells A n vs) (hr : All2 (Vr w) vs lss) (hn : n ≤ 1000) (hs : SlR w 3 1 ic B m xs) (hm : m ≤ 1000000) : Does Try.prog 15 #[.slice A n c, .slice B m c2] w (fun v w' => v = .tuple #[.int .i64 (evenR (loadL lss) xs).1, .int .i64 (evenR (loadL lss) xs).2.1, .bool (evenR (loadL lss) xs).2.2] ∧ St w Emp [] w') := by
  refine fn_body (fn := Try.f15) Try.func15 rfl [(0, .slice A n c), (1, .slice B m c2)] (by exact ⟨rfl, rfl, trivial⟩) rfl (St.start w) ?_
  refine jc_seq ?_
  refine sc_region ?_
  refine so_pure (opv_assign (by rfl)) (by rfl) rfl ?_
  refine so_pure (opv_assign (by rfl)) (by rfl) rfl ?_
  refine so_pure (opv_assign (by rfl)) (by rfl) rfl ?_
  refine jo_nil ?_
  refine jk_then ?_
  refine jc_seq ?_
  refine jc_seq ?_
  refine sc_region ?_
  refine so_pure (opv_move (by rfl)) (by rfl) rfl ?_
  refine so_pure (opv_len_slice (by rfl) Try.underlying22) (by rfl) rfl ?_
  refine so_pure (opv_cmp (by rfl) (by rfl) (by rfl)) (by rfl) rfl ?_
  refine so_pure (opv_move (by rfl)) (by rfl) rfl ?_
  refine sk_split (x := 14) (by rfl) (fun h6 => ?_) (fun h6 => ?_)
  · first | have p6 := of_decide_eq_true h6 | have p6 := of_decide_eq_false h6 | have p6 := ndT h6 | have p6 := ndF h6 | have p6 := nbT h6 | have p6 := nbF h6 | have p6 := h6
    refine so_skip (wtd_not rfl rfl (by rfl) h6) rfl ?_
    refine so_skip (wtd_not rfl rfl (by rfl) h6) rfl ?_
    refine so_skip (wtd_not rfl rfl (by rfl) h6) rfl ?_
    refine so_pure (sv_pick_t (by rfl) h6 (by rfl)) (by rfl) rfl ?_
    refine jo_nil ?_
    refine jk_then ?_
    refine sc_true (by rfl) rfl ?_
    refine jc_seq ?_
    refine sc_region ?_
    refine so_pure (opv_assign (by rfl)) (by rfl) rfl ?_
    refine so_pure (opv_assign (by rfl)) (by rfl) rfl ?_
    refine so_pure (opv_assign (by rfl)) (by rfl) rfl ?_
    refine jo_nil ?_
    refine jk_then ?_
    refine jc_ret ?_
    refine jk_then_ret ?_
    refine jk_fn_ret3 rfl rfl (by rfl) (by rfl) (by rfl) (fun w hw => ?_)
    have e : evenR (loadL lss) xs = (0, 0, false) := by unfold evenR; rw [if_pos (.inl (List.eq_nil_of_length_eq_zero (by have := hs.1; omega)))]
    rw [e]
    exact ⟨rfl, hw.forget⟩
  · first | have p6 := of_decide_eq_true h6 | have p6 := of_decide_eq_false h6 | have p6 := ndT h6 | have p6 := ndF h6 | have p6 := nbT h6 | have p6 := nbF h6 | have p6 := h6
    refine so_pure (opv_move (by rfl)) (wtd_run rfl rfl (by rfl) h6) rfl ?_
    refine so_eff (eff_call0 (fl := []) (cl := []) (G := fun v New => v = .bool (areL xs) ∧ New = []) (by rfl) (by rfl) tx20 (by exact fun w1 hw1 => (are_spec w1 B m c2 xs (hs.keepSt hw1) hm).mono (fun _ _ ⟨hv, hst⟩ => ⟨[], ⟨hv, rfl⟩, hst⟩))) (wtd_run rfl rfl (by rfl) h6) rfl ?_
    rintro _ _ ⟨_, ⟨rfl, rfl⟩, rfl⟩
    refine so_pure (opv_not (by rfl)) (wtd_run rfl rfl (by rfl) h6) rfl ?_
    refine so_pure (sv_pick_f (by rfl) h6 (by rfl)) (by rfl) rfl ?_
    refine jo_nil ?_
    refine jk_then ?_
    refine sk_split (x := 18) (by rfl) (fun h9 => ?_) (fun h9 => ?_)
    · first | have p9 := of_decide_eq_true h9 | have p9 := of_decide_eq_false h9 | have p9 := ndT h9 | have p9 := ndF h9 | have p9 := nbT h9 | have p9 := nbF h9 | have p9 := h9
      refine sc_true (by rfl) (not_t (nbT h9)) ?_
      refine jc_seq ?_
      refine sc_region ?_
      refine so_pure (opv_assign (by rfl)) (by rfl) rfl ?_
      refine so_pure (opv_assign (by rfl)) (by rfl) rfl ?_
      refine so_pure (opv_assign (by rfl)) (by rfl) rfl ?_
      refine jo_nil ?_
      refine jk_then ?_
      refine jc_ret ?_
      refine jk_then_ret ?_
      refine jk_fn_ret3 rfl rfl (by rfl) (by rfl) (by rfl) (fun w hw => ?_)
      have e : evenR (loadL lss) xs = (0, 0, false) := by unfold evenR; rw [if_pos (.inr (by simpa using p9))]
      rw [e]
      exact ⟨rfl, hw.forget⟩
    · first | have p9 := of_decide_eq_true h9 | have p9 := of_decide_eq_false h9 | have p9 := ndT h9 | have p9 := ndF h9 | have p9 := nbT h9 | have p9 := nbF h9 | have p9 := h9
      refine sc_false (by rfl) (not_f (nbF h9)) ?_
      refine jc_skip ?_
      refine jk_then ?_
      refine jc_seq ?_
      have hare : areL xs = true := (by simpa using p9)
      have hx12 : ∀ (i : Nat) (x : Int), xs[i]? = some x → 0 ≤ x ∧ x < 12 := fun i x h => are_mem hare h
      have hne : ¬ (xs = [] ∨ areL xs = false) := by rintro (h | h); subst h; have := hs.1; simp at this; omega; rw [hare] at h; cases h
      obtain ⟨mo, hmo, hmo12⟩ := foldK_in (f := pickMax (loadL lss)) (pickMax_or _) (xs := xs) (by have := hs.1; omega) hx12
      obtain ⟨le, hle, hle12⟩ := foldK_in (f := pickMin (loadL lss)) (pickMin_or _) (xs := xs) (by have := hs.1; omega) hx12
      refine sc_region ?_
      refine so_pure (opv_move (by rfl)) (by rfl) rfl ?_
      refine so_eff (eff_call0 (fl := []) (cl := []) (G := fun v New => ∃ lb m, v = .slice (some ⟨lb, 0, none⟩) 12 12 ∧ (m ≤ 8796093022208000 ∧ Bd (loadL lss) m) ∧ New = [own (.slice (some ⟨lb, 0, none⟩) 12 12) 3 1 12 ((loadL lss).flatMap ic)]) (by rfl) (by rfl) tx17 (by exact fun w1 hw1 => (load_spec w1 A n c vs lss (hv.keepSt hw1) (hr.mono (Vr.keep hw1)) hn).mono (fun _ _ ⟨lb, m, hv, h1, h2, hst⟩ => ⟨_, ⟨lb, m, hv, ⟨h1, h2⟩, rfl⟩, hst⟩))) (by rfl) rfl ?_
      rintro _ _ ⟨_, ⟨lb, N, rfl, ⟨hN, hb⟩, rfl⟩, rfl⟩
      refine so_eff (eff_alloc ti22 rfl) (by rfl) rfl ?_
      rintro _ _ ⟨cb, rfl, rfl⟩
      refine so_eff0 (eff_store_all (vs := [.slice (some ⟨lb, 0, none⟩) 12 12]) (by rfl) (by rfl) (by rfl) ti22 (by rfl) (by repeat (first | exact Pk.here _ | apply Pk.there)) (by rfl) (by rfl)) (by rfl) ?_
      rintro _ _ ⟨rfl, rfl⟩
      refine jo_nil ?_
      refine jk_then ?_
      refine jc_seq ?_
      refine sc_region ?_
      refine so_pure (opv_makeFunc (by rfl) (by rfl)) (by rfl) rfl ?_
      refine so_pure (opv_assign (by rfl)) (by rfl) rfl ?_
      refine jo_nil ?_
      refine jk_then ?_
      refine jc_seq ?_
      refine sc_region ?_
      refine so_pure (opv_move (by rfl)) (by rfl) rfl ?_
      refine so_pure (opv_move (by rfl)) (by rfl) rfl ?_
      refine so_eff (eff_callF [blk cb (.cells #[.slice (some ⟨lb, 0, none⟩) 12 12] 22 (0, 0)), own (.slice (some ⟨lb, 0, none⟩) 12 12) 3 1 12 ((loadL lss).flatMap ic)] (fl := []) (cl := []) (G := fun v Is' => v = .int .i64 (foldK (pickMax (loadL lss)) xs xs.length) ∧ Is' = [blk cb (.cells #[.slice (some ⟨lb, 0, none⟩) 12 12] 22 (0, 0)), own (.slice (some ⟨lb, 0, none⟩) 12 12) 3 1 12 ((loadL lss).flatMap ic)]) (by rfl) (by rfl) tx27 (by repeat (first | exact Pks.nil _ | exact Pk.here _ | apply Pk.there | apply Pks.cons)) (by exact fun w1 hw1 => (max_spec B m c2 xs hs hm (by omega) hx12 hb hN hw1).mono (fun _ _ ⟨hv, hst⟩ => ⟨_, ⟨hv, rfl⟩, hst⟩))) (by rfl) rfl ?_
      rintro _ _ ⟨_, ⟨rfl, rfl⟩, rfl⟩
      refine so_pure (opv_move (by rfl)) (by rfl) rfl ?_
      refine so_pure (opv_move (by rfl)) (by rfl) rfl ?_
      refine so_eff (eff_callF [blk cb (.cells #[.slice (some ⟨lb, 0, none⟩) 12 12] 22 (0, 0)), own (.slice (some ⟨lb, 0, none⟩) 12 12) 3 1 12 ((loadL lss).flatMap ic)] (fl := []) (cl := []) (G := fun v Is' => v = .int .i64 (foldK (pickMin (loadL lss)) xs xs.length) ∧ Is' = [blk cb (.cells #[.slice (some ⟨lb, 0, none⟩) 12 12] 22 (0, 0)), own (.slice (some ⟨lb, 0, none⟩) 12 12) 3 1 12 ((loadL lss).flatMap ic)]) (by rfl) (by rfl) tx28 (by repeat (first | exact Pks.nil _ | exact Pk.here _ | apply Pk.there | apply Pks.cons)) (by exact fun w1 hw1 => (min_spec B m c2 xs hs hm (by omega) hx12 hb hN hw1).mono (fun _ _ ⟨hv, hst⟩ => ⟨_, ⟨hv, rfl⟩, hst⟩))) (by rfl) rfl ?_
      rintro _ _ ⟨_, ⟨rfl, rfl⟩, rfl⟩
      refine so_pure (opv_assign (by rfl)) (by rfl) rfl ?_
      refine so_pure (opv_assign (by rfl)) (by rfl) rfl ?_
      refine jo_nil ?_
      refine jk_then ?_
      refine jc_seq ?_
      rw [hmo, hle]
      obtain ⟨x, hx, hx0, hx1⟩ := hb.get hmo12
      obtain ⟨y, hy, hy0, hy1⟩ := hb.get hle12
      refine so_draw [] (by kernel_rfl) (by kernel_rfl) (by kernel_rfl) rfl (by rfl) (fun hap htm => ?_)
      refine da_any hap htm (i := 0) (by rfl) (by kernel_rfl) (by rfl) (listed' := #[true, false, false, false, false, false, false, false, false, false, false, false, false, false, false]) (by rfl) (fun _ => (opv_move (by rfl))) (by rfl) rfl ?_
      refine da_any hap htm (i := 1) (by rfl) (by kernel_rfl) (by rfl) (listed' := #[true, true, false, false, false, false, false, false, false, false, false, false, false, false, false]) (by rfl) (fun _ => (opv_move (by rfl))) (by rfl) rfl ?_
      refine da_now [4, 5, 10, 11, 14] hap htm (i := 2) (by rfl) (by kernel_rfl) (by rfl) (listed' := #[true, true, true, false, false, false, false, false, false, false, false, false, false, false, false]) (by rfl) (by kernel_rfl) (by kernel_rfl) (opv_load (by rfl) na22 (rd_pk (by repeat (first | exact Pk.here _ | apply Pk.there))) (by rfl)) (by rfl) rfl ?_
      refine da_any hap htm (i := 3) (by rfl) (by kernel_rfl) (by rfl) (listed' := #[true, true, true, true, false, false, false, false, false, false, false, false, false, false, false]) (by rfl) (fun _ => (opv_move (by rfl))) (by rfl) rfl ?_
      refine da_any hap htm (i := 4) (by rfl) (by kernel_rfl) (by rfl) (listed' := #[true, true, true, true, true, false, false, false, false, false, false, false, false, false, false]) (by rfl) (fun _ => (opv_indexAddr (i := mo) (by rfl) (by rfl) Try.underlying22 ti3 rfl (by omega))) (by rfl) rfl ?_
      refine da_now [10, 11, 14] hap htm (i := 5) (by rfl) (by kernel_rfl) (by rfl) (listed' := #[true, true, true, true, true, true, false, false, false, false, false, false, false, false, false]) (by rfl) (by kernel_rfl) (by kernel_rfl) (opv_load_fld (enc := ic) (v := .slice (some ⟨lb, 0, none⟩) 12 12) (i := mo) (u := x) (fo := 0) (w := .int .i64 x) ic_len (by rfl) na3 (by repeat (first | exact Pk.here _ | apply Pk.there)) hx rfl) (by rfl) rfl ?_
      refine da_now [8, 9, 10, 11, 14] hap htm (i := 6) (by rfl) (by kernel_rfl) (by rfl) (listed' := #[true, true, true, true, true, true, true, false, false, false, false, false, false, false, false]) (by rfl) (by kernel_rfl) (by kernel_rfl) (opv_load (by rfl) na22 (rd_pk (by repeat (first | exact Pk.here _ | apply Pk.there))) (by rfl)) (by rfl) rfl ?_
      refine da_any hap htm (i := 7) (by rfl) (by kernel_rfl) (by rfl) (listed' := #[true, true, true, true, true, true, true, true, false, false, false, false, false, false, false]) (by rfl) (fun _ => (opv_move (by rfl))) (by rfl) rfl ?_
      refine da_any hap htm (i := 8) (by rfl) (by kernel_rfl) (by rfl) (listed' := #[true, true, true, true, true, true, true, true, true, false, false, false, false, false, false]) (by rfl) (fun _ => (opv_indexAddr (i := le) (by rfl) (by rfl) Try.underlying22 ti3 rfl (by omega))) (by rfl) rfl ?_
      refine da_now [10, 11, 14] hap htm (i := 9) (by rfl) (by kernel_rfl) (by rfl) (listed' := #[true, true, true, true, true, true, true, true, true, true, false, false, false, false, false]) (by rfl) (by kernel_rfl) (by kernel_rfl) (opv_load_fld (enc := ic) (v := .slice (some ⟨lb, 0, none⟩) 12 12) (i := le) (u := y) (fo := 0) (w := .int .i64 y) ic_len (by rfl) na3 (by repeat (first | exact Pk.here _ | apply Pk.there)) hy rfl) (by rfl) rfl ?_
      refine da_any hap htm (i := 10) (by rfl) (by kernel_rfl) (by rfl) (listed' := #[true, true, true, true, true, true, true, true, true, true, true, false, false, false, false]) (by rfl) (fun _ => (opv_sub (by rfl) (by rfl) (wrap64_ok (by omega)))) (by rfl) rfl ?_
      refine da_any hap htm (i := 11) (by rfl) (by kernel_rfl) (by rfl) (listed' := #[true, true, true, true, true, true, true, true, true, true, true, true, false, false, false]) (by rfl) (fun _ => (opv_cmp (by rfl) (by rfl) (by rfl))) (by rfl) rfl ?_
      refine da_any hap htm (i := 12) (by rfl) (by kernel_rfl) (by rfl) (listed' := #[true, true, true, true, true, true, true, true, true, true, true, true, true, false, false]) (by rfl) (fun _ => (opv_assign (by rfl))) (by rfl) rfl ?_
      refine da_any hap htm (i := 13) (by rfl) (by kernel_rfl) (by rfl) (listed' := #[true, true, true, true, true, true, true, true, true, true, true, true, true, true, false]) (by rfl) (fun _ => (opv_assign (by rfl))) (by rfl) rfl ?_
      refine da_any hap htm (i := 14) (by rfl) (by kernel_rfl) (by rfl) (listed' := #[true, true, true, true, true, true, true, true, true, true, true, true, true, true, true]) (by rfl) (fun _ => (opv_assign (by rfl))) (by rfl) rfl ?_
      refine da_done (by kernel_rfl) ?_
      refine jk_then ?_
      refine jc_ret ?_
      refine jk_fn_ret3 rfl rfl (by rfl) (by rfl) (by rfl) (fun w hw => ?_)
      have e : evenR (loadL lss) xs = ((mo : Int), (le : Int), decide (y + 2 ≤ x)) := by unfold evenR; rw [if_neg hne, hmo, hle, at12_get hx, at12_get hy]
      rw [e]
      exact ⟨by rw [show decide (2 ≤ x - y) = decide (y + 2 ≤ x) from decide_eq_decide.2 (by omega)], hw.forget⟩
set_option maxHeartbeats 4000000 in
theorem refeven_spec (w : World) (A B : Option Addr) (n m c c2 : Nat) (vs : List Vol) (lss : List (List Loc)) (xs : List Int) (hv : SlR w 36 4 Vol.cells A n vs) (hr : All2 (Vr w) vs lss) (hn : n ≤ 1000) (hs : SlR w 3 1 ic B m xs) (hm : m ≤ 1000000) : Does Try.prog 16 #[.slice A n c, .slice B m c2] w (fun v w' => v = .tuple #[.int .i64 (evenR (loadL lss) xs).1, .int .i64 (evenR (loadL lss) xs).2.1, .bool (evenR (loadL lss) xs).2.2] ∧ St w Emp [] w') := by
  refine fn_body (fn := Try.f16) Try.func16 rfl [(0, .slice A n c), (1, .slice B m c2)] (by exact ⟨rfl, rfl, trivial⟩) rfl (St.start w) ?_
  refine jc_seq ?_
  refine sc_region ?_
  refine so_pure (opv_assign (by rfl)) (by rfl) rfl ?_
  refine so_pure (opv_assign (by rfl)) (by rfl) rfl ?_
  refine so_pure (opv_assign (by rfl)) (by rfl) rfl ?_
  refine jo_nil ?_
  refine jk_then ?_
  refine jc_seq ?_
  refine jc_seq ?_
  refine sc_region ?_
  refine so_pure (opv_move (by rfl)) (by rfl) rfl ?_
  refine so_eff (eff_call0 (fl := []) (cl := []) (G := fun v New => v = .bool (areL xs) ∧ New = []) (by rfl) (by rfl) tx23 (by exact fun w1 hw1 => (reflive_spec w1 B m c2 xs (hs.keepSt hw1) hm).mono (fun _ _ ⟨hv, hst⟩ => ⟨[], ⟨hv, rfl⟩, hst⟩))) (by rfl) rfl ?_
  rintro _ _ ⟨_, ⟨rfl, rfl⟩, rfl⟩
  refine so_pure (opv_not (by rfl)) (by rfl) rfl ?_
  refine so_pure (opv_move (by rfl)) (by rfl) rfl ?_
  refine sk_split (x := 14) (by rfl) (fun h5 => ?_) (fun h5 => ?_)
  · first | have p5 := of_decide_eq_true h5 | have p5 := of_decide_eq_false h5 | have p5 := ndT h5 | have p5 := ndF h5 | have p5 := nbT h5 | have p5 := nbF h5 | have p5 := h5
    refine so_skip (wtd_not rfl rfl (by rfl) (not_t (nbT h5))) rfl ?_
    refine so_skip (wtd_not rfl rfl (by rfl) (not_t (nbT h5))) rfl ?_
    refine so_skip (wtd_not rfl rfl (by rfl) (not_t (nbT h5))) rfl ?_
    refine so_pure (sv_pick_t (by rfl) (not_t (nbT h5)) (by rfl)) (by rfl) rfl ?_
    refine jo_nil ?_
    refine jk_then ?_
    refine sc_true (by rfl) rfl ?_
    refine jc_seq ?_
    refine sc_region ?_
    refine so_pure (opv_assign (by rfl)) (by rfl) rfl ?_
    refine so_pure (opv_assign (by rfl)) (by rfl) rfl ?_
    refine so_pure (opv_assign (by rfl)) (by rfl) rfl ?_
    refine jo_nil ?_
    refine jk_then ?_
    refine jc_ret ?_
    refine jk_then_ret ?_
    refine jk_fn_ret3 rfl rfl (by rfl) (by rfl) (by rfl) (fun w hw => ?_)
    have e : evenR (loadL lss) xs = (0, 0, false) := by unfold evenR; rw [if_pos (.inr (by simpa using p5))]
    rw [e]
    exact ⟨rfl, hw.forget⟩
  · first | have p5 := of_decide_eq_true h5 | have p5 := of_decide_eq_false h5 | have p5 := ndT h5 | have p5 := ndF h5 | have p5 := nbT h5 | have p5 := nbF h5 | have p5 := h5
    refine so_pure (opv_move (by rfl)) (wtd_run rfl rfl (by rfl) (not_f (nbF h5))) rfl ?_
    refine so_pure (opv_len_slice (by rfl) Try.underlying22) (wtd_run rfl rfl (by rfl) (not_f (nbF h5))) rfl ?_
    refine so_pure (opv_cmp (by rfl) (by rfl) (by rfl)) (wtd_run rfl rfl (by rfl) (not_f (nbF h5))) rfl ?_
    refine so_pure (sv_pick_f (by rfl) (not_f (nbF h5)) (by rfl)) (by rfl) rfl ?_
    refine jo_nil ?_
    refine jk_then ?_
    refine sk_split (x := 18) (by rfl) (fun h9 => ?_) (fun h9 => ?_)
    · first | have p9 := of_decide_eq_true h9 | have p9 := of_decide_eq_false h9 | have p9 := ndT h9 | have p9 := ndF h9 | have p9 := nbT h9 | have p9 := nbF h9 | have p9 := h9
      refine sc_true (by rfl) h9 ?_
      refine jc_seq ?_
      refine sc_region ?_
      refine so_pure (opv_assign (by rfl)) (by rfl) rfl ?_
      refine so_pure (opv_assign (by rfl)) (by rfl) rfl ?_
      refine so_pure (opv_assign (by rfl)) (by rfl) rfl ?_
      refine jo_nil ?_
      refine jk_then ?_
      refine jc_ret ?_
      refine jk_then_ret ?_
      refine jk_fn_ret3 rfl rfl (by rfl) (by rfl) (by rfl) (fun w hw => ?_)
      have e : evenR (loadL lss) xs = (0, 0, false) := by unfold evenR; rw [if_pos (.inl (List.eq_nil_of_length_eq_zero (by have := hs.1; omega)))]
      rw [e]
      exact ⟨rfl, hw.forget⟩
    · first | have p9 := of_decide_eq_true h9 | have p9 := of_decide_eq_false h9 | have p9 := ndT h9 | have p9 := ndF h9 | have p9 := nbT h9 | have p9 := nbF h9 | have p9 := h9
      refine sc_false (by rfl) h9 ?_
      refine jc_skip ?_
      refine jk_then ?_
      refine jc_seq ?_
      have hare : areL xs = true := (by simpa using p5)
      have hx12 : ∀ (i : Nat) (x : Int), xs[i]? = some x → 0 ≤ x ∧ x < 12 := fun i x h => are_mem hare h
      have hne : ¬ (xs = [] ∨ areL xs = false) := by rintro (h | h); subst h; have := hs.1; simp at this; omega; rw [hare] at h; cases h
      obtain ⟨mo, hmo, hmo12⟩ := foldK_in (f := pickMax (loadL lss)) (pickMax_or _) (xs := xs) (by have := hs.1; omega) hx12
      obtain ⟨le, hle, hle12⟩ := foldK_in (f := pickMin (loadL lss)) (pickMin_or _) (xs := xs) (by have := hs.1; omega) hx12
      refine sc_region ?_
      refine so_pure (opv_move (by rfl)) (by rfl) rfl ?_
      refine so_eff (eff_call0 (fl := []) (cl := []) (G := fun v New => ∃ lb m, v = .slice (some ⟨lb, 0, none⟩) 12 12 ∧ (m ≤ 8796093022208000 ∧ Bd (loadL lss) m) ∧ New = [own (.slice (some ⟨lb, 0, none⟩) 12 12) 3 1 12 ((loadL lss).flatMap ic)]) (by rfl) (by rfl) tx18 (by exact fun w1 hw1 => (refload_spec w1 A n c vs lss (hv.keepSt hw1) (hr.mono (Vr.keep hw1)) hn).mono (fun _ _ ⟨lb, m, hv, h1, h2, hst⟩ => ⟨_, ⟨lb, m, hv, ⟨h1, h2⟩, rfl⟩, hst⟩))) (by rfl) rfl ?_
      rintro _ _ ⟨_, ⟨lb, N, rfl, ⟨hN, hb⟩, rfl⟩, rfl⟩
      refine so_pure (opv_assign (by rfl)) (by rfl) rfl ?_
      refine jo_nil ?_
      refine jk_then ?_
      refine jc_seq ?_
      have hlt0 : 0 < m := by omega
      obtain ⟨_, _, _, _, z0, _, _, hx0, _⟩ := hs.get hlt0
      have hzb := hx12 0 z0 hx0
      obtain ⟨x0, hd0⟩ : ∃ d : Nat, z0 = d := ⟨z0.toNat, by omega⟩
      refine sc_region ?_
      refine so_pure (opv_move (by rfl)) (by rfl) rfl ?_
      refine so_pure (opv_indexAddr_slr (i := 0) (by rfl) hs (by rfl) Try.underlying22 ti3 rfl hlt0) (by rfl) rfl ?_
      refine so_pure (opv_load_slr (enc := ic) (u := z0) (fo := 0) (v := .int .i64 (x0 : Int)) (by rfl) na3 rfl hs hx0 (by rw [hd0]; rfl)) (by rfl) rfl ?_
      refine so_pure (opv_assign (by rfl)) (by rfl) rfl ?_
      refine jo_nil ?_
      refine jk_then ?_
      refine jc_seq ?_
      refine sc_region ?_
      refine so_pure (opv_move (by rfl)) (by rfl) rfl ?_
      refine so_pure (opv_indexAddr_slr (i := 0) (by rfl) hs (by rfl) Try.underlying22 ti3 rfl hlt0) (by rfl) rfl ?_
      refine so_pure (opv_load_slr (enc := ic) (u := z0) (fo := 0) (v := .int .i64 (x0 : Int)) (by rfl) na3 rfl hs hx0 (by rw [hd0]; rfl)) (by rfl) rfl ?_
      refine so_pure (opv_assign (by rfl)) (by rfl) rfl ?_
      refine jo_nil ?_
      refine jk_then ?_
      refine jc_seq ?_
      refine jc_seq ?_
      refine sc_region ?_
      refine so_pure (opv_assign (by rfl)) (by rfl) rfl ?_
      refine jo_nil ?_
      refine jk_then ?_
      refine jc_block ?_
      refine jc_loop (σ := Nat × Nat × Nat) (fun (k, p, q) => [(1, .slice B m c2), (7, .slice (some ⟨lb, 0, none⟩) 12 12), (8, .int .i64 (p : Int)), (9, .int .i64 (q : Int)), (10, .int .i64 k)]) (fun (k, p, q) => [own (.slice (some ⟨lb, 0, none⟩) 12 12) 3 1 12 ((loadL lss).flatMap ic)]) (fun (k, p, q) => (k ≤ m) ∧ (1 ≤ k) ∧ (foldK (pickMax (loadL lss)) xs k = (p : Int)) ∧ (foldK (pickMin (loadL lss)) xs k = (q : Int)) ∧ (p < 12) ∧ (q < 12)) (fun (k, p, q) => m - k) (1, x0, x0) ⟨by omega, Nat.le_refl _, by rw [foldK_one _ _ hx0]; exact hd0, by rw [foldK_one _ _ hx0]; exact hd0, by omega, by omega⟩ ⟨rfl, rfl, rfl, rfl, rfl, trivial⟩ (fun w hw => St.sel hw (by repeat (first | exact Pks.nil _ | exact Pk.here _ | apply Pk.there | apply Pks.cons))) ?_
      rintro ⟨k, p, q⟩ ⟨hk, h1k, hp, hq, hp12, hq12⟩
      show Jc _ _ [(1, .slice B m c2), (7, .slice (some ⟨lb, 0, none⟩) 12 12), (8, .int .i64 (p : Int)), (9, .int .i64 (q : Int)), (10, .int .i64 k)] [own (.slice (some ⟨lb, 0, none⟩) 12 12) 3 1 12 ((loadL lss).flatMap ic)] _
      refine jc_seq ?_
      refine jc_seq ?_
      refine sc_region ?_
      refine so_pure (opv_move (by rfl)) (by rfl) rfl ?_
      refine so_pure (opv_move (by rfl)) (by rfl) rfl ?_
      refine so_pure (opv_len_slice (by rfl) Try.underlying22) (by rfl) rfl ?_
      refine so_pure (opv_cmp (by rfl) (by rfl) (by rfl)) (by rfl) rfl ?_
      refine jo_nil ?_
      refine jk_then ?_
      refine sk_split (x := 30) (by rfl) (fun h20 => ?_) (fun h20 => ?_)
      · first | have p20 := of_decide_eq_true h20 | have p20 := of_decide_eq_false h20 | have p20 := ndT h20 | have p20 := ndF h20 | have p20 := nbT h20 | have p20 := nbF h20 | have p20 := h20
        refine sc_true (by rfl) h20 ?_
        refine jc_skip ?_
        refine jk_then ?_
        refine jc_seq ?_
        refine jc_block ?_
        refine jc_seq ?_
        refine jc_seq ?_
        have hlt : k < m := by omega
        obtain ⟨_, _, _, _, x, _, _, hx, _⟩ := hs.get hlt
        have hxb := hx12 k x hx
        obtain ⟨d, hd⟩ : ∃ d : Nat, x = d := ⟨x.toNat, by omega⟩
        obtain ⟨cd, hcd, hcd0, hcd1⟩ := hb.get (i := d) (by omega)
        obtain ⟨cp, hcp, hcp0, hcp1⟩ := hb.get hp12
        obtain ⟨cq, hcq, hcq0, hcq1⟩ := hb.get hq12
        refine so_draw [] (by kernel_rfl) (by kernel_rfl) (by kernel_rfl) rfl (by rfl) (fun hap htm => ?_)
        refine da_any hap htm (i := 0) (by rfl) (by kernel_rfl) (by rfl) (listed' := #[true, false, false, false, false, false, false, false, false, false, false, false]) (by rfl) (fun _ => (opv_move (by rfl))) (by rfl) rfl ?_
        refine da_any hap htm (i := 1) (by rfl) (by kernel_rfl) (by rfl) (listed' := #[true, true, false, false, false, false, false, false, false, false, false, false]) (by rfl) (fun _ => (opv_move (by rfl))) (by rfl) rfl ?_
        refine da_any hap htm (i := 2) (by rfl) (by kernel_rfl) (by rfl) (listed' := #[true, true, true, false, false, false, false, false, false, false, false, false]) (by rfl) (fun _ => (opv_move (by rfl))) (by rfl) rfl ?_
        refine da_any hap htm (i := 3) (by rfl) (by kernel_rfl) (by rfl) (listed' := #[true, true, true, true, false, false, false, false, false, false, false, false]) (by rfl) (fun _ => (opv_indexAddr_slr (i := k) (by rfl) hs (by rfl) Try.underlying22 ti3 rfl hlt)) (by rfl) rfl ?_
        refine da_now [5, 6, 11] hap htm (i := 4) (by rfl) (by kernel_rfl) (by rfl) (listed' := #[true, true, true, true, true, false, false, false, false, false, false, false]) (by rfl) (by kernel_rfl) (by kernel_rfl) (opv_load_slr (enc := ic) (u := x) (fo := 0) (v := .int .i64 (d : Int)) (by rfl) na3 rfl hs hx (by rw [hd]; rfl)) (by rfl) rfl ?_
        refine da_any hap htm (i := 5) (by rfl) (by kernel_rfl) (by rfl) (listed' := #[true, true, true, true, true, true, false, false, false, false, false, false]) (by rfl) (fun _ => (opv_indexAddr (i := d) (by rfl) (by rfl) Try.underlying22 ti3 rfl (by omega))) (by rfl) rfl ?_
        refine da_now [11] hap htm (i := 6) (by rfl) (by kernel_rfl) (by rfl) (listed' := #[true, true, true, true, true, true, true, false, false, false, false, false]) (by rfl) (by kernel_rfl) (by kernel_rfl) (opv_load_fld (enc := ic) (v := .slice (some ⟨lb, 0, none⟩) 12 12) (i := d) (u := cd) (fo := 0) (w := .int .i64 cd) ic_len (by rfl) na3 (by repeat (first | exact Pk.here _ | apply Pk.there)) hcd rfl) (by rfl) rfl ?_
        refine da_any hap htm (i := 7) (by rfl) (by kernel_rfl) (by rfl) (listed' := #[true, true, true, true, true, true, true, true, false, false, false, false]) (by rfl) (fun _ => (opv_move (by rfl))) (by rfl) rfl ?_
        refine da_any hap htm (i := 8) (by rfl) (by kernel_rfl) (by rfl) (listed' := #[true, true, true, true, true, true, true, true, true, false, false, false]) (by rfl) (fun _ => (opv_move (by rfl))) (by rfl) rfl ?_
        refine da_any hap htm (i := 9) (by rfl) (by kernel_rfl) (by rfl) (listed' := #[true, true, true, true, true, true, true, true, true, true, false, false]) (by rfl) (fun _ => (opv_indexAddr (i := p) (by rfl) (by rfl) Try.underlying22 ti3 rfl (by omega))) (by rfl) rfl ?_
        refine da_now [11] hap htm (i := 10) (by rfl) (by kernel_rfl) (by rfl) (listed' := #[true, true, true, true, true, true, true, true, true, true, true, false]) (by rfl) (by kernel_rfl) (by kernel_rfl) (opv_load_fld (enc := ic) (v := .slice (some ⟨lb, 0, none⟩) 12 12) (i := p) (u := cp) (fo := 0) (w := .int .i64 cp) ic_len (by rfl) na3 (by repeat (first | exact Pk.here _ | apply Pk.there)) hcp rfl) (by rfl) rfl ?_
        refine da_any hap htm (i := 11) (by rfl) (by kernel_rfl) (by rfl) (listed' := #[true, true, true, true, true, true, true, true, true, true, true, true]) (by rfl) (fun _ => (opv_cmp (by rfl) (by rfl) (by rfl))) (by rfl) rfl ?_
        refine da_done (by kernel_rfl) ?_
        refine jk_then ?_
        refine sk_split (x := 44) (by rfl) (fun h29 => ?_) (fun h29 => ?_)
        · first | have p29 := of_decide_eq_true h29 | have p29 := of_decide_eq_false h29 | have p29 := ndT h29 | have p29 := ndF h29 | have p29 := nbT h29 | have p29 := nbF h29 | have p29 := h29
          refine sc_true (by rfl) h29 ?_
          refine sc_region ?_
          refine so_pure (opv_move (by rfl)) (by rfl) rfl ?_
          refine so_pure (opv_move (by rfl)) (by rfl) rfl ?_
          refine so_pure (opv_indexAddr_slr (i := k) (by rfl) hs (by rfl) Try.underlying22 ti3 rfl hlt) (by rfl) rfl ?_
          refine so_pure (opv_load_slr (enc := ic) (u := x) (fo := 0) (v := .int .i64 (d : Int)) (by rfl) na3 rfl hs hx (by rw [hd]; rfl)) (by rfl) rfl ?_
          refine so_pure (opv_assign (by rfl)) (by rfl) rfl ?_
          refine jo_nil ?_
          refine jk_then ?_
          refine jc_seq ?_
          refine so_draw [] (by kernel_rfl) (by kernel_rfl) (by kernel_rfl) rfl (by rfl) (fun hap htm => ?_)
          refine da_any hap htm (i := 0) (by rfl) (by kernel_rfl) (by rfl) (listed' := #[true, false, false, false, false, false, false, false, false, false, false, false]) (by rfl) (fun _ => (opv_move (by rfl))) (by rfl) rfl ?_
          refine da_any hap htm (i := 1) (by rfl) (by kernel_rfl) (by rfl) (listed' := #[true, true, false, false, false, false, false, false, false, false, false, false]) (by rfl) (fun _ => (opv_move (by rfl))) (by rfl) rfl ?_
          refine da_any hap htm (i := 2) (by rfl) (by kernel_rfl) (by rfl) (listed' := #[true, true, true, false, false, false, false, false, false, false, false, false]) (by rfl) (fun _ => (opv_move (by rfl))) (by rfl) rfl ?_
          refine da_any hap htm (i := 3) (by rfl) (by kernel_rfl) (by rfl) (listed' := #[true, true, true, true, false, false, false, false, false, false, false, false]) (by rfl) (fun _ => (opv_indexAddr_slr (i := k) (by rfl) hs (by rfl) Try.underlying22 ti3 rfl hlt)) (by rfl) rfl ?_
          refine da_now [5, 6, 11] hap htm (i := 4) (by rfl) (by kernel_rfl) (by rfl) (listed' := #[true, true, true, true, true, false, false, false, false, false, false, false]) (by rfl) (by kernel_rfl) (by kernel_rfl) (opv_load_slr (enc := ic) (u := x) (fo := 0) (v := .int .i64 (d : Int)) (by rfl) na3 rfl hs hx (by rw [hd]; rfl)) (by rfl) rfl ?_
          refine da_any hap htm (i := 5) (by rfl) (by kernel_rfl) (by rfl) (listed' := #[true, true, true, true, true, true, false, false, false, false, false, false]) (by rfl) (fun _ => (opv_indexAddr (i := d) (by rfl) (by rfl) Try.underlying22 ti3 rfl (by omega))) (by rfl) rfl ?_
          refine da_now [11] hap htm (i := 6) (by rfl) (by kernel_rfl) (by rfl) (listed' := #[true, true, true, true, true, true, true, false, false, false, false, false]) (by rfl) (by kernel_rfl) (by kernel_rfl) (opv_load_fld (enc := ic) (v := .slice (some ⟨lb, 0, none⟩) 12 12) (i := d) (u := cd) (fo := 0) (w := .int .i64 cd) ic_len (by rfl) na3 (by repeat (first | exact Pk.here _ | apply Pk.there)) hcd rfl) (by rfl) rfl ?_
          refine da_any hap htm (i := 7) (by rfl) (by kernel_rfl) (by rfl) (listed' := #[true, true, true, true, true, true, true, true, false, false, false, false]) (by rfl) (fun _ => (opv_move (by rfl))) (by rfl) rfl ?_
          refine da_any hap htm (i := 8) (by rfl) (by kernel_rfl) (by rfl) (listed' := #[true, true, true, true, true, true, true, true, true, false, false, false]) (by rfl) (fun _ => (opv_move (by rfl))) (by rfl) rfl ?_
          refine da_any hap htm (i := 9) (by rfl) (by kernel_rfl) (by rfl) (listed' := #[true, true, true, true, true, true, true, true, true, true, false, false]) (by rfl) (fun _ => (opv_indexAddr (i := q) (by rfl) (by rfl) Try.underlying22 ti3 rfl (by omega))) (by rfl) rfl ?_
          refine da_now [11] hap htm (i := 10) (by rfl) (by kernel_rfl) (by rfl) (listed' := #[true, true, true, true, true, true, true, true, true, true, true, false]) (by rfl) (by kernel_rfl) (by kernel_rfl) (opv_load_fld (enc := ic) (v := .slice (some ⟨lb, 0, none⟩) 12 12) (i := q) (u := cq) (fo := 0) (w := .int .i64 cq) ic_len (by rfl) na3 (by repeat (first | exact Pk.here _ | apply Pk.there)) hcq rfl) (by rfl) rfl ?_
          refine da_any hap htm (i := 11) (by rfl) (by kernel_rfl) (by rfl) (listed' := #[true, true, true, true, true, true, true, true, true, true, true, true]) (by rfl) (fun _ => (opv_cmp (by rfl) (by rfl) (by rfl))) (by rfl) rfl ?_
          refine da_done (by kernel_rfl) ?_
          refine jk_then ?_
          refine sk_split (x := 60) (by rfl) (fun h41 => ?_) (fun h41 => ?_)
          · first | have p41 := of_decide_eq_true h41 | have p41 := of_decide_eq_false h41 | have p41 := ndT h41 | have p41 := ndF h41 | have p41 := nbT h41 | have p41 := nbF h41 | have p41 := h41
            refine sc_true (by rfl) h41 ?_
            refine sc_region ?_
            refine so_pure (opv_move (by rfl)) (by rfl) rfl ?_
            refine so_pure (opv_move (by rfl)) (by rfl) rfl ?_
            refine so_pure (opv_indexAddr_slr (i := k) (by rfl) hs (by rfl) Try.underlying22 ti3 rfl hlt) (by rfl) rfl ?_
            refine so_pure (opv_load_slr (enc := ic) (u := x) (fo := 0) (v := .int .i64 (d : Int)) (by rfl) na3 rfl hs hx (by rw [hd]; rfl)) (by rfl) rfl ?_
            refine so_pure (opv_assign (by rfl)) (by rfl) rfl ?_
            refine jo_nil ?_
            refine jk_block ?_
            refine jk_then ?_
            refine sc_region ?_
            refine so_pure (opv_move (by rfl)) (by rfl) rfl ?_
            refine so_pure (opv_add (by rfl) (by rfl) (wrap64_ok (by omega))) (by rfl) rfl ?_
            refine so_pure (opv_assign (by rfl)) (by rfl) rfl ?_
            refine jo_nil ?_
            have hs1 : foldK (pickMax (loadL lss)) xs (k + 1) = x := by rw [foldK_step _ h1k hx, hp]; unfold pickMax; rw [if_pos (by rw [hd, at12_get hcd, at12_get hcp]; omega)]
            have hs2 : foldK (pickMin (loadL lss)) xs (k + 1) = x := by rw [foldK_step _ h1k hx, hq]; unfold pickMin; rw [if_pos (by rw [hd, at12_get hcd, at12_get hcq]; omega)]
            refine jk_round (k + 1, d, d) ⟨by omega, by omega, by rw [hs1]; exact hd, by rw [hs2]; exact hd, by omega, by omega⟩ (by show m - (k + 1) < m - k; omega) ⟨rfl, rfl, rfl, rfl, rfl, trivial⟩ (fun w hw => ?_)
            show St _ _ [own (.slice (some ⟨lb, 0, none⟩) 12 12) 3 1 12 ((loadL lss).flatMap ic)] _
            exact St.sel hw (by repeat (first | exact Pks.nil _ | exact Pk.here _ | apply Pk.there | apply Pks.cons))
          · first | have p41 := of_decide_eq_true h41 | have p41 := of_decide_eq_false h41 | have p41 := ndT h41 | have p41 := ndF h41 | have p41 := nbT h41 | have p41 := nbF h41 | have p41 := h41
            refine sc_false (by rfl) h41 ?_
            refine jc_skip ?_
            refine jk_block ?_
            refine jk_then ?_
            refine sc_region ?_
            refine so_pure (opv_move (by rfl)) (by rfl) rfl ?_
            refine so_pure (opv_add (by rfl) (by rfl) (wrap64_ok (by omega))) (by rfl) rfl ?_
            refine so_pure (opv_assign (by rfl)) (by rfl) rfl ?_
            refine jo_nil ?_
            have hs1 : foldK (pickMax (loadL lss)) xs (k + 1) = x := by rw [foldK_step _ h1k hx, hp]; unfold pickMax; rw [if_pos (by rw [hd, at12_get hcd, at12_get hcp]; omega)]
            have hs2 : foldK (pickMin (loadL lss)) xs (k + 1) = (q : Int) := by rw [foldK_step _ h1k hx, hq]; unfold pickMin; rw [if_neg (by rw [hd, at12_get hcd, at12_get hcq]; omega)]
            refine jk_round (k + 1, d, q) ⟨by omega, by omega, by rw [hs1]; exact hd, by rw [hs2], by omega, by omega⟩ (by show m - (k + 1) < m - k; omega) ⟨rfl, rfl, rfl, rfl, rfl, trivial⟩ (fun w hw => ?_)
            show St _ _ [own (.slice (some ⟨lb, 0, none⟩) 12 12) 3 1 12 ((loadL lss).flatMap ic)] _
            exact St.sel hw (by repeat (first | exact Pks.nil _ | exact Pk.here _ | apply Pk.there | apply Pks.cons))
        · first | have p29 := of_decide_eq_true h29 | have p29 := of_decide_eq_false h29 | have p29 := ndT h29 | have p29 := ndF h29 | have p29 := nbT h29 | have p29 := nbF h29 | have p29 := h29
          refine sc_false (by rfl) h29 ?_
          refine jc_skip ?_
          refine jk_then ?_
          refine jc_seq ?_
          refine so_draw [] (by kernel_rfl) (by kernel_rfl) (by kernel_rfl) rfl (by rfl) (fun hap htm => ?_)
          refine da_any hap htm (i := 0) (by rfl) (by kernel_rfl) (by rfl) (listed' := #[true, false, false, false, false, false, false, false, false, false, false, false]) (by rfl) (fun _ => (opv_move (by rfl))) (by rfl) rfl ?_
          refine da_any hap htm (i := 1) (by rfl) (by kernel_rfl) (by rfl) (listed' := #[true, true, false, false, false, false, false, false, false, false, false, false]) (by rfl) (fun _ => (opv_move (by rfl))) (by rfl) rfl ?_
          refine da_any hap htm (i := 2) (by rfl) (by kernel_rfl) (by rfl) (listed' := #[true, true, true, false, false, false, false, false, false, false, false, false]) (by rfl) (fun _ => (opv_move (by rfl))) (by rfl) rfl ?_
          refine da_any hap htm (i := 3) (by rfl) (by kernel_rfl) (by rfl) (listed' := #[true, true, true, true, false, false, false, false, false, false, false, false]) (by rfl) (fun _ => (opv_indexAddr_slr (i := k) (by rfl) hs (by rfl) Try.underlying22 ti3 rfl hlt)) (by rfl) rfl ?_
          refine da_now [5, 6, 11] hap htm (i := 4) (by rfl) (by kernel_rfl) (by rfl) (listed' := #[true, true, true, true, true, false, false, false, false, false, false, false]) (by rfl) (by kernel_rfl) (by kernel_rfl) (opv_load_slr (enc := ic) (u := x) (fo := 0) (v := .int .i64 (d : Int)) (by rfl) na3 rfl hs hx (by rw [hd]; rfl)) (by rfl) rfl ?_
          refine da_any hap htm (i := 5) (by rfl) (by kernel_rfl) (by rfl) (listed' := #[true, true, true, true, true, true, false, false, false, false, false, false]) (by rfl) (fun _ => (opv_indexAddr (i := d) (by rfl) (by rfl) Try.underlying22 ti3 rfl (by omega))) (by rfl) rfl ?_
          refine da_now [11] hap htm (i := 6) (by rfl) (by kernel_rfl) (by rfl) (listed' := #[true, true, true, true, true, true, true, false, false, false, false, false]) (by rfl) (by kernel_rfl) (by kernel_rfl) (opv_load_fld (enc := ic) (v := .slice (some ⟨lb, 0, none⟩) 12 12) (i := d) (u := cd) (fo := 0) (w := .int .i64 cd) ic_len (by rfl) na3 (by repeat (first | exact Pk.here _ | apply Pk.there)) hcd rfl) (by rfl) rfl ?_
          refine da_any hap htm (i := 7) (by rfl) (by kernel_rfl) (by rfl) (listed' := #[true, true, true, true, true, true, true, true, false, false, false, false]) (by rfl) (fun _ => (opv_move (by rfl))) (by rfl) rfl ?_
          refine da_any hap htm (i := 8) (by rfl) (by kernel_rfl) (by rfl) (listed' := #[true, true, true, true, true, true, true, true, true, false, false, false]) (by rfl) (fun _ => (opv_move (by rfl))) (by rfl) rfl ?_
          refine da_any hap htm (i := 9) (by rfl) (by kernel_rfl) (by rfl) (listed' := #[true, true, true, true, true, true, true, true, true, true, false, false]) (by rfl) (fun _ => (opv_indexAddr (i := q) (by rfl) (by rfl) Try.underlying22 ti3 rfl (by omega))) (by rfl) rfl ?_
          refine da_now [11] hap htm (i := 10) (by rfl) (by kernel_rfl) (by rfl) (listed' := #[true, true, true, true, true, true, true, true, true, true, true, false]) (by rfl) (by kernel_rfl) (by kernel_rfl) (opv_load_fld (enc := ic) (v := .slice (some ⟨lb, 0, none⟩) 12 12) (i := q) (u := cq) (fo := 0) (w := .int .i64 cq) ic_len (by rfl) na3 (by repeat (first | exact Pk.here _ | apply Pk.there)) hcq rfl) (by rfl) rfl ?_
          refine da_any hap htm (i := 11) (by rfl) (by kernel_rfl) (by rfl) (listed' := #[true, true, true, true, true, true, true, true, true, true, true, true]) (by rfl) (fun _ => (opv_cmp (by rfl) (by rfl) (by rfl))) (by rfl) rfl ?_
          refine da_done (by kernel_rfl) ?_
          refine jk_then ?_
          refine sk_split (x := 60) (by rfl) (fun h57 => ?_) (fun h57 => ?_)
          · first | have p57 := of_decide_eq_true h57 | have p57 := of_decide_eq_false h57 | have p57 := ndT h57 | have p57 := ndF h57 | have p57 := nbT h57 | have p57 := nbF h57 | have p57 := h57
            refine sc_true (by rfl) h57 ?_
            refine sc_region ?_
            refine so_pure (opv_move (by rfl)) (by rfl) rfl ?_
            refine so_pure (opv_move (by rfl)) (by rfl) rfl ?_
            refine so_pure (opv_indexAddr_slr (i := k) (by rfl) hs (by rfl) Try.underlying22 ti3 rfl hlt) (by rfl) rfl ?_
            refine so_pure (opv_load_slr (enc := ic) (u := x) (fo := 0) (v := .int .i64 (d : Int)) (by rfl) na3 rfl hs hx (by rw [hd]; rfl)) (by rfl) rfl ?_
            refine so_pure (opv_assign (by rfl)) (by rfl) rfl ?_
            refine jo_nil ?_
            refine jk_block ?_
            refine jk_then ?_
            refine sc_region ?_
            refine so_pure (opv_move (by rfl)) (by rfl) rfl ?_
            refine so_pure (opv_add (by rfl) (by rfl) (wrap64_ok (by omega))) (by rfl) rfl ?_
            refine so_pure (opv_assign (by rfl)) (by rfl) rfl ?_
            refine jo_nil ?_
            have hs1 : foldK (pickMax (loadL lss)) xs (k + 1) = (p : Int) := by rw [foldK_step _ h1k hx, hp]; unfold pickMax; rw [if_neg (by rw [hd, at12_get hcd, at12_get hcp]; omega)]
            have hs2 : foldK (pickMin (loadL lss)) xs (k + 1) = x := by rw [foldK_step _ h1k hx, hq]; unfold pickMin; rw [if_pos (by rw [hd, at12_get hcd, at12_get hcq]; omega)]
            refine jk_round (k + 1, p, d) ⟨by omega, by omega, by rw [hs1], by rw [hs2]; exact hd, by omega, by omega⟩ (by show m - (k + 1) < m - k; omega) ⟨rfl, rfl, rfl, rfl, rfl, trivial⟩ (fun w hw => ?_)
            show St _ _ [own (.slice (some ⟨lb, 0, none⟩) 12 12) 3 1 12 ((loadL lss).flatMap ic)] _
            exact St.sel hw (by repeat (first | exact Pks.nil _ | exact Pk.here _ | apply Pk.there | apply Pks.cons))
          · first | have p57 := of_decide_eq_true h57 | have p57 := of_decide_eq_false h57 | have p57 := ndT h57 | have p57 := ndF h57 | have p57 := nbT h57 | have p57 := nbF h57 | have p57 := h57
            refine sc_false (by rfl) h57 ?_
            refine jc_skip ?_
            refine jk_block ?_
            refine jk_then ?_
            refine sc_region ?_
            refine so_pure (opv_move (by rfl)) (by rfl) rfl ?_
            refine so_pure (opv_add (by rfl) (by rfl) (wrap64_ok (by omega))) (by rfl) rfl ?_
            refine so_pure (opv_assign (by rfl)) (by rfl) rfl ?_
            refine jo_nil ?_
            have hs1 : foldK (pickMax (loadL lss)) xs (k + 1) = (p : Int) := by rw [foldK_step _ h1k hx, hp]; unfold pickMax; rw [if_neg (by rw [hd, at12_get hcd, at12_get hcp]; omega)]
            have hs2 : foldK (pickMin (loadL lss)) xs (k + 1) = (q : Int) := by rw [foldK_step _ h1k hx, hq]; unfold pickMin; rw [if_neg (by rw [hd, at12_get hcd, at12_get hcq]; omega)]
            refine jk_round (k + 1, p, q) ⟨by omega, by omega, by rw [hs1], by rw [hs2], by omega, by omega⟩ (by show m - (k + 1) < m - k; omega) ⟨rfl, rfl, rfl, rfl, rfl, trivial⟩ (fun w hw => ?_)
            show St _ _ [own (.slice (some ⟨lb, 0, none⟩) 12 12) 3 1 12 ((loadL lss).flatMap ic)] _
            exact St.sel hw (by repeat (first | exact Pks.nil _ | exact Pk.here _ | apply Pk.there | apply Pks.cons))
      · first | have p20 := of_decide_eq_true h20 | have p20 := of_decide_eq_false h20 | have p20 := ndT h20 | have p20 := ndF h20 | have p20 := nbT h20 | have p20 := nbF h20 | have p20 := h20
        refine sc_false (by rfl) h20 ?_
        refine jc_exit ?_
        refine jk_then_exit ?_
        refine jk_then_exit ?_
        refine jk_block_exit ?_
        refine jk_then ?_
        refine jc_seq ?_
        have ek : k = xs.length := by have := hs.1; omega
        rw [ek, hmo] at hp
        rw [ek, hle] at hq
        obtain rfl : p = mo := by omega
        obtain rfl : q = le := by omega
        obtain ⟨x, hx, hx0, hx1⟩ := hb.get hp12
        obtain ⟨y, hy, hy0, hy1⟩ := hb.get hq12
        refine so_draw [] (by kernel_rfl) (by kernel_rfl) (by kernel_rfl) rfl (by rfl) (fun hap htm => ?_)
        refine da_any hap htm (i := 0) (by rfl) (by kernel_rfl) (by rfl) (listed' := #[true, false, false, false, false, false, false, false, false, false, false, false, false, false, false]) (by rfl) (fun _ => (opv_move (by rfl))) (by rfl) rfl ?_
        refine da_any hap htm (i := 1) (by rfl) (by kernel_rfl) (by rfl) (listed' := #[true, true, false, false, false, false, false, false, false, false, false, false, false, false, false]) (by rfl) (fun _ => (opv_move (by rfl))) (by rfl) rfl ?_
        refine da_any hap htm (i := 2) (by rfl) (by kernel_rfl) (by rfl) (listed' := #[true, true, true, false, false, false, false, false, false, false, false, false, false, false, false]) (by rfl) (fun _ => (opv_move (by rfl))) (by rfl) rfl ?_
        refine da_any hap htm (i := 3) (by rfl) (by kernel_rfl) (by rfl) (listed' := #[true, true, true, true, false, false, false, false, false, false, false, false, false, false, false]) (by rfl) (fun _ => (opv_move (by rfl))) (by rfl) rfl ?_
        refine da_any hap htm (i := 4) (by rfl) (by kernel_rfl) (by rfl) (listed' := #[true, true, true, true, true, false, false, false, false, false, false, false, false, false, false]) (by rfl) (fun _ => (opv_indexAddr (i := p) (by rfl) (by rfl) Try.underlying22 ti3 rfl (by omega))) (by rfl) rfl ?_
        refine da_now [11, 14] hap htm (i := 5) (by rfl) (by kernel_rfl) (by rfl) (listed' := #[true, true, true, true, true, true, false, false, false, false, false, false, false, false, false]) (by rfl) (by kernel_rfl) (by kernel_rfl) (opv_load_fld (enc := ic) (v := .slice (some ⟨lb, 0, none⟩) 12 12) (i := p) (u := x) (fo := 0) (w := .int .i64 x) ic_len (by rfl) na3 (by repeat (first | exact Pk.here _ | apply Pk.there)) hx rfl) (by rfl) rfl ?_
        refine da_any hap htm (i := 6) (by rfl) (by kernel_rfl) (by rfl) (listed' := #[true, true, true, true, true, true, true, false, false, false, false, false, false, false, false]) (by rfl) (fun _ => (opv_move (by rfl))) (by rfl) rfl ?_
        refine da_any hap htm (i := 7) (by rfl) (by kernel_rfl) (by rfl) (listed' := #[true, true, true, true, true, true, true, true, false, false, false, false, false, false, false]) (by rfl) (fun _ => (opv_move (by rfl))) (by rfl) rfl ?_
        refine da_any hap htm (i := 8) (by rfl) (by kernel_rfl) (by rfl) (listed' := #[true, true, true, true, true, true, true, true, true, false, false, false, false, false, false]) (by rfl) (fun _ => (opv_indexAddr (i := q) (by rfl) (by rfl) Try.underlying22 ti3 rfl (by omega))) (by rfl) rfl ?_
        refine da_now [10, 11, 14] hap htm (i := 9) (by rfl) (by kernel_rfl) (by rfl) (listed' := #[true, true, true, true, true, true, true, true, true, true, false, false, false, false, false]) (by rfl) (by kernel_rfl) (by kernel_rfl) (opv_load_fld (enc := ic) (v := .slice (some ⟨lb, 0, none⟩) 12 12) (i := q) (u := y) (fo := 0) (w := .int .i64 y) ic_len (by rfl) na3 (by repeat (first | exact Pk.here _ | apply Pk.there)) hy rfl) (by rfl) rfl ?_
        refine da_any hap htm (i := 10) (by rfl) (by kernel_rfl) (by rfl) (listed' := #[true, true, true, true, true, true, true, true, true, true, true, false, false, false, false]) (by rfl) (fun _ => (opv_add (by rfl) (by rfl) (wrap64_ok (by omega)))) (by rfl) rfl ?_
        refine da_any hap htm (i := 11) (by rfl) (by kernel_rfl) (by rfl) (listed' := #[true, true, true, true, true, true, true, true, true, true, true, true, false, false, false]) (by rfl) (fun _ => (opv_cmp (by rfl) (by rfl) (by rfl))) (by rfl) rfl ?_
        refine da_any hap htm (i := 12) (by rfl) (by kernel_rfl) (by rfl) (listed' := #[true, true, true, true, true, true, true, true, true, true, true, true, true, false, false]) (by rfl) (fun _ => (opv_assign (by rfl))) (by rfl) rfl ?_
        refine da_any hap htm (i := 13) (by rfl) (by kernel_rfl) (by rfl) (listed' := #[true, true, true, true, true, true, true, true, true, true, true, true, true, true, false]) (by rfl) (fun _ => (opv_assign (by rfl))) (by rfl) rfl ?_
        refine da_any hap htm (i := 14) (by rfl) (by kernel_rfl) (by rfl) (listed' := #[true, true, true, true, true, true, true, true, true, true, true, true, true, true, true]) (by rfl) (fun _ => (opv_assign (by rfl))) (by rfl) rfl ?_
        refine da_done (by kernel_rfl) ?_
        refine jk_then ?_
        refine jc_ret ?_
        refine jk_fn_ret3 rfl rfl (by rfl) (by rfl) (by rfl) (fun w hw => ?_)
        have e : evenR (loadL lss) xs = ((p : Int), (q : Int), decide (y + 2 ≤ x)) := by unfold evenR; rw [if_neg hne, hmo, hle, at12_get hx, at12_get hy]
        rw [e]
        exact ⟨rfl, hw.forget⟩
end Go.Place
