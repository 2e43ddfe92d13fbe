/- A part of a proof for the laws of the seat Ytmhdjmbckgamlaa; it has no conditions of its own. -/
import Derived.Test.YtmhdjmbckgamlaaPlFacts
namespace Go.Place
open Go Go.SL Go.Proofs
set_option maxHeartbeats 4000000 in
theorem are_spec (w : World) (A : Option Addr) (n c : Nat) (xs : List Int) (hs : SlR w 3 1 ic A n xs) (hn : n ≤ 1000000) : Does Try.prog 20 #[.slice A n c] w (fun v w' => v = .bool (areL xs) ∧ St w Emp [] w') := by
  refine fn_body (fn := Try.f20) Try.func20 rfl [(0, .slice A n c)] (by exact ⟨rfl, trivial⟩) rfl (St.start w) ?_
  refine jc_seq ?_
  refine sc_region ?_
  refine so_pure (opv_assign (by rfl)) (by rfl) rfl ?_
  refine jo_nil ?_
  refine jk_then ?_
  refine jc_seq ?_
  refine sc_region ?_
  refine so_pure (opv_assign (by rfl)) (by rfl) rfl ?_
  refine jo_nil ?_
  refine jk_then ?_
  refine jc_seq ?_
  refine jc_seq ?_
  refine sc_region ?_
  refine so_pure (opv_move (by rfl)) (by rfl) rfl ?_
  refine so_pure (opv_len_slice (by rfl) Try.underlying22) (by rfl) rfl ?_
  refine so_pure (opv_move (by rfl)) (by rfl) rfl ?_
  refine jo_nil ?_
  refine jk_then ?_
  refine jc_block ?_
  refine jc_loop (σ := Nat × Int) (fun (k, last) => [(0, .slice A n c), (3, .int .i64 last), (6, .slice A n c), (7, .int .i64 n), (8, .int .i64 k)]) (fun (k, last) => []) (fun (k, last) => (k ≤ n) ∧ (areL xs = areFrom last (xs.drop k))) (fun (k, last) => n - k) (0, -1) ⟨Nat.zero_le _, rfl⟩ ⟨rfl, rfl, rfl, rfl, rfl, trivial⟩ (fun w hw => St.sel hw (by repeat (first | exact Pks.nil _ | exact Pk.here _ | apply Pk.there | apply Pks.cons))) ?_
  rintro ⟨k, last⟩ ⟨hk, ha⟩
  show Jc _ _ [(0, .slice A n c), (3, .int .i64 last), (6, .slice A n c), (7, .int .i64 n), (8, .int .i64 k)] [] _
  refine jc_seq ?_
  refine sc_region ?_
  refine so_pure (opv_cmp (by rfl) (by rfl) (by rfl)) (by rfl) rfl ?_
  refine jo_nil ?_
  refine jk_then ?_
  refine jc_seq ?_
  refine sk_split (x := 9) (by rfl) (fun h5 => ?_) (fun h5 => ?_)
  · first | have p5 := of_decide_eq_true h5 | have p5 := of_decide_eq_false h5 | have p5 := ndT h5 | have p5 := ndF h5 | have p5 := nbT h5 | have p5 := nbF h5 | have p5 := h5
    refine sc_true (by rfl) h5 ?_
    refine jc_skip ?_
    refine jk_then ?_
    refine jc_seq ?_
    refine jc_block ?_
    refine jc_seq ?_
    have hlt : k < n := by omega
    obtain ⟨_, _, _, _, x, _, _, hx, _⟩ := hs.get hlt
    refine sc_region ?_
    refine so_pure (opv_indexAddr_slr (i := k) (by rfl) hs (by rfl) Try.underlying22 ti3 rfl hlt) (by rfl) rfl ?_
    refine so_pure (opv_load_slr (enc := ic) (u := x) (fo := 0) (v := .int .i64 x) (by rfl) na3 rfl hs hx rfl) (by rfl) rfl ?_
    refine so_pure (opv_assign (by rfl)) (by rfl) rfl ?_
    refine jo_nil ?_
    refine jk_then ?_
    refine jc_seq ?_
    refine jc_seq ?_
    refine sc_region ?_
    refine so_pure (opv_move (by rfl)) (by rfl) rfl ?_
    refine so_pure (opv_move (by rfl)) (by rfl) rfl ?_
    refine so_pure (opv_cmp (by rfl) (by rfl) (by rfl)) (by rfl) rfl ?_
    refine so_pure (opv_move (by rfl)) (by rfl) rfl ?_
    refine sk_split (x := 15) (by rfl) (fun h9 => ?_) (fun h9 => ?_)
    · first | have p9 := of_decide_eq_true h9 | have p9 := of_decide_eq_false h9 | have p9 := ndT h9 | have p9 := ndF h9 | have p9 := nbT h9 | have p9 := nbF h9 | have p9 := h9
      refine so_skip (wtd_not rfl rfl (by rfl) h9) rfl ?_
      refine so_skip (wtd_not rfl rfl (by rfl) h9) rfl ?_
      refine so_pure (sv_pick_t (by rfl) h9 (by rfl)) (by rfl) rfl ?_
      refine jo_nil ?_
      refine jk_then ?_
      refine sc_true (by rfl) rfl ?_
      refine jc_seq ?_
      refine sc_region ?_
      refine so_pure (opv_assign (by rfl)) (by rfl) rfl ?_
      refine jo_nil ?_
      refine jk_then ?_
      refine jc_ret ?_
      refine jk_then_ret ?_
      refine jk_block_ret ?_
      refine jk_then_ret ?_
      refine jk_then_ret ?_
      refine jk_block_ret ?_
      refine jk_then_ret ?_
      refine jk_fn_ret rfl rfl (by rfl) (fun w hw => ?_)
      rw [drop_cons hx, are_stop (by omega)] at ha
      rw [ha]
      exact ⟨rfl, hw.forget⟩
    · first | have p9 := of_decide_eq_true h9 | have p9 := of_decide_eq_false h9 | have p9 := ndT h9 | have p9 := ndF h9 | have p9 := nbT h9 | have p9 := nbF h9 | have p9 := h9
      refine so_pure (opv_move (by rfl)) (wtd_run rfl rfl (by rfl) h9) rfl ?_
      refine so_pure (opv_cmp (by rfl) (by rfl) (by rfl)) (wtd_run rfl rfl (by rfl) h9) rfl ?_
      refine so_pure (sv_pick_f (by rfl) h9 (by rfl)) (by rfl) rfl ?_
      refine jo_nil ?_
      refine jk_then ?_
      refine sk_split (x := 18) (by rfl) (fun h10 => ?_) (fun h10 => ?_)
      · first | have p10 := of_decide_eq_true h10 | have p10 := of_decide_eq_false h10 | have p10 := ndT h10 | have p10 := ndF h10 | have p10 := nbT h10 | have p10 := nbF h10 | have p10 := h10
        refine sc_true (by rfl) h10 ?_
        refine jc_seq ?_
        refine sc_region ?_
        refine so_pure (opv_assign (by rfl)) (by rfl) rfl ?_
        refine jo_nil ?_
        refine jk_then ?_
        refine jc_ret ?_
        refine jk_then_ret ?_
        refine jk_block_ret ?_
        refine jk_then_ret ?_
        refine jk_then_ret ?_
        refine jk_block_ret ?_
        refine jk_then_ret ?_
        refine jk_fn_ret rfl rfl (by rfl) (fun w hw => ?_)
        rw [drop_cons hx, are_stop (by omega)] at ha
        rw [ha]
        exact ⟨rfl, hw.forget⟩
      · first | have p10 := of_decide_eq_true h10 | have p10 := of_decide_eq_false h10 | have p10 := ndT h10 | have p10 := ndF h10 | have p10 := nbT h10 | have p10 := nbF h10 | have p10 := h10
        refine sc_false (by rfl) h10 ?_
        refine jc_skip ?_
        refine jk_then ?_
        refine sc_region ?_
        refine so_pure (opv_move (by rfl)) (by rfl) rfl ?_
        refine so_pure (opv_assign (by rfl)) (by rfl) rfl ?_
        refine jo_nil ?_
        refine jk_block ?_
        refine jk_then ?_
        refine sc_region ?_
        refine so_pure (opv_add (by rfl) (by rfl) (wrap64_ok (by omega))) (by rfl) rfl ?_
        refine so_pure (opv_move (by rfl)) (by rfl) rfl ?_
        refine jo_nil ?_
        rw [drop_cons hx, are_go (by omega) (by omega)] at ha
        refine jk_round (k + 1, x) ⟨by omega, ha⟩ (by show n - (k + 1) < n - k; omega) ⟨rfl, rfl, rfl, rfl, rfl, trivial⟩ (fun w hw => ?_)
        show St _ _ [] _
        exact St.sel hw (by repeat (first | exact Pks.nil _ | exact Pk.here _ | apply Pk.there | apply Pks.cons))
  · first | have p5 := of_decide_eq_true h5 | have p5 := of_decide_eq_false h5 | have p5 := ndT h5 | have p5 := ndF h5 | have p5 := nbT h5 | have p5 := nbF h5 | have p5 := h5
    refine sc_false (by rfl) h5 ?_
    refine jc_exit ?_
    refine jk_then_exit ?_
    refine jk_then_exit ?_
    refine jk_block_exit ?_
    refine jk_then ?_
    refine jc_seq ?_
    refine sc_region ?_
    refine so_pure (opv_assign (by rfl)) (by rfl) rfl ?_
    refine jo_nil ?_
    refine jk_then ?_
    refine jc_ret ?_
    refine jk_fn_ret rfl rfl (by rfl) (fun w hw => ?_)
    rw [List.drop_eq_nil_of_le (by have := hs.1; omega)] at ha
    rw [ha]
    exact ⟨rfl, hw.forget⟩
set_option maxHeartbeats 4000000 in
theorem reflive_spec (w : World) (A : Option Addr) (n c : Nat) (xs : List Int) (hs : SlR w 3 1 ic A n xs) (hn : n ≤ 1000000) : Does Try.prog 23 #[.slice A n c] w (fun v w' => v = .bool (areL xs) ∧ St w Emp [] w') := by
  refine fn_body (fn := Try.f23) Try.func23 rfl [(0, .slice A n c)] (by exact ⟨rfl, trivial⟩) rfl (St.start w) ?_
  refine jc_seq ?_
  refine sc_region ?_
  refine so_pure (opv_assign (by rfl)) (by rfl) rfl ?_
  refine jo_nil ?_
  refine jk_then ?_
  refine jc_seq ?_
  refine jc_seq ?_
  refine sc_region ?_
  refine so_pure (opv_assign (by rfl)) (by rfl) rfl ?_
  refine jo_nil ?_
  refine jk_then ?_
  refine jc_block ?_
  refine jc_loop (σ := Nat) (fun k => [(0, .slice A n c), (3, .int .i64 k)]) (fun k => []) (fun k => (k ≤ n) ∧ (areL xs = areFrom (prev xs k) (xs.drop k)) ∧ (-1 ≤ prev xs k)) (fun k => n - k) 0 ⟨Nat.zero_le _, rfl, by unfold prev; simp⟩ ⟨rfl, rfl, trivial⟩ (fun w hw => St.sel hw (by repeat (first | exact Pks.nil _ | exact Pk.here _ | apply Pk.there | apply Pks.cons))) ?_
  rintro k ⟨hk, ha, hp⟩
  show Jc _ _ [(0, .slice A n c), (3, .int .i64 k)] [] _
  refine jc_seq ?_
  refine jc_seq ?_
  refine sc_region ?_
  refine so_pure (opv_move (by rfl)) (by rfl) rfl ?_
  refine so_pure (opv_move (by rfl)) (by rfl) rfl ?_
  refine so_pure (opv_len_slice (by rfl) Try.underlying22) (by rfl) rfl ?_
  refine so_pure (opv_cmp (by rfl) (by rfl) (by rfl)) (by rfl) rfl ?_
  refine jo_nil ?_
  refine jk_then ?_
  refine sk_split (x := 7) (by rfl) (fun h5 => ?_) (fun h5 => ?_)
  · first | have p5 := of_decide_eq_true h5 | have p5 := of_decide_eq_false h5 | have p5 := ndT h5 | have p5 := ndF h5 | have p5 := nbT h5 | have p5 := nbF h5 | have p5 := h5
    refine sc_true (by rfl) h5 ?_
    refine jc_skip ?_
    refine jk_then ?_
    refine jc_seq ?_
    refine jc_block ?_
    refine jc_seq ?_
    have hlt : k < n := by omega
    obtain ⟨_, _, _, _, x, _, _, hx, _⟩ := hs.get hlt
    refine so_draw [] (by kernel_rfl) (by kernel_rfl) (by kernel_rfl) rfl (by rfl) (fun hap htm => ?_)
    refine da_any hap htm (i := 0) (by rfl) (by kernel_rfl) (by rfl) (listed' := #[true, false, false, false, false, false, false, false, false, false, false, false, false, false, false, false, false, false, false, false, false, false, false, false, false, false, false, false]) (by rfl) (fun _ => (opv_move (by rfl))) (by rfl) rfl ?_
    refine da_any hap htm (i := 1) (by rfl) (by kernel_rfl) (by rfl) (listed' := #[true, true, false, false, false, false, false, false, false, false, false, false, false, false, false, false, false, false, false, false, false, false, false, false, false, false, false, false]) (by rfl) (fun _ => (opv_move (by rfl))) (by rfl) rfl ?_
    refine da_any hap htm (i := 2) (by rfl) (by kernel_rfl) (by rfl) (listed' := #[true, true, true, false, false, false, false, false, false, false, false, false, false, false, false, false, false, false, false, false, false, false, false, false, false, false, false, false]) (by rfl) (fun _ => (opv_indexAddr_slr (i := k) (by rfl) hs (by rfl) Try.underlying22 ti3 rfl hlt)) (by rfl) rfl ?_
    refine da_now [4, 5, 6, 7, 8, 9, 10, 11, 12, 13, 14, 15, 16, 17, 18, 19, 20, 21, 22, 23, 24, 25, 26, 27] hap htm (i := 3) (by rfl) (by kernel_rfl) (by rfl) (listed' := #[true, true, true, true, false, false, false, false, false, false, false, false, false, false, false, false, false, false, false, false, false, false, false, false, false, false, false, false]) (by rfl) (by kernel_rfl) (by kernel_rfl) (opv_load_slr (enc := ic) (u := x) (fo := 0) (v := .int .i64 x) (by rfl) na3 rfl hs hx rfl) (by rfl) rfl ?_
    refine da_any hap htm (i := 4) (by rfl) (by kernel_rfl) (by rfl) (listed' := #[true, true, true, true, true, false, false, false, false, false, false, false, false, false, false, false, false, false, false, false, false, false, false, false, false, false, false, false]) (by rfl) (fun _ => (opv_cmp (by rfl) (by rfl) (by rfl))) (by rfl) rfl ?_
    refine da_any hap htm (i := 5) (by rfl) (by kernel_rfl) (by rfl) (listed' := #[true, true, true, true, true, true, false, false, false, false, false, false, false, false, false, false, false, false, false, false, false, false, false, false, false, false, false, false]) (by rfl) (fun _ => (opv_move (by rfl))) (by rfl) rfl ?_
    refine sk_split (x := 15) (by rfl) (fun h9 => ?_) (fun h9 => ?_)
    · first | have p9 := of_decide_eq_true h9 | have p9 := of_decide_eq_false h9 | have p9 := ndT h9 | have p9 := ndF h9 | have p9 := nbT h9 | have p9 := nbF h9 | have p9 := h9
      refine da_skip hap htm (i := 6) (by rfl) (by kernel_rfl) (listed' := #[true, true, true, true, true, true, true, false, false, false, false, false, false, false, false, false, false, false, false, false, false, false, false, false, false, false, false, false]) (by rfl) (wtd_not rfl rfl (by rfl) h9) rfl ?_
      refine da_skip hap htm (i := 7) (by rfl) (by kernel_rfl) (listed' := #[true, true, true, true, true, true, true, true, false, false, false, false, false, false, false, false, false, false, false, false, false, false, false, false, false, false, false, false]) (by rfl) (wtd_not rfl rfl (by rfl) h9) rfl ?_
      refine da_skip hap htm (i := 8) (by rfl) (by kernel_rfl) (listed' := #[true, true, true, true, true, true, true, true, true, false, false, false, false, false, false, false, false, false, false, false, false, false, false, false, false, false, false, false]) (by rfl) (wtd_not rfl rfl (by rfl) h9) rfl ?_
      refine da_skip hap htm (i := 9) (by rfl) (by kernel_rfl) (listed' := #[true, true, true, true, true, true, true, true, true, true, false, false, false, false, false, false, false, false, false, false, false, false, false, false, false, false, false, false]) (by rfl) (wtd_not rfl rfl (by rfl) h9) rfl ?_
      refine da_skip hap htm (i := 10) (by rfl) (by kernel_rfl) (listed' := #[true, true, true, true, true, true, true, true, true, true, true, false, false, false, false, false, false, false, false, false, false, false, false, false, false, false, false, false]) (by rfl) (wtd_not rfl rfl (by rfl) h9) rfl ?_
      refine da_any hap htm (i := 11) (by rfl) (by kernel_rfl) (by rfl) (listed' := #[true, true, true, true, true, true, true, true, true, true, true, true, false, false, false, false, false, false, false, false, false, false, false, false, false, false, false, false]) (by rfl) (fun _ => (sv_pick_t (by rfl) h9 (by rfl))) (by rfl) rfl ?_
      refine da_any hap htm (i := 12) (by rfl) (by kernel_rfl) (by rfl) (listed' := #[true, true, true, true, true, true, true, true, true, true, true, true, true, false, false, false, false, false, false, false, false, false, false, false, false, false, false, false]) (by rfl) (fun _ => (opv_move (by rfl))) (by rfl) rfl ?_
      refine da_skip hap htm (i := 13) (by rfl) (by kernel_rfl) (listed' := #[true, true, true, true, true, true, true, true, true, true, true, true, true, true, false, false, false, false, false, false, false, false, false, false, false, false, false, false]) (by rfl) (wtd_not rfl rfl (by rfl) rfl) rfl ?_
      refine da_skip hap htm (i := 14) (by rfl) (by kernel_rfl) (listed' := #[true, true, true, true, true, true, true, true, true, true, true, true, true, true, true, false, false, false, false, false, false, false, false, false, false, false, false, false]) (by rfl) (wtd_not rfl rfl (by rfl) rfl) rfl ?_
      refine da_skip hap htm (i := 15) (by rfl) (by kernel_rfl) (listed' := #[true, true, true, true, true, true, true, true, true, true, true, true, true, true, true, true, false, false, false, false, false, false, false, false, false, false, false, false]) (by rfl) (wtd_not rfl rfl (by rfl) rfl) rfl ?_
      refine da_skip hap htm (i := 16) (by rfl) (by kernel_rfl) (listed' := #[true, true, true, true, true, true, true, true, true, true, true, true, true, true, true, true, true, false, false, false, false, false, false, false, false, false, false, false]) (by rfl) (wtd_undef rfl rfl (by rfl)) rfl ?_
      refine da_skip hap htm (i := 17) (by rfl) (by kernel_rfl) (listed' := #[true, true, true, true, true, true, true, true, true, true, true, true, true, true, true, true, true, true, false, false, false, false, false, false, false, false, false, false]) (by rfl) (wtd_undef rfl rfl (by rfl)) rfl ?_
      refine da_skip hap htm (i := 18) (by rfl) (by kernel_rfl) (listed' := #[true, true, true, true, true, true, true, true, true, true, true, true, true, true, true, true, true, true, true, false, false, false, false, false, false, false, false, false]) (by rfl) (wtd_undef rfl rfl (by rfl)) rfl ?_
      refine da_skip hap htm (i := 19) (by rfl) (by kernel_rfl) (listed' := #[true, true, true, true, true, true, true, true, true, true, true, true, true, true, true, true, true, true, true, true, false, false, false, false, false, false, false, false]) (by rfl) (wtd_undef rfl rfl (by rfl)) rfl ?_
      refine da_skip hap htm (i := 20) (by rfl) (by kernel_rfl) (listed' := #[true, true, true, true, true, true, true, true, true, true, true, true, true, true, true, true, true, true, true, true, true, false, false, false, false, false, false, false]) (by rfl) (wtd_undef rfl rfl (by rfl)) rfl ?_
      refine da_skip hap htm (i := 21) (by rfl) (by kernel_rfl) (listed' := #[true, true, true, true, true, true, true, true, true, true, true, true, true, true, true, true, true, true, true, true, true, true, false, false, false, false, false, false]) (by rfl) (wtd_undef rfl rfl (by rfl)) rfl ?_
      refine da_skip hap htm (i := 22) (by rfl) (by kernel_rfl) (listed' := #[true, true, true, true, true, true, true, true, true, true, true, true, true, true, true, true, true, true, true, true, true, true, true, false, false, false, false, false]) (by rfl) (wtd_undef rfl rfl (by rfl)) rfl ?_
      refine da_skip hap htm (i := 23) (by rfl) (by kernel_rfl) (listed' := #[true, true, true, true, true, true, true, true, true, true, true, true, true, true, true, true, true, true, true, true, true, true, true, true, false, false, false, false]) (by rfl) (wtd_undef rfl rfl (by rfl)) rfl ?_
      refine da_skip hap htm (i := 24) (by rfl) (by kernel_rfl) (listed' := #[true, true, true, true, true, true, true, true, true, true, true, true, true, true, true, true, true, true, true, true, true, true, true, true, true, false, false, false]) (by rfl) (wtd_undef rfl rfl (by rfl)) rfl ?_
      refine da_skip hap htm (i := 25) (by rfl) (by kernel_rfl) (listed' := #[true, true, true, true, true, true, true, true, true, true, true, true, true, true, true, true, true, true, true, true, true, true, true, true, true, true, false, false]) (by rfl) (wtd_undef rfl rfl (by rfl)) rfl ?_
      refine da_skip hap htm (i := 26) (by rfl) (by kernel_rfl) (listed' := #[true, true, true, true, true, true, true, true, true, true, true, true, true, true, true, true, true, true, true, true, true, true, true, true, true, true, true, false]) (by rfl) (wtd_not rfl rfl (by rfl) rfl) rfl ?_
      refine da_any hap htm (i := 27) (by rfl) (by kernel_rfl) (by rfl) (listed' := #[true, true, true, true, true, true, true, true, true, true, true, true, true, true, true, true, true, true, true, true, true, true, true, true, true, true, true, true]) (by rfl) (fun _ => (sv_pick_t (by rfl) rfl (by rfl))) (by rfl) rfl ?_
      refine da_done (by kernel_rfl) ?_
      refine jk_then ?_
      refine sc_true (by rfl) rfl ?_
      refine jc_seq ?_
      refine sc_region ?_
      refine so_pure (opv_assign (by rfl)) (by rfl) rfl ?_
      refine jo_nil ?_
      refine jk_then ?_
      refine jc_ret ?_
      refine jk_block_ret ?_
      refine jk_then_ret ?_
      refine jk_then_ret ?_
      refine jk_block_ret ?_
      refine jk_then_ret ?_
      refine jk_fn_ret rfl rfl (by rfl) (fun w hw => ?_)
      rw [drop_cons hx, are_stop (by omega)] at ha
      rw [ha]
      exact ⟨rfl, hw.forget⟩
    · first | have p9 := of_decide_eq_true h9 | have p9 := of_decide_eq_false h9 | have p9 := ndT h9 | have p9 := ndF h9 | have p9 := nbT h9 | have p9 := nbF h9 | have p9 := h9
      refine da_any hap htm (i := 6) (by rfl) (by kernel_rfl) (by rfl) (listed' := #[true, true, true, true, true, true, true, false, false, false, false, false, false, false, false, false, false, false, false, false, false, false, false, false, false, false, false, false]) (by rfl) (fun _ => (opv_move (by rfl))) (wtd_run rfl rfl (by rfl) h9) rfl ?_
      refine da_any hap htm (i := 7) (by rfl) (by kernel_rfl) (by rfl) (listed' := #[true, true, true, true, true, true, true, true, false, false, false, false, false, false, false, false, false, false, false, false, false, false, false, false, false, false, false, false]) (by rfl) (fun _ => (opv_move (by rfl))) (wtd_run rfl rfl (by rfl) h9) rfl ?_
      refine da_any hap htm (i := 8) (by rfl) (by kernel_rfl) (by rfl) (listed' := #[true, true, true, true, true, true, true, true, true, false, false, false, false, false, false, false, false, false, false, false, false, false, false, false, false, false, false, false]) (by rfl) (fun _ => (opv_indexAddr_slr (i := k) (by rfl) hs (by rfl) Try.underlying22 ti3 rfl hlt)) (wtd_run rfl rfl (by rfl) h9) rfl ?_
      refine da_now [10, 11, 12, 13, 14, 15, 16, 17, 18, 19, 20, 21, 22, 23, 24, 25, 26, 27] hap htm (i := 9) (by rfl) (by kernel_rfl) (by rfl) (listed' := #[true, true, true, true, true, true, true, true, true, true, false, false, false, false, false, false, false, false, false, false, false, false, false, false, false, false, false, false]) (by rfl) (by kernel_rfl) (by kernel_rfl) (opv_load_slr (enc := ic) (u := x) (fo := 0) (v := .int .i64 x) (by rfl) na3 rfl hs hx rfl) (wtd_run rfl rfl (by rfl) h9) rfl ?_
      refine da_any hap htm (i := 10) (by rfl) (by kernel_rfl) (by rfl) (listed' := #[true, true, true, true, true, true, true, true, true, true, true, false, false, false, false, false, false, false, false, false, false, false, false, false, false, false, false, false]) (by rfl) (fun _ => (opv_cmp (by rfl) (by rfl) (by rfl))) (wtd_run rfl rfl (by rfl) h9) rfl ?_
      refine da_any hap htm (i := 11) (by rfl) (by kernel_rfl) (by rfl) (listed' := #[true, true, true, true, true, true, true, true, true, true, true, true, false, false, false, false, false, false, false, false, false, false, false, false, false, false, false, false]) (by rfl) (fun _ => (sv_pick_f (by rfl) h9 (by rfl))) (by rfl) rfl ?_
      refine da_any hap htm (i := 12) (by rfl) (by kernel_rfl) (by rfl) (listed' := #[true, true, true, true, true, true, true, true, true, true, true, true, true, false, false, false, false, false, false, false, false, false, false, false, false, false, false, false]) (by rfl) (fun _ => (opv_move (by rfl))) (by rfl) rfl ?_
      refine sk_split (x := 22) (by rfl) (fun h13 => ?_) (fun h13 => ?_)
      · first | have p13 := of_decide_eq_true h13 | have p13 := of_decide_eq_false h13 | have p13 := ndT h13 | have p13 := ndF h13 | have p13 := nbT h13 | have p13 := nbF h13 | have p13 := h13
        refine da_skip hap htm (i := 13) (by rfl) (by kernel_rfl) (listed' := #[true, true, true, true, true, true, true, true, true, true, true, true, true, true, false, false, false, false, false, false, false, false, false, false, false, false, false, false]) (by rfl) (wtd_not rfl rfl (by rfl) h13) rfl ?_
        refine da_skip hap htm (i := 14) (by rfl) (by kernel_rfl) (listed' := #[true, true, true, true, true, true, true, true, true, true, true, true, true, true, true, false, false, false, false, false, false, false, false, false, false, false, false, false]) (by rfl) (wtd_not rfl rfl (by rfl) h13) rfl ?_
        refine da_skip hap htm (i := 15) (by rfl) (by kernel_rfl) (listed' := #[true, true, true, true, true, true, true, true, true, true, true, true, true, true, true, true, false, false, false, false, false, false, false, false, false, false, false, false]) (by rfl) (wtd_not rfl rfl (by rfl) h13) rfl ?_
        refine da_skip hap htm (i := 16) (by rfl) (by kernel_rfl) (listed' := #[true, true, true, true, true, true, true, true, true, true, true, true, true, true, true, true, true, false, false, false, false, false, false, false, false, false, false, false]) (by rfl) (wtd_undef rfl rfl (by rfl)) rfl ?_
        refine da_skip hap htm (i := 17) (by rfl) (by kernel_rfl) (listed' := #[true, true, true, true, true, true, true, true, true, true, true, true, true, true, true, true, true, true, false, false, false, false, false, false, false, false, false, false]) (by rfl) (wtd_undef rfl rfl (by rfl)) rfl ?_
        refine da_skip hap htm (i := 18) (by rfl) (by kernel_rfl) (listed' := #[true, true, true, true, true, true, true, true, true, true, true, true, true, true, true, true, true, true, true, false, false, false, false, false, false, false, false, false]) (by rfl) (wtd_undef rfl rfl (by rfl)) rfl ?_
        refine da_skip hap htm (i := 19) (by rfl) (by kernel_rfl) (listed' := #[true, true, true, true, true, true, true, true, true, true, true, true, true, true, true, true, true, true, true, true, false, false, false, false, false, false, false, false]) (by rfl) (wtd_undef rfl rfl (by rfl)) rfl ?_
        refine da_skip hap htm (i := 20) (by rfl) (by kernel_rfl) (listed' := #[true, true, true, true, true, true, true, true, true, true, true, true, true, true, true, true, true, true, true, true, true, false, false, false, false, false, false, false]) (by rfl) (wtd_undef rfl rfl (by rfl)) rfl ?_
        refine da_skip hap htm (i := 21) (by rfl) (by kernel_rfl) (listed' := #[true, true, true, true, true, true, true, true, true, true, true, true, true, true, true, true, true, true, true, true, true, true, false, false, false, false, false, false]) (by rfl) (wtd_undef rfl rfl (by rfl)) rfl ?_
        refine da_skip hap htm (i := 22) (by rfl) (by kernel_rfl) (listed' := #[true, true, true, true, true, true, true, true, true, true, true, true, true, true, true, true, true, true, true, true, true, true, true, false, false, false, false, false]) (by rfl) (wtd_undef rfl rfl (by rfl)) rfl ?_
        refine da_skip hap htm (i := 23) (by rfl) (by kernel_rfl) (listed' := #[true, true, true, true, true, true, true, true, true, true, true, true, true, true, true, true, true, true, true, true, true, true, true, true, false, false, false, false]) (by rfl) (wtd_undef rfl rfl (by rfl)) rfl ?_
        refine da_skip hap htm (i := 24) (by rfl) (by kernel_rfl) (listed' := #[true, true, true, true, true, true, true, true, true, true, true, true, true, true, true, true, true, true, true, true, true, true, true, true, true, false, false, false]) (by rfl) (wtd_undef rfl rfl (by rfl)) rfl ?_
        refine da_skip hap htm (i := 25) (by rfl) (by kernel_rfl) (listed' := #[true, true, true, true, true, true, true, true, true, true, true, true, true, true, true, true, true, true, true, true, true, true, true, true, true, true, false, false]) (by rfl) (wtd_undef rfl rfl (by rfl)) rfl ?_
        refine da_skip hap htm (i := 26) (by rfl) (by kernel_rfl) (listed' := #[true, true, true, true, true, true, true, true, true, true, true, true, true, true, true, true, true, true, true, true, true, true, true, true, true, true, true, false]) (by rfl) (wtd_not rfl rfl (by rfl) h13) rfl ?_
        refine da_any hap htm (i := 27) (by rfl) (by kernel_rfl) (by rfl) (listed' := #[true, true, true, true, true, true, true, true, true, true, true, true, true, true, true, true, true, true, true, true, true, true, true, true, true, true, true, true]) (by rfl) (fun _ => (sv_pick_t (by rfl) h13 (by rfl))) (by rfl) rfl ?_
        refine da_done (by kernel_rfl) ?_
        refine jk_then ?_
        refine sc_true (by rfl) rfl ?_
        refine jc_seq ?_
        refine sc_region ?_
        refine so_pure (opv_assign (by rfl)) (by rfl) rfl ?_
        refine jo_nil ?_
        refine jk_then ?_
        refine jc_ret ?_
        refine jk_block_ret ?_
        refine jk_then_ret ?_
        refine jk_then_ret ?_
        refine jk_block_ret ?_
        refine jk_then_ret ?_
        refine jk_fn_ret rfl rfl (by rfl) (fun w hw => ?_)
        rw [drop_cons hx, are_stop (by omega)] at ha
        rw [ha]
        exact ⟨rfl, hw.forget⟩
      · first | have p13 := of_decide_eq_true h13 | have p13 := of_decide_eq_false h13 | have p13 := ndT h13 | have p13 := ndF h13 | have p13 := nbT h13 | have p13 := nbF h13 | have p13 := h13
        refine da_any hap htm (i := 13) (by rfl) (by kernel_rfl) (by rfl) (listed' := #[true, true, true, true, true, true, true, true, true, true, true, true, true, true, false, false, false, false, false, false, false, false, false, false, false, false, false, false]) (by rfl) (fun _ => (opv_move (by rfl))) (wtd_run rfl rfl (by rfl) h13) rfl ?_
        refine da_any hap htm (i := 14) (by rfl) (by kernel_rfl) (by rfl) (listed' := #[true, true, true, true, true, true, true, true, true, true, true, true, true, true, true, false, false, false, false, false, false, false, false, false, false, false, false, false]) (by rfl) (fun _ => (opv_cmp (by rfl) (by rfl) (by rfl))) (wtd_run rfl rfl (by rfl) h13) rfl ?_
        refine da_any hap htm (i := 15) (by rfl) (by kernel_rfl) (by rfl) (listed' := #[true, true, true, true, true, true, true, true, true, true, true, true, true, true, true, true, false, false, false, false, false, false, false, false, false, false, false, false]) (by rfl) (fun _ => (opv_move (by rfl))) (wtd_run rfl rfl (by rfl) h13) rfl ?_
        refine sk_split (x := 25) (by rfl) (fun h15 => ?_) (fun h15 => ?_)
        · first | have p15 := of_decide_eq_true h15 | have p15 := of_decide_eq_false h15 | have p15 := ndT h15 | have p15 := ndF h15 | have p15 := nbT h15 | have p15 := nbF h15 | have p15 := h15
          refine da_any hap htm (i := 16) (by rfl) (by kernel_rfl) (by rfl) (listed' := #[true, true, true, true, true, true, true, true, true, true, true, true, true, true, true, true, true, false, false, false, false, false, false, false, false, false, false, false]) (by rfl) (fun _ => (opv_move (by rfl))) (wtd_run rfl rfl (by rfl) h15) rfl ?_
          refine da_any hap htm (i := 17) (by rfl) (by kernel_rfl) (by rfl) (listed' := #[true, true, true, true, true, true, true, true, true, true, true, true, true, true, true, true, true, true, false, false, false, false, false, false, false, false, false, false]) (by rfl) (fun _ => (opv_move (by rfl))) (wtd_run rfl rfl (by rfl) h15) rfl ?_
          refine da_any hap htm (i := 18) (by rfl) (by kernel_rfl) (by rfl) (listed' := #[true, true, true, true, true, true, true, true, true, true, true, true, true, true, true, true, true, true, true, false, false, false, false, false, false, false, false, false]) (by rfl) (fun _ => (opv_sub (by rfl) (by rfl) (wrap64_ok (by omega)))) (wtd_run rfl rfl (by rfl) h15) rfl ?_
          have hlt2 : k - 1 < n := by omega
          obtain ⟨_, _, _, _, y, _, _, hy, _⟩ := hs.get hlt2
          have hpy := prev_get (by omega) hy
          refine da_any hap htm (i := 19) (by rfl) (by kernel_rfl) (by rfl) (listed' := #[true, true, true, true, true, true, true, true, true, true, true, true, true, true, true, true, true, true, true, true, false, false, false, false, false, false, false, false]) (by rfl) (fun _ => (opv_indexAddr_slr (i := k - 1) (by rfl) hs (by rfl) Try.underlying22 ti3 (by omega) hlt2)) (wtd_run rfl rfl (by rfl) h15) rfl ?_
          refine da_now [25, 26, 27] hap htm (i := 20) (by rfl) (by kernel_rfl) (by rfl) (listed' := #[true, true, true, true, true, true, true, true, true, true, true, true, true, true, true, true, true, true, true, true, true, false, false, false, false, false, false, false]) (by rfl) (by kernel_rfl) (by kernel_rfl) (opv_load_slr (enc := ic) (u := y) (fo := 0) (v := .int .i64 y) (by rfl) na3 rfl hs hy rfl) (wtd_run rfl rfl (by rfl) h15) rfl ?_
          refine da_any hap htm (i := 21) (by rfl) (by kernel_rfl) (by rfl) (listed' := #[true, true, true, true, true, true, true, true, true, true, true, true, true, true, true, true, true, true, true, true, true, true, false, false, false, false, false, false]) (by rfl) (fun _ => (opv_move (by rfl))) (wtd_run rfl rfl (by rfl) h15) rfl ?_
          refine da_any hap htm (i := 22) (by rfl) (by kernel_rfl) (by rfl) (listed' := #[true, true, true, true, true, true, true, true, true, true, true, true, true, true, true, true, true, true, true, true, true, true, true, false, false, false, false, false]) (by rfl) (fun _ => (opv_move (by rfl))) (wtd_run rfl rfl (by rfl) h15) rfl ?_
          refine da_any hap htm (i := 23) (by rfl) (by kernel_rfl) (by rfl) (listed' := #[true, true, true, true, true, true, true, true, true, true, true, true, true, true, true, true, true, true, true, true, true, true, true, true, false, false, false, false]) (by rfl) (fun _ => (opv_indexAddr_slr (i := k) (by rfl) hs (by rfl) Try.underlying22 ti3 rfl hlt)) (wtd_run rfl rfl (by rfl) h15) rfl ?_
          refine da_now [25, 26, 27] hap htm (i := 24) (by rfl) (by kernel_rfl) (by rfl) (listed' := #[true, true, true, true, true, true, true, true, true, true, true, true, true, true, true, true, true, true, true, true, true, true, true, true, true, false, false, false]) (by rfl) (by kernel_rfl) (by kernel_rfl) (opv_load_slr (enc := ic) (u := x) (fo := 0) (v := .int .i64 x) (by rfl) na3 rfl hs hx rfl) (wtd_run rfl rfl (by rfl) h15) rfl ?_
          refine da_any hap htm (i := 25) (by rfl) (by kernel_rfl) (by rfl) (listed' := #[true, true, true, true, true, true, true, true, true, true, true, true, true, true, true, true, true, true, true, true, true, true, true, true, true, true, false, false]) (by rfl) (fun _ => (opv_cmp (by rfl) (by rfl) (by rfl))) (wtd_run rfl rfl (by rfl) h15) rfl ?_
          refine da_any hap htm (i := 26) (by rfl) (by kernel_rfl) (by rfl) (listed' := #[true, true, true, true, true, true, true, true, true, true, true, true, true, true, true, true, true, true, true, true, true, true, true, true, true, true, true, false]) (by rfl) (fun _ => (sv_pick_t (by rfl) h15 (by rfl))) (wtd_run rfl rfl (by rfl) h13) rfl ?_
          refine da_any hap htm (i := 27) (by rfl) (by kernel_rfl) (by rfl) (listed' := #[true, true, true, true, true, true, true, true, true, true, true, true, true, true, true, true, true, true, true, true, true, true, true, true, true, true, true, true]) (by rfl) (fun _ => (sv_pick_f (by rfl) h13 (by rfl))) (by rfl) rfl ?_
          refine da_done (by kernel_rfl) ?_
          refine jk_then ?_
          refine sk_split (x := 37) (by rfl) (fun h23 => ?_) (fun h23 => ?_)
          · first | have p23 := of_decide_eq_true h23 | have p23 := of_decide_eq_false h23 | have p23 := ndT h23 | have p23 := ndF h23 | have p23 := nbT h23 | have p23 := nbF h23 | have p23 := h23
            refine sc_true (by rfl) h23 ?_
            refine jc_seq ?_
            refine sc_region ?_
            refine so_pure (opv_assign (by rfl)) (by rfl) rfl ?_
            refine jo_nil ?_
            refine jk_then ?_
            refine jc_ret ?_
            refine jk_block_ret ?_
            refine jk_then_ret ?_
            refine jk_then_ret ?_
            refine jk_block_ret ?_
            refine jk_then_ret ?_
            refine jk_fn_ret rfl rfl (by rfl) (fun w hw => ?_)
            rw [drop_cons hx, are_stop (by omega)] at ha
            rw [ha]
            exact ⟨rfl, hw.forget⟩
          · first | have p23 := of_decide_eq_true h23 | have p23 := of_decide_eq_false h23 | have p23 := ndT h23 | have p23 := ndF h23 | have p23 := nbT h23 | have p23 := nbF h23 | have p23 := h23
            refine sc_false (by rfl) h23 ?_
            refine jc_skip ?_
            refine jk_block ?_
            refine jk_then ?_
            refine sc_region ?_
            refine so_pure (opv_move (by rfl)) (by rfl) rfl ?_
            refine so_pure (opv_add (by rfl) (by rfl) (wrap64_ok (by omega))) (by rfl) rfl ?_
            refine so_pure (opv_assign (by rfl)) (by rfl) rfl ?_
            refine jo_nil ?_
            rw [drop_cons hx, are_go (by omega) (by omega), ← prev_succ hx] at ha
            refine jk_round (k + 1) ⟨by omega, ha, by rw [prev_succ hx]; omega⟩ (by show n - (k + 1) < n - k; omega) ⟨rfl, rfl, trivial⟩ (fun w hw => ?_)
            show St _ _ [] _
            exact St.sel hw (by repeat (first | exact Pks.nil _ | exact Pk.here _ | apply Pk.there | apply Pks.cons))
        · first | have p15 := of_decide_eq_true h15 | have p15 := of_decide_eq_false h15 | have p15 := ndT h15 | have p15 := ndF h15 | have p15 := nbT h15 | have p15 := nbF h15 | have p15 := h15
          refine da_skip hap htm (i := 16) (by rfl) (by kernel_rfl) (listed' := #[true, true, true, true, true, true, true, true, true, true, true, true, true, true, true, true, true, false, false, false, false, false, false, false, false, false, false, false]) (by rfl) (wtd_not rfl rfl (by rfl) h15) rfl ?_
          refine da_skip hap htm (i := 17) (by rfl) (by kernel_rfl) (listed' := #[true, true, true, true, true, true, true, true, true, true, true, true, true, true, true, true, true, true, false, false, false, false, false, false, false, false, false, false]) (by rfl) (wtd_not rfl rfl (by rfl) h15) rfl ?_
          refine da_skip hap htm (i := 18) (by rfl) (by kernel_rfl) (listed' := #[true, true, true, true, true, true, true, true, true, true, true, true, true, true, true, true, true, true, true, false, false, false, false, false, false, false, false, false]) (by rfl) (wtd_not rfl rfl (by rfl) h15) rfl ?_
          refine da_skip hap htm (i := 19) (by rfl) (by kernel_rfl) (listed' := #[true, true, true, true, true, true, true, true, true, true, true, true, true, true, true, true, true, true, true, true, false, false, false, false, false, false, false, false]) (by rfl) (wtd_not rfl rfl (by rfl) h15) rfl ?_
          refine da_skip hap htm (i := 20) (by rfl) (by kernel_rfl) (listed' := #[true, true, true, true, true, true, true, true, true, true, true, true, true, true, true, true, true, true, true, true, true, false, false, false, false, false, false, false]) (by rfl) (wtd_not rfl rfl (by rfl) h15) rfl ?_
          refine da_skip hap htm (i := 21) (by rfl) (by kernel_rfl) (listed' := #[true, true, true, true, true, true, true, true, true, true, true, true, true, true, true, true, true, true, true, true, true, true, false, false, false, false, false, false]) (by rfl) (wtd_not rfl rfl (by rfl) h15) rfl ?_
          refine da_skip hap htm (i := 22) (by rfl) (by kernel_rfl) (listed' := #[true, true, true, true, true, true, true, true, true, true, true, true, true, true, true, true, true, true, true, true, true, true, true, false, false, false, false, false]) (by rfl) (wtd_not rfl rfl (by rfl) h15) rfl ?_
          refine da_skip hap htm (i := 23) (by rfl) (by kernel_rfl) (listed' := #[true, true, true, true, true, true, true, true, true, true, true, true, true, true, true, true, true, true, true, true, true, true, true, true, false, false, false, false]) (by rfl) (wtd_not rfl rfl (by rfl) h15) rfl ?_
          refine da_skip hap htm (i := 24) (by rfl) (by kernel_rfl) (listed' := #[true, true, true, true, true, true, true, true, true, true, true, true, true, true, true, true, true, true, true, true, true, true, true, true, true, false, false, false]) (by rfl) (wtd_not rfl rfl (by rfl) h15) rfl ?_
          refine da_skip hap htm (i := 25) (by rfl) (by kernel_rfl) (listed' := #[true, true, true, true, true, true, true, true, true, true, true, true, true, true, true, true, true, true, true, true, true, true, true, true, true, true, false, false]) (by rfl) (wtd_not rfl rfl (by rfl) h15) rfl ?_
          refine da_any hap htm (i := 26) (by rfl) (by kernel_rfl) (by rfl) (listed' := #[true, true, true, true, true, true, true, true, true, true, true, true, true, true, true, true, true, true, true, true, true, true, true, true, true, true, true, false]) (by rfl) (fun _ => (sv_pick_f (by rfl) h15 (by rfl))) (wtd_run rfl rfl (by rfl) h13) rfl ?_
          refine da_any hap htm (i := 27) (by rfl) (by kernel_rfl) (by rfl) (listed' := #[true, true, true, true, true, true, true, true, true, true, true, true, true, true, true, true, true, true, true, true, true, true, true, true, true, true, true, true]) (by rfl) (fun _ => (sv_pick_f (by rfl) h13 (by rfl))) (by rfl) rfl ?_
          refine da_done (by kernel_rfl) ?_
          refine jk_then ?_
          refine sc_false (by rfl) rfl ?_
          refine jc_skip ?_
          refine jk_block ?_
          refine jk_then ?_
          refine sc_region ?_
          refine so_pure (opv_move (by rfl)) (by rfl) rfl ?_
          refine so_pure (opv_add (by rfl) (by rfl) (wrap64_ok (by omega))) (by rfl) rfl ?_
          refine so_pure (opv_assign (by rfl)) (by rfl) rfl ?_
          refine jo_nil ?_
          have hpv : prev xs k = -1 := by rw [show k = 0 by omega]; rfl
          rw [drop_cons hx, are_go (by omega) (by omega), ← prev_succ hx] at ha
          refine jk_round (k + 1) ⟨by omega, ha, by rw [prev_succ hx]; omega⟩ (by show n - (k + 1) < n - k; omega) ⟨rfl, rfl, trivial⟩ (fun w hw => ?_)
          show St _ _ [] _
          exact St.sel hw (by repeat (first | exact Pks.nil _ | exact Pk.here _ | apply Pk.there | apply Pks.cons))
  · first | have p5 := of_decide_eq_true h5 | have p5 := of_decide_eq_false h5 | have p5 := ndT h5 | have p5 := ndF h5 | have p5 := nbT h5 | have p5 := nbF h5 | have p5 := h5
    refine sc_false (by rfl) h5 ?_
    refine jc_exit ?_
    refine jk_then_exit ?_
    refine jk_then_exit ?_
    refine jk_block_exit ?_
    refine jk_then ?_
    refine jc_seq ?_
    refine sc_region ?_
    refine so_pure (opv_assign (by rfl)) (by rfl) rfl ?_
    refine jo_nil ?_
    refine jk_then ?_
    refine jc_ret ?_
    refine jk_fn_ret rfl rfl (by rfl) (fun w hw => ?_)
    rw [List.drop_eq_nil_of_le (by have := hs.1; omega)] at ha
    rw [ha]
    exact ⟨rfl, hw.forget⟩
set_option maxHeartbeats 4000000 in
theorem number_spec (w : World) (x : Int) : Does Try.prog 22 #[.int .i64 x] w (fun v w' => v = .bool (decide (0 ≤ x) && decide (x ≤ 1099511627776)) ∧ St w Emp [] w') := by
  refine fn_body (fn := Try.f22) Try.func22 rfl [(0, .int .i64 x)] (by exact ⟨rfl, trivial⟩) rfl (St.start w) ?_
  refine jc_seq ?_
  refine sc_region ?_
  refine so_pure (opv_assign (by rfl)) (by rfl) rfl ?_
  refine jo_nil ?_
  refine jk_then ?_
  refine jc_seq ?_
  refine sc_region ?_
  refine so_pure (opv_move (by rfl)) (by rfl) rfl ?_
  refine so_pure (opv_cmp (by rfl) (by rfl) (by rfl)) (by rfl) rfl ?_
  refine so_pure (opv_move (by rfl)) (by rfl) rfl ?_
  refine sk_split (x := 5) (by rfl) (fun h2 => ?_) (fun h2 => ?_)
  · first | have p2 := of_decide_eq_true h2 | have p2 := of_decide_eq_false h2 | have p2 := ndT h2 | have p2 := ndF h2 | have p2 := nbT h2 | have p2 := nbF h2 | have p2 := h2
    refine so_pure (opv_move (by rfl)) (wtd_run rfl rfl (by rfl) h2) rfl ?_
    refine so_pure (opv_cmp (by rfl) (by rfl) (by rfl)) (wtd_run rfl rfl (by rfl) h2) rfl ?_
    refine so_pure (sv_pick_t (by rfl) h2 (by rfl)) (by rfl) rfl ?_
    refine so_pure (opv_assign (by rfl)) (by rfl) rfl ?_
    refine jo_nil ?_
    refine jk_then ?_
    refine jc_ret ?_
    refine jk_fn_ret rfl rfl (by rfl) (fun w hw => ?_)
    exact ⟨by simp [p2], hw.forget⟩
  · first | have p2 := of_decide_eq_true h2 | have p2 := of_decide_eq_false h2 | have p2 := ndT h2 | have p2 := ndF h2 | have p2 := nbT h2 | have p2 := nbF h2 | have p2 := h2
    refine so_skip (wtd_not rfl rfl (by rfl) h2) rfl ?_
    refine so_skip (wtd_not rfl rfl (by rfl) h2) rfl ?_
    refine so_pure (sv_pick_f (by rfl) h2 (by rfl)) (by rfl) rfl ?_
    refine so_pure (opv_assign (by rfl)) (by rfl) rfl ?_
    refine jo_nil ?_
    refine jk_then ?_
    refine jc_ret ?_
    refine jk_fn_ret rfl rfl (by rfl) (fun w hw => ?_)
    exact ⟨by simp [p2], hw.forget⟩
set_option maxHeartbeats 4000000 in
theorem index_spec (w : World) (A : Option Addr) (n c : Nat) (xs : List Int) (hs : SlR w 3 1 ic A n xs) (hn : n ≤ 1000000) (y : Int) : Does Try.prog 30 #[.slice A n c, .int .i64 y] w (fun v w' => (∃ i : Int, v = .int .i64 i ∧ decide (0 ≤ i) = decide (y ∈ xs)) ∧ St w Emp [] w') := by
  refine fn_body (fn := Try.f30) Try.func30 rfl [(0, .slice A n c), (1, .int .i64 y)] (by exact ⟨rfl, rfl, trivial⟩) rfl (St.start w) ?_
  refine jc_seq ?_
  refine sc_region ?_
  refine so_pure (opv_assign (by rfl)) (by rfl) rfl ?_
  refine jo_nil ?_
  refine jk_then ?_
  refine jc_seq ?_
  refine jc_seq ?_
  refine sc_region ?_
  refine so_pure (opv_move (by rfl)) (by rfl) rfl ?_
  refine so_pure (opv_len_slice (by rfl) Try.underlying22) (by rfl) rfl ?_
  refine so_pure (opv_move (by rfl)) (by rfl) rfl ?_
  refine jo_nil ?_
  refine jk_then ?_
  refine jc_block ?_
  refine jc_loop (σ := Nat) (fun k => [(0, .slice A n c), (1, .int .i64 y), (7, .int .i64 n), (8, .int .i64 k)]) (fun k => []) (fun k => (k ≤ n) ∧ (y ∉ xs.take k)) (fun k => n - k) 0 ⟨Nat.zero_le _, by simp⟩ ⟨rfl, rfl, rfl, rfl, trivial⟩ (fun w hw => St.sel hw (by repeat (first | exact Pks.nil _ | exact Pk.here _ | apply Pk.there | apply Pks.cons))) ?_
  rintro k ⟨hk, hno⟩
  show Jc _ _ [(0, .slice A n c), (1, .int .i64 y), (7, .int .i64 n), (8, .int .i64 k)] [] _
  refine jc_seq ?_
  refine sc_region ?_
  refine so_pure (opv_cmp (by rfl) (by rfl) (by rfl)) (by rfl) rfl ?_
  refine jo_nil ?_
  refine jk_then ?_
  refine jc_seq ?_
  refine sk_split (x := 9) (by rfl) (fun h6 => ?_) (fun h6 => ?_)
  · first | have p6 := of_decide_eq_true h6 | have p6 := of_decide_eq_false h6 | have p6 := ndT h6 | have p6 := ndF h6 | have p6 := nbT h6 | have p6 := nbF h6 | have p6 := h6
    refine sc_true (by rfl) h6 ?_
    refine jc_skip ?_
    refine jk_then ?_
    refine jc_seq ?_
    refine jc_block ?_
    refine jc_seq ?_
    refine sc_region ?_
    refine so_pure (opv_move (by rfl)) (by rfl) rfl ?_
    refine so_pure (opv_assign (by rfl)) (by rfl) rfl ?_
    refine jo_nil ?_
    refine jk_then ?_
    refine jc_seq ?_
    have hlt : k < n := by omega
    obtain ⟨_, _, _, _, x, _, _, hx, _⟩ := hs.get hlt
    refine sc_region ?_
    refine so_pure (opv_move (by rfl)) (by rfl) rfl ?_
    refine so_pure (opv_move (by rfl)) (by rfl) rfl ?_
    refine so_pure (opv_move (by rfl)) (by rfl) rfl ?_
    refine so_pure (opv_indexAddr_slr (i := k) (by rfl) hs (by rfl) Try.underlying22 ti3 rfl hlt) (by rfl) rfl ?_
    refine so_pure (opv_load_slr (enc := ic) (u := x) (fo := 0) (v := .int .i64 x) (by rfl) na3 rfl hs hx rfl) (by rfl) rfl ?_
    refine so_pure (opv_cmp (by rfl) (by rfl) (by rfl)) (by rfl) rfl ?_
    refine jo_nil ?_
    refine jk_then ?_
    refine sk_split (x := 16) (by rfl) (fun h10 => ?_) (fun h10 => ?_)
    · first | have p10 := of_decide_eq_true h10 | have p10 := of_decide_eq_false h10 | have p10 := ndT h10 | have p10 := ndF h10 | have p10 := nbT h10 | have p10 := nbF h10 | have p10 := h10
      refine sc_true (by rfl) h10 ?_
      refine jc_seq ?_
      refine sc_region ?_
      refine so_pure (opv_move (by rfl)) (by rfl) rfl ?_
      refine so_pure (opv_assign (by rfl)) (by rfl) rfl ?_
      refine jo_nil ?_
      refine jk_then ?_
      refine jc_ret ?_
      refine jk_block_ret ?_
      refine jk_then_ret ?_
      refine jk_then_ret ?_
      refine jk_block_ret ?_
      refine jk_then_ret ?_
      refine jk_fn_ret rfl rfl (by rfl) (fun w hw => ?_)
      refine ⟨⟨_, rfl, ?_⟩, hw.forget⟩
      have hm : y ∈ xs := by have := p10; subst this; exact List.mem_of_getElem? hx
      simp [hm]
    · first | have p10 := of_decide_eq_true h10 | have p10 := of_decide_eq_false h10 | have p10 := ndT h10 | have p10 := ndF h10 | have p10 := nbT h10 | have p10 := nbF h10 | have p10 := h10
      refine sc_false (by rfl) h10 ?_
      refine jc_skip ?_
      refine jk_block ?_
      refine jk_then ?_
      refine sc_region ?_
      refine so_pure (opv_add (by rfl) (by rfl) (wrap64_ok (by omega))) (by rfl) rfl ?_
      refine so_pure (opv_move (by rfl)) (by rfl) rfl ?_
      refine jo_nil ?_
      refine jk_round (k + 1) ⟨by omega, by rw [take_snoc hx, List.mem_append]; rintro (h | h); exact hno h; exact p10 (by simpa using h)⟩ (by show n - (k + 1) < n - k; omega) ⟨rfl, rfl, rfl, rfl, trivial⟩ (fun w hw => ?_)
      show St _ _ [] _
      exact St.sel hw (by repeat (first | exact Pks.nil _ | exact Pk.here _ | apply Pk.there | apply Pks.cons))
  · first | have p6 := of_decide_eq_true h6 | have p6 := of_decide_eq_false h6 | have p6 := ndT h6 | have p6 := ndF h6 | have p6 := nbT h6 | have p6 := nbF h6 | have p6 := h6
    refine sc_false (by rfl) h6 ?_
    refine jc_exit ?_
    refine jk_then_exit ?_
    refine jk_then_exit ?_
    refine jk_block_exit ?_
    refine jk_then ?_
    refine jc_seq ?_
    refine sc_region ?_
    refine so_pure (opv_assign (by rfl)) (by rfl) rfl ?_
    refine jo_nil ?_
    refine jk_then ?_
    refine jc_ret ?_
    refine jk_fn_ret rfl rfl (by rfl) (fun w hw => ?_)
    refine ⟨⟨_, rfl, ?_⟩, hw.forget⟩
    rw [List.take_of_length_le (by have := hs.1; omega)] at hno
    simp [hno]
set_option maxHeartbeats 4000000 in
theorem contains_spec (w : World) (A : Option Addr) (n c : Nat) (xs : List Int) (hs : SlR w 3 1 ic A n xs) (hn : n ≤ 1000000) (y : Int) : Does Try.prog 24 #[.slice A n c, .int .i64 y] w (fun v w' => v = .bool (decide (y ∈ xs)) ∧ St w Emp [] w') := by
  refine fn_body (fn := Try.f24) Try.func24 rfl [(0, .slice A n c), (1, .int .i64 y)] (by exact ⟨rfl, rfl, trivial⟩) rfl (St.start w) ?_
  refine jc_seq ?_
  refine sc_region ?_
  refine so_pure (opv_assign (by rfl)) (by rfl) rfl ?_
  refine jo_nil ?_
  refine jk_then ?_
  refine jc_seq ?_
  refine sc_region ?_
  refine so_pure (opv_move (by rfl)) (by rfl) rfl ?_
  refine so_pure (opv_move (by rfl)) (by rfl) rfl ?_
  refine so_eff (eff_call0 (fl := []) (cl := []) (G := fun v New => (∃ i : Int, v = .int .i64 i ∧ decide (0 ≤ i) = decide (y ∈ xs)) ∧ New = []) (by rfl) (by rfl) tx30 (by exact fun w1 hw1 => (index_spec w1 A n c xs (hs.keepSt hw1) hn y).mono (fun _ _ ⟨hv, hst⟩ => ⟨[], ⟨hv, rfl⟩, hst⟩))) (by rfl) rfl ?_
  rintro _ _ ⟨_, ⟨⟨i, rfl, hi⟩, rfl⟩, rfl⟩
  refine so_pure (opv_cmp (by rfl) (by rfl) (by rfl)) (by rfl) rfl ?_
  refine so_pure (opv_assign (by rfl)) (by rfl) rfl ?_
  refine jo_nil ?_
  refine jk_then ?_
  refine jc_ret ?_
  refine jk_fn_ret rfl rfl (by rfl) (fun w hw => ?_)
  exact ⟨congrArg Value.bool hi, hw.forget⟩
set_option maxHeartbeats 4000000 in
theorem has_spec (w : World) (A : Option Addr) (n c : Nat) (xs : List Int) (hs : SlR w 3 1 ic A n xs) (hn : n ≤ 1000000) (y : Int) : Does Try.prog 25 #[.slice A n c, .int .i64 y] w (fun v w' => v = .bool (decide (y ∈ xs)) ∧ St w Emp [] w') := by
  refine fn_body (fn := Try.f25) Try.func25 rfl [(0, .slice A n c), (1, .int .i64 y)] (by exact ⟨rfl, rfl, trivial⟩) rfl (St.start w) ?_
  refine jc_seq ?_
  refine sc_region ?_
  refine so_pure (opv_assign (by rfl)) (by rfl) rfl ?_
  refine jo_nil ?_
  refine jk_then ?_
  refine jc_seq ?_
  refine jc_seq ?_
  refine sc_region ?_
  refine so_pure (opv_assign (by rfl)) (by rfl) rfl ?_
  refine jo_nil ?_
  refine jk_then ?_
  refine jc_block ?_
  refine jc_loop (σ := Nat) (fun k => [(0, .slice A n c), (1, .int .i64 y), (5, .int .i64 k)]) (fun k => []) (fun k => (k ≤ n) ∧ (y ∉ xs.take k)) (fun k => n - k) 0 ⟨Nat.zero_le _, by simp⟩ ⟨rfl, rfl, rfl, trivial⟩ (fun w hw => St.sel hw (by repeat (first | exact Pks.nil _ | exact Pk.here _ | apply Pk.there | apply Pks.cons))) ?_
  rintro k ⟨hk, hno⟩
  show Jc _ _ [(0, .slice A n c), (1, .int .i64 y), (5, .int .i64 k)] [] _
  refine jc_seq ?_
  refine jc_seq ?_
  refine sc_region ?_
  refine so_pure (opv_move (by rfl)) (by rfl) rfl ?_
  refine so_pure (opv_move (by rfl)) (by rfl) rfl ?_
  refine so_pure (opv_len_slice (by rfl) Try.underlying22) (by rfl) rfl ?_
  refine so_pure (opv_cmp (by rfl) (by rfl) (by rfl)) (by rfl) rfl ?_
  refine jo_nil ?_
  refine jk_then ?_
  refine sk_split (x := 9) (by rfl) (fun h6 => ?_) (fun h6 => ?_)
  · first | have p6 := of_decide_eq_true h6 | have p6 := of_decide_eq_false h6 | have p6 := ndT h6 | have p6 := ndF h6 | have p6 := nbT h6 | have p6 := nbF h6 | have p6 := h6
    refine sc_true (by rfl) h6 ?_
    refine jc_skip ?_
    refine jk_then ?_
    refine jc_seq ?_
    refine jc_block ?_
    refine jc_seq ?_
    have hlt : k < n := by omega
    obtain ⟨_, _, _, _, x, _, _, hx, _⟩ := hs.get hlt
    refine sc_region ?_
    refine so_pure (opv_move (by rfl)) (by rfl) rfl ?_
    refine so_pure (opv_move (by rfl)) (by rfl) rfl ?_
    refine so_pure (opv_indexAddr_slr (i := k) (by rfl) hs (by rfl) Try.underlying22 ti3 rfl hlt) (by rfl) rfl ?_
    refine so_pure (opv_load_slr (enc := ic) (u := x) (fo := 0) (v := .int .i64 x) (by rfl) na3 rfl hs hx rfl) (by rfl) rfl ?_
    refine so_pure (opv_move (by rfl)) (by rfl) rfl ?_
    refine so_pure (opv_cmp (by rfl) (by rfl) (by rfl)) (by rfl) rfl ?_
    refine jo_nil ?_
    refine jk_then ?_
    refine sk_split (x := 17) (by rfl) (fun h10 => ?_) (fun h10 => ?_)
    · first | have p10 := of_decide_eq_true h10 | have p10 := of_decide_eq_false h10 | have p10 := ndT h10 | have p10 := ndF h10 | have p10 := nbT h10 | have p10 := nbF h10 | have p10 := h10
      refine sc_true (by rfl) h10 ?_
      refine jc_seq ?_
      refine sc_region ?_
      refine so_pure (opv_assign (by rfl)) (by rfl) rfl ?_
      refine jo_nil ?_
      refine jk_then ?_
      refine jc_ret ?_
      refine jk_block_ret ?_
      refine jk_then_ret ?_
      refine jk_then_ret ?_
      refine jk_block_ret ?_
      refine jk_then_ret ?_
      refine jk_fn_ret rfl rfl (by rfl) (fun w hw => ?_)
      refine ⟨?_, hw.forget⟩
      have hm : y ∈ xs := by have := p10; subst this; exact List.mem_of_getElem? hx
      simp [hm]
    · first | have p10 := of_decide_eq_true h10 | have p10 := of_decide_eq_false h10 | have p10 := ndT h10 | have p10 := ndF h10 | have p10 := nbT h10 | have p10 := nbF h10 | have p10 := h10
      refine sc_false (by rfl) h10 ?_
      refine jc_skip ?_
      refine jk_block ?_
      refine jk_then ?_
      refine sc_region ?_
      refine so_pure (opv_move (by rfl)) (by rfl) rfl ?_
      refine so_pure (opv_add (by rfl) (by rfl) (wrap64_ok (by omega))) (by rfl) rfl ?_
      refine so_pure (opv_assign (by rfl)) (by rfl) rfl ?_
      refine jo_nil ?_
      refine jk_round (k + 1) ⟨by omega, by rw [take_snoc hx, List.mem_append]; rintro (h | h); exact hno h; exact p10 (by simpa [eq_comm] using h)⟩ (by show n - (k + 1) < n - k; omega) ⟨rfl, rfl, rfl, trivial⟩ (fun w hw => ?_)
      show St _ _ [] _
      exact St.sel hw (by repeat (first | exact Pks.nil _ | exact Pk.here _ | apply Pk.there | apply Pks.cons))
  · first | have p6 := of_decide_eq_true h6 | have p6 := of_decide_eq_false h6 | have p6 := ndT h6 | have p6 := ndF h6 | have p6 := nbT h6 | have p6 := nbF h6 | have p6 := h6
    refine sc_false (by rfl) h6 ?_
    refine jc_exit ?_
    refine jk_then_exit ?_
    refine jk_then_exit ?_
    refine jk_block_exit ?_
    refine jk_then ?_
    refine jc_seq ?_
    refine sc_region ?_
    refine so_pure (opv_assign (by rfl)) (by rfl) rfl ?_
    refine jo_nil ?_
    refine jk_then ?_
    refine jc_ret ?_
    refine jk_fn_ret rfl rfl (by rfl) (fun w hw => ?_)
    refine ⟨?_, hw.forget⟩
    rw [List.take_of_length_le (by have := hs.1; omega)] at hno
    simp [hno]
set_option maxHeartbeats 4000000 in
theorem ints_spec (w : World) (A B : Option Addr) (n m c c2 : Nat) (xs ys : List Int) (hs : SlR w 3 1 ic A n xs) (ht0 : SlR w 3 1 ic B m ys) (hn : n ≤ 1000000) : Does Try.prog 14 #[.slice A n c, .slice B m c2] w (fun v w' => v = .bool (decide (xs = ys)) ∧ St w Emp [] w') := by
  refine fn_body (fn := Try.f14) Try.func14 rfl [(0, .slice A n c), (1, .slice B m c2)] (by exact ⟨rfl, rfl, trivial⟩) rfl (St.start w) ?_
  refine jc_seq ?_
  refine sc_region ?_
  refine so_pure (opv_assign (by rfl)) (by rfl) rfl ?_
  refine jo_nil ?_
  refine jk_then ?_
  refine jc_seq ?_
  refine jc_seq ?_
  refine sc_region ?_
  refine so_pure (opv_move (by rfl)) (by rfl) rfl ?_
  refine so_pure (opv_len_slice (by rfl) Try.underlying22) (by rfl) rfl ?_
  refine so_pure (opv_move (by rfl)) (by rfl) rfl ?_
  refine so_pure (opv_len_slice (by rfl) Try.underlying22) (by rfl) rfl ?_
  refine so_pure (opv_cmp (by rfl) (by rfl) (by rfl)) (by rfl) rfl ?_
  refine jo_nil ?_
  refine jk_then ?_
  refine sk_split (x := 10) (by rfl) (fun h5 => ?_) (fun h5 => ?_)
  · first | have p5 := of_decide_eq_true h5 | have p5 := of_decide_eq_false h5 | have p5 := ndT h5 | have p5 := ndF h5 | have p5 := nbT h5 | have p5 := nbF h5 | have p5 := h5
    refine sc_true (by rfl) h5 ?_
    refine jc_seq ?_
    refine sc_region ?_
    refine so_pure (opv_assign (by rfl)) (by rfl) rfl ?_
    refine jo_nil ?_
    refine jk_then ?_
    refine jc_ret ?_
    refine jk_then_ret ?_
    refine jk_fn_ret rfl rfl (by rfl) (fun w hw => ?_)
    exact ⟨congrArg Value.bool (decide_eq_false (fun e => p5 (by rw [hs.1, ht0.1, e]))).symm, hw.forget⟩
  · first | have p5 := of_decide_eq_true h5 | have p5 := of_decide_eq_false h5 | have p5 := ndT h5 | have p5 := ndF h5 | have p5 := nbT h5 | have p5 := nbF h5 | have p5 := h5
    refine sc_false (by rfl) h5 ?_
    refine jc_skip ?_
    refine jk_then ?_
    refine jc_seq ?_
    refine jc_seq ?_
    refine sc_region ?_
    refine so_pure (opv_assign (by rfl)) (by rfl) rfl ?_
    refine jo_nil ?_
    refine jk_then ?_
    refine jc_block ?_
    refine jc_loop (σ := Nat) (fun k => [(0, .slice A n c), (1, .slice B m c2), (5, .int .i64 k)]) (fun k => []) (fun k => (k ≤ n) ∧ (xs.take k = ys.take k)) (fun k => n - k) 0 ⟨Nat.zero_le _, rfl⟩ ⟨rfl, rfl, rfl, trivial⟩ (fun w hw => St.sel hw (by repeat (first | exact Pks.nil _ | exact Pk.here _ | apply Pk.there | apply Pks.cons))) ?_
    rintro k ⟨hk, ht⟩
    show Jc _ _ [(0, .slice A n c), (1, .slice B m c2), (5, .int .i64 k)] [] _
    refine jc_seq ?_
    refine jc_seq ?_
    refine sc_region ?_
    refine so_pure (opv_move (by rfl)) (by rfl) rfl ?_
    refine so_pure (opv_move (by rfl)) (by rfl) rfl ?_
    refine so_pure (opv_len_slice (by rfl) Try.underlying22) (by rfl) rfl ?_
    refine so_pure (opv_cmp (by rfl) (by rfl) (by rfl)) (by rfl) rfl ?_
    refine jo_nil ?_
    refine jk_then ?_
    refine sk_split (x := 14) (by rfl) (fun h9 => ?_) (fun h9 => ?_)
    · first | have p9 := of_decide_eq_true h9 | have p9 := of_decide_eq_false h9 | have p9 := ndT h9 | have p9 := ndF h9 | have p9 := nbT h9 | have p9 := nbF h9 | have p9 := h9
      refine sc_true (by rfl) h9 ?_
      refine jc_skip ?_
      refine jk_then ?_
      refine jc_seq ?_
      refine jc_block ?_
      refine jc_seq ?_
      have hlt : k < n := by omega
      obtain ⟨_, _, _, _, x, _, _, hx, _⟩ := hs.get hlt
      have hlt2 : k < m := by omega
      obtain ⟨_, _, _, _, y, _, _, hy, _⟩ := ht0.get hlt2
      refine so_draw [] (by kernel_rfl) (by kernel_rfl) (by kernel_rfl) rfl (by rfl) (fun hap htm => ?_)
      refine da_any hap htm (i := 0) (by rfl) (by kernel_rfl) (by rfl) (listed' := #[true, false, false, false, false, false, false, false, false]) (by rfl) (fun _ => (opv_move (by rfl))) (by rfl) rfl ?_
      refine da_any hap htm (i := 1) (by rfl) (by kernel_rfl) (by rfl) (listed' := #[true, true, false, false, false, false, false, false, false]) (by rfl) (fun _ => (opv_move (by rfl))) (by rfl) rfl ?_
      refine da_any hap htm (i := 2) (by rfl) (by kernel_rfl) (by rfl) (listed' := #[true, true, true, false, false, false, false, false, false]) (by rfl) (fun _ => (opv_indexAddr_slr (i := k) (by rfl) hs (by rfl) Try.underlying22 ti3 rfl hlt)) (by rfl) rfl ?_
      refine da_now [8] hap htm (i := 3) (by rfl) (by kernel_rfl) (by rfl) (listed' := #[true, true, true, true, false, false, false, false, false]) (by rfl) (by kernel_rfl) (by kernel_rfl) (opv_load_slr (enc := ic) (u := x) (fo := 0) (v := .int .i64 x) (by rfl) na3 rfl hs hx rfl) (by rfl) rfl ?_
      refine da_any hap htm (i := 4) (by rfl) (by kernel_rfl) (by rfl) (listed' := #[true, true, true, true, true, false, false, false, false]) (by rfl) (fun _ => (opv_move (by rfl))) (by rfl) rfl ?_
      refine da_any hap htm (i := 5) (by rfl) (by kernel_rfl) (by rfl) (listed' := #[true, true, true, true, true, true, false, false, false]) (by rfl) (fun _ => (opv_move (by rfl))) (by rfl) rfl ?_
      refine da_any hap htm (i := 6) (by rfl) (by kernel_rfl) (by rfl) (listed' := #[true, true, true, true, true, true, true, false, false]) (by rfl) (fun _ => (opv_indexAddr_slr (i := k) (by rfl) ht0 (by rfl) Try.underlying22 ti3 rfl hlt2)) (by rfl) rfl ?_
      refine da_now [8] hap htm (i := 7) (by rfl) (by kernel_rfl) (by rfl) (listed' := #[true, true, true, true, true, true, true, true, false]) (by rfl) (by kernel_rfl) (by kernel_rfl) (opv_load_slr (enc := ic) (u := y) (fo := 0) (v := .int .i64 y) (by rfl) na3 rfl ht0 hy rfl) (by rfl) rfl ?_
      refine da_any hap htm (i := 8) (by rfl) (by kernel_rfl) (by rfl) (listed' := #[true, true, true, true, true, true, true, true, true]) (by rfl) (fun _ => (opv_cmp (by rfl) (by rfl) (by rfl))) (by rfl) rfl ?_
      refine da_done (by kernel_rfl) ?_
      refine jk_then ?_
      refine sk_split (x := 25) (by rfl) (fun h16 => ?_) (fun h16 => ?_)
      · first | have p16 := of_decide_eq_true h16 | have p16 := of_decide_eq_false h16 | have p16 := ndT h16 | have p16 := ndF h16 | have p16 := nbT h16 | have p16 := nbF h16 | have p16 := h16
        refine sc_true (by rfl) h16 ?_
        refine jc_seq ?_
        refine sc_region ?_
        refine so_pure (opv_assign (by rfl)) (by rfl) rfl ?_
        refine jo_nil ?_
        refine jk_then ?_
        refine jc_ret ?_
        refine jk_block_ret ?_
        refine jk_then_ret ?_
        refine jk_then_ret ?_
        refine jk_block_ret ?_
        refine jk_then_ret ?_
        refine jk_fn_ret rfl rfl (by rfl) (fun w hw => ?_)
        exact ⟨congrArg Value.bool (decide_eq_false (ne_of_get hx hy p16)).symm, hw.forget⟩
      · first | have p16 := of_decide_eq_true h16 | have p16 := of_decide_eq_false h16 | have p16 := ndT h16 | have p16 := ndF h16 | have p16 := nbT h16 | have p16 := nbF h16 | have p16 := h16
        refine sc_false (by rfl) h16 ?_
        refine jc_skip ?_
        refine jk_block ?_
        refine jk_then ?_
        refine sc_region ?_
        refine so_pure (opv_move (by rfl)) (by rfl) rfl ?_
        refine so_pure (opv_add (by rfl) (by rfl) (wrap64_ok (by omega))) (by rfl) rfl ?_
        refine so_pure (opv_assign (by rfl)) (by rfl) rfl ?_
        refine jo_nil ?_
        refine jk_round (k + 1) ⟨by omega, take_step ht hx hy (by have := p16; omega)⟩ (by show n - (k + 1) < n - k; omega) ⟨rfl, rfl, rfl, trivial⟩ (fun w hw => ?_)
        show St _ _ [] _
        exact St.sel hw (by repeat (first | exact Pks.nil _ | exact Pk.here _ | apply Pk.there | apply Pks.cons))
    · first | have p9 := of_decide_eq_true h9 | have p9 := of_decide_eq_false h9 | have p9 := ndT h9 | have p9 := ndF h9 | have p9 := nbT h9 | have p9 := nbF h9 | have p9 := h9
      refine sc_false (by rfl) h9 ?_
      refine jc_exit ?_
      refine jk_then_exit ?_
      refine jk_then_exit ?_
      refine jk_block_exit ?_
      refine jk_then ?_
      refine jc_seq ?_
      refine sc_region ?_
      refine so_pure (opv_assign (by rfl)) (by rfl) rfl ?_
      refine jo_nil ?_
      refine jk_then ?_
      refine jc_ret ?_
      refine jk_fn_ret rfl rfl (by rfl) (fun w hw => ?_)
      exact ⟨congrArg Value.bool (decide_eq_true (eq_of_take ht (by have := hs.1; omega) (by have := ht0.1; have := p9; omega))).symm, hw.forget⟩
set_option maxHeartbeats 4000000 in
theorem all_spec (w : World) : Does Try.prog 19 #[] w (fun v w' => ∃ b, v = .slice (some ⟨b, 0, none⟩) 12 12 ∧ St w Emp [own (.slice (some ⟨b, 0, none⟩) 12 12) 3 1 12 (([0, 1, 2, 3, 4, 5, 6, 7, 8, 9, 10, 11] : List Int).flatMap ic)] w') := by
  refine fn_body (fn := Try.f19) Try.func19 rfl [] (by exact trivial) rfl (St.start w) ?_
  refine jc_seq ?_
  refine sc_region ?_
  refine so_pure (opv_assign (by rfl)) (by rfl) rfl ?_
  refine jo_nil ?_
  refine jk_then ?_
  refine jc_seq ?_
  refine sc_region ?_
  refine so_eff (eff_buildSlice (by rfl) (fun w => by exact bsl22_12_0_1_2_3_4_5_6_7_8_9_10_11 ..)) (by rfl) rfl ?_
  rintro _ _ ⟨b1, rfl, rfl⟩
  refine so_pure (opv_assign (by rfl)) (by rfl) rfl ?_
  refine jo_nil ?_
  refine jk_then ?_
  refine jc_ret ?_
  refine jk_fn_ret rfl rfl (by rfl) (fun w hw => ?_)
  exact ⟨b1, rfl, (hw.own_mk (Nat.le_refl _) (by decide) (by rfl) (by rfl))⟩
set_option maxHeartbeats 4000000 in
theorem round_spec (w : World) (A : Option Addr) (n c : Nat) (f : Int) : Does Try.prog 21 #[.slice A n c, .int .i64 f] w (fun v w' => ∃ bl bf, v = .func (.func 29) #[] #[.pointer (some ⟨bl, 0, none⟩), .pointer (some ⟨bf, 0, none⟩)] ∧ St w Emp [blk bl (.cells #[.slice A n c] 22 (0, 0)), blk bf (.cells #[.int .i64 f] 3 (0, 0))] w') := by
  refine fn_body (fn := Try.f21) Try.func21 rfl [(0, .slice A n c), (1, .int .i64 f)] (by exact ⟨rfl, rfl, trivial⟩) rfl (St.start w) ?_
  refine jc_seq ?_
  refine sc_region ?_
  refine so_eff (eff_box (by rfl) rfl) (by rfl) rfl ?_
  rintro _ _ ⟨b2, rfl, rfl⟩
  refine so_eff (eff_box (by rfl) rfl) (by rfl) rfl ?_
  rintro _ _ ⟨b3, rfl, rfl⟩
  refine so_pure (opv_assign (by rfl)) (by rfl) rfl ?_
  refine jo_nil ?_
  refine jk_then ?_
  refine jc_seq ?_
  refine sc_region ?_
  refine so_pure (opv_makeFunc (by rfl) (by rfl)) (by rfl) rfl ?_
  refine so_pure (opv_assign (by rfl)) (by rfl) rfl ?_
  refine jo_nil ?_
  refine jk_then ?_
  refine jc_ret ?_
  refine jk_fn_ret rfl rfl (by rfl) (fun w hw => ?_)
  exact ⟨b2, b3, rfl, St.sel hw (by repeat (first | exact Pks.nil _ | exact Pk.here _ | apply Pk.there | apply Pks.cons))⟩
end Go.Place
