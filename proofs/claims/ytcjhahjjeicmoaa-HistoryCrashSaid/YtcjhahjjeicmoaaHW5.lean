/- A part of a proof for the laws of the seat Ytcjhahjjeicmoaa; it has no conditions of its own. -/
import Derived.Test.YtcjhahjjeicmoaaHW4
namespace Go.Hist
open Go Go.SL Go.Proofs
set_option maxHeartbeats 4000000 in
theorem backward_spec (w : World) (A : Option Addr) (n cap : Nat) : Does Try.prog 15 #[.slice A n cap] w (fun v w' => ∃ b1, v = .func (.func 19) #[] #[.pointer (some ⟨b1, 0, none⟩)] ∧ St w Emp [blk b1 (.cells #[.slice A n cap] 22 (0, 0))] w') := by
  refine fn_body (fn := Try.f15) Try.func15 rfl [(0, .slice A n cap)] (by exact ⟨rfl, trivial⟩) rfl (St.start w) ?_
  refine jc_seq ?_
  refine sc_region ?_
  refine so_eff (eff_box (by rfl) rfl) (by rfl) rfl ?_
  rintro _ _ ⟨b1, rfl, rfl⟩
  refine so_pure (opv_assign (by rfl)) (by rfl) rfl ?_
  refine jo_nil ?_
  refine jk_then ?_
  refine jc_seq ?_
  refine sc_region ?_
  refine so_pure (opv_makeFunc (by rfl) (by rfl)) (by rfl) rfl ?_
  refine so_pure (opv_assign (by rfl)) (by rfl) rfl ?_
  refine jo_nil ?_
  refine jk_then ?_
  refine jc_ret ?_
  refine jk_fn_ret rfl rfl (by rfl) (fun w hw => ?_)
  exact ⟨_, rfl, St.sel hw (by repeat (first | exact Pks.nil _ | exact Pk.here _ | apply Pk.there | apply Pks.cons))⟩
set_option maxHeartbeats 4000000 in
theorem backward1_spec (w0 : World) (l b1 : Nat) (A : Option Addr) (n cap : Nat) (xs : List Ev) (hs : SlR w0 39 8 Ev.cells A n xs) (hn : n ≤ 1000000) (Js : Nat → List Itm)
    (hy : ∀ (k : Nat) (x : Ev), xs[k]? = some x → ∀ w, St w0 Emp (blk b1 (.cells #[.slice A n cap] 22 (0, 0)) :: Js (k + 1)) w → Yl Try.prog l [.int .i64 k, .agg x.cells.toArray] w fun v w' => v = .bool true ∧ St w0 Emp (blk b1 (.cells #[.slice A n cap] 22 (0, 0)) :: Js k) w')
    (w : World) (hst : St w0 Emp (blk b1 (.cells #[.slice A n cap] 22 (0, 0)) :: Js n) w) : Does Try.prog 19 #[.func (.yield l) #[] #[], .pointer (some ⟨b1, 0, none⟩)] w (fun _ w' => St w0 Emp (blk b1 (.cells #[.slice A n cap] 22 (0, 0)) :: Js 0) w') := by
  refine fn_bodyX (fn := Try.f19) Try.func19 rfl [(0, .func (.yield l) #[] #[]), (1, .pointer (some ⟨b1, 0, none⟩))] (by exact ⟨rfl, rfl, trivial⟩) rfl hst ?_
  refine jc_seq ?_
  refine sc_region ?_
  refine so_pure (opv_load (by rfl) na22 (rd_pk (by repeat (first | exact Pk.here _ | apply Pk.there))) (by rfl)) (by rfl) rfl ?_
  refine so_pure (opv_len_slice (by rfl) Try.underlying22) (by rfl) rfl ?_
  refine so_pure (opv_sub (by rfl) (by rfl) (wrap64_ok (by omega))) (by rfl) rfl ?_
  refine so_pure (opv_assign (by rfl)) (by rfl) rfl ?_
  refine jo_nil ?_
  refine jk_then ?_
  refine jc_block ?_
  refine jc_loop (σ := Nat) (fun k => [(0, .func (.yield l) #[] #[]), (1, .pointer (some ⟨b1, 0, none⟩)), (3, .int .i64 ((k : Int) - 1))]) (fun k => (blk b1 (.cells #[.slice A n cap] 22 (0, 0)) :: Js k)) (fun k => (k ≤ n)) (fun k => k) n (Nat.le_refl _) ⟨rfl, rfl, rfl, trivial⟩ (fun w hw => hw) ?_
  rintro k hk
  show Jc _ _ [(0, .func (.yield l) #[] #[]), (1, .pointer (some ⟨b1, 0, none⟩)), (3, .int .i64 ((k : Int) - 1))] (blk b1 (.cells #[.slice A n cap] 22 (0, 0)) :: Js k) _
  refine jc_seq ?_
  refine jc_seq ?_
  refine sc_region ?_
  refine so_pure (opv_move (by rfl)) (by rfl) rfl ?_
  refine so_pure (opv_cmp (by rfl) (by rfl) (by rfl)) (by rfl) rfl ?_
  refine jo_nil ?_
  refine jk_then ?_
  refine sk_split (x := 8) (by rfl) (fun h7 => ?_) (fun h7 => ?_)
  · first | have p7 := of_decide_eq_true h7 | have p7 := of_decide_eq_false h7 | have p7 := ndT h7 | have p7 := ndF h7 | have p7 := nbT h7 | have p7 := nbF h7 | have p7 := h7
    refine sc_true (by rfl) h7 ?_
    refine jc_skip ?_
    refine jk_then ?_
    refine jc_seq ?_
    refine jc_block ?_
    refine jc_seq ?_
    obtain ⟨j, rfl⟩ : ∃ j, k = j + 1 := ⟨k - 1, by omega⟩
    rw [show ((j + 1 : Nat) : Int) - 1 = (j : Int) by omega]
    have hlt : j < n := by omega
    obtain ⟨b, off, c, fz, x, rfl, hb, hx, hc⟩ := hs.get hlt
    refine sc_region ?_
    refine so_pure (opv_move (by rfl)) (by rfl) rfl ?_
    refine so_pure (opv_move (by rfl)) (by rfl) rfl ?_
    refine so_pure (opv_load (by rfl) na22 (rd_pk (by repeat (first | exact Pk.here _ | apply Pk.there))) (by rfl)) (by rfl) rfl ?_
    refine so_pure (opv_move (by rfl)) (by rfl) rfl ?_
    refine so_pure (opv_indexAddr (by rfl) (by rfl) Try.underlying22 ti39 (by first | rfl | omega) (by omega)) (by rfl) rfl ?_
    refine so_pure (opv_load_agg (vs := x.cells) (by rfl) ag39 ti39 (rd_old hb (fun h => h)) hc rfl) (by rfl) rfl ?_
    refine so_eff (eff_yield (l := l) (G := fun v Is' => v = .bool true ∧ Is' = blk b1 (.cells #[.slice (some ⟨b, off, none⟩) n cap] 22 (0, 0)) :: Js j) (by rfl) (by rfl) (by exact fun w1 hw1 => (hy j x hx w1 hw1).mono (fun _ _ ⟨hv, hst⟩ => ⟨_, ⟨hv, rfl⟩, hst⟩))) (by rfl) rfl ?_
    rintro _ _ ⟨rfl, rfl⟩
    refine so_pure (opv_not (by rfl)) (by rfl) rfl ?_
    refine jo_nil ?_
    refine jk_then ?_
    refine sc_false (by rfl) rfl ?_
    refine jc_skip ?_
    refine jk_block ?_
    refine jk_then ?_
    refine sc_region ?_
    refine so_pure (opv_move (by rfl)) (by rfl) rfl ?_
    refine so_pure (opv_sub (by rfl) (by rfl) (wrap64_ok (by omega))) (by rfl) rfl ?_
    refine so_pure (opv_assign (by rfl)) (by rfl) rfl ?_
    refine jo_nil ?_
    refine jk_round j (by omega) (by show j < j + 1; omega) ⟨rfl, rfl, rfl, trivial⟩ (fun w hw => ?_)
    exact hw
  · first | have p7 := of_decide_eq_true h7 | have p7 := of_decide_eq_false h7 | have p7 := ndT h7 | have p7 := ndF h7 | have p7 := nbT h7 | have p7 := nbF h7 | have p7 := h7
    refine sc_false (by rfl) h7 ?_
    refine jc_exit ?_
    refine jk_then_exit ?_
    refine jk_then_exit ?_
    refine jk_block_exit ?_
    refine jk_fn_end0 rfl rfl (fun w hw => ?_)
    obtain rfl : k = 0 := by omega
    exact hw
end Go.Hist
