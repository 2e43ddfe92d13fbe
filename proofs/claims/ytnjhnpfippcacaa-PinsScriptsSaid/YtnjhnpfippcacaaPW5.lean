/- A part of a proof for the laws of the seat Ytnjhnpfippcacaa; it has no conditions of its own. -/
import Derived.Test.YtnjhnpfippcacaaPW4
namespace Go.Pins
open Go Go.SL Go.Proofs
set_option maxHeartbeats 4000000 in
theorem index_spec {w0 w : World} {M : Nat → Prop} {Fr : List Vol → List Itm} {sv : Value} {n fi : Nat} {cl : List Value} {xs ys0 : List Vol} {p : Vol → Bool} (tx : Txt Try.prog fi) (hst : St w0 M (own sv 33 4 n (xs.flatMap Vol.cells) :: Fr ys0) w) (hnx : n = xs.length) (hn : n ≤ 100000) (hy0 : ys0.length ≤ 100000)
    (hf : ∀ (ys : List Vol) (x : Vol) (Is2 : List Itm) (w : World), ys.length ≤ 200000 → St w0 M (Is2 ++ Fr ys) w → Does Try.prog fi ([] ++ [Value.agg x.cells.toArray] ++ cl).toArray w fun v w' => v = .bool (p x) ∧ St w0 M (Is2 ++ Fr (ys ++ [x])) w') : Does Try.prog 30 #[sv, .func (.func fi) #[] cl.toArray] w (fun v w' => ∃ vis, Idx p xs v vis ∧ St w0 M (own sv 33 4 n (xs.flatMap Vol.cells) :: Fr (ys0 ++ vis)) w') := by
  refine fn_bodyX (fn := Try.f30) Try.func30 rfl [(0, sv), (1, .func (.func fi) #[] cl.toArray)] (by exact ⟨rfl, rfl, trivial⟩) rfl hst ?_
  refine jc_seq ?_
  refine sc_region ?_
  refine so_pure (opv_assign (by rfl)) (by rfl) rfl ?_
  refine jo_nil ?_
  refine jk_then ?_
  refine jc_seq ?_
  refine jc_seq ?_
  refine sc_region ?_
  refine so_pure (opv_move (by rfl)) (by rfl) rfl ?_
  refine so_pure (opv_len_own (by rfl) Try.underlying28 (by repeat (first | exact Pk.here _ | apply Pk.there))) (by rfl) rfl ?_
  refine so_pure (opv_move (by rfl)) (by rfl) rfl ?_
  refine jo_nil ?_
  refine jk_then ?_
  refine jc_block ?_
  refine jc_loop (σ := Nat) (fun k => [(0, sv), (1, .func (.func fi) #[] cl.toArray), (7, .int .i64 n), (8, .int .i64 k)]) (fun k => (own sv 33 4 n (xs.flatMap Vol.cells) :: Fr (ys0 ++ xs.take k))) (fun k => (k ≤ n) ∧ ((xs.take k).all (fun y => !p y) = true)) (fun k => n - k) 0 ⟨Nat.zero_le _, rfl⟩ ⟨rfl, rfl, rfl, rfl, trivial⟩ (fun w hw => by rw [List.take_zero, List.append_nil]; exact hw) ?_
  rintro k ⟨hk, ha⟩
  show Jc _ _ [(0, sv), (1, .func (.func fi) #[] cl.toArray), (7, .int .i64 n), (8, .int .i64 k)] (own sv 33 4 n (xs.flatMap Vol.cells) :: Fr (ys0 ++ xs.take k)) _
  refine jc_seq ?_
  refine sc_region ?_
  refine so_pure (opv_cmp (by rfl) (by rfl) (by rfl)) (by rfl) rfl ?_
  refine jo_nil ?_
  refine jk_then ?_
  refine jc_seq ?_
  refine sk_split (x := 9) (by rfl) (fun h6 => ?_) (fun h6 => ?_)
  · first | have p6 := of_decide_eq_true h6 | have p6 := of_decide_eq_false h6 | have p6 := ndT h6 | have p6 := ndF h6 | have p6 := nbT h6 | have p6 := nbF h6 | have p6 := h6
    refine sc_true (by rfl) h6 ?_
    refine jc_skip ?_
    refine jk_then ?_
    refine jc_seq ?_
    refine jc_block ?_
    refine jc_seq ?_
    refine sc_region ?_
    refine so_pure (opv_move (by rfl)) (by rfl) rfl ?_
    refine so_pure (opv_assign (by rfl)) (by rfl) rfl ?_
    refine jo_nil ?_
    refine jk_then ?_
    refine jc_seq ?_
    refine sc_region ?_
    have hlt : k < n := by omega
    obtain ⟨x, hx⟩ : ∃ x, xs[k]? = some x := ⟨xs[k], List.getElem?_eq_getElem (by omega)⟩
    refine so_pure (opv_move (by rfl)) (by rfl) rfl ?_
    refine so_pure (opv_move (by rfl)) (by rfl) rfl ?_
    refine so_pure (opv_move (by rfl)) (by rfl) rfl ?_
    refine so_pure (opv_indexAddr_own (i := k) (by rfl) (by rfl) Try.underlying28 ti33 (by repeat (first | exact Pk.here _ | apply Pk.there)) rfl hlt) (by rfl) rfl ?_
    refine so_pure (opv_load_elem (u := x) Vol.cells_len (by rfl) ag33 ti33 (by repeat (first | exact Pk.here _ | apply Pk.there)) (by omega) hx) (by rfl) rfl ?_
    refine so_eff (eff_call (fl := []) (cl := cl) (G := fun v Is' => v = .bool (p x) ∧ Is' = own sv 33 4 n (xs.flatMap Vol.cells) :: Fr (ys0 ++ xs.take k ++ [x])) (by rfl) (by rfl) tx (by exact fun w1 hw1 => (hf (ys0 ++ xs.take k) x [own sv 33 4 n (xs.flatMap Vol.cells)] w1 (by rw [List.length_append, List.length_take]; omega) hw1).mono (fun _ _ ⟨hv, hst⟩ => ⟨_, ⟨hv, rfl⟩, hst⟩))) (by rfl) rfl ?_
    rintro _ _ ⟨rfl, rfl⟩
    refine jo_nil ?_
    refine jk_then ?_
    refine sk_split (x := 16) (by rfl) (fun h10 => ?_) (fun h10 => ?_)
    · first | have p10 := of_decide_eq_true h10 | have p10 := of_decide_eq_false h10 | have p10 := ndT h10 | have p10 := ndF h10 | have p10 := nbT h10 | have p10 := nbF h10 | have p10 := h10
      refine sc_true (by rfl) h10 ?_
      refine jc_seq ?_
      refine sc_region ?_
      refine so_pure (opv_move (by rfl)) (by rfl) rfl ?_
      refine so_pure (opv_assign (by rfl)) (by rfl) rfl ?_
      refine jo_nil ?_
      refine jk_then ?_
      refine jc_ret ?_
      refine jk_block_ret ?_
      refine jk_then_ret ?_
      refine jk_then_ret ?_
      refine jk_block_ret ?_
      refine jk_then_ret ?_
      refine jk_fn_ret rfl rfl (by rfl) (fun w hw => ?_)
      rw [List.append_assoc, ← take_snoc hx] at hw
      exact ⟨_, ⟨k, rfl, .inr ⟨k, x, rfl, hx, p10, ha, rfl⟩⟩, hw⟩
    · first | have p10 := of_decide_eq_true h10 | have p10 := of_decide_eq_false h10 | have p10 := ndT h10 | have p10 := ndF h10 | have p10 := nbT h10 | have p10 := nbF h10 | have p10 := h10
      refine sc_false (by rfl) h10 ?_
      refine jc_skip ?_
      refine jk_block ?_
      refine jk_then ?_
      refine sc_region ?_
      refine so_pure (opv_add (by rfl) (by rfl) (wrap64_ok (by omega))) (by rfl) rfl ?_
      refine so_pure (opv_move (by rfl)) (by rfl) rfl ?_
      refine jo_nil ?_
      refine jk_round (k + 1) ⟨by omega, all_step hx ha (by rw [p10]; rfl)⟩ (by show n - (k + 1) < n - k; omega) ⟨rfl, rfl, rfl, rfl, trivial⟩ (fun w hw => ?_)
      show St _ _ (own sv 33 4 n (xs.flatMap Vol.cells) :: Fr (ys0 ++ xs.take (k + 1))) _
      rw [take_snoc hx, ← List.append_assoc]; exact hw
  · first | have p6 := of_decide_eq_true h6 | have p6 := of_decide_eq_false h6 | have p6 := ndT h6 | have p6 := ndF h6 | have p6 := nbT h6 | have p6 := nbF h6 | have p6 := h6
    refine sc_false (by rfl) h6 ?_
    refine jc_exit ?_
    refine jk_then_exit ?_
    refine jk_then_exit ?_
    refine jk_block_exit ?_
    refine jk_then ?_
    refine jc_seq ?_
    refine sc_region ?_
    refine so_pure (opv_assign (by rfl)) (by rfl) rfl ?_
    refine jo_nil ?_
    refine jk_then ?_
    refine jc_ret ?_
    refine jk_fn_ret rfl rfl (by rfl) (fun w hw => ?_)
    obtain rfl : k = n := by omega
    rw [hnx, List.take_length] at ha
    rw [hnx, List.take_length] at hw
    rw [← hnx] at hw
    exact ⟨_, ⟨-1, rfl, .inl ⟨rfl, ha, rfl⟩⟩, hw⟩
end Go.Pins
