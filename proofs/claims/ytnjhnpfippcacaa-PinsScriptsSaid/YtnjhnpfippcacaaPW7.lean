/- A part of a proof for the laws of the seat Ytnjhnpfippcacaa; it has no conditions of its own. -/
import Derived.Test.YtnjhnpfippcacaaPW6
namespace Go.Pins
open Go Go.SL Go.Proofs
set_option maxHeartbeats 4000000 in
theorem contains_spec {w0 w : World} {M : Nat → Prop} {Fr : List Vol → List Itm} {sv : Value} {n fi : Nat} {cl : List Value} {xs ys0 : List Vol} {p : Vol → Bool} (tx : Txt Try.prog fi) (hst : St w0 M (own sv 33 4 n (xs.flatMap Vol.cells) :: Fr ys0) w) (hnx : n = xs.length) (hn : n ≤ 100000) (hy0 : ys0.length ≤ 100000)
    (hf : ∀ (ys : List Vol) (x : Vol) (Is2 : List Itm) (w : World), ys.length ≤ 200000 → St w0 M (Is2 ++ Fr ys) w → Does Try.prog fi ([] ++ [Value.agg x.cells.toArray] ++ cl).toArray w fun v w' => v = .bool (p x) ∧ St w0 M (Is2 ++ Fr (ys ++ [x])) w') : Does Try.prog 22 #[sv, .func (.func fi) #[] cl.toArray] w (fun v w' => ∃ vis, v = .bool (xs.any p) ∧ St w0 M (own sv 33 4 n (xs.flatMap Vol.cells) :: Fr (ys0 ++ vis)) w') := by
  refine fn_bodyX (fn := Try.f22) Try.func22 rfl [(0, sv), (1, .func (.func fi) #[] cl.toArray)] (by exact ⟨rfl, rfl, trivial⟩) rfl hst ?_
  refine jc_seq ?_
  refine sc_region ?_
  refine so_pure (opv_assign (by rfl)) (by rfl) rfl ?_
  refine jo_nil ?_
  refine jk_then ?_
  refine jc_seq ?_
  refine sc_region ?_
  refine so_pure (opv_move (by rfl)) (by rfl) rfl ?_
  refine so_pure (opv_move (by rfl)) (by rfl) rfl ?_
  refine so_eff (eff_call (fl := []) (cl := []) (G := fun v Is' => ∃ vis, Idx p xs v vis ∧ Is' = own sv 33 4 n (xs.flatMap Vol.cells) :: Fr (ys0 ++ vis)) (by rfl) (by rfl) tx30 (by exact fun w1 hw1 => (index_spec tx hw1 hnx hn hy0 hf).mono (fun _ _ ⟨vis, hv, hst⟩ => ⟨_, ⟨vis, hv, rfl⟩, hst⟩))) (by rfl) rfl ?_
  rintro _ _ ⟨vis, ⟨i, rfl, hi⟩, rfl⟩
  refine so_pure (opv_cmp (by rfl) (by rfl) (by rfl)) (by rfl) rfl ?_
  refine so_pure (opv_assign (by rfl)) (by rfl) rfl ?_
  refine jo_nil ?_
  refine jk_then ?_
  refine jc_ret ?_
  refine jk_fn_ret rfl rfl (by rfl) (fun w hw => ?_)
  exact ⟨vis, congrArg Value.bool (Idx.any hi), hw⟩
end Go.Pins
