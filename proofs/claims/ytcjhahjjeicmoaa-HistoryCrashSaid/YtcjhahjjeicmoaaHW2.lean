/- A part of a proof for the laws of the seat Ytcjhahjjeicmoaa; it has no conditions of its own. -/
import Derived.Test.YtcjhahjjeicmoaaHW1
namespace Go.Hist
open Go Go.SL Go.Proofs
set_option maxHeartbeats 4000000 in
theorem ops_spec (w : World) (A : Option Addr) (n cap : Nat) (xs : List Ev) (hs : SlR w 39 8 Ev.cells A n xs) (hn : n ≤ 1000000) : Does Try.prog 9 #[.slice A n cap] w (fun v w' => St w Emp [own v 35 9 (opsOf xs).length ((opsOf xs).flatMap Hop.cells)] w') := by
  refine fn_body (fn := Try.f9) Try.func9 rfl [(0, .slice A n cap)] (by exact ⟨rfl, trivial⟩) rfl (St.start w) ?_
  refine jc_seq ?_
  refine sc_region ?_
  refine so_pure (opv_assign (by rfl)) (by rfl) rfl ?_
  refine jo_nil ?_
  refine jk_then ?_
  refine jc_seq ?_
  refine sc_region ?_
  refine so_pure (opv_move (by rfl)) (by rfl) rfl ?_
  refine so_eff (eff_call0 (G := fun v New => ∃ sv, v = .tuple #[sv, .bool (gather xs).isSome] ∧ New = [own sv 35 9 (opsOf xs).length ((opsOf xs).flatMap Hop.cells)]) (by rfl) (by rfl) tx14 (by exact fun w1 hw1 => (gather_spec w1 A n cap xs (hs.keepSt hw1) hn).mono (fun _ _ ⟨sv, hv, hst⟩ => ⟨_, ⟨sv, hv, rfl⟩, hst⟩))) (by rfl) rfl ?_
  rintro _ _ ⟨_, ⟨sv, rfl, rfl⟩, rfl⟩
  refine so_pure (opv_move (by rfl)) (by rfl) rfl ?_
  refine so_pure (opv_extract (by rfl) (by rfl)) (by rfl) rfl ?_
  refine so_pure (opv_extract (by rfl) (by rfl)) (by rfl) rfl ?_
  refine so_pure (opv_assign (by rfl)) (by rfl) rfl ?_
  refine so_pure (opv_assign (by rfl)) (by rfl) rfl ?_
  refine jo_nil ?_
  refine jk_then ?_
  refine jc_seq ?_
  refine sc_region ?_
  refine so_pure (opv_move (by rfl)) (by rfl) rfl ?_
  refine so_pure (opv_assign (by rfl)) (by rfl) rfl ?_
  refine jo_nil ?_
  refine jk_then ?_
  refine jc_ret ?_
  refine jk_fn_ret rfl rfl (by rfl) (fun w hw => ?_)
  exact St.sel hw (by repeat (first | exact Pks.nil _ | exact Pk.here _ | apply Pk.there | apply Pks.cons))
set_option maxHeartbeats 4000000 in
theorem may_spec (w : World) (A : Option Addr) (n cap : Nat) (xs : List Ev) (hs : SlR w 39 8 Ev.cells A n xs) (hn : n ≤ 1000000) : Does Try.prog 11 #[.slice A n cap] w (fun v w' => v = .bool (gather xs).isSome ∧ St w Emp [] w') := by
  refine fn_body (fn := Try.f11) Try.func11 rfl [(0, .slice A n cap)] (by exact ⟨rfl, trivial⟩) rfl (St.start w) ?_
  refine jc_seq ?_
  refine sc_region ?_
  refine so_pure (opv_assign (by rfl)) (by rfl) rfl ?_
  refine jo_nil ?_
  refine jk_then ?_
  refine jc_seq ?_
  refine sc_region ?_
  refine so_pure (opv_move (by rfl)) (by rfl) rfl ?_
  refine so_eff (eff_call0 (G := fun v New => ∃ sv, v = .tuple #[sv, .bool (gather xs).isSome] ∧ New = [own sv 35 9 (opsOf xs).length ((opsOf xs).flatMap Hop.cells)]) (by rfl) (by rfl) tx14 (by exact fun w1 hw1 => (gather_spec w1 A n cap xs (hs.keepSt hw1) hn).mono (fun _ _ ⟨sv, hv, hst⟩ => ⟨_, ⟨sv, hv, rfl⟩, hst⟩))) (by rfl) rfl ?_
  rintro _ _ ⟨_, ⟨sv, rfl, rfl⟩, rfl⟩
  refine so_pure (opv_move (by rfl)) (by rfl) rfl ?_
  refine so_pure (opv_extract (by rfl) (by rfl)) (by rfl) rfl ?_
  refine so_pure (opv_extract (by rfl) (by rfl)) (by rfl) rfl ?_
  refine so_pure (opv_assign (by rfl)) (by rfl) rfl ?_
  refine so_pure (opv_assign (by rfl)) (by rfl) rfl ?_
  refine jo_nil ?_
  refine jk_then ?_
  refine jc_seq ?_
  refine sc_region ?_
  refine so_pure (opv_move (by rfl)) (by rfl) rfl ?_
  refine so_pure (opv_assign (by rfl)) (by rfl) rfl ?_
  refine jo_nil ?_
  refine jk_then ?_
  refine jc_ret ?_
  refine jk_fn_ret rfl rfl (by rfl) (fun w hw => ?_)
  exact ⟨rfl, hw.forget⟩
end Go.Hist
