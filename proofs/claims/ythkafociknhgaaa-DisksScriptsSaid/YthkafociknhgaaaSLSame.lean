/- Equality of things that are two whole numbers each. -/
import Derived.Test.YthkafociknhgaaaSLHold
namespace Go.SL
open Go
structure TwoI (P : Program) (t : TypeId) (q : IntKind) : Prop where
  all : ∃ f0 f1 : Field, P.underlying t = some (.struct #[f0, f1]) ∧ f0.name ≠ "_" ∧ f1.name ≠ "_" ∧ P.underlying f0.type = some (.int q) ∧ P.underlying f1.type = some (.int q) ∧ NoAgg P f0.type ∧ NoAgg P f1.type ∧ f0.offset = 0 ∧ f1.offset = 1 ∧ P.stoodInHeld t = false
theorem run_equal_two {P : Program} {t : TypeId} {q : IntKind} (T : TwoI P t q) (a b : Int × Int) (d : Nat) (w : World) : (Op.equalIn (d + 2) t (kvP q a) (kvP q b)).run P w = .ok (decide (a = b)) w := by
  obtain ⟨f0, f1, hu, n0, n1, u0, u1, na0, na1, o0, o1, hs⟩ := T.all
  unfold kvP
  have e0 : ∀ (x y : Int) (w : World), (Op.equalIn (d + 1) f0.type (.int q x) (.int q y)).run P w = .ok (x == y) w := fun x y w => run_equalIn_int w d f0.type q q x y u0
  have e1 : ∀ (x y : Int) (w : World), (Op.equalIn (d + 1) f1.type (.int q x) (.int q y)).run P w = .ok (x == y) w := fun x y w => run_equalIn_int w d f1.type q q x y u1
  have p0 : ∀ (x y : Int) (w : World), (part f0.type #[.int q x, .int q y] 0).run P w = .ok (.int q x) w := fun x y w => run_part_int na0 rfl w
  have p1 : ∀ (x y : Int) (w : World), (part f1.type #[.int q x, .int q y] 1).run P w = .ok (.int q y) w := fun x y w => run_part_int na1 rfl w
  rw [Op.equalIn]
  simp only [Sem.run_bind, run_underlying' hu w, Result.andThen_ok, Op.eqFields, n0, n1, ne_eq, not_false_eq_true, if_true, o0, o1, p0, p1, e0, e1, hs]
  obtain ⟨a1, a2⟩ := a
  obtain ⟨b1, b2⟩ := b
  by_cases h1 : a1 = b1
  · subst h1
    by_cases h2 : a2 = b2
    · subst h2; simp [e0, e1, p0, p1, Op.eqFields, hs, n0, n1, o0, o1]
    · simp [h2, e0, e1, p0, p1, Op.eqFields, hs, n0, n1, o0, o1]
  · simp [h1, e0, e1, p0, p1, Op.eqFields, hs, n0, n1, o0, o1]
section
variable {α : Type}
theorem take_step {xs ys : List α} {k : Nat} {x y : α} (h : xs.take k = ys.take k) (hx : xs[k]? = some x) (hy : ys[k]? = some y) (he : x = y) : xs.take (k + 1) = ys.take (k + 1) := by
  rw [List.take_add_one, List.take_add_one, h, hx, hy, he]
theorem ne_of_get {xs ys : List α} {k : Nat} {x y : α} (hx : xs[k]? = some x) (hy : ys[k]? = some y) (hne : x ≠ y) : xs ≠ ys := fun e => by
  subst e; rw [hx] at hy; exact hne (Option.some.inj hy)
theorem eq_of_take {xs ys : List α} {k : Nat} (h : xs.take k = ys.take k) (hx : xs.length ≤ k) (hy : ys.length ≤ k) : xs = ys := by
  rwa [List.take_of_length_le hx, List.take_of_length_le hy] at h
end
section
variable {X : Cx} {e : Env} {Is : List Itm} {dst : Option Tmp} {ty : TypeId} {pos : String} {aft : Array Edge} {g : Option (Nat × Bool)} {x y : Operand} {t t' : TypeId}
theorem opv_two_ne {q : IntKind} {a b : Int × Int} (T : TwoI X.P t q) (hG : X.P.eqGuardType X.P.depth t = false) (hx : ev e x = some (kvP q a)) (hy : ev e y = some (kvP q b)) : Opv X e Is ⟨dst, .binOp .neq t x y t', ty, pos, aft, g⟩ (.bool (!decide (a = b))) :=
  opv_of (by intro c; simp) fun a' w ha hw => by
    have q' : (Op.equal t (kvP q a) (kvP q b)).run X.P w = .ok (decide (a = b)) w := run_equal_two T a b _ w
    have hb : binOp .neq t (kvP q a) (kvP q b) = (do pure (.bool (!(← Op.equal t (kvP q a) (kvP q b))))) := rfl
    have hg : (eqGuard .neq t x y (kvP q a) (kvP q b)).run X.P w = .ok () w := by
      simp [eqGuard, kvP, run_program, hG]
    simp only [execOp, ha.eval hx, ha.eval hy, Sem.run_bind, hg, Result.andThen_ok, hb, q', Sem.run_pure]
end
end Go.SL
