/- Texts that are the same. -/
import Derived.Test.YthkafociknhgaaaSLMark
namespace Go.SL
open Go
section
variable {X : Cx} {e : Env} {Is : List Itm} {dst : Option Tmp} {ty : TypeId} {pos : String} {aft : Array Edge} {g : Option (Nat × Bool)} {x y : Operand} {t t' : TypeId}
theorem opv_sne_false {a b : ByteArray} (hx : ev e x = some (.string a)) (hy : ev e y = some (.string b)) (h : a = b) : Opv X e Is ⟨dst, .binOp .neq t x y t', ty, pos, aft, g⟩ (.bool false) := by
  have := opv_sne (X := X) (Is := Is) (dst := dst) (ty := ty) (pos := pos) (aft := aft) (g := g) (t := t) (t' := t') hx hy
  rw [decide_eq_true h] at this
  exact this
end
end Go.SL
