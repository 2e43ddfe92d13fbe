/- What the slices package does with writes that wait. -/
import Derived.Test.YthkafociknhgaaaDkPlain
namespace Go.Disks
open Go Go.SL
/-- Where the first that p holds of stands; vis: those that were looked at. -/
def Idx (p : Wr → Bool) (xs : List Wr) (v : Value) (vis : List Wr) : Prop :=
  ∃ i : Int, v = .int .i64 i ∧ ((i = -1 ∧ xs.all (fun y => !p y) = true ∧ vis = xs) ∨ ∃ k x, i = (k : Nat) ∧ xs[k]? = some x ∧ p x = true ∧ (xs.take k).all (fun y => !p y) = true ∧ vis = xs.take (k + 1))
theorem all_step {xs : List Wr} {k : Nat} {x : Wr} {p : Wr → Bool} (hx : xs[k]? = some x) (h : (xs.take k).all p = true) (hp : p x = true) : (xs.take (k + 1)).all p = true := by
  rw [take_snoc hx, List.all_append, h]; simp [hp]
theorem zero_one {z : Array Value} (h : z.toList.all Value.oneCell' = true) (n : Nat) : (Builtin.zeroCells z n).toList.all Value.oneCell' = true := by
  rcases Nat.eq_zero_or_pos z.size with h0 | h0
  · simp [Builtin.zeroCells, h0]
  · rw [List.all_eq_true] at h ⊢
    intro x hx
    simp only [Builtin.zeroCells, Array.toList_map, List.mem_map] at hx
    obtain ⟨i, _, rfl⟩ := hx
    have hlt : i % z.size < z.size := Nat.mod_lt _ h0
    rw [getElem!_pos z _ hlt]
    exact h _ (Array.mem_toList_iff.2 (Array.getElem_mem hlt))
theorem filter_all {xs : List Wr} {p : Wr → Bool} (h : xs.all p = true) : xs.filter p = xs := List.filter_eq_self.2 (List.all_eq_true.1 h)
theorem del_first {p : Wr → Bool} {xs : List Wr} {k : Nat} {x : Wr} (hx : xs[k]? = some x) (hp : p x = true) (h : (xs.take k).all (fun y => !p y) = true) : xs.take k = (xs.take (k + 1)).filter (fun y => !p y) := by
  rw [take_snoc hx, List.filter_append, filter_all h]; simp [hp]
theorem del_skip {p : Wr → Bool} {xs zs : List Wr} {i j : Nat} {x : Wr} (hx : xs[j]? = some x) (h1 : zs.take i = (xs.take j).filter (fun y => !p y)) (h2 : zs.drop j = xs.drop j) (hp : p x = true) :
    zs.take i = (xs.take (j + 1)).filter (fun y => !p y) ∧ zs.drop (j + 1) = xs.drop (j + 1) := by
  refine ⟨by rw [take_snoc hx, List.filter_append, h1]; simp [hp], ?_⟩
  rw [← List.drop_drop, ← List.drop_drop, h2]
theorem del_keep {p : Wr → Bool} {xs zs : List Wr} {i j : Nat} {x : Wr} (hx : xs[j]? = some x) (hi : i < j) (hl : zs.length = xs.length) (h1 : zs.take i = (xs.take j).filter (fun y => !p y)) (h2 : zs.drop j = xs.drop j) (hp : p x = false) :
    (zs.set i x).take (i + 1) = (xs.take (j + 1)).filter (fun y => !p y) ∧ (zs.set i x).drop (j + 1) = xs.drop (j + 1) := by
  have hj := (List.getElem?_eq_some_iff.1 hx).1
  have hi' : i < zs.length := by omega
  refine ⟨?_, ?_⟩
  · rw [take_snoc hx, List.filter_append, ← h1, take_snoc (x := x) (by simp [hi'])]
    rw [List.take_set_of_le (Nat.le_refl i)]
    simp [hp]
  · rw [List.drop_set_of_lt (by omega), ← List.drop_drop, ← List.drop_drop, h2]
def spD (n : Int) (s : ByteArray) (D : Dsk) : Dsk := ⟨setL D.kp n s, D.ws.filter fun y => !decide (y.n = n)⟩
end Go.Disks
