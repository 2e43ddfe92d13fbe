/- A bunch of blocks that are read and never turned again: one item. -/
import Derived.Test.YthkafociknhgaaaSLKeys
namespace Go.SL
open Go
structure bunch (fs : List (Nat × Obj)) (h : Hlt) : Prop where
  cut : ∀ k, h k = getL fs k
theorem St.bunch_nil {w0 : World} {M : Nat → Prop} {Is : List Itm} {w : World} (h : St w0 M Is w) : St w0 M (bunch [] :: Is) w :=
  h.reSep fun H hs => ⟨fun _ => none, H, ⟨fun k => rfl⟩, hs, fun k => .inl rfl, fun k => by simp⟩
theorem St.bunch_add {w0 : World} {M : Nat → Prop} {Is : List Itm} {w : World} {b : Nat} {o : Obj} {fs : List (Nat × Obj)} (h : St w0 M (blk b o :: bunch fs :: Is) w) : St w0 M (bunch ((b, o) :: fs) :: Is) w :=
  h.reSep fun H hs => by
    obtain ⟨h1, h2, i1, ⟨g1, g2, j1, j2, dj', eq'⟩, dj, eq⟩ := hs
    refine ⟨fun k => (h1 k).or (g1 k), g2, ⟨fun k => ?_⟩, j2, fun k => ?_, fun k => ?_⟩
    · show (h1 k).or (g1 k) = _
      rw [i1.cut k, j1.cut k]
      simp only [getL]
      by_cases hk : k = b
      · subst hk; simp
      · simp [hk, Ne.symm hk]
    · rcases dj k with e | e
      · rcases dj' k with e2 | e2
        · left; simp [e, e2]
        · exact .inr e2
      · rw [eq' k] at e
        right
        cases hg : g2 k with
        | none => rfl
        | some u => rw [hg] at e; cases hg1 : g1 k <;> simp [hg1] at e
    · show H k = ((h1 k).or (g1 k)).or (g2 k)
      rw [eq k, eq' k]
      cases h1 k <;> cases g1 k <;> simp [Option.or]
theorem St.bunch_get {w0 : World} {M : Nat → Prop} {Is Is' : List Itm} {w : World} {b : Nat} {o : Obj} {fs : List (Nat × Obj)} (h : St w0 M Is w) (hp : Pk (bunch fs) Is Is') (hg : getL fs b = some o) : w.heap[b]? = some o := by
  obtain ⟨_, _, _, _, H, ⟨h1, h2, i1, _, dj, eq⟩, g1, _, _⟩ := h.pk hp
  refine g1 b o ?_
  rw [eq b, i1.cut b, hg]; rfl
theorem rd_bunch {X : Cx} {Is Is' : List Itm} {b : Nat} {o : Obj} {fs : List (Nat × Obj)} (hp : Pk (bunch fs) Is Is') (hg : getL fs b = some o) : Rd X Is b o := fun _ hw => hw.bunch_get hp hg
/-- A slice that reads as xs for ever: out of a bunch, or out of what was there. -/
def SlF {α : Type} (w0 : World) (M : Nat → Prop) (fs : List (Nat × Obj)) (size : Nat) (enc : α → List Value) (A : Option Addr) (n : Nat) (xs : List α) : Prop :=
  n = xs.length ∧ (xs ≠ [] → ∃ b off c, ∃ fz : TypeId × (Nat × Nat), A = some ⟨b, off, none⟩ ∧ ((w0.heap[b]? = some (.cells c fz.1 fz.2) ∧ ¬ M b) ∨ getL fs b = some (.cells c fz.1 fz.2)) ∧ Arr c off size enc xs)
theorem SlF.slr {α : Type} {w0 w : World} {M : Nat → Prop} {fs : List (Nat × Obj)} {size el : Nat} {enc : α → List Value} {A : Option Addr} {n : Nat} {xs : List α} {Is Is' : List Itm} (h : SlF w0 M fs size enc A n xs) (hw : St w0 M Is w) (hp : Pk (bunch fs) Is Is') : SlR w el size enc A n xs :=
  ⟨h.1, fun hne => by
    obtain ⟨b, off, c, fz, h1, h2, h3⟩ := h.2 hne
    refine ⟨b, off, c, fz, h1, ?_, h3⟩
    rcases h2 with ⟨h2, h4⟩ | h2
    · exact hw.getOld h2 h4
    · exact hw.bunch_get hp h2⟩
theorem SlF.add {α : Type} {w0 : World} {M : Nat → Prop} {fs : List (Nat × Obj)} {size : Nat} {enc : α → List Value} {A : Option Addr} {n : Nat} {xs : List α} (h : SlF w0 M fs size enc A n xs) {b : Nat} (o : Obj) (hb : getL fs b = none) : SlF w0 M ((b, o) :: fs) size enc A n xs :=
  ⟨h.1, fun hne => by
    obtain ⟨b', off, c, fz, h1, h2, h3⟩ := h.2 hne
    refine ⟨b', off, c, fz, h1, ?_, h3⟩
    rcases h2 with h2 | h2
    · exact .inl h2
    · right
      simp only [getL]
      by_cases e : b = b'
      · subst e; rw [hb] at h2; cases h2
      · rw [if_neg e]; exact h2⟩
/-- A block beside a bunch is none of its blocks. -/
theorem St.bunch_fresh {w0 : World} {M : Nat → Prop} {Is : List Itm} {w : World} {b : Nat} {o : Obj} {fs : List (Nat × Obj)} (h : St w0 M (blk b o :: bunch fs :: Is) w) : getL fs b = none := by
  obtain ⟨_, _, _, _, H, ⟨h1, h2, i1, ⟨g1, g2, j1, j2, dj', eq'⟩, dj, eq⟩, _, _, _⟩ := h
  rcases dj b with e | e
  · rw [i1.cut b] at e; simp at e
  · rw [eq' b, j1.cut b] at e
    cases hg : getL fs b with
    | none => rfl
    | some u => rw [hg] at e; simp at e
end Go.SL
