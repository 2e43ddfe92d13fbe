/- The base of the session's own proof layer: environments of slots, assertions on memory as lists of separate items, and the judgements of code over them. -/
import Derived.CallsIn
import Derived.OrdersIn
import Derived.RangeFuncIn
import Derived.RangeFuncLeaves
import Derived.KernelRfl
import Derived.WalkKit
import Derived.Below
import Derived.OwnWalkIn
namespace Go.SL
open Go

/-! ### Slots -/
abbrev Env := List (Nat × Value)
def look : Env → Nat → Option Value
  | [], _ => none
  | (j, v) :: e, i => match Nat.beq j i with | true => some v | false => look e i
def ev (e : Env) : Operand → Option Value
  | .tmp t => look e t
  | .const v => some v
  | .global g => some (.pointer (some ⟨g, 0, none⟩))
  | .func f => some (.func (.func f) #[] #[])
structure Sat (N : Nat) (e : Env) (ds : List Deferred) (a : Act) : Prop where
  size : a.tmps.size = N
  defers : a.defers = ds
  val : ∀ i v, look e i = some v → a.tmps[i]? = some v
theorem Sat.eval {N : Nat} {e : Env} {ds : List Deferred} {a : Act} (h : Sat N e ds a) {o : Operand} {v : Value} (hv : ev e o = some v) : a.eval o = v := by
  cases o with
  | tmp t => have := h.val t v hv; simp [Act.eval, Array.getD, Array.getElem?_eq_some_iff] at *; obtain ⟨h1, h2⟩ := this; simp [h1, h2]
  | const u => simpa [ev, Act.eval] using hv
  | global g => simpa [ev, Act.eval] using hv
  | func f => simpa [ev, Act.eval] using hv
theorem Sat.put {N : Nat} {e : Env} {ds : List Deferred} {a : Act} (h : Sat N e ds a) {d : Nat} (hd : Nat.blt d N = true) (v : Value) : Sat N ((d, v) :: e) ds (a.put (some d) v) := by
  have hd' : d < N := by simpa [Nat.blt_eq] using hd
  refine ⟨by simpa [Act.put] using h.size, h.defers, fun i u hu => ?_⟩
  simp only [look] at hu
  simp only [Act.put, Array.getElem?_setIfInBounds]
  cases hb : Nat.beq d i with
  | true =>
    rw [hb] at hu
    have : d = i := Nat.eq_of_beq_eq_true hb
    subst this
    simp at hu
    simp [hu, h.size, hd']
  | false =>
    rw [hb] at hu
    have hne : d ≠ i := fun e' => by subst e'; simp [Nat.beq_refl] at hb
    simp [hne, h.val i u hu]
def Sub : Env → Env → Prop
  | [], _ => True
  | (i, v) :: t, e => look e i = some v ∧ Sub t e
theorem Sub.look {e' e : Env} (h : Sub e' e) {i : Nat} {v : Value} (hv : look e' i = some v) : look e i = some v := by
  induction e' with
  | nil => simp [SL.look] at hv
  | cons x t ih =>
    obtain ⟨j, u⟩ := x
    simp only [SL.look] at hv
    cases hb : Nat.beq j i with
    | true => rw [hb] at hv; have := Nat.eq_of_beq_eq_true hb; subst this; simp at hv; subst hv; exact h.1
    | false => rw [hb] at hv; exact ih h.2 hv
theorem Sat.sub {N : Nat} {e e' : Env} {ds : List Deferred} {a : Act} (h : Sat N e ds a) (hs : Sub e' e) : Sat N e' ds a :=
  ⟨h.size, h.defers, fun i v hv => h.val i v (hs.look hv)⟩

/-! ### Memory -/
abbrev Hlt := Nat → Option Obj
abbrev Itm := Hlt → Prop
structure blk (b : Nat) (o : Obj) (h : Hlt) : Prop where
  cut : ∀ k, h k = if k = b then some o else none
def Sep : List Itm → Itm
  | [] => fun h => ∀ k, h k = none
  | I :: Is => fun h => ∃ h1 h2, I h1 ∧ Sep Is h2 ∧ (∀ k, h1 k = none ∨ h2 k = none) ∧ ∀ k, h k = (h1 k).or (h2 k)
structure StH (w0 : World) (M : Nat → Prop) (Is : List Itm) (w : World) (h : Hlt) : Prop where
  sep : Sep Is h
  has : ∀ k o, h k = some o → w.heap[k]? = some o
  old : ∀ k, k < w0.heap.size → h k ≠ none → M k
  same : ∀ k, k < w0.heap.size → ¬ M k → w.heap[k]? = w0.heap[k]?
structure St (w0 : World) (M : Nat → Prop) (Is : List Itm) (w : World) : Prop where
  os : w.os = w0.os
  tape : w.tape = w0.tape
  output : w.output = w0.output
  size : w0.heap.size ≤ w.heap.size
  hp : ∃ h, StH w0 M Is w h
abbrev Emp : Nat → Prop := fun _ => False

/-- I stands in Is; what is left is Is'. -/
inductive Pk (I : Itm) : List Itm → List Itm → Prop
  | here (Is : List Itm) : Pk I (I :: Is) Is
  | there {J : Itm} {Is Is' : List Itm} : Pk I Is Is' → Pk I (J :: Is) (J :: Is')

theorem Sep.pk {I : Itm} {Is Is' : List Itm} (h : Pk I Is Is') : ∀ {H : Hlt}, Sep Is H → Sep (I :: Is') H := by
  induction h with
  | here => exact fun h => h
  | there hp ih =>
    intro H hH
    obtain ⟨h1, h2, i1, i2, dj, eq⟩ := hH
    obtain ⟨k1, k2, j1, j2, dj', eq'⟩ := ih i2
    refine ⟨k1, fun k => (h1 k).or (k2 k), j1, ⟨h1, k2, i1, j2, fun k => ?_, fun k => rfl⟩, fun k => ?_, fun k => ?_⟩
    · rcases dj k with e | e
      · exact .inl e
      · rw [eq' k] at e; right
        cases hk1 : k1 k <;> simp [hk1] at e; exact e
    · rcases dj' k with e | e
      · exact .inl e
      · rcases dj k with e2 | e2
        · right; simp [e, e2]
        · rw [eq' k] at e2; left; cases hk1 : k1 k <;> simp [hk1] at e2 ⊢
    · rw [eq k, eq' k]
      rcases dj k with e2 | e2
      · simp [e2]
      · rw [eq' k] at e2
        cases hk1 : k1 k with
        | none => simp
        | some u => rw [hk1] at e2; simp at e2
theorem Sep.unpk {I : Itm} {Is Is' : List Itm} (h : Pk I Is Is') : ∀ {H : Hlt}, Sep (I :: Is') H → Sep Is H := by
  induction h with
  | here => exact fun h => h
  | there hp ih =>
    rename_i J Is Is'
    intro H hH
    have := Sep.pk (I := J) (Is := I :: J :: Is') (Is' := I :: Is') (.there (.here _)) hH
    obtain ⟨h1, h2, i1, i2, dj, eq⟩ := this
    exact ⟨h1, h2, i1, ih i2, dj, eq⟩
theorem St.reSep {w0 : World} {M : Nat → Prop} {Is Is' : List Itm} {w : World} (h : St w0 M Is w) (f : ∀ H, Sep Is H → Sep Is' H) : St w0 M Is' w := by
  obtain ⟨os, tape, output, size, H, hs, h1, h2, h3⟩ := h
  exact ⟨os, tape, output, size, H, f H hs, h1, h2, h3⟩
theorem St.pk {w0 : World} {M : Nat → Prop} {I : Itm} {Is Is' : List Itm} {w : World} (h : St w0 M Is w) (hp : Pk I Is Is') : St w0 M (I :: Is') w := h.reSep fun _ => Sep.pk hp
theorem St.unpk {w0 : World} {M : Nat → Prop} {I : Itm} {Is Is' : List Itm} {w : World} (h : St w0 M (I :: Is') w) (hp : Pk I Is Is') : St w0 M Is w := h.reSep fun _ => Sep.unpk hp
theorem St.drop {w0 : World} {M : Nat → Prop} {I : Itm} {Is : List Itm} {w : World} (h : St w0 M (I :: Is) w) : St w0 M Is w := by
  obtain ⟨os, tape, output, size, H, ⟨h1, h2, i1, i2, dj, eq⟩, g1, g2, g3⟩ := h
  have sub : ∀ k o, h2 k = some o → H k = some o := fun k o hk => by
    rw [eq k]; rcases dj k with e | e
    · simp [e, hk]
    · rw [hk] at e; cases e
  refine ⟨os, tape, output, size, h2, i2, fun k o hk => g1 k o (sub k o hk), fun k hk hn => g2 k hk ?_, g3⟩
  cases hk2 : h2 k with
  | none => exact absurd hk2 hn
  | some o => rw [sub k o hk2]; simp
/-- The block of an item that stands there. -/
theorem St.get {w0 : World} {M : Nat → Prop} {Is Is' : List Itm} {w : World} {b : Nat} {o : Obj} (h : St w0 M Is w) (hp : Pk (blk b o) Is Is') : w.heap[b]? = some o := by
  obtain ⟨_, _, _, _, H, ⟨h1, h2, i1, _, dj, eq⟩, g1, _, _⟩ := h.pk hp
  refine g1 b o ?_
  rw [eq b, i1.cut b]; simp
/-- What was there and is none of the blocks that may turn. -/
theorem St.getOld {w0 : World} {M : Nat → Prop} {Is : List Itm} {w : World} {b : Nat} {o : Obj} (h : St w0 M Is w) (h0 : w0.heap[b]? = some o) (hM : ¬ M b) : w.heap[b]? = some o := by
  obtain ⟨_, _, _, _, H, _, _, _, g3⟩ := h
  rw [g3 b (Array.getElem?_eq_some_iff.1 h0).1 hM]; exact h0
theorem St.start (w : World) : St w Emp [] w := ⟨rfl, rfl, rfl, Nat.le_refl _, fun _ => none, fun _ => rfl, (fun _ _ h => by cases h), (fun _ _ h => absurd rfl h), fun _ _ _ => rfl⟩

/-- A turned world: the heap is told block by block; nothing else has turned but the count of draws. -/
structure Turned (w w' : World) (f : Nat → Option Obj → Option Obj) : Prop where
  os : w'.os = w.os
  tape : w'.tape = w.tape
  output : w'.output = w.output
  size : w.heap.size ≤ w'.heap.size
  heap : ∀ k, w'.heap[k]? = f k w.heap[k]?

theorem St.drew {w0 : World} {M : Nat → Prop} {Is : List Itm} {w : World} (h : St w0 M Is w) (n : Nat) : St w0 M Is { w with drawn := n } := by
  obtain ⟨os, tape, output, size, H, hs, h1, h2, h3⟩ := h
  exact ⟨os, tape, output, size, H, hs, h1, h2, h3⟩
/-- A new block. -/
theorem St.alloc {w0 : World} {M : Nat → Prop} {Is : List Itm} {w : World} (h : St w0 M Is w) (o : Obj) : St w0 M (blk w.heap.size o :: Is) { w with heap := w.heap.push o } := by
  obtain ⟨os, tape, output, size, H, hs, h1, h2, h3⟩ := h
  have hn : H w.heap.size = none := by
    cases e : H w.heap.size with
    | none => rfl
    | some o' => have := h1 _ _ e; simp at this
  refine ⟨os, tape, output, by simp; omega, fun k => (if k = w.heap.size then some o else none : Option Obj).or (H k), ⟨fun k => if k = w.heap.size then some o else none, H, ⟨fun k => rfl⟩, hs, fun k => ?_, fun k => rfl⟩, fun k o' hk => ?_, fun k hk hne => ?_, fun k hk hM => ?_⟩
  · by_cases e : k = w.heap.size
    · subst e; exact .inr hn
    · exact .inl (by simp [e])
  · show (w.heap.push o)[k]? = some o'
    by_cases e : k = w.heap.size
    · subst e; simp at hk; simp [hk]
    · simp only [if_neg e, Option.none_or] at hk
      rw [Array.getElem?_push, if_neg e]; exact h1 k o' hk
  · have e : k ≠ w.heap.size := by omega
    exact h2 k hk (by simpa [e] using hne)
  · show (w.heap.push o)[k]? = _
    rw [Array.getElem?_push, if_neg (by omega)]; exact h3 k hk hM
/-- A block that stands there is turned. -/
theorem St.set {w0 : World} {M : Nat → Prop} {Is Is' : List Itm} {w w' : World} {b : Nat} {o o' : Obj} (h : St w0 M Is w) (hp : Pk (blk b o) Is Is')
    (ht : Turned w w' fun k x => if k = b then some o' else x) : St w0 M (blk b o' :: Is') w' := by
  obtain ⟨os, tape, output, size, H, ⟨h1, h2, i1, i2, dj, eq⟩, g1, g2, g3⟩ := h.pk hp
  have hb1 : h1 b = some o := by rw [i1.cut b]; simp
  have hb2 : h2 b = none := by rcases dj b with e | e; · rw [hb1] at e; cases e
                               · exact e
  have hHb : H b = some o := by rw [eq b, hb1]; rfl
  refine ⟨ht.os.trans os, ht.tape.trans tape, ht.output.trans output, Nat.le_trans size ht.size, fun k => (if k = b then some o' else none : Option Obj).or (h2 k), ⟨fun k => if k = b then some o' else none, h2, ⟨fun k => rfl⟩, i2, fun k => ?_, fun k => rfl⟩, fun k u hk => ?_, fun k hk hne => ?_, fun k hk hM => ?_⟩
  · by_cases e : k = b
    · subst e; exact .inr hb2
    · exact .inl (by simp [e])
  · rw [ht.heap k]
    by_cases e : k = b
    · subst e; simpa using hk
    · simp only [if_neg e, Option.none_or] at hk ⊢
      refine g1 k u ?_
      rw [eq k, i1.cut k, if_neg e]; simpa using hk
  · by_cases e : k = b
    · subst e; exact g2 k hk (by rw [hHb]; simp)
    · refine g2 k hk ?_
      rw [eq k, i1.cut k, if_neg e]
      simpa [e] using hne
  · have e : k ≠ b := fun e => by subst e; exact hM (g2 k hk (by rw [hHb]; simp))
    rw [ht.heap k, if_neg e]; exact g3 k hk hM
theorem Turned.setCell {w : World} {b off : Nat} {c : Array Value} {t : TypeId} {fz : Nat × Nat} (h : w.heap[b]? = some (.cells c t fz)) (v : Value) :
    Turned w (w.setCell ⟨b, off, none⟩ v) fun k x => if k = b then some (.cells (c.setIfInBounds off v) t fz) else x := by
  refine ⟨rfl, rfl, rfl, by simp [World.setCell], fun k => ?_⟩
  simp only [World.setCell, Array.getElem?_modify]
  by_cases e : k = b
  · subst e; simp [h]
  · simp [e, Ne.symm e]
theorem Turned.setObj {w : World} {b : Nat} {o : Obj} (h : w.heap[b]? = some o) (o' : Obj) :
    Turned w { w with heap := w.heap.setIfInBounds b o' } fun k x => if k = b then some o' else x := by
  refine ⟨rfl, rfl, rfl, by simp, fun k => ?_⟩
  have hlt := (Array.getElem?_eq_some_iff.1 h).1
  simp only [Array.getElem?_setIfInBounds]
  by_cases e : k = b
  · subst e; simp [hlt]
  · simp [e, Ne.symm e]

/-- Two assertions side by side. -/
theorem Sep.append {A B : List Itm} : ∀ {H : Hlt}, Sep (A ++ B) H ↔ ∃ h1 h2, Sep A h1 ∧ Sep B h2 ∧ (∀ k, h1 k = none ∨ h2 k = none) ∧ ∀ k, H k = (h1 k).or (h2 k) := by
  induction A with
  | nil =>
    intro H
    constructor
    · exact fun h => ⟨fun _ => none, H, fun _ => rfl, h, fun _ => .inl rfl, fun k => by simp⟩
    · rintro ⟨h1, h2, e1, s2, _, eq⟩
      have : H = h2 := funext fun k => by rw [eq k, e1 k]; simp
      rw [this]; exact s2
  | cons I A ih =>
    intro H
    constructor
    · rintro ⟨h1, h2, i1, i2, dj, eq⟩
      obtain ⟨k1, k2, j1, j2, dj', eq'⟩ := ih.1 i2
      refine ⟨fun k => (h1 k).or (k1 k), k2, ⟨h1, k1, i1, j1, fun k => ?_, fun k => rfl⟩, j2, fun k => ?_, fun k => ?_⟩
      · rcases dj k with e | e
        · exact .inl e
        · rw [eq' k] at e; right; cases hk : k1 k <;> simp [hk] at e ⊢
      · rcases dj' k with e | e
        · rcases dj k with e2 | e2
          · left; simp [e, e2]
          · rw [eq' k] at e2; right; simpa [e] using e2
        · exact .inr e
      · show H k = ((h1 k).or (k1 k)).or (k2 k)
        rw [eq k, eq' k]; cases h1 k <;> simp [Option.or]
    · rintro ⟨g1, k2, ⟨h1, k1, i1, j1, dj, eq⟩, j2, dj', eq'⟩
      refine ⟨h1, fun k => (k1 k).or (k2 k), i1, ih.2 ⟨k1, k2, j1, j2, fun k => ?_, fun k => rfl⟩, fun k => ?_, fun k => ?_⟩
      · rcases dj' k with e | e
        · rw [eq k] at e; left; cases h : h1 k <;> simp [h] at e ⊢; exact e
        · exact .inr e
      · rcases dj' k with e | e
        · rw [eq k] at e; left; cases h : h1 k <;> simp [h] at e ⊢
        · rcases dj k with e2 | e2
          · exact .inl e2
          · right; simp [e, e2]
      · rw [eq' k, eq k]; cases h1 k <;> simp

/-- **The frame of a call.** What the callee is handed (Pre), and whatever stands beside it (Fr). -/
theorem St.frame {w0 : World} {M0 : Nat → Prop} {Pre Fr : List Itm} {w1 : World} (h : St w0 M0 (Pre ++ Fr) w1) :
    ∃ M, St w1 M Pre w1 ∧ (∀ k, k < w0.heap.size → ¬ M0 k → ¬ M k) ∧ (∀ k o Fr', Pk (blk k o) Fr Fr' → ¬ M k) ∧ ∀ Post w2, St w1 M Post w2 → St w0 M0 (Post ++ Fr) w2 := by
  obtain ⟨os, tape, output, size, H, hs, g1, g2, g3⟩ := h
  obtain ⟨hp, hf, sp, sf, dj, eq⟩ := Sep.append.1 hs
  have pH : ∀ k o, hp k = some o → H k = some o := fun k o e => by rw [eq k, e]; rfl
  have fH : ∀ k o, hf k = some o → H k = some o := fun k o e => by
    rw [eq k]; rcases dj k with e2 | e2
    · simp [e2, e]
    · rw [e] at e2; cases e2
  refine ⟨fun k => hp k ≠ none, ⟨rfl, rfl, rfl, Nat.le_refl _, hp, sp, fun k o e => g1 k o (pH k o e), fun _ _ e => e, fun _ _ _ => rfl⟩, fun k hk hM hM' => hM ?_, fun k o Fr' hpk hM => ?_, fun Post w2 h2 => ?_⟩
  · cases e : hp k with
    | none => exact absurd e hM'
    | some o => exact g2 k hk (by rw [pH k o e]; simp)
  · obtain ⟨a1, a2, b1, _, _, eq2⟩ := Sep.pk hpk sf
    have : hf k = some o := by rw [eq2 k, b1.cut k]; simp
    rcases dj k with e | e
    · exact hM e
    · rw [this] at e; cases e
  · obtain ⟨os2, tape2, output2, size2, H2, s2, k1, k2, k3⟩ := h2
    have hfS : ∀ k o, hf k = some o → k < w1.heap.size := fun k o e => (Array.getElem?_eq_some_iff.1 (g1 k o (fH k o e))).1
    have dj2 : ∀ k, H2 k = none ∨ hf k = none := fun k => by
      cases e2 : H2 k with
      | none => exact .inl rfl
      | some o =>
        right
        cases ef : hf k with
        | none => rfl
        | some o' =>
          have := k2 k (hfS k o' ef) (by rw [e2]; simp)
          rcases dj k with e | e
          · exact absurd e this
          · rw [ef] at e; cases e
    refine ⟨os2.trans os, tape2.trans tape, output2.trans output, Nat.le_trans size size2, fun k => (H2 k).or (hf k), Sep.append.2 ⟨H2, hf, s2, sf, dj2, fun _ => rfl⟩, fun k o e => ?_, fun k hk hne => ?_, fun k hk hM => ?_⟩
    · cases e2 : H2 k with
      | some u => rw [e2] at e; simp at e; rw [← e]; exact k1 k u e2
      | none =>
        rw [e2] at e; simp at e
        have hlt := hfS k o e
        have hnp : ¬ (hp k ≠ none) := fun hne => by
          rcases dj k with x | x
          · exact hne x
          · rw [e] at x; cases x
        rw [k3 k hlt hnp]; exact g1 k o (fH k o e)
    · cases e2 : H2 k with
      | some u =>
        have hM := k2 k (Nat.lt_of_lt_of_le hk size) (by rw [e2]; simp)
        cases ep : hp k with
        | none => exact absurd ep hM
        | some o => exact g2 k hk (by rw [pH k o ep]; simp)
      | none =>
        rw [e2] at hne; simp at hne
        cases ef : hf k with
        | none => simp [ef] at hne
        | some o => exact g2 k hk (by rw [fH k o ef]; simp)
    · have hnp : ¬ (hp k ≠ none) := fun hne => hM (by
        cases ep : hp k with
        | none => exact absurd ep hne
        | some o => exact g2 k hk (by rw [pH k o ep]; simp))
      rw [k3 k (Nat.lt_of_lt_of_le hk size) hnp]; exact g3 k hk hM
/-- The frame of a call that turns nothing that was there. -/
theorem St.frame0 {w0 : World} {M0 : Nat → Prop} {Fr New : List Itm} {w1 w2 : World} (h : St w0 M0 Fr w1) (h2 : St w1 Emp New w2) : St w0 M0 (New ++ Fr) w2 := by
  obtain ⟨os, tape, output, size, H, hs, g1, g2, g3⟩ := h
  obtain ⟨os2, tape2, output2, size2, H2, s2, k1, k2, k3⟩ := h2
  have hS : ∀ k o, H k = some o → k < w1.heap.size := fun k o e => (Array.getElem?_eq_some_iff.1 (g1 k o e)).1
  have dj2 : ∀ k, H2 k = none ∨ H k = none := fun k => by
    cases e2 : H2 k with
    | none => exact .inl rfl
    | some o =>
      right
      cases ef : H k with
      | none => rfl
      | some o' => exact (k2 k (hS k o' ef) (by rw [e2]; simp)).elim
  refine ⟨os2.trans os, tape2.trans tape, output2.trans output, Nat.le_trans size size2, fun k => (H2 k).or (H k), Sep.append.2 ⟨H2, H, s2, hs, dj2, fun _ => rfl⟩, fun k o e => ?_, fun k hk hne => ?_, fun k hk hM => ?_⟩
  · cases e2 : H2 k with
    | some u => rw [e2] at e; simp at e; rw [← e]; exact k1 k u e2
    | none =>
      rw [e2] at e; simp at e
      rw [k3 k (hS k o e) (fun h => h)]; exact g1 k o e
  · cases e2 : H2 k with
    | some u => exact (k2 k (Nat.lt_of_lt_of_le hk size) (by rw [e2]; simp)).elim
    | none => rw [e2] at hne; simp at hne; exact g2 k hk hne
  · rw [k3 k (Nat.lt_of_lt_of_le hk size) (fun h => h)]; exact g3 k hk hM
theorem St.below {w0 : World} {Is : List Itm} {w : World} (h : St w0 Emp Is w) : Go.RowKit.Below w0.heap.size w0 w := by
  obtain ⟨os, tape, output, size, H, hs, g1, g2, g3⟩ := h
  exact ⟨os, tape, output, size, fun k hk => g3 k hk (fun h => h)⟩
/-- Two steps behind one another, nothing between them kept. -/
theorem St.forget {w0 : World} {M : Nat → Prop} {Is : List Itm} {w : World} (h : St w0 M Is w) : St w0 M [] w := by
  induction Is with
  | nil => exact h
  | cons I Is ih => exact ih h.drop
theorem St.sizeLt {w0 : World} {M : Nat → Prop} {Is Is' : List Itm} {w : World} {b : Nat} {o : Obj} (h : St w0 M Is w) (hp : Pk (blk b o) Is Is') : b < w.heap.size :=
  (Array.getElem?_eq_some_iff.1 (h.get hp)).1
/-- Two items that stand there are two blocks. -/
theorem St.ne {w0 : World} {M : Nat → Prop} {Is Is' Is'' : List Itm} {w : World} {b b' : Nat} {o o' : Obj} (h : St w0 M Is w) (hp : Pk (blk b o) Is Is') (hp' : Pk (blk b' o') Is' Is'') : b ≠ b' := by
  obtain ⟨_, _, _, _, H, ⟨h1, h2, i1, i2, dj, eq⟩, _, _, _⟩ := h.pk hp
  obtain ⟨k1, k2, j1, _, _, eq2⟩ := Sep.pk hp' i2
  intro e; subst e
  have e1 : h1 b = some o := by rw [i1.cut b]; simp
  have e2 : h2 b = some o' := by rw [eq2 b, j1.cut b]; simp
  rcases dj b with x | x
  · rw [e1] at x; cases x
  · rw [e2] at x; cases x
end Go.SL
