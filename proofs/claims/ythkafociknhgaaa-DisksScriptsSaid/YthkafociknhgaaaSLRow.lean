/- From a row's reading of an argument to what a walk needs: a slice of structs of leaves is a readable slice. -/
import Derived.Test.YthkafociknhgaaaSLMore
import Derived.ProofKit
import Derived.ChangeSlices
import Derived.SizedLaws
import Derived.OpenShut
namespace Go.SL
open Go Go.ChangeShapes Go.WideShapes
inductive Leaf
  | int (k : IntKind)
  | bool
  | string
  | slice
  deriving DecidableEq
def LeafOk : Leaf → Value → Prop
  | .int k, v => ∃ n, v = .int k n
  | .bool, v => ∃ b, v = .bool b
  | .string, v => ∃ s, v = .string s
  | .slice, v => ∃ A n c, v = .slice A n c
def shapesOf (P : Program) (sh : TypeId → Option (List Leaf)) : List Field → Nat → Option (List Leaf)
  | [], _ => some []
  | f :: fs, off => if f.offset = off then (sh f.type).bind fun ls => if ls.length = P.cellsOf f.type then (shapesOf P sh fs (off + ls.length)).map (ls ++ ·) else none else none
def shapeOf (P : Program) : Nat → TypeId → Option (List Leaf)
  | 0, _ => none
  | n + 1, t => match P.underlying t with
    | some (.int k) => some [.int k]
    | some .bool => some [.bool]
    | some .string => some [.string]
    | some (.slice _) => some [.slice]
    | some (.struct fs) => shapesOf P (shapeOf P n) fs.toList 0
    | _ => none
def FitsP : List Leaf → List Value → Prop
  | [], _ => True
  | l :: ls, v :: vs => LeafOk l v ∧ FitsP ls vs
  | _ :: _, [] => False
theorem FitsP.append : ∀ {a b : List Leaf} {vs : List Value}, FitsP a vs → FitsP b (vs.drop a.length) → FitsP (a ++ b) vs
  | [], b, vs, _, h => by simpa using h
  | l :: ls, b, [], h, _ => h.elim
  | l :: ls, b, v :: vs, h, h' => ⟨h.1, FitsP.append h.2 (by simpa using h')⟩
theorem FitsP.of_take : ∀ {a : List Leaf} {vs : List Value} {n : Nat}, FitsP a (vs.take n) → FitsP a vs
  | [], _, _, _ => trivial
  | l :: ls, [], n, h => by simp [FitsP] at h
  | l :: ls, v :: vs, 0, h => by simp [FitsP] at h
  | l :: ls, v :: vs, n + 1, h => ⟨h.1, FitsP.of_take (n := n) h.2⟩
theorem mapM_each {α β : Type} {f : α → Option β} : ∀ {l : List α} {ys : List β}, l.mapM f = some ys → ∀ a ∈ l, ∃ y, f a = some y
  | [], _, _, a, ha => by cases ha
  | x :: l, ys, h, a, ha => by
    simp only [List.mapM_cons, Option.bind_eq_bind, Option.bind_eq_some_iff] at h
    obtain ⟨y, hy, zs, hz, _⟩ := h
    rcases List.mem_cons.1 ha with rfl | ha
    · exact ⟨y, hy⟩
    · exact mapM_each hz a ha
theorem choose_list {α : Type} {p : Nat → α → Prop} : ∀ n, (∀ i, i < n → ∃ x, p i x) → ∃ xs : List α, xs.length = n ∧ ∀ i x, xs[i]? = some x → p i x
  | 0, _ => ⟨[], rfl, fun i x h => by simp at h⟩
  | k + 1, h => by
    obtain ⟨xs, h1, h2⟩ := choose_list k fun i hi => h i (by omega)
    obtain ⟨x, hx⟩ := h k (by omega)
    refine ⟨xs ++ [x], by simp [h1], fun i y hy => ?_⟩
    by_cases hi : i < xs.length
    · rw [List.getElem?_append_left hi] at hy; exact h2 i y hy
    · have hi' : i = k := by have := (List.getElem?_eq_some_iff.1 hy).1; simp at this; omega
      subst hi'
      rw [List.getElem?_append_right (by omega)] at hy
      have e0 : i - xs.length = 0 := by omega
      rw [e0] at hy
      obtain rfl : x = y := by simpa using hy
      exact hx
section
variable {H : Type} {enc : TypeId × Value → H} {P : Program} {w : World} {base : Nat} {spare : Nat → Bool} {held : Bool}
theorem fits_fields {sh : TypeId → Option (List Leaf)} {cs : List Value} (tr : TypeId → List Value → Prop) (ih : ∀ t ls vs, sh t = some ls → tr t vs → FitsP ls vs) :
    ∀ (fs : List Field) (off : Nat) (ls : List Leaf), shapesOf P sh fs off = some ls → (∀ f ∈ fs, tr f.type ((cs.drop f.offset).take (P.cellsOf f.type))) → FitsP ls (cs.drop off)
  | [], off, ls, h, _ => by
    obtain rfl : [] = ls := by simpa [shapesOf] using h
    trivial
  | f :: fs, off, ls, h, ht => by
    simp only [shapesOf] at h
    split at h
    · rename_i ho
      rw [Option.bind_eq_some_iff] at h
      obtain ⟨l1, h1, h2⟩ := h
      split at h2
      · rw [Option.map_eq_some_iff] at h2
        obtain ⟨l2, h3, rfl⟩ := h2
        have hf := ht f (by simp)
        rw [ho] at hf
        refine FitsP.append (ih _ _ _ h1 hf).of_take ?_
        rw [List.drop_drop]
        exact fits_fields tr ih fs _ _ h3 fun g hg => ht g (List.mem_cons_of_mem _ hg)
      · cases h2
    · cases h
theorem fits_trod : ∀ (n : Nat) (t : TypeId) (ls : List Leaf) (cs : List Value), shapeOf P n t = some ls → (∃ fuel x, DataW.trod enc P w base spare held fuel t cs = some x) → FitsP ls cs
  | 0, t, ls, cs, h, _ => by simp [shapeOf] at h
  | n + 1, t, ls, cs, h, ⟨fuel, x, hx⟩ => by
    cases fuel with
    | zero => simp [DataW.trod] at hx
    | succ fuel =>
      simp only [shapeOf] at h
      unfold DataW.trod at hx
      split at h <;> rename_i hu
      · cases h
        rw [hu] at hx
        split at hx <;> simp_all [FitsP, LeafOk]
      · cases h
        rw [hu] at hx
        split at hx <;> simp_all [FitsP, LeafOk]
      · cases h
        rw [hu] at hx
        split at hx <;> simp_all [FitsP, LeafOk]
      · cases h
        rw [hu] at hx
        split at hx <;> simp_all [FitsP, LeafOk]
      · rename_i fs
        rw [hu] at hx
        simp only at hx
        split at hx
        · rw [Option.map_eq_some_iff] at hx
          obtain ⟨ys, hy, _⟩ := hx
          have := fits_fields (P := P) (cs := cs) (tr := fun t vs => ∃ fuel x, DataW.trod enc P w base spare held fuel t vs = some x) (fun t ls vs => fits_trod n t ls vs) fs.toList 0 ls h (fun f hf => by
            obtain ⟨y, h1⟩ := mapM_each hy f hf
            exact ⟨fuel, y, h1⟩)
          simpa using this
        · cases hx
      · cases h
def TrodOf {H : Type} (enc : TypeId × Value → H) (P : Program) (w : World) (base : Nat) (spare : Nat → Bool) (held : Bool) (t : TypeId) (cs : List Value) : Prop := ∃ fuel x, DataW.trod enc P w base spare held fuel t cs = some x
theorem trodOf_int {t : TypeId} {k : IntKind} {cs : List Value} (ht : P.underlying t = some (.int k)) (h : TrodOf enc P w base spare held t cs) : ∃ n, cs = [.int k n] := by
  obtain ⟨_, _, h⟩ := h
  obtain ⟨n, h, _⟩ := DataW.trod_int ht h
  exact ⟨n, h⟩
theorem trodOf_bool {t : TypeId} {cs : List Value} (ht : P.underlying t = some .bool) (h : TrodOf enc P w base spare held t cs) : ∃ n, cs = [.bool n] := by
  obtain ⟨_, _, h⟩ := h
  obtain ⟨n, h, _⟩ := DataW.trod_bool ht h
  exact ⟨n, h⟩
theorem trodOf_string {t : TypeId} {cs : List Value} (ht : P.underlying t = some .string) (h : TrodOf enc P w base spare held t cs) : ∃ s : ByteArray, cs = [.string s] ∧ s.size ≤ maxLen := by
  obtain ⟨_, _, h⟩ := h
  obtain ⟨n, h, _, h2⟩ := DataW.trod_string ht h
  exact ⟨n, h, h2⟩
theorem trodOf_fld {t : TypeId} {fs : Array Field} {cs : List Value} (ht : P.underlying t = some (.struct fs)) (h : TrodOf enc P w base spare held t cs) {i : Nat} {f : Field} (hf : fs[i]? = some f) : TrodOf enc P w base spare held f.type ((cs.drop f.offset).take (P.cellsOf f.type)) := by
  obtain ⟨_, _, h⟩ := h
  obtain ⟨xs, n, _, _, _, hl, hi⟩ := DataW.trod_struct ht h
  have h1 := hi i f hf
  have hlt := (Array.getElem?_eq_some_iff.1 hf).1
  rw [List.getElem?_eq_getElem (by omega)] at h1
  exact ⟨n, _, h1⟩
theorem trodOf_len {t : TypeId} {fs : Array Field} {cs : List Value} (ht : P.underlying t = some (.struct fs)) (h : TrodOf enc P w base spare held t cs) : cs.length = P.cellsOf t := by
  obtain ⟨_, _, h⟩ := h
  obtain ⟨xs, n, _, _, hl, _⟩ := DataW.trod_struct ht h
  exact hl
theorem trodOf_slice {t e : TypeId} {cs : List Value} (ht : P.underlying t = some (.slice e)) (h : TrodOf enc P w base spare held t cs) : ∃ A n c, cs = [.slice A n c] := by
  obtain ⟨_, _, h⟩ := h
  rcases DataW.trod_slice ht h with ⟨h, _⟩ | ⟨A, l, c, _, _, _, _, h, _⟩
  · exact ⟨none, 0, 0, h⟩
  · exact ⟨_, _, _, h⟩
/-- A slice whose elements are read as things of a kind, each with what is known of it. -/
theorem slr_of_trod2 {α : Type} {size : Nat} {e t : TypeId} {enc' : α → List Value} {Q : α → Prop} {a : Option Addr} {len cap : Nat} (ht : P.underlying t = some (.slice e)) (hsz : P.cellsOf e = size) (h0 : 0 < size)
    (henc : ∀ x, (enc' x).length = size) (mk : ∀ cs, cs.length = size → TrodOf enc P w base spare held e cs → ∃ x : α, cs = enc' x ∧ Q x) (h : TrodOf enc P w base spare held t [.slice a len cap]) : (∃ xs : List α, SlR w e size enc' a len xs ∧ ∀ x ∈ xs, Q x) ∧ len ≤ cap ∧ cap ≤ maxLen := by
  obtain ⟨fuel, _, h⟩ := h
  rcases DataW.trod_slice ht h with ⟨hcs, _⟩ | ⟨A, l, c, elems, rest, m, _, hcs, _, _, hl, hm, hlen, hel, _, _⟩
  · simp [Value.cells] at hcs
    obtain ⟨rfl, rfl, rfl⟩ := hcs
    exact ⟨⟨[], SlR.nil _ _ _, by simp⟩, Nat.le_refl _, Nat.zero_le _⟩
  · simp [Value.cells] at hcs
    obtain ⟨rfl, rfl, rfl⟩ := hcs
    refine ⟨?_, hl, hm⟩
    have each : ∀ i, i < len → ∃ x : α, (∀ j v, (enc' x)[j]? = some v → w.cell? (A.add (i * size + j)) = some v) ∧ Q x := fun i hi => by
      have hb := hel i hi
      rw [List.getElem?_eq_getElem (by omega), Option.bind_eq_some_iff] at hb
      obtain ⟨cs, hc, hy⟩ := hb
      obtain ⟨_, hcl, hcc⟩ := World.cells?_some hc
      rw [hsz] at hcl hcc
      obtain ⟨x, rfl, hQ⟩ := mk cs hcl ⟨_, _, hy⟩
      refine ⟨x, fun j v hv => ?_, hQ⟩
      have hj : j < size := by have := (List.getElem?_eq_some_iff.1 hv).1; omega
      have := hcc j hj
      rw [hv] at this
      rw [← this]
      congr 1
      unfold Addr.add
      by_cases h1 : i * size = 0 <;> by_cases h2 : j = 0 <;> simp [h1, h2, Nat.add_assoc] <;> omega
    obtain ⟨xs, hxl, hxs0⟩ := choose_list len each
    have hxs : ∀ i x, xs[i]? = some x → ∀ j v, (enc' x)[j]? = some v → w.cell? (A.add (i * size + j)) = some v := fun i x hx => (hxs0 i x hx).1
    refine ⟨xs, ⟨hxl.symm, fun hne => ?_⟩, fun x hx => by obtain ⟨i, hi⟩ := List.getElem?_of_mem hx; exact (hxs0 i x hi).2⟩
    obtain ⟨x0, hx0⟩ : ∃ x, xs[0]? = some x := by
      cases xs with
      | nil => exact absurd rfl hne
      | cons x _ => exact ⟨x, rfl⟩
    have key : ∀ i x, xs[i]? = some x → ∀ j v, (enc' x)[j]? = some v → ∃ c t fz, w.heap[A.block]? = some (.cells c t fz) ∧ A.spot = none ∧ c[A.off + i * size + j]? = some v := fun i x hx j v hv => by
      have := hxs i x hx j v hv
      unfold World.cell? at this
      have hb : (A.add (i * size + j)).block = A.block := by unfold Addr.add; split <;> rfl
      rw [hb] at this
      split at this
      · rename_i c t fz hc
        split at this
        · cases this
        · rename_i hsp
          have hs2 : A.spot = none := by
            unfold World.cells? at *
            by_cases h1 : i * size + j = 0
            · have h2 : A.add (i * size + j) = A := by unfold Addr.add; rw [if_pos h1]
              rw [h2] at hsp; simpa using hsp
            · have h0' := hxs 0 x0 hx0
              have hv0 : ∃ v0, (enc' x0)[0]? = some v0 := ⟨_, List.getElem?_eq_getElem (by rw [henc]; exact h0)⟩
              obtain ⟨v0, hv0⟩ := hv0
              have h3 := h0' 0 v0 hv0
              have h4 : A.add (0 * size + 0) = A := by unfold Addr.add; rw [if_pos (by omega)]
              rw [h4] at h3
              unfold World.cell? at h3
              rw [hc] at h3
              simp only at h3
              split at h3
              · cases h3
              · rename_i h5; simpa using h5
          refine ⟨c, t, fz, hc, hs2, ?_⟩
          have ho : (A.add (i * size + j)).off = A.off + (i * size + j) := by unfold Addr.add; split <;> simp_all
          rw [ho, ← Nat.add_assoc] at this
          exact this
      · cases this
    obtain ⟨v0, hv0⟩ : ∃ v0, (enc' x0)[0]? = some v0 := ⟨_, List.getElem?_eq_getElem (by rw [henc]; exact h0)⟩
    obtain ⟨c, t', fz, hc, hsp, _⟩ := key 0 x0 hx0 0 v0 hv0
    refine ⟨A.block, A.off, c, (t', fz), ?_, hc, fun i x hx => cells_of_get fun j v hv => ?_⟩
    · obtain ⟨b, o, s⟩ := A
      simp only at hsp
      subst hsp; rfl
    · obtain ⟨c2, t2, fz2, hc2, _, h2⟩ := key i x hx j v hv
      rw [hc] at hc2
      obtain ⟨rfl, _, _⟩ := Obj.cells.inj (Option.some.inj hc2)
      exact h2
/-- An argument that is a slice of structs of leaves. -/
theorem slr_of_trod {α : Type} {size n : Nat} {e t : TypeId} {enc' : α → List Value} {ls : List Leaf} {a : Option Addr} {len cap : Nat} {d : DataW H} {ps : List MemPlace} (ht : P.underlying t = some (.slice e)) (hs : shapeOf P n e = some ls) (hsz : P.cellsOf e = size) (h0 : 0 < size)
    (henc : ∀ x, (enc' x).length = size) (mk : ∀ cs, cs.length = size → FitsP ls cs → ∃ x : α, cs = enc' x) (h : DataW.Trod enc P w base spare held t (.slice a len cap) d ps) : (∃ xs : List α, SlR w e size enc' a len xs) ∧ len ≤ cap ∧ cap ≤ maxLen := by
  obtain ⟨fuel, h⟩ := h
  obtain ⟨⟨xs, h1, _⟩, h2, h3⟩ := slr_of_trod2 (enc := enc) (P := P) (w := w) (base := base) (spare := spare) (held := held) (Q := fun _ => True) ht hsz h0 henc (fun cs hl ⟨_, _, ht⟩ => by obtain ⟨x, hx⟩ := mk cs hl (fits_trod n e ls cs hs ⟨_, _, ht⟩); exact ⟨x, hx, trivial⟩) ⟨fuel, _, h⟩
  exact ⟨⟨xs, h1⟩, h2, h3⟩
end
end Go.SL
