/- Arguments, each with what is known of its size. -/
import Derived.Test.YthkafociknhgaaaSLRow
namespace Go.SL
open Go Go.ChangeShapes Go.WideShapes
section
variable {H : Type} {enc : TypeId × Value → H} {P : Program} {w : World} {base : Nat} {spare : Nat → Bool} {held : Bool}
def TrodW {H : Type} (enc : TypeId × Value → H) (P : Program) (w : World) (base : Nat) (spare : Nat → Bool) (held : Bool) (t : TypeId) (cs : List Value) : Prop :=
  ∃ fuel x, DataW.trod enc P w base spare held fuel t cs = some x ∧ ∀ n ∈ x.1.weights P t, n ≤ reachBytes
theorem weightsAll_mem {e : TypeId} {ds : List (DataW H)} {d : DataW H} (hd : d ∈ ds) {n : Nat} (hn : n ∈ d.weights P e) : n ∈ DataW.weightsAll P e ds := by
  induction ds with
  | nil => cases hd
  | cons a r ih =>
    simp only [DataW.weightsAll, List.mem_append]
    rcases List.mem_cons.1 hd with rfl | hd
    · exact .inl hn
    · exact .inr (ih hd)
theorem trodW_int {t : TypeId} {k : IntKind} {cs : List Value} (ht : P.underlying t = some (.int k)) (h : TrodW enc P w base spare held t cs) : ∃ n, cs = [.int k n] := by
  obtain ⟨_, _, h, _⟩ := h
  obtain ⟨n, h, _⟩ := DataW.trod_int ht h
  exact ⟨n, h⟩
theorem trodW_bool {t : TypeId} {cs : List Value} (ht : P.underlying t = some .bool) (h : TrodW enc P w base spare held t cs) : ∃ n, cs = [.bool n] := by
  obtain ⟨_, _, h, _⟩ := h
  obtain ⟨n, h, _⟩ := DataW.trod_bool ht h
  exact ⟨n, h⟩
theorem trodW_string {t : TypeId} {cs : List Value} (ht : P.underlying t = some .string) (h : TrodW enc P w base spare held t cs) : ∃ s : ByteArray, cs = [.string s] ∧ s.size ≤ maxLen := by
  obtain ⟨_, _, h, _⟩ := h
  obtain ⟨n, h, _, h2⟩ := DataW.trod_string ht h
  exact ⟨n, h, h2⟩
theorem trodW_fld {t : TypeId} {fs : Array Field} {cs : List Value} (ht : P.underlying t = some (.struct fs)) (h : TrodW enc P w base spare held t cs) {i : Nat} {f : Field} (hf : fs[i]? = some f) : TrodW enc P w base spare held f.type ((cs.drop f.offset).take (P.cellsOf f.type)) := by
  obtain ⟨_, _, h, hw⟩ := h
  obtain ⟨xs, n, _, rfl, _, hl, hi⟩ := DataW.trod_struct ht h
  have h1 := hi i f hf
  have hlt := (Array.getElem?_eq_some_iff.1 hf).1
  rw [List.getElem?_eq_getElem (by omega)] at h1
  refine ⟨n, _, h1, fun m hm => hw m ?_⟩
  simp only [DataW.weights, ht]
  refine DataW.weights_mem_each (j := i) (t := f.type) (d := (xs[i]'(by omega)).1) ?_ ?_ m hm
  · rw [List.getElem?_map, Array.getElem?_toList, hf]; rfl
  · rw [List.getElem?_map, List.getElem?_eq_getElem (by omega)]; rfl
theorem trodW_slice {t e : TypeId} {cs : List Value} (ht : P.underlying t = some (.slice e)) (h : TrodW enc P w base spare held t cs) : ∃ A n c, cs = [.slice A n c] := by
  obtain ⟨_, _, h, _⟩ := h
  rcases DataW.trod_slice ht h with ⟨h, _⟩ | ⟨A, l, c, _, _, _, _, h, _⟩
  · exact ⟨none, 0, 0, h⟩
  · exact ⟨_, _, _, h⟩
/-- A slice whose elements are read as things of a kind, each with what is known of it. -/
theorem slr_of_trodW {α : Type} {size : Nat} {e t : TypeId} {enc' : α → List Value} {Q : α → Prop} {a : Option Addr} {len cap : Nat} (ht : P.underlying t = some (.slice e)) (hsz : P.cellsOf e = size) (h0 : 0 < size)
    (henc : ∀ x, (enc' x).length = size) (mk : ∀ cs, cs.length = size → TrodW enc P w base spare held e cs → ∃ x : α, cs = enc' x ∧ Q x) (h : TrodW enc P w base spare held t [.slice a len cap]) : (∃ xs : List α, SlR w e size enc' a len xs ∧ ∀ x ∈ xs, Q x) ∧ len ≤ cap ∧ cap ≤ maxLen ∧ len * P.bytesOf e ≤ reachBytes := by
  obtain ⟨fuel, x0, h, hwt⟩ := h
  rcases DataW.trod_slice ht h with ⟨hcs, _⟩ | ⟨A, l, c, elems, rest, m, _, hcs, hx0, _, hl, hm, hlen, hel, _, _⟩
  · simp [Value.cells] at hcs
    obtain ⟨rfl, rfl, rfl⟩ := hcs
    exact ⟨⟨[], SlR.nil _ _ _, by simp⟩, Nat.le_refl _, Nat.zero_le _, by simp⟩
  · simp [Value.cells] at hcs
    obtain ⟨rfl, rfl, rfl⟩ := hcs
    subst hx0
    have hw0 : (elems.length + rest.length) * P.bytesOf e ≤ reachBytes := hwt _ (by simp [DataW.weights, ht])
    have hwe : ∀ y ∈ elems, ∀ n ∈ y.1.weights P e, n ≤ reachBytes := fun y hy n hn => hwt n (by
      simp only [DataW.weights, ht]
      exact List.mem_cons_of_mem _ (List.mem_append_left _ (weightsAll_mem (List.mem_map.2 ⟨y, hy, rfl⟩) hn)))
    refine ⟨?_, hl, hm, Nat.le_trans (Nat.mul_le_mul_right _ (by omega)) hw0⟩
    have each : ∀ i, i < len → ∃ x : α, (∀ j v, (enc' x)[j]? = some v → w.cell? (A.add (i * size + j)) = some v) ∧ Q x := fun i hi => by
      have hb := hel i hi
      rw [List.getElem?_eq_getElem (by omega), Option.bind_eq_some_iff] at hb
      obtain ⟨cs, hc, hy⟩ := hb
      obtain ⟨_, hcl, hcc⟩ := World.cells?_some hc
      rw [hsz] at hcl hcc
      obtain ⟨x, rfl, hQ⟩ := mk cs hcl ⟨_, _, hy, hwe _ (List.getElem_mem _)⟩
      refine ⟨x, fun j v hv => ?_, hQ⟩
      have hj : j < size := by have := (List.getElem?_eq_some_iff.1 hv).1; omega
      have := hcc j hj
      rw [hv] at this
      rw [← this]
      congr 1
      unfold Addr.add
      by_cases h1 : i * size = 0 <;> by_cases h2 : j = 0 <;> simp [h1, h2, Nat.add_assoc] <;> omega
    obtain ⟨xs, hxl, hxs0⟩ := choose_list len each
    have hxs : ∀ i x, xs[i]? = some x → ∀ j v, (enc' x)[j]? = some v → w.cell? (A.add (i * size + j)) = some v := fun i x hx => (hxs0 i x hx).1
    refine ⟨xs, ⟨hxl.symm, fun hne => ?_⟩, fun x hx => by obtain ⟨i, hi⟩ := List.getElem?_of_mem hx; exact (hxs0 i x hi).2⟩
    obtain ⟨x0, hx0⟩ : ∃ x, xs[0]? = some x := by
      cases xs with
      | nil => exact absurd rfl hne
      | cons x _ => exact ⟨x, rfl⟩
    have key : ∀ i x, xs[i]? = some x → ∀ j v, (enc' x)[j]? = some v → ∃ c t fz, w.heap[A.block]? = some (.cells c t fz) ∧ A.spot = none ∧ c[A.off + i * size + j]? = some v := fun i x hx j v hv => by
      have := hxs i x hx j v hv
      unfold World.cell? at this
      have hb : (A.add (i * size + j)).block = A.block := by unfold Addr.add; split <;> rfl
      rw [hb] at this
      split at this
      · rename_i c t fz hc
        split at this
        · cases this
        · rename_i hsp
          have hs2 : A.spot = none := by
            unfold World.cells? at *
            by_cases h1 : i * size + j = 0
            · have h2 : A.add (i * size + j) = A := by unfold Addr.add; rw [if_pos h1]
              rw [h2] at hsp; simpa using hsp
            · have h0' := hxs 0 x0 hx0
              have hv0 : ∃ v0, (enc' x0)[0]? = some v0 := ⟨_, List.getElem?_eq_getElem (by rw [henc]; exact h0)⟩
              obtain ⟨v0, hv0⟩ := hv0
              have h3 := h0' 0 v0 hv0
              have h4 : A.add (0 * size + 0) = A := by unfold Addr.add; rw [if_pos (by omega)]
              rw [h4] at h3
              unfold World.cell? at h3
              rw [hc] at h3
              simp only at h3
              split at h3
              · cases h3
              · rename_i h5; simpa using h5
          refine ⟨c, t, fz, hc, hs2, ?_⟩
          have ho : (A.add (i * size + j)).off = A.off + (i * size + j) := by unfold Addr.add; split <;> simp_all
          rw [ho, ← Nat.add_assoc] at this
          exact this
      · cases this
    obtain ⟨v0, hv0⟩ : ∃ v0, (enc' x0)[0]? = some v0 := ⟨_, List.getElem?_eq_getElem (by rw [henc]; exact h0)⟩
    obtain ⟨c, t', fz, hc, hsp, _⟩ := key 0 x0 hx0 0 v0 hv0
    refine ⟨A.block, A.off, c, (t', fz), ?_, hc, fun i x hx => cells_of_get fun j v hv => ?_⟩
    · obtain ⟨b, o, s⟩ := A
      simp only at hsp
      subst hsp; rfl
    · obtain ⟨c2, t2, fz2, hc2, _, h2⟩ := key i x hx j v hv
      rw [hc] at hc2
      obtain ⟨rfl, _, _⟩ := Obj.cells.inj (Option.some.inj hc2)
      exact h2
end
end Go.SL
