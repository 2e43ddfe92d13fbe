/- What is true of disks, in plain words. -/
import Derived.Test.YthkafociknhgaaaDkDefs
namespace Go.Disks
open Go Go.SL
/-- Twelve disks, none of them lost. -/
def AllS (ds : List DD) : Prop := ds.length = 12 ∧ ∀ k, k < 12 → ∃ D, ds[k]? = some (some D)
theorem allS_new : AllS (new12 12) := ⟨new12_len 12, fun k hk => ⟨_, new12_get hk⟩⟩
theorem onD_len (ds : List DD) (d n : Int) (len : Nat) (f : Dsk → Dsk) : (onD ds d n len f).length = ds.length := by
  unfold onD
  split
  · split
    · rw [List.length_set]
    · rfl
  · rfl
theorem onD_get {ds : List DD} {d n : Int} {len : Nat} {f : Dsk → Dsk} (hl : ds.length = 12) {k : Nat} {D : Dsk} (hD : ds[k]? = some (some D)) : (onD ds d n len f)[k]? = some (some (if chk ds d n len = 0 ∧ d = k then f D else D)) := by
  by_cases hc : chk ds d n len = 0
  · obtain ⟨j, D', rfl, hj, hD', _⟩ := chk_ok hl hc
    rw [onD_ok hc hD', List.getElem?_set]
    by_cases h : j = k
    · subst h
      rw [hD] at hD'
      obtain rfl : D = D' := by simpa using hD'
      rw [if_pos rfl, if_pos (by omega), if_pos ⟨hc, rfl⟩]
    · rw [if_neg h, if_neg (by omega), hD]
  · rw [onD_no hc, if_neg (fun h => hc h.1), hD]
theorem AllS.onD {ds : List DD} (h : AllS ds) (d n : Int) (len : Nat) (f : Dsk → Dsk) : AllS (onD ds d n len f) := by
  refine ⟨by rw [onD_len]; exact h.1, fun k hk => ?_⟩
  obtain ⟨D, hD⟩ := h.2 k hk
  exact ⟨_, onD_get h.1 hD⟩
theorem AllS.chk {ds ds' : List DD} (h : AllS ds) (h' : AllS ds') (d n : Int) (len : Nat) : chk ds d n len = chk ds' d n len := by
  by_cases hd : 0 ≤ d ∧ d < 12
  · obtain ⟨k, rfl⟩ : ∃ k : Nat, d = k := ⟨d.toNat, by omega⟩
    obtain ⟨D, hD⟩ := h.2 k (by omega)
    obtain ⟨D', hD'⟩ := h'.2 k (by omega)
    rw [chk_in (by omega) hD, chk_in (by omega) hD']
  · rw [chk_out hd, chk_out hd]
theorem WB.write {ds : List DD} {N : Nat} (hl : ds.length = 12) (h : WB ds N) (d n : Int) (s : ByteArray) : WB (onD ds d n s.size (fun D => { D with ws := D.ws ++ [⟨n, s⟩] })) (N + 1) := fun k D hD => by
  have hk : k < ds.length := by have := (List.getElem?_eq_some_iff.1 hD).1; rwa [onD_len] at this
  by_cases hc : chk ds d n s.size = 0
  · obtain ⟨j, D', rfl, hj, hD', hn⟩ := chk_ok hl hc
    rw [onD_ok hc hD', List.getElem?_set] at hD
    split at hD
    · split at hD
      · obtain rfl := Option.some.inj (Option.some.inj hD)
        have hw := h j D' hD'
        refine ⟨by simp; exact hw.1, fun x hx => ?_⟩
        rcases List.mem_append.1 hx with hx | hx
        · exact hw.2 x hx
        · obtain rfl := List.mem_singleton.1 hx
          show s.size ≤ 1000000
          omega
      · cases hD
    · have := h k D hD; exact ⟨by omega, this.2⟩
  · rw [onD_no hc] at hD
    have := h k D hD; exact ⟨by omega, this.2⟩
theorem WB.up {ds : List DD} {N N' : Nat} (h : WB ds N) (hn : N ≤ N') : WB ds N' := fun k D hD => ⟨Nat.le_trans (h k D hD).1 hn, (h k D hD).2⟩
theorem wb_new : WB (new12 12) 0 := fun k D hD => by
  have hk : k < 12 := by have := (List.getElem?_eq_some_iff.1 hD).1; rwa [new12_len] at this
  rw [new12_get hk] at hD
  obtain rfl := Option.some.inj (Option.some.inj hD)
  exact ⟨Nat.le_refl _, by simp⟩
/-! ### flushed -/
abbrev whole : Nat → Option Bool := fun _ => some false
theorem lastW_snoc (ws : List Wr) (x : Wr) (n : Int) : lastW (ws ++ [x]) n = if x.n = n then some x.s else lastW ws n := by
  unfold lastW
  rw [List.filter_append]
  by_cases h : x.n = n <;> simp [h]
theorem settle_get (kp : Kp) (ws : List Wr) (n : Int) : ∀ k, k ≤ ws.length → getL (settleK whole kp ws k) n = match lastW (ws.take k) n with | some s => some s | none => getL kp n
  | 0, _ => by simp [settleK, lastW]
  | k + 1, h => by
    have hx : ws[k]? = some ws[k] := List.getElem?_eq_getElem (by omega)
    rw [settleK_succ hx, take_snoc hx, lastW_snoc]
    show getL (setL _ _ _) n = _
    rw [getL_setL]
    by_cases hn : ws[k].n = n
    · simp [hn]
    · simp only [hn, if_false]
      exact settle_get kp ws n k (by omega)
def flK (ds : List DD) : Nat → List DD
  | 0 => ds
  | k + 1 => onD (flK ds k) (k : Int) 0 0 (settleD whole)
theorem flK_allS {ds : List DD} (h : AllS ds) : ∀ k, AllS (flK ds k)
  | 0 => h
  | k + 1 => (flK_allS h k).onD _ _ _ _
theorem flK_get {ds : List DD} (h : AllS ds) {j : Nat} {D : Dsk} (hD : ds[j]? = some (some D)) : ∀ k, k ≤ 12 → (flK ds k)[j]? = some (some (if j < k then settleD whole D else D))
  | 0, _ => by simpa [flK] using hD
  | k + 1, hk => by
    have ih := flK_get h hD k (by omega)
    have hA := flK_allS h k
    show (onD (flK ds k) (k : Int) 0 0 (settleD whole))[j]? = _
    rw [onD_get hA.1 ih]
    obtain ⟨D', hD'⟩ := hA.2 k (by omega)
    have hc : chk (flK ds k) (k : Int) 0 0 = 0 := by rw [chk_in (by omega) hD']; simp
    by_cases hj : k = j
    · subst hj
      rw [if_pos ⟨hc, rfl⟩, if_neg (by omega), if_pos (by omega)]
    · rw [if_neg (by omega)]
      by_cases h2 : j < k
      · rw [if_pos h2, if_pos (by omega)]
      · rw [if_neg h2, if_neg (by omega)]
theorem WB.settle {ds : List DD} {N : Nat} (hl : ds.length = 12) (h : WB ds N) (d : Int) : WB (onD ds d 0 0 (settleD whole)) N := fun k D hD => by
  by_cases hc : chk ds d 0 0 = 0
  · obtain ⟨j, D', rfl, hj, hD', hn⟩ := chk_ok hl hc
    rw [onD_ok hc hD', List.getElem?_set] at hD
    split at hD
    · split at hD
      · obtain rfl := Option.some.inj (Option.some.inj hD)
        exact ⟨Nat.zero_le _, by simp [settleD]⟩
      · cases hD
    · exact h k D hD
  · rw [onD_no hc] at hD; exact h k D hD
theorem flK_wb {ds : List DD} {N : Nat} (h : AllS ds) (hw : WB ds N) : ∀ k, WB (flK ds k) N
  | 0 => hw
  | k + 1 => (flK_wb h hw k).settle (flK_allS h k).1 _
/-- Where nothing waits a crash does nothing. -/
theorem crashK_id {ds : List DD} (xs ys : List Bool) (h : ∀ (k : Nat) (D : Dsk), ds[k]? = some (some D) → D.ws = []) : ∀ k, crashK xs ys ds k = ds
  | 0 => rfl
  | k + 1 => by
    show (match ds[k]? with | some D => (crashK xs ys ds k).set k (crash1 xs ys (atK ds k) D) | none => crashK xs ys ds k) = _
    rw [crashK_id xs ys h k]
    split
    · rename_i D hD
      have : crash1 xs ys (atK ds k) D = D := by
        cases D with
        | none => rfl
        | some D =>
          have hw := h k D hD
          obtain ⟨kp, ws⟩ := D
          simp only at hw
          subst hw
          rfl
      rw [this]
      exact set_same hD
    · rfl
theorem flushed_nil {ds : List DD} (h : AllS ds) {k : Nat} {D : Dsk} (hD : (flK ds 12)[k]? = some (some D)) : D.ws = [] := by
  have hk : k < 12 := by have := (List.getElem?_eq_some_iff.1 hD).1; rwa [(flK_allS h 12).1] at this
  obtain ⟨D', hD'⟩ := h.2 k hk
  rw [flK_get h hD' 12 (Nat.le_refl _), if_pos hk] at hD
  obtain rfl := Option.some.inj (Option.some.inj hD)
  rfl
theorem flushed_read {ds : List DD} (h : AllS ds) (d n : Int) : rdD (flK ds 12) d n = rdD ds d n := by
  by_cases hc : chk ds d n 0 = 0
  · obtain ⟨k, D, rfl, hk, hD, _⟩ := chk_ok h.1 hc
    have hc' : chk (flK ds 12) (k : Int) n 0 = 0 := by rw [(flK_allS h 12).chk h]; exact hc
    have hD' := flK_get h hD 12 (Nat.le_refl _)
    rw [if_pos hk] at hD'
    rw [rdD_ok hc hD, rdD_ok hc' hD']
    have := settle_get D.kp D.ws n D.ws.length (Nat.le_refl _)
    rw [List.take_length] at this
    show (lastW [] n).getD ((getL (settleK whole D.kp D.ws D.ws.length) n).getD ⟨#[]⟩) = _
    rw [this]
    cases lastW D.ws n <;> rfl
  · rw [rdD_no hc, rdD_no (by rw [(flK_allS h 12).chk h]; exact hc)]
theorem flushed_waits {ds : List DD} (h : AllS ds) (d : Int) : waitsD (flK ds 12) d = 0 := by
  unfold waitsD
  split
  · split
    · rename_i D hD; rw [flushed_nil h hD]; rfl
    · rfl
  · rfl
end Go.Disks
