/- Crashes that tear nothing, in plain words. -/
import Derived.Test.YthkafociknhgaaaDkPlain
import Derived.Test.YthkafociknhgaaaDkFits
namespace Go.Disks
open Go Go.SL
/-- Nothing waits. -/
def NoWs (ds : List DD) : Prop := ∀ (k : Nat) (D : Dsk), ds[k]? = some (some D) → D.ws = []
theorem nows_new : NoWs (new12 12) := fun k D hD => by
  have hk : k < 12 := by have := (List.getElem?_eq_some_iff.1 hD).1; rwa [new12_len] at this
  rw [new12_get hk] at hD
  obtain rfl := Option.some.inj (Option.some.inj hD)
  rfl
theorem NoWs.wb {ds : List DD} (h : NoWs ds) (N : Nat) : WB ds N := fun k D hD => by rw [h k D hD]; exact ⟨Nat.zero_le _, fun x hx => by cases hx⟩
theorem NoWs.waits {ds : List DD} (h : NoWs ds) (d : Int) : waitsD ds d = 0 := by
  unfold waitsD
  split
  · split
    · rename_i D hD; rw [h _ D hD]; rfl
    · rfl
  · rfl
theorem NoWs.flush {ds : List DD} (hA : AllS ds) (h : NoWs ds) (d n : Int) (len : Nat) (f : Dsk → Dsk) : NoWs (onD (onD ds d n len f) d 0 0 (settleD whole)) := fun k D hD => by
  have hA1 := hA.onD d n len f
  have hk : k < 12 := by have := (List.getElem?_eq_some_iff.1 hD).1; rw [onD_len, onD_len, hA.1] at this; exact this
  obtain ⟨D0, h0⟩ := hA.2 k hk
  have h1 := onD_get (d := d) (n := n) (len := len) (f := f) hA.1 h0
  have h2 := onD_get (d := d) (n := 0) (len := 0) (f := settleD whole) hA1.1 h1
  rw [h2] at hD
  by_cases hd : d = k
  · subst hd
    have hc : chk (onD ds (k : Int) n len f) (k : Int) 0 0 = 0 := by rw [chk_in hk h1]; simp
    rw [if_pos ⟨hc, rfl⟩] at hD
    obtain rfl := Option.some.inj (Option.some.inj hD)
    rfl
  · rw [if_neg (fun h => hd h.2), if_neg (fun h => hd h.2)] at hD
    obtain rfl := Option.some.inj (Option.some.inj hD)
    exact h k _ h0
/-- What was flushed is the same; what waits are writes of the list. -/
def Later (ds ds2 : List DD) (L : List OpD) : Prop := ∀ (k : Nat) (D D2 : Dsk), ds[k]? = some (some D) → ds2[k]? = some (some D2) → D2.kp = D.kp ∧ ∀ z ∈ D2.ws, ∃ y ∈ L, y.d = k ∧ y.n = z.n ∧ y.s = z.s
theorem later_same {ds : List DD} (h : NoWs ds) (L : List OpD) : Later ds ds L := fun k D D2 h1 h2 => by
  rw [h1] at h2
  obtain rfl := Option.some.inj (Option.some.inj h2)
  exact ⟨rfl, fun z hz => by rw [h k _ h1] at hz; cases hz⟩
theorem Later.write {ds ds2 : List DD} {L : List OpD} (hA2 : AllS ds2) (h : Later ds ds2 L) {y : OpD} (hy : y ∈ L) : Later ds (onD ds2 y.d y.n y.s.size (fun D => { D with ws := D.ws ++ [⟨y.n, y.s⟩] })) L := fun k D D2 h1 h2 => by
  have hk : k < 12 := by have := (List.getElem?_eq_some_iff.1 h2).1; rw [onD_len, hA2.1] at this; exact this
  obtain ⟨D0, h0⟩ := hA2.2 k hk
  rw [onD_get hA2.1 h0] at h2
  have ih := h k D D0 h1 h0
  obtain rfl := Option.some.inj (Option.some.inj h2)
  split
  · rename_i hc
    refine ⟨ih.1, fun z hz => ?_⟩
    rcases List.mem_append.1 hz with hz | hz
    · exact ih.2 z hz
    · obtain rfl := List.mem_singleton.1 hz
      exact ⟨y, hy, hc.2, rfl, rfl⟩
  · exact ih
theorem settle_or (h : Nat → Option Bool) (hh : ∀ j, h j ≠ some true) (kp : Kp) (ws : List Wr) (n : Int) : ∀ k, k ≤ ws.length → getL (settleK h kp ws k) n = getL kp n ∨ ∃ z ∈ ws, z.n = n ∧ getL (settleK h kp ws k) n = some z.s
  | 0, _ => by simp [settleK]
  | k + 1, hk => by
    have hx : ws[k]? = some ws[k] := List.getElem?_eq_getElem (by omega)
    have ih := settle_or h hh kp ws n k (by omega)
    rw [settleK_succ hx]
    cases ho : h k with
    | none => exact ih
    | some b =>
      cases b with
      | true => exact absurd ho (hh k)
      | false =>
        by_cases hn : ws[k].n = n
        · right
          refine ⟨ws[k], List.getElem_mem _, hn, ?_⟩
          show getL (setL _ _ _) n = _
          rw [getL_setL]; simp [hn]
        · have e : getL (applyW (some false) (settleK h kp ws k) ws[k]) n = getL (settleK h kp ws k) n := by
            show getL (setL _ _ _) n = _
            rw [getL_setL]; simp [hn]
          rw [e]
          exact ih
theorem crash_get (xs ys : List Bool) (ds : List DD) : ∀ (m k : Nat), k < m → m ≤ ds.length → (crashK xs ys ds m)[k]? = (ds[k]?).map (crash1 xs ys (atK ds k))
  | 0, _, h, _ => absurd h (Nat.not_lt_zero _)
  | m + 1, k, h, hm => by
    have hx : ds[m]? = some ds[m] := List.getElem?_eq_getElem (by omega)
    rw [crashK_succ hx, List.getElem?_set]
    by_cases e : m = k
    · subst e
      rw [if_pos rfl, if_pos (by rw [crashK_len]; omega), hx]; rfl
    · rw [if_neg e]
      exact crash_get xs ys ds m k (by omega) (by omega)
theorem crash_at {ds : List DD} (hA : AllS ds) (xs ys : List Bool) {k : Nat} {D : Dsk} (hD : ds[k]? = some (some D)) : (crashK xs ys ds 12)[k]? = some (some (settleD (fun j => crashH xs ys (atK ds k + j)) D)) := by
  have hk : k < 12 := by have := (List.getElem?_eq_some_iff.1 hD).1; rwa [hA.1] at this
  rw [crash_get xs ys ds 12 k hk (by rw [hA.1]; exact Nat.le_refl _), hD]; rfl
theorem crash_allS {ds : List DD} (hA : AllS ds) (xs ys : List Bool) : AllS (crashK xs ys ds 12) := ⟨by rw [crashK_len]; exact hA.1, fun k hk => by
  obtain ⟨D, hD⟩ := hA.2 k hk
  exact ⟨_, crash_at hA xs ys hD⟩⟩
theorem crash_nows {ds : List DD} (hA : AllS ds) (xs ys : List Bool) : NoWs (crashK xs ys ds 12) := fun k D hD => by
  have hk : k < 12 := by have := (List.getElem?_eq_some_iff.1 hD).1; rw [crashK_len, hA.1] at this; exact this
  obtain ⟨D0, h0⟩ := hA.2 k hk
  rw [crash_at hA xs ys h0] at hD
  obtain rfl := Option.some.inj (Option.some.inj hD)
  rfl
theorem crash_read {ds ds2 : List DD} {L : List OpD} (hA : AllS ds) (hN : NoWs ds) (hA2 : AllS ds2) (hL : Later ds ds2 L) (xs : List Bool) (d n : Int) :
    rdD (crashK xs [] ds2 12) d n = rdD ds d n ∨ ∃ y ∈ L, y.d = d ∧ y.n = n ∧ y.s = rdD (crashK xs [] ds2 12) d n := by
  have hA3 := crash_allS hA2 xs []
  by_cases hc : chk ds d n 0 = 0
  · obtain ⟨k, D, rfl, hk, hD, _⟩ := chk_ok hA.1 hc
    obtain ⟨D2, hD2⟩ := hA2.2 k hk
    have hc' : chk (crashK xs [] ds2 12) (k : Int) n 0 = 0 := by rw [hA3.chk hA]; exact hc
    obtain ⟨hkp, hws⟩ := hL k D D2 hD hD2
    rw [rdD_ok hc hD, rdD_ok hc' (crash_at hA2 xs [] hD2), hN k D hD]
    show (lastW [] n).getD ((getL (settleK (fun j => crashH xs [] (atK ds2 k + j)) D2.kp D2.ws D2.ws.length) n).getD ⟨#[]⟩) = (lastW [] n).getD ((getL D.kp n).getD ⟨#[]⟩) ∨ ∃ y ∈ L, y.d = k ∧ y.n = n ∧ y.s = (lastW [] n).getD ((getL (settleK (fun j => crashH xs [] (atK ds2 k + j)) D2.kp D2.ws D2.ws.length) n).getD ⟨#[]⟩)
    have hl : lastW [] n = none := rfl
    rw [hl]
    simp only [Option.getD_none]
    rcases settle_or (fun j => crashH xs [] (atK ds2 k + j)) (fun j => by unfold crashH isB; split <;> simp) D2.kp D2.ws n D2.ws.length (Nat.le_refl _) with e | ⟨z, hz, hn, e⟩
    · left; rw [e, hkp]
    · right
      obtain ⟨y, hy, h1, h2, h3⟩ := hws z hz
      exact ⟨y, hy, h1, h2.trans hn, by rw [e, h3]; rfl⟩
  · left
    rw [rdD_no hc, rdD_no (by rw [hA3.chk hA]; exact hc)]
/-- Whether a text is found among what was there, and what was written. -/
def fnd (s t : ByteArray) (x : OpD) (L : List OpD) (m : Nat) : Bool := decide (s = t) || (L.take m).any (fun y => decide (y.d = x.d) && (decide (y.n = x.n) && decide (y.s = s)))
theorem fnd_zero (s t : ByteArray) (x : OpD) (L : List OpD) : decide (s = t) = fnd s t x L 0 := by simp [fnd]
theorem fnd_succ {s t : ByteArray} {x y : OpD} {L : List OpD} {m : Nat} (hy : L[m]? = some y) : fnd s t x L (m + 1) = (fnd s t x L m || (decide (y.d = x.d) && (decide (y.n = x.n) && decide (y.s = s)))) := by
  unfold fnd
  rw [take_snoc hy, List.any_append, Bool.or_assoc]
  simp
theorem fnd_all {s t : ByteArray} {x : OpD} {L : List OpD} {m : Nat} (hm : m = L.length) (h : s = t ∨ ∃ y ∈ L, y.d = x.d ∧ y.n = x.n ∧ y.s = s) : fnd s t x L m = true := by
  unfold fnd
  rw [hm, List.take_length]
  rcases h with h | ⟨y, hy, h1, h2, h3⟩
  · rw [decide_eq_true h]; rfl
  · rw [Bool.or_eq_true]
    right
    exact List.any_eq_true.2 ⟨y, hy, by rw [decide_eq_true h1, decide_eq_true h2, decide_eq_true h3]; rfl⟩
end Go.Disks
