/- What is true of pins, in plain words. -/
import Derived.Test.YtnjhnpfippcacaaPCons
namespace Go.Pins
open Go Go.SL
abbrev one (k : Int × Int) : RD := setL ([] : RD) k (cntOf ([] : RD) k + 1)
theorem cnt_one (k k' : Int × Int) : cntOf (one k) k' = if k' = k then 1 else 0 := by
  unfold one cntOf
  simp only [setL, getL]
  by_cases h : k = k'
  · subst h; simp
  · simp [h, Ne.symm h]
theorem noR_one (k : Int × Int) (r : Rec) : noR (one k) r = !decide (r.key = k) := by
  unfold noR
  rw [cnt_one]
  by_cases h : r.key = k <;> simp [h]
def heldOf (rs : List Rec) (k : Int × Int) : Nat := (rs.filter (fun y => decide (y.key = k))).length
theorem heldOf_kept (rs : List Rec) (k : Int × Int) : (rs.filter (fun y => !noR (one k) y)).length = heldOf rs k := by
  unfold heldOf
  congr 2
  funext y
  rw [noR_one]; simp
theorem heldOf_out (rs : List Rec) (k : Int × Int) : (rs.filter (noR (one k))).length + heldOf rs k = rs.length := by
  unfold heldOf
  have : rs.filter (noR (one k)) = rs.filter (fun y => !decide (y.key = k)) := by congr 1; funext y; exact noR_one k y
  rw [this]
  clear this
  induction rs with
  | nil => rfl
  | cons a t ih =>
    simp only [List.filter_cons, List.length_cons]
    by_cases h : a.key = k <;> simp [h] <;> omega
theorem held_step {rs : List Rec} {r : Rec} {k : Int × Int} {n : Nat} (h1 : heldOf rs k = n) (h2 : n ≤ 1) (hr : retE rs r = 0) (hk : r.key = k) : heldOf (retL rs r) k = n + 1 ∧ n + 1 ≤ 1 := by
  unfold retE at hr
  split at hr
  · simp at hr
  · rename_i hn
    have h0 : heldOf rs k = 0 := by
      unfold heldOf
      rw [List.length_eq_zero_iff, List.filter_eq_nil_iff]
      intro y hy hyk
      exact hn (List.any_eq_true.2 ⟨y, hy, by simpa [hk] using hyk⟩)
    unfold retL
    rw [if_neg hn]
    refine ⟨?_, by omega⟩
    unfold heldOf at *
    rw [List.filter_append, List.length_append, h1]
    simp [hk]
theorem held_same {rs : List Rec} {r : Rec} {k : Int × Int} {n : Nat} (h1 : heldOf rs k = n) (h : ¬ (retE rs r = 0 ∧ r.key = k)) : heldOf (retL rs r) k = n := by
  unfold retL
  split
  · exact h1
  · rename_i hn
    have hr : retE rs r = 0 := by unfold retE; rw [if_neg hn]
    have hk : ¬ r.key = k := fun hk => h ⟨hr, hk⟩
    unfold heldOf at *
    rw [List.filter_append, List.length_append, h1]
    simp [hk]
theorem out_key {rs : List Rec} {k : Int × Int} {r : Rec} (h : r ∈ rs.filter (noR (one k))) : r.key ≠ k := by
  have := (List.mem_filter.1 h).2
  rw [noR_one] at this
  simpa using this
end Go.Pins
