/- What is true of pins, in plain words. -/
import Derived.Test.YtnjhnpfippcacaaPCons
namespace Go.Pins
open Go Go.SL
abbrev one (k : Int × Int) : RD := setL ([] : RD) k (cntOf ([] : RD) k + 1)
theorem cnt_one (k k' : Int × Int) : cntOf (one k) k' = if k' = k then 1 else 0 := by
  unfold one cntOf
  simp only [setL, getL]
  by_cases h : k = k'
  · subst h; simp
  · simp [h, Ne.symm h]
theorem noR_one (k : Int × Int) (r : Rec) : noR (one k) r = !decide (r.key = k) := by
  unfold noR
  rw [cnt_one]
  by_cases h : r.key = k <;> simp [h]
def heldOf (rs : List Rec) (k : Int × Int) : Nat := (rs.filter (fun y => decide (y.key = k))).length
theorem heldOf_kept (rs : List Rec) (k : Int × Int) : (rs.filter (fun y => !noR (one k) y)).length = heldOf rs k := by
  unfold heldOf
  congr 2
  funext y
  rw [noR_one]; simp
theorem heldOf_out (rs : List Rec) (k : Int × Int) : (rs.filter (noR (one k))).length + heldOf rs k = rs.length := by
  unfold heldOf
  have : rs.filter (noR (one k)) = rs.filter (fun y => !decide (y.key = k)) := by congr 1; funext y; exact noR_one k y
  rw [this]
  clear this
  induction rs with
  | nil => rfl
  | cons a t ih =>
    simp only [List.filter_cons, List.length_cons]
    by_cases h : a.key = k <;> simp [h] <;> omega
theorem held_step {rs : List Rec} {r : Rec} {k : Int × Int} {n : Nat} (h1 : heldOf rs k = n) (h2 : n ≤ 1) (hr : retE rs r = 0) (hk : r.key = k) : heldOf (retL rs r) k = n + 1 ∧ n + 1 ≤ 1 := by
  unfold retE at hr
  split at hr
  · simp at hr
  · rename_i hn
    have h0 : heldOf rs k = 0 := by
      unfold heldOf
      rw [List.length_eq_zero_iff, List.filter_eq_nil_iff]
      intro y hy hyk
      exact hn (List.any_eq_true.2 ⟨y, hy, by simpa [hk] using hyk⟩)
    unfold retL
    rw [if_neg hn]
    refine ⟨?_, by omega⟩
    unfold heldOf at *
    rw [List.filter_append, List.length_append, h1]
    simp [hk]
theorem held_same {rs : List Rec} {r : Rec} {k : Int × Int} {n : Nat} (h1 : heldOf rs k = n) (h : ¬ (retE rs r = 0 ∧ r.key = k)) : heldOf (retL rs r) k = n := by
  unfold retL
  split
  · exact h1
  · rename_i hn
    have hr : retE rs r = 0 := by unfold retE; rw [if_neg hn]
    have hk : ¬ r.key = k := fun hk => h ⟨hr, hk⟩
    unfold heldOf at *
    rw [List.filter_append, List.length_append, h1]
    simp [hk]
theorem out_key {rs : List Rec} {k : Int × Int} {r : Rec} (h : r ∈ rs.filter (noR (one k))) : r.key ≠ k := by
  have := (List.mem_filter.1 h).2
  rw [noR_one] at this
  simpa using this
theorem retL_one (r q : Rec) : (retL [r] q).length = if q.key = r.key then 1 else 2 := by
  unfold retL
  by_cases h : r.key = q.key
  · simp [h]
  · simp [h, Ne.symm h]
theorem retL_pos (r q : Rec) : 1 ≤ (retL [r] q).length := by rw [retL_one]; split <;> omega
theorem take1_retL (r q : Rec) : (retL [r] q).take 1 = [r] := by unfold retL; split <;> rfl
theorem want_one {r q : Rec} (h : q.key = r.key) : (((retL [r] q).length : Nat) : Int) = 1 := by rw [retL_one, if_pos h]; rfl
theorem want_two {r q : Rec} (h : ¬ q.key = r.key) : (((retL [r] q).length : Nat) : Int) = 2 := by rw [retL_one, if_neg h]; rfl
/-! ### counts -/
def Dk (rd : RD) : Prop := (rd.map (·.1)).Nodup
theorem getL_none {rd : RD} {k : Int × Int} (h : k ∉ rd.map (·.1)) : getL rd k = none := by
  induction rd with
  | nil => rfl
  | cons p t ih =>
    obtain ⟨a, n⟩ := p
    simp only [List.map_cons, List.mem_cons, not_or] at h
    simp only [getL, if_neg (Ne.symm h.1)]
    exact ih h.2
theorem getL_del {rd : RD} (hd : Dk rd) (k k' : Int × Int) : getL (delL rd k) k' = if k' = k then none else getL rd k' := by
  induction rd with
  | nil => simp [delL, getL]
  | cons p t ih =>
    obtain ⟨a, n⟩ := p
    have hd' : a ∉ t.map (·.1) ∧ (t.map (·.1)).Nodup := by simpa [Dk] using hd
    by_cases ha : a = k
    · subst ha
      simp only [delL, if_pos rfl]
      by_cases hk : k' = a
      · subst hk; simp [getL_none hd'.1]
      · simp [getL, hk, Ne.symm hk]
    · simp only [delL, if_neg ha, getL]
      by_cases hk : a = k'
      · subst hk; simp [ha]
      · simp only [if_neg hk]; exact ih hd'.2
theorem dk_del {rd : RD} (hd : Dk rd) (k : Int × Int) : Dk (delL rd k) := by
  have : ∀ rd : RD, (delL rd k).Sublist rd := by
    intro rd
    induction rd with
    | nil => exact List.Sublist.refl _
    | cons p t ih =>
      obtain ⟨a, n⟩ := p
      simp only [delL]
      split
      · exact List.sublist_cons_self _ _
      · exact ih.cons_cons _
  exact ((this rd).map _).nodup hd
theorem keys_set (rd : RD) (k : Int × Int) (n : Nat) : (setL rd k n).map (·.1) = if k ∈ rd.map (·.1) then rd.map (·.1) else rd.map (·.1) ++ [k] := by
  induction rd with
  | nil => simp [setL]
  | cons p t ih =>
    obtain ⟨a, m⟩ := p
    simp only [setL]
    by_cases ha : a = k
    · subst ha; simp
    · simp only [if_neg ha, List.map_cons, ih, List.mem_cons, Ne.symm ha, false_or]
      split <;> simp
theorem dk_set {rd : RD} (hd : Dk rd) (k : Int × Int) (n : Nat) : Dk (setL rd k n) := by
  unfold Dk
  rw [keys_set]
  split
  · exact hd
  · rename_i h
    refine List.nodup_append.2 ⟨hd, by simp, ?_⟩
    intro a ha b hb
    obtain rfl : b = k := by simpa using hb
    exact fun e => h (e ▸ ha)
theorem cnt_set (rd : RD) (k k' : Int × Int) (n : Nat) : cntOf (setL rd k n) k' = if k' = k then n else cntOf rd k' := by
  unfold cntOf
  rw [getL_setL]
  by_cases h : k' = k
  · subst h; simp
  · simp [h, Ne.symm h]
theorem dk_unp {rd : RD} (hd : Dk rd) (k : Int × Int) : Dk (unp rd k) := by
  unfold unp
  split
  · exact hd
  · split
    · exact dk_del hd k
    · exact dk_set hd k _
theorem cnt_unp {rd : RD} (hd : Dk rd) (k k' : Int × Int) : cntOf (unp rd k) k' = if k' = k then cntOf rd k - 1 else cntOf rd k' := by
  unfold unp
  split
  · rename_i h; split
    · rename_i h2; subst h2; omega
    · rfl
  · split
    · rename_i h1 h2
      unfold cntOf
      rw [getL_del hd]
      split
      · rename_i h3; subst h3
        unfold cntOf at h2; rw [h2]; rfl
      · rfl
    · rw [cnt_set]
theorem unp_ok {c : Nat} (h : (if c = 0 then (9 : Int) else 0) = 0) : c ≠ 0 := fun e => by rw [if_pos e] at h; exact absurd h (by decide)
theorem unp_no {c : Nat} (h : ¬ (if c = 0 then (9 : Int) else 0) = 0) : c = 0 := Decidable.byContradiction fun e => h (if_neg e)
theorem len_parts (rs : List Rec) (p : Rec → Bool) : (rs.filter p).length + (rs.filter (fun y => !p y)).length = rs.length := by
  induction rs with
  | nil => rfl
  | cons a t ih =>
    simp only [List.filter_cons, List.length_cons]
    cases p a <;> simp <;> omega
theorem retL_len0 {rs : List Rec} {r : Rec} (h : retE rs r = 0) : (retL rs r).length = rs.length + 1 := by
  unfold retE at h; unfold retL
  split at h
  · simp at h
  · rw [if_neg (by assumption)]; simp
theorem retL_len1 {rs : List Rec} {r : Rec} (h : ¬ retE rs r = 0) : (retL rs r).length = rs.length := by
  unfold retE at h; unfold retL
  split at h
  · rw [if_pos (by assumption)]
  · simp at h
theorem all_noR {rd : RD} (h : ∀ q, cntOf rd q = 0) (z : Rec) : noR rd z = true := decide_eq_true (h _)
theorem dk_nil : Dk [] := List.nodup_nil
end Go.Pins
