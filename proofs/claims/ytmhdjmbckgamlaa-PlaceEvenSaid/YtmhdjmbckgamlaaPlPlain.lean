/- What is true of places, in plain words. -/
import Derived.Test.YtmhdjmbckgamlaaPlDefs
namespace Go.Place
open Go Go.SL
theorem in_step {xs : List Int} {k : Nat} {x y : Int} {b : Bool} (hy : xs[k]? = some y) (hin : b = decide (x ∈ xs.take k)) (hb : b = false) : decide (y = x) = decide (x ∈ xs.take (k + 1)) := by
  have h2 : x ∉ xs.take k := of_decide_eq_false (by rw [← hin]; exact hb)
  rw [take_snoc hy]
  by_cases h : y = x
  · subst h; simp
  · have h' : ¬ x = y := fun e => h e.symm
    simp [h, h', h2]
theorem in_keep {xs : List Int} {k : Nat} {x y : Int} {b : Bool} (hy : xs[k]? = some y) (hin : b = decide (x ∈ xs.take k)) (hb : b = true) : true = decide (x ∈ xs.take (k + 1)) := by
  have h2 : x ∈ xs.take k := of_decide_eq_true (by rw [← hin]; exact hb)
  rw [take_snoc hy]
  simp [h2]
theorem are_nodup : ∀ {xs : List Int} {last : Int}, areFrom last xs = true → xs.Nodup
  | [], _, _ => List.nodup_nil
  | d :: t, last, h => by
    simp only [areFrom, Bool.and_eq_true, decide_eq_true_eq] at h
    refine List.nodup_cons.2 ⟨fun hm => ?_, are_nodup h.2⟩
    have := areFrom_mem h.2 d hm
    omega
theorem get_inj {xs : List Int} (h : xs.Nodup) {i j : Nat} {x : Int} (hi : xs[i]? = some x) (hj : xs[j]? = some x) : i = j := by
  have h1 := (List.getElem?_eq_some_iff.1 hi)
  have h2 := (List.getElem?_eq_some_iff.1 hj)
  obtain ⟨l1, e1⟩ := h1
  obtain ⟨l2, e2⟩ := h2
  exact (List.getElem_inj h).1 (e1.trans e2.symm)
theorem mod_ne {f i j n : Nat} (hij : i < j) (hjn : j < i + n) : (f + i) % n ≠ (f + j) % n := fun h => by
  have h1 := Nat.sub_mod_eq_zero_of_mod_eq h.symm
  rw [show f + j - (f + i) = j - i by omega, Nat.mod_eq_of_lt (by omega)] at h1
  omega
theorem rotAt_ne {xs : List Int} (h : xs.Nodup) {f i j : Nat} (hij : i < j) (hj : j < xs.length) : rotAt xs f i ≠ rotAt xs f j := fun e => by
  obtain ⟨x, hx⟩ := rot_some (xs := xs) (f := f) (i := i) (by omega)
  obtain ⟨y, hy⟩ := rot_some (xs := xs) (f := f) (i := j) (by omega)
  unfold rotAt at e
  rw [hx, hy] at e
  obtain rfl : x = y := e
  exact mod_ne hij (by omega) (get_inj h hx hy)
theorem rotAt_mem {xs : List Int} (h : 0 < xs.length) (f i : Nat) : rotAt xs f i ∈ xs := by
  obtain ⟨x, hx⟩ := rot_some (xs := xs) (f := f) (i := i) h
  unfold rotAt; rw [hx]; exact List.mem_of_getElem? hx
theorem mem_rotL {xs : List Int} {f m : Nat} {x : Int} : x ∈ rotL xs f m ↔ ∃ i, i < m ∧ rotAt xs f i = x := by
  unfold rotL; simp [List.mem_map, List.mem_range]
theorem rot_surj {xs : List Int} {f : Nat} {x : Int} (hx : x ∈ xs) : x ∈ rotL xs f xs.length := by
  obtain ⟨j, hj⟩ := List.getElem?_of_mem hx
  have hl := (List.getElem?_eq_some_iff.1 hj).1
  have hm : f % xs.length < xs.length := Nat.mod_lt _ (by omega)
  refine mem_rotL.2 ⟨(j + (xs.length - f % xs.length)) % xs.length, Nat.mod_lt _ (by omega), ?_⟩
  have e : (f + (j + (xs.length - f % xs.length)) % xs.length) % xs.length = j := by
    have hdiv := Nat.div_add_mod f xs.length
    have hmul : xs.length * (f / xs.length + 1) = xs.length * (f / xs.length) + xs.length := by rw [Nat.mul_add, Nat.mul_one]
    rw [Nat.add_mod_mod, show f + (j + (xs.length - f % xs.length)) = j + xs.length * (f / xs.length + 1) by omega, Nat.add_mul_mod_self_left, Nat.mod_eq_of_lt hl]
  unfold rotAt; rw [e, hj]; rfl
theorem chosen {id gen : Int} {xs : List Int} (h : chooseE id gen xs = 0) : areL xs = true ∧ 9 ≤ xs.length ∧ chooseL id gen xs = rotL xs (5 * id + 7 * gen).toNat 9 ∧ 0 ≤ id ∧ id ≤ 1099511627776 := by
  unfold chooseE at h
  split at h
  · simp at h
  · rename_i hb
    split at h
    · simp at h
    · rename_i hl
      have hb' : badC id gen xs = false := by simpa using hb
      refine ⟨?_, by omega, ?_, ?_, ?_⟩
      · unfold badC at hb'; simp at hb'; exact hb'.2
      · unfold chooseL; rw [if_neg hb, if_neg hl]
      · unfold badC at hb'; simp at hb'; omega
      · unfold badC at hb'; simp at hb'; omega
theorem not_chosen {id gen : Int} {xs : List Int} (h : ¬ chooseE id gen xs = 0) : chooseL id gen xs = [] := by
  unfold chooseE at h
  unfold chooseL
  split at h
  · rw [if_pos (by assumption)]
  · rw [if_neg (by assumption)]
    split at h
    · rw [if_pos (by assumption)]
    · simp at h
theorem instead_few {id gen : Int} {xs : List Int} (h : chooseE id gen xs = 0) (h9 : xs.length = 9) : insteadR (chooseL id gen xs) xs id = (0, 2) := by
  obtain ⟨h1, h2, h3, h4, h5⟩ := chosen h
  have hb : badI id xs = false := by unfold badI; simp [h1]; omega
  unfold insteadR
  rw [if_neg (by rw [hb]; simp)]
  have : (rotL xs id.toNat xs.length).find? (fun d => !decide (d ∈ chooseL id gen xs)) = none := by
    rw [List.find?_eq_none]
    intro x hx
    obtain ⟨i, _, rfl⟩ := mem_rotL.1 hx
    have hm : rotAt xs id.toNat i ∈ chooseL id gen xs := by
      rw [h3, ← h9]; exact rot_surj (rotAt_mem (by omega) _ _)
    simp [hm]
  rw [this]
theorem instead_some {id gen : Int} {xs : List Int} (h : chooseE id gen xs = 0) (h9 : ¬ xs.length = 9) : (insteadR (chooseL id gen xs) xs id).2 = 0 ∧ (insteadR (chooseL id gen xs) xs id).1 ∉ chooseL id gen xs := by
  obtain ⟨h1, h2, h3, h4, h5⟩ := chosen h
  have hb : badI id xs = false := by unfold badI; simp [h1]; omega
  unfold insteadR
  rw [if_neg (by rw [hb]; simp)]
  have hn := are_nodup h1
  have hout : rotAt xs (5 * id + 7 * gen).toNat 9 ∉ chooseL id gen xs := by
    rw [h3]
    intro hm
    obtain ⟨i, hi, he⟩ := mem_rotL.1 hm
    exact rotAt_ne hn hi (by omega) he
  cases hf : (rotL xs id.toNat xs.length).find? (fun d => !decide (d ∈ chooseL id gen xs)) with
  | none =>
    rw [List.find?_eq_none] at hf
    have := hf _ (rot_surj (f := id.toNat) (rotAt_mem (f := (5 * id + 7 * gen).toNat) (i := 9) (by omega)))
    simp [hout] at this
  | some d =>
    have := List.find?_some hf
    exact ⟨rfl, by simpa using this⟩
theorem chosen_get {id gen : Int} {xs : List Int} (h : chooseE id gen xs = 0) {i : Nat} {x : Int} (hx : (chooseL id gen xs)[i]? = some x) : x ∈ xs ∧ ∀ k y, k < i → (chooseL id gen xs)[k]? = some y → y ≠ x := by
  obtain ⟨h1, h2, h3, h4, h5⟩ := chosen h
  rw [h3] at hx
  have hl := (List.getElem?_eq_some_iff.1 hx).1
  rw [rotL_len] at hl
  rw [rotL_get hl] at hx
  obtain rfl := Option.some.inj hx
  refine ⟨rotAt_mem (by omega) _ _, fun k y hk hy => ?_⟩
  rw [h3, rotL_get (by omega)] at hy
  obtain rfl := Option.some.inj hy
  exact rotAt_ne (are_nodup h1) hk (by omega)
theorem chosen_len {id gen : Int} {xs : List Int} (h : chooseE id gen xs = 0) : (chooseL id gen xs).length = 9 := by rw [(chosen h).2.2.1, rotL_len]
/-! ### twelve disks -/
abbrev all12 : List Int := [0, 1, 2, 3, 4, 5, 6, 7, 8, 9, 10, 11]
theorem choose_all {a : Nat} (h : a ≤ 1099511627776) : chooseE (a : Int) 0 all12 = 0 ∧ chooseL (a : Int) 0 all12 = rotL all12 (5 * a) 9 := by
  have hare : areL all12 = true := by decide
  have hb : badC (a : Int) 0 all12 = false := by
    unfold badC; rw [hare]
    have h1 : ¬ (a : Int) < 0 := by omega
    have h2 : ¬ (1099511627776 : Int) < (a : Int) := by omega
    simp [h1, h2]
  refine ⟨?_, ?_⟩
  · unfold chooseE; rw [if_neg (by rw [hb]; simp), if_neg (by decide)]
  · unfold chooseL; rw [if_neg (by rw [hb]; simp), if_neg (by decide)]; congr 1 <;> omega
theorem rotAt_mod (f g i : Nat) (h : f % 12 = g % 12) : rotAt all12 f i = rotAt all12 g i := by
  unfold rotAt
  rw [show all12.length = 12 from rfl, Nat.add_mod f, Nat.add_mod g, h]
theorem rotL_mod (f g m : Nat) (h : f % 12 = g % 12) : rotL all12 f m = rotL all12 g m := by
  unfold rotL
  exact List.map_congr_left fun i _ => rotAt_mod f g i h
def bumpsI (ld : List Int) (xs : List Int) : List Int := xs.foldl bump ld
def rnd (f i : Nat) : List Int := (List.range i).foldl (fun ld i => bumpsI ld (rotL all12 (5 * (f + i)) 9)) zero12
theorem rnd_succ (f i : Nat) : rnd f (i + 1) = bumpsI (rnd f i) (rotL all12 (5 * (f + i)) 9) := by
  unfold rnd; rw [List.range_succ, List.foldl_append]; rfl
theorem bumpsI_snoc {ld xs : List Int} {k : Nat} {x : Int} (hx : xs[k]? = some x) : bumpsI ld (xs.take (k + 1)) = bump (bumpsI ld (xs.take k)) x := foldl_snoc hx
theorem rnd_small : ∀ t, t < 12 → rnd t 12 = List.replicate 12 9 := by decide +kernel
theorem rnd_mod (f : Nat) : ∀ i, rnd f i = rnd (f % 12) i := by
  intro i
  induction i with
  | zero => rfl
  | succ i ih => rw [rnd_succ, rnd_succ, ih, rotL_mod (5 * (f + i)) (5 * (f % 12 + i)) 9 (by omega)]
theorem rnd_all (f : Nat) : rnd f 12 = List.replicate 12 9 := by rw [rnd_mod, rnd_small _ (Nat.mod_lt _ (by omega))]
theorem rot12_lt (f i : Nat) : 0 ≤ rotAt all12 f i ∧ rotAt all12 f i < 12 := by
  have h := rotAt_mem (xs := all12) (by decide) f i
  have := areFrom_mem (last := -1) (xs := all12) (by decide) _ h
  omega
/-! ### volumes chosen in turn -/
def lsE (k : Nat) : List Loc := (rotL all12 (5 * k) 9).map (fun d => ⟨d, 0⟩)
def lssE (m : Nat) : List (List Loc) := (List.range m).map lsE
theorem lssE_succ (m : Nat) : lssE (m + 1) = lssE m ++ [lsE m] := by unfold lssE; rw [List.range_succ, List.map_append]; rfl
def sumK (ld : List Int) (i : Nat) : Int := (ld.take i).foldl (· + ·) 0
theorem sumK_succ {ld : List Int} {i : Nat} {x : Int} (hx : ld[i]? = some x) : sumK ld (i + 1) = sumK ld i + x := foldl_snoc hx
def okE (m : Nat) : Bool :=
  let ld := loadL (lssE m)
  let e := evenR ld all12
  decide (0 ≤ e.1) && decide (e.1 < 12) && decide (0 ≤ e.2.1) && decide (e.2.1 < 12) && decide (sumK ld 12 = 9 * m) && decide (at12 ld e.1 - at12 ld e.2.1 ≤ 9)
theorem okE_all : ∀ m, m < 61 → okE m = true := by decide +kernel
theorem okE_get {m : Nat} (h : m < 61) : (0 ≤ (evenR (loadL (lssE m)) all12).1 ∧ (evenR (loadL (lssE m)) all12).1 < 12) ∧ (0 ≤ (evenR (loadL (lssE m)) all12).2.1 ∧ (evenR (loadL (lssE m)) all12).2.1 < 12) ∧ sumK (loadL (lssE m)) 12 = 9 * m ∧
    at12 (loadL (lssE m)) (evenR (loadL (lssE m)) all12).1 - at12 (loadL (lssE m)) (evenR (loadL (lssE m)) all12).2.1 ≤ 9 := by
  have := okE_all m h
  simp only [okE, Bool.and_eq_true, decide_eq_true_eq] at this
  omega
theorem lsE_len (k : Nat) : (lsE k).length = 9 := by unfold lsE; rw [List.length_map, rotL_len]
theorem lsE_get {k j : Nat} {x : Int} (h : (rotL all12 (5 * k) 9)[j]? = some x) : (lsE k)[j]? = some ⟨x, 0⟩ := by unfold lsE; rw [List.getElem?_map, h]; rfl
end Go.Place
