/- What gather gives, in plain Lean. -/
import Derived.Test.YtcjhahjjeicmoaaHDefs
namespace Go.Hist
open Go Go.SL
def Good (xs : List Ev) (k : Nat) (o : Hop) : Prop :=
  ∃ a : Nat, o.start = a ∧ a < k ∧ (∃ x, xs[a]? = some x ∧ x.call = true ∧ x.task = o.task) ∧
    (o.fin = -1 ∨ ∃ b : Nat, o.fin = b ∧ a < b ∧ b < k ∧ ∃ y, xs[b]? = some y ∧ y.call = false ∧ y.task = o.task)
structure Inv (xs : List Ev) (k : Nat) (s : GS) : Prop where
  map : ∀ t j, getL s.2 t = some j → ∃ o, s.1[j]? = some o ∧ o.task = t
  good : ∀ o ∈ s.1, Good xs k o
  num : s.1.length + s.1.countP (fun o => decide (0 ≤ o.fin)) = k
theorem Good.up {xs : List Ev} {k : Nat} {o : Hop} (h : Good xs k o) : Good xs (k + 1) o := by
  obtain ⟨a, h1, h2, h3, h4⟩ := h
  refine ⟨a, h1, by omega, h3, ?_⟩
  rcases h4 with h4 | ⟨b, h5, h6, h7, h8⟩
  · exact .inl h4
  · exact .inr ⟨b, h5, h6, by omega, h8⟩
theorem gstep_call {k : Nat} {x : Ev} {s s' : GS} (h : gstep k x s = some s') : (x.call = true ∧ getL s.2 x.task = none ∧ s' = (s.1 ++ [x.op k], setL s.2 x.task s.1.length)) ∨ (x.call = false ∧ ∃ j o, getL s.2 x.task = some j ∧ s.1[j]? = some o ∧ o.fin < 0 ∧ s' = (s.1.set j (o.done x k), s.2)) := by
  unfold gstep at h
  cases hg : getL s.2 x.task with
  | none =>
    rw [hg] at h
    simp only at h
    split at h
    · rename_i hc; exact .inl ⟨hc, rfl, (Option.some.inj h).symm⟩
    · cases h
  | some j =>
    rw [hg] at h
    simp only at h
    split at h
    · cases h
    · rename_i hc
      split at h
      · rename_i o ho
        split at h
        · cases h
        · rename_i hf
          exact .inr ⟨by simpa using hc, j, o, rfl, ho, by omega, (Option.some.inj h).symm⟩
      · cases h
theorem countP_set {p : Hop → Bool} : ∀ {l : List Hop} {j : Nat} {o o' : Hop}, l[j]? = some o → p o = false → p o' = true → (l.set j o').countP p = l.countP p + 1
  | [], j, o, o', h, _, _ => by simp at h
  | a :: l, 0, o, o', h, h1, h2 => by
    obtain rfl : a = o := by simpa using h
    simp [List.countP_cons, h1, h2]
  | a :: l, j + 1, o, o', h, h1, h2 => by
    have := countP_set (l := l) (j := j) (by simpa using h) h1 h2
    simp only [List.set_cons_succ, List.countP_cons, this]; omega
theorem Inv.step {xs : List Ev} {k : Nat} {x : Ev} {s s' : GS} (hx : xs[k]? = some x) (h : Inv xs k s) (hs : gstep k x s = some s') : Inv xs (k + 1) s' := by
  rcases gstep_call hs with ⟨hc, hg, rfl⟩ | ⟨hc, j, o, hg, ho, hf, rfl⟩
  · refine ⟨fun t j ht => ?_, fun o ho => ?_, ?_⟩
    · rw [getL_setL] at ht
      split at ht
      · rename_i e; subst e
        obtain rfl : s.1.length = j := by simpa using ht
        exact ⟨x.op k, by simp, rfl⟩
      · obtain ⟨o, h1, h2⟩ := h.map t j ht
        exact ⟨o, by rw [List.getElem?_append_left (List.getElem?_eq_some_iff.1 h1).1]; exact h1, h2⟩
    · rw [List.mem_append, List.mem_singleton] at ho
      rcases ho with ho | rfl
      · exact (h.good o ho).up
      · exact ⟨k, rfl, by omega, ⟨x, hx, hc, rfl⟩, .inl rfl⟩
    · have := h.num
      simp only [List.length_append, List.countP_append, List.length_singleton, List.countP_singleton]
      simp [Ev.op]; omega
  · have hj := (List.getElem?_eq_some_iff.1 ho).1
    have hmem : o ∈ s.1 := List.mem_of_getElem? ho
    obtain ⟨o1, ho1, ht1⟩ := h.map _ _ hg
    obtain rfl : o = o1 := by rw [ho] at ho1; exact Option.some.inj ho1
    refine ⟨fun t j' ht => ?_, fun o' ho' => ?_, ?_⟩
    · obtain ⟨o2, h1, h2⟩ := h.map t j' ht
      by_cases e : j = j'
      · subst e
        obtain rfl : o = o2 := by rw [ho] at h1; exact Option.some.inj h1
        exact ⟨o.done x k, by simp [hj], h2⟩
      · exact ⟨o2, by simp [e, h1], h2⟩
    · rcases List.mem_or_eq_of_mem_set ho' with ho' | rfl
      · exact (h.good o' ho').up
      · obtain ⟨a, h1, h2, h3, h4⟩ := h.good o hmem
        exact ⟨a, h1, by omega, h3, .inr ⟨k, rfl, h2, by omega, x, hx, hc, ht1.symm⟩⟩
    · have := h.num
      have h2 := countP_set (p := fun o => decide (0 ≤ o.fin)) (o' := o.done x k) ho (by simpa using hf) (by simp [Hop.done])
      simp only [List.length_set, h2]; omega
theorem gat_pre {xs : List Ev} {k : Nat} {x : Ev} {s' : GS} (hx : xs[k]? = some x) (h : gat (xs.take (k + 1)) 0 ([], []) = some s') : ∃ s, gat (xs.take k) 0 ([], []) = some s ∧ gstep k x s = some s' := by
  have hk := (List.getElem?_eq_some_iff.1 hx).1
  have hl : (xs.take k).length = k := by rw [List.length_take]; omega
  rw [List.take_add_one, hx, gat_append, hl] at h
  cases hg : gat (xs.take k) 0 ([], []) with
  | none => rw [hg] at h; simp at h
  | some s =>
    rw [hg] at h
    refine ⟨s, rfl, ?_⟩
    simpa [gat] using h
theorem gat_inv {xs : List Ev} : ∀ (k : Nat) (s : GS), k ≤ xs.length → gat (xs.take k) 0 ([], []) = some s → Inv xs k s
  | 0, s, _, h => by
    obtain rfl : (([], []) : GS) = s := by simpa [gat] using h
    exact ⟨(fun t j h => by simp [getL] at h), (fun o ho => by cases ho), rfl⟩
  | k + 1, s', hk, h => by
    obtain ⟨s, h1, h2⟩ := gat_pre (List.getElem?_eq_getElem hk) h
    exact (gat_inv k s (by omega) h1).step (List.getElem?_eq_getElem hk) h2
theorem gather_some {xs : List Ev} (h : (gather xs).isSome = true) : ∃ m, gat xs 0 ([], []) = some (opsOf xs, m) := by
  unfold opsOf
  unfold gather at *
  cases hg : gat xs 0 ([], []) with
  | none => rw [hg] at h; simp at h
  | some s => exact ⟨s.2, by simp⟩
theorem gather_inv {xs : List Ev} (h : (gather xs).isSome = true) : ∃ m, Inv xs xs.length (opsOf xs, m) := by
  obtain ⟨m, hm⟩ := gather_some h
  exact ⟨m, gat_inv xs.length _ (Nat.le_refl _) (by rw [List.take_length]; exact hm)⟩
theorem opsOf_none {xs : List Ev} (h : ¬ (gather xs).isSome = true) : opsOf xs = [] := by
  unfold opsOf
  cases hg : gather xs with
  | none => rfl
  | some _ => rw [hg] at h; simp at h
theorem opsOf_good {xs : List Ev} : ∀ o ∈ opsOf xs, Good xs xs.length o := by
  by_cases h : (gather xs).isSome = true
  · obtain ⟨m, hi⟩ := gather_inv h; exact hi.good
  · rw [opsOf_none h]; intro o ho; cases ho
theorem opsOf_len (xs : List Ev) : (opsOf xs).length ≤ xs.length := by
  by_cases h : (gather xs).isSome = true
  · obtain ⟨m, hi⟩ := gather_inv h; have := hi.num; simp only at this; omega
  · rw [opsOf_none h]; simp
theorem count_take {p : Hop → Bool} {l : List Hop} {i : Nat} {o : Hop} (h : l[i]? = some o) : (l.take (i + 1)).countP p = (l.take i).countP p + if p o = true then 1 else 0 := by
  rw [List.take_add_one, h, List.countP_append]; simp [List.countP_cons]
/-- What the law of ahead asks of an op. -/
def Hop.Ok (o : Hop) : Prop := 0 ≤ o.start ∧ (0 ≤ o.fin → o.start < o.fin)
theorem opsOf_ok {xs : List Ev} : ∀ o ∈ opsOf xs, o.Ok := fun o ho => by
  obtain ⟨a, h1, _, _, h4⟩ := opsOf_good o ho
  refine ⟨by omega, fun hf => ?_⟩
  rcases h4 with h4 | ⟨b, h5, h6, _⟩ <;> omega
theorem ahead_irrefl {o : Hop} (h : o.Ok) : ahead o o = false := by
  unfold ahead
  by_cases hf : 0 ≤ o.fin
  · have := h.2 hf; simp; omega
  · simp [hf]
theorem ahead_asymm {a b : Hop} (ha : a.Ok) (hb : b.Ok) (h : ahead a b = true) : ahead b a = false := by
  unfold ahead at *
  simp only [Bool.and_eq_true, decide_eq_true_eq] at h
  have := ha.2 h.1
  by_cases hf : 0 ≤ b.fin
  · have := hb.2 hf; simp; omega
  · simp [hf]
theorem ahead_trans {a b c : Hop} (hb : b.Ok) (h : ahead a b = true) (h' : ahead b c = true) : ahead a c = true := by
  unfold ahead at *
  simp only [Bool.and_eq_true, decide_eq_true_eq] at *
  have := hb.2 h'.1
  exact ⟨h.1, by omega⟩
/-! ### a history and its beginning -/
theorem bne_dec {p q : Prop} [Decidable p] [Decidable q] (h : p ↔ q) : (decide p != decide q) = false := by
  by_cases hp : p
  · have hq := h.1 hp; simp [hp, hq]
  · have hq : ¬ q := fun hq => hp (h.2 hq)
    simp [hp, hq]
structure Ext (m : Nat) (s s' : List Hop) : Prop where
  len : s.length ≤ s'.length
  old : ∀ (i : Nat) (a b : Hop), s[i]? = some a → s'[i]? = some b → a.task = b.task ∧ a.start = b.start ∧ (a.fin = b.fin ∨ (a.fin < 0 ∧ (m : Int) ≤ b.fin))
  new : ∀ (i : Nat) (b : Hop), s.length ≤ i → s'[i]? = some b → (m : Int) ≤ b.start
theorem Ext.refl (m : Nat) (s : List Hop) : Ext m s s :=
  ⟨Nat.le_refl _, (fun i a b h h' => by rw [h] at h'; obtain rfl := Option.some.inj h'; exact ⟨rfl, rfl, .inl rfl⟩), fun i b h h' => by rw [List.getElem?_eq_none h] at h'; cases h'⟩
theorem Ext.step {m k : Nat} {x : Ev} {s : List Hop} {t t' : GS} (hk : m ≤ k) (h : Ext m s t.1) (hs : gstep k x t = some t') : Ext m s t'.1 := by
  rcases gstep_call hs with ⟨hc, hg, rfl⟩ | ⟨hc, j, o, hg, ho, hf, rfl⟩
  · refine ⟨by simp; have := h.len; omega, fun i a b ha hb => ?_, fun i b hi hb => ?_⟩
    · have hi := (List.getElem?_eq_some_iff.1 ha).1
      have := h.len
      rw [List.getElem?_append_left (by omega)] at hb
      exact h.old i a b ha hb
    · by_cases hl : i < t.1.length
      · rw [List.getElem?_append_left hl] at hb; exact h.new i b hi hb
      · rw [List.getElem?_append_right (by omega)] at hb
        have h0 : i - t.1.length = 0 := by have := (List.getElem?_eq_some_iff.1 hb).1; simp at this; omega
        rw [h0] at hb
        obtain rfl : x.op k = b := by simpa using hb
        simp [Ev.op]; omega
  · have hj := (List.getElem?_eq_some_iff.1 ho).1
    refine ⟨by simp; exact h.len, fun i a b ha hb => ?_, fun i b hi hb => ?_⟩
    · by_cases e : j = i
      · subst e
        rw [List.getElem?_set_self hj] at hb
        obtain rfl := Option.some.inj hb
        obtain ⟨h1, h2, h3⟩ := h.old j a o ha ho
        exact ⟨h1, h2, .inr ⟨by rcases h3 with h3 | h3 <;> omega, by simp [Hop.done]; omega⟩⟩
      · rw [List.getElem?_set_ne e] at hb; exact h.old i a b ha hb
    · by_cases e : j = i
      · subst e
        rw [List.getElem?_set_self hj] at hb
        obtain rfl := Option.some.inj hb
        exact h.new j o hi ho
      · rw [List.getElem?_set_ne e] at hb; exact h.new i b hi hb
theorem gat_ext {xs : List Ev} {m : Nat} {s : GS} (hm : gat (xs.take m) 0 ([], []) = some s) : ∀ (d : Nat) (t : GS), m + d ≤ xs.length → gat (xs.take (m + d)) 0 ([], []) = some t → Ext m s.1 t.1
  | 0, t, _, h => by
    obtain rfl : s = t := by rw [Nat.add_zero, hm] at h; exact Option.some.inj h
    exact Ext.refl m _
  | d + 1, t', hd, h => by
    obtain ⟨t, h1, h2⟩ := gat_pre (xs := xs) (k := m + d) (List.getElem?_eq_getElem (by omega)) h
    exact (gat_ext hm d t (by omega) h1).step (by omega) h2
theorem gat_take {xs : List Ev} {t : GS} (h : gat xs 0 ([], []) = some t) (m : Nat) : ∃ s, gat (xs.take m) 0 ([], []) = some s := by
  rw [← List.take_append_drop m xs, gat_append] at h
  cases hg : gat (xs.take m) 0 ([], []) with
  | none => rw [hg] at h; simp at h
  | some s => exact ⟨s, rfl⟩
theorem gather_of {xs : List Ev} {s : GS} (h : gat xs 0 ([], []) = some s) : (gather xs).isSome = true ∧ opsOf xs = s.1 := by
  unfold opsOf gather; rw [h]; exact ⟨rfl, rfl⟩
theorem begins {xs : List Ev} {m : Nat} (hm : m ≤ xs.length) (h : (gather xs).isSome = true) : (gather (xs.take m)).isSome = true ∧ (opsOf (xs.take m)).length ≤ (opsOf xs).length ∧
    ∀ i b, (opsOf xs)[i]? = some b → (i < (opsOf (xs.take m)).length → ∃ a, (opsOf (xs.take m))[i]? = some a ∧ a.task = b.task ∧ a.start = b.start ∧ (0 ≤ a.fin ↔ (0 ≤ b.fin ∧ b.fin < (m : Int)))) ∧ (b.start < (m : Int) ↔ i < (opsOf (xs.take m)).length) := by
  obtain ⟨mm, hx⟩ := gather_some h
  obtain ⟨s, hs⟩ := gat_take hx m
  obtain ⟨h1, h2⟩ := gather_of hs
  have hinv := gat_inv m s hm hs
  have hext : Ext m s.1 (opsOf xs) := gat_ext hs (xs.length - m) (opsOf xs, mm) (by omega) (by rw [Nat.add_sub_cancel' hm, List.take_length]; exact hx)
  rw [h2]
  refine ⟨h1, hext.len, fun i b hb => ?_⟩
  have old : i < s.1.length → ∃ a, s.1[i]? = some a ∧ a.task = b.task ∧ a.start = b.start ∧ b.start < (m : Int) ∧ (0 ≤ a.fin ↔ (0 ≤ b.fin ∧ b.fin < (m : Int))) := fun hi => by
    obtain ⟨e1, e2, e3⟩ := hext.old i _ b (List.getElem?_eq_getElem hi) hb
    obtain ⟨a0, g1, g2, g3, g4⟩ := hinv.good _ (List.getElem_mem hi)
    refine ⟨_, List.getElem?_eq_getElem hi, e1, e2, by omega, ?_⟩
    rcases g4 with g4 | ⟨b0, g5, g6, g7, _⟩ <;> rcases e3 with e3 | e3 <;> omega
  refine ⟨fun hi => ?_, ?_⟩
  · obtain ⟨a, k1, k2, k3, _, k4⟩ := old hi
    exact ⟨a, k1, k2, k3, k4⟩
  · by_cases hi : i < s.1.length
    · obtain ⟨a, _, _, _, k4, _⟩ := old hi
      exact ⟨fun _ => hi, fun _ => k4⟩
    · have := hext.new i b (by omega) hb
      exact ⟨fun h => by omega, fun h => absurd h hi⟩
/-! ### a history and what a crash leaves of it -/
structure CInv (xs : List Ev) (m k : Nat) (s : GS) : Prop where
  cover : ∀ t, later (xs.take k) t = true → (getL s.2 t).isSome = true
  early : ∀ (t : Int) (j : Nat) (o : Hop), getL s.2 t = some j → s.1[j]? = some o → (o.start < (m : Int) ↔ later (xs.take m) t = true)
  map : ∀ t j, getL s.2 t = some j → j < s.1.length
theorem later_take {xs : List Ev} {k : Nat} {x : Ev} {t : Int} (hx : xs[k]? = some x) : later (xs.take (k + 1)) t = (later (xs.take k) t || (x.call && decide (x.task = t))) := by
  unfold later; rw [take_snoc hx, List.any_append]; simp
theorem later_mono {xs : List Ev} {k m : Nat} {t : Int} (h : k ≤ m) (hl : later (xs.take k) t = true) : later (xs.take m) t = true := by
  unfold later at *
  rw [List.any_eq_true] at *
  obtain ⟨x, hx, h2⟩ := hl
  refine ⟨x, ?_, h2⟩
  rw [show xs.take k = (xs.take m).take k by rw [List.take_take, Nat.min_eq_left h]] at hx
  exact List.mem_of_mem_take hx
theorem CInv.step {xs : List Ev} {m k : Nat} {x : Ev} {s s' : GS} (hx : xs[k]? = some x) (h : CInv xs m k s) (hs : gstep k x s = some s') : CInv xs m (k + 1) s' := by
  rcases gstep_call hs with ⟨hc, hg, rfl⟩ | ⟨hc, j, o, hg, ho, hf, rfl⟩
  · refine ⟨fun t ht => ?_, fun t j o hj ho => ?_, fun t j hj => ?_⟩
    · rw [getL_setL]
      split
      · rfl
      · rename_i hne
        rw [later_take hx] at ht
        have : later (xs.take k) t = true := by simpa [hne] using ht
        exact h.cover t this
    · rw [getL_setL] at hj
      split at hj
      · rename_i e; subst e
        obtain rfl : s.1.length = j := by simpa using hj
        simp only [List.getElem?_append_right (Nat.le_refl _), Nat.sub_self, List.getElem?_cons_zero] at ho
        obtain rfl := Option.some.inj ho
        show ((k : Nat) : Int) < m ↔ _
        constructor
        · intro hk
          refine later_mono (k := k + 1) (by omega) ?_
          rw [later_take hx]; simp [hc]
        · intro hl
          by_cases hk : k < m
          · omega
          · have hl2 : later (xs.take k) x.task = true := later_mono (by omega) hl
            have := h.cover _ hl2
            rw [hg] at this; simp at this
      · have := h.map t j hj
        rw [List.getElem?_append_left this] at ho
        exact h.early t j o hj ho
    · rw [getL_setL] at hj
      split at hj
      · obtain rfl : s.1.length = j := by simpa using hj
        simp
      · have := h.map t j hj; simp; omega
  · refine ⟨fun t ht => ?_, fun t j' o' hj ho' => ?_, fun t j hj => by rw [List.length_set]; exact h.map t j hj⟩
    · rw [later_take hx] at ht
      exact h.cover t (by simpa [hc] using ht)
    · have hjl := (List.getElem?_eq_some_iff.1 ho).1
      by_cases e : j = j'
      · subst e
        rw [List.getElem?_set_self hjl] at ho'
        obtain rfl := Option.some.inj ho'
        exact h.early t j o hj ho
      · rw [List.getElem?_set_ne e] at ho'
        exact h.early t j' o' hj ho'
theorem gat_cinv {xs : List Ev} {m : Nat} : ∀ (k : Nat) (s : GS), k ≤ xs.length → gat (xs.take k) 0 ([], []) = some s → CInv xs m k s
  | 0, s, _, h => by
    obtain rfl : (([], []) : GS) = s := by simpa [gat] using h
    exact ⟨(fun t h => by simp [later] at h), (fun t j o h => by simp [getL] at h), (fun t j h => by simp [getL] at h)⟩
  | k + 1, s', hk, h => by
    obtain ⟨s, h1, h2⟩ := gat_pre (List.getElem?_eq_getElem hk) h
    exact (gat_cinv k s (by omega) h1).step (List.getElem?_eq_getElem hk) h2
structure Sim (m : Nat) (s t : GS) : Prop where
  map : s.2 = t.2
  len : s.1.length = t.1.length
  rel : ∀ (i : Nat) (a b : Hop), s.1[i]? = some a → t.1[i]? = some b → a.task = b.task ∧ (a.fin < 0 → b.fin < 0) ∧ (a.start < (m : Int) → (m : Int) ≤ a.fin → b.fin < 0) ∧ ((m : Int) ≤ a.start ∨ a.fin < (m : Int) → (a.fin < 0 ↔ b.fin < 0))
theorem sim {xs : List Ev} {m : Nat} : ∀ (es : List Ev) (k k' : Nat) (s t s' : GS), es = xs.drop k → m ≤ k → CInv xs m k s → Sim m s t → gat es k s = some s' → ∃ t', gat (es.filter fun x => !gone (xs.take m) x) k' t = some t' ∧ Sim m s' t'
  | [], k, k', s, t, s', _, _, _, hS, h => by
    obtain rfl : s = s' := by simpa [gat] using h
    exact ⟨t, rfl, hS⟩
  | x :: es, k, k', s, t, s', he, hk, hC, hS, h => by
    have hx : xs[k]? = some x := by
      have := congrArg (fun l => l[0]?) he
      simpa using this.symm
    have he' : es = xs.drop (k + 1) := by
      have := congrArg (fun l => l.drop 1) he
      simpa [List.drop_drop] using this
    simp only [gat, Option.bind_eq_some_iff] at h
    obtain ⟨s1, h1, h2⟩ := h
    have hC1 := hC.step hx h1
    rcases gstep_call h1 with ⟨hc, hg, rfl⟩ | ⟨hc, j, o, hg, ho, hf, rfl⟩
    · have hq : (!gone (xs.take m) x) = true := by simp [gone, hc]
      have ht : gstep k' x t = some (t.1 ++ [x.op k'], setL t.2 x.task t.1.length) := by
        unfold gstep; rw [← hS.map, hg]; simp [hc]
      have hS1 : Sim m (s.1 ++ [x.op k], setL s.2 x.task s.1.length) (t.1 ++ [x.op k'], setL t.2 x.task t.1.length) := by
        refine ⟨by simp only [hS.map, hS.len], by simp [hS.len], fun i a b ha hb => ?_⟩
        by_cases hi : i < s.1.length
        · rw [List.getElem?_append_left hi] at ha
          rw [List.getElem?_append_left (by rw [← hS.len]; exact hi)] at hb
          exact hS.rel i a b ha hb
        · simp only at ha hb
          rw [List.getElem?_append_right (by omega)] at ha
          rw [List.getElem?_append_right (by rw [← hS.len]; omega)] at hb
          have h0 : i - s.1.length = 0 := by have := (List.getElem?_eq_some_iff.1 ha).1; simp at this; omega
          rw [h0] at ha
          rw [← hS.len, h0] at hb
          obtain rfl : x.op k = a := by simpa using ha
          obtain rfl : x.op k' = b := by simpa using hb
          simp [Ev.op]
      obtain ⟨t', h3, h4⟩ := sim es (k + 1) (k' + 1) _ _ s' he' (by omega) hC1 hS1 h2
      refine ⟨t', ?_, h4⟩
      rw [List.filter_cons, if_pos hq]
      simp only [gat, ht, Option.bind_some]
      exact h3
    · have hjl := (List.getElem?_eq_some_iff.1 ho).1
      have hjt : j < t.1.length := by rw [← hS.len]; exact hjl
      have hbo : t.1[j]? = some t.1[j] := List.getElem?_eq_getElem hjt
      obtain ⟨r1, r2, r3, r4⟩ := hS.rel j o _ ho hbo
      have hea := hC.early x.task j o hg ho
      by_cases hl : later (xs.take m) x.task = true
      · have hq : ¬ (!gone (xs.take m) x) = true := by simp [gone, hc, hl]
        have hst := hea.2 hl
        have hS1 : Sim m (s.1.set j (o.done x k), s.2) t := by
          refine ⟨hS.map, by simp [hS.len], fun i a b ha hb => ?_⟩
          by_cases e : j = i
          · subst e
            simp only at ha
            rw [List.getElem?_set_self hjl] at ha
            obtain rfl := Option.some.inj ha
            rw [hbo] at hb
            obtain rfl := Option.some.inj hb
            refine ⟨r1, fun h => ?_, fun _ _ => r2 hf, fun h => ?_⟩
            · simp [Hop.done] at h; omega
            · simp only [Hop.done] at h; omega
          · simp only at ha
            rw [List.getElem?_set_ne e] at ha
            exact hS.rel i a b ha hb
        obtain ⟨t', h3, h4⟩ := sim es (k + 1) k' _ _ s' he' (by omega) hC1 hS1 h2
        refine ⟨t', ?_, h4⟩
        rw [List.filter_cons, if_neg hq]
        exact h3
      · have hq : (!gone (xs.take m) x) = true := by simp [gone, hc, hl]
        have hst : ¬ o.start < (m : Int) := fun h => hl (hea.1 h)
        have ht : gstep k' x t = some (t.1.set j (t.1[j].done x k'), t.2) := by
          have hnf : ¬ 0 ≤ t.1[j].fin := by have := r2 hf; omega
          unfold gstep
          rw [← hS.map, hg]
          simp only [hc, hbo, hnf, if_false, Bool.false_eq_true]
        have hS1 : Sim m (s.1.set j (o.done x k), s.2) (t.1.set j (t.1[j].done x k'), t.2) := by
          refine ⟨hS.map, by simp [hS.len], fun i a b ha hb => ?_⟩
          by_cases e : j = i
          · subst e
            simp only at ha hb
            rw [List.getElem?_set_self hjl] at ha
            rw [List.getElem?_set_self hjt] at hb
            obtain rfl := Option.some.inj ha
            obtain rfl := Option.some.inj hb
            simp only [Hop.done]
            exact ⟨r1, (fun h => by omega), (fun h => absurd h hst), (fun _ => by omega)⟩
          · simp only at ha hb
            rw [List.getElem?_set_ne e] at ha hb
            exact hS.rel i a b ha hb
        obtain ⟨t', h3, h4⟩ := sim es (k + 1) (k' + 1) _ _ s' he' (by omega) hC1 hS1 h2
        refine ⟨t', ?_, h4⟩
        rw [List.filter_cons, if_pos hq]
        simp only [gat, ht, Option.bind_some]
        exact h3
theorem crashes {xs : List Ev} {m : Nat} (hm : m ≤ xs.length) (h : (gather xs).isSome = true) : (gather (crash xs m)).isSome = true ∧ (opsOf (crash xs m)).length = (opsOf xs).length ∧
    ∀ (i : Nat) (a b : Hop), (opsOf xs)[i]? = some a → (opsOf (crash xs m))[i]? = some b → a.task = b.task ∧ (a.start < (m : Int) → (m : Int) ≤ a.fin → b.fin < 0) ∧ ((m : Int) ≤ a.start ∨ a.fin < (m : Int) → (a.fin < 0 ↔ b.fin < 0)) := by
  obtain ⟨mm, hx⟩ := gather_some h
  obtain ⟨s, hs⟩ := gat_take hx m
  have hinv := gat_inv m s hm hs
  have hl : (xs.take m).length = m := by rw [List.length_take]; omega
  have hx2 : gat (xs.drop m) m s = some (opsOf xs, mm) := by
    rw [← List.take_append_drop m xs, gat_append, hs, hl, Nat.zero_add, List.take_append_drop] at hx
    exact hx
  have hS : Sim m s s := ⟨rfl, rfl, fun i a b ha hb => by
    rw [ha] at hb; obtain rfl := Option.some.inj hb
    obtain ⟨a0, _, _, _, h4⟩ := hinv.good a (List.mem_of_getElem? ha)
    refine ⟨rfl, fun h => h, fun _ h => ?_, fun _ => Iff.rfl⟩
    rcases h4 with h4 | ⟨b0, h5, _, h7, _⟩ <;> omega⟩
  obtain ⟨t', h3, h4⟩ := sim (xs.drop m) m m s s _ rfl (Nat.le_refl _) (gat_cinv m s hm hs) hS hx2
  have hz : gat (crash xs m) 0 ([], []) = some t' := by
    unfold crash
    rw [gat_append, hs, hl, Nat.zero_add]
    exact h3
  obtain ⟨g1, g2⟩ := gather_of hz
  refine ⟨g1, by rw [g2]; exact h4.len.symm, fun i a b ha hb => ?_⟩
  rw [g2] at hb
  obtain ⟨r1, _, r3, r4⟩ := h4.rel i a b ha hb
  exact ⟨r1, r3, r4⟩
theorem crash_len (xs : List Ev) (m : Nat) : (crash xs m).length ≤ xs.length := by
  unfold crash
  rw [List.length_append]
  have h1 := List.length_filter_le (fun x => !gone (xs.take m) x) (xs.drop m)
  have h2 : (xs.take m).length + (xs.drop m).length = xs.length := by rw [← List.length_append, List.take_append_drop]
  omega
end Go.Hist
