/- What a shard that goes to another disk does to the loads. -/
import Derived.Test.YtmhdjmbckgamlaaPlDefs
namespace Go.Place
open Go Go.SL
def cD (d : Int) (ls : List Loc) : Nat := ls.countP (fun x => decide (x.disk = d))
def cT (d : Int) (lss : List (List Loc)) : Nat := lss.foldl (fun n ls => n + cD d ls) 0
theorem cD_snoc (d : Int) (ls : List Loc) (x : Loc) : cD d (ls ++ [x]) = cD d ls + if x.disk = d then 1 else 0 := by
  unfold cD; rw [List.countP_append]
  by_cases h : x.disk = d <;> simp [h]
theorem cT_snoc (d : Int) (lss : List (List Loc)) (ls : List Loc) : cT d (lss ++ [ls]) = cT d lss + cD d ls := by
  unfold cT; rw [List.foldl_append]; rfl
theorem at12_bump {ld : List Int} (hl : ld.length = 12) {d e : Int} (hd : 0 ≤ d ∧ d < 12) : at12 (bump ld e) d = at12 ld d + if e = d then 1 else 0 := by
  unfold bump
  split
  · rename_i he
    unfold at12
    rw [List.getElem?_set]
    by_cases h : e = d
    · subst h
      rw [if_pos rfl, if_pos (by omega), if_pos rfl]; rfl
    · rw [if_neg (by omega), if_neg h]; simp
  · rename_i he
    rw [if_neg (fun h : e = d => he (by rw [h]; exact hd))]; simp
theorem at12_bumps {d : Int} (hd : 0 ≤ d ∧ d < 12) : ∀ (ls : List Loc) {ld : List Int}, ld.length = 12 → at12 (bumps ld ls) d = at12 ld d + cD d ls
  | [], ld, _ => by simp [bumps, cD]
  | a :: t, ld, hl => by
    have ih := at12_bumps hd t (ld := bump ld a.disk) (by rw [bump_len]; exact hl)
    unfold bumps at *
    rw [List.foldl_cons, ih, at12_bump hl hd]
    unfold cD
    rw [List.countP_cons]
    by_cases h : a.disk = d <;> simp [h] <;> omega
theorem at12_load {d : Int} (hd : 0 ≤ d ∧ d < 12) (lss : List (List Loc)) : at12 (loadL lss) d = cT d lss := by
  have key : ∀ (lss : List (List Loc)) (ld : List Int) (n : Nat), ld.length = 12 → at12 ld d = n → at12 (lss.foldl bumps ld) d = lss.foldl (fun n ls => n + cD d ls) n := by
    intro lss
    induction lss with
    | nil => intro ld n _ h; simpa using h
    | cons a t ih =>
      intro ld n hl h
      rw [List.foldl_cons, List.foldl_cons]
      exact ih _ _ (by rw [bumps_len]; exact hl) (by rw [at12_bumps hd a hl, h]; omega)
  have h0 : at12 zero12 d = ((0 : Nat) : Int) := by
    unfold at12 zero12
    rw [List.getElem?_replicate, if_pos (by omega)]; rfl
  exact key lss zero12 0 rfl h0
section
variable (mo le : Int)
def mvStep (s : List Loc × Bool) (x : Loc) : List Loc × Bool := if s.2 = false ∧ x.disk = mo then (s.1 ++ [⟨le, x.slot⟩], true) else (s.1 ++ [x], s.2)
def mvLs (mv : Bool) (ls : List Loc) : List Loc × Bool := ls.foldl (mvStep mo le) ([], mv)
def mvAll (s : List (List Loc) × Bool) (ls : List Loc) : List (List Loc) × Bool := (s.1 ++ [(mvLs mo le s.2 ls).1], (mvLs mo le s.2 ls).2)
def mvTot (lss : List (List Loc)) : List (List Loc) × Bool := lss.foldl (mvAll mo le) ([], false)
end
variable {mo le : Int}
theorem mvLs_snoc {mv : Bool} {ls : List Loc} {k : Nat} {x : Loc} (hx : ls[k]? = some x) : mvLs mo le mv (ls.take (k + 1)) = mvStep mo le (mvLs mo le mv (ls.take k)) x := foldl_snoc hx
theorem mvTot_snoc {lss : List (List Loc)} {k : Nat} {ls : List Loc} (hx : lss[k]? = some ls) : mvTot mo le (lss.take (k + 1)) = mvAll mo le (mvTot mo le (lss.take k)) ls := foldl_snoc hx
theorem mvStep_pos {s : List Loc × Bool} {x : Loc} (h1 : s.2 = false) (h2 : x.disk = mo) : mvStep mo le s x = (s.1 ++ [⟨le, x.slot⟩], true) := by unfold mvStep; rw [if_pos ⟨h1, h2⟩]
theorem mvStep_neg {s : List Loc × Bool} {x : Loc} (h : ¬ (s.2 = false ∧ x.disk = mo)) : mvStep mo le s x = (s.1 ++ [x], s.2) := by unfold mvStep; rw [if_neg h]
theorem mvLs_true (ls : List Loc) : mvLs mo le true ls = (ls, true) := by
  have : ∀ (ls p : List Loc), ls.foldl (mvStep mo le) (p, true) = (p ++ ls, true) := by
    intro ls
    induction ls with
    | nil => intro p; simp
    | cons a t ih => intro p; rw [List.foldl_cons, mvStep_neg (by simp), ih]; simp
  have := this ls []
  simpa [mvLs] using this
theorem mvLs_false (hne : mo ≠ le) (ls : List Loc) : (mvLs mo le false ls = (ls, false) ∧ cD mo ls = 0) ∨ ((mvLs mo le false ls).2 = true ∧ cD mo (mvLs mo le false ls).1 + 1 = cD mo ls ∧ cD le (mvLs mo le false ls).1 = cD le ls + 1) := by
  have key : ∀ k, k ≤ ls.length → (mvLs mo le false (ls.take k) = (ls.take k, false) ∧ cD mo (ls.take k) = 0) ∨ ((mvLs mo le false (ls.take k)).2 = true ∧ cD mo (mvLs mo le false (ls.take k)).1 + 1 = cD mo (ls.take k) ∧ cD le (mvLs mo le false (ls.take k)).1 = cD le (ls.take k) + 1) := by
    intro k
    induction k with
    | zero => intro _; left; exact ⟨rfl, rfl⟩
    | succ k ih =>
      intro hk
      have hx : ls[k]? = some ls[k] := List.getElem?_eq_getElem (by omega)
      rcases ih (by omega) with ⟨h1, h2⟩ | ⟨h1, h2, h3⟩
      · by_cases hd : ls[k].disk = mo
        · right
          rw [mvLs_snoc hx, h1, mvStep_pos rfl hd, take_snoc hx]
          have hle : ¬ mo = le := hne
          refine ⟨rfl, ?_, ?_⟩
          · rw [cD_snoc, cD_snoc, if_neg (Ne.symm hne), if_pos hd]
          · rw [cD_snoc, cD_snoc, if_pos rfl, if_neg (by rw [hd]; exact hne)]
        · left
          rw [mvLs_snoc hx, h1, mvStep_neg (by simp [hd]), take_snoc hx]
          exact ⟨rfl, by rw [cD_snoc, if_neg hd, h2]⟩
      · right
        rw [mvLs_snoc hx, mvStep_neg (by rw [h1]; simp), take_snoc hx]
        refine ⟨h1, ?_, ?_⟩
        · rw [cD_snoc, cD_snoc]; omega
        · rw [cD_snoc, cD_snoc]; omega
  have := key ls.length (Nat.le_refl _)
  rwa [List.take_length] at this
theorem mvTot_all (hne : mo ≠ le) (lss : List (List Loc)) : (mvTot mo le lss = (lss, false) ∧ cT mo lss = 0) ∨ ((mvTot mo le lss).2 = true ∧ cT mo (mvTot mo le lss).1 + 1 = cT mo lss ∧ cT le (mvTot mo le lss).1 = cT le lss + 1) := by
  have key : ∀ k, k ≤ lss.length → (mvTot mo le (lss.take k) = (lss.take k, false) ∧ cT mo (lss.take k) = 0) ∨ ((mvTot mo le (lss.take k)).2 = true ∧ cT mo (mvTot mo le (lss.take k)).1 + 1 = cT mo (lss.take k) ∧ cT le (mvTot mo le (lss.take k)).1 = cT le (lss.take k) + 1) := by
    intro k
    induction k with
    | zero => intro _; left; exact ⟨rfl, rfl⟩
    | succ k ih =>
      intro hk
      have hx : lss[k]? = some lss[k] := List.getElem?_eq_getElem (by omega)
      rcases ih (by omega) with ⟨h1, h2⟩ | ⟨h1, h2, h3⟩
      · rcases mvLs_false hne lss[k] with ⟨g1, g2⟩ | ⟨g1, g2, g3⟩
        · left
          have e : mvAll mo le (lss.take k, false) lss[k] = (lss.take k ++ [lss[k]], false) := by unfold mvAll; rw [g1]
          rw [mvTot_snoc hx, h1, take_snoc hx, e]
          exact ⟨rfl, by rw [cT_snoc, h2, g2]⟩
        · right
          rw [mvTot_snoc hx, h1, take_snoc hx]
          unfold mvAll
          simp only
          refine ⟨g1, ?_, ?_⟩
          · rw [cT_snoc, cT_snoc]; omega
          · rw [cT_snoc, cT_snoc]; omega
      · right
        rw [mvTot_snoc hx, take_snoc hx]
        unfold mvAll
        simp only [h1, mvLs_true]
        refine ⟨trivial, ?_, ?_⟩
        · rw [cT_snoc, cT_snoc]; omega
        · rw [cT_snoc, cT_snoc]; omega
  have := key lss.length (Nat.le_refl _)
  rwa [List.take_length] at this
theorem uneven_get {ld xs : List Int} (h : (evenR ld xs).2.2 = true) : ∃ mo le : Nat, (evenR ld xs).1 = (mo : Int) ∧ (evenR ld xs).2.1 = (le : Int) ∧ mo < 12 ∧ le < 12 ∧ at12 ld (le : Int) + 2 ≤ at12 ld (mo : Int) := by
  unfold evenR at h ⊢
  split at h
  · simp at h
  · rename_i hne
    rw [if_neg hne]
    have hne' : xs ≠ [] ∧ areL xs = true := by
      refine ⟨fun e => hne (.inl e), ?_⟩
      cases ha : areL xs with
      | true => rfl
      | false => exact absurd (.inr ha) hne
    have hx12 : ∀ (i : Nat) (x : Int), xs[i]? = some x → 0 ≤ x ∧ x < 12 := fun i x hx => are_mem hne'.2 hx
    have hpos : 0 < xs.length := List.length_pos_iff.2 hne'.1
    obtain ⟨mo, h1, h2⟩ := foldK_in (f := pickMax ld) (pickMax_or _) hpos hx12
    obtain ⟨le, h3, h4⟩ := foldK_in (f := pickMin ld) (pickMin_or _) hpos hx12
    refine ⟨mo, le, h1, h3, h2, h4, ?_⟩
    have := of_decide_eq_true h
    rwa [h1, h3] at this
/-- The loads behind the move. -/
theorem moved_loads {lss : List (List Loc)} {mo le : Nat} (hmo : mo < 12) (hle : le < 12) (h : at12 (loadL lss) (le : Int) + 2 ≤ at12 (loadL lss) (mo : Int)) :
    (mvTot (mo : Int) (le : Int) lss).2 = true ∧ at12 (loadL (mvTot (mo : Int) (le : Int) lss).1) (mo : Int) = at12 (loadL lss) (mo : Int) - 1 ∧ at12 (loadL (mvTot (mo : Int) (le : Int) lss).1) (le : Int) = at12 (loadL lss) (le : Int) + 1 := by
  have hm : 0 ≤ (mo : Int) ∧ (mo : Int) < 12 := by omega
  have hl : 0 ≤ (le : Int) ∧ (le : Int) < 12 := by omega
  rw [at12_load hm, at12_load hl, at12_load hm, at12_load hl] at *
  have hne : (mo : Int) ≠ (le : Int) := fun e => by rw [e] at h; omega
  rcases mvTot_all hne lss with ⟨_, h2⟩ | ⟨h1, h2, h3⟩
  · omega
  · exact ⟨h1, by omega, by omega⟩
end Go.Place
