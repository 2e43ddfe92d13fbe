/- Where volumes lie: in plain words. -/
import Derived.Test.YtmhdjmbckgamlaaSLMark
namespace Go.Place
open Go Go.SL
abbrev ic (x : Int) : List Value := [.int .i64 x]
theorem ic_len (x : Int) : (ic x).length = 1 := rfl
theorem ics_one (xs : List Int) : (xs.flatMap ic).all Value.oneCell' = true := by
  rw [List.all_flatMap, List.all_eq_true]; intro x _; rfl
theorem drop_cons {α : Type} {xs : List α} {k : Nat} {x : α} (hx : xs[k]? = some x) : xs.drop k = x :: xs.drop (k + 1) := by
  have hi := (List.getElem?_eq_some_iff.1 hx).1
  rw [List.drop_eq_getElem_cons hi, (List.getElem?_eq_some_iff.1 hx).2]
theorem take_snoc {α : Type} {xs : List α} {k : Nat} {x : α} (hx : xs[k]? = some x) : xs.take (k + 1) = xs.take k ++ [x] := by rw [List.take_add_one, hx]; rfl
/-! ### live disks' numbers -/
def areFrom (last : Int) : List Int → Bool
  | [] => true
  | d :: t => decide (last < d) && decide (d < 12) && areFrom d t
def areL (xs : List Int) : Bool := areFrom (-1) xs
theorem are_go {last x : Int} {t : List Int} (h1 : last < x) (h2 : x < 12) : areFrom last (x :: t) = areFrom x t := by simp [areFrom, h1, h2]
theorem are_stop {last x : Int} {t : List Int} (h : ¬ (last < x ∧ x < 12)) : areFrom last (x :: t) = false := by
  unfold areFrom
  by_cases h1 : last < x
  · have : ¬ x < 12 := fun h2 => h ⟨h1, h2⟩
    simp [this]
  · simp [h1]
def prev (xs : List Int) (i : Nat) : Int := if i = 0 then -1 else (xs[i - 1]?).getD 0
theorem prev_succ {xs : List Int} {i : Nat} {x : Int} (hx : xs[i]? = some x) : prev xs (i + 1) = x := by
  unfold prev; rw [if_neg (by omega), Nat.add_sub_cancel, hx]; rfl
theorem prev_get {xs : List Int} {i : Nat} {y : Int} (h0 : 0 < i) (hy : xs[i - 1]? = some y) : prev xs i = y := by
  unfold prev; rw [if_neg (by omega), hy]; rfl
/-! ### going round -/
def rotAt (xs : List Int) (f i : Nat) : Int := (xs[(f + i) % xs.length]?).getD 0
def rotL (xs : List Int) (f : Nat) (m : Nat) : List Int := (List.range m).map (rotAt xs f)
theorem rotL_len (xs : List Int) (f m : Nat) : (rotL xs f m).length = m := by simp [rotL]
theorem rotL_succ {xs : List Int} {f m : Nat} {x : Int} (hx : xs[(f + m) % xs.length]? = some x) : rotL xs f (m + 1) = rotL xs f m ++ [x] := by
  unfold rotL
  rw [List.range_succ, List.map_append]
  simp [rotAt, hx]
theorem rotL_get {xs : List Int} {f m i : Nat} (hi : i < m) : (rotL xs f m)[i]? = some (rotAt xs f i) := by
  unfold rotL
  rw [List.getElem?_map, List.getElem?_range hi]; rfl
theorem rot_some {xs : List Int} {f i : Nat} (h : 0 < xs.length) : ∃ x, xs[(f + i) % xs.length]? = some x := ⟨_, List.getElem?_eq_getElem (Nat.mod_lt _ h)⟩
def badC (id gen : Int) (xs : List Int) : Bool := decide (id < 0) || decide (1099511627776 < id) || decide (gen < 0) || decide (1099511627776 < gen) || !areL xs
def chooseE (id gen : Int) (xs : List Int) : Int := if badC id gen xs = true then 1 else if xs.length < 9 then 2 else 0
def chooseL (id gen : Int) (xs : List Int) : List Int := if badC id gen xs = true then [] else if xs.length < 9 then [] else rotL xs (5 * id + 7 * gen).toNat 9
theorem chooseL_le (id gen : Int) (xs : List Int) : (chooseL id gen xs).length ≤ 9 := by unfold chooseL; split; simp; split; simp; rw [rotL_len]; exact Nat.le_refl _
def badI (id : Int) (xs : List Int) : Bool := decide (id < 0) || decide (1099511627776 < id) || !areL xs
def insteadR (used xs : List Int) (id : Int) : Int × Int := if badI id xs = true then (0, 1) else match (rotL xs id.toNat xs.length).find? (fun d => !decide (d ∈ used)) with | some d => (d, 0) | none => (0, 2)
theorem find_step {used xs : List Int} {f i : Nat} {x : Int} (hx : xs[(f + i) % xs.length]? = some x) (h : (rotL xs f i).find? (fun d => !decide (d ∈ used)) = none) (hu : x ∈ used) : (rotL xs f (i + 1)).find? (fun d => !decide (d ∈ used)) = none := by
  rw [rotL_succ hx, List.find?_append, h]; simp [hu]
theorem rotL_take {xs : List Int} {f m n : Nat} (h : m ≤ n) : (rotL xs f n).take m = rotL xs f m := by
  unfold rotL
  rw [← List.map_take, List.take_range, Nat.min_eq_left h]
theorem find_at {used xs : List Int} {f i n : Nat} {x : Int} (hi : i < n) (hx : xs[(f + i) % xs.length]? = some x) (h : (rotL xs f i).find? (fun d => !decide (d ∈ used)) = none) (hu : x ∉ used) : (rotL xs f n).find? (fun d => !decide (d ∈ used)) = some x := by
  have e : rotL xs f n = rotL xs f (i + 1) ++ (rotL xs f n).drop (i + 1) := by
    rw [← rotL_take (xs := xs) (f := f) (m := i + 1) (n := n) (by omega), List.take_append_drop]
  rw [e, List.find?_append, rotL_succ hx, List.find?_append, h]; simp [hu]
/-! ### loads -/
structure Loc where
  disk : Int
  slot : Int
def Loc.cells (x : Loc) : List Value := [.int .i64 x.disk, .int .i64 x.slot]
theorem Loc.cells_len (x : Loc) : x.cells.length = 2 := rfl
structure Vol where
  id : Int
  gen : Int
  size : Int
  lA : Option Addr
  ln : Nat
  lc : Nat
def Vol.cells (x : Vol) : List Value := [.int .i64 x.id, .int .i64 x.gen, .int .i64 x.size, .slice x.lA x.ln x.lc]
theorem Vol.cells_len (x : Vol) : x.cells.length = 4 := rfl
theorem vols_one (xs : List Vol) : (xs.flatMap Vol.cells).all Value.oneCell' = true := by
  rw [List.all_flatMap, List.all_eq_true]; intro x _; rfl
theorem locs_one (xs : List Loc) : (xs.flatMap Loc.cells).all Value.oneCell' = true := by
  rw [List.all_flatMap, List.all_eq_true]; intro x _; rfl
def Small (n : Nat) : Prop := n * 16 ≤ 140737488355328
def Vr (w : World) (x : Vol) (ls : List Loc) : Prop := SlR w 45 2 Loc.cells x.lA x.ln ls ∧ Small x.ln
theorem Vr.keep {w w' : World} {Is : List Itm} (hw : St w Emp Is w') (x : Vol) (ls : List Loc) (h : Vr w x ls) : Vr w' x ls := ⟨h.1.keepSt hw, h.2⟩
def bump (ld : List Int) (d : Int) : List Int := if 0 ≤ d ∧ d < 12 then ld.set d.toNat ((ld[d.toNat]?).getD 0 + 1) else ld
def zero12 : List Int := List.replicate 12 0
def bumps (ld : List Int) (ls : List Loc) : List Int := ls.foldl (fun l x => bump l x.disk) ld
def loadL (vs : List (List Loc)) : List Int := vs.foldl bumps zero12
theorem bump_len (ld : List Int) (d : Int) : (bump ld d).length = ld.length := by unfold bump; split <;> simp
theorem bumps_len (ls : List Loc) : ∀ ld : List Int, (bumps ld ls).length = ld.length := by
  unfold bumps
  induction ls with
  | nil => intro ld; rfl
  | cons a t ih => intro ld; simp only [List.foldl_cons]; rw [ih, bump_len]
theorem foldl_snoc {α β : Type} {f : β → α → β} {b : β} {xs : List α} {k : Nat} {x : α} (hx : xs[k]? = some x) : (xs.take (k + 1)).foldl f b = f ((xs.take k).foldl f b) x := by
  rw [take_snoc hx, List.foldl_append]; rfl
/-- No count has passed n. -/
def Bd (ld : List Int) (n : Nat) : Prop := ld.length = 12 ∧ ∀ (i : Nat) (x : Int), ld[i]? = some x → 0 ≤ x ∧ x ≤ n
theorem Bd.bump {ld : List Int} {n : Nat} (h : Bd ld n) (d : Int) : Bd (bump ld d) (n + 1) := by
  refine ⟨by rw [bump_len]; exact h.1, fun i x hx => ?_⟩
  unfold Place.bump at hx
  split at hx
  · rename_i hd
    rw [List.getElem?_set] at hx
    split at hx
    · split at hx
      · have hlt : d.toNat < ld.length := by omega
        have := h.2 d.toNat ld[d.toNat] (List.getElem?_eq_getElem hlt)
        rw [List.getElem?_eq_getElem hlt] at hx
        simp only [Option.getD_some, Option.some.injEq] at hx
        omega
      · cases hx
    · have := h.2 i x hx; omega
  · have := h.2 i x hx; omega
theorem Bd.up {ld : List Int} {n m : Nat} (h : Bd ld n) (hm : n ≤ m) : Bd ld m := ⟨h.1, fun i x hx => by have := h.2 i x hx; omega⟩
theorem Bd.zero : Bd zero12 0 := ⟨rfl, fun i x hx => by
  unfold zero12 at hx
  rw [List.getElem?_replicate] at hx
  split at hx
  · simp at hx; omega
  · cases hx⟩
/-- A variable that has a slice of numbers. -/
def chI (b : Nat) (xs : List Int) : Itm := Any fun sl : Value => [blk b (.cells #[sl] 22 (0, 0)), own sl 3 1 xs.length (xs.flatMap ic)]
theorem jk_ch_open {X : Cx} {K : Act → World → Prop} {e : Env} {Is Is' : List Itm} {b : Nat} {xs : List Int} (hp : Pk (chI b xs) Is Is') (h : ∀ sl, Jk X K e (blk b (.cells #[sl] 22 (0, 0)) :: own sl 3 1 xs.length (xs.flatMap ic) :: Is')) : Jk X K e Is := jk_any_open hp h
theorem ch_mk {w0 w : World} {M : Nat → Prop} {Is : List Itm} {b : Nat} {xs : List Int} {sl : Value} (h : St w0 M (blk b (.cells #[sl] 22 (0, 0)) :: own sl 3 1 xs.length (xs.flatMap ic) :: Is) w) : St w0 M (chI b xs :: Is) w := St.any_mk sl h
/-! ### most and least -/
def at12 (ld : List Int) (d : Int) : Int := (ld[d.toNat]?).getD 0
def pickMax (ld : List Int) (m d : Int) : Int := if 0 < at12 ld d - at12 ld m then d else m
def pickMin (ld : List Int) (m d : Int) : Int := if at12 ld d - at12 ld m < 0 then d else m
def foldK (f : Int → Int → Int) (xs : List Int) (k : Nat) : Int := ((xs.take k).drop 1).foldl f ((xs[0]?).getD 0)
theorem foldK_one (f : Int → Int → Int) (xs : List Int) {x : Int} (hx : xs[0]? = some x) : foldK f xs 1 = x := by
  unfold foldK
  rw [List.drop_eq_nil_of_le (by rw [List.length_take]; omega), hx]; rfl
theorem foldK_step (f : Int → Int → Int) {xs : List Int} {k : Nat} {x : Int} (h1 : 1 ≤ k) (hx : xs[k]? = some x) : foldK f xs (k + 1) = f (foldK f xs k) x := by
  have hl := (List.getElem?_eq_some_iff.1 hx).1
  unfold foldK
  rw [take_snoc hx, List.drop_append_of_le_length (by rw [List.length_take]; omega), List.foldl_append]; rfl
def evenR (ld : List Int) (xs : List Int) : Int × Int × Bool :=
  if xs = [] ∨ areL xs = false then (0, 0, false) else
    (foldK (pickMax ld) xs xs.length, foldK (pickMin ld) xs xs.length, decide (at12 ld (foldK (pickMin ld) xs xs.length) + 2 ≤ at12 ld (foldK (pickMax ld) xs xs.length)))
theorem areFrom_mem : ∀ {xs : List Int} {last : Int}, areFrom last xs = true → ∀ x ∈ xs, last < x ∧ x < 12
  | [], _, _, x, hx => by cases hx
  | d :: t, last, h, x, hx => by
    simp only [areFrom, Bool.and_eq_true, decide_eq_true_eq] at h
    rcases List.mem_cons.1 hx with rfl | hx
    · exact h.1
    · have := areFrom_mem h.2 x hx; omega
theorem are_mem {xs : List Int} (h : areL xs = true) {i : Nat} {x : Int} (hx : xs[i]? = some x) : 0 ≤ x ∧ x < 12 := by
  have := areFrom_mem h x (List.mem_of_getElem? hx); omega
theorem at12_get {ld : List Int} {a : Nat} {y : Int} (hy : ld[a]? = some y) : at12 ld (a : Int) = y := by
  unfold at12; rw [Int.toNat_natCast, hy]; rfl
theorem Bd.get {ld : List Int} {n : Nat} (h : Bd ld n) {i : Nat} (hi : i < 12) : ∃ y, ld[i]? = some y ∧ 0 ≤ y ∧ y ≤ n := by
  have hl : i < ld.length := by rw [h.1]; exact hi
  exact ⟨ld[i], List.getElem?_eq_getElem hl, h.2 i _ (List.getElem?_eq_getElem hl)⟩
theorem bump_in {ld : List Int} {d y : Int} (h : 0 ≤ d ∧ d < 12) (hy : ld[d.toNat]? = some y) : bump ld d = ld.set d.toNat (y + 1) := by
  unfold bump; rw [if_pos h, hy]; rfl
theorem bump_out {ld : List Int} {d : Int} (h : ¬ (0 ≤ d ∧ d < 12)) : bump ld d = ld := by unfold bump; rw [if_neg h]
theorem bumps_snoc {ld : List Int} {ls : List Loc} {k : Nat} {x : Loc} (hx : ls[k]? = some x) : bumps ld (ls.take (k + 1)) = bump (bumps ld (ls.take k)) x.disk := foldl_snoc hx
theorem loads_snoc {lss : List (List Loc)} {k : Nat} {x : List Loc} (hx : lss[k]? = some x) : loadL (lss.take (k + 1)) = bumps (loadL (lss.take k)) x := foldl_snoc hx
theorem Bd.bumps {n : Nat} : ∀ (ls : List Loc) {ld : List Int}, Bd ld n → Bd (bumps ld ls) (n + ls.length)
  | [], ld, h => h
  | a :: t, ld, h => by
    have := Bd.bumps (n := n + 1) t (h.bump a.disk)
    unfold Place.bumps at *
    rw [List.foldl_cons, List.length_cons]
    rw [show n + (t.length + 1) = n + 1 + t.length by omega]; exact this
theorem Bd.loads {B : Nat} {lss : List (List Loc)} (hb : ∀ ls ∈ lss, ls.length ≤ B) : Bd (loadL lss) (lss.length * B) := by
  have key : ∀ (lss : List (List Loc)) (ld : List Int) (n : Nat), (∀ ls ∈ lss, ls.length ≤ B) → Bd ld n → Bd (lss.foldl Place.bumps ld) (n + lss.length * B) := by
    intro lss
    induction lss with
    | nil => intro ld n _ h; simpa using h
    | cons a t ih =>
      intro ld n hb h
      have h1 := ih (Place.bumps ld a) (n + a.length) (fun ls hl => hb ls (List.mem_cons_of_mem _ hl)) (h.bumps a)
      have h2 := hb a (by simp)
      rw [List.foldl_cons, List.length_cons]
      exact h1.up (by rw [Nat.add_mul]; omega)
  have := key lss zero12 0 hb Bd.zero
  rw [Nat.zero_add] at this
  exact this
theorem foldl_keep {f : Int → Int → Int} {P : Int → Prop} (hf : ∀ m d, f m d = m ∨ f m d = d) : ∀ (l : List Int) (a : Int), P a → (∀ x ∈ l, P x) → P (l.foldl f a)
  | [], a, h, _ => h
  | x :: t, a, h, hl => foldl_keep hf t (f a x) (by rcases hf a x with e | e <;> rw [e]; exact h; exact hl x (by simp)) (fun y hy => hl y (List.mem_cons_of_mem _ hy))
theorem foldK_in {f : Int → Int → Int} (hf : ∀ m d, f m d = m ∨ f m d = d) {xs : List Int} (h1 : 0 < xs.length) (hx : ∀ (i : Nat) (x : Int), xs[i]? = some x → 0 ≤ x ∧ x < 12) : ∃ m : Nat, foldK f xs xs.length = (m : Int) ∧ m < 12 := by
  have := foldl_keep (P := fun x => 0 ≤ x ∧ x < 12) hf ((xs.take xs.length).drop 1) ((xs[0]?).getD 0) (by rw [List.getElem?_eq_getElem h1]; exact hx 0 _ (List.getElem?_eq_getElem h1)) (fun y hy => by
    obtain ⟨i, hi⟩ := List.getElem?_of_mem hy
    rw [List.getElem?_drop, List.take_length] at hi
    exact hx _ _ hi)
  refine ⟨(foldK f xs xs.length).toNat, ?_, ?_⟩
  · exact (Int.toNat_of_nonneg this.1).symm
  · have h2 : 0 ≤ foldK f xs xs.length := this.1
    have h3 : foldK f xs xs.length < 12 := this.2
    omega
theorem pickMax_or (ld : List Int) (m d : Int) : pickMax ld m d = m ∨ pickMax ld m d = d := by unfold pickMax; split <;> simp
theorem pickMin_or (ld : List Int) (m d : Int) : pickMin ld m d = m ∨ pickMin ld m d = d := by unfold pickMin; split <;> simp
theorem le_sum {lss : List (List Loc)} {ls : List Loc} (h : ls ∈ lss) : ls.length ≤ lss.foldr (fun l n => l.length + n) 0 := by
  induction lss with
  | nil => cases h
  | cons a t ih =>
    rw [List.foldr_cons]
    rcases List.mem_cons.1 h with rfl | h
    · omega
    · have := ih h; omega
def Vf (w0 : World) (M : Nat → Prop) (fs : List (Nat × Obj)) (x : Vol) (ls : List Loc) : Prop := SlF w0 M fs 2 Loc.cells x.lA x.ln ls ∧ Small x.ln
theorem Vf.more {w0 : World} {M : Nat → Prop} {fs fs' : List (Nat × Obj)} (hs : ∀ b o, getL fs b = some o → getL fs' b = some o) (x : Vol) (r : List Loc) (h : Vf w0 M fs x r) : Vf w0 M fs' x r := ⟨h.1.more hs, h.2⟩
theorem Vf.vr {w0 w : World} {M : Nat → Prop} {fs : List (Nat × Obj)} {Is Is' : List Itm} (hw : St w0 M Is w) (hp : Pk (bunch fs) Is Is') (x : Vol) (r : List Loc) (h : Vf w0 M fs x r) : Vr w x r := ⟨h.1.slr hw hp, h.2⟩
theorem small_of {n : Nat} (h : n ≤ 1000000) : Small n := by unfold Small; omega
end Go.Place
