/- Events and ops of histories as the cells of memory have them. -/
import Derived.Test.YtcjhahjjeicmoaaSLMore
namespace Go.Hist
open Go
structure Ev where
  task : Int
  call : Bool
  kind : Int
  key : ByteArray
  value : ByteArray
  code : Int
  rval : ByteArray
  kA : Option Addr
  kn : Nat
  kc : Nat
def Ev.cells (x : Ev) : List Value := [.int .i64 x.task, .bool x.call, .int .i64 x.kind, .string x.key, .string x.value, .int .i64 x.code, .string x.rval, .slice x.kA x.kn x.kc]
structure Hop where
  task : Int
  kind : Int
  key : ByteArray
  value : ByteArray
  code : Int
  rval : ByteArray
  kA : Option Addr
  kn : Nat
  kc : Nat
  start : Int
  fin : Int
def Hop.cells (x : Hop) : List Value := [.int .i64 x.task, .int .i64 x.kind, .string x.key, .string x.value, .int .i64 x.code, .string x.rval, .slice x.kA x.kn x.kc, .int .i64 x.start, .int .i64 x.fin]
def ahead (a b : Hop) : Bool := decide (0 ≤ a.fin) && decide (a.fin < b.start)
theorem Ev.cells_len (x : Ev) : x.cells.length = 8 := rfl
theorem Hop.cells_len (x : Hop) : x.cells.length = 9 := rfl
abbrev kvI : Int → Value := fun n => .int .i64 n
def kvN (n : Nat) : Value := .int .i64 n
/-- The op that an event opens; an op with its answer. -/
def Ev.op (e : Ev) (i : Nat) : Hop := { task := e.task, kind := e.kind, key := e.key, value := e.value, code := 0, rval := ⟨#[]⟩, kA := none, kn := 0, kc := 0, start := i, fin := -1 }
def Hop.done (o : Hop) (e : Ev) (i : Nat) : Hop := { o with code := e.code, rval := e.rval, kA := e.kA, kn := e.kn, kc := e.kc, fin := i }
abbrev GS := List Hop × List (Int × Nat)
def gstep (i : Nat) (e : Ev) (s : GS) : Option GS :=
  match SL.getL s.2 e.task with
  | some k => if e.call then none else match s.1[k]? with
    | some o => if 0 ≤ o.fin then none else some (s.1.set k (o.done e i), s.2)
    | none => none
  | none => if e.call then some (s.1 ++ [e.op i], SL.setL s.2 e.task s.1.length) else none
def gat : List Ev → Nat → GS → Option GS
  | [], _, s => some s
  | e :: es, i, s => (gstep i e s).bind (gat es (i + 1))
def gather (l : List Ev) : Option (List Hop) := (gat l 0 ([], [])).map (·.1)
theorem gat_append (l1 l2 : List Ev) : ∀ (i : Nat) (s : GS), gat (l1 ++ l2) i s = (gat l1 i s).bind (gat l2 (i + l1.length)) := by
  induction l1 with
  | nil => intro i s; simp [gat]
  | cons e es ih =>
    intro i s
    simp only [List.cons_append, gat]
    cases gstep i e s with
    | none => rfl
    | some s' => simp only [Option.bind_some, ih]; rw [show i + 1 + es.length = i + (e :: es).length by simp; omega]
theorem gat_step {xs : List Ev} {k : Nat} {x : Ev} {s : GS} (hx : xs[k]? = some x) (h : gat (xs.take k) 0 ([], []) = some s) : gat (xs.take (k + 1)) 0 ([], []) = gstep k x s := by
  have hk := (List.getElem?_eq_some_iff.1 hx).1
  have hl : (xs.take k).length = k := by rw [List.length_take]; omega
  rw [List.take_add_one, hx, gat_append, h, hl]
  simp [gat]
theorem gat_stop {xs : List Ev} {k : Nat} {x : Ev} {s : GS} (hx : xs[k]? = some x) (h : gat (xs.take k) 0 ([], []) = some s) (hn : gstep k x s = none) : gather xs = none := by
  have h1 := gat_step hx h
  rw [hn] at h1
  unfold gather
  rw [← List.take_append_drop (k + 1) xs, gat_append, h1]
  rfl
def opsOf (xs : List Ev) : List Hop := (gather xs).getD []
/-- What a call of gather leaves. -/
def Gath (xs : List Ev) (w : World) (v : Value) (w' : World) : Prop :=
  ∃ sv, v = .tuple #[sv, .bool (gather xs).isSome] ∧ SL.St w SL.Emp [SL.own sv 35 9 (opsOf xs).length ((opsOf xs).flatMap Hop.cells)] w'
def smallR (k v : ByteArray) : Bool := decide ((k.size : Int) ≤ 100) && decide ((v.size : Int) ≤ 500)
def smallEv (x : Ev) : Bool := smallR x.key x.value && decide ((x.rval.size : Int) ≤ 1000) && decide ((x.kn : Int) ≤ 30)
def small (xs : List Ev) (most : Int) : Bool := xs.all smallEv && decide ((xs.length : Int) ≤ most)
theorem small_not {xs : List Ev} {k : Nat} {x : Ev} {m : Int} (hx : xs[k]? = some x) (h : smallEv x = false) : small xs m = false := by
  unfold small
  have : xs.all smallEv = false := by
    rw [List.all_eq_false]; exact ⟨x, List.mem_of_getElem? hx, by rw [h]; simp⟩
  rw [this]; rfl
theorem all_step {xs : List Ev} {k : Nat} {x : Ev} {p : Ev → Bool} (hx : xs[k]? = some x) (h : (xs.take k).all p = true) (hp : p x = true) : (xs.take (k + 1)).all p = true := by
  rw [List.take_add_one, hx, List.all_append, h]; simp [hp]
theorem small_len {xs : List Ev} {m : Int} (h : small xs m = true) : (xs.length : Int) ≤ m := by
  unfold small at h; simp at h; exact h.2
/-! ### what the slices package does with events -/
def Idx (p : Ev → Bool) (xs : List Ev) (v : Value) : Prop :=
  ∃ i : Int, v = .int .i64 i ∧ ((i = -1 ∧ xs.all (fun y => !p y) = true) ∨ ∃ k x, i = (k : Nat) ∧ xs[k]? = some x ∧ p x = true ∧ (xs.take k).all (fun y => !p y) = true)
theorem zero_one {z : Array Value} (h : z.toList.all Value.oneCell' = true) (n : Nat) : (Builtin.zeroCells z n).toList.all Value.oneCell' = true := by
  rcases Nat.eq_zero_or_pos z.size with h0 | h0
  · simp [Builtin.zeroCells, h0]
  · rw [List.all_eq_true] at h ⊢
    intro x hx
    simp only [Builtin.zeroCells, Array.toList_map, List.mem_map] at hx
    obtain ⟨i, _, rfl⟩ := hx
    have hlt : i % z.size < z.size := Nat.mod_lt _ h0
    rw [getElem!_pos z _ hlt]
    exact h _ (Array.mem_toList_iff.2 (Array.getElem_mem hlt))
theorem cells_one (x : Ev) : x.cells.all Value.oneCell' = true := rfl
theorem evs_one (xs : List Ev) : (xs.flatMap Ev.cells).all Value.oneCell' = true := by
  rw [List.all_flatMap, List.all_eq_true]; intro x _; exact cells_one x
theorem all_step' {xs : List Ev} {k : Nat} {x : Ev} {p : Ev → Bool} (hx : xs[k]? = some x) (h : (xs.take k).all p = true) (hp : p x = true) : (xs.take (k + 1)).all p = true := all_step hx h hp
theorem filter_all {xs : List Ev} {p : Ev → Bool} (h : xs.all p = true) : xs.filter p = xs := List.filter_eq_self.2 (List.all_eq_true.1 h)
theorem take_snoc {xs : List Ev} {k : Nat} {x : Ev} (hx : xs[k]? = some x) : xs.take (k + 1) = xs.take k ++ [x] := by rw [List.take_add_one, hx]; rfl
theorem del_first {p : Ev → Bool} {xs : List Ev} {k : Nat} {x : Ev} (hx : xs[k]? = some x) (hp : p x = true) (h : (xs.take k).all (fun y => !p y) = true) : xs.take k = (xs.take (k + 1)).filter (fun y => !p y) := by
  rw [take_snoc hx, List.filter_append, filter_all h]; simp [hp]
theorem del_skip {p : Ev → Bool} {xs zs : List Ev} {i j : Nat} {x : Ev} (hx : xs[j]? = some x) (h1 : zs.take i = (xs.take j).filter (fun y => !p y)) (h2 : zs.drop j = xs.drop j) (hp : p x = true) :
    zs.take i = (xs.take (j + 1)).filter (fun y => !p y) ∧ zs.drop (j + 1) = xs.drop (j + 1) := by
  refine ⟨by rw [take_snoc hx, List.filter_append, h1]; simp [hp], ?_⟩
  rw [← List.drop_drop, ← List.drop_drop, h2]
theorem del_keep {p : Ev → Bool} {xs zs : List Ev} {i j : Nat} {x : Ev} (hx : xs[j]? = some x) (hi : i < j) (hl : zs.length = xs.length) (h1 : zs.take i = (xs.take j).filter (fun y => !p y)) (h2 : zs.drop j = xs.drop j) (hp : p x = false) :
    (zs.set i x).take (i + 1) = (xs.take (j + 1)).filter (fun y => !p y) ∧ (zs.set i x).drop (j + 1) = xs.drop (j + 1) := by
  have hj := (List.getElem?_eq_some_iff.1 hx).1
  have hi' : i < zs.length := by omega
  refine ⟨?_, ?_⟩
  · rw [take_snoc hx, List.filter_append, ← h1, take_snoc (x := x) (by simp [hi'])]
    rw [List.take_set_of_le (Nat.le_refl i)]
    simp [hp]
  · rw [List.drop_set_of_lt (by omega), ← List.drop_drop, ← List.drop_drop, h2]
/-- How often each task calls. -/
def cnt : List Ev → List (Int × Nat)
  | [] => []
  | e :: es => if e.call then SL.setL (cnt es) e.task ((SL.getL (cnt es) e.task).getD 0 + 1) else cnt es
theorem cnt_le (es : List Ev) (t : Int) : (SL.getL (cnt es) t).getD 0 ≤ es.length := by
  induction es with
  | nil => simp [cnt, SL.getL]
  | cons e es ih =>
    simp only [cnt]
    split
    · rw [SL.getL_setL]
      split
      · rename_i h; subst h; simp; exact ih
      · simp; omega
    · simp; omega
def later (es : List Ev) (t : Int) : Bool := es.any fun e => e.call && decide (e.task = t)
theorem cnt_later (es : List Ev) (t : Int) : decide (0 < (SL.getL (cnt es) t).getD 0) = later es t := by
  induction es with
  | nil => simp [cnt, SL.getL, later]
  | cons e es ih =>
    simp only [later, List.any_cons]
    rw [← later, ← ih]
    by_cases hc : e.call = true
    · have h1 : cnt (e :: es) = SL.setL (cnt es) e.task ((SL.getL (cnt es) e.task).getD 0 + 1) := by simp [cnt, hc]
      rw [h1, SL.getL_setL, hc]
      by_cases h : e.task = t
      · subst h; simp
      · simp [h]
    · have hf : e.call = false := by simpa using hc
      have h1 : cnt (e :: es) = cnt es := by simp [cnt, hf]
      rw [h1, hf]; simp
theorem cnt_step {ys : List Ev} {k : Nat} {x : Ev} (hx : ys[k]? = some x) : cnt (ys.drop k) = if x.call then SL.setL (cnt (ys.drop (k + 1))) x.task ((SL.getL (cnt (ys.drop (k + 1))) x.task).getD 0 + 1) else cnt (ys.drop (k + 1)) := by
  have hlt := (List.getElem?_eq_some_iff.1 hx).1
  have he : ys[k] = x := (List.getElem?_eq_some_iff.1 hx).2
  rw [List.drop_eq_getElem_cons hlt, he]; rfl
theorem cnt_small {ys : List Ev} {k : Nat} {t : Int} : (SL.getL (cnt (ys.drop k)) t).getD 0 ≤ ys.length := Nat.le_trans (cnt_le _ _) (by rw [List.length_drop]; omega)
def gone (ys : List Ev) (x : Ev) : Bool := !x.call && later ys x.task
/-- What a crash at m leaves of a history. -/
def crash (xs : List Ev) (m : Nat) : List Ev := xs.take m ++ (xs.drop m).filter (fun x => !gone (xs.take m) x)
/-! ### the three events of live -/
def evA : Ev := ⟨1, true, 1, ⟨#[97]⟩, ⟨#[]⟩, 0, ⟨#[]⟩, none, 0, 0⟩
def evB : Ev := ⟨2, true, 0, ⟨#[]⟩, ⟨#[]⟩, 0, ⟨#[]⟩, none, 0, 0⟩
def evC : Ev := ⟨1, false, 0, ⟨#[]⟩, ⟨#[]⟩, 9, ⟨#[]⟩, none, 0, 0⟩
def opA : Hop := ⟨1, 1, ⟨#[97]⟩, ⟨#[]⟩, 9, ⟨#[]⟩, none, 0, 0, 0, 2⟩
def opB : Hop := ⟨2, 0, ⟨#[]⟩, ⟨#[]⟩, 0, ⟨#[]⟩, none, 0, 0, 1, -1⟩
theorem live_ops : opsOf [evA, evB, evC] = [opA, opB] := rfl
theorem live_ca : (gather [evC, evA]).isSome = false := rfl
theorem live_aa : (gather [evA, evA]).isSome = false := rfl
theorem live_ab : ahead opA opB = false := rfl
theorem live_crash : crash [evA, evB, evC] 1 = [evA, evB] := rfl
end Go.Hist
