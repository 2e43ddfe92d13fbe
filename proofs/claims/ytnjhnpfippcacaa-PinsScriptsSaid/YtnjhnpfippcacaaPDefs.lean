/- Volumes and pins as the cells of memory have them. -/
import Derived.Test.YtnjhnpfippcacaaSLSame
namespace Go.Pins
open Go Go.SL
abbrev kvQ : Int × Int → Value := kvP .i64
def kvN (n : Nat) : Value := .int .i64 n
abbrev RD := List ((Int × Int) × Nat)
def mp (rd : RD) : List ((Int × Int) × Value) := rd.map fun p => (p.1, kvN p.2)
def cntOf (rd : RD) (k : Int × Int) : Nat := (getL rd k).getD 0
theorem mp_get (rd : RD) (k : Int × Int) : (getL (mp rd) k).getD (.int .i64 0) = kvN (cntOf rd k) := by
  unfold mp cntOf; rw [getL_map]; cases getL rd k <;> rfl
theorem mp_set (rd : RD) (k : Int × Int) (n : Nat) : setL (mp rd) k (kvN n) = mp (setL rd k n) := by
  unfold mp; rw [← setL_map]
theorem mp_del (rd : RD) (k : Int × Int) : delL (mp rd) k = mp (delL rd k) := by
  unfold mp; rw [← delL_map]
structure Vol where
  id : Int
  gen : Int
  size : Int
  lA : Option Addr
  ln : Nat
  lc : Nat
def Vol.cells (x : Vol) : List Value := [.int .i64 x.id, .int .i64 x.gen, .int .i64 x.size, .slice x.lA x.ln x.lc]
theorem Vol.cells_len (x : Vol) : x.cells.length = 4 := rfl
def Vol.key (x : Vol) : Int × Int := (x.id, x.gen)
structure Loc where
  disk : Int
  slot : Int
  deriving DecidableEq
def Loc.cells (x : Loc) : List Value := [.int .i64 x.disk, .int .i64 x.slot]
theorem Loc.cells_len (x : Loc) : x.cells.length = 2 := rfl
/-- So many places have room. -/
def Small (n : Nat) : Prop := n * 16 ≤ 140737488355328
theorem vols_one (xs : List Vol) : (xs.flatMap Vol.cells).all Value.oneCell' = true := by
  rw [List.all_flatMap, List.all_eq_true]; intro x _; rfl
theorem locs_one (xs : List Loc) : (xs.flatMap Loc.cells).all Value.oneCell' = true := by
  rw [List.all_flatMap, List.all_eq_true]; intro x _; rfl
/-- What Unpin leaves of the counts. -/
def unp (rd : RD) (k : Int × Int) : RD := if cntOf rd k = 0 then rd else if cntOf rd k = 1 then delL rd k else setL rd k (cntOf rd k - 1)
/-- The object of pins: its block, and its map's. -/
def PB (bp mb : Nat) (wv : Value) : Itm := blk bp (.cells #[.map (some mb), wv] 48 (0, 0))
/-! ### what the slices package does with volumes -/
/-- Where the first that p holds of stands; vis: those that were looked at. -/
def Idx (p : Vol → Bool) (xs : List Vol) (v : Value) (vis : List Vol) : Prop :=
  ∃ i : Int, v = .int .i64 i ∧ ((i = -1 ∧ xs.all (fun y => !p y) = true ∧ vis = xs) ∨ ∃ k x, i = (k : Nat) ∧ xs[k]? = some x ∧ p x = true ∧ (xs.take k).all (fun y => !p y) = true ∧ vis = xs.take (k + 1))
theorem take_snoc {xs : List Vol} {k : Nat} {x : Vol} (hx : xs[k]? = some x) : xs.take (k + 1) = xs.take k ++ [x] := by rw [List.take_add_one, hx]; rfl
theorem all_step {xs : List Vol} {k : Nat} {x : Vol} {p : Vol → Bool} (hx : xs[k]? = some x) (h : (xs.take k).all p = true) (hp : p x = true) : (xs.take (k + 1)).all p = true := by
  rw [take_snoc hx, List.all_append, h]; simp [hp]
theorem zero_one {z : Array Value} (h : z.toList.all Value.oneCell' = true) (n : Nat) : (Builtin.zeroCells z n).toList.all Value.oneCell' = true := by
  rcases Nat.eq_zero_or_pos z.size with h0 | h0
  · simp [Builtin.zeroCells, h0]
  · rw [List.all_eq_true] at h ⊢
    intro x hx
    simp only [Builtin.zeroCells, Array.toList_map, List.mem_map] at hx
    obtain ⟨i, _, rfl⟩ := hx
    have hlt : i % z.size < z.size := Nat.mod_lt _ h0
    rw [getElem!_pos z _ hlt]
    exact h _ (Array.mem_toList_iff.2 (Array.getElem_mem hlt))
theorem filter_all {xs : List Vol} {p : Vol → Bool} (h : xs.all p = true) : xs.filter p = xs := List.filter_eq_self.2 (List.all_eq_true.1 h)
theorem del_first {p : Vol → Bool} {xs : List Vol} {k : Nat} {x : Vol} (hx : xs[k]? = some x) (hp : p x = true) (h : (xs.take k).all (fun y => !p y) = true) : xs.take k = (xs.take (k + 1)).filter (fun y => !p y) := by
  rw [take_snoc hx, List.filter_append, filter_all h]; simp [hp]
theorem del_skip {p : Vol → Bool} {xs zs : List Vol} {i j : Nat} {x : Vol} (hx : xs[j]? = some x) (h1 : zs.take i = (xs.take j).filter (fun y => !p y)) (h2 : zs.drop j = xs.drop j) (hp : p x = true) :
    zs.take i = (xs.take (j + 1)).filter (fun y => !p y) ∧ zs.drop (j + 1) = xs.drop (j + 1) := by
  refine ⟨by rw [take_snoc hx, List.filter_append, h1]; simp [hp], ?_⟩
  rw [← List.drop_drop, ← List.drop_drop, h2]
theorem del_keep {p : Vol → Bool} {xs zs : List Vol} {i j : Nat} {x : Vol} (hx : xs[j]? = some x) (hi : i < j) (hl : zs.length = xs.length) (h1 : zs.take i = (xs.take j).filter (fun y => !p y)) (h2 : zs.drop j = xs.drop j) (hp : p x = false) :
    (zs.set i x).take (i + 1) = (xs.take (j + 1)).filter (fun y => !p y) ∧ (zs.set i x).drop (j + 1) = xs.drop (j + 1) := by
  have hj := (List.getElem?_eq_some_iff.1 hx).1
  have hi' : i < zs.length := by omega
  refine ⟨?_, ?_⟩
  · rw [take_snoc hx, List.filter_append, ← h1, take_snoc (x := x) (by simp [hi'])]
    rw [List.take_set_of_le (Nat.le_refl i)]
    simp [hp]
  · rw [List.drop_set_of_lt (by omega), ← List.drop_drop, ← List.drop_drop, h2]
theorem Idx.any {p : Vol → Bool} {xs vis : List Vol} {i : Int} (h : (i = -1 ∧ xs.all (fun y => !p y) = true ∧ vis = xs) ∨ ∃ k x, i = (k : Nat) ∧ xs[k]? = some x ∧ p x = true ∧ (xs.take k).all (fun y => !p y) = true ∧ vis = xs.take (k + 1)) : decide (0 ≤ i) = xs.any p := by
  rcases h with ⟨rfl, h, _⟩ | ⟨k, x, rfl, hx, hp, _⟩
  · have : xs.any p = false := by
      rw [List.any_eq_false]; intro x hx
      have := List.all_eq_true.1 h x hx
      simpa using this
    rw [this]; rfl
  · have : xs.any p = true := List.any_eq_true.2 ⟨x, List.mem_of_getElem? hx, hp⟩
    rw [this]; simp
/-- The volumes that are handed out: a variable that has a slice. -/
def freeI (bf : Nat) (zs : List Vol) : Itm := Any fun fv : Value => [blk bf (.cells #[fv] 28 (0, 0)), own fv 33 4 zs.length (zs.flatMap Vol.cells)]
theorem jk_free_open {X : Cx} {K : Act → World → Prop} {e : Env} {Is Is' : List Itm} {bf : Nat} {zs : List Vol} (hp : Pk (freeI bf zs) Is Is') (h : ∀ fv, Jk X K e (blk bf (.cells #[fv] 28 (0, 0)) :: own fv 33 4 zs.length (zs.flatMap Vol.cells) :: Is')) : Jk X K e Is := jk_any_open hp h
theorem free_mk {w0 w : World} {M : Nat → Prop} {Is : List Itm} {bf : Nat} {zs : List Vol} {fv : Value} (h : St w0 M (blk bf (.cells #[fv] 28 (0, 0)) :: own fv 33 4 zs.length (zs.flatMap Vol.cells) :: Is) w) : St w0 M (freeI bf zs :: Is) w := St.any_mk fv h
def noReads (rd : RD) (x : Vol) : Bool := decide (cntOf rd x.key = 0)
/-- What a volume says. -/
structure Rec where
  id : Int
  gen : Int
  size : Int
  locs : List Loc
  deriving DecidableEq
def Rec.key (r : Rec) : Int × Int := (r.id, r.gen)
def Vf (w0 : World) (M : Nat → Prop) (fs : List (Nat × Obj)) (x : Vol) (r : Rec) : Prop := x.id = r.id ∧ x.gen = r.gen ∧ x.size = r.size ∧ SlF w0 M fs 2 Loc.cells x.lA x.ln r.locs ∧ Small x.ln
theorem Vf.more {w0 : World} {M : Nat → Prop} {fs fs' : List (Nat × Obj)} (hs : ∀ b o, getL fs b = some o → getL fs' b = some o) (x : Vol) (r : Rec) (h : Vf w0 M fs x r) : Vf w0 M fs' x r := ⟨h.1, h.2.1, h.2.2.1, h.2.2.2.1.more hs, h.2.2.2.2⟩
theorem Vf.key {w0 : World} {M : Nat → Prop} {fs : List (Nat × Obj)} {x : Vol} {r : Rec} (h : Vf w0 M fs x r) : x.key = r.key := by
  unfold Vol.key Rec.key; rw [h.1, h.2.1]
/-- What a volume says in a world. -/
def Vr (w : World) (x : Vol) (r : Rec) : Prop := x.id = r.id ∧ x.gen = r.gen ∧ x.size = r.size ∧ SlR w 57 2 Loc.cells x.lA x.ln r.locs
theorem Vr.keep {w w' : World} {Is : List Itm} (hw : St w Emp Is w') (x : Vol) (r : Rec) (h : Vr w x r) : Vr w' x r := ⟨h.1, h.2.1, h.2.2.1, h.2.2.2.keepSt hw⟩
theorem Vf.vr {w0 w : World} {M : Nat → Prop} {fs : List (Nat × Obj)} {Is Is' : List Itm} (hw : St w0 M Is w) (hp : Pk (bunch fs) Is Is') (x : Vol) (r : Rec) (h : Vf w0 M fs x r) : Vr w x r := ⟨h.1, h.2.1, h.2.2.1, h.2.2.2.1.slr hw hp⟩
theorem rec_ne {r q : Rec} (h : r.id ≠ q.id ∨ r.gen ≠ q.gen ∨ r.size ≠ q.size ∨ r.locs ≠ q.locs) : r ≠ q := fun e => by subst e; simp at h
theorem rec_eq {r q : Rec} (h1 : r.id = q.id) (h2 : r.gen = q.gen) (h3 : r.size = q.size) : decide (r.locs = q.locs) = decide (r = q) := by
  cases r; cases q; simp_all
theorem loc_ne {x y : Loc} (h : ¬ (x.disk, x.slot) = (y.disk, y.slot)) : x ≠ y := fun e => h (by rw [e])
theorem loc_eq {x y : Loc} (h : (x.disk, x.slot) = (y.disk, y.slot)) : x = y := by cases x; cases y; simp_all
/-- A call of a script. -/
structure OpP where
  act : Int
  id : Int
  gen : Int
  v : Vol
def OpP.cells (o : OpP) : List Value := [.int .i64 o.act, .int .i64 o.id, .int .i64 o.gen, .int .i64 o.v.id, .int .i64 o.v.gen, .int .i64 o.v.size, .slice o.v.lA o.v.ln o.v.lc]
theorem OpP.cells_len (o : OpP) : o.cells.length = 7 := rfl
def OpP.key (o : OpP) : Int × Int := (o.id, o.gen)
/-- Who reads, as the document's answer keeps it. -/
def kc (p : Int × Int) : List Value := [.int .i64 p.1, .int .i64 p.2]
def noK (ps : List (Int × Int)) (x : Vol) : Bool := decide (ps.count x.key = 0)
theorem kc_len (p : Int × Int) : (kc p).length = 2 := rfl
theorem kcs_one (xs : List (Int × Int)) : (xs.flatMap kc).all Value.oneCell' = true := by
  rw [List.all_flatMap, List.all_eq_true]; intro x _; rfl
theorem count_step {ps : List (Int × Int)} {i : Nat} {p k : Int × Int} (hp : ps[i]? = some p) : (ps.take (i + 1)).count k = (ps.take i).count k + if p = k then 1 else 0 := by
  rw [List.take_add_one, hp, List.count_append]
  by_cases h : p = k <;> simp [h]
theorem erase_at {ps : List (Int × Int)} {i : Nat} {k : Int × Int} (hp : ps[i]? = some k) (hn : k ∉ ps.take i) : ps.erase k = ps.take i ++ ps.drop (i + 1) := by
  have hi := (List.getElem?_eq_some_iff.1 hp).1
  have e : ps = ps.take i ++ k :: ps.drop (i + 1) := by
    have h1 := List.take_append_drop i ps
    rw [List.drop_eq_getElem_cons hi, (List.getElem?_eq_some_iff.1 hp).2] at h1
    exact h1.symm
  conv => lhs; rw [e]
  rw [List.erase_append_right _ hn]; simp
theorem count_at {ps : List (Int × Int)} {i : Nat} {k : Int × Int} (hp : ps[i]? = some k) : ps.count k ≠ 0 := fun h => by
  rw [List.count_eq_zero] at h
  exact h (List.mem_of_getElem? hp)
theorem notin_step {ps : List (Int × Int)} {i : Nat} {p k : Int × Int} (hp : ps[i]? = some p) (hn : k ∉ ps.take i) (hne : p ≠ k) : k ∉ ps.take (i + 1) := by
  rw [List.take_add_one, hp, List.mem_append]
  rintro (h | h)
  · exact hn h
  · exact hne (by simpa [eq_comm] using h)
end Go.Pins
