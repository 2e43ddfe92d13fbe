/- Disks as the cells of memory have them. -/
import Derived.Test.YthkafociknhgaaaSLGroup
namespace Go.Disks
open Go Go.SL
abbrev kvI : Int → Value := fun n => .int .i64 n
structure Wr where
  n : Int
  s : ByteArray
def Wr.cells (x : Wr) : List Value := [.int .i64 x.n, .string x.s]
theorem Wr.cells_len (x : Wr) : x.cells.length = 2 := rfl
theorem wrs_one (xs : List Wr) : (xs.flatMap Wr.cells).all Value.oneCell' = true := by
  rw [List.all_flatMap, List.all_eq_true]; intro x _; rfl
abbrev Kp := List (Int × ByteArray)
def mpS (kp : Kp) : List (Int × Value) := kp.map fun p => (p.1, .string p.2)
theorem mpS_get (kp : Kp) (k : Int) : (getL (mpS kp) k).getD (.string ⟨#[]⟩) = .string ((getL kp k).getD ⟨#[]⟩) := by
  unfold mpS; rw [getL_map]; cases getL kp k <;> rfl
theorem mpS_set (kp : Kp) (k : Int) (s : ByteArray) : setL (mpS kp) k (.string s) = mpS (setL kp k s) := by
  unfold mpS; rw [← setL_map]
/-- A disk: what was flushed, what waits; none: it is lost. -/
structure Dsk where
  kp : Kp
  ws : List Wr
abbrev DD := Option Dsk
def ptrs (ps : List Nat) : List Value := ps.map fun p => .pointer (some ⟨p, 0, none⟩)
theorem ptrs_get {ps : List Nat} {d p : Nat} (h : ps[d]? = some p) : (ptrs ps).toArray[d]? = some (.pointer (some ⟨p, 0, none⟩)) := by
  rw [List.getElem?_toArray]; unfold ptrs; rw [List.getElem?_map, h]; rfl
def dkI (db : Nat) : DD → Itm
  | none => blk db (.cells #[.map none, .slice none 0 0, .bool true] 57 (0, 0))
  | some D => Any fun q : Nat × Value => [blk db (.cells #[.map (some q.1), q.2, .bool false] 57 (0, 0)), mapI kvI q.1 (mpS D.kp), own q.2 59 2 D.ws.length (D.ws.flatMap Wr.cells)]
theorem zip_get {ps : List Nat} {ds : List DD} {d db : Nat} {D : DD} (h1 : ps[d]? = some db) (h2 : ds[d]? = some D) : (List.zipWith dkI ps ds)[d]? = some (dkI db D) := by
  rw [List.getElem?_zipWith, h1, h2]
theorem zip_set : ∀ {ps : List Nat} {ds : List DD} {d db : Nat} {D : DD}, (List.zipWith dkI ps ds).set d (dkI db D) = List.zipWith dkI (ps.set d db) (ds.set d D)
  | [], _, _, _, _ => by simp
  | _ :: _, [], _, _, _ => by simp
  | _ :: _, _ :: _, 0, _, _ => by simp
  | p :: ps, D :: ds, d + 1, _, _ => by simp [zip_set]
theorem set_same {α : Type} : ∀ {l : List α} {d : Nat} {x : α}, l[d]? = some x → l.set d x = l
  | [], _, _, h => by simp at h
  | a :: l, 0, x, h => by
    obtain rfl : a = x := by simpa using h
    rfl
  | a :: l, d + 1, x, h => by simp [set_same (l := l) (by simpa using h)]
theorem jk_focus {X : Cx} {K : Act → World → Prop} {e : Env} {Is Is' L : List Itm} {I : Itm} {d : Nat} (hp : Pk (grp L) Is Is') (hd : L[d]? = some I) (h : Jk X K e (I :: grp (L.eraseIdx d) :: Is')) : Jk X K e Is := fun a w ha hw => h a w ha ((hw.pk hp).grp_out hd)
theorem jk_dk_open {X : Cx} {K : Act → World → Prop} {e : Env} {Is Is' : List Itm} {db : Nat} {D : Dsk} (hp : Pk (dkI db (some D)) Is Is') (h : ∀ mb wv, Jk X K e (blk db (.cells #[.map (some mb), wv, .bool false] 57 (0, 0)) :: mapI kvI mb (mpS D.kp) :: own wv 59 2 D.ws.length (D.ws.flatMap Wr.cells) :: Is')) : Jk X K e Is := jk_any_open hp fun q => h q.1 q.2
theorem dk_mk {w0 w : World} {M : Nat → Prop} {Is : List Itm} {db mb : Nat} {wv : Value} {D : Dsk} (h : St w0 M (blk db (.cells #[.map (some mb), wv, .bool false] 57 (0, 0)) :: mapI kvI mb (mpS D.kp) :: own wv 59 2 D.ws.length (D.ws.flatMap Wr.cells) :: Is) w) : St w0 M (dkI db (some D) :: Is) w := St.any_mk (mb, wv) h
/-- A disk is put back, turned or not. -/
theorem focus_back {w0 w : World} {M : Nat → Prop} {Is : List Itm} {ps : List Nat} {ds : List DD} {d db : Nat} {D : DD} (h1 : ps[d]? = some db) (h2 : d < ds.length) (h : St w0 M (dkI db D :: grp ((List.zipWith dkI ps ds).eraseIdx d) :: Is) w) : St w0 M (grp (List.zipWith dkI ps (ds.set d D)) :: Is) w := by
  have hl : d < (List.zipWith dkI ps ds).length := by
    have := (List.getElem?_eq_some_iff.1 h1).1
    rw [List.length_zipWith]; omega
  have := h.grp_in hl
  rw [zip_set, set_same h1] at this
  exact this
theorem focus_same {w0 w : World} {M : Nat → Prop} {Is : List Itm} {ps : List Nat} {ds : List DD} {d db : Nat} {D : DD} (h1 : ps[d]? = some db) (h2 : ds[d]? = some D) (h : St w0 M (dkI db D :: grp ((List.zipWith dkI ps ds).eraseIdx d) :: Is) w) : St w0 M (grp (List.zipWith dkI ps ds) :: Is) w := by
  have := focus_back h1 (List.getElem?_eq_some_iff.1 h2).1 h
  rwa [set_same h2] at this
theorem focus_new {w0 w : World} {M : Nat → Prop} {Is : List Itm} {ps : List Nat} {ds : List DD} {d db' : Nat} {D : DD} (h1 : d < ps.length) (h2 : d < ds.length) (h : St w0 M (dkI db' D :: grp ((List.zipWith dkI ps ds).eraseIdx d) :: Is) w) : St w0 M (grp (List.zipWith dkI (ps.set d db') (ds.set d D)) :: Is) w := by
  have hl : d < (List.zipWith dkI ps ds).length := by rw [List.length_zipWith]; omega
  have := h.grp_in hl
  rw [zip_set] at this
  exact this
/-- The errors of P6.1. -/
def chk (ds : List DD) (d n : Int) (len : Nat) : Int :=
  if ¬ (0 ≤ d ∧ d < 12) then 1 else match ds[d.toNat]? with
    | some (some _) => if n < 0 ∨ 112 ≤ n then 1 else if 200 < len then 12 else 0
    | _ => 6
theorem chk_out {ds : List DD} {d n : Int} {len : Nat} (h : ¬ (0 ≤ d ∧ d < 12)) : chk ds d n len = 1 := by unfold chk; rw [if_pos h]
theorem chk_lost {ds : List DD} {d : Nat} {n : Int} {len : Nat} (h : d < 12) (hd : ds[d]? = some none) : chk ds d n len = 6 := by
  unfold chk; rw [if_neg (by omega), Int.toNat_natCast, hd]
theorem chk_in {ds : List DD} {d : Nat} {n : Int} {len : Nat} {D : Dsk} (h : d < 12) (hd : ds[d]? = some (some D)) : chk ds d n len = if n < 0 ∨ 112 ≤ n then 1 else if 200 < len then 12 else 0 := by
  unfold chk; rw [if_neg (by omega), Int.toNat_natCast, hd]
def dptr (ps : List Nat) (d e : Int) : Value := if e = 0 then .pointer (some ⟨(ps[d.toNat]?).getD 0, 0, none⟩) else .pointer none
theorem chk_ok {ds : List DD} {d n : Int} {len : Nat} (hl : ds.length = 12) (h : chk ds d n len = 0) : ∃ (k : Nat) (D : Dsk), d = k ∧ k < 12 ∧ ds[k]? = some (some D) ∧ 0 ≤ n ∧ n < 112 ∧ len ≤ 200 := by
  by_cases hd : 0 ≤ d ∧ d < 12
  · obtain ⟨k, rfl⟩ : ∃ k : Nat, d = k := ⟨d.toNat, by omega⟩
    obtain ⟨DQ, hD⟩ : ∃ D, ds[k]? = some D := ⟨ds[k], List.getElem?_eq_getElem (by omega)⟩
    cases DQ with
    | none => rw [chk_lost (by omega) hD] at h; exact absurd h (by decide)
    | some D =>
      rw [chk_in (by omega) hD] at h
      split at h
      · exact absurd h (by decide)
      · split at h
        · exact absurd h (by decide)
        · exact ⟨k, D, rfl, by omega, hD, by omega, by omega, by omega⟩
  · rw [chk_out hd] at h; exact absurd h (by decide)
theorem dptr_ok {ps : List Nat} {k db : Nat} (h : ps[k]? = some db) : dptr ps (k : Int) 0 = .pointer (some ⟨db, 0, none⟩) := by unfold dptr; rw [if_pos rfl, Int.toNat_natCast, h]; rfl
/-- No more writes than so many wait. -/
def WB (ds : List DD) (N : Nat) : Prop := ∀ (k : Nat) (D : Dsk), ds[k]? = some (some D) → D.ws.length ≤ N ∧ ∀ x ∈ D.ws, x.s.size ≤ 1000000
def onD (ds : List DD) (d n : Int) (len : Nat) (f : Dsk → Dsk) : List DD := if chk ds d n len = 0 then match ds[d.toNat]? with | some (some D) => ds.set d.toNat (some (f D)) | _ => ds else ds
theorem onD_ok {ds : List DD} {k : Nat} {n : Int} {len : Nat} {f : Dsk → Dsk} {D : Dsk} (h : chk ds (k : Int) n len = 0) (hD : ds[k]? = some (some D)) : onD ds (k : Int) n len f = ds.set k (some (f D)) := by
  unfold onD
  rw [if_pos h, Int.toNat_natCast, hD]
theorem onD_no {ds : List DD} {d n : Int} {len : Nat} {f : Dsk → Dsk} (h : ¬ chk ds d n len = 0) : onD ds d n len f = ds := by unfold onD; rw [if_neg h]
def inR (d : Int) : Prop := 0 ≤ d ∧ d < 12
instance (d : Int) : Decidable (inR d) := by unfold inR; infer_instance
def waitsD (ds : List DD) (d : Int) : Nat := if inR d then match ds[d.toNat]? with | some (some D) => D.ws.length | _ => 0 else 0
def putD (ds : List DD) (d : Int) (D : DD) : List DD := if inR d then ds.set d.toNat D else ds
theorem putCells_one {c : Array Value} {k : Nat} {v : Value} (h : k < c.size) : putCells c k [v] = c.set k v h := by
  apply Array.ext_getElem?
  intro i
  rw [putCells_get _ _ _ _ (by simp; omega), Array.getElem?_set]
  by_cases hi : k = i
  · subst hi; simp
  · rw [if_neg (by simp; omega), if_neg hi]
theorem ptrs_put {ps : List Nat} {k b : Nat} (h : k < ps.length) : putCells (ptrs ps).toArray (0 + k * 1) [.pointer (some ⟨b, 0, none⟩)] = (ptrs (ps.set k b)).toArray := by
  have hs : k < (ptrs ps).toArray.size := by unfold ptrs; simpa using h
  rw [show 0 + k * 1 = k by omega, putCells_one hs]
  apply Array.ext'
  simp [ptrs, List.map_set]
def liveK (ds : List DD) (i : Nat) : List Int := ((List.range i).filter fun k => match ds[k]? with | some (some _) => true | _ => false).map fun k : Nat => (k : Int)
theorem liveK_yes {ds : List DD} {i : Nat} {D : Dsk} (h : ds[i]? = some (some D)) : liveK ds (i + 1) = liveK ds i ++ [(i : Int)] := by
  unfold liveK; rw [List.range_succ, List.filter_append, List.map_append]; simp [h]
theorem liveK_no {ds : List DD} {i : Nat} (h : ds[i]? = some none) : liveK ds (i + 1) = liveK ds i := by
  unfold liveK; rw [List.range_succ, List.filter_append, List.map_append]; simp [h]
theorem liveK_len (ds : List DD) (i : Nat) : (liveK ds i).length ≤ i := by
  unfold liveK; rw [List.length_map]; exact Nat.le_trans (List.length_filter_le _ _) (by simp)
abbrev ic (x : Int) : List Value := [.int .i64 x]
theorem ic_len (x : Int) : (ic x).length = 1 := rfl
def new12 (i : Nat) : List DD := List.replicate i (some ⟨[], []⟩)
theorem new_cells {ps : List Nat} {m b : Nat} : putCells ((ptrs ps ++ List.replicate (m + 1) (Value.pointer none)).toArray) (0 + ps.length * 1) [.pointer (some ⟨b, 0, none⟩)] = (ptrs (ps ++ [b]) ++ List.replicate m (Value.pointer none)).toArray := by
  have hl : (ptrs ps).length = ps.length := by unfold ptrs; simp
  have hs : ps.length < ((ptrs ps ++ List.replicate (m + 1) (Value.pointer none)).toArray : Array Value).size := by simp [hl]
  rw [show 0 + ps.length * 1 = ps.length by omega, putCells_one hs]
  apply Array.ext'
  simp only [Array.toList_set]
  rw [← hl, List.set_append_right _ _ (Nat.le_refl _)]
  simp [ptrs, List.replicate_succ]
theorem zip_snoc {ps : List Nat} {ds : List DD} {p : Nat} {D : DD} (h : ps.length = ds.length) : List.zipWith dkI (ps ++ [p]) (ds ++ [D]) = List.zipWith dkI ps ds ++ [dkI p D] := by
  rw [List.zipWith_append h]; rfl
theorem grp_snoc {w0 w : World} {M : Nat → Prop} {Is L : List Itm} {I : Itm} (h : St w0 M (I :: grp L :: Is) w) : St w0 M (grp (L ++ [I]) :: Is) w := by
  have h1 := (h.pk (.there (.here _))).grp_open
  have h2 : St w0 M (L ++ ([I] ++ Is)) w := h1
  rw [← List.append_assoc] at h2
  exact h2.grp_mk
theorem new12_succ (i : Nat) : new12 (i + 1) = new12 i ++ [some ⟨[], []⟩] := by unfold new12; rw [List.replicate_succ']
theorem new12_len (i : Nat) : (new12 i).length = i := by unfold new12; simp
theorem new12_get {i k : Nat} (h : k < i) : (new12 i)[k]? = some (some ⟨[], []⟩) := by unfold new12; rw [List.getElem?_replicate, if_pos h]
/-! ### writes that are done -/
def half (s : ByteArray) : ByteArray := s.extract 0 (s.size / 2)
def applyW (o : Option Bool) (kp : Kp) (x : Wr) : Kp := match o with | none => kp | some false => setL kp x.n x.s | some true => setL kp x.n (half x.s)
def settleK (h : Nat → Option Bool) (kp : Kp) (ws : List Wr) (k : Nat) : Kp := (ws.zipIdx.take k).foldl (fun kp p => applyW (h p.2) kp p.1) kp
theorem settleK_succ {h : Nat → Option Bool} {kp : Kp} {ws : List Wr} {k : Nat} {x : Wr} (hx : ws[k]? = some x) : settleK h kp ws (k + 1) = applyW (h k) (settleK h kp ws k) x := by
  have hz : ws.zipIdx[k]? = some (x, k) := by rw [List.getElem?_zipIdx, hx]; simp
  unfold settleK
  rw [List.take_add_one, hz, List.foldl_append]; rfl
def howV : Option Bool → Value
  | none => .nilFunc
  | some false => .func (.func 30) #[] #[]
  | some true => .func (.func 35) #[] #[]
def settleD (h : Nat → Option Bool) (D : Dsk) : Dsk := ⟨settleK h D.kp D.ws D.ws.length, []⟩
/-! ### a crash -/
abbrev bc (b : Bool) : List Value := [.bool b]
theorem bc_len (b : Bool) : (bc b).length = 1 := rfl
def isB (xs : List Bool) (i : Nat) : Bool := (xs[i]?).getD false
def crashH (xs ys : List Bool) (i : Nat) : Option Bool := if isB xs i = true then some (isB ys i) else none
def wlen : DD → Nat | none => 0 | some D => D.ws.length
def crash1 (xs ys : List Bool) (at_ : Nat) : DD → DD | none => none | some D => some (settleD (fun j => crashH xs ys (at_ + j)) D)
def atK (ds : List DD) (k : Nat) : Nat := (ds.take k).foldl (fun n D => n + wlen D) 0
def crashK (xs ys : List Bool) (ds : List DD) : Nat → List DD
  | 0 => ds
  | k + 1 => match ds[k]? with | some D => (crashK xs ys ds k).set k (crash1 xs ys (atK ds k) D) | none => crashK xs ys ds k
theorem take_snoc {α : Type} {xs : List α} {k : Nat} {x : α} (hx : xs[k]? = some x) : xs.take (k + 1) = xs.take k ++ [x] := by rw [List.take_add_one, hx]; rfl
theorem atK_succ {ds : List DD} {k : Nat} {D : DD} (h : ds[k]? = some D) : atK ds (k + 1) = atK ds k + wlen D := by
  unfold atK; rw [take_snoc h, List.foldl_append]; rfl
theorem crashK_succ {xs ys : List Bool} {ds : List DD} {k : Nat} {D : DD} (h : ds[k]? = some D) : crashK xs ys ds (k + 1) = (crashK xs ys ds k).set k (crash1 xs ys (atK ds k) D) := by
  show (match ds[k]? with | some D => (crashK xs ys ds k).set k (crash1 xs ys (atK ds k) D) | none => crashK xs ys ds k) = _
  rw [h]
theorem crashK_len (xs ys : List Bool) (ds : List DD) : ∀ k, (crashK xs ys ds k).length = ds.length
  | 0 => rfl
  | k + 1 => by
    show (match ds[k]? with | some D => (crashK xs ys ds k).set k (crash1 xs ys (atK ds k) D) | none => crashK xs ys ds k).length = _
    split
    · rw [List.length_set]; exact crashK_len xs ys ds k
    · exact crashK_len xs ys ds k
theorem crashK_get (xs ys : List Bool) (ds : List DD) : ∀ (k i : Nat), k ≤ i → (crashK xs ys ds k)[i]? = ds[i]?
  | 0, i, _ => rfl
  | k + 1, i, h => by
    show (match ds[k]? with | some D => (crashK xs ys ds k).set k (crash1 xs ys (atK ds k) D) | none => crashK xs ys ds k)[i]? = _
    split
    · rw [List.getElem?_set, if_neg (by omega)]; exact crashK_get xs ys ds k i (by omega)
    · exact crashK_get xs ys ds k i (by omega)
theorem atK_le {ds : List DD} {N : Nat} (hw : WB ds N) : ∀ k, k ≤ ds.length → atK ds k ≤ k * N
  | 0, _ => Nat.zero_le _
  | k + 1, h => by
    have ih := atK_le hw k (by omega)
    have hk : ds[k]? = some ds[k] := List.getElem?_eq_getElem (by omega)
    rw [atK_succ hk, Nat.add_mul]
    have : wlen ds[k] ≤ N := by
      cases hD : ds[k] with
      | none => exact Nat.zero_le _
      | some D => rw [hD] at hk; exact (hw k D hk).1
    omega
theorem Tl.pre {R Fr : List Itm} (C : List Itm) (h : Tl R Fr) : Tl (C ++ R) Fr := by
  induction C with
  | nil => exact h
  | cons _ _ ih => exact .there ih
/-! ### what is read -/
def lastW (ws : List Wr) (n : Int) : Option ByteArray := ((ws.filter fun x => decide (x.n = n)).getLast?).map (·.s)
def rdD (ds : List DD) (d n : Int) : ByteArray := if chk ds d n 0 = 0 then match ds[d.toNat]? with | some (some D) => (lastW D.ws n).getD ((getL D.kp n).getD ⟨#[]⟩) | _ => ⟨#[]⟩ else ⟨#[]⟩
theorem rdD_no {ds : List DD} {d n : Int} (h : ¬ chk ds d n 0 = 0) : rdD ds d n = ⟨#[]⟩ := by unfold rdD; rw [if_neg h]
theorem rdD_ok {ds : List DD} {k : Nat} {n : Int} {D : Dsk} (h : chk ds (k : Int) n 0 = 0) (hD : ds[k]? = some (some D)) : rdD ds (k : Int) n = (lastW D.ws n).getD ((getL D.kp n).getD ⟨#[]⟩) := by
  unfold rdD; rw [if_pos h, Int.toNat_natCast, hD]
def noW (ws : List Wr) (n : Int) (i : Nat) : Prop := (ws.drop i).filter (fun x => decide (x.n = n)) = []
theorem noW_all (ws : List Wr) (n : Int) : noW ws n ws.length := by unfold noW; rw [List.drop_length]; rfl
theorem drop_cons {α : Type} {xs : List α} {k : Nat} {x : α} (hx : xs[k]? = some x) : xs.drop k = x :: xs.drop (k + 1) := by
  have hi := (List.getElem?_eq_some_iff.1 hx).1
  rw [List.drop_eq_getElem_cons hi, (List.getElem?_eq_some_iff.1 hx).2]
theorem noW_step {ws : List Wr} {n : Int} {i : Nat} {x : Wr} (hx : ws[i]? = some x) (h : noW ws n (i + 1)) (hn : ¬ x.n = n) : noW ws n i := by
  unfold noW at *; rw [drop_cons hx, List.filter_cons, h]; simp [hn]
theorem noW_found {ws : List Wr} {n : Int} {i : Nat} {x : Wr} (hx : ws[i]? = some x) (h : noW ws n (i + 1)) (hn : x.n = n) : lastW ws n = some x.s := by
  unfold lastW
  have e : ws = ws.take i ++ x :: ws.drop (i + 1) := by rw [← drop_cons hx, List.take_append_drop]
  unfold noW at h
  rw [e, List.filter_append, List.filter_cons, h]
  simp [hn]
theorem noW_none {ws : List Wr} {n : Int} (h : noW ws n 0) : lastW ws n = none := by
  unfold noW at h; unfold lastW; rw [List.drop_zero] at h; rw [h]; rfl
/-! ### disks of which one has something -/
def E0 : DD := some ⟨[], []⟩
def at3 (D : DD) : List DD := [E0, E0, E0, D, E0, E0, E0, E0, E0, E0, E0, E0]
theorem wb_at3 (D : DD) (h : ∀ D', D = some D' → D'.ws.length ≤ 1 ∧ ∀ x ∈ D'.ws, x.s.size ≤ 1000000) : WB (at3 D) 1 := fun k D' hk => by
  have hm := List.mem_of_getElem? hk
  have key : some D' = E0 ∨ some D' = D := by
    unfold at3 at hm
    simp only [List.mem_cons, List.not_mem_nil, or_false] at hm
    rcases hm with h | h | h | h | h | h | h | h | h | h | h | h <;> first | exact .inl h | exact .inr h
  rcases key with e | e
  · have : D' = ⟨[], []⟩ := by unfold E0 at e; exact Option.some.inj e
    subst this
    exact ⟨by simp, by simp⟩
  · exact h D' e.symm
end Go.Disks
