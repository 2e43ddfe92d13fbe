/- The document's disks as the cells of memory have them. -/
import Derived.Test.YthkafociknhgaaaDkPlain3
namespace Go.Disks
open Go Go.SL
def wsOf : DD → List Wr | none => [] | some D => D.ws
def kpOf : DD → Kp | none => [] | some D => D.kp
def lostB : DD → Bool | none => true | some _ => false
theorem lost_none {D : DD} (h : lostB D = true) : D = none := by cases D with | none => rfl | some _ => cases h
theorem lost_some {D : DD} (h : lostB D = false) : ∃ D', D = some D' := by cases D with | none => cases h | some D' => exact ⟨D', rfl⟩
abbrev sc (s : ByteArray) : List Value := [.string s]
theorem sc_len (s : ByteArray) : (sc s).length = 1 := rfl
abbrev pc (p : Nat) : List Value := [.pointer (some ⟨p, 0, none⟩)]
theorem pc_len (p : Nat) : (pc p).length = 1 := rfl
/-- What each of the sectors has. -/
def lK (kp : Kp) : List ByteArray := (List.range 112).map fun n : Nat => (getL kp (n : Int)).getD ⟨#[]⟩
theorem lK_len (kp : Kp) : (lK kp).length = 112 := by unfold lK; simp
theorem lK_get {kp : Kp} {m : Nat} (h : m < 112) : (lK kp)[m]? = some ((getL kp (m : Int)).getD ⟨#[]⟩) := by
  unfold lK; rw [List.getElem?_map, List.getElem?_range h]; rfl
theorem lK_set {kp : Kp} {m : Nat} (s : ByteArray) (h : m < 112) : (lK kp).set m s = lK (setL kp (m : Int) s) := by
  apply List.ext_getElem?
  intro i
  by_cases hi : i < 112
  · rw [List.getElem?_set, lK_get hi, lK_len]
    by_cases e : m = i
    · subst e
      rw [if_pos rfl, if_pos h, lK_get h, getL_setL]; simp
    · rw [if_neg e, lK_get hi, getL_setL]
      rw [if_neg (by omega)]
  · rw [List.getElem?_eq_none (by rw [List.length_set, lK_len]; omega), List.getElem?_eq_none (by rw [lK_len]; omega)]
def rdI (rb : Nat) (D : DD) : Itm := Any fun q : Value × Value => [blk rb (.cells #[q.1, q.2, .bool (lostB D)] 78 (0, 0)), own q.1 9 1 112 ((lK (kpOf D)).flatMap sc), own q.2 81 2 (wsOf D).length ((wsOf D).flatMap Wr.cells)]
theorem jk_rd_open {X : Cx} {K : Act → World → Prop} {e : Env} {Is Is' : List Itm} {rb : Nat} {D : DD} (hp : Pk (rdI rb D) Is Is') (h : ∀ lv wv, Jk X K e (blk rb (.cells #[lv, wv, .bool (lostB D)] 78 (0, 0)) :: own lv 9 1 112 ((lK (kpOf D)).flatMap sc) :: own wv 81 2 (wsOf D).length ((wsOf D).flatMap Wr.cells) :: Is')) : Jk X K e Is := jk_any_open hp fun q => h q.1 q.2
theorem rd_mk {w0 w : World} {M : Nat → Prop} {Is : List Itm} {rb : Nat} {lv wv : Value} {D : DD} (h : St w0 M (blk rb (.cells #[lv, wv, .bool (lostB D)] 78 (0, 0)) :: own lv 9 1 112 ((lK (kpOf D)).flatMap sc) :: own wv 81 2 (wsOf D).length ((wsOf D).flatMap Wr.cells) :: Is) w) : St w0 M (rdI rb D :: Is) w := St.any_mk (lv, wv) h
theorem rzip_get {ps : List Nat} {ds : List DD} {d db : Nat} {D : DD} (h1 : ps[d]? = some db) (h2 : ds[d]? = some D) : (List.zipWith rdI ps ds)[d]? = some (rdI db D) := by
  rw [List.getElem?_zipWith, h1, h2]
theorem rzip_set : ∀ {ps : List Nat} {ds : List DD} {d db : Nat} {D : DD}, (List.zipWith rdI ps ds).set d (rdI db D) = List.zipWith rdI (ps.set d db) (ds.set d D)
  | [], _, _, _, _ => by simp
  | _ :: _, [], _, _, _ => by simp
  | _ :: _, _ :: _, 0, _, _ => by simp
  | p :: ps, D :: ds, d + 1, _, _ => by simp [rzip_set]
theorem rfocus_back {w0 w : World} {M : Nat → Prop} {Is : List Itm} {ps : List Nat} {ds : List DD} {d db : Nat} {D : DD} (h1 : ps[d]? = some db) (h2 : d < ds.length) (h : St w0 M (rdI db D :: grp ((List.zipWith rdI ps ds).eraseIdx d) :: Is) w) : St w0 M (grp (List.zipWith rdI ps (ds.set d D)) :: Is) w := by
  have hl : d < (List.zipWith rdI ps ds).length := by
    have := (List.getElem?_eq_some_iff.1 h1).1
    rw [List.length_zipWith]; omega
  have := h.grp_in hl
  rw [rzip_set, set_same h1] at this
  exact this
theorem rfocus_same {w0 w : World} {M : Nat → Prop} {Is : List Itm} {ps : List Nat} {ds : List DD} {d db : Nat} {D : DD} (h1 : ps[d]? = some db) (h2 : ds[d]? = some D) (h : St w0 M (rdI db D :: grp ((List.zipWith rdI ps ds).eraseIdx d) :: Is) w) : St w0 M (grp (List.zipWith rdI ps ds) :: Is) w := by
  have := rfocus_back h1 (List.getElem?_eq_some_iff.1 h2).1 h
  rwa [set_same h2] at this
theorem rfocus_new {w0 w : World} {M : Nat → Prop} {Is : List Itm} {ps : List Nat} {ds : List DD} {d db' : Nat} {D : DD} (h1 : d < ps.length) (h2 : d < ds.length) (h : St w0 M (rdI db' D :: grp ((List.zipWith rdI ps ds).eraseIdx d) :: Is) w) : St w0 M (grp (List.zipWith rdI (ps.set d db') (ds.set d D)) :: Is) w := by
  have hl : d < (List.zipWith rdI ps ds).length := by rw [List.length_zipWith]; omega
  have := h.grp_in hl
  rw [rzip_set] at this
  exact this
theorem rzip_snoc {ps : List Nat} {ds : List DD} {p : Nat} {D : DD} (h : ps.length = ds.length) : List.zipWith rdI (ps ++ [p]) (ds ++ [D]) = List.zipWith rdI ps ds ++ [rdI p D] := by
  rw [List.zipWith_append h]; rfl
/-- All that wait are of sectors. -/
def WN (ds : List DD) : Prop := ∀ (k : Nat) (D : Dsk), ds[k]? = some (some D) → ∀ x ∈ D.ws, 0 ≤ x.n ∧ x.n < 112
theorem wn_new : WN (new12 12) := fun k D hD => by
  have hk : k < 12 := by have := (List.getElem?_eq_some_iff.1 hD).1; rwa [new12_len] at this
  rw [new12_get hk] at hD
  obtain rfl := Option.some.inj (Option.some.inj hD)
  intro x hx; cases hx
theorem WN.on {ds : List DD} (hl : ds.length = 12) (h : WN ds) {d n : Int} {len : Nat} {f : Dsk → Dsk} (hf : 0 ≤ n → n < 112 → ∀ D : Dsk, (∀ x ∈ D.ws, 0 ≤ x.n ∧ x.n < 112) → ∀ x ∈ (f D).ws, 0 ≤ x.n ∧ x.n < 112) : WN (onD ds d n len f) := fun k D hD => by
  by_cases hc : chk ds d n len = 0
  · obtain ⟨j, D', rfl, hj, hD', h1, h2, _⟩ := chk_ok hl hc
    rw [onD_ok hc hD', List.getElem?_set] at hD
    split at hD
    · split at hD
      · obtain rfl := Option.some.inj (Option.some.inj hD)
        exact hf h1 h2 D' (h j D' hD')
      · cases hD
    · exact h k D hD
  · rw [onD_no hc] at hD; exact h k D hD
theorem WN.write {ds : List DD} (hl : ds.length = 12) (h : WN ds) (d n : Int) (s : ByteArray) : WN (onD ds d n s.size (fun D => { D with ws := D.ws ++ [⟨n, s⟩] })) := WN.on hl h fun h1 h2 D hD x hx => by
  rcases List.mem_append.1 hx with hx | hx
  · exact hD x hx
  · obtain rfl := List.mem_singleton.1 hx
    exact ⟨h1, h2⟩
theorem WN.flush {ds : List DD} (hl : ds.length = 12) (h : WN ds) (d : Int) : WN (onD ds d 0 0 (settleD whole)) := WN.on hl h fun _ _ D _ x hx => by cases hx
theorem WN.spoil {ds : List DD} (hl : ds.length = 12) (h : WN ds) (d n : Int) (s : ByteArray) : WN (onD ds d n s.size (spD n s)) := WN.on hl h fun _ _ D hD x hx => hD x (List.mem_filter.1 hx).1
theorem WN.put {ds : List DD} (h : WN ds) (d : Int) {D0 : DD} (h0 : D0 = none ∨ D0 = some ⟨[], []⟩) : WN (putD ds d D0) := fun k D hD => by
  unfold putD at hD
  split at hD
  · rw [List.getElem?_set] at hD
    split at hD
    · split at hD
      · rcases h0 with rfl | rfl
        · cases hD
        · obtain rfl := Option.some.inj (Option.some.inj hD)
          intro x hx; cases hx
      · cases hD
    · exact h k D hD
  · exact h k D hD
theorem crash_ws {ds : List DD} (xs ys : List Bool) {k : Nat} {D : Dsk} (hD : (crashK xs ys ds ds.length)[k]? = some (some D)) : D.ws = [] := by
  have hk : k < ds.length := by have := (List.getElem?_eq_some_iff.1 hD).1; rwa [crashK_len] at this
  rw [crash_get xs ys ds ds.length k hk (Nat.le_refl _), List.getElem?_eq_getElem hk] at hD
  cases h : ds[k] with
  | none => rw [h] at hD; cases hD
  | some D0 =>
    rw [h] at hD
    obtain rfl := Option.some.inj (Option.some.inj hD)
    rfl
theorem WN.crash {ds : List DD} (hl : ds.length = 12) (xs ys : List Bool) : WN (crashK xs ys ds 12) := fun k D hD => by
  rw [← hl] at hD
  rw [crash_ws xs ys hD]; intro x hx; cases hx
theorem WB.crash {ds : List DD} (hl : ds.length = 12) (xs ys : List Bool) (N : Nat) : WB (crashK xs ys ds 12) N := fun k D hD => by
  rw [← hl] at hD
  rw [crash_ws xs ys hD]; exact ⟨Nat.zero_le _, fun x hx => by cases hx⟩
theorem waitsD_in {ds : List DD} {k : Nat} {D : DD} (hk : k < 12) (hD : ds[k]? = some D) : waitsD ds (k : Int) = (wsOf D).length := by
  unfold waitsD
  rw [if_pos (by unfold inR; omega), Int.toNat_natCast, hD]
  cases D <;> rfl
theorem waitsD_out {ds : List DD} {d : Int} (h : ¬ (0 ≤ d ∧ d < 12)) : waitsD ds d = 0 := by
  unfold waitsD; rw [if_neg (by unfold inR; exact h)]
/-- The last write of a sector among the first ones. -/
def rdT (D : Dsk) (n : Int) (i : Nat) : ByteArray := (lastW (D.ws.take i) n).getD ((getL D.kp n).getD ⟨#[]⟩)
theorem rdT_succ {D : Dsk} {n : Int} {i : Nat} {x : Wr} (hx : D.ws[i]? = some x) : rdT D n (i + 1) = if x.n = n then x.s else rdT D n i := by
  unfold rdT
  rw [take_snoc hx, lastW_snoc]
  split <;> rfl
theorem wlen_ws (D : DD) : wlen D = (wsOf D).length := by cases D <;> rfl
theorem wn_ws {ds : List DD} (h : WN ds) {k : Nat} {D : DD} (hD : ds[k]? = some D) : ∀ x ∈ wsOf D, 0 ≤ x.n ∧ x.n < 112 := by
  cases D with
  | none => intro x hx; cases hx
  | some D => exact h k D hD
theorem wb_ws {ds : List DD} {N : Nat} (h : WB ds N) {k : Nat} {D : DD} (hD : ds[k]? = some D) : (wsOf D).length ≤ N ∧ ∀ x ∈ wsOf D, x.s.size ≤ 1000000 := by
  cases D with
  | none => exact ⟨Nat.zero_le _, fun x hx => by cases hx⟩
  | some D => exact h k D hD
theorem rd_crash {w0 w : World} {M : Nat → Prop} {Is : List Itm} {rb a : Nat} {lv : Value} {D : DD} {xs ys : List Bool} (h : St w0 M (blk rb (.cells #[lv, .slice none 0 0, .bool (lostB D)] 78 (0, 0)) :: own lv 9 1 112 ((lK (settleK (fun i => crashH xs ys (a + i)) (kpOf D) (wsOf D) (wsOf D).length)).flatMap sc) :: Is) w) : St w0 M (rdI rb (crash1 xs ys a D) :: Is) w := by
  have h2 := h.own_nil 81 2
  cases D with
  | none => exact rd_mk (D := none) (lv := lv) (wv := .slice none 0 0) (St.keep (Sb := [blk rb (.cells #[lv, .slice none 0 0, .bool true] 78 (0, 0)), own lv 9 1 112 ((lK []).flatMap sc), own (.slice none 0 0) 81 2 0 []]) h2 (.cons (.there (.here _)) (.cons (.there (.here _)) (.cons (.here _) (.nil _)))) (Tl.here _))
  | some D => exact rd_mk (D := some (settleD (fun i => crashH xs ys (a + i)) D)) (lv := lv) (wv := .slice none 0 0) (St.keep (Sb := [blk rb (.cells #[lv, .slice none 0 0, .bool false] 78 (0, 0)), own lv 9 1 112 ((lK (settleK (fun i => crashH xs ys (a + i)) D.kp D.ws D.ws.length)).flatMap sc), own (.slice none 0 0) 81 2 0 []]) h2 (.cons (.there (.here _)) (.cons (.there (.here _)) (.cons (.here _) (.nil _)))) (Tl.here _))
end Go.Disks
