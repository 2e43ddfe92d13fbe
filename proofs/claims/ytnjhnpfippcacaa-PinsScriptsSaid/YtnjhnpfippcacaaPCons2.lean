/- The contracts of the document's answer, over what the volumes say. -/
import Derived.Test.YtnjhnpfippcacaaPW17
import Derived.Test.YtnjhnpfippcacaaPCons
namespace Go.Pins
open Go Go.SL Go.Proofs
theorem refretire2 {w0 w : World} {M : Nat → Prop} {Fr : List Itm} {bk : Nat} {lv uv : Value} {us : List Vol} {rs : List Rec} {fs : List (Nat × Obj)} (y : Vol) (r : Rec) (hst : St w0 M (blk bk (.cells #[lv, uv] 30 (0, 0)) :: own uv 33 4 us.length (us.flatMap Vol.cells) :: Fr) w) (hb : All2 (Vf w0 M fs) us rs) (hy : Vf w0 M fs y r) (hn : us.length ≤ 100000) :
    Does Try.prog 15 #[.pointer (some ⟨bk, 0, none⟩), .agg #[.int .i64 y.id, .int .i64 y.gen, .int .i64 y.size, .slice y.lA y.ln y.lc]] w (fun v w' => ∃ uv' us', v = .int .i64 (retE rs r) ∧ All2 (Vf w0 M fs) us' (retL rs r) ∧
      St w0 M (blk bk (.cells #[lv, uv'] 30 (0, 0)) :: own uv' 33 4 us'.length (us'.flatMap Vol.cells) :: Fr) w') := by
  have e : us.any (fun z => decide (z.key = y.key)) = rs.any (fun z => decide (z.key = r.key)) := hb.any (fun a b h => by rw [h.key, hy.key])
  refine (refretire_spec y hst hn).mono ?_
  intro v w' h
  rw [e] at h
  unfold retE retL
  split at h
  · obtain ⟨rfl, h⟩ := h
    rw [if_pos (by assumption), if_pos (by assumption)]
    exact ⟨uv, us, rfl, hb, h⟩
  · obtain ⟨rfl, uv', h⟩ := h
    rw [if_neg (by assumption), if_neg (by assumption)]
    have hone : All2 (Vf w0 M fs) [y] [r] := ⟨hy, trivial⟩
    exact ⟨uv', us ++ [y], rfl, hb.append hone, h⟩
theorem refreap2 {w0 w : World} {M : Nat → Prop} {Fr : List Itm} {bk : Nat} {lv uv : Value} {ps : List (Int × Int)} {us : List Vol} {rs : List Rec} {fs : List (Nat × Obj)} {rd : RD} (hst : St w0 M (blk bk (.cells #[lv, uv] 30 (0, 0)) :: own lv 52 2 ps.length (ps.flatMap kc) :: own uv 33 4 us.length (us.flatMap Vol.cells) :: Fr) w) (hb : All2 (Vf w0 M fs) us rs) (hc : ∀ q, cntOf rd q = ps.count q) (hn : us.length ≤ 100000) (hm : ps.length ≤ 100000) :
    Does Try.prog 18 #[.pointer (some ⟨bk, 0, none⟩)] w (fun v w' => ∃ uv' us' zs, All2 (Vf w0 M fs) us' (rs.filter (fun y => !noR rd y)) ∧ All2 (Vf w0 M fs) zs (rs.filter (noR rd)) ∧
      St w0 M (blk bk (.cells #[lv, uv'] 30 (0, 0)) :: own lv 52 2 ps.length (ps.flatMap kc) :: own uv' 33 4 us'.length (us'.flatMap Vol.cells) :: own v 33 4 zs.length (zs.flatMap Vol.cells) :: Fr) w') := by
  have e : ∀ (a : Vol) (b : Rec), Vf w0 M fs a b → noK ps a = noR rd b := fun a b h => by unfold noK noR; rw [h.key, hc]
  exact (refreap_spec hst hn hm).mono fun _ _ ⟨uv', h⟩ => ⟨uv', _, _, hb.filter (fun a b hr => by rw [e a b hr]), hb.filter e, h⟩
theorem pin_count {rd : RD} {ps : List (Int × Int)} (hc : ∀ q, cntOf rd q = ps.count q) (k q : Int × Int) : cntOf (setL rd k (cntOf rd k + 1)) q = (ps ++ [k]).count q := by
  rw [cnt_set, List.count_append, hc, hc]
  by_cases h : q = k
  · subst h; simp
  · simp [h, Ne.symm h]
theorem unpin_count {rd : RD} {ps : List (Int × Int)} (hd : Dk rd) (hc : ∀ q, cntOf rd q = ps.count q) (k q : Int × Int) : cntOf (unp rd k) q = (ps.erase k).count q := by
  rw [cnt_unp hd, List.count_erase, hc, hc]
  by_cases h : q = k
  · subst h; simp
  · simp [h, Ne.symm h]
end Go.Pins
