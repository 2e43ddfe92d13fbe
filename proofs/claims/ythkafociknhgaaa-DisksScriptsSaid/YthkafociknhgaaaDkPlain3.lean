/- What is done to one disk leaves the others, in plain words. -/
import Derived.Test.YthkafociknhgaaaDkPlain2
import Derived.Test.YthkafociknhgaaaDkDel
namespace Go.Disks
open Go Go.SL
theorem onD_other {ds : List DD} {d n : Int} {len k : Nat} {f : Dsk → Dsk} {D : DD} (hl : ds.length = 12) (h : ds[k]? = some D) (hd : ¬ d = (k : Int)) : (onD ds d n len f)[k]? = some D := by
  by_cases hc : chk ds d n len = 0
  · obtain ⟨j, D', rfl, hj, hD', _⟩ := chk_ok hl hc
    rw [onD_ok hc hD', List.getElem?_set, if_neg (by omega)]; exact h
  · rw [onD_no hc]; exact h
theorem putD_len (ds : List DD) (d : Int) (D : DD) : (putD ds d D).length = ds.length := by unfold putD; split <;> simp
theorem putD_other {ds : List DD} {d : Int} {k : Nat} {D D' : DD} (h : ds[k]? = some D) (hd : ¬ d = (k : Int)) : (putD ds d D')[k]? = some D := by
  unfold putD
  split
  · rename_i hi; unfold inR at hi; rw [List.getElem?_set, if_neg (by omega)]; exact h
  · exact h
theorem WB.spoil {ds : List DD} {N : Nat} (hl : ds.length = 12) (h : WB ds N) (d n m : Int) (len : Nat) (s : ByteArray) : WB (onD ds d n len (spD m s)) N := fun k D hD => by
  by_cases hc : chk ds d n len = 0
  · obtain ⟨j, D', rfl, hj, hD', hn⟩ := chk_ok hl hc
    rw [onD_ok hc hD', List.getElem?_set] at hD
    split at hD
    · split at hD
      · obtain rfl := Option.some.inj (Option.some.inj hD)
        have := h j D' hD'
        exact ⟨Nat.le_trans (List.length_filter_le _ _) this.1, fun x hx => this.2 x (List.mem_filter.1 hx).1⟩
      · cases hD
    · exact h k D hD
  · rw [onD_no hc] at hD; exact h k D hD
theorem WB.put {ds : List DD} {N : Nat} (h : WB ds N) (d : Int) {D0 : DD} (h0 : D0 = none ∨ D0 = some ⟨[], []⟩) : WB (putD ds d D0) N := fun k D hD => by
  unfold putD at hD
  split at hD
  · rw [List.getElem?_set] at hD
    split at hD
    · split at hD
      · rcases h0 with rfl | rfl
        · cases hD
        · obtain rfl := Option.some.inj (Option.some.inj hD)
          exact ⟨Nat.zero_le _, fun x hx => by cases hx⟩
      · cases hD
    · exact h k D hD
  · exact h k D hD
/-- The disk on which something is kept. -/
def kept : ByteArray := ⟨#[107, 101, 112, 116]⟩
def KD : Dsk := ⟨[(7, kept)], []⟩
theorem kept_get {k : Nat} (hk : k < 12) : (onD (onD (new12 12) (k : Int) 7 kept.size (fun D => { D with ws := D.ws ++ [⟨7, kept⟩] })) (k : Int) 0 0 (settleD whole))[k]? = some (some KD) := by
  have h0 := new12_get hk
  have h1 := onD_get (d := (k : Int)) (n := 7) (len := kept.size) (f := fun D => { D with ws := D.ws ++ [⟨7, kept⟩] }) (new12_len 12) h0
  have c1 : chk (new12 12) (k : Int) 7 kept.size = 0 := by
    rw [chk_in hk h0]
    have : kept.size = 4 := rfl
    simp [this]
  rw [if_pos ⟨c1, rfl⟩] at h1
  have h2 := onD_get (d := (k : Int)) (n := 0) (len := 0) (f := settleD whole) ((onD_len _ _ _ _ _).trans (new12_len 12)) h1
  rw [if_pos ⟨by rw [chk_in hk h1]; simp, rfl⟩] at h2
  rw [h2]
  rfl
theorem kept_chk {ds : List DD} {k : Nat} (hk : k < 12) (h : ds[k]? = some (some KD)) : chk ds (k : Int) 7 0 = 0 := by rw [chk_in hk h]; simp
theorem kept_read {ds : List DD} {k : Nat} (hk : k < 12) (h : ds[k]? = some (some KD)) : rdD ds (k : Int) 7 = kept := by
  rw [rdD_ok (kept_chk hk h) h]; rfl
end Go.Disks
