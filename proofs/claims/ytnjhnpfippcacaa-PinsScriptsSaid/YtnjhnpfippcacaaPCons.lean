/- The contracts of the pins, over what the volumes say. -/
import Derived.Test.YtnjhnpfippcacaaPW12
namespace Go.Pins
open Go Go.SL Go.Proofs
def retL (rs : List Rec) (r : Rec) : List Rec := if rs.any (fun y => decide (y.key = r.key)) = true then rs else rs ++ [r]
def retE (rs : List Rec) (r : Rec) : Int := if rs.any (fun y => decide (y.key = r.key)) = true then 13 else 0
def noR (rd : RD) (r : Rec) : Bool := decide (cntOf rd r.key = 0)
theorem noR_eq {w0 : World} {M : Nat → Prop} {fs : List (Nat × Obj)} (rd : RD) (x : Vol) (r : Rec) (h : Vf w0 M fs x r) : noReads rd x = noR rd r := by unfold noReads noR; rw [h.key]
theorem retL_len (rs : List Rec) (r : Rec) : (retL rs r).length ≤ rs.length + 1 := by unfold retL; split <;> simp
theorem retire2 {w0 w : World} {M : Nat → Prop} {Fr : List Itm} {bp mb : Nat} {wv : Value} {ws : List Vol} {rs : List Rec} {fs : List (Nat × Obj)} (x : Vol) (r : Rec) (hst : St w0 M (blk bp (.cells #[.map (some mb), wv] 48 (0, 0)) :: own wv 33 4 ws.length (ws.flatMap Vol.cells) :: bunch fs :: Fr) w) (ha : All2 (Vf w0 M fs) ws rs) (hx : Vf w0 M fs x r) (hn : ws.length ≤ 100000) :
    Does Try.prog 14 #[.pointer (some ⟨bp, 0, none⟩), .agg #[.int .i64 x.id, .int .i64 x.gen, .int .i64 x.size, .slice x.lA x.ln x.lc]] w (fun v w' => ∃ wv' ws' fs', v = .int .i64 (retE rs r) ∧ (∀ b o, getL fs b = some o → getL fs' b = some o) ∧ All2 (Vf w0 M fs') ws' (retL rs r) ∧
      St w0 M (blk bp (.cells #[.map (some mb), wv'] 48 (0, 0)) :: own wv' 33 4 ws'.length (ws'.flatMap Vol.cells) :: bunch fs' :: Fr) w') := by
  have e : ws.any (fun y => decide (y.key = x.key)) = rs.any (fun y => decide (y.key = r.key)) := ha.any (fun a b h => by rw [h.key, hx.key])
  refine (retire_spec x r.locs hst hx.2.2.2.1 hx.2.2.2.2 hn).mono ?_
  intro v w' h
  rw [e] at h
  unfold retE retL
  split at h
  · obtain ⟨rfl, h⟩ := h
    rw [if_pos (by assumption), if_pos (by assumption)]
    exact ⟨wv, ws, fs, rfl, fun _ _ h => h, ha, h⟩
  · obtain ⟨rfl, A', c', fs', wv', hs, hl, h⟩ := h
    rw [if_neg (by assumption), if_neg (by assumption)]
    have hnew : Vf w0 M fs' { x with lA := A', lc := c' } r := ⟨hx.1, hx.2.1, hx.2.2.1, hl, hx.2.2.2.2⟩
    have hone : All2 (Vf w0 M fs') [{ x with lA := A', lc := c' }] [r] := ⟨hnew, trivial⟩
    refine ⟨wv', ws ++ [{ x with lA := A', lc := c' }], fs', rfl, hs, (ha.mono (Vf.more hs)).append hone, ?_⟩
    rw [List.length_append]
    exact h
theorem reap2 {w0 w : World} {M : Nat → Prop} {Fr : List Itm} {bp mb : Nat} {wv : Value} {rd : RD} {ws : List Vol} {rs : List Rec} {fs : List (Nat × Obj)} (hst : St w0 M (blk bp (.cells #[.map (some mb), wv] 48 (0, 0)) :: own wv 33 4 ws.length (ws.flatMap Vol.cells) :: mapI kvQ mb (mp rd) :: Fr) w) (ha : All2 (Vf w0 M fs) ws rs) (hn : ws.length ≤ 100000) :
    Does Try.prog 17 #[.pointer (some ⟨bp, 0, none⟩)] w (fun v w' => ∃ wv' ws' zs, All2 (Vf w0 M fs) ws' (rs.filter (fun y => !noR rd y)) ∧ All2 (Vf w0 M fs) zs (rs.filter (noR rd)) ∧
      St w0 M (blk bp (.cells #[.map (some mb), wv'] 48 (0, 0)) :: own wv' 33 4 ws'.length (ws'.flatMap Vol.cells) :: mapI kvQ mb (mp rd) :: own v 33 4 zs.length (zs.flatMap Vol.cells) :: Fr) w') :=
  (reap_spec hst hn).mono fun _ _ ⟨wv', h⟩ => ⟨wv', _, _, ha.filter (fun a b hr => by rw [noR_eq rd a b hr]), ha.filter (noR_eq rd), h⟩
end Go.Pins
