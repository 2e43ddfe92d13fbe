/- Where two operations may come up and neither waits for the other: both ways. -/
import Derived.Test.YthkafociknhgaaaSLBunch
namespace Go.SL
open Go
section
variable {X : Cx} {ops : Array Oper} {K : Act → World → Prop} {e : Env} {Is Is' Sb : List Itm} {d : Tmp} {op : Op} {ty : TypeId} {pos : String} {aft : Array Edge} {g : Option (Nat × Bool)} {fuel : Nat} {listed listed' : Array Bool} {i : Nat}
/-- The operation i is taken, and the rest goes on. -/
def Js (X : Cx) (ops : Array Oper) (K : Act → World → Prop) (Sb : List Itm) (fuel : Nat) (listed : Array Bool) (i : Nat) (e : Env) (Is : List Itm) : Prop :=
  Jk X (stepP X.P X.ro ops (CW X Sb) i (anyP X.P X.ro .any ops (CW X Sb) K fuel (listed.setIfInBounds i true))) e Is
theorem ja_two {i j : Nat} (hr : Region.ready .any ops listed = [i, j]) (h1 : Js X ops K Sb fuel listed i e Is) (h2 : Js X ops K Sb fuel listed j e Is) : Ja X ops K Sb (fuel + 1) listed e Is := fun a w ha hst => by
  refine ⟨fun h0 => (by rw [hr] at h0; cases h0), fun k hk => ?_⟩
  rw [hr] at hk
  rcases List.mem_cons.1 hk with rfl | hk
  · exact h1 a w ha hst
  · obtain rfl : k = j := by simpa using hk
    exact h2 a w ha hst
theorem js_pure {v : Value} (ht : tame ops = true) (hi : ops[i]? = some ⟨some d, op, ty, pos, aft, g⟩) (hp : pureOp op = true) (hl : listed.setIfInBounds i true = listed') (hv : Opv X e Is ⟨some d, op, ty, pos, aft, g⟩ v)
    (hw : wtd ops e ⟨some d, op, ty, pos, aft, g⟩ = some true) (hd : Nat.blt d X.N = true) (next : Ja X ops K Sb fuel listed' ((d, v) :: e) Is) : Js X ops K Sb fuel listed i e Is := fun a w ha hst => by
  subst hl
  unfold stepP
  simp only [hi]
  rw [if_pos (wtd_wanted hw ha), if_pos hp]
  have := hv a w ha hst
  rw [Oper.semAt_eq _ _ _ (tame_spec ht hi).1] at this
  exact ⟨v, this, next _ _ (ha.put hd v) hst⟩
theorem js_eff {G : Value → List Itm → Prop} (hi : ops[i]? = some ⟨some d, op, ty, pos, aft, g⟩) (hp : pureOp op = false) (hl : listed.setIfInBounds i true = listed')
    (h : Eff X e Is ⟨some d, op, ty, pos, aft, g⟩ G) (hC : ∀ v Is', G v Is' → ∀ w, St X.w0 X.M Is' w → CW X Sb w) (hw : wtd ops e ⟨some d, op, ty, pos, aft, g⟩ = some true) (hd : Nat.blt d X.N = true) (next : ∀ v Is', G v Is' → Ja X ops K Sb fuel listed' ((d, v) :: e) Is') : Js X ops K Sb fuel listed i e Is := fun a w ha hst => by
  subst hl
  unfold stepP
  simp only [hi]
  rw [if_pos (wtd_wanted hw ha), if_neg (by rw [hp]; simp)]
  refine wpIn_noPanic (h a w ha hst) ?_
  rintro a' w' ⟨v, Is', rfl, hG, hst'⟩
  exact ⟨hC v Is' hG w' hst', next v Is' hG _ _ (ha.put hd v) hst'⟩
variable {K' : Type} [DecidableEq K'] {kv : K' → Value} {kt et t : TypeId} {b s : Nat} {l : List (K' × Value)} {k k0 : K'} {x y : Operand} {dst : Option Tmp}
theorem opv_lookupS {size bytes : Nat} {zv v : Value} (hx : ev e x = some (.map (some b))) (hy : ev e y = some (kv k)) (L : KL X.P kt kv) (ht : X.P.underlying t = some (.map kt et)) (hz : Ti X.P et zv size bytes) (hp : Pk (mapS kv b l k0 s) Is Is') (hg : (getL l k).getD zv = v) :
    Opv X e Is ⟨dst, .lookup t x y false, ty, pos, aft, g⟩ v := fun a w ha hw => by
  obtain ⟨es, clock, i, hm, _, _, hst⟩ := (hw.pk hp).mapS_open
  have hb := hst.get (.here _)
  refine opv_lookup_rd (X := ⟨X.P, X.ro, X.N, X.ds, w, Emp⟩) (Is := []) hx hy L ht hz (rd_old hb (fun h => h)) hm hg a w ha (St.start w)
end
section
variable {K V : Type} [DecidableEq K]
theorem setL_setL (l : List (K × V)) (k : K) (u v : V) : setL (setL l k u) k v = setL l k v := by
  induction l with
  | nil => simp [setL]
  | cons p t ih =>
    obtain ⟨k', v'⟩ := p
    simp only [setL]
    by_cases h : k' = k
    · simp [h, setL]
    · simp [h, setL, ih]
end
end Go.SL
