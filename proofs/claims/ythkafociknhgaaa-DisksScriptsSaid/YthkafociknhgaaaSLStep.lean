/- Steps in the forms that the session's program prints. -/
import Derived.Test.YthkafociknhgaaaSLDraw
namespace Go.SL
open Go
section
variable {X : Cx} {ops : Array Oper} {K : Act → World → Prop} {Q : Exit → Act → World → Prop} {e : Env} {Is : List Itm} {rest : List Oper} {o : Oper} {d : Tmp} {op : Op} {ty : TypeId} {pos : String} {aft : Array Edge} {g : Option (Nat × Bool)}
theorem so_pure {v : Value} (h : Opv X e Is ⟨some d, op, ty, pos, aft, g⟩ v) (hw : wtd ops e ⟨some d, op, ty, pos, aft, g⟩ = some true) (hd : Nat.blt d X.N = true) (next : Jo X ops K ((d, v) :: e) Is rest) : Jo X ops K e Is (⟨some d, op, ty, pos, aft, g⟩ :: rest) :=
  jo_pure h hw hd next
theorem so_eff {G : Value → List Itm → Prop} (h : Eff X e Is ⟨some d, op, ty, pos, aft, g⟩ G) (hw : wtd ops e ⟨some d, op, ty, pos, aft, g⟩ = some true) (hd : Nat.blt d X.N = true) (next : ∀ v Is', G v Is' → Jo X ops K ((d, v) :: e) Is' rest) : Jo X ops K e Is (⟨some d, op, ty, pos, aft, g⟩ :: rest) :=
  jo_eff h hw hd next
theorem so_eff0 {G : Value → List Itm → Prop} (h : Eff X e Is ⟨none, op, ty, pos, aft, g⟩ G) (hw : wtd ops e ⟨none, op, ty, pos, aft, g⟩ = some true) (next : ∀ v Is', G v Is' → Jo X ops K e Is' rest) : Jo X ops K e Is (⟨none, op, ty, pos, aft, g⟩ :: rest) :=
  jo_eff h hw rfl next
theorem so_skip (hw : wtd ops e ⟨some d, op, ty, pos, aft, g⟩ = some false) (hd : Nat.blt d X.N = true) (next : Jo X ops K ((d, undef) :: e) Is rest) : Jo X ops K e Is (⟨some d, op, ty, pos, aft, g⟩ :: rest) :=
  jo_skip hw hd next
theorem so_skip0 (hw : wtd ops e ⟨none, op, ty, pos, aft, g⟩ = some false) (next : Jo X ops K e Is rest) : Jo X ops K e Is (⟨none, op, ty, pos, aft, g⟩ :: rest) :=
  jo_skip hw rfl next
theorem wtd_run {j : Nat} {b t : Bool} {x : Tmp} (hg : o.guard = some (j, b)) (hj : (ops[j]?).bind (·.dst) = some x) (hl : look e x = some (.bool t)) (ht : t = b) : wtd ops e o = some true := by
  subst ht; simp [wtd, hg, hj, hl]
theorem wtd_not {j : Nat} {b t : Bool} {x : Tmp} (hg : o.guard = some (j, b)) (hj : (ops[j]?).bind (·.dst) = some x) (hl : look e x = some (.bool t)) (ht : t = !b) : wtd ops e o = some false := by
  subst ht; simp [wtd, hg, hj, hl]
theorem wtd_undef {j : Nat} {b : Bool} {x : Tmp} (hg : o.guard = some (j, b)) (hj : (ops[j]?).bind (·.dst) = some x) (hl : look e x = some undef) : wtd ops e o = some false := by
  simp [wtd, hg, hj, hl, undef]
theorem sk_split {x : Tmp} {t : Bool} (_hl : look e x = some (.bool t)) (h1 : t = true → Jk X K e Is) (h0 : t = false → Jk X K e Is) : Jk X K e Is := by
  cases t
  · exact h0 rfl
  · exact h1 rfl
theorem sv_pick_t {c x y : Operand} {t : Bool} {v : Value} (hc : ev e c = some (.bool t)) (ht : t = true) (hx : ev e x = some v) : Opv X e Is ⟨some d, .pick c x y, ty, pos, aft, g⟩ v := by subst ht; exact opv_pick_t hc hx
theorem sv_pick_f {c x y : Operand} {t : Bool} {v : Value} (hc : ev e c = some (.bool t)) (ht : t = false) (hy : ev e y = some v) : Opv X e Is ⟨some d, .pick c x y, ty, pos, aft, g⟩ v := by subst ht; exact opv_pick_f hc hy
theorem sc_true {c : Operand} {x y : Code} {t : Bool} (hc : ev e c = some (.bool t)) (ht : t = true) (h : Jc X Q e Is x) : Jc X Q e Is (.cond c x y) := by subst ht; exact jc_true hc h
theorem sc_false {c : Operand} {x y : Code} {t : Bool} (hc : ev e c = some (.bool t)) (ht : t = false) (h : Jc X Q e Is y) : Jc X Q e Is (.cond c x y) := by subst ht; exact jc_false hc h
theorem sc_region {id : Nat} {l : List Oper} (h : Jo X l.toArray (Q .normal) e Is l) : Jc X Q e Is (.region id l.toArray false) := jc_region h
theorem ndT {p : Prop} [Decidable p] (h : (!decide p) = true) : ¬ p := by simpa using h
theorem nbT {b : Bool} (h : (!b) = true) : b = false := by simpa using h
theorem nbF {b : Bool} (h : (!b) = false) : b = true := by simpa using h
theorem ndF {p : Prop} [Decidable p] (h : (!decide p) = false) : p := by simpa using h
theorem not_t {t : Bool} (h : t = false) : (!t) = true := by subst h; rfl
theorem not_f {t : Bool} (h : t = true) : (!t) = false := by subst h; rfl

/-! ### in a region that draws -/
inductive Pks : List Itm → List Itm → List Itm → Prop
  | nil (Is : List Itm) : Pks [] Is Is
  | cons {I : Itm} {Sb Is Is' Is'' : List Itm} : Pk I Is Is' → Pks Sb Is' Is'' → Pks (I :: Sb) Is Is''
theorem Pks.sep {Sb Is R : List Itm} (h : Pks Sb Is R) : ∀ {H : Hlt}, Sep Is H → Sep (Sb ++ R) H := by
  induction h with
  | nil => exact fun h => h
  | cons hp _ ih =>
    intro H hs
    obtain ⟨h1, h2, i1, i2, dj, eq⟩ := Sep.pk hp hs
    exact ⟨h1, h2, i1, ih i2, dj, eq⟩
theorem Pks.cw {Sb R : List Itm} (h : Pks Sb Is R) {w : World} (hst : St X.w0 X.M Is w) : CW X Sb w := ⟨R, hst.reSep fun _ => h.sep⟩
variable {Sb : List Itm} {fuel : Nat} {listed listed' : Array Bool} {i : Nat}
theorem so_draw {id : Nat} {l : List Oper} {n : Nat} {listed : Array Bool} (Sb : List Itm) (hm : X.P.follows .mixedOrders = true) (ht : tame l.toArray = true) (hap : apartAll .any l.toArray = true) (hn : l.length = n) (hl : Array.replicate n false = listed)
    (h : apartAll .any l.toArray = true → tame l.toArray = true → Ja X l.toArray (Q .normal) Sb n listed e Is) : Jc X Q e Is (.region id l.toArray true) := jc_draw Sb hm ht hn (hl ▸ h hap ht)
theorem da_any {v : Value} (hap : apartAll .any ops = true) (ht : tame ops = true)
    (hi : ops[i]? = some ⟨some d, op, ty, pos, aft, g⟩) (hr : mayCome ops listed i = true) (hp : pureOp op = true) (hl : listed.setIfInBounds i true = listed') (hv : ∀ w', Opv ⟨X.P, X.ro, X.N, X.ds, w', Emp⟩ e [] ⟨some d, op, ty, pos, aft, g⟩ v)
    (hw : wtd ops e ⟨some d, op, ty, pos, aft, g⟩ = some true) (hd : Nat.blt d X.N = true) (next : Ja X ops K Sb fuel listed' ((d, v) :: e) Is) : Ja X ops K Sb (fuel + 1) listed e Is := fun a w ha hst => by
  subst hl
  refine anyP_first hap ht hi (fun _ => True) [] (fun _ h => by cases h) fuel listed a w (fun _ h => by cases h) (fun _ _ _ _ _ _ => .inr fun _ _ => trivial) (mayCome_ready hr) (fun w' _ => ?_) trivial (next _ _ (ha.put hd v) hst)
  refine .inl ⟨wtd_wanted hw ha, hp, ?_⟩
  have := hv w' a w' ha (St.start w')
  rwa [Oper.semAt_eq _ _ _ (tame_spec ht hi).1] at this
theorem da_free {v : Value} (hap : apartAll .any ops = true) (ht : tame ops = true)
    (hi : ops[i]? = some ⟨some d, op, ty, pos, aft, g⟩) (hr : mayCome ops listed i = true) (hp : pureOp op = true) (hl : listed.setIfInBounds i true = listed') (hC : ∀ w, St X.w0 X.M Is w → CW X Sb w) (hv : ∀ Is2, Opv X e (Sb ++ Is2) ⟨some d, op, ty, pos, aft, g⟩ v)
    (hw : wtd ops e ⟨some d, op, ty, pos, aft, g⟩ = some true) (hd : Nat.blt d X.N = true) (next : Ja X ops K Sb fuel listed' ((d, v) :: e) Is) : Ja X ops K Sb (fuel + 1) listed e Is :=
  ja_free hap ht hi hr hp hl hw hd hC hv next
theorem da_now {v : Value} (D : List Nat) (hap : apartAll .any ops = true) (ht : tame ops = true)
    (hi : ops[i]? = some ⟨some d, op, ty, pos, aft, g⟩) (hr : mayCome ops listed i = true) (hp : pureOp op = true) (hl : listed.setIfInBounds i true = listed')
    (hD : (D.all fun d => !listed.getD d true && match ops[d]? with | some o => o.after.toList.any fun e => Region.binds .any e && (e.on == i || D.contains e.on) | none => false) = true)
    (hE : ((List.range ops.size).all fun j => j == i || listed.getD j true || D.contains j || match ops[j]? with | some o => pureOp o.op | none => true) = true)
    (hv : Opv X e Is ⟨some d, op, ty, pos, aft, g⟩ v) (hw : wtd ops e ⟨some d, op, ty, pos, aft, g⟩ = some true) (hd : Nat.blt d X.N = true) (next : Ja X ops K Sb fuel listed' ((d, v) :: e) Is) : Ja X ops K Sb (fuel + 1) listed e Is :=
  ja_now D hap ht hi hr hp hl hw hd hD hE hv next
theorem da_skip (hap : apartAll .any ops = true) (ht : tame ops = true)
    (hi : ops[i]? = some ⟨some d, op, ty, pos, aft, g⟩) (hr : mayCome ops listed i = true) (hl : listed.setIfInBounds i true = listed') (hw : wtd ops e ⟨some d, op, ty, pos, aft, g⟩ = some false) (hd : Nat.blt d X.N = true)
    (next : Ja X ops K Sb fuel listed' ((d, undef) :: e) Is) : Ja X ops K Sb (fuel + 1) listed e Is := ja_skip hap ht hi hr hl hw hd next
theorem da_skip0 (hap : apartAll .any ops = true) (ht : tame ops = true)
    (hi : ops[i]? = some ⟨none, op, ty, pos, aft, g⟩) (hr : mayCome ops listed i = true) (hl : listed.setIfInBounds i true = listed') (hw : wtd ops e ⟨none, op, ty, pos, aft, g⟩ = some false)
    (next : Ja X ops K Sb fuel listed' e Is) : Ja X ops K Sb (fuel + 1) listed e Is := ja_skip_n hap ht hi hr hl hw rfl next
theorem da_eff {G : Value → List Itm → Prop} (hi : ops[i]? = some ⟨some d, op, ty, pos, aft, g⟩) (hr : Region.ready .any ops listed = [i]) (hp : pureOp op = false) (hl : listed.setIfInBounds i true = listed')
    (h : Eff X e Is ⟨some d, op, ty, pos, aft, g⟩ G) (hC : ∀ v Is', G v Is' → ∀ w, St X.w0 X.M Is' w → CW X Sb w) (hw : wtd ops e ⟨some d, op, ty, pos, aft, g⟩ = some true) (hd : Nat.blt d X.N = true) (next : ∀ v Is', G v Is' → Ja X ops K Sb fuel listed' ((d, v) :: e) Is') : Ja X ops K Sb (fuel + 1) listed e Is :=
  ja_eff hi hr hp hl hw hd h hC next
theorem da_eff0 {G : Value → List Itm → Prop} (hi : ops[i]? = some ⟨none, op, ty, pos, aft, g⟩) (hr : Region.ready .any ops listed = [i]) (hp : pureOp op = false) (hl : listed.setIfInBounds i true = listed')
    (h : Eff X e Is ⟨none, op, ty, pos, aft, g⟩ G) (hC : ∀ v Is', G v Is' → ∀ w, St X.w0 X.M Is' w → CW X Sb w) (hw : wtd ops e ⟨none, op, ty, pos, aft, g⟩ = some true) (next : ∀ v Is', G v Is' → Ja X ops K Sb fuel listed' e Is') : Ja X ops K Sb (fuel + 1) listed e Is :=
  ja_eff hi hr hp hl hw rfl h hC next
theorem da_done (hr : Region.ready .any ops listed = []) (h : Jk X K e Is) : Ja X ops K Sb fuel listed e Is := ja_done hr h
end
end Go.SL
