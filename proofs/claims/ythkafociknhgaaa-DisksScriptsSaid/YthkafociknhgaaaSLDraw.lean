/- Regions that draw their order: operations that leave the world alone are taken as soon as they may come up; whatever order is drawn, it comes to that. -/
import Derived.Test.YthkafociknhgaaaSLEff
namespace Go.SL
open Go

/-- The kinds of operation that leave the world alone. -/
def pureOp : Op → Bool
  | .move _ | .assign _ | .pick .. | .load .. | .nilCheck _ | .binOp .. | .unOp .. | .convert .. | .makeFunc .. | .slice .. | .fieldAddr .. | .field .. | .indexAddr .. | .index .. | .lookup .. | .extract .. | .build .. | .makeInterface .. | .typeAssert .. => true
  | .call { callee := .builtin .len, .. } | .call { callee := .builtin .cap, .. } | .call { callee := .builtin .max, .. } | .call { callee := .builtin .min, .. } => true
  | _ => false
section
variable {P : Program} {ro : Option Nat} {md : Region.Mode} {ops : Array Oper} {C : World → Prop} {K : Act → World → Prop}
def stepP (P : Program) (ro : Option Nat) (ops : Array Oper) (C : World → Prop) (i : Nat) (K : Act → World → Prop) (a : Act) (w : World) : Prop :=
  match ops[i]? with
  | none => K a w
  | some o =>
    if Region.wanted o (yielded ops a.tmps) then
      if pureOp o.op then ∃ v, (execOp a.eval o).run P w = .ok (.value v) w ∧ K (a.put o.dst v) w
      else o.wpIn (FW ro) 0 P a w (fun a' w' => C w' ∧ K a' w') (fun _ _ _ => False)
    else K (a.put o.dst undef) w
def anyP (P : Program) (ro : Option Nat) (md : Region.Mode) (ops : Array Oper) (C : World → Prop) (K : Act → World → Prop) : Nat → Array Bool → Act → World → Prop
  | 0, listed, a, w => Region.ready md ops listed = [] ∧ K a w
  | fuel + 1, listed, a, w => (Region.ready md ops listed = [] → K a w) ∧ ∀ i ∈ Region.ready md ops listed, stepP P ro ops C i (anyP P ro md ops C K fuel (listed.setIfInBounds i true)) a w
/-- No operation of the region is a defer or a select. -/
def tame (ops : Array Oper) : Bool := ops.toList.all fun o => match o.op with | .defer _ => false | .select .. => false | _ => true
theorem tame_spec (h : tame ops = true) {i : Nat} {o : Oper} (ho : ops[i]? = some o) : (∀ c, o.op ≠ .defer c) ∧ ∀ cs b, o.op ≠ .select cs b := by
  have hm : o ∈ ops.toList := by
    obtain ⟨h1, h2⟩ := Array.getElem?_eq_some_iff.1 ho
    rw [← h2]; exact Array.mem_toList_iff.2 (Array.getElem_mem h1)
  have := List.all_eq_true.1 h o hm
  constructor
  · intro c e; rw [e] at this; simp at this
  · intro cs b e; rw [e] at this; simp at this
theorem stepP_sound (ht : tame ops = true) {Q : Exit → Act → World → Prop} {i : Nat} {K K' : Act → World → Prop} {a : Act} {w : World} (hk : ∀ a w, K a w → K' a w) (h : stepP P ro ops C i K a w) : wpOpIn (FW ro) 0 P ops Q i K' a w := by
  unfold stepP at h
  unfold wpOpIn
  cases ho : ops[i]? with
  | none => rw [ho] at h; exact hk _ _ h
  | some o =>
    simp only [ho] at h ⊢
    split at h
    · rename_i hw
      rw [if_pos hw]
      split at h
      · obtain ⟨v, hr, hK⟩ := h
        refine ⟨fun _ _ => trivial, ?_⟩
        show Oper.uponIn _ _ _ _ _ _ _ ((o.semAt ro a.eval).run P w)
        rw [Oper.semAt_eq _ _ _ (tame_spec ht ho).1, hr]
        exact hk _ _ hK
      · exact wpIn_noPanic h fun a w ⟨_, hK⟩ => hk a w hK
    · rename_i hw
      rw [if_neg hw]
      exact ⟨fun _ _ => trivial, hk _ _ h⟩
theorem anyP_sound (ht : tame ops = true) {Q : Exit → Act → World → Prop} : ∀ {fuel : Nat} {listed : Array Bool} {a : Act} {w : World}, anyP P ro md ops C (Q .normal) fuel listed a w → wpAnyIn (FW ro) 0 P md ops Q fuel listed a w
  | 0, _, _, _, h => h
  | _ + 1, _, _, _, h => ⟨h.1, fun i hi => stepP_sound ht (fun _ _ => anyP_sound ht) (h.2 i hi)⟩
/-- Every two operations that do not wait for one another are apart. -/
def apartAll (md : Region.Mode) (ops : Array Oper) : Bool :=
  (List.range ops.size).all fun i => (List.range ops.size).all fun j => i == j || match ops[i]?, ops[j]? with
    | some oi, some oj => (oj.after.toList.any fun e => Region.binds md e && e.on == i) || (oi.after.toList.any fun e => Region.binds md e && e.on == j) || oi.apart ops oj
    | _, _ => true
theorem apartAll_spec (h : apartAll md ops = true) {i j : Nat} {oi oj : Oper} (hi : ops[i]? = some oi) (hj : ops[j]? = some oj) (hne : i ≠ j) (h1 : ∀ e ∈ oj.after, Region.binds md e = true → e.on ≠ i) (h2 : ∀ e ∈ oi.after, Region.binds md e = true → e.on ≠ j) : oi.apart ops oj = true := by
  have a1 := List.all_eq_true.1 h i (List.mem_range.2 (Array.getElem?_eq_some_iff.1 hi).1)
  have a2 := List.all_eq_true.1 a1 j (List.mem_range.2 (Array.getElem?_eq_some_iff.1 hj).1)
  simp only [hi, hj, Bool.or_eq_true, beq_iff_eq, hne, false_or] at a2
  rcases a2 with (a2 | a2) | a2
  · obtain ⟨e, he, hb⟩ := List.any_eq_true.1 a2
    simp only [Bool.and_eq_true, beq_iff_eq] at hb
    exact absurd hb.2 (h1 e (by simpa using he) hb.1)
  · obtain ⟨e, he, hb⟩ := List.any_eq_true.1 a2
    simp only [Bool.and_eq_true, beq_iff_eq] at hb
    exact absurd hb.2 (h2 e (by simpa using he) hb.1)
  · exact a2
def YieldsAt (P : Program) (ops : Array Oper) (o : Oper) (v : Value) (a : Act) (w : World) : Prop :=
  (Region.wanted o (yielded ops a.tmps) = true ∧ pureOp o.op = true ∧ (execOp a.eval o).run P w = .ok (.value v) w) ∨ (Region.wanted o (yielded ops a.tmps) = false ∧ v = undef)
theorem YieldsAt.step {o : Oper} {v : Value} {a : Act} {w : World} {i : Nat} (hi : ops[i]? = some o) (h : YieldsAt P ops o v a w) (hk : K (a.put o.dst v) w) : stepP P ro ops C i K a w := by
  unfold stepP
  simp only [hi]
  rcases h with ⟨h1, h2, h3⟩ | ⟨h1, rfl⟩
  · rw [if_pos h1, if_pos h2]; exact ⟨v, h3, hk⟩
  · rw [if_neg (by rw [h1]; simp)]; exact hk
theorem YieldsAt.put {o : Oper} {v : Value} {a : Act} {w : World} (hs : ∀ cs b, o.op ≠ .select cs b) (h : YieldsAt P ops o v a w) {dst : Option Tmp} (u : Value) (hd : ∀ d, dst = some d → d ∉ o.looksAt ops) : YieldsAt P ops o v (a.put dst u) w := by
  unfold YieldsAt at *
  rw [execOp_put o hs a dst u hd, wanted_put o a dst u hd]
  exact h
/-- An operation that may come up now is taken first. W: the worlds in which it is known to yield v. D: operations that wait, one behind the other, for it. -/
theorem anyP_first (hap : apartAll md ops = true) (ht : tame ops = true) {i : Nat} {oi : Oper} {v : Value} (hi : ops[i]? = some oi) (W : World → Prop) (D : List Nat)
    (hD : ∀ d ∈ D, ∃ o, ops[d]? = some o ∧ ∃ e ∈ o.after, Region.binds md e = true ∧ (e.on = i ∨ e.on ∈ D)) :
    ∀ (fuel : Nat) (listed : Array Bool) (a : Act) (w : World), (∀ d ∈ D, listed.getD d true = false) →
      (∀ j oj, ops[j]? = some oj → j ≠ i → listed.getD j true = false → pureOp oj.op = false → j ∈ D ∨ ∀ w', C w' → W w') →
      i ∈ Region.ready md ops listed → (∀ w', W w' → YieldsAt P ops oi v a w') → W w →
      anyP P ro md ops C K fuel (listed.setIfInBounds i true) (a.put oi.dst v) w → anyP P ro md ops C K (fuel + 1) listed a w := by
  intro fuel
  induction fuel with
  | zero =>
    intro listed a w _ _ hr hy hW H
    refine ⟨fun h => (by rw [h] at hr; cases hr), fun j hj => ?_⟩
    by_cases hji : j = i
    · subst hji; exact (hy w hW).step hi H
    · have := ready_mono hj hji
      rw [H.1] at this
      cases this
  | succ fuel ih =>
    intro listed a w hDl hE hr hy hW H
    refine ⟨fun h => (by rw [h] at hr; cases hr), fun j hj => ?_⟩
    by_cases hji : j = i
    · subst hji; exact (hy w hW).step hi H
    · have h1 := H.2 j (ready_mono hj hji)
      obtain ⟨hjun, oj, hoj, hall⟩ := mem_ready.1 hj
      obtain ⟨hiun, oi', hoi', halli⟩ := mem_ready.1 hr
      obtain rfl : oi' = oi := by rw [hi] at hoi'; exact (Option.some.inj hoi').symm
      have unl : ∀ {x : Nat}, listed.getD x true = false → listed.getD x false = false := fun {x} hx => by
        rcases Nat.lt_or_ge x listed.size with h' | h'
        · simp [h'] at hx ⊢; exact hx
        · simp [Array.getElem?_eq_none h']
      have hnot : ∀ e ∈ oj.after, Region.binds md e = true → e.on ≠ i := fun e he hb heq => by
        have h1 := hall e he hb
        rw [heq, unl hiun] at h1; cases h1
      have hnot2 : ∀ e ∈ oi'.after, Region.binds md e = true → e.on ≠ j := fun e he hb heq => by
        have h1 := halli e he hb
        rw [heq, unl hjun] at h1; cases h1
      have hjD : j ∉ D := fun hm => by
        obtain ⟨o, ho, e, he, hb, h⟩ := hD j hm
        obtain rfl : o = oj := by rw [hoj] at ho; exact (Option.some.inj ho).symm
        have h2 := hall e he hb
        rcases h with h | h
        · exact hnot e he hb h
        · rw [unl (hDl _ h)] at h2; cases h2
      have hapart := apartAll_spec hap hi hoj (Ne.symm hji) hnot hnot2
      obtain ⟨p1, p2, p3⟩ := Oper.apart_spec hapart
      have hsi := (tame_spec ht hi).2
      have hsj := (tame_spec ht hoj).2
      have next : ∀ (u : Value) (w' : World), W w' → anyP P ro md ops C K fuel ((listed.setIfInBounds i true).setIfInBounds j true) ((a.put oi'.dst v).put oj.dst u) w' → anyP P ro md ops C K (fuel + 1) (listed.setIfInBounds j true) (a.put oj.dst u) w' := by
        intro u w' hW' H'
        refine ih (listed.setIfInBounds j true) (a.put oj.dst u) w' (fun d hd => ?_) (fun k ok hk hki hun hp => ?_) (ready_mono hr (Ne.symm hji)) (fun w'' hw'' => (hy w'' hw'').put hsi u p3) hW' ?_
        · have : j ≠ d := fun e => hjD (e ▸ hd)
          rw [getD_set_ne true this]; exact hDl d hd
        · refine hE k ok hk hki ?_ hp
          by_cases hjk : j = k
          · subst hjk; exact hjun
          · rw [getD_set_ne true hjk] at hun; exact hun
        · rw [Array.setIfInBounds_comm _ _ hji, ← Act.put_comm a v u p2]
          exact H'
      unfold stepP at h1 ⊢
      simp only [hoj] at h1 ⊢
      rw [wanted_put oj a oi'.dst v p1] at h1
      split at h1
      · rename_i hw
        rw [if_pos hw]
        split at h1
        · rename_i hp
          rw [if_pos hp]
          obtain ⟨u, hr', hK⟩ := h1
          rw [execOp_put oj hsj a oi'.dst v p1] at hr'
          exact ⟨u, hr', next u w hW hK⟩
        · rename_i hp
          rw [if_neg hp]
          have hCW : ∀ w', C w' → W w' := (hE j oj hoj hji hjun (by simpa using hp)).resolve_left hjD
          unfold Oper.wpIn at *
          rw [about_put oj w a oi'.dst v p1] at h1
          refine ⟨h1.1, ?_⟩
          have h := h1.2
          have hse : ∀ (a : Act), oj.semAt (FW ro).round a.eval = execOp a.eval oj := fun a => Oper.semAt_eq _ _ _ (tame_spec ht hoj).1
          rw [hse, execOp_put oj hsj a oi'.dst v p1] at h
          rw [hse]
          generalize (execOp a.eval oj).run P w = r at *
          cases r with
          | ok x w' =>
            cases x <;> simp only [Oper.uponIn] at h ⊢
            case value u => exact ⟨h.1, next u w' (hCW _ h.1) h.2⟩
            case skip => exact ⟨h.1, next undef w' (hCW _ h.1) h.2⟩
            case defer d =>
              refine ⟨h.1, ?_⟩
              have := h.2
              rw [Act.put_defers] at this
              have hy' : ∀ w', W w' → YieldsAt P ops oi' v ({ a with defers := d :: a.defers } : Act) w' := fun w' hw' => hy w' hw'
              refine ih (listed.setIfInBounds j true) _ w' (fun d' hd => ?_) (fun k ok hk hki hun hp => ?_) (ready_mono hr (Ne.symm hji)) (fun w'' hw'' => (hy' w'' hw'').put hsi undef p3) (hCW _ h.1) ?_
              · have : j ≠ d' := fun e => hjD (e ▸ hd)
                rw [getD_set_ne true this]; exact hDl d' hd
              · refine hE k ok hk hki ?_ hp
                by_cases hjk : j = k
                · subst hjk; exact hjun
                · rw [getD_set_ne true hjk] at hun; exact hun
              · rw [Array.setIfInBounds_comm _ _ hji, ← Act.put_comm _ v undef p2]
                exact this
            case enter f args =>
              refine ⟨h.1, CallsIn.mono h.2 fun e w'' he => ?_⟩
              cases e with
              | returned u => exact ⟨he.1, next u w'' (hCW _ he.1) he.2⟩
              | panicked c => exact he
              | outgrown => exact he
            case row row args => exact ⟨h.1, RowsIn.mono h.2 fun u w'' he => ⟨he.1, next u w'' (hCW _ he.1) he.2⟩⟩
            case round l f tmps assign body =>
              refine ⟨h.1, RoundIn.mono h.2 fun e w'' he => ?_⟩
              cases e with
              | returned u => exact ⟨he.1, next u w'' (hCW _ he.1) he.2⟩
              | panicked c => exact he
              | outgrown => exact he
          | halt x w' =>
            cases x <;> simp only [Oper.uponIn] at h ⊢
      · rename_i hw
        rw [if_neg hw]
        exact next undef w hW h1
end

/-! ### The judgement -/
/-- The worlds of the region: the items Sb stand there, whatever stands beside. -/
def CW (X : Cx) (Sb : List Itm) (w : World) : Prop := ∃ Is2, St X.w0 X.M (Sb ++ Is2) w
def Ja (X : Cx) (ops : Array Oper) (K : Act → World → Prop) (Sb : List Itm) (fuel : Nat) (listed : Array Bool) (e : Env) (Is : List Itm) : Prop :=
  Jk X (anyP X.P X.ro .any ops (CW X Sb) K fuel listed) e Is
section
variable {X : Cx} {K : Act → World → Prop} {Q : Exit → Act → World → Prop} {e : Env} {Is Sb : List Itm} {ops : Array Oper} {fuel : Nat} {listed : Array Bool}
def mayCome (ops : Array Oper) (listed : Array Bool) (i : Nat) : Bool :=
  !listed.getD i true && ((ops[i]?).map (·.after.all fun e => !Region.binds .any e || listed.getD e.on false)).getD false
theorem mayCome_ready {i : Nat} (h : mayCome ops listed i = true) : i ∈ Region.ready .any ops listed := by
  unfold mayCome at h
  simp only [Region.ready, List.mem_filter, List.mem_range]
  refine ⟨?_, h⟩
  cases ho : ops[i]? with
  | none => rw [ho] at h; simp at h
  | some o => exact (Array.getElem?_eq_some_iff.1 ho).1
theorem jc_draw {id : Nat} {l : List Oper} {n : Nat} (Sb : List Itm) (hm : X.P.follows .mixedOrders = true) (ht : tame l.toArray = true) (hn : l.length = n) (h : Ja X l.toArray (Q .normal) Sb n (Array.replicate n false) e Is) : Jc X Q e Is (.region id l.toArray true) := fun a w ha hw => by
  refine wpIn_region_any hm (anyP_sound (C := CW X Sb) ht ?_)
  rw [List.size_toArray, hn]
  exact h a _ ha (hw.drew _)
/-- It yields in every world of the region. -/
theorem ja_free {i : Nat} {d : Tmp} {op : Op} {ty : TypeId} {pos : String} {aft : Array Edge} {g : Option (Nat × Bool)} {v : Value} {listed' : Array Bool} (hap : apartAll .any ops = true) (ht : tame ops = true)
    (hi : ops[i]? = some ⟨some d, op, ty, pos, aft, g⟩) (hr : mayCome ops listed i = true) (hp : pureOp op = true) (hl : listed.setIfInBounds i true = listed') (hw : wtd ops e ⟨some d, op, ty, pos, aft, g⟩ = some true) (hd : Nat.blt d X.N = true)
    (hC : ∀ w, St X.w0 X.M Is w → CW X Sb w) (hv : ∀ Is2, Opv X e (Sb ++ Is2) ⟨some d, op, ty, pos, aft, g⟩ v) (next : Ja X ops K Sb fuel listed' ((d, v) :: e) Is) : Ja X ops K Sb (fuel + 1) listed e Is := fun a w ha hst => by
  subst hl
  refine anyP_first hap ht hi (CW X Sb) [] (fun _ h => by cases h) fuel listed a w (fun _ h => by cases h) (fun _ _ _ _ _ _ => .inr fun _ h => h) (mayCome_ready hr) (fun w' hw' => ?_) (hC w hst) (next _ _ (ha.put hd v) hst)
  obtain ⟨Is2, h2⟩ := hw'
  refine .inl ⟨wtd_wanted hw ha, hp, ?_⟩
  have := hv Is2 a w' ha h2
  rwa [Oper.semAt_eq _ _ _ (tame_spec ht hi).1] at this
/-- It yields in this world; whatever turns the world waits for it. -/
theorem ja_now {i : Nat} {d : Tmp} {op : Op} {ty : TypeId} {pos : String} {aft : Array Edge} {g : Option (Nat × Bool)} {v : Value} {listed' : Array Bool} (D : List Nat) (hap : apartAll .any ops = true) (ht : tame ops = true)
    (hi : ops[i]? = some ⟨some d, op, ty, pos, aft, g⟩) (hr : mayCome ops listed i = true) (hp : pureOp op = true) (hl : listed.setIfInBounds i true = listed') (hw : wtd ops e ⟨some d, op, ty, pos, aft, g⟩ = some true) (hd : Nat.blt d X.N = true)
    (hD : (D.all fun d => !listed.getD d true && match ops[d]? with | some o => o.after.toList.any fun e => Region.binds .any e && (e.on == i || D.contains e.on) | none => false) = true)
    (hE : ((List.range ops.size).all fun j => j == i || listed.getD j true || D.contains j || match ops[j]? with | some o => pureOp o.op | none => true) = true)
    (hv : Opv X e Is ⟨some d, op, ty, pos, aft, g⟩ v) (next : Ja X ops K Sb fuel listed' ((d, v) :: e) Is) : Ja X ops K Sb (fuel + 1) listed e Is := fun a w ha hst => by
  subst hl
  refine anyP_first hap ht hi (fun w' => w' = w) D (fun d' hd' => ?_) fuel listed a w (fun d' hd' => ?_) (fun j oj hoj hji hun hp' => ?_) (mayCome_ready hr) (fun w' hw' => ?_) rfl (next _ _ (ha.put hd v) hst)
  · have := List.all_eq_true.1 hD d' hd'
    simp only [Bool.and_eq_true] at this
    cases ho : ops[d']? with
    | none => rw [ho] at this; simp at this
    | some o =>
      rw [ho] at this
      obtain ⟨e, he, hb⟩ := List.any_eq_true.1 this.2
      simp only [Bool.and_eq_true, Bool.or_eq_true, beq_iff_eq, List.contains_iff_mem] at hb
      exact ⟨o, rfl, e, by simpa using he, hb.1, hb.2⟩
  · have := List.all_eq_true.1 hD d' hd'
    simp only [Bool.and_eq_true, Bool.not_eq_true'] at this
    exact this.1
  · have := List.all_eq_true.1 hE j (List.mem_range.2 (Array.getElem?_eq_some_iff.1 hoj).1)
    simp only [Bool.or_eq_true, beq_iff_eq, hji, hun, hoj, hp', List.contains_iff_mem, Bool.false_eq_true, false_or, or_false] at this
    exact .inl this
  · subst hw'
    refine .inl ⟨wtd_wanted hw ha, hp, ?_⟩
    have := hv a w' ha hst
    rwa [Oper.semAt_eq _ _ _ (tame_spec ht hi).1] at this
/-- It is not wanted. -/
theorem ja_skip {i : Nat} {d : Tmp} {op : Op} {ty : TypeId} {pos : String} {aft : Array Edge} {g : Option (Nat × Bool)} {listed' : Array Bool} (hap : apartAll .any ops = true) (ht : tame ops = true)
    (hi : ops[i]? = some ⟨some d, op, ty, pos, aft, g⟩) (hr : mayCome ops listed i = true) (hl : listed.setIfInBounds i true = listed') (hw : wtd ops e ⟨some d, op, ty, pos, aft, g⟩ = some false) (hd : Nat.blt d X.N = true)
    (next : Ja X ops K Sb fuel listed' ((d, undef) :: e) Is) : Ja X ops K Sb (fuel + 1) listed e Is := fun a w ha hst => by
  subst hl
  exact anyP_first hap ht hi (fun _ => True) [] (fun _ h => by cases h) fuel listed a w (fun _ h => by cases h) (fun _ _ _ _ _ _ => .inr fun _ _ => trivial) (mayCome_ready hr) (fun w' _ => .inr ⟨wtd_wanted hw ha, rfl⟩) trivial (next _ _ (ha.put hd undef) hst)
/-- The one that may come up, whatever it does. -/
theorem ja_eff {i : Nat} {o : Oper} {listed' : Array Bool} {G : Value → List Itm → Prop} (hi : ops[i]? = some o) (hr : Region.ready .any ops listed = [i]) (hp : pureOp o.op = false) (hl : listed.setIfInBounds i true = listed') (hw : wtd ops e o = some true) (hd : dstOk X.N o.dst = true)
    (h : Eff X e Is o G) (hC : ∀ v Is', G v Is' → ∀ w, St X.w0 X.M Is' w → CW X Sb w) (next : ∀ v Is', G v Is' → Ja X ops K Sb fuel listed' (ext o.dst v e) Is') : Ja X ops K Sb (fuel + 1) listed e Is := fun a w ha hst => by
  subst hl
  refine ⟨fun h0 => (by rw [hr] at h0; cases h0), fun j hj => ?_⟩
  rw [hr] at hj
  obtain rfl : j = i := by simpa using hj
  unfold stepP
  simp only [hi]
  rw [if_pos (wtd_wanted hw ha), if_neg (by rw [hp]; simp)]
  refine wpIn_noPanic (h a w ha hst) ?_
  rintro a' w' ⟨v, Is', rfl, hG, hst'⟩
  exact ⟨hC v Is' hG w' hst', next v Is' hG _ _ (ha.ext hd v) hst'⟩
/-- An operation that may turn the world and is not wanted. -/
theorem ja_skip_n {i : Nat} {o : Oper} {listed' : Array Bool} (hap : apartAll .any ops = true) (ht : tame ops = true)
    (hi : ops[i]? = some o) (hr : mayCome ops listed i = true) (hl : listed.setIfInBounds i true = listed') (hw : wtd ops e o = some false) (hd : dstOk X.N o.dst = true)
    (next : Ja X ops K Sb fuel listed' (ext o.dst undef e) Is) : Ja X ops K Sb (fuel + 1) listed e Is := fun a w ha hst => by
  subst hl
  exact anyP_first hap ht hi (fun _ => True) [] (fun _ h => by cases h) fuel listed a w (fun _ h => by cases h) (fun _ _ _ _ _ _ => .inr fun _ _ => trivial) (mayCome_ready hr) (fun w' _ => .inr ⟨wtd_wanted hw ha, rfl⟩) trivial (next _ _ (ha.ext hd undef) hst)
theorem ja_done (hr : Region.ready .any ops listed = []) (h : Jk X K e Is) : Ja X ops K Sb fuel listed e Is := fun a w ha hst => by
  cases fuel with
  | zero => exact ⟨hr, h a w ha hst⟩
  | succ n => exact ⟨fun _ => h a w ha hst, by rw [hr]; intro i hi; cases hi⟩
theorem cw_nil {w : World} (h : St X.w0 X.M Is w) : CW X [] w := ⟨Is, h⟩
end
end Go.SL
