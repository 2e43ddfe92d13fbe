/- The operations of the model over the session's own judgements: one lemma an operation. -/
import Derived.Test.YthkafociknhgaaaSLBase
namespace Go.SL
open Go

def FW (ro : Option Nat) : Fence := { fn := fun _ => True, depth := none, alive := false, round := ro }
@[simp] theorem FW_fn (ro : Option Nat) (f : FuncId) : (FW ro).fn f := trivial
@[simp] theorem FW_round (ro : Option Nat) : (FW ro).round = ro := rfl
@[simp] theorem FW_depth (ro : Option Nat) : (FW ro).depth = none := rfl
theorem FW_room (ro : Option Nat) (n : Nat) : (FW ro).room n := fun _ h => by cases h

/-- A call that returns: its result and the world that it leaves. -/
def Does (P : Program) (f : FuncId) (args : Array Value) (w : World) (R : Value → World → Prop) : Prop :=
  CallsIn (FW none) 0 P f args w fun e w' => ∃ v, e = .returned v ∧ R v w'
theorem Does.mono {P : Program} {f : FuncId} {args : Array Value} {w : World} {R R' : Value → World → Prop} (h : Does P f args w R) (hr : ∀ v w', R v w' → R' v w') : Does P f args w R' :=
  CallsIn.mono h fun _ _ ⟨v, he, hv⟩ => ⟨v, he, hr _ _ hv⟩
theorem Does.calls {P : Program} {f : FuncId} {args : Array Value} {w : World} {R : Value → World → Prop} (h : Does P f args w R) : Calls P f args w fun e w' => ∃ v, e = .returned v ∧ R v w' := callsIn_wide.1 h

/-! ### The operations of a region in the order of the text -/
def opsW (P : Program) (ro : Option Nat) (ops : Array Oper) (K : Act → World → Prop) : List Oper → Act → World → Prop
  | [], a, w => K a w
  | o :: rest, a, w => if Region.wanted o (yielded ops a.tmps) then o.wpIn (FW ro) 0 P a w (opsW P ro ops K rest) (fun _ _ _ => False) else opsW P ro ops K rest (a.put o.dst undef) w
theorem wpIn_noPanic {P : Program} {ro : Option Nat} {o : Oper} {a : Act} {w : World} {K K' : Act → World → Prop} {Q : Exit → Act → World → Prop} (h : o.wpIn (FW ro) 0 P a w K (fun _ _ _ => False)) (hk : ∀ a w, K a w → K' a w) :
    o.wpIn (FW ro) 0 P a w K' Q := by
  unfold Oper.wpIn at *
  refine ⟨h.1, ?_⟩
  have hh := h.2
  generalize (o.semAt (FW ro).round a.eval).run P w = r at *
  cases r with
  | ok x w' =>
    cases x <;> simp only [Oper.uponIn] at hh ⊢ <;>
      first
        | exact hk _ _ hh
        | exact ⟨hh.1, CallsIn.mono hh.2 (fun e w'' he => by cases e <;> first | exact hk _ _ he | exact he.elim | (obtain ⟨_, _, x⟩ := he; exact x.elim))⟩
        | exact ⟨hh.1, RowsIn.mono hh.2 (fun _ _ he => hk _ _ he)⟩
        | exact ⟨hh.1, RoundIn.mono hh.2 (fun e w'' he => by cases e <;> first | exact hk _ _ he | exact he.elim | (obtain ⟨_, _, x⟩ := he; exact x.elim))⟩
        | exact hh
  | halt x w' => cases x <;> simp only [Oper.uponIn] at hh ⊢ <;> first | exact hh.elim | exact hh
theorem opsW_list {P : Program} {ro : Option Nat} {ops : Array Oper} {Q : Exit → Act → World → Prop} : ∀ {l : List Oper} {a : Act} {w : World}, opsW P ro ops (Q .normal) l a w → wpListIn (FW ro) 0 P ops Q l a w
  | [], _, _, h => h
  | o :: rest, a, w, h => by
    unfold opsW at h
    unfold wpListIn
    split at h
    · rename_i hw; rw [if_pos hw]; exact wpIn_noPanic h fun _ _ => opsW_list
    · rename_i hw; rw [if_neg hw]; exact ⟨fun _ _ => trivial, opsW_list h⟩
theorem opsW_region {P : Program} {ro : Option Nat} {id : Nat} {ops : Array Oper} {Q : Exit → Act → World → Prop} {a : Act} {w : World} (h : opsW P ro ops (Q .normal) ops.toList a w) : (Code.region id ops false).wpIn (FW ro) 0 P Q a w :=
  wpIn_region_list (opsW_list h)

/-! ### The judgements. A context: the number of slots, the deferred calls, the world at the start, what may turn of it. -/
structure Cx where
  P : Program
  ro : Option Nat
  N : Nat
  ds : List Deferred
  w0 : World
  M : Nat → Prop

def Jk (X : Cx) (K : Act → World → Prop) (e : Env) (Is : List Itm) : Prop := ∀ a w, Sat X.N e X.ds a → St X.w0 X.M Is w → K a w
def Jo (X : Cx) (ops : Array Oper) (K : Act → World → Prop) (e : Env) (Is : List Itm) (rest : List Oper) : Prop := Jk X (opsW X.P X.ro ops K rest) e Is
def Jc (X : Cx) (Q : Exit → Act → World → Prop) (e : Env) (Is : List Itm) (c : Code) : Prop := Jk X (c.wpIn (FW X.ro) 0 X.P Q) e Is

/-- What an operation yields, in every state of the assertion, the world left as it is. -/
def Opv (X : Cx) (e : Env) (Is : List Itm) (o : Oper) (v : Value) : Prop := ∀ a w, Sat X.N e X.ds a → St X.w0 X.M Is w → (o.semAt X.ro a.eval).run X.P w = .ok (.value v) w
/-- What an operation leaves. -/
def Eff (X : Cx) (e : Env) (Is : List Itm) (o : Oper) (G : Value → List Itm → Prop) : Prop :=
  ∀ a w, Sat X.N e X.ds a → St X.w0 X.M Is w → o.wpIn (FW X.ro) 0 X.P a w (fun a' w' => ∃ v Is', a' = a.put o.dst v ∧ G v Is' ∧ St X.w0 X.M Is' w') (fun _ _ _ => False)

/-- Is the operation wanted? -/
def wtd (ops : Array Oper) (e : Env) (o : Oper) : Option Bool :=
  match o.guard with
  | none => some true
  | some (j, b) => match (ops[j]?).bind (·.dst) with
    | none => none
    | some d => match look e d with
      | some (.bool c) => some (c == b)
      | some _ => some false
      | none => none
theorem wtd_wanted {X : Cx} {ops : Array Oper} {e : Env} {o : Oper} {b : Bool} (h : wtd ops e o = some b) {a : Act} (ha : Sat X.N e X.ds a) : Region.wanted o (yielded ops a.tmps) = b := by
  unfold wtd at h
  unfold Region.wanted
  cases hg : o.guard with
  | none => simp [hg] at h; simp [← h]
  | some x =>
    obtain ⟨j, c⟩ := x
    simp only [hg] at h ⊢
    cases hj : (ops[j]?).bind (·.dst) with
    | none => simp [hj] at h
    | some d =>
      simp only [hj] at h
      cases hl : look e d with
      | none => simp [hl] at h
      | some v =>
        have hv := ha.val d v hl
        simp only [hl] at h
        unfold yielded
        rw [hj, Option.bind_some, hv]
        cases v <;> simp at h ⊢ <;> (try (subst h; cases c <;> rfl)) <;> first | exact h | (rw [← h]; rename_i q; cases q <;> cases c <;> rfl)
def ext (dst : Option Tmp) (v : Value) (e : Env) : Env := match dst with | some d => (d, v) :: e | none => e
def dstOk (N : Nat) (dst : Option Tmp) : Bool := match dst with | some d => Nat.blt d N | none => true
theorem Sat.ext {N : Nat} {e : Env} {ds : List Deferred} {a : Act} (h : Sat N e ds a) {dst : Option Tmp} (hd : dstOk N dst = true) (v : Value) : Sat N (ext dst v e) ds (a.put dst v) := by
  cases dst with
  | none => exact h
  | some d => exact h.put hd v

section rules
variable {X : Cx} {ops : Array Oper} {K : Act → World → Prop} {Q : Exit → Act → World → Prop} {e : Env} {Is : List Itm} {rest : List Oper} {o : Oper}
theorem Opv.eff {v : Value} (h : Opv X e Is o v) : Eff X e Is o fun u Is' => u = v ∧ Is' = Is := fun a w ha hw => by
  refine ⟨fun _ _ => trivial, ?_⟩
  show Oper.uponIn _ _ _ _ _ _ _ ((o.semAt X.ro a.eval).run X.P w)
  rw [h a w ha hw]
  exact ⟨v, Is, rfl, ⟨rfl, rfl⟩, hw⟩
theorem jo_nil (h : Jk X K e Is) : Jo X ops K e Is [] := h
theorem jo_eff {G : Value → List Itm → Prop} (h : Eff X e Is o G) (hw : wtd ops e o = some true) (hd : dstOk X.N o.dst = true) (next : ∀ v Is', G v Is' → Jo X ops K (ext o.dst v e) Is' rest) : Jo X ops K e Is (o :: rest) := by
  intro a w ha hst
  unfold opsW
  rw [if_pos (wtd_wanted hw ha)]
  refine wpIn_noPanic (h a w ha hst) ?_
  rintro a' w' ⟨v, Is', rfl, hG, hst'⟩
  exact next v Is' hG _ _ (ha.ext hd v) hst'
theorem jo_pure {v : Value} (h : Opv X e Is o v) (hw : wtd ops e o = some true) (hd : dstOk X.N o.dst = true) (next : Jo X ops K (ext o.dst v e) Is rest) : Jo X ops K e Is (o :: rest) :=
  jo_eff h.eff hw hd fun _ _ ⟨hv, hI⟩ => by subst hv; subst hI; exact next
theorem jo_skip (hw : wtd ops e o = some false) (hd : dstOk X.N o.dst = true) (next : Jo X ops K (ext o.dst undef e) Is rest) : Jo X ops K e Is (o :: rest) := by
  intro a w ha hst
  unfold opsW
  rw [if_neg (by rw [wtd_wanted hw ha]; simp)]
  exact next _ _ (ha.ext hd undef) hst
theorem jc_region {id : Nat} (h : Jo X ops (Q .normal) e Is ops.toList) : Jc X Q e Is (.region id ops false) := fun a w ha hw => opsW_region (h a w ha hw)
theorem jc_seq {x y : Code} (h : Jc X (Exit.then (y.wpIn (FW X.ro) 0 X.P Q) Q) e Is x) : Jc X Q e Is (.seq x y) := fun a w ha hw => wpIn_seq (h a w ha hw)
theorem jk_then {y : Code} (h : Jc X Q e Is y) : Jk X ((Exit.then (y.wpIn (FW X.ro) 0 X.P Q) Q) .normal) e Is := h
theorem jk_then_exit {K' : Act → World → Prop} {id : Nat} (h : Jk X (Q (.exit id)) e Is) : Jk X ((Exit.then K' Q) (.exit id)) e Is := h
theorem jk_then_ret {K' : Act → World → Prop} (h : Jk X (Q .ret) e Is) : Jk X ((Exit.then K' Q) .ret) e Is := h
theorem jc_block {id : Nat} {c : Code} (h : Jc X (Exit.inBlock id Q) e Is c) : Jc X Q e Is (.block id c) := fun a w ha hw => wpIn_block (h a w ha hw)
theorem jk_block {id : Nat} (h : Jk X (Q .normal) e Is) : Jk X ((Exit.inBlock id Q) .normal) e Is := h
theorem jk_block_ret {id : Nat} (h : Jk X (Q .ret) e Is) : Jk X ((Exit.inBlock id Q) .ret) e Is := h
theorem jk_block_exit {id : Nat} (h : Jk X (Q .normal) e Is) : Jk X ((Exit.inBlock id Q) (.exit id)) e Is := fun a w ha hw => by simp only [Exit.inBlock, if_true]; exact h a w ha hw
theorem jk_block_other {id id' : Nat} (hne : (id' == id) = false) (h : Jk X (Q (.exit id')) e Is) : Jk X ((Exit.inBlock id Q) (.exit id')) e Is := fun a w ha hw => by
  simp only [Exit.inBlock, if_neg (by simpa using hne : ¬ id' = id)]; exact h a w ha hw
theorem jc_skip (h : Jk X (Q .normal) e Is) : Jc X Q e Is .skip := fun a w ha hw => wpIn_skip (h a w ha hw)
theorem jc_ret (h : Jk X (Q .ret) e Is) : Jc X Q e Is .ret := fun a w ha hw => wpIn_ret (h a w ha hw)
theorem jc_exit {id : Nat} (h : Jk X (Q (.exit id)) e Is) : Jc X Q e Is (.exit id) := fun a w ha hw => wpIn_exit (h a w ha hw)
theorem jc_true {c : Operand} {x y : Code} (hc : ev e c = some (.bool true)) (h : Jc X Q e Is x) : Jc X Q e Is (.cond c x y) := fun a w ha hw => wpIn_cond_true (ha.eval hc) (h a w ha hw)
theorem jc_false {c : Operand} {x y : Code} (hc : ev e c = some (.bool false)) (h : Jc X Q e Is y) : Jc X Q e Is (.cond c x y) := fun a w ha hw => wpIn_cond_false (ha.eval hc) (h a w ha hw)
theorem jc_cond {c : Operand} {x y : Code} {b : Bool} (hc : ev e c = some (.bool b)) (ht : b = true → Jc X Q e Is x) (hf : b = false → Jc X Q e Is y) : Jc X Q e Is (.cond c x y) := fun a w ha hw =>
  wpIn_cond_split (ha.eval hc) (fun h => ht h a w ha hw) (fun h => hf h a w ha hw)
theorem jk_sub {e' : Env} (hs : Sub e' e) (h : Jk X K e' Is) : Jk X K e Is := fun a w ha hw => h a w (ha.sub hs) hw
theorem jk_st {Is' : List Itm} (hs : ∀ w, St X.w0 X.M Is w → St X.w0 X.M Is' w) (h : Jk X K e Is') : Jk X K e Is := fun a w ha hw => h a w ha (hs w hw)
/-- Whatever the memory says may be known. -/
theorem jk_know {p : Prop} (hp : ∀ w, St X.w0 X.M Is w → p) (h : p → Jk X K e Is) : Jk X K e Is := fun a w ha hw => h (hp w hw) a w ha hw
/-- The loop's rule: a family of states. -/
theorem jc_loop {σ : Type} (E : σ → Env) (J : σ → List Itm) (p : σ → Prop) (μ : σ → Nat) {c : Code} (s0 : σ) (h0 : p s0) (he : Sub (E s0) e) (hI : ∀ w, St X.w0 X.M Is w → St X.w0 X.M (J s0) w)
    (body : ∀ s, p s → Jc X (Exit.then (fun a w => ∃ s', p s' ∧ μ s' < μ s ∧ Sat X.N (E s') X.ds a ∧ St X.w0 X.M (J s') w) Q) (E s) (J s) c) : Jc X Q e Is (.loop c) := by
  intro a w ha hw b k cs hro hb hr
  have key : ∀ (j : Nat) (s : σ), μ s = j → p s → ∀ a w, Sat X.N (E s) X.ds a → St X.w0 X.M (J s) w →
      ∃ e a' w', Q e a' w' ∧ ArrivesIn (Machine.fenced X.P (FW X.ro)) X.P (lone (b.atR a (.code c :: .inLoop c :: k)) cs w) b k cs e a' w' := by
    intro j
    induction j using Nat.strongRecOn with
    | _ j ih =>
      intro s hj hp a w ha hw
      obtain ⟨ex, a₁, w₁, hq, harr⟩ := body s hp a w ha hw b (.inLoop c :: k) cs hro hb hr
      cases ex with
      | normal =>
        obtain ⟨s', hp', hlt, ha', hw'⟩ := hq
        obtain ⟨e₂, a₂, w₂, hq₂, harr₂⟩ := ih (μ s') (hj ▸ hlt) s' rfl hp' a₁ w₁ ha' hw'
        exact ⟨e₂, a₂, w₂, hq₂, .of_steps (StepsIn.trans harr (.one (fenced_calm hb hr rfl) stepR_inLoop)) harr₂⟩
      | exit id => exact ⟨_, a₁, w₁, hq, .pass (x := .inLoop c) rfl (fun _ _ => .inl (by simp)) harr⟩
      | goto l => exact ⟨_, a₁, w₁, hq, .pass (x := .inLoop c) rfl (fun _ _ => .inl (by simp)) harr⟩
      | ret => exact ⟨_, a₁, w₁, hq, .pass (x := .inLoop c) rfl (fun _ _ => .inl (by simp)) harr⟩
      | panic ch => exact ⟨_, a₁, w₁, hq, .pass (x := .inLoop c) rfl (fun _ _ => .inl (by simp)) harr⟩
      | outgrown => exact ⟨_, a₁, w₁, hq, .pass (x := .inLoop c) rfl (fun _ _ => .inl (by simp)) harr⟩
  obtain ⟨ex, a', w', hq, harr⟩ := key _ s0 rfl h0 a w (ha.sub he) (hI w hw)
  exact ⟨ex, a', w', hq, .of_steps (.one (fenced_calm hb hr rfl) stepR_loop) harr⟩
theorem jk_round {σ : Type} {E : σ → Env} {J : σ → List Itm} {p : σ → Prop} {m : Nat} {μ : σ → Nat} (s' : σ) (hp : p s') (hm : μ s' < m) (he : Sub (E s') e) (hI : ∀ w, St X.w0 X.M Is w → St X.w0 X.M (J s') w) :
    Jk X ((Exit.then (fun a w => ∃ s', p s' ∧ μ s' < m ∧ Sat X.N (E s') X.ds a ∧ St X.w0 X.M (J s') w) Q) .normal) e Is := fun _ w ha hw => ⟨s', hp, hm, ha.sub he, hI w hw⟩
end rules

theorem sat_args {N : Nat} {args : Array Value} {e : Env} (hs : Sub e ((args.toList ++ List.replicate (N - args.size) undef).zipIdx.map fun x => (x.2, x.1))) (hN : args.size + (N - args.size) = N) : Sat N e [] { tmps := args ++ Array.replicate (N - args.size) undef, defers := [] } := by
  refine ⟨by simpa using hN, rfl, fun i v hv => ?_⟩
  have hv := hs.look hv
  have key : ∀ (l : List Value) (k i : Nat) (v : Value), look ((l.zipIdx k).map fun x => (x.2, x.1)) i = some v → k ≤ i ∧ l[i - k]? = some v := by
    intro l
    induction l with
    | nil => intro k i v h; simp [look] at h
    | cons x l ih =>
      intro k i v h
      simp only [List.zipIdx_cons, List.map_cons, look] at h
      cases hb : Nat.beq k i with
      | true => rw [hb] at h; have := Nat.eq_of_beq_eq_true hb; subst this; simp at h; simp [h]
      | false =>
        rw [hb] at h
        obtain ⟨h1, h2⟩ := ih (k + 1) i v h
        refine ⟨by omega, ?_⟩
        have : i - k = (i - (k + 1)) + 1 := by omega
        rw [this, List.getElem?_cons_succ]; exact h2
  have := (key _ 0 i v hv).2
  rw [Nat.sub_zero] at this
  rw [← this, ← Array.getElem?_toList]
  simp
/-- A function's contract from its body. -/
theorem fn_body {P : Program} {f : FuncId} {fn : Func} {c : Code} {args : Array Value} {w : World} {R : Value → World → Prop} {M : Nat → Prop} {Is : List Itm} (hf : P.funcs[f]? = some fn) (hb : fn.body = some c) (e : Env)
    (hs : Sub e ((args.toList ++ List.replicate (fn.ntmps - args.size) undef).zipIdx.map fun x => (x.2, x.1))) (hN : args.size + (fn.ntmps - args.size) = fn.ntmps) (hst : St w M Is w)
    (h : Jc ⟨P, none, fn.ntmps, [], w, M⟩ (bodyPost P fn fun e w' => ∃ v, e = .returned v ∧ R v w') e Is c) : Does P f args w R :=
  callsIn_of_wp hf hb trivial (h _ _ (sat_args hs hN) hst) rfl
theorem jk_fn_ret {X : Cx} {fn : Func} {R : Value → World → Prop} {e : Env} {Is : List Itm} {t : Tmp} {v : Value} (hds : X.ds = []) (hr : fn.results = #[.tmp t]) (hv : look e t = some v) (h : ∀ w, St X.w0 X.M Is w → R v w) :
    Jk X (bodyPost X.P fn (fun e w' => ∃ v, e = .returned v ∧ R v w') .ret) e Is := fun a w ha hw => by
  have h1 := ha.eval (o := .tmp t) hv
  refine ⟨ha.defers.trans hds, v, ?_, v, rfl, h w hw⟩
  rw [results_tmp hr]
  simp only [Act.eval] at h1
  rw [h1]
theorem jk_fn_ret2 {X : Cx} {fn : Func} {R : Value → World → Prop} {e : Env} {Is : List Itm} {t u : Tmp} {v v' : Value} (hds : X.ds = []) (hr : fn.results = #[.tmp t, .tmp u]) (hv : look e t = some v) (hv' : look e u = some v')
    (h : ∀ w, St X.w0 X.M Is w → R (.tuple #[v, v']) w) :
    Jk X (bodyPost X.P fn (fun e w' => ∃ v, e = .returned v ∧ R v w') .ret) e Is := fun a w ha hw => by
  have h1 := ha.eval (o := .tmp t) hv
  have h2 := ha.eval (o := .tmp u) hv'
  refine ⟨ha.defers.trans hds, _, ?_, _, rfl, h w hw⟩
  rw [results_tmp2 hr]
  simp only [Act.eval] at h1 h2
  rw [h1, h2]
theorem jk_fn_end0 {X : Cx} {fn : Func} {R : Value → World → Prop} {e : Env} {Is : List Itm} (hds : X.ds = []) (hr : fn.results = #[]) (h : ∀ w, St X.w0 X.M Is w → R (.tuple #[]) w) :
    Jk X (bodyPost X.P fn (fun e w' => ∃ v, e = .returned v ∧ R v w') .normal) e Is := fun a w ha hw => by
  refine ⟨ha.defers.trans hds, _, ?_, _, rfl, h w hw⟩
  rw [results_none hr]
theorem jk_fn_ret0 {X : Cx} {fn : Func} {R : Value → World → Prop} {e : Env} {Is : List Itm} (hds : X.ds = []) (hr : fn.results = #[]) (h : ∀ w, St X.w0 X.M Is w → R (.tuple #[]) w) :
    Jk X (bodyPost X.P fn (fun e w' => ∃ v, e = .returned v ∧ R v w') .ret) e Is := fun a w ha hw => by
  refine ⟨ha.defers.trans hds, _, ?_, _, rfl, h w hw⟩
  rw [results_none hr]
end Go.SL
