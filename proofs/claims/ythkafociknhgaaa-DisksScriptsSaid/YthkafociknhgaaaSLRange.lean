/- A range over a function, over the session's own judgements: the statement, its rounds, a call of yield; functions that leave with a mark. -/
import Derived.Test.YthkafociknhgaaaSLList
import Derived.RangeFuncRecord
namespace Go.SL
open Go

def mark (D : Nat) : Deferred := { target := .collected D, args := #[] }
def Rec (fn : FuncId) (tmps : Array Value) (ps : Array Tmp) (assign body : Code) (D : Nat) (st : LoopState) (pe : Option Code) : Loop := { state := st, pending := pe, fn, tmps, params := ps, assign, body, defers := D }
/-- A call of yield that comes back. -/
def Yl (P : Program) (l : Nat) (vs : List Value) (w : World) (R : Value → World → Prop) : Prop :=
  ∃ fn tmps assign body, (Instr.yield l vs.toArray).run P w = .ok (.round l fn tmps assign body) w ∧ RoundIn (FW none) 0 P l fn tmps assign body w fun e w' => ∃ v, e = .returned v ∧ R v w'
theorem Yl.mono {P : Program} {l : Nat} {vs : List Value} {w : World} {R R' : Value → World → Prop} (h : Yl P l vs w R) (hr : ∀ v w', R v w' → R' v w') : Yl P l vs w R' := by
  obtain ⟨fn, tmps, assign, body, h1, h2⟩ := h
  exact ⟨fn, tmps, assign, body, h1, h2.mono fun e w' ⟨v, he, hv⟩ => ⟨v, he, hr v w' hv⟩⟩
def bindP : List Tmp → List Value → Env → Env
  | p :: ps, v :: vs, e => bindP ps vs ((p, v) :: e)
  | _, _, e => e
theorem sat_bind {N : Nat} : ∀ (ps : List Tmp) (vs : List Value) (e : Env) (tm : Array Value), ps.all (fun p => Nat.blt p N) = true → Sat N e [] { tmps := tm, defers := [] } →
    Sat N (bindP ps vs e) [] { tmps := (ps.zip vs).foldl (fun t (x : Tmp × Value) => t.setIfInBounds x.1 x.2) tm, defers := [] }
  | [], vs, e, tm, _, h => by cases vs <;> exact h
  | p :: ps, [], e, tm, _, h => h
  | p :: ps, v :: vs, e, tm, hp, h => by
    simp only [List.all_cons, Bool.and_eq_true] at hp
    exact sat_bind ps vs ((p, v) :: e) (tm.setIfInBounds p v) hp.2 (h.put hp.1 v)

section
variable {X : Cx} {K : Act → World → Prop} {Q : Exit → Act → World → Prop} {e : Env} {Is : List Itm}
/-- The way into a round's body. -/
def RoundQ (P : Program) (l : Nat) (body : Code) (R : Value → World → Prop) : Exit → Act → World → Prop :=
  Exit.then (fun a₁ w₁ => ∃ w₂, (Instr.beginRound l).run P w₁ = .ok () w₂ ∧ body.wpIn (FW (some l)) 0 P (roundPost P l fun e w' => ∃ v, e = .returned v ∧ R v w') a₁ w₂) (fun _ _ _ => False)
theorem jc_rangeFunc {fo : Operand} {ps : Array Tmp} {assign body : Code} {gf : FuncId} {cl : List Value} (hro : X.ro = none) (hf : ev e fo = some (.func (.func gf) #[] cl.toArray)) (htx : Txt X.P gf) (hps : ps.toList.all (fun p => Nat.blt p X.N) = true)
    (G : Nat → Option Code → List Itm → Prop)
    (call : ∀ (D l : Nat) (fn : FuncId) (tm : Array Value),
      (∀ (vs : List Value) (Is1 : List Itm) (R : Value → World → Prop), vs.length = ps.size →
        Jc ⟨X.P, some l, X.N, [], X.w0, X.M⟩ (RoundQ X.P l body R) (bindP ps.toList vs e) (blk l (.loop (Rec fn tm ps assign body D .ready none)) :: Is1) assign →
        ∀ w, St X.w0 X.M (blk l (.loop (Rec fn tm ps assign body D .ready none)) :: Is1) w → Yl X.P l vs w R) →
      ∀ w, St X.w0 X.M (blk l (.loop (Rec fn tm ps assign body D .ready none)) :: blk D (.deferred (some [])) :: Is) w →
        Does X.P gf (Value.func (.yield l) #[] #[] :: cl).toArray w fun _ w' => ∃ st pe Is', st ≠ .busy ∧ G D pe Is' ∧ St X.w0 X.M (blk l (.loop (Rec fn tm ps assign body D st pe)) :: Is') w')
    (after : ∀ D pe Is', G D pe Is' → match pe with
      | none => Jk ⟨X.P, X.ro, X.N, mark D :: X.ds, X.w0, X.M⟩ (Q .normal) e Is'
      | some c => Jc ⟨X.P, X.ro, X.N, mark D :: X.ds, X.w0, X.M⟩ Q e Is' c) : Jc X Q e Is (.rangeFunc fo ps assign body) := by
  intro a w ha hw
  refine wpIn_rangeFunc ?_
  intro fn _
  have hro' : (FW X.ro).round = none := hro
  rw [hro']
  have hst : St X.w0 X.M (blk (w.heap.size + 1) (.loop (Rec fn a.tmps ps assign body w.heap.size .ready none)) :: blk w.heap.size (.deferred (some [])) :: Is)
      ((w.alloc (.deferred (some []))).alloc (.loop (Rec fn a.tmps ps assign body w.heap.size .ready none))) := by
    have h1 := hw.alloc (.deferred (some []))
    have h2 := h1.alloc (.loop (Rec fn a.tmps ps assign body w.heap.size .ready none))
    have hsz : ({ w with heap := w.heap.push (.deferred (some [])) } : World).heap.size = w.heap.size + 1 := by simp
    rw [hsz] at h2
    exact h2
  refine ⟨w.heap.size + 1, [mark w.heap.size], (w.alloc (.deferred (some []))).alloc (.loop (Rec fn a.tmps ps assign body w.heap.size .ready none)),
    { target := .fn (.func gf) cl.toArray, args := #[.func (.yield (w.heap.size + 1)) #[] #[]] }, (w.alloc (.deferred (some []))).alloc (.loop (Rec fn a.tmps ps assign body w.heap.size .ready none)), gf,
    (Value.func (.yield (w.heap.size + 1)) #[] #[] :: cl).toArray, (w.alloc (.deferred (some []))).alloc (.loop (Rec fn a.tmps ps assign body w.heap.size .ready none)), ?_, ?_, fun _ _ => trivial, ?_, fun h => by simp at h, ?_⟩
  · exact run_enterLoop_outer _ _ _ _ _
  · have hev : a.eval (.const (.func (.yield (w.heap.size + 1)) #[] #[])) = .func (.yield (w.heap.size + 1)) #[] #[] := rfl
    simp [resolve, Deferred.ofValue, ha.eval hf, hev]
  · simp [invoke, run_callFunc htx]
  · have hround : ∀ (vs : List Value) (Is1 : List Itm) (R : Value → World → Prop), vs.length = ps.size →
        Jc ⟨X.P, some (w.heap.size + 1), X.N, [], X.w0, X.M⟩ (RoundQ X.P (w.heap.size + 1) body R) (bindP ps.toList vs e) (blk (w.heap.size + 1) (.loop (Rec fn a.tmps ps assign body w.heap.size .ready none)) :: Is1) assign →
        ∀ w', St X.w0 X.M (blk (w.heap.size + 1) (.loop (Rec fn a.tmps ps assign body w.heap.size .ready none)) :: Is1) w' → Yl X.P (w.heap.size + 1) vs w' R := by
      intro vs Is1 R hlen hj w' hw'
      have hl := hw'.get (.here _)
      refine ⟨fn, _, assign, body, run_yield hl (by simp [Rec, hlen]), roundIn_of_wpIn (F := FW none) trivial ?_⟩
      have hs0 : Sat X.N e [] { tmps := a.tmps, defers := [] } := ⟨ha.size, rfl, ha.val⟩
      have hs := sat_bind ps.toList vs e a.tmps hps hs0
      have heq : (((Rec fn a.tmps ps assign body w.heap.size .ready none).params.zip vs.toArray).foldl (fun tmps (x : Tmp × Value) => tmps.setIfInBounds x.1 x.2) (Rec fn a.tmps ps assign body w.heap.size .ready none).tmps) = ((ps.toList.zip vs).foldl (fun t (x : Tmp × Value) => t.setIfInBounds x.1 x.2) a.tmps) := by
        rw [← Array.foldl_toList]
        simp [Rec]
      have := hj _ _ (by rw [← heq] at hs; exact hs) hw'
      exact this
    refine CallsIn.mono (call w.heap.size (w.heap.size + 1) fn a.tmps hround _ hst) ?_
    rintro en w3 ⟨v, rfl, st, pe, Is', hbusy, hG, hst3⟩
    have hl := hst3.get (.here _)
    have hst4 := (hst3.set (.here _) (Turned.setObj hl (.loop (Rec fn a.tmps ps assign body w.heap.size .exhausted pe)))).drop
    have ha' : Sat X.N e (mark w.heap.size :: X.ds) { a with defers := [mark w.heap.size] ++ a.defers } := ⟨ha.size, by simp [ha.defers], ha.val⟩
    have haf := after w.heap.size pe Is' hG
    refine ⟨pe, _, run_endLoop hl hbusy, ?_⟩
    cases pe with
    | none => exact haf _ _ ha' hst4
    | some c => exact haf _ _ ha' hst4
/-- 'beginRound': the record is busy. -/
theorem jk_begin {l : Nat} {body : Code} {R : Value → World → Prop} {fn : FuncId} {tm : Array Value} {ps : Array Tmp} {as bd : Code} {D : Nat} {Is' : List Itm} (hro : X.ro = some l) (hp : Pk (blk l (.loop (Rec fn tm ps as bd D .ready none))) Is Is')
    (h : Jc X (roundPost X.P l fun e w' => ∃ v, e = .returned v ∧ R v w') e (blk l (.loop (Rec fn tm ps as bd D .busy none)) :: Is') body) : Jk X (RoundQ X.P l body R .normal) e Is := fun a w ha hw => by
  have hl := hw.get hp
  refine ⟨_, run_beginRound hl rfl, ?_⟩
  have := h a _ ha (hw.set hp (Turned.setObj hl (.loop (Rec fn tm ps as bd D .busy none))))
  rw [hro] at this
  exact this
theorem jk_round_next {l : Nat} {R : Value → World → Prop} {fn : FuncId} {tm : Array Value} {ps : Array Tmp} {as bd : Code} {D : Nat} {Is' : List Itm} (hp : Pk (blk l (.loop (Rec fn tm ps as bd D .busy none))) Is Is')
    (h : ∀ w, St X.w0 X.M (blk l (.loop (Rec fn tm ps as bd D .ready none)) :: Is') w → R (.bool true) w) : Jk X (roundPost X.P l (fun e w' => ∃ v, e = .returned v ∧ R v w') .normal) e Is := fun a w ha hw => by
  have hl := hw.get hp
  exact ⟨_, _, run_endRound none hl, _, rfl, h _ (hw.set hp (Turned.setObj hl (.loop (Rec fn tm ps as bd D .ready none))))⟩
theorem jk_round_exit {l id : Nat} {R : Value → World → Prop} {fn : FuncId} {tm : Array Value} {ps : Array Tmp} {as bd : Code} {D : Nat} {Is' : List Itm} (hp : Pk (blk l (.loop (Rec fn tm ps as bd D .busy none))) Is Is')
    (h : ∀ w, St X.w0 X.M (blk l (.loop (Rec fn tm ps as bd D .done (some (.exit id)))) :: Is') w → R (.bool false) w) : Jk X (roundPost X.P l (fun e w' => ∃ v, e = .returned v ∧ R v w') (.exit id)) e Is := fun a w ha hw => by
  have hl := hw.get hp
  exact ⟨_, _, run_endRound (some (.exit id)) hl, _, rfl, h _ (hw.set hp (Turned.setObj hl (.loop (Rec fn tm ps as bd D .done (some (.exit id))))))⟩
theorem jk_round_ret {l : Nat} {R : Value → World → Prop} {fn : FuncId} {tm : Array Value} {ps : Array Tmp} {as bd : Code} {D : Nat} {Is' : List Itm} (hp : Pk (blk l (.loop (Rec fn tm ps as bd D .busy none))) Is Is')
    (h : ∀ w, St X.w0 X.M (blk l (.loop (Rec fn tm ps as bd D .done (some .ret))) :: Is') w → R (.bool false) w) : Jk X (roundPost X.P l (fun e w' => ∃ v, e = .returned v ∧ R v w') .ret) e Is := fun a w ha hw => by
  have hl := hw.get hp
  exact ⟨_, _, run_endRound (some .ret) hl, _, rfl, h _ (hw.set hp (Turned.setObj hl (.loop (Rec fn tm ps as bd D .done (some .ret)))))⟩
variable {dst : Option Tmp} {ty : TypeId} {pos : String} {aft : Array Edge} {g : Option (Nat × Bool)}
/-- The iterator calls yield. -/
theorem eff_yield {fo : Operand} {l : Nat} {as : Array Operand} {ts : Array TypeId} {vs : List Value} {G : Value → List Itm → Prop} (hf : ev e fo = some (.func (.yield l) #[] #[])) (has : evs e as.toList = some vs)
    (h : ∀ w, St X.w0 X.M Is w → Yl X.P l vs w fun v w' => ∃ Is', G v Is' ∧ St X.w0 X.M Is' w') : Eff X e Is ⟨dst, .call ⟨.value fo, as, ts⟩, ty, pos, aft, g⟩ G := fun a w ha hw => by
  obtain ⟨fn, tmps, assign, body, hy, hR⟩ := h w hw
  refine ⟨fun _ _ => trivial, ?_⟩
  show Oper.uponIn _ _ _ _ _ _ _ ((Oper.semAt X.ro a.eval _).run X.P w)
  rw [Oper.semAt_eq _ _ _ (by intro c; simp)]
  have hr : (execOp a.eval (⟨dst, .call ⟨.value fo, as, ts⟩, ty, pos, aft, g⟩ : Oper)).run X.P w = .ok (.round l fn tmps assign body) w := by
    simp only [execOp, resolve, Sem.run_bind, ha.eval hf, evs_arr ha has, Deferred.ofValue, Sem.run_pure, Result.andThen_ok, invoke]
    simpa using hy
  rw [hr]
  refine ⟨fun h => by simp at h, RoundIn.mono hR ?_⟩
  rintro en w' ⟨v, rfl, Is', hG, hst⟩
  exact ⟨v, Is', rfl, hG, hst⟩
end

/-! ### functions -/
/-- A function's contract from its body, told of whatever memory the caller speaks of. -/
theorem fn_bodyX {P : Program} {f : FuncId} {fn : Func} {c : Code} {args : Array Value} {w0 w : World} {R : Value → World → Prop} {M : Nat → Prop} {Is : List Itm} (hf : P.funcs[f]? = some fn) (hb : fn.body = some c) (e : Env)
    (hs : Sub e ((args.toList ++ List.replicate (fn.ntmps - args.size) undef).zipIdx.map fun x => (x.2, x.1))) (hN : args.size + (fn.ntmps - args.size) = fn.ntmps) (hst : St w0 M Is w)
    (h : Jc ⟨P, none, fn.ntmps, [], w0, M⟩ (bodyPost P fn fun e w' => ∃ v, e = .returned v ∧ R v w') e Is c) : Does P f args w R := by
  refine callsIn_of_wp hf hb trivial (h _ _ (sat_args hs hN) hst) rfl
theorem fn_bodyM {P : Program} {f : FuncId} {fn : Func} {c : Code} {args : Array Value} {w0 w : World} {R : Value → World → Prop} {M : Nat → Prop} {Is : List Itm} (hf : P.funcs[f]? = some fn) (hb : fn.body = some c) (e : Env)
    (hs : Sub e ((args.toList ++ List.replicate (fn.ntmps - args.size) undef).zipIdx.map fun x => (x.2, x.1))) (hN : args.size + (fn.ntmps - args.size) = fn.ntmps) (hst : St w0 M Is w)
    (h : Jc ⟨P, none, fn.ntmps, [], w0, M⟩ (bodyPostM (FW none) 0 P fn fun e w' => ∃ v, e = .returned v ∧ R v w') e Is c) : Does P f args w R := by
  refine callsIn_of_wp_marks hf hb trivial (h _ _ (sat_args hs hN) hst) rfl
theorem run_take_st {w0 : World} {M : Nat → Prop} {Is Is' : List Itm} {w : World} {P : Program} {D : Nat} (hw : St w0 M Is w) (hp : Pk (blk D (.deferred (some []))) Is Is') : ∃ w', (Instr.takeDeferred D).run P w = .ok [] w' ∧ St w0 M Is' w' :=
  ⟨_, run_takeDeferred (hw.get hp), (hw.set hp (Turned.setObj (hw.get hp) (.deferred none))).drop⟩
theorem jk_fnM {X : Cx} {fn : Func} {R : Value → World → Prop} {e : Env} {Is : List Itm} {v : Value} (hds : X.ds = []) (hr : ∀ a w, Sat X.N e X.ds a → (results fn a.tmps).run X.P w = .ok v w) (h : ∀ w, St X.w0 X.M Is w → R v w) :
    Jk X (bodyPostM (FW none) 0 X.P fn (fun e w' => ∃ v, e = .returned v ∧ R v w') .ret) e Is := fun a w ha hw => by
  show LeavesInM _ _ _ _ _ _ a.defers _ _
  rw [ha.defers, hds]
  exact ⟨v, hr a w ha, v, rfl, h w hw⟩
theorem jk_fnM1 {X : Cx} {fn : Func} {R : Value → World → Prop} {e : Env} {Is Is' : List Itm} {v : Value} {D : Nat} (hds : X.ds = [mark D]) (hr : ∀ a w, Sat X.N e X.ds a → (results fn a.tmps).run X.P w = .ok v w) (hp : Pk (blk D (.deferred (some []))) Is Is') (h : ∀ w, St X.w0 X.M Is' w → R v w) :
    Jk X (bodyPostM (FW none) 0 X.P fn (fun e w' => ∃ v, e = .returned v ∧ R v w') .ret) e Is := fun a w ha hw => by
  show LeavesInM _ _ _ _ _ _ a.defers _ _
  rw [ha.defers, hds]
  obtain ⟨w', h1, h2⟩ := run_take_st (P := X.P) hw hp
  exact ⟨by simp, .inl ⟨D, w', rfl, h1, v, hr a w' ha, v, rfl, h w' h2⟩⟩
theorem res1 {X : Cx} {fn : Func} {e : Env} {t : Tmp} {v : Value} (hr : fn.results = #[.tmp t]) (hv : look e t = some v) : ∀ a w, Sat X.N e X.ds a → (results fn a.tmps).run X.P w = .ok v w := fun a w ha => by
  have h1 := ha.eval (o := .tmp t) hv
  rw [results_tmp hr]
  simp only [Act.eval] at h1
  rw [h1]
theorem res2 {X : Cx} {fn : Func} {e : Env} {t u : Tmp} {v v' : Value} (hr : fn.results = #[.tmp t, .tmp u]) (hv : look e t = some v) (hv' : look e u = some v') : ∀ a w, Sat X.N e X.ds a → (results fn a.tmps).run X.P w = .ok (.tuple #[v, v']) w := fun a w ha => by
  have h1 := ha.eval (o := .tmp t) hv
  have h2 := ha.eval (o := .tmp u) hv'
  rw [results_tmp2 hr]
  simp only [Act.eval] at h1 h2
  rw [h1, h2]
end Go.SL
