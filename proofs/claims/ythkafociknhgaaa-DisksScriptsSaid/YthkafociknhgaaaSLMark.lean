/- Functions that leave behind a range over a function, with results in cells; facts as items. -/
import Derived.Test.YthkafociknhgaaaSLSame
namespace Go.SL
open Go
structure pu (p : Prop) (h : Hlt) : Prop where
  cut : p ∧ ∀ k, h k = none
theorem St.pu_mk {p : Prop} (hp : p) {w0 w : World} {M : Nat → Prop} {Is : List Itm} (h : St w0 M Is w) : St w0 M (pu p :: Is) w :=
  h.reSep fun H hs => ⟨fun _ => none, H, ⟨⟨hp, fun _ => rfl⟩⟩, hs, fun _ => .inl rfl, fun k => by simp⟩
theorem St.pu_get {p : Prop} {w0 w : World} {M : Nat → Prop} {Is Is' : List Itm} (h : St w0 M Is w) (hp : Pk (pu p) Is Is') : p := by
  obtain ⟨_, _, _, _, H, ⟨h1, h2, i1, _⟩, _⟩ := h.pk hp
  exact i1.cut.1
theorem jk_pu {p : Prop} {X : Cx} {K : Act → World → Prop} {e : Env} {Is Is' : List Itm} (hp : Pk (pu p) Is Is') (h : p → Jk X K e Is') : Jk X K e Is := fun a w ha hw => h (hw.pu_get hp) a w ha (hw.pk hp).drop
theorem jk_fnMs {X : Cx} {fn : Func} {R : Value → World → Prop} {e : Env} {Is : List Itm} {v : Value} (hds : X.ds = []) (hr : ∀ a w, Sat X.N e X.ds a → St X.w0 X.M Is w → (results fn a.tmps).run X.P w = .ok v w) (h : ∀ w, St X.w0 X.M Is w → R v w) :
    Jk X (bodyPostM (FW none) 0 X.P fn (fun e w' => ∃ v, e = .returned v ∧ R v w') .ret) e Is := fun a w ha hw => by
  show LeavesInM _ _ _ _ _ _ a.defers _ _
  rw [ha.defers, hds]
  exact ⟨v, hr a w ha hw, v, rfl, h w hw⟩
theorem jk_fnM1s {X : Cx} {fn : Func} {R : Value → World → Prop} {e : Env} {Is Is' : List Itm} {v : Value} {D : Nat} (hds : X.ds = [mark D]) (hp : Pk (blk D (.deferred (some []))) Is Is') (hr : ∀ a w, Sat X.N e X.ds a → St X.w0 X.M Is' w → (results fn a.tmps).run X.P w = .ok v w) (h : ∀ w, St X.w0 X.M Is' w → R v w) :
    Jk X (bodyPostM (FW none) 0 X.P fn (fun e w' => ∃ v, e = .returned v ∧ R v w') .ret) e Is := fun a w ha hw => by
  show LeavesInM _ _ _ _ _ _ a.defers _ _
  rw [ha.defers, hds]
  obtain ⟨w', h1, h2⟩ := run_take_st (P := X.P) hw hp
  exact ⟨by simp, .inl ⟨D, w', rfl, h1, v, hr a w' ha h2, v, rfl, h w' h2⟩⟩
theorem jk_fnM1s_end {X : Cx} {fn : Func} {R : Value → World → Prop} {e : Env} {Is Is' : List Itm} {v : Value} {D : Nat} (hds : X.ds = [mark D]) (hp : Pk (blk D (.deferred (some []))) Is Is') (hr : ∀ a w, Sat X.N e X.ds a → St X.w0 X.M Is' w → (results fn a.tmps).run X.P w = .ok v w) (h : ∀ w, St X.w0 X.M Is' w → R v w) :
    Jk X (bodyPostM (FW none) 0 X.P fn (fun e w' => ∃ v, e = .returned v ∧ R v w') .normal) e Is := fun a w ha hw => by
  show LeavesInM _ _ _ _ _ _ a.defers _ _
  rw [ha.defers, hds]
  obtain ⟨w', h1, h2⟩ := run_take_st (P := X.P) hw hp
  exact ⟨by simp, .inl ⟨D, w', rfl, h1, v, hr a w' ha h2, v, rfl, h w' h2⟩⟩
theorem resc2 {X : Cx} {fn : Func} {e : Env} {Is : List Itm} {x y : Tmp} {t u : TypeId} {b b' : Nat} {v v' : Value} {el el' : TypeId} (hr : fn.results = #[.cell x t, .cell y u]) (hx : look e x = some (.pointer (some ⟨b, 0, none⟩))) (hy : look e y = some (.pointer (some ⟨b', 0, none⟩)))
    (hna : NoAgg X.P t) (hnb : NoAgg X.P u) (hb : Rd X Is b (.cells #[v] el (0, 0))) (hb' : Rd X Is b' (.cells #[v'] el' (0, 0))) : ∀ a w, Sat X.N e X.ds a → St X.w0 X.M Is w → (results fn a.tmps).run X.P w = .ok (.tuple #[v, v']) w := fun a w ha hw => by
  have h1 := ha.eval (o := .tmp x) hx
  have h2 := ha.eval (o := .tmp y) hy
  simp only [Act.eval, Array.getD_eq_getD_getElem?] at h1 h2
  simp [results, hr, h1, h2, asAddr, loadVar, run_isAgg_no hna, run_isAgg_no hnb, cell_of (hb w hw) (show (#[v] : Array Value)[0]? = some v from rfl), cell_of (hb' w hw) (show (#[v'] : Array Value)[0]? = some v' from rfl)]
theorem jk_fn_ret3 {X : Cx} {fn : Func} {R : Value → World → Prop} {e : Env} {Is : List Itm} {t u r : Tmp} {v v' v2 : Value} (hds : X.ds = []) (hr : fn.results = #[.tmp t, .tmp u, .tmp r]) (hv : look e t = some v) (hv' : look e u = some v') (hv2 : look e r = some v2)
    (h : ∀ w, St X.w0 X.M Is w → R (.tuple #[v, v', v2]) w) :
    Jk X (bodyPost X.P fn (fun e w' => ∃ v, e = .returned v ∧ R v w') .ret) e Is := fun a w ha hw => by
  have h1 := ha.eval (o := .tmp t) hv
  have h2 := ha.eval (o := .tmp u) hv'
  have h3 := ha.eval (o := .tmp r) hv2
  simp only [Act.eval, Array.getD_eq_getD_getElem?] at h1 h2 h3
  refine ⟨ha.defers.trans hds, _, ?_, _, rfl, h w hw⟩
  simp [results, hr, h1, h2, h3]
theorem jo_ownmk {X : Cx} {ops : Array Oper} {K : Act → World → Prop} {e : Env} {Is Is' : List Itm} {rest : List Oper} {b n cap size : Nat} {cur : Array Value} {el : TypeId} {xs : List Value} (hp : Pk (blk b (.cells cur el (0, 0))) Is Is') (h1 : n ≤ cap) (h2 : cap ≤ maxLen) (h3 : cur.size = cap * size) (h4 : cur.toList.take (n * size) = xs)
    (h : Jo X ops K e (own (.slice (some ⟨b, 0, none⟩) n cap) el size n xs :: Is') rest) : Jo X ops K e Is rest := jk_own_mk hp h1 h2 h3 h4 h
section
variable {X : Cx} {e : Env} {Is : List Itm} {dst : Option Tmp} {ty : TypeId} {pos : String} {aft : Array Edge} {g : Option (Nat × Bool)} {x y : Operand} {t t' : TypeId}
theorem opv_rem_nat {k : IntKind} {m n : Nat} (hx : ev e x = some (.int k (m : Int))) (hy : ev e y = some (.int k (n : Int))) (h1 : 0 < n) : Opv X e Is ⟨dst, .binOp .rem t x y t', ty, pos, aft, g⟩ (.int k ((m % n : Nat) : Int)) := by
  have := opv_rem (X := X) (Is := Is) (dst := dst) (ty := ty) (pos := pos) (aft := aft) (g := g) (t := t) (t' := t') hx hy (by omega) (by omega)
  rw [show ((m : Int) % (n : Int)) = ((m % n : Nat) : Int) from (Int.natCast_emod m n).symm] at this
  exact this
theorem opv_beq_same {a : Bool} (hx : ev e x = some (.bool a)) (hy : ev e y = some (.bool a)) (hu : X.P.underlying t = some .bool) : Opv X e Is ⟨dst, .binOp .eql t x y t', ty, pos, aft, g⟩ (.bool true) := by
  have := opv_beq (X := X) (Is := Is) (dst := dst) (ty := ty) (pos := pos) (aft := aft) (g := g) (t := t) (t' := t') hx hy hu
  rw [beq_self_eq_true] at this
  exact this
theorem opv_seq_true {a b : ByteArray} (hx : ev e x = some (.string a)) (hy : ev e y = some (.string b)) (h : a = b) : Opv X e Is ⟨dst, .binOp .eql t x y t', ty, pos, aft, g⟩ (.bool true) := by
  have := opv_seq (X := X) (Is := Is) (dst := dst) (ty := ty) (pos := pos) (aft := aft) (g := g) (t := t) (t' := t') hx hy
  rw [decide_eq_true h] at this
  exact this
theorem opv_add_nat {m n : Nat} (hx : ev e x = some (.int .i64 (m : Int))) (hy : ev e y = some (.int .i64 (n : Int))) (h1 : m + n ≤ 9223372036854775807) : Opv X e Is ⟨dst, .binOp .add t x y t', ty, pos, aft, g⟩ (.int .i64 ((m + n : Nat) : Int)) :=
  opv_add hx hy (wrap64_ok (by omega))
end
end Go.SL
