/- Keys that are pairs of whole numbers: equality, and a map's laws. -/
import Derived.Test.YthkafociknhgaaaSLMore
import Derived.ChangeKeysEq
namespace Go.SL
open Go
def kvP (q : IntKind) (p : Int × Int) : Value := .agg #[.int q p.1, .int q p.2]
theorem info_some {P : Program} {e : TypeId} {d : TypeDesc} (h : P.underlying e = some d) : ∃ i, P.info? e = some i := by
  unfold Program.underlying at h
  cases hi : P.info? e with
  | none => simp [hi] at h
  | some i => exact ⟨i, rfl⟩
/-- What must hold of the type of a pair. -/
structure PairT (P : Program) (t e : TypeId) (q : IntKind) : Prop where
  arr : P.underlying t = some (.array 2 e)
  el : P.underlying e = some (.int q)
  info : ∃ i, P.info? e = some i
  one : P.cellsOf e = 1
  na : NoAgg P e
theorem run_part_int {P : Program} {e : TypeId} (h : NoAgg P e) {cs : Array Value} {off : Nat} {v : Value} (hc : cs[off]? = some v) (w : World) : (part e cs off).run P w = .ok v w := by
  simp [part, run_isAgg_no h, hc]
theorem run_equal_pair {P : Program} {t e : TypeId} {q : IntKind} (T : PairT P t e q) (a b : Int × Int) (d : Nat) (w : World) : (Op.equalIn (d + 2) t (kvP q a) (kvP q b)).run P w = .ok (decide (a = b)) w := by
  obtain ⟨i, hi⟩ := T.info
  unfold kvP
  rw [run_equalIn_array w (d + 1) _ _ T.arr hi, T.one]
  have h0 : List.range 2 = [0, 1] := rfl
  have e0 : ∀ (x y : Int) (w : World), (Op.equalIn (d + 1) e (.int q x) (.int q y)).run P w = .ok (x == y) w := fun x y w => run_equalIn_int w d e q q x y T.el
  have p0 : ∀ (x y : Int) (w : World), (part e #[.int q x, .int q y] 0).run P w = .ok (.int q x) w := fun x y w => run_part_int T.na rfl w
  have p1 : ∀ (x y : Int) (w : World), (part e #[.int q x, .int q y] 1).run P w = .ok (.int q y) w := fun x y w => run_part_int T.na rfl w
  rw [h0]
  simp only [Op.eqItems, Sem.run_bind, Nat.zero_mul, Nat.one_mul, p0, p1, Result.andThen_ok, e0]
  obtain ⟨a1, a2⟩ := a
  obtain ⟨b1, b2⟩ := b
  by_cases h1 : a1 = b1
  · subst h1
    by_cases h2 : a2 = b2
    · subst h2; simp [e0, p0, p1]
    · simp [h2, e0, p0, p1]
  · simp [h1]
theorem KL.pair {P : Program} {t e : TypeId} {q : IntKind} (T : PairT P t e q) : KL P t (kvP q) where
  check k b w := by
    obtain ⟨i, hi⟩ := T.info
    have inner : ∀ (n : Nat) (x : Int) (w : World), (Instr.checkKey b (n + 1) e (.int q x)).run P w = .ok () w := fun n x w => by
      simp only [Instr.checkKey, Sem.run_bind, run_underlying' T.el w, Result.andThen_ok]; rfl
    have p0 : ∀ (x y : Int) (w : World), (part e #[.int q x, .int q y] 0).run P w = .ok (.int q x) w := fun x y w => run_part_int T.na rfl w
    have p1 : ∀ (x y : Int) (w : World), (part e #[.int q x, .int q y] 1).run P w = .ok (.int q y) w := fun x y w => run_part_int T.na rfl w
    have key : ∀ n, (Instr.checkKey b (n + 2) t (kvP q k)).run P w = .ok () w := fun n => by
      unfold kvP
      rw [Instr.checkKey]
      simp only [Sem.run_bind, run_underlying' T.arr w, Result.andThen_ok]
      simp only [Std.Legacy.Range.forIn_eq_forIn_range', Std.Legacy.Range.size, Nat.sub_zero, Nat.add_one_sub_one, Nat.div_one, List.range'_succ, List.range'_zero, List.forIn_cons, List.forIn_nil, Sem.run_bind, run_sizeOf w hi, Result.andThen_ok, T.one, Nat.zero_mul, Nat.one_mul, Nat.zero_add, p0, p1, inner, Sem.run_pure]
    exact key 9998
  find es l k w he := by
    have eq : ∀ a b : Int × Int, (Op.equal t (kvP q a) (kvP q b)).run P w = .ok (decide (a = b)) w := fun a b => run_equal_pair T a b _ w
    have key : ∀ (es : List MapEntry) (l : List ((Int × Int) × Value)) (j : Nat), es.map (fun e => (e.key, e.val)) = l.map (fun p => (kvP q p.1, p.2)) →
        (Instr.findAsking t (kvP q k) es j).run P w = .ok (((posL l k).bind fun i => (l[i]?).map fun p => (i, p.2)).map fun x => (x.1 + j, x.2)) w := by
      intro es
      induction es with
      | nil => intro l j he; cases l with
        | nil => rfl
        | cons p t => simp at he
      | cons e es ih =>
        intro l j he
        cases l with
        | nil => simp at he
        | cons p t =>
          simp only [List.map_cons, List.cons.injEq, Prod.mk.injEq] at he
          obtain ⟨⟨h1, h2⟩, h3⟩ := he
          simp only [Instr.findAsking, h1, Sem.run_bind, eq, Result.andThen_ok]
          by_cases hk : k = p.1
          · subst hk; obtain ⟨pk, pv⟩ := p; simp [posL, h2]
          · simp only [hk, decide_false, Bool.false_eq_true, if_false]
            rw [ih t (j + 1) h3, find_shift t p k (Ne.symm hk)]
            simp only [Option.map_map]
            congr 2; funext x; simp; omega
    have h0 := key es l 0 he
    have hid : (((posL l k).bind fun i => (l[i]?).map fun p => (i, p.2)).map fun x => (x.1 + 0, x.2)) = ((posL l k).bind fun i => (l[i]?).map fun p => (i, p.2)) := by
      cases (posL l k).bind fun i => (l[i]?).map fun p => (i, p.2) <;> simp
    rw [hid] at h0
    simp only [Instr.findKey, Sem.run_bind, run_underlying' T.arr, Result.andThen_ok]
    cases es with
    | nil =>
      cases l with
      | nil => rfl
      | cons p t => simp at he
    | cons e es =>
      have : Instr.findNow (.array 2 ‹TypeId›) (kvP q k) (e :: es) 0 = none := by
        simp only [Instr.findNow]; rfl
      rw [this]
      exact h0
  stays k w := by simp [Instr.keyThatStays, Instr.sameBits, kvP]
section
variable {X : Cx} {e : Env} {Is : List Itm} {dst : Option Tmp} {ty : TypeId} {pos : String} {aft : Array Edge} {g : Option (Nat × Bool)} {x y : Operand} {t t' el : TypeId}
theorem opv_pair_eq {q : IntKind} {a b : Int × Int} (T : PairT X.P t el q) (hG : X.P.eqGuardType X.P.depth t = false) (hx : ev e x = some (kvP q a)) (hy : ev e y = some (kvP q b)) : Opv X e Is ⟨dst, .binOp .eql t x y t', ty, pos, aft, g⟩ (.bool (decide (a = b))) :=
  opv_of (by intro c; simp) fun a' w ha hw => by
    have q' : (Op.equal t (kvP q a) (kvP q b)).run X.P w = .ok (decide (a = b)) w := run_equal_pair T a b _ w
    have hb : binOp .eql t (kvP q a) (kvP q b) = (do pure (.bool (← Op.equal t (kvP q a) (kvP q b)))) := rfl
    have hg : (eqGuard .eql t x y (kvP q a) (kvP q b)).run X.P w = .ok () w := by
      simp [eqGuard, kvP, run_program, hG]
    simp only [execOp, ha.eval hx, ha.eval hy, Sem.run_bind, hg, Result.andThen_ok, hb, q', Sem.run_pure]
end
end Go.SL
