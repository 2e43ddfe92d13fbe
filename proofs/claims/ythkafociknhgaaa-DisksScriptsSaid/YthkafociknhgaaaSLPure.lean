/- The operations that leave the world alone, over the session's own judgements. -/
import Derived.Test.YthkafociknhgaaaSLOps
import Derived.Laws.Strings
namespace Go.SL
open Go

section
variable {X : Cx} {e : Env} {Is : List Itm} {dst : Option Tmp} {ty : TypeId} {pos : String} {aft : Array Edge} {g : Option (Nat × Bool)}

/-- Facts of the program's table. -/
def Ti (P : Program) (t : TypeId) (z : Value) (size bytes : Nat) : Prop := (P.info? t).map (fun i => (i.zero, i.size, i.bytes)) = some (some z, size, bytes)
theorem Ti.out {P : Program} {t : TypeId} {z : Value} {size bytes : Nat} (h : Ti P t z size bytes) : ∃ i, P.info? t = some i ∧ i.zero = some z ∧ i.size = size ∧ i.bytes = bytes := by
  unfold Ti at h
  cases hi : P.info? t with
  | none => rw [hi] at h; simp at h
  | some i => rw [hi] at h; simp at h; exact ⟨i, rfl, h.1, h.2.1, h.2.2⟩
theorem run_typeInfo' {P : Program} {t : TypeId} {i : TypeInfo} (h : P.info? t = some i) (w : World) : (typeInfo t).run P w = .ok i w := by simp [typeInfo, h]
theorem run_underlying' {P : Program} {t : TypeId} {d : TypeDesc} (h : P.underlying t = some d) (w : World) : (underlying t).run P w = .ok d w := by simp [underlying, h]
theorem Ti.run_size {P : Program} {t : TypeId} {z : Value} {size bytes : Nat} (h : Ti P t z size bytes) (w : World) : (sizeOf t).run P w = .ok size w := by
  obtain ⟨i, h1, h2, h3, h4⟩ := h.out; simp [sizeOf, run_typeInfo' h1, h3]
theorem Ti.run_zero {P : Program} {t : TypeId} {z : Value} {size bytes : Nat} (h : Ti P t z size bytes) (w : World) : (zeroValue t).run P w = .ok z w := by
  obtain ⟨i, h1, h2, h3, h4⟩ := h.out; simp [zeroValue, run_typeInfo' h1, h2]

theorem opv_of {o : Oper} {v : Value} (hnd : ∀ c, o.op ≠ .defer c) (h : ∀ a w, Sat X.N e X.ds a → St X.w0 X.M Is w → (execOp a.eval o).run X.P w = .ok (.value v) w) : Opv X e Is o v :=
  fun a w ha hw => by rw [Oper.semAt_eq _ _ _ hnd]; exact h a w ha hw

theorem opv_move {x : Operand} {v : Value} (hx : ev e x = some v) : Opv X e Is ⟨dst, .move x, ty, pos, aft, g⟩ v :=
  opv_of (by intro c; simp) fun a w ha hw => by simp [execOp, ha.eval hx]
theorem opv_assign {x : Operand} {v : Value} (hx : ev e x = some v) : Opv X e Is ⟨dst, .assign x, ty, pos, aft, g⟩ v :=
  opv_of (by intro c; simp) fun a w ha hw => by simp [execOp, ha.eval hx]
theorem opv_pick_t {c x y : Operand} {v : Value} (hc : ev e c = some (.bool true)) (hx : ev e x = some v) : Opv X e Is ⟨dst, .pick c x y, ty, pos, aft, g⟩ v :=
  opv_of (by intro c; simp) fun a w ha hw => by simp [execOp, ha.eval hc, ha.eval hx, asBool]
theorem opv_pick_f {c x y : Operand} {v : Value} (hc : ev e c = some (.bool false)) (hy : ev e y = some v) : Opv X e Is ⟨dst, .pick c x y, ty, pos, aft, g⟩ v :=
  opv_of (by intro c; simp) fun a w ha hw => by simp [execOp, ha.eval hc, ha.eval hy, asBool]
theorem opv_extract {x : Operand} {n : Nat} {vs : Array Value} {v : Value} (hx : ev e x = some (.tuple vs)) (hv : vs[n]? = some v) : Opv X e Is ⟨dst, .extract x n, ty, pos, aft, g⟩ v :=
  opv_of (by intro c; simp) fun a w ha hw => by simp [execOp, ha.eval hx, Instr.extract, hv]

/-! ### integers -/
variable {x y : Operand} {t t' : TypeId}
def cmpI : BinOp → Int → Int → Option Bool
  | .lss, m, n => some (decide (m < n))
  | .leq, m, n => some (decide (m ≤ n))
  | .gtr, m, n => some (decide (n < m))
  | .geq, m, n => some (decide (n ≤ m))
  | .eql, m, n => some (decide (m = n))
  | .neq, m, n => some (!decide (m = n))
  | _, _, _ => none
theorem opv_cmp {op : BinOp} {k : IntKind} {m n : Int} {b : Bool} (hx : ev e x = some (.int k m)) (hy : ev e y = some (.int k n)) (hop : cmpI op m n = some b) :
    Opv X e Is ⟨dst, .binOp op t x y t', ty, pos, aft, g⟩ (.bool b) :=
  opv_of (by intro c; simp) fun a w ha hw => by
    cases op <;> first | (simp [cmpI] at hop; done) | (have hb := Option.some.inj hop; subst hb; simp [execOp, ha.eval hx, ha.eval hy, eqGuard, binOp, Op.intCmp] <;> rfl)
theorem opv_add {k : IntKind} {m n : Int} (hx : ev e x = some (.int k m)) (hy : ev e y = some (.int k n)) (h : k.wrap (m + n) = m + n) :
    Opv X e Is ⟨dst, .binOp .add t x y t', ty, pos, aft, g⟩ (.int k (m + n)) :=
  opv_of (by intro c; simp) fun a w ha hw => by simp [execOp, ha.eval hx, ha.eval hy, eqGuard, binOp, Op.intArith, h]
theorem opv_sub {k : IntKind} {m n : Int} (hx : ev e x = some (.int k m)) (hy : ev e y = some (.int k n)) (h : k.wrap (m - n) = m - n) :
    Opv X e Is ⟨dst, .binOp .sub t x y t', ty, pos, aft, g⟩ (.int k (m - n)) :=
  opv_of (by intro c; simp) fun a w ha hw => by simp [execOp, ha.eval hx, ha.eval hy, eqGuard, binOp, Op.intArith, h]
theorem opv_mul {k : IntKind} {m n : Int} (hx : ev e x = some (.int k m)) (hy : ev e y = some (.int k n)) (h : k.wrap (m * n) = m * n) :
    Opv X e Is ⟨dst, .binOp .mul t x y t', ty, pos, aft, g⟩ (.int k (m * n)) :=
  opv_of (by intro c; simp) fun a w ha hw => by simp [execOp, ha.eval hx, ha.eval hy, eqGuard, binOp, Op.intArith, h]
theorem opv_arith {op : BinOp} {k : IntKind} {m n r : Int} (hx : ev e x = some (.int k m)) (hy : ev e y = some (.int k n)) (h : (match op with | .add => some (k.wrap (m + n)) | .sub => some (k.wrap (m - n)) | .mul => some (k.wrap (m * n)) | _ => none) = some r) :
    Opv X e Is ⟨dst, .binOp op t x y t', ty, pos, aft, g⟩ (.int k r) :=
  opv_of (by intro c; simp) fun a w ha hw => by cases op <;> simp at h <;> subst h <;> simp [execOp, ha.eval hx, ha.eval hy, eqGuard, binOp, Op.intArith]
theorem opv_rem {k : IntKind} {m n : Int} (hx : ev e x = some (.int k m)) (hy : ev e y = some (.int k n)) (h0 : 0 ≤ m) (h1 : 0 < n) :
    Opv X e Is ⟨dst, .binOp .rem t x y t', ty, pos, aft, g⟩ (.int k (m % n)) :=
  opv_of (by intro c; simp) fun a w ha hw => by
    have hn : n ≠ 0 := by omega
    simp [execOp, ha.eval hx, ha.eval hy, eqGuard, binOp, Op.intDiv, hn, Int.tmod_eq_emod_of_nonneg h0]
theorem opv_quo {k : IntKind} {m n : Int} (hx : ev e x = some (.int k m)) (hy : ev e y = some (.int k n)) (h0 : 0 ≤ m) (h1 : 0 < n) (h : k.wrap (m / n) = m / n) :
    Opv X e Is ⟨dst, .binOp .quo t x y t', ty, pos, aft, g⟩ (.int k (m / n)) :=
  opv_of (by intro c; simp) fun a w ha hw => by
    have hn : n ≠ 0 := by omega
    simp [execOp, ha.eval hx, ha.eval hy, eqGuard, binOp, Op.intDiv, hn, Int.tdiv_eq_ediv_of_nonneg h0, h]
theorem wrap64_ok {m : Int} (h : -9223372036854775808 ≤ m ∧ m ≤ 9223372036854775807) : IntKind.i64.wrap m = m := IntWalk.i64_in _ (by omega)
theorem run_equal_of {P : Program} {t : TypeId} {a b : Value} {w w' : World} {r : Bool} (h : ∀ d, (Op.equalIn (d + 1) t a b).run P w = .ok r w') : (Op.equal t a b).run P w = .ok r w' := h 9999
theorem opv_equal {v v' : Value} {r : Bool} (hx : ev e x = some v) (hy : ev e y = some v') (hg : ∀ w, (eqGuard .eql t x y v v').run X.P w = .ok () w) (hb : binOp .eql t v v' = (do pure (.bool (← Op.equal t v v'))))
    (h : ∀ d w, (Op.equalIn (d + 1) t v v').run X.P w = .ok r w) : Opv X e Is ⟨dst, .binOp .eql t x y t', ty, pos, aft, g⟩ (.bool r) :=
  opv_of (by intro c; simp) fun a w ha hw => by
    have q := run_equal_of (P := X.P) (w := w) (w' := w) (fun d => h d w)
    simp only [execOp, ha.eval hx, ha.eval hy, Sem.run_bind, hg w, Result.andThen_ok, hb, q, Sem.run_pure]
theorem opv_unequal {v v' : Value} {r : Bool} (hx : ev e x = some v) (hy : ev e y = some v') (hg : ∀ w, (eqGuard .neq t x y v v').run X.P w = .ok () w) (hb : binOp .neq t v v' = (do pure (.bool (!(← Op.equal t v v')))))
    (h : ∀ d w, (Op.equalIn (d + 1) t v v').run X.P w = .ok r w) : Opv X e Is ⟨dst, .binOp .neq t x y t', ty, pos, aft, g⟩ (.bool (!r)) :=
  opv_of (by intro c; simp) fun a w ha hw => by
    have q := run_equal_of (P := X.P) (w := w) (w' := w) (fun d => h d w)
    simp only [execOp, ha.eval hx, ha.eval hy, Sem.run_bind, hg w, Result.andThen_ok, hb, q, Sem.run_pure]
theorem opv_beq {a b : Bool} (hx : ev e x = some (.bool a)) (hy : ev e y = some (.bool b)) (hu : X.P.underlying t = some .bool) :
    Opv X e Is ⟨dst, .binOp .eql t x y t', ty, pos, aft, g⟩ (.bool (a == b)) :=
  opv_equal hx hy (fun w => by simp [eqGuard]) (by rfl) (fun d w => by simp only [Op.equalIn, Sem.run_bind, run_underlying' hu, Result.andThen_ok, Sem.run_pure])
theorem opv_bne {a b : Bool} (hx : ev e x = some (.bool a)) (hy : ev e y = some (.bool b)) (hu : X.P.underlying t = some .bool) :
    Opv X e Is ⟨dst, .binOp .neq t x y t', ty, pos, aft, g⟩ (.bool (!(a == b))) :=
  opv_unequal hx hy (fun w => by simp [eqGuard]) (by rfl) (fun d w => by simp only [Op.equalIn, Sem.run_bind, run_underlying' hu, Result.andThen_ok, Sem.run_pure])
theorem str_beq (a b : ByteArray) : (a.toList == b.toList) = decide (a = b) := by
  rw [Bool.eq_iff_iff]; simp only [beq_iff_eq, decide_eq_true_eq]
  constructor
  · intro h
    have h2 : a.data.toList = b.data.toList := by rw [← Go.ByteArray.toList_eq a, ← Go.ByteArray.toList_eq b]; exact h
    cases a; cases b; simp at h2; simp [h2]
  · rintro rfl; rfl
theorem opv_seq {a b : ByteArray} (hx : ev e x = some (.string a)) (hy : ev e y = some (.string b)) :
    Opv X e Is ⟨dst, .binOp .eql t x y t', ty, pos, aft, g⟩ (.bool (decide (a = b))) :=
  opv_of (by intro c; simp) fun u w ha hw => by simp [execOp, ha.eval hx, ha.eval hy, eqGuard, binOp, Op.stringOp, str_beq]
theorem opv_sne {a b : ByteArray} (hx : ev e x = some (.string a)) (hy : ev e y = some (.string b)) :
    Opv X e Is ⟨dst, .binOp .neq t x y t', ty, pos, aft, g⟩ (.bool (!decide (a = b))) :=
  opv_of (by intro c; simp) fun u w ha hw => by simp [execOp, ha.eval hx, ha.eval hy, eqGuard, binOp, Op.stringOp, str_beq]
/-- A slice, a pointer against nil. -/
theorem opv_slice_nil {A : Option Addr} {n c : Nat} {el : TypeId} (hx : ev e x = some (.slice A n c)) (hy : ev e y = some (.slice none 0 0)) (hu : X.P.underlying t = some (.slice el)) :
    Opv X e Is ⟨dst, .binOp .eql t x y t', ty, pos, aft, g⟩ (.bool A.isNone) :=
  opv_equal hx hy (fun w => by simp [eqGuard]) (by rfl) (fun d w => by cases A <;> simp only [Op.equalIn, Sem.run_bind, run_underlying' hu, Result.andThen_ok, Sem.run_pure] <;> rfl)
theorem opv_slice_nnil {A : Option Addr} {n c : Nat} {el : TypeId} (hx : ev e x = some (.slice A n c)) (hy : ev e y = some (.slice none 0 0)) (hu : X.P.underlying t = some (.slice el)) :
    Opv X e Is ⟨dst, .binOp .neq t x y t', ty, pos, aft, g⟩ (.bool (!A.isNone)) :=
  opv_unequal hx hy (fun w => by simp [eqGuard]) (by rfl) (fun d w => by cases A <;> simp only [Op.equalIn, Sem.run_bind, run_underlying' hu, Result.andThen_ok, Sem.run_pure] <;> rfl)
theorem opv_ptr_nil {A : Option Addr} {el : TypeId} (hx : ev e x = some (.pointer A)) (hy : ev e y = some (.pointer none)) (hu : X.P.underlying t = some (.pointer el)) :
    Opv X e Is ⟨dst, .binOp .eql t x y t', ty, pos, aft, g⟩ (.bool A.isNone) :=
  opv_equal hx hy (fun w => by simp [eqGuard]) (by rfl) (fun d w => by cases A <;> simp only [Op.equalIn, Sem.run_bind, run_underlying' hu, Result.andThen_ok, Sem.run_pure] <;> rfl)
theorem opv_ptr_nnil {A : Option Addr} {el : TypeId} (hx : ev e x = some (.pointer A)) (hy : ev e y = some (.pointer none)) (hu : X.P.underlying t = some (.pointer el)) :
    Opv X e Is ⟨dst, .binOp .neq t x y t', ty, pos, aft, g⟩ (.bool (!A.isNone)) :=
  opv_unequal hx hy (fun w => by simp [eqGuard]) (by rfl) (fun d w => by cases A <;> simp only [Op.equalIn, Sem.run_bind, run_underlying' hu, Result.andThen_ok, Sem.run_pure] <;> rfl)
theorem opv_func_nnil {f : Go.Fn} {fs cs : Array Value} {ps rs : Array TypeId} {vr : Bool} (hx : ev e x = some (.func f fs cs)) (hy : ev e y = some .nilFunc) (hu : X.P.underlying t = some (.func ps rs vr)) :
    Opv X e Is ⟨dst, .binOp .neq t x y t', ty, pos, aft, g⟩ (.bool true) :=
  opv_unequal (r := false) hx hy (fun w => by simp [eqGuard]) (by rfl) (fun d w => by simp only [Op.equalIn, Sem.run_bind, run_underlying' hu, Result.andThen_ok, Sem.run_pure])
theorem opv_nilfunc_nnil {ps rs : Array TypeId} {vr : Bool} (hx : ev e x = some .nilFunc) (hy : ev e y = some .nilFunc) (hu : X.P.underlying t = some (.func ps rs vr)) :
    Opv X e Is ⟨dst, .binOp .neq t x y t', ty, pos, aft, g⟩ (.bool false) :=
  opv_unequal (r := true) hx hy (fun w => by simp [eqGuard]) (by rfl) (fun d w => by simp only [Op.equalIn, Sem.run_bind, run_underlying' hu, Result.andThen_ok, Sem.run_pure])
theorem opv_not {b : Bool} (hx : ev e x = some (.bool b)) : Opv X e Is ⟨dst, .unOp .not t x, ty, pos, aft, g⟩ (.bool (!b)) :=
  opv_of (by intro c; simp) fun a w ha hw => by simp [execOp, ha.eval hx, Op.unary]
theorem opv_nilCheck {p : Addr} (hx : ev e x = some (.pointer (some p))) : Opv X e Is ⟨dst, .nilCheck x, ty, pos, aft, g⟩ (.pointer (some p)) :=
  opv_of (by intro c; simp) fun a w ha hw => by simp [execOp, ha.eval hx]

/-! ### addresses -/
/-- The field's place in its struct. -/
def Fld (P : Program) (s : TypeId) (f off : Nat) : Prop := ∃ fields fd, P.underlying s = some (.struct fields) ∧ fields[f]? = some fd ∧ fd.offset = off ∧ ((P.info? fd.type).map (fun i => i.size == 0)) = some false
theorem add_at (b off n : Nat) : (⟨b, off, none⟩ : Addr).add n = ⟨b, off + n, none⟩ := by unfold Addr.add; split <;> simp_all
theorem opv_fieldAddr {s : TypeId} {b off f fo : Nat} (hx : ev e x = some (.pointer (some ⟨b, off, none⟩))) (hf : Fld X.P s f fo) :
    Opv X e Is ⟨dst, .fieldAddr s x f, ty, pos, aft, g⟩ (.pointer (some ⟨b, off + fo, none⟩)) :=
  opv_of (by intro c; simp) fun a w ha hw => by
    obtain ⟨fields, fd, h1, h2, h3, h4⟩ := hf
    cases hi : X.P.info? fd.type with
    | none => rw [hi] at h4; simp at h4
    | some i =>
      rw [hi] at h4; simp at h4
      simp [execOp, ha.eval hx, Instr.fieldAt, run_underlying' h1, h2, Instr.sureAddr, fieldPlace, sizeOf, run_typeInfo' hi, h4, add_at, h3]
theorem opv_indexAddr {b off n c i size bytes : Nat} {k : IntKind} {el : TypeId} {z : Value} {j : Int} (hx : ev e x = some (.slice (some ⟨b, off, none⟩) n c)) (hy : ev e y = some (.int k j)) (hu : X.P.underlying t = some (.slice el)) (hz : Ti X.P el z size bytes)
    (hi : j = (i : Int)) (hlt : i < n) : Opv X e Is ⟨dst, .indexAddr t x y, ty, pos, aft, g⟩ (.pointer (some ⟨b, off + i * size, none⟩)) :=
  opv_of (by intro c; simp) fun a w ha hw => by
    subst hi
    simp [execOp, ha.eval hx, ha.eval hy, Instr.indexAt, asIntOf, run_underlying' hu, hz.run_size, hlt, add_at]
theorem opv_indexAddr_arr {b off n i size bytes : Nat} {k : IntKind} {el : TypeId} {z : Value} {j : Int} (hx : ev e x = some (.pointer (some ⟨b, off, none⟩))) (hy : ev e y = some (.int k j)) (hu : X.P.underlying t = some (.array n el)) (hz : Ti X.P el z size bytes)
    (hi : j = (i : Int)) (hlt : i < n) : Opv X e Is ⟨dst, .indexAddr t x y, ty, pos, aft, g⟩ (.pointer (some ⟨b, off + i * size, none⟩)) :=
  opv_of (by intro c; simp) fun a w ha hw => by
    subst hi
    simp [execOp, ha.eval hx, ha.eval hy, Instr.indexAt, asIntOf, run_underlying' hu, hz.run_size, hlt, add_at, Instr.sureAddr]

/-! ### loads -/
/-- What is known of a block. -/
def Rd (X : Cx) (Is : List Itm) (b : Nat) (o : Obj) : Prop := ∀ w, St X.w0 X.M Is w → w.heap[b]? = some o
theorem rd_pk {b : Nat} {o : Obj} {Is' : List Itm} (h : Pk (blk b o) Is Is') : Rd X Is b o := fun _ hw => hw.get h
theorem rd_old {b : Nat} {o : Obj} (h : X.w0.heap[b]? = some o) (hM : ¬ X.M b) : Rd X Is b o := fun _ hw => hw.getOld h hM
def NoAgg (P : Program) (t : TypeId) : Prop := (match P.underlying t with | some (.struct _) | some (.array _ _) => false | some _ => true | none => false) = true
theorem run_isAgg_no {P : Program} {t : TypeId} (h : NoAgg P t) (w : World) : (isAgg t).run P w = .ok false w := by
  unfold NoAgg at h
  cases hu : P.underlying t with
  | none => rw [hu] at h; simp at h
  | some d => rw [hu] at h; cases d <;> simp at h <;> simp [isAgg, run_underlying' hu]
def IsAgg (P : Program) (t : TypeId) : Prop := (match P.underlying t with | some (.struct _) | some (.array _ _) => true | _ => false) = true
theorem run_isAgg_yes {P : Program} {t : TypeId} (h : IsAgg P t) (w : World) : (isAgg t).run P w = .ok true w := by
  unfold IsAgg at h
  cases hu : P.underlying t with
  | none => rw [hu] at h; simp at h
  | some d => rw [hu] at h; cases d <;> simp at h <;> simp [isAgg, run_underlying' hu]
theorem cell_of {w : World} {b off : Nat} {c : Array Value} {el : TypeId} {fz : Nat × Nat} {v : Value} (h : w.heap[b]? = some (.cells c el fz)) (hv : c[off]? = some v) : w.cell? ⟨b, off, none⟩ = some v := by
  simp [World.cell?, h, hv]
theorem opv_load {b off : Nat} {c : Array Value} {el : TypeId} {fz : Nat × Nat} {v : Value} (hx : ev e x = some (.pointer (some ⟨b, off, none⟩))) (hna : NoAgg X.P t) (hb : Rd X Is b (.cells c el fz)) (hv : c[off]? = some v) :
    Opv X e Is ⟨dst, .load t x, ty, pos, aft, g⟩ v :=
  opv_of (by intro c; simp) fun a w ha hw => by
    simp [execOp, ha.eval hx, Instr.loadAt, Instr.sureAddr, loadVar, run_isAgg_no hna, cell_of (hb w hw) hv]
theorem run_loadCells_at {P : Program} {w : World} {b off : Nat} (vs : List Value) (h : ∀ j v, vs[j]? = some v → w.cell? ⟨b, off + j, none⟩ = some v) : (loadCells ⟨b, off, none⟩ vs.length).run P w = .ok vs.toArray w := by
  have := run_loadCells_list (P := P) (w := w) ⟨b, off, none⟩ vs (fun j v hv => by rw [add_at]; exact h j v hv)
  simpa using this
/-- A run of cells. -/
def Cells (c : Array Value) (off : Nat) : List Value → Prop
  | [] => True
  | v :: vs => c[off]? = some v ∧ Cells c (off + 1) vs
theorem Cells.get {c : Array Value} : ∀ {vs : List Value} {off : Nat}, Cells c off vs → ∀ j v, vs[j]? = some v → c[off + j]? = some v
  | [], _, _, j, v, h => by simp at h
  | u :: vs, off, hc, 0, v, h => by simp at h; subst h; exact hc.1
  | u :: vs, off, hc, j + 1, v, h => by
    have := hc.2.get j v (by simpa using h)
    rw [show off + (j + 1) = off + 1 + j by omega]; exact this
theorem opv_load_agg {b off size bytes : Nat} {z : Value} {c : Array Value} {el : TypeId} {fz : Nat × Nat} {vs : List Value} (hx : ev e x = some (.pointer (some ⟨b, off, none⟩))) (hna : IsAgg X.P t) (hz : Ti X.P t z size bytes)
    (hb : Rd X Is b (.cells c el fz)) (hv : Cells c off vs) (hs : vs.length = size) : Opv X e Is ⟨dst, .load t x, ty, pos, aft, g⟩ (.agg vs.toArray) :=
  opv_of (by intro c; simp) fun a w ha hw => by
    subst hs
    simp [execOp, ha.eval hx, Instr.loadAt, Instr.sureAddr, loadVar, run_isAgg_yes hna, hz.run_size, run_loadCells_at vs (fun j v hj => cell_of (hb w hw) (hv.get j v hj))]

/-! ### functions, strings, slices -/
def evs (e : Env) : List Operand → Option (List Value)
  | [] => some []
  | o :: os => match ev e o, evs e os with | some v, some vs => some (v :: vs) | _, _ => none
theorem evs_map {N : Nat} {ds : List Deferred} {a : Act} (ha : Sat N e ds a) : ∀ {os : List Operand} {vs : List Value}, evs e os = some vs → os.map a.eval = vs
  | [], vs, h => by simp [evs] at h; simp [← h]
  | o :: os, vs, h => by
    simp only [evs] at h
    cases h1 : ev e o with
    | none => rw [h1] at h; simp at h
    | some v =>
      cases h2 : evs e os with
      | none => rw [h1, h2] at h; simp at h
      | some us => rw [h1, h2] at h; simp at h; subst h; simp [ha.eval h1, evs_map ha h2]
theorem evs_arr {N : Nat} {ds : List Deferred} {a : Act} (ha : Sat N e ds a) {os : Array Operand} {vs : List Value} (h : evs e os.toList = some vs) : os.map a.eval = vs.toArray := by
  have := evs_map ha h
  apply Array.toList_inj.1
  simpa using this
theorem opv_makeFunc {f : Go.Fn} {fs cs : Array Operand} {us vs : List Value} (hf : evs e fs.toList = some us) (hc : evs e cs.toList = some vs) :
    Opv X e Is ⟨dst, .makeFunc f fs cs, ty, pos, aft, g⟩ (.func f us.toArray vs.toArray) :=
  opv_of (by intro c; simp) fun a w ha hw => by simp [execOp, Instr.makeFunc, evs_arr ha hf, evs_arr ha hc]
/-- The parts of a built value. -/
def evp (e : Env) : List (Nat × Operand) → Option (List (Nat × Value))
  | [] => some []
  | (i, o) :: os => match ev e o, evp e os with | some v, some vs => some ((i, v) :: vs) | _, _ => none
theorem evp_map {N : Nat} {ds : List Deferred} {a : Act} (ha : Sat N e ds a) : ∀ {os : List (Nat × Operand)} {vs : List (Nat × Value)}, evp e os = some vs → os.map (fun x => (x.1, a.eval x.2)) = vs
  | [], vs, h => by simp [evp] at h; simp [← h]
  | (i, o) :: os, vs, h => by
    simp only [evp] at h
    cases h1 : ev e o with
    | none => rw [h1] at h; simp at h
    | some v =>
      cases h2 : evp e os with
      | none => rw [h1, h2] at h; simp at h
      | some us => rw [h1, h2] at h; simp at h; subst h; simp [ha.eval h1, evp_map ha h2]
theorem evp_arr {N : Nat} {ds : List Deferred} {a : Act} (ha : Sat N e ds a) {os : Array (Nat × Operand)} {vs : List (Nat × Value)} (h : evp e os.toList = some vs) : os.map (fun x => (x.1, a.eval x.2)) = vs.toArray := by
  have := evp_map ha h
  apply Array.toList_inj.1
  simpa using this
theorem opv_build {ps : Array (Nat × Operand)} {vs : List (Nat × Value)} {v : Value} (hp : evp e ps.toList = some vs) (hrun : ∀ w, (Instr.build t vs.toArray).run X.P w = .ok v w) :
    Opv X e Is ⟨dst, .build t ps, ty, pos, aft, g⟩ v :=
  opv_of (by intro c; simp) fun a w ha hw => by
    have := evp_arr ha hp
    simp only [execOp, Sem.run_bind]
    rw [show (ps.map fun x => match x with | (i, x) => (i, a.eval x)) = vs.toArray from this]
    simp [hrun]
variable {consts : Array Operand}
theorem opv_len_slice {A : Option Addr} {n c : Nat} {el : TypeId} (hx : ev e x = some (.slice A n c)) (hu : X.P.underlying t = some (.slice el)) :
    Opv X e Is ⟨dst, .call ⟨.builtin .len, #[x], #[t]⟩, ty, pos, aft, g⟩ (.int .i64 n) :=
  opv_of (by intro c; simp) fun a w ha hw => by
    simp [execOp, resolve, invoke, builtin, Builtin.len_, ha.eval hx, run_underlying' hu, goInt]
theorem opv_len_string {s : ByteArray} (hx : ev e x = some (.string s)) (hu : X.P.underlying t = some .string) :
    Opv X e Is ⟨dst, .call ⟨.builtin .len, #[x], #[t]⟩, ty, pos, aft, g⟩ (.int .i64 s.size) :=
  opv_of (by intro c; simp) fun a w ha hw => by
    simp [execOp, resolve, invoke, builtin, Builtin.len_, ha.eval hx, run_underlying' hu, goInt]
theorem opv_max {k : IntKind} {m n : Int} {ts : Array TypeId} (hx : ev e x = some (.int k m)) (hy : ev e y = some (.int k n)) :
    Opv X e Is ⟨dst, .call ⟨.builtin .max, #[x, y], ts⟩, ty, pos, aft, g⟩ (.int k (max m n)) :=
  opv_of (by intro c; simp) fun a w ha hw => by
    simp [execOp, resolve, invoke, builtin, Builtin.max_, Builtin.max2, ha.eval hx, ha.eval hy]
    split <;> omega
theorem opv_min {k : IntKind} {m n : Int} {ts : Array TypeId} (hx : ev e x = some (.int k m)) (hy : ev e y = some (.int k n)) :
    Opv X e Is ⟨dst, .call ⟨.builtin .min, #[x, y], ts⟩, ty, pos, aft, g⟩ (.int k (min m n)) :=
  opv_of (by intro c; simp) fun a w ha hw => by
    simp [execOp, resolve, invoke, builtin, Builtin.min_, Builtin.min2, ha.eval hx, ha.eval hy]
    split <;> omega
/-- The bounds of a slice expression: none, or a number. -/
def bnd (e : Env) : Option Operand → Option (Option Int)
  | none => some none
  | some o => match ev e o with | some (.int _ n) => some (some n) | _ => none
theorem bnd_none : bnd e none = some none := rfl
theorem opv_slice {lo hi : Option Operand} {len cap l h size bytes : Nat} {el : TypeId} {z : Value} {A : Option Addr} {L H : Option Int} (hx : ev e x = some (.slice A len cap)) (hu : X.P.underlying t = some (.slice el)) (hz : Ti X.P el z size bytes)
    (hl : bnd e lo = some L) (hh : bnd e hi = some H) (eH : H.getD len = h) (eL : L.getD 0 = l) (h1 : l ≤ h) (h2 : h ≤ cap) :
    Opv X e Is ⟨dst, .slice t x lo hi none, ty, pos, aft, g⟩ (.slice (if cap = l then A else A.map fun a => a.add (l * size)) (h - l) (cap - l)) :=
  opv_of (by intro c; simp) fun a w ha hw => by
    have hsl : ∀ (o : Option Operand) (B : Option Int) (d : Option Int), bnd e o = some B → (o.map a.eval = none ∧ B = none) ∨ ∃ k n, o.map a.eval = some (.int k n) ∧ B = some n := by
      intro o B _ hB
      cases o with
      | none => simp [bnd] at hB; exact .inl ⟨rfl, hB.symm⟩
      | some p =>
        simp only [bnd] at hB
        cases hp : ev e p with
        | none => rw [hp] at hB; simp at hB
        | some v =>
          rw [hp] at hB
          cases v <;> simp at hB
          rename_i k n
          exact .inr ⟨k, n, by simp [ha.eval hp], hB.symm⟩
    have bd : ∀ (k : IntKind) (y : Nat) (n : Nat) (code : BoundsCode), n ≤ y → (Instr.sliceBound (.int k n) y code).run X.P w = .ok n w := fun k y n code hn => by
      simp [Instr.sliceBound, asIntOf, hn]
    have key : (Instr.sliceBounds true len cap (lo.map a.eval) (hi.map a.eval) none).run X.P w = .ok (l, h, cap) w := by
      rcases hsl hi H none hh with ⟨e1, rfl⟩ | ⟨k1, n1, e1, rfl⟩ <;> rcases hsl lo L none hl with ⟨e2, rfl⟩ | ⟨k2, n2, e2, rfl⟩ <;> simp only [Option.getD_none, Option.getD_some] at eH eL
      · obtain rfl : len = h := by omega
        obtain rfl : l = 0 := by omega
        simp [Instr.sliceBounds, e1, e2]
      · obtain rfl : len = h := by omega
        subst eL
        simp [Instr.sliceBounds, e1, e2, bd k2 _ _ _ h1]
      · subst eH
        obtain rfl : l = 0 := by omega
        simp [Instr.sliceBounds, e1, e2, bd k1 _ _ _ h2]
      · subst eH; subst eL
        simp [Instr.sliceBounds, e1, e2, bd k1 _ _ _ h2, bd k2 _ _ _ h1]
    simp only [execOp, Instr.sliceAt, ha.eval hx, Instr.slice, Sem.run_bind, run_underlying' hu, Result.andThen_ok, Option.map_none]
    rw [key]
    simp only [Result.andThen_ok, hz.run_size, Sem.run_pure]
theorem opv_slice_string {lo hi : Option Operand} {s : ByteArray} {l h : Nat} {L H : Option Int} (hx : ev e x = some (.string s)) (hu : X.P.underlying t = some .string)
    (hl : bnd e lo = some L) (hh : bnd e hi = some H) (eH : H.getD s.size = h) (eL : L.getD 0 = l) (h1 : l ≤ h) (h2 : h ≤ s.size) :
    Opv X e Is ⟨dst, .slice t x lo hi none, ty, pos, aft, g⟩ (.string (s.extract l h)) :=
  opv_of (by intro c; simp) fun a w ha hw => by
    have hsl : ∀ (o : Option Operand) (B : Option Int), bnd e o = some B → (o.map a.eval = none ∧ B = none) ∨ ∃ k n, o.map a.eval = some (.int k n) ∧ B = some n := by
      intro o B hB
      cases o with
      | none => simp [bnd] at hB; exact .inl ⟨rfl, hB.symm⟩
      | some p =>
        simp only [bnd] at hB
        cases hp : ev e p with
        | none => rw [hp] at hB; simp at hB
        | some v =>
          rw [hp] at hB
          cases v <;> simp at hB
          rename_i k n
          exact .inr ⟨k, n, by simp [ha.eval hp], hB.symm⟩
    have bd : ∀ (k : IntKind) (y : Nat) (n : Nat) (code : BoundsCode), n ≤ y → (Instr.sliceBound (.int k n) y code).run X.P w = .ok n w := fun k y n code hn => by
      simp [Instr.sliceBound, asIntOf, hn]
    have key : (Instr.sliceBounds false s.size s.size (lo.map a.eval) (hi.map a.eval) none).run X.P w = .ok (l, h, s.size) w := by
      rcases hsl hi H hh with ⟨e1, rfl⟩ | ⟨k1, n1, e1, rfl⟩ <;> rcases hsl lo L hl with ⟨e2, rfl⟩ | ⟨k2, n2, e2, rfl⟩ <;> simp only [Option.getD_none, Option.getD_some] at eH eL
      · obtain rfl : h = s.size := by omega
        obtain rfl : l = 0 := by omega
        simp [Instr.sliceBounds, e1, e2]
      · obtain rfl : h = s.size := by omega
        subst eL
        simp [Instr.sliceBounds, e1, e2, bd k2 _ _ _ h1]
      · subst eH
        obtain rfl : l = 0 := by omega
        simp [Instr.sliceBounds, e1, e2, bd k1 _ _ _ h2]
      · subst eH; subst eL
        simp [Instr.sliceBounds, e1, e2, bd k1 _ _ _ h2, bd k2 _ _ _ h1]
    simp only [execOp, Instr.sliceAt, ha.eval hx, Instr.slice, Sem.run_bind, run_underlying' hu, Result.andThen_ok, Option.map_none, Option.isSome_none, Bool.false_eq_true, if_false]
    rw [key]
    simp
end
end Go.SL
