/- Maps of the call's own, over the session's own judgements: a list of pairs, in the order in which they came. -/
import Derived.Test.YthkafociknhgaaaSLStep
namespace Go.SL
open Go

section lists
variable {K V : Type} [DecidableEq K]
def posL : List (K × V) → K → Option Nat
  | [], _ => none
  | (k', _) :: t, k => if k' = k then some 0 else (posL t k).map (· + 1)
def getL : List (K × V) → K → Option V
  | [], _ => none
  | (k', v) :: t, k => if k' = k then some v else getL t k
def setL : List (K × V) → K → V → List (K × V)
  | [], k, v => [(k, v)]
  | (k', v') :: t, k, v => if k' = k then (k, v) :: t else (k', v') :: setL t k v
def delL : List (K × V) → K → List (K × V)
  | [], _ => []
  | (k', v') :: t, k => if k' = k then t else (k', v') :: delL t k
theorem posL_none {l : List (K × V)} {k : K} (h : posL l k = none) : getL l k = none ∧ ∀ v, setL l k v = l ++ [(k, v)] := by
  induction l with
  | nil => simp [getL, setL]
  | cons p t ih =>
    obtain ⟨k', v'⟩ := p
    simp only [posL] at h
    split at h
    · cases h
    · rename_i hne
      have := ih (by simpa using h)
      simp [getL, setL, hne, this.1, this.2]
theorem posL_some {l : List (K × V)} {k : K} {i : Nat} (h : posL l k = some i) : ∃ v, l[i]? = some (k, v) ∧ getL l k = some v ∧ (∀ u, setL l k u = l.set i (k, u)) ∧ delL l k = l.eraseIdx i := by
  induction l generalizing i with
  | nil => simp [posL] at h
  | cons p t ih =>
    obtain ⟨k', v'⟩ := p
    simp only [posL] at h
    split at h
    · rename_i he
      obtain rfl : i = 0 := by simpa using h.symm
      subst he
      exact ⟨v', by simp, by simp [getL], fun u => by simp [setL], by simp [delL]⟩
    · rename_i hne
      cases hp : posL t k with
      | none => rw [hp] at h; simp at h
      | some j =>
        rw [hp] at h
        obtain rfl : i = j + 1 := by simpa using h.symm
        obtain ⟨v, h1, h2, h3, h4⟩ := ih hp
        exact ⟨v, by simpa using h1, by simp [getL, hne, h2], fun u => by simp [setL, hne, h3], by simp [delL, hne, h4]⟩
theorem posL_none_del {l : List (K × V)} {k : K} (h : posL l k = none) : delL l k = l := by
  induction l with
  | nil => rfl
  | cons p t ih =>
    obtain ⟨k', v'⟩ := p
    simp only [posL] at h
    split at h
    · cases h
    · rename_i hne
      simp [delL, hne, ih (by simpa using h)]
theorem getL_setL {l : List (K × V)} {k k' : K} {v : V} : getL (setL l k v) k' = if k = k' then some v else getL l k' := by
  induction l with
  | nil => simp [setL, getL]
  | cons p t ih =>
    obtain ⟨q, u⟩ := p
    simp only [setL]
    split
    · rename_i h; subst h
      simp only [getL]; split <;> rfl
    · rename_i hne
      simp only [getL, ih]
      by_cases h1 : q = k'
      · subst h1; simp [Ne.symm hne]
      · simp [h1]
variable {W : Type}
theorem getL_map (f : V → W) (l : List (K × V)) (k : K) : getL (l.map fun p => (p.1, f p.2)) k = (getL l k).map f := by
  induction l with
  | nil => rfl
  | cons p t ih => simp only [List.map_cons, getL, ih]; split <;> rfl
theorem setL_map (f : V → W) (l : List (K × V)) (k : K) (v : V) : setL (l.map fun p => (p.1, f p.2)) k (f v) = (setL l k v).map fun p => (p.1, f p.2) := by
  induction l with
  | nil => rfl
  | cons p t ih => simp only [List.map_cons, setL, ih]; split <;> simp
theorem delL_map (f : V → W) (l : List (K × V)) (k : K) : delL (l.map fun p => (p.1, f p.2)) k = (delL l k).map fun p => (p.1, f p.2) := by
  induction l with
  | nil => rfl
  | cons p t ih => simp only [List.map_cons, delL, ih]; split <;> simp
end lists

/-- Laws of a key's type. -/
structure KL (P : Program) (kt : TypeId) {K : Type} [DecidableEq K] (kv : K → Value) : Prop where
  check : ∀ (k : K) (b : Bool) (w : World), (Instr.checkKey b 10000 kt (kv k)).run P w = .ok () w
  find : ∀ (es : List MapEntry) (l : List (K × Value)) (k : K) (w : World), es.map (fun e => (e.key, e.val)) = l.map (fun p => (kv p.1, p.2)) → (Instr.findKey kt (kv k) es).run P w = .ok ((posL l k).bind fun i => (l[i]?).map fun p => (i, p.2)) w
  stays : ∀ (k : K) (w : World), (Instr.keyThatStays (kv k) (kv k)).run P w = .ok (kv k) w

theorem find_shift {K : Type} [DecidableEq K] (l : List (K × Value)) (p : K × Value) (k : K) (hne : p.1 ≠ k) :
    ((posL (p :: l) k).bind fun i => ((p :: l)[i]?).map fun q => (i, q.2)) = ((posL l k).bind fun i => (l[i]?).map fun q => (i, q.2)).map fun x => (x.1 + 1, x.2) := by
  obtain ⟨k', v⟩ := p
  simp only [posL, if_neg hne]
  cases posL l k with
  | none => rfl
  | some i => simp; cases l[i]? <;> rfl
theorem KL.int {P : Program} {kt : TypeId} {q : IntKind} (h : P.underlying kt = some (.int q)) : KL P kt (fun n : Int => Value.int q n) where
  check k b w := by
    have key : ∀ n, (Instr.checkKey b (n + 1) kt (Value.int q k)).run P w = .ok () w := fun n => by
      simp only [Instr.checkKey, Sem.run_bind, run_underlying' h w, Result.andThen_ok]; rfl
    exact key 9999
  find es l k w he := by
    have key : ∀ (es : List MapEntry) (l : List (Int × Value)) (j : Nat), es.map (fun e => (e.key, e.val)) = l.map (fun p => (Value.int q p.1, p.2)) →
        Instr.findNow (.int q) (.int q k) es j = some (((posL l k).bind fun i => (l[i]?).map fun p => (i, p.2)).map fun x => (x.1 + j, x.2)) := by
      intro es
      induction es with
      | nil => intro l j he; cases l with
        | nil => rfl
        | cons p t => simp at he
      | cons e es ih =>
        intro l j he
        cases l with
        | nil => simp at he
        | cons p t =>
          simp only [List.map_cons, List.cons.injEq, Prod.mk.injEq] at he
          obtain ⟨⟨h1, h2⟩, h3⟩ := he
          simp only [Instr.findNow, h1, Instr.sameNow, if_true]
          by_cases hk : k = p.1
          · subst hk; obtain ⟨pk, pv⟩ := p; simp [posL, h2]
          · have : (k == p.1) = false := by simpa using hk
            rw [this]
            simp only []
            rw [ih t (j + 1) h3, find_shift t p k (Ne.symm hk)]
            simp only [Option.map_map]
            congr 2; funext x; simp; omega
    simp only [Instr.findKey, Sem.run_bind, run_underlying' h, Result.andThen_ok, key es l 0 he, Sem.run_pure]
    congr 1
    cases (posL l k).bind fun i => (l[i]?).map fun p => (i, p.2) <;> simp
  stays k w := by simp [Instr.keyThatStays, Instr.sameBits]
/-- The map at block b reads as l. -/
def MapR {K : Type} (kv : K → Value) (l : List (K × Value)) (es : Array MapEntry) (clock : Nat) : Prop :=
  es.toList.map (fun e => (e.key, e.val)) = l.map (fun p => (kv p.1, p.2)) ∧ (es.toList.map (·.born)).Nodup ∧ ∀ e ∈ es.toList, e.born < clock
structure mapI {K : Type} (kv : K → Value) (b : Nat) (l : List (K × Value)) (h : Hlt) : Prop where
  cut : ∃ es clock, MapR kv l es clock ∧ blk b (.map es clock) h
/-- .. and the stamp s is k's entry's. -/
structure mapS {K : Type} [DecidableEq K] (kv : K → Value) (b : Nat) (l : List (K × Value)) (k : K) (s : Nat) (h : Hlt) : Prop where
  cut : ∃ es clock i, MapR kv l es clock ∧ posL l k = some i ∧ (es[i]?).map (·.born) = some s ∧ blk b (.map es clock) h
theorem MapR.nil {K : Type} (kv : K → Value) : MapR kv [] #[] 0 := ⟨rfl, by simp, by simp⟩
theorem St.mapI_new {K : Type} (kv : K → Value) {w0 : World} {M : Nat → Prop} {Is : List Itm} {w : World} {b : Nat} (h : St w0 M (blk b (.map #[] 0) :: Is) w) : St w0 M (mapI kv b [] :: Is) w := h.reSep fun H hs => by
  obtain ⟨h1, h2, i1, i2, dj, eq⟩ := hs
  exact ⟨h1, h2, ⟨⟨#[], 0, MapR.nil kv, i1⟩⟩, i2, dj, eq⟩
theorem St.mapI_open {K : Type} {kv : K → Value} {w0 : World} {M : Nat → Prop} {Is : List Itm} {w : World} {b : Nat} {l : List (K × Value)} (h : St w0 M (mapI kv b l :: Is) w) : ∃ es clock, MapR kv l es clock ∧ St w0 M (blk b (.map es clock) :: Is) w := by
  obtain ⟨os, tape, output, size, H, ⟨h1, h2, ⟨⟨es, clock, hm, i1⟩⟩, i2, dj, eq⟩, g1, g2, g3⟩ := h
  exact ⟨es, clock, hm, os, tape, output, size, H, ⟨h1, h2, i1, i2, dj, eq⟩, g1, g2, g3⟩
theorem St.mapI_mk {K : Type} {kv : K → Value} {w0 : World} {M : Nat → Prop} {Is : List Itm} {w : World} {b : Nat} {l : List (K × Value)} {es : Array MapEntry} {clock : Nat} (h : St w0 M (blk b (.map es clock) :: Is) w) (hm : MapR kv l es clock) : St w0 M (mapI kv b l :: Is) w := h.reSep fun H hs => by
  obtain ⟨h1, h2, i1, i2, dj, eq⟩ := hs
  exact ⟨h1, h2, ⟨⟨es, clock, hm, i1⟩⟩, i2, dj, eq⟩
theorem St.mapS_open {K : Type} [DecidableEq K] {kv : K → Value} {w0 : World} {M : Nat → Prop} {Is : List Itm} {w : World} {b : Nat} {l : List (K × Value)} {k : K} {s : Nat} (h : St w0 M (mapS kv b l k s :: Is) w) :
    ∃ es clock i, MapR kv l es clock ∧ posL l k = some i ∧ (es[i]?).map (·.born) = some s ∧ St w0 M (blk b (.map es clock) :: Is) w := by
  obtain ⟨os, tape, output, size, H, ⟨h1, h2, ⟨⟨es, clock, i, hm, hp, hb, i1⟩⟩, i2, dj, eq⟩, g1, g2, g3⟩ := h
  exact ⟨es, clock, i, hm, hp, hb, os, tape, output, size, H, ⟨h1, h2, i1, i2, dj, eq⟩, g1, g2, g3⟩
theorem St.mapS_mk {K : Type} [DecidableEq K] {kv : K → Value} {w0 : World} {M : Nat → Prop} {Is : List Itm} {w : World} {b : Nat} {l : List (K × Value)} {es : Array MapEntry} {clock i s : Nat} {k : K} (h : St w0 M (blk b (.map es clock) :: Is) w) (hm : MapR kv l es clock) (hp : posL l k = some i) (hb : (es[i]?).map (·.born) = some s) : St w0 M (mapS kv b l k s :: Is) w := h.reSep fun H hs => by
  obtain ⟨h1, h2, i1, i2, dj, eq⟩ := hs
  exact ⟨h1, h2, ⟨⟨es, clock, i, hm, hp, hb, i1⟩⟩, i2, dj, eq⟩
theorem MapR.size {K : Type} {kv : K → Value} {l : List (K × Value)} {es : Array MapEntry} {clock : Nat} (h : MapR kv l es clock) : es.size = l.length := by
  have := congrArg List.length h.1; simpa using this
theorem MapR.at {K : Type} {kv : K → Value} {l : List (K × Value)} {es : Array MapEntry} {clock : Nat} (h : MapR kv l es clock) {i : Nat} {k : K} {v : Value} (hi : l[i]? = some (k, v)) : ∃ e, es[i]? = some e ∧ e.key = kv k ∧ e.val = v := by
  have := congrArg (fun x => x[i]?) h.1
  simp only [List.getElem?_map, hi, Option.map_some, Array.getElem?_toList] at this
  cases he : es[i]? with
  | none => rw [he] at this; simp at this
  | some e => rw [he] at this; simp at this; exact ⟨e, rfl, this.1, this.2⟩
theorem MapR.modify {K : Type} {kv : K → Value} {l : List (K × Value)} {es : Array MapEntry} {clock : Nat} (h : MapR kv l es clock) {i : Nat} {k : K} {v u : Value} (hi : l[i]? = some (k, v)) (f : MapEntry → MapEntry)
    (hf : ∀ e, es[i]? = some e → (f e).key = kv k ∧ (f e).val = u ∧ (f e).born = e.born) : MapR kv (l.set i (k, u)) (es.modify i f) clock := by
  obtain ⟨e, he, _, _⟩ := h.at hi
  obtain ⟨f1, f2, f3⟩ := hf e he
  have hlt := (Array.getElem?_eq_some_iff.1 he).1
  have hget : es[i] = e := (Array.getElem?_eq_some_iff.1 he).2
  have hlist : (es.modify i f).toList = es.toList.set i (f e) := by
    apply List.ext_getElem?
    intro j
    rw [Array.getElem?_toList, Array.getElem?_modify, List.getElem?_set]
    by_cases hj : i = j
    · subst hj; simp [hlt, hget]
    · simp [hj]
  refine ⟨?_, ?_, ?_⟩
  · rw [hlist, List.map_set, List.map_set, h.1, f1, f2]
  · rw [hlist, List.map_set, f3]
    have : (es.toList.map (·.born)).set i e.born = es.toList.map (·.born) := by
      apply List.ext_getElem?
      intro j
      rw [List.getElem?_set]
      by_cases hj : i = j
      · subst hj; simp [hlt, hget]
      · simp [hj]
    rw [this]; exact h.2.1
  · intro x hx
    rw [hlist] at hx
    rcases List.mem_or_eq_of_mem_set hx with hx | hx
    · exact h.2.2 x hx
    · subst hx; rw [f3]; exact h.2.2 e (List.mem_of_getElem? (by simpa using he))
theorem MapR.push {K : Type} {kv : K → Value} {l : List (K × Value)} {es : Array MapEntry} {clock : Nat} (h : MapR kv l es clock) (k : K) (v : Value) : MapR kv (l ++ [(k, v)]) (es.push { key := kv k, val := v, born := clock }) (clock + 1) := by
  refine ⟨by simp [h.1], ?_, ?_⟩
  · simp only [Array.toList_push, List.map_append, List.map_cons, List.map_nil]
    rw [List.nodup_append]
    refine ⟨h.2.1, by simp, fun a ha b hb => ?_⟩
    obtain ⟨e, he, rfl⟩ := List.mem_map.1 ha
    have := h.2.2 e he
    simp at hb; omega
  · intro e he
    simp only [Array.toList_push, List.mem_append, List.mem_singleton] at he
    rcases he with he | rfl
    · have := h.2.2 e he; omega
    · simp
theorem map_eraseIdx' {α β : Type} (f : α → β) : ∀ (l : List α) (i : Nat), (l.eraseIdx i).map f = (l.map f).eraseIdx i
  | [], _ => rfl
  | _ :: _, 0 => rfl
  | a :: l, i + 1 => by simp [map_eraseIdx' f l i]
theorem MapR.erase {K : Type} {kv : K → Value} {l : List (K × Value)} {es : Array MapEntry} {clock : Nat} (h : MapR kv l es clock) (i : Nat) : MapR kv (l.eraseIdx i) (es.eraseIdxIfInBounds i) clock := by
  have hl : (es.eraseIdxIfInBounds i).toList = es.toList.eraseIdx i := by
    simp
  refine ⟨?_, ?_, ?_⟩
  · rw [hl, map_eraseIdx', h.1, ← map_eraseIdx']
  · rw [hl, map_eraseIdx']
    exact h.2.1.sublist (List.eraseIdx_sublist _ _)
  · intro e he
    rw [hl] at he
    exact h.2.2 e (List.mem_of_mem_eraseIdx he)

section
variable {X : Cx} {e : Env} {Is : List Itm} {dst : Option Tmp} {ty : TypeId} {pos : String} {aft : Array Edge} {g : Option (Nat × Bool)} {t : TypeId} {K : Type}
theorem eff_makeMapI (kv : K → Value) : Eff X e Is ⟨dst, .makeMap t none, ty, pos, aft, g⟩ (fun v Is' => ∃ b, v = .map (some b) ∧ Is' = mapI kv b [] :: Is) :=
  eff_value (by intro c; simp) fun a w ha hw => by
    refine ⟨_, _, _, ?_, ⟨w.heap.size, rfl, rfl⟩, (hw.alloc _).mapI_new kv⟩
    simp [execOp, Instr.makeMap]
end
section
variable {X : Cx} {e : Env} {Is Is' : List Itm} {dst : Option Tmp} {ty : TypeId} {pos : String} {aft : Array Edge} {g : Option (Nat × Bool)} {x y z : Operand} {t : TypeId} {K : Type} [DecidableEq K] {kv : K → Value} {kt et : TypeId} {b : Nat} {l : List (K × Value)} {k : K}

theorem run_lookup {w : World} {es : Array MapEntry} {clock size bytes : Nat} {zv : Value} (L : KL X.P kt kv) (ht : X.P.underlying t = some (.map kt et)) (hz : Ti X.P et zv size bytes) (hb : w.heap[b]? = some (.map es clock)) (hm : MapR kv l es clock) (c : Bool) :
    (Instr.lookup t (.map (some b)) (kv k) c).run X.P w = .ok (if c then .tuple #[(getL l k).getD zv, .bool (getL l k).isSome] else (getL l k).getD zv) w := by
  have hg : (getObj b).run X.P w = .ok (.map es clock) w := by simp [getObj, Sem.run, hb]
  simp only [Instr.lookup, Sem.run_bind, run_underlying' ht, Result.andThen_ok, hg, Sem.run_pure, L.check, L.find es.toList l k w hm.1]
  cases hp : posL l k with
  | none => simp [(posL_none hp).1, hz.run_zero]
  | some i =>
    obtain ⟨v, h1, h2, _⟩ := posL_some hp
    simp [h1, h2]
/-- 'm[k]', 'm[k], ok' -/
theorem opv_lookup {size bytes : Nat} {zv : Value} {c : Bool} (hx : ev e x = some (.map (some b))) (hy : ev e y = some (kv k)) (L : KL X.P kt kv) (ht : X.P.underlying t = some (.map kt et)) (hz : Ti X.P et zv size bytes) (hp : Pk (mapI kv b l) Is Is') :
    Opv X e Is ⟨dst, .lookup t x y c, ty, pos, aft, g⟩ (if c then .tuple #[(getL l k).getD zv, .bool (getL l k).isSome] else (getL l k).getD zv) :=
  opv_of (by intro c; simp) fun a w ha hw => by
    obtain ⟨es, clock, hm, hst⟩ := (hw.pk hp).mapI_open
    simp [execOp, ha.eval hx, ha.eval hy, run_lookup L ht hz (hst.get (.here _)) hm]
theorem opv_lookup_ok_some {size bytes : Nat} {zv v : Value} (hx : ev e x = some (.map (some b))) (hy : ev e y = some (kv k)) (L : KL X.P kt kv) (ht : X.P.underlying t = some (.map kt et)) (hz : Ti X.P et zv size bytes) (hp : Pk (mapI kv b l) Is Is') (hg : getL l k = some v) :
    Opv X e Is ⟨dst, .lookup t x y true, ty, pos, aft, g⟩ (.tuple #[v, .bool true]) := by have := opv_lookup (dst := dst) (ty := ty) (pos := pos) (aft := aft) (g := g) (c := true) hx hy L ht hz hp; rw [hg] at this; exact this
theorem opv_lookup_ok_none {size bytes : Nat} {zv : Value} (hx : ev e x = some (.map (some b))) (hy : ev e y = some (kv k)) (L : KL X.P kt kv) (ht : X.P.underlying t = some (.map kt et)) (hz : Ti X.P et zv size bytes) (hp : Pk (mapI kv b l) Is Is') (hg : getL l k = none) :
    Opv X e Is ⟨dst, .lookup t x y true, ty, pos, aft, g⟩ (.tuple #[zv, .bool false]) := by have := opv_lookup (dst := dst) (ty := ty) (pos := pos) (aft := aft) (g := g) (c := true) hx hy L ht hz hp; rw [hg] at this; exact this
theorem opv_lookup1 {size bytes : Nat} {zv v : Value} (hx : ev e x = some (.map (some b))) (hy : ev e y = some (kv k)) (L : KL X.P kt kv) (ht : X.P.underlying t = some (.map kt et)) (hz : Ti X.P et zv size bytes) (hp : Pk (mapI kv b l) Is Is') (hg : (getL l k).getD zv = v) :
    Opv X e Is ⟨dst, .lookup t x y false, ty, pos, aft, g⟩ v := by have := opv_lookup (dst := dst) (ty := ty) (pos := pos) (aft := aft) (g := g) (c := false) hx hy L ht hz hp; rw [hg] at this; exact this
/-- A map that is read alone. -/
theorem opv_lookup_rd {size bytes : Nat} {zv v : Value} {es : Array MapEntry} {clock : Nat} (hx : ev e x = some (.map (some b))) (hy : ev e y = some (kv k)) (L : KL X.P kt kv) (ht : X.P.underlying t = some (.map kt et)) (hz : Ti X.P et zv size bytes) (hb : Rd X Is b (.map es clock)) (hm : MapR kv l es clock) (hg : (getL l k).getD zv = v) :
    Opv X e Is ⟨dst, .lookup t x y false, ty, pos, aft, g⟩ v :=
  opv_of (by intro c; simp) fun a w ha hw => by
    subst hg
    simp [execOp, ha.eval hx, ha.eval hy, run_lookup L ht hz (hb w hw) hm]
theorem run_update {w : World} {w0 : World} {M : Nat → Prop} {es : Array MapEntry} {clock : Nat} (v : Value) (L : KL X.P kt kv) (ht : X.P.underlying t = some (.map kt et)) (hst : St w0 M (blk b (.map es clock) :: Is) w) (hm : MapR kv l es clock) :
    ∃ w', (Instr.mapUpdate t (.map (some b)) (kv k) v).run X.P w = .ok () w' ∧ St w0 M (mapI kv b (setL l k v) :: Is) w' := by
  have hb := hst.get (.here _)
  have hg : (getObj b).run X.P w = .ok (.map es clock) w := by simp [getObj, Sem.run, hb]
  simp only [Instr.mapUpdate, Sem.run_bind, run_underlying' ht, Result.andThen_ok, hg, L.check, L.find es.toList l k w hm.1]
  cases hp : posL l k with
  | none =>
    refine ⟨_, ?_, (hst.set (.here _) (Turned.setObj hb (.map (es.push { key := kv k, val := v, born := clock }) (clock + 1)))).mapI_mk ?_⟩
    · simp [setObj, Sem.run, hb]
    · rw [(posL_none hp).2]; exact hm.push k v
  | some i =>
    obtain ⟨u, h1, h2, h3, _⟩ := posL_some hp
    obtain ⟨en, he, hk, hv⟩ := hm.at h1
    refine ⟨_, ?_, (hst.set (.here _) (Turned.setObj hb (.map (es.modify i fun e => { e with key := kv k, val := v }) clock))).mapI_mk ?_⟩
    · simp [h1, he, hk, L.stays, setObj, Sem.run, hb]
    · rw [h3]; exact hm.modify h1 _ fun e _ => ⟨rfl, rfl, rfl⟩
/-- 'm[k] = v' -/
theorem eff_mapUpdate {v : Value} (hx : ev e x = some (.map (some b))) (hy : ev e y = some (kv k)) (hz : ev e z = some v) (L : KL X.P kt kv) (ht : X.P.underlying t = some (.map kt et)) (hp : Pk (mapI kv b l) Is Is') :
    Eff X e Is ⟨dst, .mapUpdate t x y z, ty, pos, aft, g⟩ (fun u Is2 => u = undef ∧ Is2 = mapI kv b (setL l k v) :: Is') :=
  eff_skip (by intro c; simp) fun a w ha hw => by
    obtain ⟨es, clock, hm, hst⟩ := (hw.pk hp).mapI_open
    obtain ⟨w', hr, h'⟩ := run_update (X := X) (t := t) (k := k) v L ht hst hm
    exact ⟨w', _, by simp [execOp, ha.eval hx, ha.eval hy, ha.eval hz, hr], rfl, h'⟩
/-- 'm[k] op= ..': the entry is laid first. -/
theorem eff_mapEntry {size bytes : Nat} {zv : Value} (hx : ev e x = some (.map (some b))) (hy : ev e y = some (kv k)) (L : KL X.P kt kv) (ht : X.P.underlying t = some (.map kt et)) (hz : Ti X.P et zv size bytes) (hp : Pk (mapI kv b l) Is Is') :
    Eff X e Is ⟨dst, .mapEntry t x y, ty, pos, aft, g⟩ (fun u Is2 => ∃ s : Nat, u = .tuple #[(getL l k).getD zv, .int .i64 s] ∧ Is2 = mapS kv b (setL l k ((getL l k).getD zv)) k s :: Is') :=
  eff_value (by intro c; simp) fun a w ha hw => by
    obtain ⟨es, clock, hm, hst⟩ := (hw.pk hp).mapI_open
    have hb := hst.get (.here _)
    have hg : (getObj b).run X.P w = .ok (.map es clock) w := by simp [getObj, Sem.run, hb]
    cases hp : posL l k with
    | none =>
      refine ⟨_, _, _, ?_, ⟨clock, rfl, rfl⟩, (hst.set (.here _) (Turned.setObj hb (.map (es.push { key := kv k, val := zv, born := clock }) (clock + 1)))).mapS_mk (i := l.length) ?_ ?_ ?_⟩
      · simp [execOp, ha.eval hx, ha.eval hy, Instr.mapEntry, run_underlying' ht, hg, L.check, L.find es.toList l k w hm.1, hp, hz.run_zero, setObj, Sem.run, hb, (posL_none hp).1, goInt]
      · rw [(posL_none hp).2, (posL_none hp).1]; exact hm.push k zv
      · rw [(posL_none hp).2]
        have : ∀ (l : List (K × Value)) (v : Value), posL l k = none → posL (l ++ [(k, v)]) k = some l.length := by
          intro l v
          induction l with
          | nil => intro _; simp [posL]
          | cons q t ih =>
            intro h
            obtain ⟨q1, q2⟩ := q
            simp only [posL] at h
            split at h
            · cases h
            · rename_i hne
              simp [posL, hne, ih (by simpa using h)]
        exact this l _ hp
      · rw [← hm.size]; simp
    | some i =>
      obtain ⟨u, h1, h2, h3, _⟩ := posL_some hp
      obtain ⟨en, he, hk, hv⟩ := hm.at h1
      refine ⟨_, _, _, ?_, ⟨en.born, rfl, rfl⟩, (hst.set (.here _) (Turned.setObj hb (.map (es.modify i fun e => { e with key := kv k }) clock))).mapS_mk (i := i) ?_ ?_ ?_⟩
      · simp [execOp, ha.eval hx, ha.eval hy, Instr.mapEntry, run_underlying' ht, hg, L.check, L.find es.toList l k w hm.1, hp, h1, he, hk, L.stays, setObj, Sem.run, hb, h2, goInt]
      · rw [h2, h3]; exact hm.modify h1 _ fun e he' => ⟨rfl, by rw [he] at he'; cases he'; exact hv, rfl⟩
      · rw [h2, h3]
        have : ∀ (l : List (K × Value)) (i : Nat) (v : Value), posL l k = some i → posL (l.set i (k, v)) k = some i := by
          intro l
          induction l with
          | nil => intro i v h; simp [posL] at h
          | cons q t ih =>
            intro i v h
            obtain ⟨q1, q2⟩ := q
            simp only [posL] at h
            split at h
            · obtain rfl : i = 0 := by simpa using h.symm
              simp [posL]
            · rename_i hne
              cases hq : posL t k with
              | none => rw [hq] at h; simp at h
              | some j =>
                rw [hq] at h
                obtain rfl : i = j + 1 := by simpa using h.symm
                simp [posL, hne, ih j v hq]
        exact this l i _ hp
      · rw [Array.getElem?_modify]; simp [he]
theorem eff_entryStore {s : Nat} {v : Value} (hx : ev e x = some (.map (some b))) (hy : ev e y = some (.int .i64 s)) (hz : ev e z = some v) (hp : Pk (mapS kv b l k s) Is Is') :
    Eff X e Is ⟨dst, .entryStore t x y z, ty, pos, aft, g⟩ (fun u Is2 => u = undef ∧ Is2 = mapI kv b (setL l k v) :: Is') :=
  eff_skip (by intro c; simp) fun a w ha hw => by
    obtain ⟨es, clock, i, hm, hpos, hs, hst⟩ := (hw.pk hp).mapS_open
    have hb := hst.get (.here _)
    have hg : (getObj b).run X.P w = .ok (.map es clock) w := by simp [getObj, Sem.run, hb]
    obtain ⟨u, h1, h2, h3, _⟩ := posL_some hpos
    obtain ⟨en, he, hk, hv⟩ := hm.at h1
    have hborn : en.born = s := by rw [he] at hs; simpa using hs
    have hlt := (Array.getElem?_eq_some_iff.1 he).1
    have hfind : es.findIdx? (fun e => (e.born : Int) == (s : Int)) = some i := by
      rw [Array.findIdx?_eq_some_iff_getElem]
      refine ⟨hlt, ?_, fun j hji hc => ?_⟩
      · have : es[i] = en := (Array.getElem?_eq_some_iff.1 he).2
        rw [this, hborn]; simp
      · have hjl : j < es.size := by omega
        have e1 : (es.toList.map (·.born))[j]? = some s := by
          simp only [List.getElem?_map, Array.getElem?_toList, Array.getElem?_eq_getElem hjl, Option.map_some, Option.some.injEq]
          simp at hc; omega
        have e2 : (es.toList.map (·.born))[i]? = some s := by simp [he, hborn]
        have := (List.getElem?_inj (by simp; exact hjl) hm.2.1).1 (e1.trans e2.symm)
        omega
    refine ⟨_, _, ?_, rfl, (hst.set (.here _) (Turned.setObj hb (.map (es.modify i fun e => { e with val := v }) clock))).mapI_mk ?_⟩
    · simp [execOp, ha.eval hx, ha.eval hy, ha.eval hz, Instr.entryStore, hg, asInt, asIntOf, hfind, setObj, Sem.run, hb]
    · rw [h3]; exact hm.modify h1 _ fun e he' => ⟨by rw [he] at he'; cases he'; exact hk, rfl, rfl⟩
/-- 'delete(m, k)' -/
theorem eff_delete (hx : ev e x = some (.map (some b))) (hy : ev e y = some (kv k)) (L : KL X.P kt kv) (ht : X.P.underlying t = some (.map kt et)) {ts : TypeId} (hp : Pk (mapI kv b l) Is Is') :
    Eff X e Is ⟨dst, .call ⟨.builtin .delete, #[x, y], #[t, ts]⟩, ty, pos, aft, g⟩ (fun u Is2 => u = .tuple #[] ∧ Is2 = mapI kv b (delL l k) :: Is') :=
  eff_value (by intro c; simp) fun a w ha hw => by
    obtain ⟨es, clock, hm, hst⟩ := (hw.pk hp).mapI_open
    have hb := hst.get (.here _)
    have hg : (getObj b).run X.P w = .ok (.map es clock) w := by simp [getObj, Sem.run, hb]
    cases hp : posL l k with
    | none =>
      refine ⟨_, _, _, ?_, ⟨rfl, rfl⟩, (hst.set (.here _) (Turned.setObj hb (.map es clock))).mapI_mk (by rw [posL_none_del hp]; exact hm)⟩
      simp [execOp, resolve, invoke, builtin, Builtin.delete_, ha.eval hx, ha.eval hy, run_underlying' ht, hg, L.check, L.find es.toList l k w hm.1, hp, setObj, Sem.run, hb]
    | some i =>
      obtain ⟨u, h1, h2, h3, h4⟩ := posL_some hp
      refine ⟨_, _, _, ?_, ⟨rfl, rfl⟩, (hst.set (.here _) (Turned.setObj hb (.map (es.eraseIdxIfInBounds i) clock))).mapI_mk (by rw [h4]; exact hm.erase i)⟩
      simp [execOp, resolve, invoke, builtin, Builtin.delete_, ha.eval hx, ha.eval hy, run_underlying' ht, hg, L.check, L.find es.toList l k w hm.1, hp, h1, setObj, Sem.run, hb]
end
end Go.SL
