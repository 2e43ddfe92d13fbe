/- The operations that make or turn memory, and calls, over the session's own judgements. -/
import Derived.Test.YthkafociknhgaaaSLPure
import Derived.Laws.AppendOwn
import Derived.Laws.OwnMore
namespace Go.SL
open Go

section
variable {X : Cx} {e : Env} {Is Is' : List Itm} {dst : Option Tmp} {ty : TypeId} {pos : String} {aft : Array Edge} {g : Option (Nat × Bool)} {x y : Operand} {t : TypeId}

theorem eff_value {o : Oper} {G : Value → List Itm → Prop} (hnd : ∀ c, o.op ≠ .defer c)
    (h : ∀ a w, Sat X.N e X.ds a → St X.w0 X.M Is w → ∃ v w' Is', (execOp a.eval o).run X.P w = .ok (.value v) w' ∧ G v Is' ∧ St X.w0 X.M Is' w') : Eff X e Is o G := fun a w ha hw => by
  obtain ⟨v, w', Is', hr, hG, hst⟩ := h a w ha hw
  refine ⟨fun _ _ => trivial, ?_⟩
  show Oper.uponIn _ _ _ _ _ _ _ ((o.semAt X.ro a.eval).run X.P w)
  rw [Oper.semAt_eq _ _ _ hnd, hr]
  exact ⟨v, Is', rfl, hG, hst⟩
theorem eff_skip {o : Oper} {G : List Itm → Prop} (hnd : ∀ c, o.op ≠ .defer c)
    (h : ∀ a w, Sat X.N e X.ds a → St X.w0 X.M Is w → ∃ w' Is', (execOp a.eval o).run X.P w = .ok .skip w' ∧ G Is' ∧ St X.w0 X.M Is' w') : Eff X e Is o fun v Is' => v = undef ∧ G Is' := fun a w ha hw => by
  obtain ⟨w', Is', hr, hG, hst⟩ := h a w ha hw
  refine ⟨fun _ _ => trivial, ?_⟩
  show Oper.uponIn _ _ _ _ _ _ _ ((o.semAt X.ro a.eval).run X.P w)
  rw [Oper.semAt_eq _ _ _ hnd, hr]
  exact ⟨undef, Is', rfl, ⟨rfl, hG⟩, hst⟩

/-- A new block, and where it lies. -/
def NewBlk (Is : List Itm) (o : Obj) (v : Value) (Is' : List Itm) : Prop := ∃ b, v = .pointer (some ⟨b, 0, none⟩) ∧ Is' = blk b o :: Is
theorem eff_alloc {el : TypeId} {z : Value} {size bytes : Nat} {cs : Array Value} (hz : Ti X.P el z size bytes) (hc : z.cells = cs) :
    Eff X e Is ⟨dst, .alloc el, ty, pos, aft, g⟩ (NewBlk Is (.cells cs el (0, 0))) :=
  eff_value (by intro c; simp) fun a w ha hw => by
    refine ⟨_, _, _, ?_, ⟨w.heap.size, rfl, rfl⟩, hw.alloc _⟩
    simp [execOp, Instr.alloc, hz.run_zero, newVar, newRow, hc]
theorem eff_box {el : TypeId} {v : Value} {cs : Array Value} (hx : ev e x = some v) (hc : v.cells = cs) :
    Eff X e Is ⟨dst, .box el x, ty, pos, aft, g⟩ (NewBlk Is (.cells cs el (0, 0))) :=
  eff_value (by intro c; simp) fun a w ha hw => by
    refine ⟨_, _, _, ?_, ⟨w.heap.size, rfl, rfl⟩, hw.alloc _⟩
    simp [execOp, Instr.box, newVar, newRow, ha.eval hx, hc]
def NewMap (Is : List Itm) (v : Value) (Is' : List Itm) : Prop := ∃ b, v = .map (some b) ∧ Is' = blk b (.map #[] 0) :: Is
theorem eff_makeMap : Eff X e Is ⟨dst, .makeMap t none, ty, pos, aft, g⟩ (NewMap Is) :=
  eff_value (by intro c; simp) fun a w ha hw => by
    refine ⟨_, _, _, ?_, ⟨w.heap.size, rfl, rfl⟩, hw.alloc _⟩
    simp [execOp, Instr.makeMap]
def NewSlice (Is : List Itm) (o : Obj) (n : Nat) (v : Value) (Is' : List Itm) : Prop := ∃ b, v = .slice (some ⟨b, 0, none⟩) n n ∧ Is' = blk b o :: Is
theorem eff_buildSlice {ps : Array (Nat × Operand)} {vs : List (Nat × Value)} {n : Nat} {cs : Array Value} {el : TypeId} (hp : evp e ps.toList = some vs)
    (hrun : ∀ w : World, (Instr.buildSlice t n vs.toArray).run X.P w = .ok (.slice (some ⟨w.heap.size, 0, none⟩) n n) { w with heap := w.heap.push (.cells cs el) }) :
    Eff X e Is ⟨dst, .buildSlice t n ps, ty, pos, aft, g⟩ (NewSlice Is (.cells cs el (0, 0)) n) :=
  eff_value (by intro c; simp) fun a w ha hw => by
    refine ⟨_, _, _, ?_, ⟨w.heap.size, rfl, rfl⟩, hw.alloc _⟩
    have := evp_arr ha hp
    simp only [execOp, Sem.run_bind]
    rw [show (ps.map fun x => match x with | (i, x) => (i, a.eval x)) = vs.toArray from this]
    simp [hrun]

/-! ### stores -/
def putCells (c : Array Value) (off : Nat) : List Value → Array Value
  | [] => c
  | v :: vs => putCells (c.setIfInBounds off v) (off + 1) vs
theorem putCells_size (c : Array Value) (vs : List Value) : ∀ off, (putCells c off vs).size = c.size := by
  induction vs generalizing c with
  | nil => intro _; rfl
  | cons v vs ih => intro off; simp [putCells, ih]
theorem putCells_get (vs : List Value) : ∀ (c : Array Value) (off i : Nat), off + vs.length ≤ c.size → (putCells c off vs)[i]? = if off ≤ i ∧ i < off + vs.length then vs[i - off]? else c[i]? := by
  induction vs with
  | nil => intro c off i _; simp [putCells]; omega
  | cons v vs ih =>
    intro c off i h
    simp only [List.length_cons] at h
    simp only [putCells]
    rw [ih _ _ _ (by simp; omega)]
    by_cases h1 : off + 1 ≤ i ∧ i < off + 1 + vs.length
    · rw [if_pos h1, if_pos (by simp; omega)]
      have : i - off = (i - (off + 1)) + 1 := by omega
      rw [this, List.getElem?_cons_succ]
    · rw [if_neg h1, Array.getElem?_setIfInBounds]
      by_cases h2 : off = i
      · subst h2; simp; omega
      · rw [if_neg h2, if_neg (by simp; omega)]
theorem run_storeCells_put {P : Program} {b : Nat} {el : TypeId} : ∀ (vs : List Value) (w : World) (c : Array Value) (off i : Nat), w.heap[b]? = some (.cells c el (0, 0)) → off + i + vs.length ≤ c.size → vs.all Value.oneCell' = true →
    ∃ w', (storeCells ⟨b, off, none⟩ vs i).run P w = .ok () w' ∧ Turned w w' (fun k z => if k = b then some (.cells (putCells c (off + i) vs) el (0, 0)) else z)
  | [], w, c, off, i, hb, _, _ => by
    refine ⟨w, rfl, rfl, rfl, rfl, Nat.le_refl _, fun k => ?_⟩
    by_cases h : k = b
    · subst h; simp [hb, putCells]
    · simp [h]
  | v :: vs, w, c, off, i, hb, hl, h1 => by
    simp only [List.all_cons, Bool.and_eq_true] at h1
    simp only [List.length_cons] at hl
    have hcell : w.cell? ⟨b, off + i, none⟩ = some (c[off + i]'(by omega)) := by simp [World.cell?, hb]
    have hfz : w.frozen? ⟨b, off + i, none⟩ = false := by simp [World.frozen?, hb]
    have ht := Turned.setCell (off := off + i) hb v
    have hb' : (w.setCell ⟨b, off + i, none⟩ v).heap[b]? = some (.cells (c.setIfInBounds (off + i) v) el (0, 0)) := by rw [ht.heap b]; simp
    obtain ⟨w', hr, ht'⟩ := run_storeCells_put (P := P) vs (w.setCell ⟨b, off + i, none⟩ v) (c.setIfInBounds (off + i) v) off (i + 1) hb' (by simp; omega) h1.2
    refine ⟨w', ?_, ht'.os.trans ht.os, ht'.tape.trans ht.tape, ht'.output.trans ht.output, Nat.le_trans ht.size ht'.size, fun k => ?_⟩
    · simp only [storeCells, Sem.run_bind, add_at, run_store P w _ v .plain h1.1, hcell, hfz, Bool.false_eq_true, if_false, Result.andThen_ok]
      exact hr
    · rw [ht'.heap k, ht.heap k]
      by_cases h : k = b
      · subst h; simp [putCells, Nat.add_assoc]
      · simp [h]
theorem eff_store {b off size bytes : Nat} {z v : Value} {vs : List Value} {c : Array Value} {el : TypeId} (hx : ev e x = some (.pointer (some ⟨b, off, none⟩))) (hy : ev e y = some v) (hv : v.cells.toList = vs) (hz : Ti X.P t z size bytes) (hs : vs.length = size)
    (hp : Pk (blk b (.cells c el (0, 0))) Is Is') (hl : off + size ≤ c.size) (h1 : vs.all Value.oneCell' = true) :
    Eff X e Is ⟨dst, .store t x y, ty, pos, aft, g⟩ (fun u Is2 => u = undef ∧ Is2 = blk b (.cells (putCells c off vs) el (0, 0)) :: Is') :=
  eff_skip (by intro c; simp) fun a w ha hw => by
    obtain ⟨w', hr, ht⟩ := run_storeCells_put (P := X.P) vs w c off 0 (hw.get hp) (by rw [hs]; simpa using hl) h1
    refine ⟨w', _, ?_, rfl, hw.set hp (by simpa using ht)⟩
    have hsz : v.cells.size = size := by rw [← hs, ← hv]; simp
    simp [execOp, Instr.storeAt, Instr.sureAddr, storeVar, ha.eval hx, ha.eval hy, hz.run_size, hsz, hv, hr]

/-! ### a slice of the call's own: nil, or the head of a block of its own -/
structure own (v : Value) (el : TypeId) (size n : Nat) (xs : List Value) (h : Hlt) : Prop where
  cut : xs.length = n * size ∧ ((v = .slice none 0 0 ∧ n = 0 ∧ ∀ k, h k = none) ∨
    ∃ b cap cur, v = .slice (some ⟨b, 0, none⟩) n cap ∧ n ≤ cap ∧ cap ≤ maxLen ∧ cur.size = cap * size ∧ cur.toList.take (n * size) = xs ∧ blk b (.cells cur el (0, 0)) h)
theorem St.own_nil {w0 : World} {M : Nat → Prop} {w : World} (h : St w0 M Is w) (el : TypeId) (size : Nat) : St w0 M (own (.slice none 0 0) el size 0 [] :: Is) w :=
  h.reSep fun H hs => ⟨fun _ => none, H, ⟨⟨by simp, .inl ⟨rfl, rfl, fun _ => rfl⟩⟩⟩, hs, fun _ => .inl rfl, fun k => by simp⟩
theorem St.own_mk {w0 : World} {M : Nat → Prop} {w : World} {b n cap size : Nat} {cur : Array Value} {el : TypeId} {xs : List Value} (h : St w0 M (blk b (.cells cur el (0, 0)) :: Is) w) (h1 : n ≤ cap) (h2 : cap ≤ maxLen) (h3 : cur.size = cap * size) (h4 : cur.toList.take (n * size) = xs) :
    St w0 M (own (.slice (some ⟨b, 0, none⟩) n cap) el size n xs :: Is) w := by
  refine h.reSep fun H hs => ?_
  obtain ⟨a1, a2, b1, b2, dj, eq⟩ := hs
  refine ⟨a1, a2, ⟨⟨?_, .inr ⟨b, cap, cur, rfl, h1, h2, h3, h4, b1⟩⟩⟩, b2, dj, eq⟩
  rw [← h4, List.length_take, Array.length_toList, h3]
  exact Nat.min_eq_left (Nat.mul_le_mul_right _ h1)
theorem St.own_open {w0 : World} {M : Nat → Prop} {w : World} {v : Value} {el : TypeId} {size n : Nat} {xs : List Value} (h : St w0 M (own v el size n xs :: Is) w) :
    xs.length = n * size ∧ ((v = .slice none 0 0 ∧ n = 0 ∧ St w0 M Is w) ∨
      ∃ b cap cur, v = .slice (some ⟨b, 0, none⟩) n cap ∧ n ≤ cap ∧ cap ≤ maxLen ∧ cur.size = cap * size ∧ cur.toList.take (n * size) = xs ∧ St w0 M (blk b (.cells cur el (0, 0)) :: Is) w) := by
  obtain ⟨os, tape, output, sz, H, ⟨a1, a2, ⟨⟨hl, b1⟩⟩, b2, dj, eq⟩, g1, g2, g3⟩ := h
  refine ⟨hl, ?_⟩
  rcases b1 with ⟨hv, hn, he⟩ | ⟨b, cap, cur, hv, c1, c2, c3, c4, c5⟩
  · left
    have : H = a2 := funext fun k => by rw [eq k, he k]; simp
    exact ⟨hv, hn, os, tape, output, sz, H, this ▸ b2, g1, g2, g3⟩
  · exact .inr ⟨b, cap, cur, hv, c1, c2, c3, c4, os, tape, output, sz, H, ⟨a1, a2, c5, b2, dj, eq⟩, g1, g2, g3⟩
theorem Turned.setRow {w : World} {b : Nat} {c : Array Value} {t : TypeId} {fz : Nat × Nat} (h : w.heap[b]? = some (.cells c t fz)) (cs : Array Value) :
    Turned w (w.setRow b cs) fun k x => if k = b then some (.cells cs t fz) else x := by
  refine ⟨rfl, rfl, rfl, by simp [World.setRow], fun k => ?_⟩
  by_cases e : k = b
  · subst e; simp [setRow_heap w k c cs t fz h]
  · simp [e, setRow_other w b k cs e]
theorem St.append {P : Program} {w0 : World} {M : Nat → Prop} {w : World} {v : Value} {el : TypeId} {size n bytes : Nat} {xs : List Value} {z : Value} (h : St w0 M (own v el size n xs :: Is) w)
    (t ty : TypeId) (ht : P.underlying t = some (.slice el)) (hz : Ti P el z size bytes) (hzs : z.cells.size = size) (hsz : 0 < size)
    (a : Addr) (m c : Nat) (news : List Value) (hl : news.length = m * size) (hnews : ∀ j u, news[j]? = some u → w.cell? (a.add j) = some u) (h1 : news.all Value.oneCell' = true)
    (h63 : n + m ≤ maxLen) (hbytes : (n + m) * bytes ≤ 140737488355328) :
    ∃ v' w', (Builtin.append_ #[t, t] ty #[v, .slice (some a) m c]).run P w = .ok v' w' ∧ St w0 M (own v' el size (n + m) (xs ++ news) :: Is) w' ∧ (v' = .slice none 0 0 ↔ v = .slice none 0 0 ∧ m = 0) := by
  obtain ⟨i, hi, hiz, hsize, hby⟩ := hz.out
  subst hsize; subst hby
  have hsmall : n + m ≤ 9223372036854775807 := by simp only [maxLen] at h63; omega
  have h1' : ∀ u ∈ news, u.oneCell' = true := by simpa using h1
  obtain ⟨hxl, hv⟩ := h.own_open
  have hlen : (xs ++ news).length = (n + m) * i.size := by rw [List.length_append, hxl, hl, Nat.add_mul]
  have grown : ∀ (old : Nat), old < n + m → ∀ (Is2 : List Itm), St w0 M Is2 w →
      St w0 M (own (.slice (some ⟨w.heap.size, 0, none⟩) (n + m) (grownCap w (n + m) old el)) el i.size (n + m) (xs ++ news) :: Is2)
        (w.drew.alloc (.cells (xs.toArray ++ news.toArray ++ Builtin.zeroCells z.cells (grownCap w (n + m) old el - (n + m))) el)) := by
    intro old ho Is2 hst
    have hge := grownCap_ge w (n + m) old el
    have hcm : grownCap w (n + m) old el ≤ maxLen := grownCap_le_maxLen w (n + m) old el h63
    refine St.own_mk (Is := Is2) (b := w.heap.size) (cur := xs.toArray ++ news.toArray ++ Builtin.zeroCells z.cells (grownCap w (n + m) old el - (n + m))) ((hst.drew (w.drawn + 1)).alloc _) hge hcm ?_ ?_
    · simp only [Array.size_append, List.size_toArray, size_zeroCells, hzs, hxl, hl, ← Nat.add_mul]
      congr 1
      omega
    · simp only [Array.toList_append, List.append_assoc]
      rw [← List.append_assoc, ← hlen]
      exact List.take_left
  rcases hv with ⟨rfl, rfl, hst⟩ | ⟨b, cap, cur, rfl, hnc, hcm, hcs, htake, hst⟩
  · have hx : xs = [] := List.eq_nil_of_length_eq_zero (by simpa using hxl)
    subst hx
    by_cases hm : m = 0
    · subst hm
      have hn : news = [] := List.eq_nil_of_length_eq_zero (by simpa using hl)
      subst hn
      refine ⟨.slice none 0 0, w, ?_, hst.own_nil _ _, by simp⟩
      simp [Builtin.append_, run_underlying' ht, sizeOf, typeInfo, hi, Builtin.lenOf, Builtin.firstCells, loadCells, loadCellsFrom]
    · have hr := run_append_nil (P := P) w t ty el i z ht hi hiz a m c news hl hnews (by omega) (by omega) (by have hb := hbytes; simp only [Nat.zero_add] at hb; omega)
      have hgr := grown 0 (by omega) _ hst
      simp only [Nat.zero_add, List.nil_append, Array.empty_append] at hgr ⊢
      exact ⟨_, _, hr, hgr, by simp [hm]⟩
  · have hg : w.heap[b]? = some (.cells cur el (0, 0)) := hst.get (.here _)
    by_cases hroom : n + m ≤ cap
    · have hfit : n * i.size + news.length ≤ cur.size := by rw [hl, hcs, ← Nat.add_mul]; exact Nat.mul_le_mul_right _ hroom
      have hr := run_append_room (P := P) w t ty el i ht hi b n cap cur hg a m c news hl hnews h1' hroom hfit
      refine ⟨_, _, hr, St.own_mk (hst.set (.here _) (Turned.setRow hg _)) hroom hcm ?_ ?_, by simp⟩
      · simp only [List.size_toArray, List.length_append, List.length_take, List.length_drop, Array.length_toList]
        omega
      · rw [htake, ← hlen]
        exact List.take_left
    · have holds : ∀ j u, xs[j]? = some u → w.cell? ((⟨b, 0, none⟩ : Addr).add j) = some u := fun j u hu => by
        rw [add_at]
        refine cell_of hg ?_
        rw [Nat.zero_add, ← Array.getElem?_toList]
        rw [← htake] at hu
        have hj : j < n * i.size := by
          have := (List.getElem?_eq_some_iff.1 hu).1
          rw [List.length_take] at this; omega
        rw [List.getElem?_take_of_lt hj] at hu
        exact hu
      have hr := run_append_grow (P := P) w t ty el i z ht hi hiz ⟨b, 0, none⟩ n cap xs hxl holds a m c news hl hnews (by omega) (by omega) (growslice_fits (by omega) hbytes)
      have hgr := grown cap (by omega) _ hst.drop
      exact ⟨_, _, hr, hgr, by simp⟩
/-- 'append(s, x..)' onto a slice of the call's own. -/
theorem eff_append {s : Operand} {v : Value} {el : TypeId} {size n m c bytes b off : Nat} {xs news : List Value} {z : Value} (hs : ev e s = some v) (hx : ev e x = some (.slice (some ⟨b, off, none⟩) m c)) (ht : X.P.underlying t = some (.slice el)) (hz : Ti X.P el z size bytes)
    (hzs : z.cells.size = size) (hsz : 0 < size) (hp : Pk (own v el size n xs) Is Is') {cs : Array Value} {el' : TypeId} {fz : Nat × Nat} (hb : Rd X Is b (.cells cs el' fz)) (hn : ∀ j u, news[j]? = some u → cs[off + j]? = some u) (hl : news.length = m * size)
    (h1 : news.all Value.oneCell' = true) (h63 : n + m ≤ maxLen) (hbytes : (n + m) * bytes ≤ 140737488355328) :
    Eff X e Is ⟨dst, .call ⟨.builtin .append, #[s, x], #[t, t]⟩, ty, pos, aft, g⟩ (fun v' Is2 => Is2 = own v' el size (n + m) (xs ++ news) :: Is' ∧ (v' = .slice none 0 0 ↔ v = .slice none 0 0 ∧ m = 0)) :=
  eff_value (by intro c; simp) fun a w ha hw => by
    obtain ⟨v', w', hr, hst, hv⟩ := (hw.pk hp).append (P := X.P) t ty ht hz hzs hsz ⟨b, off, none⟩ m c news hl (fun j u hj => by rw [add_at]; exact cell_of (hb w hw) (hn j u hj)) h1 h63 hbytes
    refine ⟨v', w', _, ?_, ⟨rfl, hv⟩, hst⟩
    simp [execOp, resolve, invoke, builtin, ha.eval hs, ha.eval hx, hr]
theorem eff_append_none {s : Operand} {v : Value} {el : TypeId} {size n bytes : Nat} {xs : List Value} {z : Value} {c : Nat} (hs : ev e s = some v) (hx : ev e x = some (.slice none 0 c)) (ht : X.P.underlying t = some (.slice el)) (hz : Ti X.P el z size bytes)
    (hp : Pk (own v el size n xs) Is Is') :
    Eff X e Is ⟨dst, .call ⟨.builtin .append, #[s, x], #[t, t]⟩, ty, pos, aft, g⟩ (fun v' Is2 => v' = v ∧ Is2 = Is) :=
  eff_value (by intro c; simp) fun a w ha hw => by
    obtain ⟨i, hi, hiz, hsize, hby⟩ := hz.out
    refine ⟨v, w, _, ?_, ⟨rfl, rfl⟩, hw⟩
    obtain ⟨_, hv⟩ := (hw.pk hp).own_open
    have : (Builtin.append_ #[t, t] ty #[v, .slice none 0 c]).run X.P w = .ok v w := by
      rcases hv with ⟨rfl, rfl, _⟩ | ⟨b, cap, cur, rfl, hnc, _⟩
      · simp [Builtin.append_, run_underlying' ht, sizeOf, typeInfo, hi, Builtin.lenOf, Builtin.firstCells]
      · simp [Builtin.append_, run_underlying' ht, sizeOf, typeInfo, hi, Builtin.lenOf, Builtin.firstCells, hnc, storeCells]
    simp [execOp, resolve, invoke, builtin, ha.eval hs, ha.eval hx, this]
/-- Taken apart in a judgement. -/
theorem jk_own_open {K : Act → World → Prop} {v : Value} {el : TypeId} {size n : Nat} {xs : List Value} (hp : Pk (own v el size n xs) Is Is')
    (h0 : xs.length = n * size → v = .slice none 0 0 → n = 0 → Jk X K e Is')
    (h1 : ∀ b cap cur, xs.length = n * size → v = .slice (some ⟨b, 0, none⟩) n cap → n ≤ cap → cap ≤ maxLen → cur.size = cap * size → cur.toList.take (n * size) = xs → Jk X K e (blk b (.cells cur el (0, 0)) :: Is')) : Jk X K e Is := by
  intro a w ha hw
  obtain ⟨hl, hv⟩ := (hw.pk hp).own_open
  rcases hv with ⟨hv, hn, hst⟩ | ⟨b, cap, cur, c1, c2, c3, c4, c5, hst⟩
  · exact h0 hl hv hn a w ha hst
  · exact h1 b cap cur hl c1 c2 c3 c4 c5 a w ha hst
theorem jk_own_nil {K : Act → World → Prop} (el : TypeId) (size : Nat) (h : Jk X K e (own (.slice none 0 0) el size 0 [] :: Is)) : Jk X K e Is := fun a w ha hw => h a w ha (hw.own_nil el size)
theorem jk_own_mk {K : Act → World → Prop} {b n cap size : Nat} {cur : Array Value} {el : TypeId} {xs : List Value} (hp : Pk (blk b (.cells cur el (0, 0))) Is Is') (h1 : n ≤ cap) (h2 : cap ≤ maxLen) (h3 : cur.size = cap * size) (h4 : cur.toList.take (n * size) = xs)
    (h : Jk X K e (own (.slice (some ⟨b, 0, none⟩) n cap) el size n xs :: Is')) : Jk X K e Is := fun a w ha hw => h a w ha ((hw.pk hp).own_mk h1 h2 h3 h4)

/-! ### a made slice -/
theorem eff_makeSlice {n size bytes : Nat} {z : Value} {el : TypeId} {k k' : IntKind} (hx : ev e x = some (.int k n)) (hy : ev e y = some (.int k' n)) (ht : X.P.underlying t = some (.slice el)) (hz : Ti X.P el z size bytes) (hb : n * bytes ≤ 281474976710656) (h63 : n ≤ maxLen) :
    Eff X e Is ⟨dst, .makeSlice t x y, ty, pos, aft, g⟩ (NewSlice Is (.cells (madeCells z.cells (n * size)) el (0, 0)) n) :=
  eff_value (by intro c; simp) fun a w ha hw => by
    obtain ⟨i, hi, hiz, hsize, hby⟩ := hz.out
    subst hsize; subst hby
    have h63' : (n : Int) ≤ 9223372036854775807 := by simp only [maxLen] at h63; omega
    have hb' : (i.bytes : Int) * (n : Int) ≤ 281474976710656 := by
      have h : ((i.bytes * n : Nat) : Int) ≤ 281474976710656 := by rw [Nat.mul_comm]; omega
      rwa [Int.natCast_mul] at h
    have hr := run_make (P := X.P) w t el i z ht hi hiz k k' n n (by omega) (Int.le_refl _) hb' h63'
    simp only [Int.toNat_natCast] at hr
    refine ⟨_, _, _, ?_, ⟨w.heap.size, rfl, rfl⟩, hw.alloc _⟩
    simp [execOp, ha.eval hx, ha.eval hy, hr]

/-! ### clear -/
theorem eff_clear_none {c : Nat} {d : TypeDesc} (hx : ev e x = some (.slice none 0 c)) (ht : X.P.underlying t = some d) : Eff X e Is ⟨dst, .call ⟨.builtin .clear, #[x], #[t]⟩, ty, pos, aft, g⟩ (fun v Is2 => v = .tuple #[] ∧ Is2 = Is) :=
  eff_value (by intro c; simp) fun a w ha hw => by
    refine ⟨_, _, _, ?_, ⟨rfl, rfl⟩, hw⟩
    simp [execOp, resolve, invoke, builtin, Builtin.clear_, ha.eval hx, run_underlying' ht]
theorem eff_clear_zero {A : Option Addr} {c : Nat} {d : TypeDesc} (hx : ev e x = some (.slice A 0 c)) (ht : X.P.underlying t = some d) : Eff X e Is ⟨dst, .call ⟨.builtin .clear, #[x], #[t]⟩, ty, pos, aft, g⟩ (fun v Is2 => v = .tuple #[] ∧ Is2 = Is) :=
  eff_value (by intro c; simp) fun a w ha hw => by
    refine ⟨_, _, _, ?_, ⟨rfl, rfl⟩, hw⟩
    cases A <;> simp [execOp, resolve, invoke, builtin, Builtin.clear_, ha.eval hx, run_underlying' ht]
theorem eff_clear {b off n cap size bytes : Nat} {z : Value} {el el' : TypeId} {c : Array Value} (hx : ev e x = some (.slice (some ⟨b, off, none⟩) n cap)) (ht : X.P.underlying t = some (.slice el)) (hz : Ti X.P el z size bytes) (hp : Pk (blk b (.cells c el' (0, 0))) Is Is')
    (hl : off + n * z.cells.size ≤ c.size) (h1 : (Builtin.zeroCells z.cells n).toList.all Value.oneCell' = true) :
    Eff X e Is ⟨dst, .call ⟨.builtin .clear, #[x], #[t]⟩, ty, pos, aft, g⟩ (fun v Is2 => v = .tuple #[] ∧ Is2 = blk b (.cells (putCells c off (Builtin.zeroCells z.cells n).toList) el' (0, 0)) :: Is') :=
  eff_value (by intro c; simp) fun a w ha hw => by
    obtain ⟨w', hr, ht'⟩ := run_storeCells_put (P := X.P) (Builtin.zeroCells z.cells n).toList w c off 0 (hw.get hp) (by rw [Array.length_toList, size_zeroCells]; simpa using hl) h1
    simp only [Nat.add_zero] at ht'
    cases n with
    | zero =>
      refine ⟨.tuple #[], w, _, ?_, ⟨rfl, rfl⟩, hw.set hp ?_⟩
      · simp [execOp, resolve, invoke, builtin, Builtin.clear_, ha.eval hx, run_underlying' ht]
      · refine ⟨rfl, rfl, rfl, Nat.le_refl _, fun k => ?_⟩
        by_cases hk : k = b
        · subst hk; rw [hw.get hp]; simp [Builtin.zeroCells, putCells]
        · simp [hk]
    | succ n =>
      refine ⟨_, _, _, ?_, ⟨rfl, rfl⟩, hw.set hp ht'⟩
      simp [execOp, resolve, invoke, builtin, Builtin.clear_, ha.eval hx, run_underlying' ht, hz.run_zero, hr]

/-! ### calls -/
/-- The number stands for a function of the program's own text. -/
def Txt (P : Program) (f : FuncId) : Prop := (match P.funcs[f]? with | some fn => fn.body.isSome && !(fn.name == "runtime.NumGoroutine") | none => false) = true
theorem run_callFunc {P : Program} {f : FuncId} (h : Txt P f) (args : Array Value) (w : World) : (callFunc f args).run P w = .ok (.enter f args) w := by
  unfold Txt at h
  cases hf : P.funcs[f]? with
  | none => rw [hf] at h; simp at h
  | some fn =>
    rw [hf] at h
    simp only [Bool.and_eq_true] at h
    have h2 : (fn.name == "runtime.NumGoroutine") = false := by simpa using h.2
    have h3 : fn.body.isNone = false := by cases hb : fn.body <;> simp [hb] at h ⊢
    simp only [callFunc, Sem.run_bind, run_program, Result.andThen_ok, hf, h2, h3, Bool.false_eq_true, if_false, Sem.run_pure]
theorem eff_call {fo : Operand} {f : FuncId} {as : Array Operand} {ts : Array TypeId} {vs fl cl : List Value} {G : Value → List Itm → Prop} (hf : ev e fo = some (.func (.func f) fl.toArray cl.toArray)) (has : evs e as.toList = some vs) (htx : Txt X.P f)
    (h : ∀ w, St X.w0 X.M Is w → Does X.P f (fl ++ vs ++ cl).toArray w fun v w' => ∃ Is', G v Is' ∧ St X.w0 X.M Is' w') :
    Eff X e Is ⟨dst, .call ⟨.value fo, as, ts⟩, ty, pos, aft, g⟩ G := fun a w ha hw => by
  refine ⟨fun _ _ => trivial, ?_⟩
  show Oper.uponIn _ _ _ _ _ _ _ ((Oper.semAt X.ro a.eval _).run X.P w)
  rw [Oper.semAt_eq _ _ _ (by intro c; simp)]
  have hr : (execOp a.eval (⟨dst, .call ⟨.value fo, as, ts⟩, ty, pos, aft, g⟩ : Oper)).run X.P w = .ok (.enter f (fl ++ vs ++ cl).toArray) w := by
    simp only [execOp, resolve, Sem.run_bind, ha.eval hf, evs_arr ha has, Deferred.ofValue, Sem.run_pure, Result.andThen_ok, invoke, run_callFunc htx]
    simp
  rw [hr]
  refine ⟨fun h => by simp at h, CallsIn.mono (h w hw) ?_⟩
  rintro en w' ⟨v, rfl, Is', hG, hst⟩
  exact ⟨v, Is', rfl, hG, hst⟩
/-- A callee that turns nothing that was there. -/
theorem eff_call0 {fo : Operand} {f : FuncId} {as : Array Operand} {ts : Array TypeId} {vs fl cl : List Value} {G : Value → List Itm → Prop} (hf : ev e fo = some (.func (.func f) fl.toArray cl.toArray)) (has : evs e as.toList = some vs) (htx : Txt X.P f)
    (h : ∀ w, St X.w0 X.M Is w → Does X.P f (fl ++ vs ++ cl).toArray w fun v w' => ∃ New, G v New ∧ St w Emp New w') :
    Eff X e Is ⟨dst, .call ⟨.value fo, as, ts⟩, ty, pos, aft, g⟩ (fun v Is' => ∃ New, G v New ∧ Is' = New ++ Is) :=
  eff_call hf has htx fun w hw => (h w hw).mono fun _ _ ⟨New, hG, hst⟩ => ⟨New ++ Is, ⟨New, hG, rfl⟩, hw.frame0 hst⟩
/-- A callee that is handed some of the items. -/
theorem eff_call1 {fo : Operand} {f : FuncId} {as : Array Operand} {ts : Array TypeId} {vs fl cl : List Value} {Pre Fr : List Itm} {G : Value → List Itm → Prop} (hf : ev e fo = some (.func (.func f) fl.toArray cl.toArray)) (has : evs e as.toList = some vs) (htx : Txt X.P f)
    (hI : ∀ w, St X.w0 X.M Is w → St X.w0 X.M (Pre ++ Fr) w)
    (h : ∀ w M, St w M Pre w → (∀ k, k < X.w0.heap.size → ¬ X.M k → ¬ M k) → (∀ k o Fr', Pk (blk k o) Fr Fr' → ¬ M k) → St X.w0 X.M (Pre ++ Fr) w → Does X.P f (fl ++ vs ++ cl).toArray w fun v w' => ∃ Post, G v Post ∧ St w M Post w') :
    Eff X e Is ⟨dst, .call ⟨.value fo, as, ts⟩, ty, pos, aft, g⟩ (fun v Is' => ∃ Post, G v Post ∧ Is' = Post ++ Fr) :=
  eff_call hf has htx fun w hw => by
    have hw' := hI w hw
    obtain ⟨M, hM, h1, h2, hback⟩ := hw'.frame
    exact (h w M hM h1 h2 hw').mono fun v w' ⟨Post, hG, hst⟩ => ⟨Post ++ Fr, ⟨Post, hG, rfl⟩, hback Post w' hst⟩
end
end Go.SL
