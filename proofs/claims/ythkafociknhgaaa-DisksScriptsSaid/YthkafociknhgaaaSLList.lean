/- Rows of memory that read as lists of things. -/
import Derived.Test.YthkafociknhgaaaSLMap
namespace Go.SL
open Go
section
variable {α : Type} {enc : α → List Value} {size : Nat}
/-- From off on, c has the cells of xs, one behind the other. -/
def Arr (c : Array Value) (off size : Nat) (enc : α → List Value) (xs : List α) : Prop := ∀ i x, xs[i]? = some x → Cells c (off + i * size) (enc x)
theorem cells_of_get {c : Array Value} : ∀ {vs : List Value} {off : Nat}, (∀ j v, vs[j]? = some v → c[off + j]? = some v) → Cells c off vs
  | [], _, _ => trivial
  | v :: vs, off, h => ⟨by have := h 0 v (by simp); simpa using this, cells_of_get fun j u hu => by have := h (j + 1) u (by simpa using hu); rw [show off + 1 + j = off + (j + 1) by omega]; exact this⟩
theorem Cells.sub {c : Array Value} {vs vs' : List Value} {off : Nat} (h : Cells c off vs) (j : Nat) (hv : (vs.drop j).take vs'.length = vs') : Cells c (off + j) vs' :=
  cells_of_get fun k v hk => by
    have hlt := (List.getElem?_eq_some_iff.1 hk).1
    have h1 : vs[j + k]? = some v := by rw [← hv, List.getElem?_take_of_lt hlt, List.getElem?_drop] at hk; exact hk
    have := h.get _ _ h1
    rw [show off + j + k = off + (j + k) by omega]; exact this
theorem flat_len (henc : ∀ x, (enc x).length = size) (xs : List α) : (xs.flatMap enc).length = xs.length * size := by
  induction xs with
  | nil => simp
  | cons x xs ih => simp [henc, ih, Nat.add_mul, Nat.add_comm]
theorem flat_get (henc : ∀ x, (enc x).length = size) : ∀ (xs : List α) (i : Nat) (x : α) (j : Nat) (v : Value), xs[i]? = some x → (enc x)[j]? = some v → (xs.flatMap enc)[i * size + j]? = some v
  | [], i, x, j, v, h, _ => by simp at h
  | y :: ys, 0, x, j, v, h, hv => by
    obtain rfl : y = x := by simpa using h
    have hj : j < (enc y).length := (List.getElem?_eq_some_iff.1 hv).1
    simp only [List.flatMap_cons, Nat.zero_mul, Nat.zero_add]
    rw [List.getElem?_append_left hj]; exact hv
  | y :: ys, i + 1, x, j, v, h, hv => by
    have := flat_get henc ys i x j v (by simpa using h) hv
    simp only [List.flatMap_cons]
    rw [List.getElem?_append_right (by rw [henc, Nat.add_mul]; omega), henc]
    rw [show (i + 1) * size + j - size = i * size + j by rw [Nat.add_mul]; omega]
    exact this
theorem arr_of_take (henc : ∀ x, (enc x).length = size) {cur : Array Value} {xs : List α} {n : Nat} (hn : n = xs.length) (h : cur.toList.take (n * size) = xs.flatMap enc) : Arr cur 0 size enc xs := fun i x hx => by
  refine cells_of_get fun j v hv => ?_
  have h1 := flat_get henc xs i x j v hx hv
  have hlt := (List.getElem?_eq_some_iff.1 h1).1
  rw [flat_len henc, ← hn] at hlt
  rw [← h, List.getElem?_take_of_lt hlt, Array.getElem?_toList] at h1
  simpa using h1
theorem arr_ext (henc : ∀ x, (enc x).length = size) (hs : 0 < size) {cur : Array Value} {xs : List α} {n : Nat} (hn : n = xs.length) (hl : n * size ≤ cur.size) (h : Arr cur 0 size enc xs) : cur.toList.take (n * size) = xs.flatMap enc := by
  apply List.ext_getElem?
  intro k
  by_cases hk : k < n * size
  · have hi : k / size < xs.length := by rw [← hn]; exact Nat.div_lt_of_lt_mul (by rw [Nat.mul_comm]; exact hk)
    have hx : xs[k / size]? = some xs[k / size] := List.getElem?_eq_getElem hi
    have hj : k % size < (enc xs[k / size]).length := by rw [henc]; exact Nat.mod_lt _ hs
    have hv : (enc xs[k / size])[k % size]? = some (enc xs[k / size])[k % size] := List.getElem?_eq_getElem hj
    have e1 := (h _ _ hx).get _ _ hv
    have e2 := flat_get henc xs _ _ _ _ hx hv
    have e3 : k / size * size + k % size = k := by rw [Nat.mul_comm]; exact Nat.div_add_mod k size
    rw [e3] at e2
    rw [Nat.zero_add, e3] at e1
    rw [List.getElem?_take_of_lt hk, Array.getElem?_toList, e1, e2]
  · rw [List.getElem?_eq_none (by rw [List.length_take]; omega), List.getElem?_eq_none (by rw [flat_len henc, ← hn]; omega)]
/-- One thing of the row is written anew, or a part of it. -/
theorem Arr.put {c : Array Value} {off : Nat} {xs : List α} (henc : ∀ x, (enc x).length = size) (h : Arr c off size enc xs) {j fo : Nat} {x y : α} {vs : List Value} (hx : xs[j]? = some x) (hl : off + j * size + fo + vs.length ≤ c.size) (hfo : fo + vs.length ≤ size)
    (hy : ∀ k v, (enc y)[k]? = some v → if fo ≤ k ∧ k < fo + vs.length then vs[k - fo]? = some v else (enc x)[k]? = some v) : Arr (putCells c (off + j * size + fo) vs) off size enc (xs.set j y) := fun i z hz => by
  refine cells_of_get fun k v hv => ?_
  have hklt : k < size := by have := (List.getElem?_eq_some_iff.1 hv).1; rw [henc] at this; exact this
  rw [putCells_get _ _ _ _ hl]
  rw [List.getElem?_set] at hz
  by_cases hij : j = i
  · subst hij
    have hjl := (List.getElem?_eq_some_iff.1 hx).1
    simp [hjl] at hz
    subst hz
    have hyk := hy k v hv
    by_cases hk : fo ≤ k ∧ k < fo + vs.length
    · rw [if_pos hk] at hyk
      rw [if_pos (by omega)]
      rw [show off + j * size + k - (off + j * size + fo) = k - fo by omega]; exact hyk
    · rw [if_neg hk] at hyk
      rw [if_neg (by omega)]
      exact (h j x hx).get k v hyk
  · rw [if_neg hij] at hz
    have hne : ¬ (off + j * size + fo ≤ off + i * size + k ∧ off + i * size + k < off + j * size + fo + vs.length) := by
      rintro ⟨h1, h2⟩
      rcases Nat.lt_or_gt_of_ne hij with hlt | hgt
      · have : (j + 1) * size ≤ i * size := Nat.mul_le_mul_right _ hlt
        rw [Nat.add_mul] at this; omega
      · have : (i + 1) * size ≤ j * size := Nat.mul_le_mul_right _ hgt
        rw [Nat.add_mul] at this; omega
    rw [if_neg hne]
    exact (h i z hz).get k v hv
theorem Arr.take {c : Array Value} {off : Nat} {xs : List α} (h : Arr c off size enc xs) (n : Nat) : Arr c off size enc (xs.take n) := fun i x hx => by
  refine h i x ?_
  rw [List.getElem?_take] at hx; split at hx
  · exact hx
  · cases hx
theorem Arr.drop {c : Array Value} {off : Nat} {xs : List α} (h : Arr c off size enc xs) (n : Nat) : Arr c (off + n * size) size enc (xs.drop n) := fun i x hx => by
  have := h (n + i) x (by rw [List.getElem?_drop] at hx; exact hx)
  rw [Nat.add_mul, ← Nat.add_assoc] at this; exact this
/-- A slice that can be read in w: its elements are xs. -/
def SlR (w : World) (el size : Nat) (enc : α → List Value) (A : Option Addr) (n : Nat) (xs : List α) : Prop :=
  n = xs.length ∧ (xs ≠ [] → ∃ b off c, ∃ fz : TypeId × (Nat × Nat), A = some ⟨b, off, none⟩ ∧ w.heap[b]? = some (.cells c fz.1 fz.2) ∧ Arr c off size enc xs)
theorem SlR.get {w : World} {el : Nat} {A : Option Addr} {n : Nat} {xs : List α} (h : SlR w el size enc A n xs) {i : Nat} (hi : i < n) : ∃ b off c, ∃ fz : TypeId × (Nat × Nat), ∃ x, A = some ⟨b, off, none⟩ ∧ w.heap[b]? = some (.cells c fz.1 fz.2) ∧ xs[i]? = some x ∧ Cells c (off + i * size) (enc x) := by
  have hl : i < xs.length := h.1 ▸ hi
  obtain ⟨b, off, c, fz, h1, h2, h3⟩ := h.2 (fun e => by subst e; simp at hl)
  exact ⟨b, off, c, fz, xs[i], h1, h2, List.getElem?_eq_getElem hl, h3 i _ (List.getElem?_eq_getElem hl)⟩
theorem SlR.keep {w w' : World} {el : Nat} {A : Option Addr} {n : Nat} {xs : List α} (h : SlR w el size enc A n xs) (hk : ∀ (b : Nat) (o : Obj), w.heap[b]? = some o → w'.heap[b]? = some o) : SlR w' el size enc A n xs :=
  ⟨h.1, fun hne => by obtain ⟨b, off, c, fz, h1, h2, h3⟩ := h.2 hne; exact ⟨b, off, c, fz, h1, hk _ _ h2, h3⟩⟩
theorem SlR.keepSt {w0 w' : World} {Is : List Itm} {el : Nat} {A : Option Addr} {n : Nat} {xs : List α} (h : SlR w0 el size enc A n xs) (hw : St w0 Emp Is w') : SlR w' el size enc A n xs := h.keep fun _ _ hb => hw.getOld hb (fun h => h)
theorem SlR.nil (w : World) (el : Nat) (A : Option Addr) : SlR w el size enc A 0 ([] : List α) := ⟨rfl, fun h => absurd rfl h⟩
theorem SlR.of_own {w0 w : World} {M : Nat → Prop} {Is Is' : List Itm} {v : Value} {el : Nat} {n : Nat} {xs : List α} (henc : ∀ x, (enc x).length = size) (h : St w0 M Is w) (hp : Pk (own v el size n (xs.flatMap enc)) Is Is') (hn : n = xs.length) : ∃ A c, v = .slice A n c ∧ n ≤ c ∧ SlR w el size enc A n xs := by
  obtain ⟨hl, hv⟩ := (h.pk hp).own_open
  rcases hv with ⟨rfl, rfl, _⟩ | ⟨b, cap, cur, rfl, h1, h2, h3, h4, hst⟩
  · exact ⟨none, 0, rfl, Nat.le_refl _, hn, fun hne => absurd (List.eq_nil_of_length_eq_zero hn.symm) hne⟩
  · exact ⟨_, _, rfl, h1, hn, fun _ => ⟨b, 0, cur, (el, (0, 0)), rfl, hst.get (.here _), arr_of_take henc hn h4⟩⟩
theorem putCells_full : ∀ (vs : List Value) (c : Array Value), vs.length = c.size → putCells c 0 vs = vs.toArray := fun vs c h => by
  apply Array.ext_getElem?
  intro i
  rw [putCells_get _ _ _ _ (by omega)]
  by_cases hi : i < vs.length
  · rw [if_pos (by omega)]; simp
  · rw [if_neg (by omega), Array.getElem?_eq_none (by omega)]; simp; omega
end
section
variable {X : Cx} {e : Env} {Is Is' : List Itm} {dst : Option Tmp} {ty : TypeId} {pos : String} {aft : Array Edge} {g : Option (Nat × Bool)} {x y : Operand} {t : TypeId}
theorem eff_store_all {b size bytes : Nat} {z v : Value} {vs : List Value} {c : Array Value} {el : TypeId} (hx : ev e x = some (.pointer (some ⟨b, 0, none⟩))) (hy : ev e y = some v) (hv : v.cells.toList = vs) (hz : Ti X.P t z size bytes) (hs : vs.length = size)
    (hp : Pk (blk b (.cells c el (0, 0))) Is Is') (hl : vs.length = c.size) (h1 : vs.all Value.oneCell' = true) :
    Eff X e Is ⟨dst, .store t x y, ty, pos, aft, g⟩ (fun u Is2 => u = undef ∧ Is2 = blk b (.cells vs.toArray el (0, 0)) :: Is') := by
  have := eff_store (dst := dst) (ty := ty) (pos := pos) (aft := aft) (g := g) hx hy hv hz hs hp (by omega) h1
  rw [putCells_full vs c hl] at this
  exact this
theorem opv_len_own {v : Value} {el n size : Nat} {xs : List Value} {el' : TypeId} (hx : ev e x = some v) (hu : X.P.underlying t = some (.slice el')) (hp : Pk (own v el size n xs) Is Is') :
    Opv X e Is ⟨dst, .call ⟨.builtin .len, #[x], #[t]⟩, ty, pos, aft, g⟩ (.int .i64 n) := fun a w ha hw => by
  obtain ⟨_, hv⟩ := (hw.pk hp).own_open
  rcases hv with ⟨rfl, rfl, _⟩ | ⟨b, cap, cur, rfl, _⟩
  · exact opv_len_slice hx hu a w ha hw
  · exact opv_len_slice hx hu a w ha hw
/-- 'append(s, x, ..)' of written-out elements. -/
theorem eff_append_lit {s : Operand} {v : Value} {el : TypeId} {size n m c bytes b : Nat} {xs : List Value} {z : Value} {cs : Array Value} {el' : TypeId} {fz : Nat × Nat} (hs : ev e s = some v) (hx : ev e x = some (.slice (some ⟨b, 0, none⟩) m c)) (ht : X.P.underlying t = some (.slice el)) (hz : Ti X.P el z size bytes)
    (hzs : z.cells.size = size) (hsz : 0 < size) (hp : Pk (own v el size n xs) Is Is') (hb : Rd X Is b (.cells cs el' fz)) (hl : cs.toList.length = m * size)
    (h1 : cs.toList.all Value.oneCell' = true) (h63 : n + m ≤ maxLen) (hbytes : (n + m) * bytes ≤ 140737488355328) :
    Eff X e Is ⟨dst, .call ⟨.builtin .append, #[s, x], #[t, t]⟩, ty, pos, aft, g⟩ (fun v' Is2 => Is2 = own v' el size (n + m) (xs ++ cs.toList) :: Is' ∧ (v' = .slice none 0 0 ↔ v = .slice none 0 0 ∧ m = 0)) :=
  eff_append hs hx ht hz hzs hsz hp hb (fun j u h => by rw [Nat.zero_add, ← Array.getElem?_toList]; exact h) hl h1 h63 hbytes
theorem St.sel {w0 : World} {M : Nat → Prop} {Is Sb R : List Itm} {w : World} (h : St w0 M Is w) (hp : Pks Sb Is R) : St w0 M Sb w := by
  obtain ⟨os, tape, output, size, H, hs, g1, g2, g3⟩ := h
  obtain ⟨h1, h2, s1, s2, dj, eq⟩ := Sep.append.1 (hp.sep hs)
  have sub : ∀ k o, h1 k = some o → H k = some o := fun k o hk => by rw [eq k, hk]; rfl
  refine ⟨os, tape, output, size, h1, s1, fun k o hk => g1 k o (sub k o hk), fun k hk hn => g2 k hk ?_, g3⟩
  cases hk1 : h1 k with
  | none => exact absurd hk1 hn
  | some o => rw [sub k o hk1]; simp
theorem jk_own_len {K : Act → World → Prop} {v : Value} {el : TypeId} {size n : Nat} {xs : List Value} (hp : Pk (own v el size n xs) Is Is') (h : xs.length = n * size → Jk X K e Is) : Jk X K e Is := fun a w ha hw => h ((hw.pk hp).own_open).1 a w ha hw
/-- The block of a slice. -/
def ownB : Value → Nat
  | .slice (some a) _ _ => a.block
  | _ => 0
theorem own_block {w0 : World} {M : Nat → Prop} {w : World} {v : Value} {el : TypeId} {size n : Nat} {xs : List Value} (h : St w0 M Is w) (hp : Pk (own v el size n xs) Is Is') (hn : 0 < n) :
    ∃ cap cur, v = .slice (some ⟨ownB v, 0, none⟩) n cap ∧ w.heap[ownB v]? = some (.cells cur el (0, 0)) ∧ cur.toList.take (n * size) = xs := by
  obtain ⟨_, hv⟩ := (h.pk hp).own_open
  rcases hv with ⟨_, rfl, _⟩ | ⟨b, cap, cur, rfl, h1, h2, h3, h4, hst⟩
  · omega
  · exact ⟨cap, cur, rfl, hst.get (.here _), h4⟩
theorem opv_indexAddr_own {n i size size' bytes : Nat} {k : IntKind} {el el' : TypeId} {z v : Value} {j : Int} {xs : List Value} (hx : ev e x = some v) (hy : ev e y = some (.int k j)) (hu : X.P.underlying t = some (.slice el)) (hz : Ti X.P el z size bytes) (hp : Pk (own v el' size' n xs) Is Is')
    (hi : j = (i : Int)) (hlt : i < n) : Opv X e Is ⟨dst, .indexAddr t x y, ty, pos, aft, g⟩ (.pointer (some ⟨ownB v, 0 + i * size, none⟩)) := fun a w ha hw => by
  obtain ⟨cap, cur, hv, _, _⟩ := own_block hw hp (by omega)
  have hx' : ev e x = some (.slice (some ⟨ownB v, 0, none⟩) n cap) := by rw [← hv]; exact hx
  exact opv_indexAddr hx' hy hu hz hi hlt a w ha hw
theorem opv_load_own {n size off : Nat} {el : TypeId} {v u : Value} {xs : List Value} (hx : ev e x = some (.pointer (some ⟨ownB v, off, none⟩))) (hna : NoAgg X.P t) (hp : Pk (own v el size n xs) Is Is') (hu : xs[off]? = some u) :
    Opv X e Is ⟨dst, .load t x, ty, pos, aft, g⟩ u := fun a w ha hw => by
  have hlt := (List.getElem?_eq_some_iff.1 hu).1
  have hl := ((hw.pk hp).own_open).1
  have hn : 0 < n := Nat.pos_of_ne_zero fun h0 => by subst h0; simp at hl; subst hl; simp at hlt
  obtain ⟨cap, cur, hv, hb, ht⟩ := own_block hw hp hn
  refine opv_of (X := X) (e := e) (Is := Is) (by intro c; simp) (fun a w' ha' hw' => ?_) a w ha hw
  obtain ⟨cap, cur, hv, hb, ht⟩ := own_block hw' hp hn
  have hc : cur[off]? = some u := by
    rw [← Array.getElem?_toList, ← List.getElem?_take_of_lt (i := off) (j := n * size) (by omega), ht]; exact hu
  simp [execOp, ha'.eval hx, Instr.loadAt, Instr.sureAddr, loadVar, run_isAgg_no hna, cell_of hb hc]
theorem opv_load_agg_own {n size size' bytes off : Nat} {el : TypeId} {v z : Value} {xs vs : List Value} (hx : ev e x = some (.pointer (some ⟨ownB v, off, none⟩))) (hna : IsAgg X.P t) (hz : Ti X.P t z size' bytes) (hp : Pk (own v el size n xs) Is Is') (hn : 0 < n)
    (hu : ∀ j u, vs[j]? = some u → xs[off + j]? = some u) (hs : vs.length = size') : Opv X e Is ⟨dst, .load t x, ty, pos, aft, g⟩ (.agg vs.toArray) :=
  opv_of (by intro c; simp) fun a w ha hw => by
    subst hs
    have hl := ((hw.pk hp).own_open).1
    obtain ⟨cap, cur, hv, hb, ht⟩ := own_block hw hp hn
    have hc : ∀ j u, vs[j]? = some u → w.cell? ⟨ownB v, off + j, none⟩ = some u := fun j u hj => by
      have h1 := hu j u hj
      have hlt := (List.getElem?_eq_some_iff.1 h1).1
      refine cell_of hb ?_
      rw [← Array.getElem?_toList, ← List.getElem?_take_of_lt (i := off + j) (j := n * size) (by omega), ht]; exact h1
    simp [execOp, ha.eval hx, Instr.loadAt, Instr.sureAddr, loadVar, run_isAgg_yes hna, hz.run_size, run_loadCells_at vs hc]
variable {α : Type} {enc : α → List Value}
/-- An element of a row of the call's own; a field of it. -/
theorem opv_load_elem {n size bytes i : Nat} {el : TypeId} {v z : Value} {xs : List α} {u : α} (henc : ∀ x, (enc x).length = size) (hx : ev e x = some (.pointer (some ⟨ownB v, 0 + i * size, none⟩))) (hna : IsAgg X.P t) (hz : Ti X.P t z size bytes) (hp : Pk (own v el size n (xs.flatMap enc)) Is Is') (hn : 0 < n)
    (hu : xs[i]? = some u) : Opv X e Is ⟨dst, .load t x, ty, pos, aft, g⟩ (.agg (enc u).toArray) :=
  opv_load_agg_own hx hna hz hp hn (fun j w hj => by rw [Nat.zero_add]; exact flat_get henc xs i u j w hu hj) (henc u)
theorem opv_load_fld {n size i fo : Nat} {el : TypeId} {v w : Value} {xs : List α} {u : α} (henc : ∀ x, (enc x).length = size) (hx : ev e x = some (.pointer (some ⟨ownB v, 0 + i * size + fo, none⟩))) (hna : NoAgg X.P t) (hp : Pk (own v el size n (xs.flatMap enc)) Is Is')
    (hu : xs[i]? = some u) (hw : (enc u)[fo]? = some w) : Opv X e Is ⟨dst, .load t x, ty, pos, aft, g⟩ w :=
  opv_load_own hx hna hp (by rw [Nat.zero_add]; exact flat_get henc xs i u fo w hu hw)
/-- Nothing is appended. -/
theorem eff_append_zero {s : Operand} {v : Value} {el : TypeId} {size n bytes c : Nat} {xs : List Value} {z : Value} {A : Option Addr} (hs : ev e s = some v) (hx : ev e x = some (.slice A 0 c)) (ht : X.P.underlying t = some (.slice el)) (hz : Ti X.P el z size bytes)
    (hp : Pk (own v el size n xs) Is Is') :
    Eff X e Is ⟨dst, .call ⟨.builtin .append, #[s, x], #[t, t]⟩, ty, pos, aft, g⟩ (fun v' Is2 => v' = v ∧ Is2 = Is) :=
  eff_value (by intro c; simp) fun a w ha hw => by
    obtain ⟨i, hi, hiz, hsize, hby⟩ := hz.out
    refine ⟨v, w, _, ?_, ⟨rfl, rfl⟩, hw⟩
    obtain ⟨_, hv⟩ := (hw.pk hp).own_open
    have : (Builtin.append_ #[t, t] ty #[v, .slice A 0 c]).run X.P w = .ok v w := by
      rcases hv with ⟨rfl, rfl, _⟩ | ⟨b, cap, cur, rfl, hnc, _⟩ <;> cases A <;>
        simp [Builtin.append_, run_underlying' ht, sizeOf, typeInfo, hi, Builtin.lenOf, Builtin.firstCells, loadCells, loadCellsFrom, storeCells, *]
    simp [execOp, resolve, invoke, builtin, ha.eval hs, ha.eval hx, this]
theorem SlR.take {w : World} {el size : Nat} {A : Option Addr} {n : Nat} {xs : List α} (h : SlR w el size enc A n xs) {m cap : Nat} (hm : m ≤ n) : SlR w el size enc (if cap = 0 then A else A.map fun a => a.add (0 * size)) (m - 0) (xs.take m) := by
  have hA : (if cap = 0 then A else A.map fun a => a.add (0 * size)) = A := by
    split
    · rfl
    · cases A <;> simp [Addr.add]
  rw [hA]
  refine ⟨by rw [List.length_take]; have := h.1; omega, fun hne => ?_⟩
  obtain ⟨b, off, c, fz, h1, h2, h3⟩ := h.2 (fun e => by subst e; simp at hne)
  exact ⟨b, off, c, fz, h1, h2, h3.take m⟩
theorem SlR.drop {w : World} {el size : Nat} {A : Option Addr} {n : Nat} {xs : List α} (h : SlR w el size enc A n xs) {m cap : Nat} (hc : n ≤ cap) : SlR w el size enc (if cap = m then A else A.map fun a => a.add (m * size)) (n - m) (xs.drop m) := by
  refine ⟨by rw [List.length_drop]; have := h.1; omega, fun hne => ?_⟩
  have hlt : m < xs.length := by
    rcases Nat.lt_or_ge m xs.length with h' | h'
    · exact h'
    · exact absurd (List.drop_eq_nil_of_le h') hne
  obtain ⟨b, off, c, fz, h1, h2, h3⟩ := h.2 (fun e => by subst e; simp at hlt)
  have := h.1
  rw [if_neg (by omega), h1]
  exact ⟨b, off + m * size, c, fz, by simp [add_at], h2, h3.drop m⟩
end
end Go.SL
