/- Items that stand there in some form; writing into a slice of the call's own. -/
import Derived.Test.YthkafociknhgaaaSLCell
namespace Go.SL
open Go
structure Any {α : Type} (F : α → List Itm) (h : Hlt) : Prop where
  cut : ∃ a, Sep (F a) h
theorem St.any_open {α : Type} {F : α → List Itm} {w0 w : World} {M : Nat → Prop} {Is : List Itm} (h : St w0 M (Any F :: Is) w) : ∃ a, St w0 M (F a ++ Is) w := by
  obtain ⟨os, tape, output, sz, H, ⟨a1, a2, ⟨⟨a, b1⟩⟩, b2, dj, eq⟩, g1, g2, g3⟩ := h
  exact ⟨a, os, tape, output, sz, H, Sep.append.2 ⟨a1, a2, b1, b2, dj, eq⟩, g1, g2, g3⟩
theorem St.any_mk {α : Type} {F : α → List Itm} {w0 w : World} {M : Nat → Prop} {Is : List Itm} (a : α) (h : St w0 M (F a ++ Is) w) : St w0 M (Any F :: Is) w :=
  h.reSep fun H hs => by
    obtain ⟨h1, h2, s1, s2, dj, eq⟩ := Sep.append.1 hs
    exact ⟨h1, h2, ⟨⟨a, s1⟩⟩, s2, dj, eq⟩
theorem jk_any_open {α : Type} {F : α → List Itm} {X : Cx} {K : Act → World → Prop} {e : Env} {Is Is' : List Itm} (hp : Pk (Any F) Is Is') (h : ∀ a, Jk X K e (F a ++ Is')) : Jk X K e Is := fun ac w ha hw => by
  obtain ⟨a, hst⟩ := (hw.pk hp).any_open
  exact h a ac w ha hst
/-- What is left behind once what is wanted is chosen. -/
inductive Tl : List Itm → List Itm → Prop
  | here (Is : List Itm) : Tl Is Is
  | there {I : Itm} {Is Fr : List Itm} : Tl Is Fr → Tl (I :: Is) Fr
theorem St.tl {w0 w : World} {M : Nat → Prop} {Is Fr : List Itm} (ht : Tl Is Fr) : St w0 M Is w → St w0 M Fr w := by
  induction ht with
  | here => exact id
  | there _ ih => exact fun h => ih h.drop
theorem Tl.app {R Fr : List Itm} (h : Tl R Fr) (S : List Itm) : Tl (R ++ S) (Fr ++ S) := by
  induction h with
  | here => exact .here _
  | there _ ih => exact .there ih
theorem St.keep {w0 w : World} {M : Nat → Prop} {Sb Is R Fr : List Itm} (h : St w0 M Is w) (hp : Pks Sb Is R) (ht : Tl R Fr) : St w0 M (Sb ++ Fr) w :=
  St.comm (St.tl (ht.app Sb) (St.comm (h.reSep fun _ => hp.sep)))
theorem jk_bunch_own {α : Type} {X : Cx} {K : Act → World → Prop} {e : Env} {Is Is1 Is2 : List Itm} {A : Option Addr} {n c el size : Nat} {enc : α → List Value} {xs : List α} {fs : List (Nat × Obj)} (henc : ∀ x, (enc x).length = size) (hn : n = xs.length)
    (hp : Pk (own (.slice A n c) el size n (xs.flatMap enc)) Is Is1) (hq : Pk (bunch fs) Is1 Is2) (h : ∀ fs', (∀ b o, getL fs b = some o → getL fs' b = some o) → SlF X.w0 X.M fs' size enc A n xs → Jk X K e (bunch fs' :: Is2)) : Jk X K e Is := fun ac w ha hw => by
  obtain ⟨fs', h1, h2, h3⟩ := (((hw.pk hp).pk (.there hq)).pk (.there (.here _))).bunch_own henc hn
  exact h fs' h1 h2 ac w ha h3
/-- A callee that is handed some of the items; what stands beside them stays. -/
theorem eff_callF {X : Cx} {e : Env} {Is R : List Itm} {dst : Option Tmp} {ty : TypeId} {pos : String} {aft : Array Edge} {g : Option (Nat × Bool)} {fo : Operand} {f : FuncId} {as : Array Operand} {ts : Array TypeId} {vs fl cl : List Value} (Sb : List Itm) {G : Value → List Itm → Prop} (hf : ev e fo = some (.func (.func f) fl.toArray cl.toArray)) (has : evs e as.toList = some vs) (htx : Txt X.P f) (hp : Pks Sb Is R)
    (h : ∀ w, St X.w0 X.M (Sb ++ R) w → Does X.P f (fl ++ vs ++ cl).toArray w fun v w' => ∃ Is', G v Is' ∧ St X.w0 X.M (Is' ++ R) w') :
    Eff X e Is ⟨dst, .call ⟨.value fo, as, ts⟩, ty, pos, aft, g⟩ (fun v Is2 => ∃ Is', G v Is' ∧ Is2 = Is' ++ R) :=
  eff_call hf has htx fun w hw => (h w (hw.reSep fun _ => hp.sep)).mono fun _ _ ⟨Is', hG, hst⟩ => ⟨_, ⟨Is', hG, rfl⟩, hst⟩
/-- What is known of a slice of the call's own: its room too. -/
theorem jk_svc {X : Cx} {K : Act → World → Prop} {e : Env} {Is Is' : List Itm} {v : Value} {el size n : Nat} {xs : List Value} (hp : Pk (own v el size n xs) Is Is') (h : ∀ A c, v = .slice A n c → n ≤ c → c ≤ maxLen → Jk X K e Is) : Jk X K e Is := fun ac w ha hw => by
  obtain ⟨_, hv⟩ := (hw.pk hp).own_open
  rcases hv with ⟨h1, h2, _⟩ | ⟨b, cap, cur, h1, h2, h3, _⟩
  · subst h2; exact h _ _ h1 (Nat.le_refl _) (Nat.zero_le _) ac w ha hw
  · exact h _ _ h1 h2 h3 ac w ha hw
theorem ja_svc {X : Cx} {ops : Array Oper} {fuel : Nat} {listed : Array Bool} {Sb : List Itm} {K : Act → World → Prop} {e : Env} {Is Is' : List Itm} {v : Value} {el size n : Nat} {xs : List Value} (hp : Pk (own v el size n xs) Is Is') (h : ∀ A c, v = .slice A n c → n ≤ c → c ≤ maxLen → Ja X ops K Sb fuel listed e Is) : Ja X ops K Sb fuel listed e Is := jk_svc hp h
/-! ### two lists side by side -/
def All2 {α β : Type} (R : α → β → Prop) : List α → List β → Prop
  | [], [] => True
  | x :: xs, y :: ys => R x y ∧ All2 R xs ys
  | _, _ => False
section
variable {α β : Type} {R R' : α → β → Prop}
theorem All2.len : ∀ {xs : List α} {ys : List β}, All2 R xs ys → xs.length = ys.length
  | [], [], _ => rfl
  | _ :: _, _ :: _, h => by simp [All2.len h.2]
  | [], _ :: _, h => h.elim
  | _ :: _, [], h => h.elim
theorem All2.mono (hr : ∀ x y, R x y → R' x y) : ∀ {xs : List α} {ys : List β}, All2 R xs ys → All2 R' xs ys
  | [], [], _ => trivial
  | _ :: _, _ :: _, h => ⟨hr _ _ h.1, All2.mono hr h.2⟩
  | [], _ :: _, h => h.elim
  | _ :: _, [], h => h.elim
theorem All2.append : ∀ {xs : List α} {ys : List β} {xs' : List α} {ys' : List β}, All2 R xs ys → All2 R xs' ys' → All2 R (xs ++ xs') (ys ++ ys')
  | [], [], _, _, _, h => h
  | _ :: _, _ :: _, _, _, h, h' => ⟨h.1, All2.append h.2 h'⟩
  | [], _ :: _, _, _, h, _ => h.elim
  | _ :: _, [], _, _, h, _ => h.elim
theorem All2.filter {p : α → Bool} {q : β → Bool} (hr : ∀ x y, R x y → p x = q y) : ∀ {xs : List α} {ys : List β}, All2 R xs ys → All2 R (xs.filter p) (ys.filter q)
  | [], [], _ => trivial
  | x :: xs, y :: ys, h => by
    have hh := hr x y h.1
    have ih := All2.filter hr h.2
    simp only [List.filter_cons, hh]
    split
    · exact ⟨h.1, ih⟩
    · exact ih
  | [], _ :: _, h => h.elim
  | _ :: _, [], h => h.elim
theorem All2.any {p : α → Bool} {q : β → Bool} (hr : ∀ x y, R x y → p x = q y) : ∀ {xs : List α} {ys : List β}, All2 R xs ys → xs.any p = ys.any q
  | [], [], _ => rfl
  | x :: xs, y :: ys, h => by
    simp only [List.any_cons, hr x y h.1, All2.any hr h.2]
  | [], _ :: _, h => h.elim
  | _ :: _, [], h => h.elim
theorem All2.single {xs : List α} {y : β} (h : All2 R xs [y]) : ∃ x, xs = [x] ∧ R x y := by
  match xs, h with
  | [x], h => exact ⟨x, rfl, h.1⟩
  | _ :: _ :: _, h => exact h.2.elim
theorem All2.nil {xs : List α} (h : All2 R xs ([] : List β)) : xs = [] := by
  cases xs with
  | nil => rfl
  | cons _ _ => exact h.elim
theorem All2.take : ∀ {xs : List α} {ys : List β}, All2 R xs ys → ∀ n, All2 R (xs.take n) (ys.take n)
  | [], [], _, n => by simp [All2]
  | _ :: _, _ :: _, h, 0 => trivial
  | _ :: _, _ :: _, h, n + 1 => ⟨h.1, All2.take h.2 n⟩
  | [], _ :: _, h, _ => h.elim
  | _ :: _, [], h, _ => h.elim
theorem All2.get : ∀ {xs : List α} {ys : List β} {i : Nat} {x : α}, All2 R xs ys → xs[i]? = some x → ∃ y, ys[i]? = some y ∧ R x y
  | [], _, i, x, _, h => by simp at h
  | _ :: _, [], _, _, h, _ => h.elim
  | a :: xs, y :: ys, 0, x, h, hx => by
    obtain rfl : a = x := by simpa using hx
    exact ⟨y, rfl, h.1⟩
  | a :: xs, y :: ys, i + 1, x, h, hx => by
    obtain ⟨z, h1, h2⟩ := All2.get (i := i) h.2 (by simpa using hx)
    exact ⟨z, by simpa using h1, h2⟩
theorem All2.set : ∀ {xs : List α} {ys : List β} {i : Nat} {x : α} {y : β}, All2 R xs ys → ys[i]? = some y → R x y → All2 R (xs.set i x) ys
  | [], [], i, x, y, _, h, _ => by simp at h
  | [], _ :: _, _, _, _, h, _, _ => h.elim
  | _ :: _, [], _, _, _, h, _, _ => h.elim
  | a :: xs, b :: ys, 0, x, y, h, hy, hr => by
    obtain rfl : b = y := by simpa using hy
    exact ⟨hr, h.2⟩
  | a :: xs, b :: ys, i + 1, x, y, h, hy, hr => ⟨h.1, All2.set h.2 (by simpa using hy) hr⟩
end
/-! ### writing into a slice of the call's own -/
def putL (xs : List Value) (off : Nat) (vs : List Value) : List Value := xs.take off ++ vs ++ xs.drop (off + vs.length)
theorem putL_get {xs vs : List Value} {off : Nat} (h : off + vs.length ≤ xs.length) (i : Nat) : (putL xs off vs)[i]? = if off ≤ i ∧ i < off + vs.length then vs[i - off]? else xs[i]? := by
  unfold putL
  have h1 : (xs.take off).length = off := by rw [List.length_take]; omega
  by_cases ha : i < off
  · rw [List.append_assoc, List.getElem?_append_left (by omega), List.getElem?_take_of_lt ha, if_neg (by omega)]
  · by_cases hb : i < off + vs.length
    · rw [List.append_assoc, List.getElem?_append_right (by omega), h1, List.getElem?_append_left (by omega), if_pos (by omega)]
    · rw [List.getElem?_append_right (by rw [List.length_append]; omega), List.length_append, h1, List.getElem?_drop, if_neg (by omega)]
      congr 1; omega
theorem putL_len {xs vs : List Value} {off : Nat} (h : off + vs.length ≤ xs.length) : (putL xs off vs).length = xs.length := by
  unfold putL; simp only [List.length_append, List.length_take, List.length_drop]; omega
theorem putCells_take {cur : Array Value} {xs vs : List Value} {off m : Nat} (ht : cur.toList.take m = xs) (hm : m ≤ cur.size) (h : off + vs.length ≤ m) : (putCells cur off vs).toList.take m = putL xs off vs := by
  have hx : xs.length = m := by rw [← ht, List.length_take, Array.length_toList]; omega
  apply List.ext_getElem?
  intro i
  rw [putL_get (by omega)]
  by_cases hi : i < m
  · rw [List.getElem?_take_of_lt hi, Array.getElem?_toList, putCells_get _ _ _ _ (by omega)]
    split
    · rfl
    · rw [← ht, List.getElem?_take_of_lt hi, Array.getElem?_toList]
  · rw [List.getElem?_eq_none (by rw [List.length_take]; omega), if_neg (by omega), List.getElem?_eq_none (by omega)]
section
variable {X : Cx} {e : Env} {Is Is' : List Itm} {dst : Option Tmp} {ty : TypeId} {pos : String} {aft : Array Edge} {g : Option (Nat × Bool)} {x y : Operand} {t : TypeId}
theorem eff_store_own {n size off size' bytes : Nat} {el : TypeId} {v u z : Value} {xs vs : List Value} (hx : ev e x = some (.pointer (some ⟨ownB v, off, none⟩))) (hy : ev e y = some u) (hv : u.cells.toList = vs) (hz : Ti X.P t z size' bytes) (hs : vs.length = size')
    (hp : Pk (own v el size n xs) Is Is') (hn : 0 < n) (hl : off + vs.length ≤ n * size) (h1 : vs.all Value.oneCell' = true) :
    Eff X e Is ⟨dst, .store t x y, ty, pos, aft, g⟩ (fun u' Is2 => u' = undef ∧ Is2 = own v el size n (putL xs off vs) :: Is') := fun a w ha hw => by
  obtain ⟨hlen, hv0⟩ := (hw.pk hp).own_open
  rcases hv0 with ⟨_, h0, _⟩ | ⟨b, cap, cur, rfl, c1, c2, c3, c4, hst⟩
  · omega
  · have hm : n * size ≤ cur.size := by rw [c3]; exact Nat.mul_le_mul_right _ c1
    refine eff_skip (X := X) (e := e) (Is := Is) (G := fun Is2 => Is2 = own (.slice (some ⟨b, 0, none⟩) n cap) el size n (putL xs off vs) :: Is') (by intro c; simp) (fun a' w' ha' hw' => ?_) a w ha hw
    obtain ⟨_, hv0'⟩ := (hw'.pk hp).own_open
    rcases hv0' with ⟨_, h0, _⟩ | ⟨b', cap', cur', hvv, c1', c2', c3', c4', hst'⟩
    · omega
    · simp only [Value.slice.injEq, Option.some.injEq, Addr.mk.injEq] at hvv
      obtain ⟨⟨rfl, _⟩, _, rfl⟩ := hvv
      have hm' : n * size ≤ cur'.size := by rw [c3']; exact Nat.mul_le_mul_right _ c1'
      obtain ⟨w2, hr, ht⟩ := run_storeCells_put (P := X.P) vs w' cur' off 0 (hst'.get (.here _)) (by omega) h1
      have hst2 := hst'.set (.here _) (by simpa using ht)
      refine ⟨w2, _, ?_, rfl, hst2.own_mk c1' c2' (by rw [putCells_size]; exact c3') (putCells_take c4' hm' hl)⟩
      have hsz : u.cells.size = size' := by rw [← hs, ← hv]; simp
      have hx' : ev e x = some (.pointer (some ⟨b, off, none⟩)) := hx
      simp [execOp, Instr.storeAt, Instr.sureAddr, storeVar, ha'.eval hx', ha'.eval hy, hz.run_size, hsz, hv, hr]
variable {α : Type} {enc : α → List Value}
theorem putL_app {a b vs : List Value} {off : Nat} (h : off + vs.length ≤ a.length) : putL (a ++ b) off vs = putL a off vs ++ b := by
  unfold putL
  rw [List.take_append_of_le_length (by omega), List.drop_append_of_le_length (by omega)]; simp
theorem putL_skip {a b vs : List Value} {off : Nat} : putL (a ++ b) (a.length + off) vs = a ++ putL b off vs := by
  unfold putL
  rw [List.take_length_add_append, Nat.add_assoc, List.drop_length_add_append]; simp
theorem flat_put {size fo : Nat} {vs : List Value} {u y : α} (henc : ∀ x, (enc x).length = size) (hfo : fo + vs.length ≤ size) (hy : enc y = putL (enc u) fo vs) : ∀ (xs : List α) (i : Nat), xs[i]? = some u → putL (xs.flatMap enc) (i * size + fo) vs = (xs.set i y).flatMap enc
  | [], i, h => by simp at h
  | x :: xs, 0, h => by
    obtain rfl : x = u := by simpa using h
    simp only [List.flatMap_cons, Nat.zero_mul, Nat.zero_add, List.set_cons_zero]
    rw [putL_app (by rw [henc]; exact hfo), hy]
  | x :: xs, i + 1, h => by
    simp only [List.flatMap_cons, List.set_cons_succ]
    rw [← flat_put henc hfo hy xs i (by simpa using h), ← putL_skip, henc]
    congr 1
    rw [Nat.add_mul]; omega
/-- A field of an element of a row of the call's own is written anew (or the whole element). -/
theorem eff_store_elem {n size i fo size' bytes : Nat} {el : TypeId} {v u z : Value} {xs : List α} {p q : α} {vs : List Value} (henc : ∀ x, (enc x).length = size) (hx : ev e x = some (.pointer (some ⟨ownB v, 0 + i * size + fo, none⟩))) (hy : ev e y = some u) (hv : u.cells.toList = vs) (hz : Ti X.P t z size' bytes) (hs : vs.length = size')
    (hp : Pk (own v el size n (xs.flatMap enc)) Is Is') (hn : n = xs.length) (hu : xs[i]? = some p) (hfo : fo + vs.length ≤ size) (hq : enc q = putL (enc p) fo vs) (h1 : vs.all Value.oneCell' = true) :
    Eff X e Is ⟨dst, .store t x y, ty, pos, aft, g⟩ (fun u' Is2 => u' = undef ∧ Is2 = own v el size n ((xs.set i q).flatMap enc) :: Is') := by
  have hi := (List.getElem?_eq_some_iff.1 hu).1
  have hle : (i + 1) * size ≤ n * size := Nat.mul_le_mul_right _ (by omega)
  rw [Nat.add_mul] at hle
  have := eff_store_own (dst := dst) (ty := ty) (pos := pos) (aft := aft) (g := g) hx hy hv hz hs hp (by omega) (by omega) h1
  rw [Nat.zero_add, flat_put henc hfo hq xs i hu] at this
  exact this
/-- An element of a readable slice that was there. -/
theorem opv_load_agg_slr {n i el size bytes : Nat} {z : Value} {A : Option Addr} {xs : List α} {u : α} (henc : ∀ x, (enc x).length = size) (hx : ev e x = some (.pointer (some ⟨slB A, slO A + i * size, none⟩))) (hna : IsAgg X.P t) (hz : Ti X.P t z size bytes) (hM : X.M = Emp) (hs : SlR X.w0 el size enc A n xs)
    (hu : xs[i]? = some u) : Opv X e Is ⟨dst, .load t x, ty, pos, aft, g⟩ (.agg (enc u).toArray) := by
  have hi : i < n := by rw [hs.1]; exact (List.getElem?_eq_some_iff.1 hu).1
  obtain ⟨b, off, c, fz, x', rfl, hb, hx', hc⟩ := hs.get hi
  obtain rfl : x' = u := by rw [hu] at hx'; exact (Option.some.inj hx').symm
  exact opv_load_agg hx hna hz (rd_old hb (fun h => by rw [hM] at h; exact h)) hc (henc _)
/-- A slice that can be read is appended. -/
theorem eff_append_rd {s : Operand} {v : Value} {el el' : TypeId} {n m c bytes size : Nat} {A : Option Addr} {xs : List Value} {ys : List α} {z : Value} (henc : ∀ x, (enc x).length = size) (hs : ev e s = some v) (hx : ev e x = some (.slice A m c)) (ht : X.P.underlying t = some (.slice el)) (hz : Ti X.P el z size bytes)
    (hzs : z.cells.size = size) (hsz : 0 < size) (hp : Pk (own v el size n xs) Is Is') (hr : ∀ w, St X.w0 X.M Is w → SlR w el' size enc A m ys) (h1 : (ys.flatMap enc).all Value.oneCell' = true) (h63 : n + m ≤ maxLen) (hbytes : (n + m) * bytes ≤ 140737488355328) :
    Eff X e Is ⟨dst, .call ⟨.builtin .append, #[s, x], #[t, t]⟩, ty, pos, aft, g⟩ (fun v' Is2 => Is2 = own v' el size (n + m) (xs ++ ys.flatMap enc) :: Is') := fun a w ha hw => by
  rcases Nat.eq_zero_or_pos m with hm | hm
  · subst hm
    have hys : ys = [] := List.eq_nil_of_length_eq_zero (hr w hw).1.symm
    subst hys
    refine (Eff.mono (eff_append_zero hs hx ht hz hp) ?_) a w ha hw
    rintro _ _ ⟨rfl, rfl⟩ w hw
    refine ⟨_, rfl, ?_⟩
    simpa using hw.pk hp
  · refine eff_value (G := fun v' Is2 => Is2 = own v' el size (n + m) (xs ++ ys.flatMap enc) :: Is') (Is := Is) (by intro c; simp) (fun a' w' ha' hw' => ?_) a w ha hw
    have hr' := hr w' hw'
    obtain ⟨b, off, cs, fz, rfl, hb, harr⟩ := hr'.2 (fun h => by subst h; have := hr'.1; simp at this; omega)
    obtain ⟨v', w2, hrun, hst2, _⟩ := (hw'.pk hp).append (P := X.P) t ty ht hz hzs hsz ⟨b, off, none⟩ m c (ys.flatMap enc) (by rw [flat_len henc, hr'.1]) (fun j u hj => by
      rw [add_at]; exact cell_of hb (harr.flat henc hsz j u hj)) h1 h63 hbytes
    refine ⟨v', w2, _, ?_, rfl, hst2⟩
    simp [execOp, resolve, invoke, builtin, ha'.eval hs, ha'.eval hx, hrun]
end
end Go.SL
