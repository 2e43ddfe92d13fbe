/- More about rows: what is appended from a readable slice or from a slice of the call's own. -/
import Derived.Test.YthkafociknhgaaaSLRange
namespace Go.SL
open Go
section
variable {α : Type} {size : Nat} {enc : α → List Value}
theorem Arr.flat {c : Array Value} {off : Nat} (henc : ∀ x, (enc x).length = size) (hs : 0 < size) {xs : List α} (h : Arr c off size enc xs) : ∀ j u, (xs.flatMap enc)[j]? = some u → c[off + j]? = some u := fun j u hu => by
  have hlt := (List.getElem?_eq_some_iff.1 hu).1
  rw [flat_len henc] at hlt
  have hi : j / size < xs.length := Nat.div_lt_of_lt_mul (by rw [Nat.mul_comm]; exact hlt)
  have hx : xs[j / size]? = some xs[j / size] := List.getElem?_eq_getElem hi
  have hj : j % size < (enc xs[j / size]).length := by rw [henc]; exact Nat.mod_lt _ hs
  have hv : (enc xs[j / size])[j % size]? = some (enc xs[j / size])[j % size] := List.getElem?_eq_getElem hj
  have e1 := (h _ _ hx).get _ _ hv
  have e2 := flat_get henc xs _ _ _ _ hx hv
  have e3 : j / size * size + j % size = j := by rw [Nat.mul_comm]; exact Nat.div_add_mod j size
  rw [e3, hu] at e2
  rw [Nat.add_assoc, e3] at e1
  rw [e1]; exact e2.symm
/-- What is written behind a row leaves it alone. -/
theorem Arr.putAfter {c : Array Value} {off o : Nat} (henc : ∀ x, (enc x).length = size) {xs : List α} (h : Arr c off size enc xs) {vs : List Value} (ho : off + xs.length * size ≤ o) (hl : o + vs.length ≤ c.size) : Arr (putCells c o vs) off size enc xs := fun i x hx => by
  refine cells_of_get fun k v hv => ?_
  rw [putCells_get vs c o _ hl]
  have hi := (List.getElem?_eq_some_iff.1 hx).1
  have hk := (List.getElem?_eq_some_iff.1 hv).1
  rw [henc] at hk
  have h1 : (i + 1) * size ≤ xs.length * size := Nat.mul_le_mul_right _ hi
  rw [Nat.add_mul] at h1
  rw [if_neg (by omega)]
  exact (h i x hx).get k v hv
variable {X : Cx} {e : Env} {Is Is' Is'' : List Itm} {dst : Option Tmp} {ty : TypeId} {pos : String} {aft : Array Edge} {g : Option (Nat × Bool)} {x y : Operand} {t : TypeId}
theorem Pk.app {I : Itm} {A B : List Itm} (C : List Itm) (h : Pk I A B) : Pk I (C ++ A) (C ++ B) := by
  induction C with
  | nil => exact h
  | cons J C ih => exact Pk.there ih
theorem Eff.mono {o : Oper} {G G' : Value → List Itm → Prop} (h : Eff X e Is o G) (hg : ∀ v Is1, G v Is1 → ∀ w, St X.w0 X.M Is1 w → ∃ Is2, G' v Is2 ∧ St X.w0 X.M Is2 w) : Eff X e Is o G' := fun a w ha hw =>
  wpIn_noPanic (h a w ha hw) fun _ w' ⟨v, Is1, he, hG, hst⟩ => by
    obtain ⟨Is2, h1, h2⟩ := hg v Is1 hG w' hst
    exact ⟨v, Is2, he, h1, h2⟩
theorem SlR.of_blk {w0 w : World} {M : Nat → Prop} {b el n : Nat} {c : Array Value} {fz : Nat × Nat} {xs : List α} (h : St w0 M Is w) (hp : Pk (blk b (.cells c el fz)) Is Is') (hn : n = xs.length) (ha : Arr c 0 size enc xs) : SlR w el size enc (some ⟨b, 0, none⟩) n xs :=
  ⟨hn, fun _ => ⟨b, 0, c, (el, fz), rfl, h.get hp, ha⟩⟩
/-- A readable slice is appended. -/
theorem eff_append_slr {s : Operand} {v : Value} {el : TypeId} {n m c bytes : Nat} {A : Option Addr} {xs : List Value} {ys : List α} {z : Value} (henc : ∀ x, (enc x).length = size) (hs : ev e s = some v) (hx : ev e x = some (.slice A m c)) (ht : X.P.underlying t = some (.slice el)) (hz : Ti X.P el z size bytes)
    (hzs : z.cells.size = size) (hsz : 0 < size) (hp : Pk (own v el size n xs) Is Is') (hM : X.M = Emp) (hr : SlR X.w0 el size enc A m ys) (h1 : (ys.flatMap enc).all Value.oneCell' = true) (h63 : n + m ≤ maxLen) (hbytes : (n + m) * bytes ≤ 140737488355328) :
    Eff X e Is ⟨dst, .call ⟨.builtin .append, #[s, x], #[t, t]⟩, ty, pos, aft, g⟩ (fun v' Is2 => Is2 = own v' el size (n + m) (xs ++ ys.flatMap enc) :: Is') := by
  rcases Nat.eq_zero_or_pos m with hm | hm
  · subst hm
    have hys : ys = [] := List.eq_nil_of_length_eq_zero hr.1.symm
    subst hys
    refine (eff_append_zero hs hx ht hz hp).mono ?_
    rintro _ _ ⟨rfl, rfl⟩ w hw
    refine ⟨_, rfl, ?_⟩
    simpa using hw.pk hp
  · obtain ⟨b, off, cs, fz, rfl, hb, ha⟩ := hr.2 (fun h => by subst h; have := hr.1; simp at this; omega)
    refine (eff_append hs hx ht hz hzs hsz hp (rd_old hb (fun h => by rw [hM] at h; exact h)) (ha.flat henc hsz) (by rw [flat_len henc, hr.1]) h1 h63 hbytes).mono ?_
    rintro v' _ ⟨rfl, _⟩ w hw
    exact ⟨_, rfl, hw⟩
/-- A slice of the call's own is appended. -/
theorem eff_append_own {s : Operand} {v v2 : Value} {el : TypeId} {n m bytes : Nat} {xs ys : List Value} {z : Value} (hs : ev e s = some v) (hx : ev e x = some v2) (ht : X.P.underlying t = some (.slice el)) (hz : Ti X.P el z size bytes)
    (hzs : z.cells.size = size) (hsz : 0 < size) (hp : Pk (own v el size n xs) Is Is') (hq : Pk (own v2 el size m ys) Is' Is'') (h1 : ys.all Value.oneCell' = true) (h63 : n + m ≤ maxLen) (hbytes : (n + m) * bytes ≤ 140737488355328) :
    Eff X e Is ⟨dst, .call ⟨.builtin .append, #[s, x], #[t, t]⟩, ty, pos, aft, g⟩ (fun v' Is2 => Is2 = own v' el size (n + m) (xs ++ ys) :: Is') := fun a w ha hw => by
  have hw1 := hw.pk hp
  obtain ⟨hl, hv⟩ := (hw1.pk (Pk.there hq)).own_open
  rcases hv with ⟨rfl, rfl, _⟩ | ⟨b, cap, cur, rfl, hnc, hcm, hcs, htake, hst⟩
  · have hys : ys = [] := List.eq_nil_of_length_eq_zero (by simpa using hl)
    subst hys
    refine (Eff.mono (eff_append_zero hs hx ht hz hp) ?_) a w ha hw
    rintro _ _ ⟨rfl, rfl⟩ w hw
    refine ⟨_, rfl, ?_⟩
    simpa using hw.pk hp
  · have hb := hst.get (.here _)
    refine eff_value (G := fun v' Is2 => Is2 = own v' el size (n + m) (xs ++ ys) :: Is') (Is := Is) (by intro c; simp) (fun a' w' ha' hw' => ?_) a w ha hw
    have hw1' := hw'.pk hp
    obtain ⟨hl', hv'⟩ := (hw1'.pk (Pk.there hq)).own_open
    rcases hv' with ⟨h, _, _⟩ | ⟨b', cap', cur', h, hnc', hcm', hcs', htake', hst'⟩
    · simp at h
    · simp only [Value.slice.injEq, Option.some.injEq, Addr.mk.injEq] at h
      obtain ⟨⟨rfl, _⟩, _, rfl⟩ := h
      have hb' := hst'.get (.here _)
      obtain ⟨v', w2, hr, hst2, _⟩ := hw1'.append (P := X.P) t ty ht hz hzs hsz ⟨b, 0, none⟩ m cap ys hl' (fun j u hj => by
        rw [add_at]
        refine cell_of hb' ?_
        rw [Nat.zero_add]
        rw [← htake'] at hj
        have hlt : j < m * size := by have := (List.getElem?_eq_some_iff.1 hj).1; rw [List.length_take] at this; omega
        rw [List.getElem?_take_of_lt hlt, Array.getElem?_toList] at hj
        exact hj) h1 h63 hbytes
      refine ⟨v', w2, _, ?_, rfl, hst2⟩
      simp [execOp, resolve, invoke, builtin, ha'.eval hs, ha'.eval hx, hr]
/-! ### what is known of the slice itself, whatever the world -/
def SV (v : Value) (n : Nat) : Prop := ∃ A c, v = .slice A n c ∧ (0 < n → A = some ⟨ownB v, 0, none⟩)
theorem jk_sv {K : Act → World → Prop} {v : Value} {el size n : Nat} {xs : List Value} (hp : Pk (own v el size n xs) Is Is') (h : SV v n → Jk X K e Is) : Jk X K e Is :=
  jk_know (p := SV v n) (fun w hw => by
    obtain ⟨_, hv⟩ := (hw.pk hp).own_open
    rcases hv with ⟨rfl, rfl, _⟩ | ⟨b, cap, cur, rfl, _⟩
    · exact ⟨none, 0, rfl, fun h => absurd h (by omega)⟩
    · exact ⟨_, _, rfl, fun _ => rfl⟩) h
theorem ja_sv {ops : Array Oper} {fuel : Nat} {listed : Array Bool} {Sb : List Itm} {K : Act → World → Prop} {v : Value} {el size n : Nat} {xs : List Value} (hp : Pk (own v el size n xs) Is Is') (h : SV v n → Ja X ops K Sb fuel listed e Is) : Ja X ops K Sb fuel listed e Is := jk_sv hp h
theorem opv_len_sv {v : Value} {n : Nat} {el' : TypeId} (hx : ev e x = some v) (hv : SV v n) (hu : X.P.underlying t = some (.slice el')) :
    Opv X e Is ⟨dst, .call ⟨.builtin .len, #[x], #[t]⟩, ty, pos, aft, g⟩ (.int .i64 n) := by
  obtain ⟨A, c, h, _⟩ := hv
  exact opv_len_slice (by rw [hx, h]) hu
theorem opv_indexAddr_sv {n i size bytes : Nat} {k : IntKind} {el : TypeId} {z v : Value} {j : Int} (hx : ev e x = some v) (hv : SV v n) (hy : ev e y = some (.int k j)) (hu : X.P.underlying t = some (.slice el)) (hz : Ti X.P el z size bytes)
    (hi : j = (i : Int)) (hlt : i < n) : Opv X e Is ⟨dst, .indexAddr t x y, ty, pos, aft, g⟩ (.pointer (some ⟨ownB v, 0 + i * size, none⟩)) := by
  obtain ⟨A, c, h, hA⟩ := hv
  have hA' := hA (by omega)
  subst hA'
  exact opv_indexAddr (by rw [hx]; exact congrArg some h) hy hu hz hi hlt
/-! ### a readable slice that was there, whatever the world -/
def slB (A : Option Addr) : Nat := match A with | some a => a.block | none => 0
def slO (A : Option Addr) : Nat := match A with | some a => a.off | none => 0
theorem SlR.at {w : World} {el n : Nat} {A : Option Addr} {xs : List α} (h : SlR w el size enc A n xs) {i : Nat} (hi : i < n) : A = some ⟨slB A, slO A, none⟩ := by
  obtain ⟨b, off, c, fz, x, rfl, _⟩ := h.get hi
  rfl
theorem opv_indexAddr_slr {w : World} {n i cap el' bytes : Nat} {k : IntKind} {el : TypeId} {z : Value} {j : Int} {A : Option Addr} {xs : List α} (hx : ev e x = some (.slice A n cap)) (hs : SlR w el' size enc A n xs) (hy : ev e y = some (.int k j)) (hu : X.P.underlying t = some (.slice el)) (hz : Ti X.P el z size bytes)
    (hi : j = (i : Int)) (hlt : i < n) : Opv X e Is ⟨dst, .indexAddr t x y, ty, pos, aft, g⟩ (.pointer (some ⟨slB A, slO A + i * size, none⟩)) :=
  opv_indexAddr (by rw [hx]; exact congrArg (fun B => some (Value.slice B n cap)) (hs.at hlt)) hy hu hz hi hlt
theorem opv_load_slr {n i fo el : Nat} {v : Value} {A : Option Addr} {xs : List α} {u : α} (hx : ev e x = some (.pointer (some ⟨slB A, slO A + i * size + fo, none⟩))) (hna : NoAgg X.P t) (hM : X.M = Emp) (hs : SlR X.w0 el size enc A n xs)
    (hu : xs[i]? = some u) (hv : (enc u)[fo]? = some v) : Opv X e Is ⟨dst, .load t x, ty, pos, aft, g⟩ v := by
  have hi : i < n := by rw [hs.1]; exact (List.getElem?_eq_some_iff.1 hu).1
  obtain ⟨b, off, c, fz, x', rfl, hb, hx', hc⟩ := hs.get hi
  obtain rfl : x' = u := by rw [hu] at hx'; exact (Option.some.inj hx').symm
  exact opv_load hx hna (rd_old hb (fun h => by rw [hM] at h; exact h)) (hc.get fo v hv)
theorem St.slr {w0 w : World} {M : Nat → Prop} {A : Option Addr} {n c el : Nat} {xs : List α} (henc : ∀ x, (enc x).length = size) (h : St w0 M Is w) (hp : Pk (own (.slice A n c) el size n (xs.flatMap enc)) Is Is') (hn : n = xs.length) : SlR w el size enc A n xs := by
  obtain ⟨A', c', he, _, hs⟩ := SlR.of_own henc h hp hn
  simp only [Value.slice.injEq] at he
  obtain ⟨rfl, _, rfl⟩ := he
  exact hs
end
end Go.SL
