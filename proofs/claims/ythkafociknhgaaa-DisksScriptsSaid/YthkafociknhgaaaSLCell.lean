/- Functions whose results lie in cells. -/
import Derived.Test.YthkafociknhgaaaSLTwo
namespace Go.SL
open Go
theorem jk_fn_retcell {X : Cx} {fn : Func} {R : Value → World → Prop} {e : Env} {Is : List Itm} {x : Tmp} {t : TypeId} {b size bytes : Nat} {z : Value} {c : Array Value} {el : TypeId} {fz : Nat × Nat} {vs : List Value} (hds : X.ds = []) (hr : fn.results = #[.cell x t]) (hx : look e x = some (.pointer (some ⟨b, 0, none⟩)))
    (hna : IsAgg X.P t) (hz : Ti X.P t z size bytes) (hb : Rd X Is b (.cells c el fz)) (hv : Cells c 0 vs) (hs : vs.length = size) (h : ∀ w, St X.w0 X.M Is w → R (.agg vs.toArray) w) :
    Jk X (bodyPost X.P fn (fun e w' => ∃ v, e = .returned v ∧ R v w') .ret) e Is := fun a w ha hw => by
  have h1 := ha.eval (o := .tmp x) hx
  simp only [Act.eval, Array.getD_eq_getD_getElem?] at h1
  subst hs
  refine ⟨ha.defers.trans hds, _, ?_, _, rfl, h w hw⟩
  simp [results, hr, h1, asAddr, loadVar, run_isAgg_yes hna, hz.run_size, run_loadCells_at vs (fun j v hj => cell_of (hb w hw) (hv.get j v hj))]
theorem jk_fn_endcell {X : Cx} {fn : Func} {R : Value → World → Prop} {e : Env} {Is : List Itm} {x : Tmp} {t : TypeId} {b size bytes : Nat} {z : Value} {c : Array Value} {el : TypeId} {fz : Nat × Nat} {vs : List Value} (hds : X.ds = []) (hr : fn.results = #[.cell x t]) (hx : look e x = some (.pointer (some ⟨b, 0, none⟩)))
    (hna : IsAgg X.P t) (hz : Ti X.P t z size bytes) (hb : Rd X Is b (.cells c el fz)) (hv : Cells c 0 vs) (hs : vs.length = size) (h : ∀ w, St X.w0 X.M Is w → R (.agg vs.toArray) w) :
    Jk X (bodyPost X.P fn (fun e w' => ∃ v, e = .returned v ∧ R v w') .normal) e Is := fun a w ha hw => by
  have h1 := ha.eval (o := .tmp x) hx
  simp only [Act.eval, Array.getD_eq_getD_getElem?] at h1
  subst hs
  refine ⟨ha.defers.trans hds, _, ?_, _, rfl, h w hw⟩
  simp [results, hr, h1, asAddr, loadVar, run_isAgg_yes hna, hz.run_size, run_loadCells_at vs (fun j v hj => cell_of (hb w hw) (hv.get j v hj))]
/-- Two groups of items change places. -/
theorem Sep.comm {A B : List Itm} {H : Hlt} (h : Sep (A ++ B) H) : Sep (B ++ A) H := by
  obtain ⟨h1, h2, s1, s2, dj, eq⟩ := Sep.append.1 h
  refine Sep.append.2 ⟨h2, h1, s2, s1, fun k => (dj k).symm, fun k => ?_⟩
  rw [eq k]
  rcases dj k with e | e <;> rw [e] <;> simp
theorem St.comm {w0 w : World} {M : Nat → Prop} {A B : List Itm} (h : St w0 M (A ++ B) w) : St w0 M (B ++ A) w := h.reSep fun _ => Sep.comm
theorem SlF.more {α : Type} {w0 : World} {M : Nat → Prop} {fs fs' : List (Nat × Obj)} {size : Nat} {enc : α → List Value} {A : Option Addr} {n : Nat} {xs : List α} (h : SlF w0 M fs size enc A n xs) (hs : ∀ b o, getL fs b = some o → getL fs' b = some o) : SlF w0 M fs' size enc A n xs :=
  ⟨h.1, fun hne => by
    obtain ⟨b', off, c, fz, h1, h2, h3⟩ := h.2 hne
    exact ⟨b', off, c, fz, h1, h2.imp id (hs _ _), h3⟩⟩
/-- A slice of the call's own is laid aside, to be read for ever. -/
theorem St.bunch_own {α : Type} {w0 w : World} {M : Nat → Prop} {Is : List Itm} {A : Option Addr} {n c el size : Nat} {enc : α → List Value} {xs : List α} {fs : List (Nat × Obj)} (henc : ∀ x, (enc x).length = size) (hn : n = xs.length) (h : St w0 M (own (.slice A n c) el size n (xs.flatMap enc) :: bunch fs :: Is) w) :
    ∃ fs', (∀ b o, getL fs b = some o → getL fs' b = some o) ∧ SlF w0 M fs' size enc A n xs ∧ St w0 M (bunch fs' :: Is) w := by
  obtain ⟨_, hv⟩ := h.own_open
  rcases hv with ⟨hv, h0, hst⟩ | ⟨b, cap, cur, hv, _, _, _, ht, hst⟩
  · refine ⟨fs, fun _ _ h => h, ⟨hn, fun hne => absurd (List.eq_nil_of_length_eq_zero (by omega)) hne⟩, hst⟩
  · have hf := hst.bunch_fresh
    simp only [Value.slice.injEq] at hv
    obtain ⟨rfl, _, _⟩ := hv
    refine ⟨(b, .cells cur el (0, 0)) :: fs, fun b' o ho => ?_, ⟨hn, fun _ => ⟨b, 0, cur, (el, (0, 0)), rfl, .inr (by simp [getL]), arr_of_take henc hn ht⟩⟩, hst.bunch_add⟩
    simp only [getL]
    by_cases e : b = b'
    · subst e; rw [hf] at ho; cases ho
    · rw [if_neg e]; exact ho
theorem jo_sv {X : Cx} {ops : Array Oper} {K : Act → World → Prop} {e : Env} {Is Is' : List Itm} {rest : List Oper} {v : Value} {el size n : Nat} {xs : List Value} (hp : Pk (own v el size n xs) Is Is') (h : SV v n → Jo X ops K e Is rest) : Jo X ops K e Is rest := jk_sv hp h
end Go.SL
