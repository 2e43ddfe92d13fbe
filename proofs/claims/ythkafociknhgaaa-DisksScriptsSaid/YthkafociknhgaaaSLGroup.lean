/- Groups of items as one; arrays by value; maps that are cloned. -/
import Derived.Test.YthkafociknhgaaaSLMark
import Derived.Laws.Externs
import Derived.MapKept
namespace Go.SL
open Go
structure grp (L : List Itm) (h : Hlt) : Prop where
  cut : Sep L h
theorem St.grp_open {L : List Itm} {w0 w : World} {M : Nat → Prop} {Is : List Itm} (h : St w0 M (grp L :: Is) w) : St w0 M (L ++ Is) w := h.reSep fun H hs => by
  obtain ⟨h1, h2, s1, s2, dj, eq⟩ := hs
  exact Sep.append.2 ⟨h1, h2, s1.cut, s2, dj, eq⟩
theorem St.grp_mk {L : List Itm} {w0 w : World} {M : Nat → Prop} {Is : List Itm} (h : St w0 M (L ++ Is) w) : St w0 M (grp L :: Is) w := h.reSep fun H hs => by
  obtain ⟨h1, h2, s1, s2, dj, eq⟩ := Sep.append.1 hs
  exact ⟨h1, h2, ⟨s1⟩, s2, dj, eq⟩
theorem pk_at {I : Itm} : ∀ {L : List Itm} {d : Nat}, L[d]? = some I → ∀ Is, Pk I (L ++ Is) (L.eraseIdx d ++ Is)
  | [], d, h, _ => by simp at h
  | J :: L, 0, h, Is => by
    obtain rfl : J = I := by simpa using h
    exact .here _
  | J :: L, d + 1, h, Is => .there (pk_at (L := L) (by simpa using h) Is)
theorem set_at {I : Itm} : ∀ {L : List Itm} {d : Nat}, d < L.length → ∀ Is, Pk I (L.set d I ++ Is) (L.eraseIdx d ++ Is)
  | [], d, h, _ => by simp at h
  | J :: L, 0, h, Is => .here _
  | J :: L, d + 1, h, Is => .there (set_at (L := L) (by simpa using h) Is)
/-- One of a group is taken out, and put back. -/
theorem St.grp_out {L : List Itm} {I : Itm} {d : Nat} {w0 w : World} {M : Nat → Prop} {Is : List Itm} (hd : L[d]? = some I) (h : St w0 M (grp L :: Is) w) : St w0 M (I :: grp (L.eraseIdx d) :: Is) w := by
  have h1 := (h.grp_open).pk (pk_at hd Is)
  exact (St.grp_mk (L := L.eraseIdx d) (Is := I :: Is) (h1.unpk (by
    have : ∀ (A : List Itm), Pk I (A ++ I :: Is) (A ++ Is) := fun A => Pk.app A (.here _)
    exact this _))).pk (.there (.here _))
theorem St.grp_in {L : List Itm} {I : Itm} {d : Nat} {w0 w : World} {M : Nat → Prop} {Is : List Itm} (hd : d < L.length) (h : St w0 M (I :: grp (L.eraseIdx d) :: Is) w) : St w0 M (grp (L.set d I) :: Is) w := by
  have h1 := (h.pk (.there (.here _))).grp_open
  have h2 : St w0 M (I :: (L.eraseIdx d ++ Is)) w := h1.pk (Pk.app _ (.here _))
  exact St.grp_mk (h2.unpk (set_at hd Is))
section
variable {X : Cx} {e : Env} {Is Is' : List Itm} {dst : Option Tmp} {ty : TypeId} {pos : String} {aft : Array Edge} {g : Option (Nat × Bool)} {x y : Operand} {t t' : TypeId}
theorem opv_index_arr {n i bytes : Nat} {el : TypeId} {z v : Value} {k : IntKind} {j : Int} {cs : Array Value} (hx : ev e x = some (.agg cs)) (hy : ev e y = some (.int k j)) (hu : X.P.underlying t = some (.array n el)) (hz : Ti X.P el z 1 bytes) (hna : NoAgg X.P el)
    (hi : j = (i : Int)) (hlt : i < n) (hv : cs[i]? = some v) : Opv X e Is ⟨dst, .index t x y, ty, pos, aft, g⟩ v :=
  opv_of (by intro c; simp) fun a w ha hw => by
    subst hi
    have h1 : (0 : Int) ≤ (i : Int) ∧ (i : Int) < (n : Int) := by omega
    have hp : (part el cs i).run X.P w = .ok v w := run_part_int hna hv w
    simp [execOp, ha.eval hx, ha.eval hy, Instr.index, asIntOf, run_underlying' hu, hz.run_size, hp]
    intro h2; omega
theorem opv_map_nil {A : Option Nat} {k el : TypeId} (hx : ev e x = some (.map A)) (hy : ev e y = some (.map none)) (hu : X.P.underlying t = some (.map k el)) :
    Opv X e Is ⟨dst, .binOp .eql t x y t', ty, pos, aft, g⟩ (.bool A.isNone) :=
  opv_equal hx hy (fun w => by simp [eqGuard]) (by rfl) (fun d w => by cases A <;> simp [Op.equalIn, run_underlying' hu])
theorem opv_makeIface {v : Value} {d : TypeDesc} (hx : ev e x = some v) (hu : X.P.underlying t = some d) (hd : ∀ ms, d ≠ .interface ms) : Opv X e Is ⟨dst, .makeInterface t x, ty, pos, aft, g⟩ (.iface t v) :=
  opv_of (by intro c; simp) fun a w ha hw => by
    simp only [execOp, ha.eval hx, Instr.makeInterface, Sem.run_bind, run_underlying' hu, Result.andThen_ok]
    cases d <;> simp at hd ⊢
theorem opv_typeAssert {v : Value} {xt : TypeId} {k el : TypeId} (hx : ev e x = some (.iface t v)) (hu : X.P.underlying t = some (.map k el)) : Opv X e Is ⟨dst, .typeAssert x xt t false, ty, pos, aft, g⟩ v :=
  opv_of (by intro c; simp) fun a w ha hw => by
    simp [execOp, ha.eval hx, Instr.typeAssert, run_underlying' hu]
theorem eff_mapsClone {K : Type} {kv : K → Value} {b : Nat} {l : List (K × Value)} {f : FuncId} {fn : Func} {ts : Array TypeId} (hx : ev e x = some (.iface t (.map (some b)))) (hf : X.P.funcs[f]? = some fn) (hname : (fn.name == "runtime.NumGoroutine") = false)
    (hb : fn.body.isNone = true) (hn : Extern.findNext fn = none) (he : Extern.find fn = some Extern.MapsClone.clone) (hp : Pk (mapI kv b l) Is Is') :
    Eff X e Is ⟨dst, .call ⟨.value (.func f), #[x], ts⟩, ty, pos, aft, g⟩ (fun v Is2 => ∃ n, v = .iface t (.map (some n)) ∧ Is2 = mapI kv n l :: mapI kv b l :: Is') :=
  eff_value (by intro c; simp) fun a w ha hw => by
    obtain ⟨es, clock, hm, hst⟩ := (hw.pk hp).mapI_open
    have hg := hst.get (.here _)
    have hrun : (Extern.MapsClone.clone #[.iface t (.map (some b))]).run X.P w = .ok (.iface t (.map (some w.heap.size))) (w.alloc (.map es clock)) := by
      have e1 : Extern.MapsClone.clone #[.iface t (.map (some b))] = (getObj b >>= fun o => match o with
          | .map entries clock => (newObj (.map entries clock) >>= fun n => pure (.iface t (.map (some n))))
          | _ => stuck "maps.clone: a map expected") := rfl
      rw [e1]
      simp [MapKept.run_getObj_map hg, Result.andThen, go_sem]
    refine ⟨.iface t (.map (some w.heap.size)), w.alloc (.map es clock), mapI kv w.heap.size l :: mapI kv b l :: Is', ?_, ⟨w.heap.size, rfl, rfl⟩, ?_⟩
    · have hev : a.eval (.func f) = .func (.func f) #[] #[] := rfl
      simp only [execOp, resolve, Sem.run_bind, hev, Deferred.ofValue, Sem.run_pure, Result.andThen_ok, invoke]
      have hxx : (#[x].map a.eval) = #[.iface t (.map (some b))] := by simp [ha.eval hx]
      simp [hxx, run_callFunc_extern hf hname hb hn he, hrun]
    · have h2 := hst.alloc (.map es clock)
      have h3 := h2.mapI_mk hm
      exact ((h3.pk (.there (.here _))).mapI_mk hm).pk (.there (.here _))
end
end Go.SL
