/- A part of a proof for the laws of the seat Ytnjhnpfippcacaa; it has no conditions of its own. -/
import Derived.Test.YtnjhnpfippcacaaPW11
namespace Go.Pins
open Go Go.SL Go.Proofs
set_option maxHeartbeats 4000000 in
theorem waits_spec {w0 w : World} {M : Nat → Prop} {Fr : List Itm} {bp mb : Nat} {wv : Value} {ws : List Vol} {rs : List Rec} {fs : List (Nat × Obj)} (hst : St w0 M (blk bp (.cells #[.map (some mb), wv] 48 (0, 0)) :: own wv 33 4 ws.length (ws.flatMap Vol.cells) :: bunch fs :: Fr) w) (ha : All2 (Vf w0 M fs) ws rs) (hn : ws.length ≤ 100000) :
    Does Try.prog 19 #[.pointer (some ⟨bp, 0, none⟩)] w (fun v w' => ∃ fs' zs, (∀ b o, getL fs b = some o → getL fs' b = some o) ∧ All2 (Vf w0 M fs') zs rs ∧ St w0 M (blk bp (.cells #[.map (some mb), wv] 48 (0, 0)) :: own wv 33 4 ws.length (ws.flatMap Vol.cells) :: bunch fs' :: own v 33 4 ws.length (zs.flatMap Vol.cells) :: Fr) w') := by
  refine fn_bodyX (fn := Try.f19) Try.func19 rfl [(0, .pointer (some ⟨bp, 0, none⟩))] (by exact ⟨rfl, trivial⟩) rfl hst ?_
  refine jc_seq ?_
  refine sc_region ?_
  refine so_pure (opv_assign (by rfl)) (by rfl) rfl ?_
  refine jo_nil ?_
  refine jk_then ?_
  refine jc_seq ?_
  refine jc_seq ?_
  refine sc_region ?_
  refine so_pure (opv_move (by rfl)) (by rfl) rfl ?_
  refine so_pure (opv_ptr_nil (by rfl) (by rfl) Try.underlying24) (by rfl) rfl ?_
  refine jo_nil ?_
  refine jk_then ?_
  refine sc_false (by rfl) rfl ?_
  refine jc_skip ?_
  refine jk_then ?_
  refine jc_seq ?_
  refine jk_sv (v := wv) (by repeat (first | exact Pk.here _ | apply Pk.there)) (fun hsv => ?_)
  obtain ⟨A, c, rfl, _⟩ := hsv
  refine sc_region ?_
  refine so_pure (opv_move (by rfl)) (by rfl) rfl ?_
  refine so_pure (opv_nilCheck (by rfl)) (by rfl) rfl ?_
  refine so_pure (opv_fieldAddr (by rfl) fld48_1) (by rfl) rfl ?_
  refine so_pure (opv_load (by rfl) na28 (rd_pk (by repeat (first | exact Pk.here _ | apply Pk.there))) (by rfl)) (by rfl) rfl ?_
  refine so_eff (eff_call0 (G := fun v New => New = [own v 33 4 ws.length (ws.flatMap Vol.cells)]) (by rfl) (by rfl) tx29 (by exact fun w1 hw1 => (clone_vols w1 _ _ _ ws (St.slr Vol.cells_len hw1 (by repeat (first | exact Pk.here _ | apply Pk.there)) rfl) (by omega)).mono (fun v _ hst => ⟨_, rfl, hst⟩))) (by rfl) rfl ?_
  rintro lv _ ⟨_, rfl, rfl⟩
  refine jo_sv (v := lv) (by repeat (first | exact Pk.here _ | apply Pk.there)) (fun hsv => ?_)
  obtain ⟨A2, c2, rfl, _⟩ := hsv
  refine so_pure (opv_assign (by rfl)) (by rfl) rfl ?_
  refine jo_nil ?_
  refine jk_then ?_
  refine jc_seq ?_
  refine jc_seq ?_
  refine sc_region ?_
  refine so_pure (opv_move (by rfl)) (by rfl) rfl ?_
  refine so_pure (opv_len_slice (by rfl) Try.underlying28) (by rfl) rfl ?_
  refine so_pure (opv_move (by rfl)) (by rfl) rfl ?_
  refine jo_nil ?_
  refine jk_then ?_
  refine jc_block ?_
  refine jc_loop (σ := Nat × List Vol × List (Nat × Obj)) (fun (k, zs, fz) => [(3, .slice A2 ws.length c2), (13, .int .i64 ws.length), (14, .int .i64 k)]) (fun (k, zs, fz) => (own (.slice A2 ws.length c2) 33 4 ws.length (zs.flatMap Vol.cells) :: blk bp (.cells #[.map (some mb), .slice A ws.length c] 48 (0, 0)) :: own (.slice A ws.length c) 33 4 ws.length (ws.flatMap Vol.cells) :: bunch fz :: Fr)) (fun (k, zs, fz) => (k ≤ ws.length) ∧ (∀ b o, getL fs b = some o → getL fz b = some o) ∧ (All2 (Vf w0 M fz) zs rs)) (fun (k, zs, fz) => ws.length - k) (0, ws, fs) ⟨Nat.zero_le _, fun _ _ h => h, ha⟩ ⟨rfl, rfl, rfl, trivial⟩ (fun w hw => St.keep (Sb := [own (.slice A2 ws.length c2) 33 4 ws.length (ws.flatMap Vol.cells), blk bp (.cells #[.map (some mb), .slice A ws.length c] 48 (0, 0)), own (.slice A ws.length c) 33 4 ws.length (ws.flatMap Vol.cells), bunch fs]) hw (by repeat (first | exact Pks.nil _ | exact Pk.here _ | apply Pk.there | apply Pks.cons)) (by repeat (first | exact Tl.here _ | apply Tl.there))) ?_
  rintro ⟨k, zs, fz⟩ ⟨hk, hsub, hall⟩
  show Jc _ _ [(3, .slice A2 ws.length c2), (13, .int .i64 ws.length), (14, .int .i64 k)] (own (.slice A2 ws.length c2) 33 4 ws.length (zs.flatMap Vol.cells) :: blk bp (.cells #[.map (some mb), .slice A ws.length c] 48 (0, 0)) :: own (.slice A ws.length c) 33 4 ws.length (ws.flatMap Vol.cells) :: bunch fz :: Fr) _
  refine jc_seq ?_
  refine sc_region ?_
  refine so_pure (opv_cmp (by rfl) (by rfl) (by rfl)) (by rfl) rfl ?_
  refine jo_nil ?_
  refine jk_then ?_
  refine jc_seq ?_
  refine sk_split (x := 15) (by rfl) (fun h9 => ?_) (fun h9 => ?_)
  · first | have p9 := of_decide_eq_true h9 | have p9 := of_decide_eq_false h9 | have p9 := ndT h9 | have p9 := ndF h9 | have p9 := nbT h9 | have p9 := nbF h9 | have p9 := h9
    refine sc_true (by rfl) h9 ?_
    refine jc_skip ?_
    refine jk_then ?_
    refine jc_seq ?_
    refine jc_block ?_
    refine jc_seq ?_
    refine sc_region ?_
    refine so_pure (opv_move (by rfl)) (by rfl) rfl ?_
    refine so_pure (opv_assign (by rfl)) (by rfl) rfl ?_
    refine jo_nil ?_
    refine jk_then ?_
    have hlt : k < ws.length := by omega
    have hzl : zs.length = ws.length := by rw [hall.len, ha.len]
    obtain ⟨x, hx⟩ : ∃ x, zs[k]? = some x := ⟨zs[k], List.getElem?_eq_getElem (by omega)⟩
    obtain ⟨r, hr, hv⟩ := hall.get hx
    refine sc_region ?_
    refine so_pure (opv_move (by rfl)) (by rfl) rfl ?_
    refine so_pure (opv_move (by rfl)) (by rfl) rfl ?_
    refine so_pure (opv_move (by rfl)) (by rfl) rfl ?_
    refine so_pure (opv_move (by rfl)) (by rfl) rfl ?_
    refine so_pure (opv_indexAddr_own (i := k) (by rfl) (by rfl) Try.underlying28 ti33 (by repeat (first | exact Pk.here _ | apply Pk.there)) rfl hlt) (by rfl) rfl ?_
    refine so_pure (opv_fieldAddr (by rfl) fld33_3) (by rfl) rfl ?_
    refine so_pure (opv_load_fld (u := x) (fo := 3) (w := .slice x.lA x.ln x.lc) Vol.cells_len (by rfl) na31 (by repeat (first | exact Pk.here _ | apply Pk.there)) hx rfl) (by rfl) rfl ?_
    refine so_eff (eff_call0 (G := fun v New => New = [own v 57 2 x.ln (r.locs.flatMap Loc.cells)]) (by rfl) (by rfl) tx25 (by exact fun w1 hw1 => (clone_locs w1 _ _ _ r.locs (hv.2.2.2.1.slr hw1 (by repeat (first | exact Pk.here _ | apply Pk.there))) hv.2.2.2.2).mono (fun v _ hst => ⟨_, rfl, hst⟩))) (by rfl) rfl ?_
    rintro lv _ ⟨_, rfl, rfl⟩
    refine jo_sv (v := lv) (by repeat (first | exact Pk.here _ | apply Pk.there)) (fun hsv => ?_)
    obtain ⟨A3, c3, rfl, _⟩ := hsv
    refine so_pure (opv_indexAddr_own (i := k) (by rfl) (by rfl) Try.underlying28 ti33 (by repeat (first | exact Pk.here _ | apply Pk.there)) rfl hlt) (by rfl) rfl ?_
    refine so_pure (opv_fieldAddr (by rfl) fld33_3) (by rfl) rfl ?_
    refine so_eff0 (eff_store_elem (p := x) (q := { x with lA := A3, lc := c3 }) (vs := [.slice A3 x.ln c3]) (fo := 3) Vol.cells_len (by rfl) (by rfl) (by rfl) ti31 (by rfl) (by repeat (first | exact Pk.here _ | apply Pk.there)) hzl.symm hx (by exact Nat.le_refl _) rfl (by rfl)) (by rfl) ?_
    rintro _ _ ⟨rfl, rfl⟩
    refine jo_nil ?_
    refine jk_bunch_own (fs := fz) (xs := r.locs) (A := A3) Loc.cells_len hv.2.2.2.1.1 (by repeat (first | exact Pk.here _ | apply Pk.there)) (by repeat (first | exact Pk.here _ | apply Pk.there)) (fun fq hq1 hq2 => ?_)
    refine jk_block ?_
    refine jk_then ?_
    refine sc_region ?_
    refine so_pure (opv_add (by rfl) (by rfl) (wrap64_ok (by omega))) (by rfl) rfl ?_
    refine so_pure (opv_move (by rfl)) (by rfl) rfl ?_
    refine jo_nil ?_
    refine jk_round (k + 1, zs.set k { x with lA := A3, lc := c3 }, fq) ⟨by omega, fun b o h => hq1 b o (hsub b o h), (hall.mono (Vf.more hq1)).set hr ⟨hv.1, hv.2.1, hv.2.2.1, hq2, hv.2.2.2.2⟩⟩ (by show ws.length - (k + 1) < ws.length - k; omega) ⟨rfl, rfl, rfl, trivial⟩ (fun w hw => ?_)
    show St _ _ (own (.slice A2 ws.length c2) 33 4 ws.length ((zs.set k { x with lA := A3, lc := c3 }).flatMap Vol.cells) :: blk bp (.cells #[.map (some mb), .slice A ws.length c] 48 (0, 0)) :: own (.slice A ws.length c) 33 4 ws.length (ws.flatMap Vol.cells) :: bunch (fq) :: Fr) _
    exact St.keep (Sb := [own (.slice A2 ws.length c2) 33 4 ws.length ((zs.set k { x with lA := A3, lc := c3 }).flatMap Vol.cells), blk bp (.cells #[.map (some mb), .slice A ws.length c] 48 (0, 0)), own (.slice A ws.length c) 33 4 ws.length (ws.flatMap Vol.cells), bunch fq]) hw (by repeat (first | exact Pks.nil _ | exact Pk.here _ | apply Pk.there | apply Pks.cons)) (by repeat (first | exact Tl.here _ | apply Tl.there))
  · first | have p9 := of_decide_eq_true h9 | have p9 := of_decide_eq_false h9 | have p9 := ndT h9 | have p9 := ndF h9 | have p9 := nbT h9 | have p9 := nbF h9 | have p9 := h9
    refine sc_false (by rfl) h9 ?_
    refine jc_exit ?_
    refine jk_then_exit ?_
    refine jk_then_exit ?_
    refine jk_block_exit ?_
    refine jk_then ?_
    refine jc_seq ?_
    refine sc_region ?_
    refine so_pure (opv_move (by rfl)) (by rfl) rfl ?_
    refine so_pure (opv_assign (by rfl)) (by rfl) rfl ?_
    refine jo_nil ?_
    refine jk_then ?_
    refine jc_ret ?_
    refine jk_fn_ret rfl rfl (by rfl) (fun w hw => ?_)
    refine ⟨fz, zs, hsub, hall, ?_⟩
    exact St.keep (Sb := [blk bp (.cells #[.map (some mb), .slice A ws.length c] 48 (0, 0)), own (.slice A ws.length c) 33 4 ws.length (ws.flatMap Vol.cells), bunch fz, own (.slice A2 ws.length c2) 33 4 ws.length (zs.flatMap Vol.cells)]) hw (by repeat (first | exact Pks.nil _ | exact Pk.here _ | apply Pk.there | apply Pks.cons)) (by repeat (first | exact Tl.here _ | apply Tl.there))
end Go.Pins
