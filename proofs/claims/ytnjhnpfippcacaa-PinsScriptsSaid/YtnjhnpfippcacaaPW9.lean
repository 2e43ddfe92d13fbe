/- A part of a proof for the laws of the seat Ytnjhnpfippcacaa; it has no conditions of its own. -/
import Derived.Test.YtnjhnpfippcacaaPW8
namespace Go.Pins
open Go Go.SL Go.Proofs
set_option maxHeartbeats 4000000 in
theorem retire_spec {w0 w : World} {M : Nat → Prop} {Fr : List Itm} {bp mb : Nat} {wv : Value} {ws : List Vol} {fs : List (Nat × Obj)} (x : Vol) (locs : List Loc) (hst : St w0 M (blk bp (.cells #[.map (some mb), wv] 48 (0, 0)) :: own wv 33 4 ws.length (ws.flatMap Vol.cells) :: bunch fs :: Fr) w) (hl : SlF w0 M fs 2 Loc.cells x.lA x.ln locs) (hln : Small x.ln) (hn : ws.length ≤ 100000) :
    Does Try.prog 14 #[.pointer (some ⟨bp, 0, none⟩), .agg #[.int .i64 x.id, .int .i64 x.gen, .int .i64 x.size, .slice x.lA x.ln x.lc]] w (fun v w' => if ws.any (fun y => decide (y.key = x.key)) = true then v = .int .i64 13 ∧ St w0 M (blk bp (.cells #[.map (some mb), wv] 48 (0, 0)) :: own wv 33 4 ws.length (ws.flatMap Vol.cells) :: bunch fs :: Fr) w' else
      v = .int .i64 0 ∧ ∃ A' c' fs' wv', (∀ b o, getL fs b = some o → getL fs' b = some o) ∧ SlF w0 M fs' 2 Loc.cells A' x.ln locs ∧ St w0 M (blk bp (.cells #[.map (some mb), wv'] 48 (0, 0)) :: own wv' 33 4 (ws.length + 1) ((ws ++ [{ x with lA := A', lc := c' }]).flatMap Vol.cells) :: bunch fs' :: Fr) w') := by
  refine fn_bodyX (fn := Try.f14) Try.func14 rfl [(0, .pointer (some ⟨bp, 0, none⟩)), (1, .agg #[.int .i64 x.id, .int .i64 x.gen, .int .i64 x.size, .slice x.lA x.ln x.lc])] (by exact ⟨rfl, rfl, trivial⟩) rfl hst ?_
  refine jc_seq ?_
  refine sc_region ?_
  refine so_eff (eff_box (by rfl) rfl) (by rfl) rfl ?_
  rintro _ _ ⟨b3, rfl, rfl⟩
  refine so_pure (opv_assign (by rfl)) (by rfl) rfl ?_
  refine jo_nil ?_
  refine jk_then ?_
  refine jc_seq ?_
  refine jc_seq ?_
  refine sc_region ?_
  refine so_pure (opv_move (by rfl)) (by rfl) rfl ?_
  refine so_pure (opv_ptr_nil (by rfl) (by rfl) Try.underlying24) (by rfl) rfl ?_
  refine jo_nil ?_
  refine jk_then ?_
  refine sc_false (by rfl) rfl ?_
  refine jc_skip ?_
  refine jk_then ?_
  refine jc_seq ?_
  refine jc_seq ?_
  refine sc_region ?_
  refine so_pure (opv_move (by rfl)) (by rfl) rfl ?_
  refine so_pure (opv_nilCheck (by rfl)) (by rfl) rfl ?_
  refine so_pure (opv_fieldAddr (by rfl) fld48_1) (by rfl) rfl ?_
  refine so_pure (opv_load (by rfl) na28 (rd_pk (by repeat (first | exact Pk.here _ | apply Pk.there))) (by rfl)) (by rfl) rfl ?_
  refine so_pure (opv_makeFunc (by rfl) (by rfl)) (by rfl) rfl ?_
  refine so_eff (eff_call (fl := []) (cl := []) (G := fun v Is' => v = .bool (ws.any (fun y => decide (y.key = x.key))) ∧ Is' = own wv 33 4 ws.length (ws.flatMap Vol.cells) :: blk b3 (.cells x.cells.toArray 33 (0, 0)) :: blk bp (.cells #[.map (some mb), wv] 48 (0, 0)) :: bunch fs :: Fr) (by rfl) (by rfl) tx22 (by exact fun w1 hw1 => (contains_spec (fi := 23) (cl := [.pointer (some ⟨b3, 0, none⟩)]) (Fr := fun _ => blk b3 (.cells x.cells.toArray 33 (0, 0)) :: blk bp (.cells #[.map (some mb), wv] 48 (0, 0)) :: bunch fs :: Fr) (ys0 := []) (xs := ws) (n := ws.length) (p := fun y => decide (y.key = x.key)) tx23 (hw1.pk (.there (.there (.here _)))) rfl (by omega) (Nat.zero_le _) (fun ys y Is2 w2 _ hw2 => (retire1_spec w2 y x b3 _ (hw2.get (Pk.app Is2 (.here _)))).mono (fun _ _ ⟨hv, hs⟩ => ⟨hv, hw2.frame0 hs⟩))).mono (fun _ _ ⟨vis, hv, hst⟩ => ⟨_, ⟨hv, rfl⟩, hst⟩))) (by rfl) rfl ?_
  rintro _ _ ⟨rfl, rfl⟩
  refine jo_nil ?_
  refine jk_then ?_
  refine sk_split (x := 12) (by rfl) (fun h9 => ?_) (fun h9 => ?_)
  · first | have p9 := of_decide_eq_true h9 | have p9 := of_decide_eq_false h9 | have p9 := ndT h9 | have p9 := ndF h9 | have p9 := nbT h9 | have p9 := nbF h9 | have p9 := h9
    refine sc_true (by rfl) h9 ?_
    refine jc_seq ?_
    refine sc_region ?_
    refine so_pure (opv_assign (by rfl)) (by rfl) rfl ?_
    refine jo_nil ?_
    refine jk_then ?_
    refine jc_ret ?_
    refine jk_then_ret ?_
    refine jk_fn_ret rfl rfl (by rfl) (fun w hw => ?_)
    rw [if_pos p9]
    exact ⟨rfl, (hw.pk (.there (.here _))).drop.pk (.there (.here _))⟩
  · first | have p9 := of_decide_eq_true h9 | have p9 := of_decide_eq_false h9 | have p9 := ndT h9 | have p9 := ndF h9 | have p9 := nbT h9 | have p9 := nbF h9 | have p9 := h9
    refine sc_false (by rfl) h9 ?_
    refine jc_skip ?_
    refine jk_then ?_
    refine jc_seq ?_
    refine sc_region ?_
    refine so_pure (opv_fieldAddr (by rfl) fld33_3) (by rfl) rfl ?_
    refine so_pure (opv_load (by rfl) na31 (rd_pk (by repeat (first | exact Pk.here _ | apply Pk.there))) (by rfl)) (by rfl) rfl ?_
    refine so_eff (eff_call0 (G := fun v New => New = [own v 57 2 x.ln (locs.flatMap Loc.cells)]) (by rfl) (by rfl) tx25 (by exact fun w1 hw1 => (clone_locs w1 _ _ _ locs (hl.slr hw1 (by repeat (first | exact Pk.here _ | apply Pk.there))) hln).mono (fun v _ hst => ⟨_, rfl, hst⟩))) (by rfl) rfl ?_
    rintro lv _ ⟨_, rfl, rfl⟩
    refine jo_sv (by repeat (first | exact Pk.here _ | apply Pk.there)) (fun hsv => ?_)
    obtain ⟨A', c', rfl, _⟩ := hsv
    refine so_pure (opv_fieldAddr (by rfl) fld33_3) (by rfl) rfl ?_
    refine so_eff0 (eff_store (vs := [.slice A' x.ln c']) (by rfl) (by rfl) (by rfl) ti31 (by rfl) (by repeat (first | exact Pk.here _ | apply Pk.there)) (by exact Nat.le_refl _) (by rfl)) (by rfl) ?_
    rintro _ _ ⟨rfl, rfl⟩
    refine jo_nil ?_
    refine jk_then ?_
    refine jc_seq ?_
    refine so_draw [] (by kernel_rfl) (by kernel_rfl) (by kernel_rfl) rfl (by rfl) (fun hap htm => ?_)
    refine da_any hap htm (i := 0) (by rfl) (by kernel_rfl) (by rfl) (listed' := #[true, false, false, false, false, false, false, false, false, false, false]) (by rfl) (fun _ => (opv_move (by rfl))) (by rfl) rfl ?_
    refine da_any hap htm (i := 1) (by rfl) (by kernel_rfl) (by rfl) (listed' := #[true, true, false, false, false, false, false, false, false, false, false]) (by rfl) (fun _ => (opv_move (by rfl))) (by rfl) rfl ?_
    refine da_any hap htm (i := 2) (by rfl) (by kernel_rfl) (by rfl) (listed' := #[true, true, true, false, false, false, false, false, false, false, false]) (by rfl) (fun _ => (opv_nilCheck (by rfl))) (by rfl) rfl ?_
    refine da_any hap htm (i := 3) (by rfl) (by kernel_rfl) (by rfl) (listed' := #[true, true, true, true, false, false, false, false, false, false, false]) (by rfl) (fun _ => (opv_fieldAddr (by rfl) fld48_1)) (by rfl) rfl ?_
    refine da_now [6, 7, 8, 9, 10] hap htm (i := 5) (by rfl) (by kernel_rfl) (by rfl) (listed' := #[true, true, true, true, false, true, false, false, false, false, false]) (by rfl) (by kernel_rfl) (by kernel_rfl) (opv_load_agg (vs := [.int .i64 x.id, .int .i64 x.gen, .int .i64 x.size, .slice A' x.ln c']) (by rfl) ag33 ti33 (rd_pk (by repeat (first | exact Pk.here _ | apply Pk.there))) (by exact ⟨rfl, rfl, rfl, rfl, trivial⟩) rfl) (by rfl) rfl ?_
    refine ja_two (i := 4) (j := 6) (by kernel_rfl) ?_ ?_
    · refine js_pure htm (i := 4) (by rfl) (by rfl) (listed' := #[true, true, true, true, true, true, false, false, false, false, false]) (by rfl) (opv_load (by rfl) na28 (rd_pk (by repeat (first | exact Pk.here _ | apply Pk.there))) (by rfl)) (by rfl) rfl ?_
      refine da_eff (i := 6) (by rfl) (by kernel_rfl) (by rfl) (listed' := #[true, true, true, true, true, true, true, false, false, false, false]) (by rfl) (eff_buildSlice (by rfl) (fun w => by exact bsl28_1_0 ..)) (fun _ _ _ _ hw => cw_nil hw) (by rfl) rfl ?_
      rintro _ _ ⟨b23, rfl, rfl⟩
      refine da_eff (i := 7) (by rfl) (by kernel_rfl) (by rfl) (listed' := #[true, true, true, true, true, true, true, true, false, false, false]) (by rfl) (eff_append_lit (by rfl) (by rfl) Try.underlying28 ti33 (by rfl) (by omega) (by repeat (first | exact Pk.here _ | apply Pk.there)) (rd_pk (by repeat (first | exact Pk.here _ | apply Pk.there))) (by rfl) (by rfl) (by unfold maxLen; omega) (by omega)) (fun _ _ _ _ hw => cw_nil hw) (by rfl) rfl ?_
      rintro wv2 _ ⟨rfl, _⟩
      refine ja_sv (by repeat (first | exact Pk.here _ | apply Pk.there)) (fun hsv2 => ?_)
      obtain ⟨A2, c2, rfl, _⟩ := hsv2
      refine da_any hap htm (i := 8) (by rfl) (by kernel_rfl) (by rfl) (listed' := #[true, true, true, true, true, true, true, true, true, false, false]) (by rfl) (fun _ => (opv_nilCheck (by rfl))) (by rfl) rfl ?_
      refine da_any hap htm (i := 9) (by rfl) (by kernel_rfl) (by rfl) (listed' := #[true, true, true, true, true, true, true, true, true, true, false]) (by rfl) (fun _ => (opv_fieldAddr (by rfl) fld48_1)) (by rfl) rfl ?_
      refine da_eff0 (i := 10) (by rfl) (by kernel_rfl) (by rfl) (listed' := #[true, true, true, true, true, true, true, true, true, true, true]) (by rfl) (eff_store (vs := [.slice A2 (ws.length + 1) c2]) (by rfl) (by rfl) (by rfl) ti28 (by rfl) (by repeat (first | exact Pk.here _ | apply Pk.there)) (by exact Nat.le_refl _) (by rfl)) (fun _ _ _ _ hw => cw_nil hw) (by rfl) ?_
      rintro _ _ ⟨rfl, rfl⟩
      refine da_done (by kernel_rfl) ?_
      refine jk_then ?_
      refine jc_seq ?_
      refine sc_region ?_
      refine so_pure (opv_assign (by rfl)) (by rfl) rfl ?_
      refine jo_nil ?_
      refine jk_then ?_
      refine jc_ret ?_
      refine jk_fn_ret rfl rfl (by rfl) (fun w hw => ?_)
      rw [if_neg (by rw [p9]; simp)]
      refine ⟨rfl, A', c', ?_⟩
      have hw2 := (hw.pk (.there (.there (.here _)))).drop
      have hw3 := (hw2.pk (.there (.there (.here _)))).drop
      have hw4 := ((hw3.pk (.there (.there (.here _)))).pk (.there (.there (.there (.here _))))).pk (.there (.here _))
      obtain ⟨fs2, k1, k2, k3⟩ := hw4.bunch_own Loc.cells_len hl.1
      refine ⟨fs2, .slice A2 (ws.length + 1) c2, k1, k2, ?_⟩
      rw [List.flatMap_append]
      exact (k3.pk (.there (.there (.here _)))).pk (.there (.there (.here _)))
    · refine js_eff (i := 6) (by rfl) (by rfl) (listed' := #[true, true, true, true, false, true, true, false, false, false, false]) (by rfl) (eff_buildSlice (by rfl) (fun w => by exact bsl28_1_0 ..)) (fun _ _ _ _ hw => cw_nil hw) (by rfl) rfl ?_
      rintro _ _ ⟨b23, rfl, rfl⟩
      refine da_now [7, 8, 9, 10] hap htm (i := 4) (by rfl) (by kernel_rfl) (by rfl) (listed' := #[true, true, true, true, true, true, true, false, false, false, false]) (by rfl) (by kernel_rfl) (by kernel_rfl) (opv_load (by rfl) na28 (rd_pk (by repeat (first | exact Pk.here _ | apply Pk.there))) (by rfl)) (by rfl) rfl ?_
      refine da_eff (i := 7) (by rfl) (by kernel_rfl) (by rfl) (listed' := #[true, true, true, true, true, true, true, true, false, false, false]) (by rfl) (eff_append_lit (by rfl) (by rfl) Try.underlying28 ti33 (by rfl) (by omega) (by repeat (first | exact Pk.here _ | apply Pk.there)) (rd_pk (by repeat (first | exact Pk.here _ | apply Pk.there))) (by rfl) (by rfl) (by unfold maxLen; omega) (by omega)) (fun _ _ _ _ hw => cw_nil hw) (by rfl) rfl ?_
      rintro wv2 _ ⟨rfl, _⟩
      refine ja_sv (by repeat (first | exact Pk.here _ | apply Pk.there)) (fun hsv2 => ?_)
      obtain ⟨A2, c2, rfl, _⟩ := hsv2
      refine da_any hap htm (i := 8) (by rfl) (by kernel_rfl) (by rfl) (listed' := #[true, true, true, true, true, true, true, true, true, false, false]) (by rfl) (fun _ => (opv_nilCheck (by rfl))) (by rfl) rfl ?_
      refine da_any hap htm (i := 9) (by rfl) (by kernel_rfl) (by rfl) (listed' := #[true, true, true, true, true, true, true, true, true, true, false]) (by rfl) (fun _ => (opv_fieldAddr (by rfl) fld48_1)) (by rfl) rfl ?_
      refine da_eff0 (i := 10) (by rfl) (by kernel_rfl) (by rfl) (listed' := #[true, true, true, true, true, true, true, true, true, true, true]) (by rfl) (eff_store (vs := [.slice A2 (ws.length + 1) c2]) (by rfl) (by rfl) (by rfl) ti28 (by rfl) (by repeat (first | exact Pk.here _ | apply Pk.there)) (by exact Nat.le_refl _) (by rfl)) (fun _ _ _ _ hw => cw_nil hw) (by rfl) ?_
      rintro _ _ ⟨rfl, rfl⟩
      refine da_done (by kernel_rfl) ?_
      refine jk_then ?_
      refine jc_seq ?_
      refine sc_region ?_
      refine so_pure (opv_assign (by rfl)) (by rfl) rfl ?_
      refine jo_nil ?_
      refine jk_then ?_
      refine jc_ret ?_
      refine jk_fn_ret rfl rfl (by rfl) (fun w hw => ?_)
      rw [if_neg (by rw [p9]; simp)]
      refine ⟨rfl, A', c', ?_⟩
      have hw2 := (hw.pk (.there (.there (.here _)))).drop
      have hw3 := (hw2.pk (.there (.there (.here _)))).drop
      have hw4 := ((hw3.pk (.there (.there (.here _)))).pk (.there (.there (.there (.here _))))).pk (.there (.here _))
      obtain ⟨fs2, k1, k2, k3⟩ := hw4.bunch_own Loc.cells_len hl.1
      refine ⟨fs2, .slice A2 (ws.length + 1) c2, k1, k2, ?_⟩
      rw [List.flatMap_append]
      exact (k3.pk (.there (.there (.here _)))).pk (.there (.there (.here _)))
end Go.Pins
