/- A part of a proof for the laws of the seat Ythkafociknhgaaa; it has no conditions of its own. -/
import Derived.Test.YthkafociknhgaaaDkW3
namespace Go.Disks
open Go Go.SL Go.Proofs
set_option maxHeartbeats 4000000 in
theorem live19_spec {w0 w : World} {M : Nat → Prop} {Fr : List Itm} {bb : Nat} {ps : List Nat} {ds : List DD} (hst : St w0 M (blk bb (.cells (ptrs ps).toArray 50 (0, 0)) :: grp (List.zipWith dkI ps ds) :: Fr) w) (hlp : ps.length = 12) (hld : ds.length = 12) : Does Try.prog 19 #[.pointer (some ⟨bb, 0, none⟩)] w (fun v w' => St w0 M (own v 3 1 (liveK ds 12).length ((liveK ds 12).flatMap ic) :: blk bb (.cells (ptrs ps).toArray 50 (0, 0)) :: grp (List.zipWith dkI ps ds) :: Fr) w') := by
  refine fn_bodyX (fn := Try.f19) Try.func19 rfl [(0, .pointer (some ⟨bb, 0, none⟩))] (by exact ⟨rfl, trivial⟩) rfl hst ?_
  refine jc_seq ?_
  refine sc_region ?_
  refine so_pure (opv_assign (by rfl)) (by rfl) rfl ?_
  refine jo_nil ?_
  refine jk_then ?_
  refine jc_seq ?_
  refine sc_region ?_
  refine so_pure (opv_assign (by rfl)) (by rfl) rfl ?_
  refine jo_nil ?_
  refine jk_then ?_
  refine jc_seq ?_
  refine jc_seq ?_
  refine sc_region ?_
  refine so_pure (opv_move (by rfl)) (by rfl) rfl ?_
  refine jo_nil ?_
  refine jk_then ?_
  refine jc_block ?_
  refine jc_loop (σ := Nat × Value) (fun (k, lv) => [(0, .pointer (some ⟨bb, 0, none⟩)), (3, lv), (5, .int .i64 k)]) (fun (k, lv) => (own lv 3 1 (liveK ds k).length ((liveK ds k).flatMap ic) :: blk bb (.cells (ptrs ps).toArray 50 (0, 0)) :: grp (List.zipWith dkI ps ds) :: Fr)) (fun (k, lv) => (k ≤ 12) ∧ (True)) (fun (k, lv) => 12 - k) (0, .slice none 0 0) ⟨Nat.zero_le _, trivial⟩ ⟨rfl, rfl, rfl, trivial⟩ (fun w hw => hw.own_nil 3 1) ?_
  rintro ⟨k, lv⟩ ⟨hk, ht⟩
  show Jc _ _ [(0, .pointer (some ⟨bb, 0, none⟩)), (3, lv), (5, .int .i64 k)] (own lv 3 1 (liveK ds k).length ((liveK ds k).flatMap ic) :: blk bb (.cells (ptrs ps).toArray 50 (0, 0)) :: grp (List.zipWith dkI ps ds) :: Fr) _
  refine jc_seq ?_
  refine sc_region ?_
  refine so_pure (opv_cmp (by rfl) (by rfl) (by rfl)) (by rfl) rfl ?_
  refine jo_nil ?_
  refine jk_then ?_
  refine jc_seq ?_
  refine sk_split (x := 6) (by rfl) (fun h5 => ?_) (fun h5 => ?_)
  · first | have p5 := of_decide_eq_true h5 | have p5 := of_decide_eq_false h5 | have p5 := ndT h5 | have p5 := ndF h5 | have p5 := nbT h5 | have p5 := nbF h5 | have p5 := h5
    refine sc_true (by rfl) h5 ?_
    refine jc_skip ?_
    refine jk_then ?_
    refine jc_seq ?_
    refine jc_block ?_
    refine jc_seq ?_
    refine sc_region ?_
    refine so_pure (opv_move (by rfl)) (by rfl) rfl ?_
    refine so_pure (opv_assign (by rfl)) (by rfl) rfl ?_
    refine jo_nil ?_
    refine jk_then ?_
    refine jc_seq ?_
    have hk12 : k < 12 := by omega
    have hlk := liveK_len ds k
    obtain ⟨db, hdb⟩ : ∃ db, ps[k]? = some db := ⟨ps[k], List.getElem?_eq_getElem (by omega)⟩
    obtain ⟨DQ, hD⟩ : ∃ D, ds[k]? = some D := ⟨ds[k], List.getElem?_eq_getElem (by omega)⟩
    refine jk_focus (d := k) (by repeat (first | exact Pk.here _ | apply Pk.there)) (zip_get hdb hD) ?_
    refine sc_region ?_
    refine so_pure (opv_move (by rfl)) (by rfl) rfl ?_
    refine so_pure (opv_move (by rfl)) (by rfl) rfl ?_
    refine so_eff (eff_call0 (fl := []) (cl := []) (G := fun v New => v = .bool true ∧ New = []) (by rfl) (by rfl) tx37 (by exact fun w1 hw1 => (number_spec w1 _ (k : Int)).mono (fun _ _ ⟨hv, hst⟩ => ⟨[], ⟨hv.trans (congrArg Value.bool (decide_eq_true (by omega))), rfl⟩, hst⟩))) (by rfl) rfl ?_
    rintro _ _ ⟨_, ⟨rfl, rfl⟩, rfl⟩
    refine so_pure (opv_move (by rfl)) (by rfl) rfl ?_
    refine so_pure (opv_move (by rfl)) (wtd_run rfl rfl (by rfl) rfl) rfl ?_
    refine so_pure (opv_move (by rfl)) (wtd_run rfl rfl (by rfl) rfl) rfl ?_
    refine so_pure (opv_nilCheck (by rfl)) (wtd_run rfl rfl (by rfl) rfl) rfl ?_
    refine so_pure (opv_fieldAddr (by rfl) fld50_0) (wtd_run rfl rfl (by rfl) rfl) rfl ?_
    refine so_pure (opv_indexAddr_arr (i := k) (by rfl) (by rfl) Try.underlying48 ti47 rfl (by omega)) (wtd_run rfl rfl (by rfl) rfl) rfl ?_
    rcases DQ with _ | D
    · skip
      refine so_pure (opv_load (by rfl) na47 (rd_pk (by repeat (first | exact Pk.here _ | apply Pk.there))) (by simpa using ptrs_get hdb)) (wtd_run rfl rfl (by rfl) rfl) rfl ?_
      refine so_pure (opv_nilCheck (by rfl)) (wtd_run rfl rfl (by rfl) rfl) rfl ?_
      refine so_pure (opv_fieldAddr (by rfl) fld57_2) (wtd_run rfl rfl (by rfl) rfl) rfl ?_
      refine so_pure (opv_load (v := .bool true) (by rfl) na4 (rd_pk (by first | exact Pk.there (Pk.here _) | (show Pk _ _ _; exact Pk.here _) | (repeat (first | exact Pk.here _ | apply Pk.there)))) (by rfl)) (wtd_run rfl rfl (by rfl) rfl) rfl ?_
      refine so_pure (opv_not (by rfl)) (wtd_run rfl rfl (by rfl) rfl) rfl ?_
      refine so_pure (sv_pick_t (by rfl) rfl (by rfl)) (by rfl) rfl ?_
      refine jo_nil ?_
      refine jk_then ?_
      refine sc_false (by rfl) rfl ?_
      refine jc_skip ?_
      refine jk_block ?_
      refine jk_then ?_
      refine sc_region ?_
      refine so_pure (opv_add (by rfl) (by rfl) (wrap64_ok (by omega))) (by rfl) rfl ?_
      refine so_pure (opv_move (by rfl)) (by rfl) rfl ?_
      refine jo_nil ?_
      refine jk_round (k + 1, lv) ⟨by omega, trivial⟩ (by show 12 - (k + 1) < 12 - k; omega) ⟨rfl, rfl, rfl, trivial⟩ (fun w hw => ?_)
      show St _ _ (own (lv) 3 1 (liveK ds (k + 1)).length ((liveK ds (k + 1)).flatMap ic) :: blk bb (.cells (ptrs ps).toArray 50 (0, 0)) :: grp (List.zipWith dkI ps ds) :: Fr) _
      rw [liveK_no hD]
      have hw3 := focus_same hdb hD (St.keep (Sb := [dkI db none, grp ((List.zipWith dkI ps ds).eraseIdx k)]) hw (by repeat (first | exact Pks.nil _ | exact Pk.here _ | apply Pk.there | apply Pks.cons)) (Tl.here _))
      exact St.keep (Sb := [own lv 3 1 (liveK ds k).length ((liveK ds k).flatMap ic), blk bb (.cells (ptrs ps).toArray 50 (0, 0)), grp (List.zipWith dkI ps ds)]) hw3 (by repeat (first | exact Pks.nil _ | exact Pk.here _ | apply Pk.there | apply Pks.cons)) (by repeat (first | exact Tl.here _ | apply Tl.there))
    · refine jk_dk_open (D := D) (by repeat (first | exact Pk.here _ | apply Pk.there)) (fun mb wv => ?_)
      refine so_pure (opv_load (by rfl) na47 (rd_pk (by repeat (first | exact Pk.here _ | apply Pk.there))) (by simpa using ptrs_get hdb)) (wtd_run rfl rfl (by rfl) rfl) rfl ?_
      refine so_pure (opv_nilCheck (by rfl)) (wtd_run rfl rfl (by rfl) rfl) rfl ?_
      refine so_pure (opv_fieldAddr (by rfl) fld57_2) (wtd_run rfl rfl (by rfl) rfl) rfl ?_
      refine so_pure (opv_load (v := .bool false) (by rfl) na4 (rd_pk (by first | exact Pk.there (Pk.here _) | (show Pk _ _ _; exact Pk.here _) | (repeat (first | exact Pk.here _ | apply Pk.there)))) (by rfl)) (wtd_run rfl rfl (by rfl) rfl) rfl ?_
      refine so_pure (opv_not (by rfl)) (wtd_run rfl rfl (by rfl) rfl) rfl ?_
      refine so_pure (sv_pick_t (by rfl) rfl (by rfl)) (by rfl) rfl ?_
      refine jo_nil ?_
      refine jk_then ?_
      refine sc_true (by rfl) rfl ?_
      refine sc_region ?_
      refine so_pure (opv_move (by rfl)) (by rfl) rfl ?_
      refine so_pure (opv_move (by rfl)) (by rfl) rfl ?_
      refine so_eff (eff_buildSlice (by rfl) (fun w => by exact bsl42_1_0 ..)) (by rfl) rfl ?_
      rintro _ _ ⟨b25, rfl, rfl⟩
      refine so_eff (eff_append_lit (by rfl) (by rfl) Try.underlying42 ti3 (by rfl) (by omega) (by repeat (first | exact Pk.here _ | apply Pk.there)) (rd_pk (by repeat (first | exact Pk.here _ | apply Pk.there))) (by rfl) (by rfl) (by unfold maxLen; omega) (by omega)) (by rfl) rfl ?_
      rintro nv _ ⟨rfl, _⟩
      refine so_pure (opv_assign (by rfl)) (by rfl) rfl ?_
      refine jo_nil ?_
      refine jk_block ?_
      refine jk_then ?_
      refine sc_region ?_
      refine so_pure (opv_add (by rfl) (by rfl) (wrap64_ok (by omega))) (by rfl) rfl ?_
      refine so_pure (opv_move (by rfl)) (by rfl) rfl ?_
      refine jo_nil ?_
      refine jk_round (k + 1, nv) ⟨by omega, trivial⟩ (by show 12 - (k + 1) < 12 - k; omega) ⟨rfl, rfl, rfl, trivial⟩ (fun w hw => ?_)
      show St _ _ (own (nv) 3 1 (liveK ds (k + 1)).length ((liveK ds (k + 1)).flatMap ic) :: blk bb (.cells (ptrs ps).toArray 50 (0, 0)) :: grp (List.zipWith dkI ps ds) :: Fr) _
      rw [liveK_yes hD, List.length_append, List.flatMap_append]
      have hw2 := (St.keep (Sb := [blk db (.cells #[.map (some mb), wv, .bool false] 57 (0, 0)), mapI kvI mb (mpS D.kp), own wv 59 2 D.ws.length (D.ws.flatMap Wr.cells)]) hw (by repeat (first | exact Pks.nil _ | exact Pk.here _ | apply Pk.there | apply Pks.cons)) (Tl.here _))
      have hw3 := focus_same hdb hD (St.keep (Sb := [dkI db (some D), grp ((List.zipWith dkI ps ds).eraseIdx k)]) (dk_mk hw2) (by repeat (first | exact Pks.nil _ | exact Pk.here _ | apply Pk.there | apply Pks.cons)) (Tl.here _))
      exact St.keep (Sb := [own nv 3 1 ((liveK ds k).length + 1) ((liveK ds k).flatMap ic ++ ic (k : Int)), blk bb (.cells (ptrs ps).toArray 50 (0, 0)), grp (List.zipWith dkI ps ds)]) hw3 (by repeat (first | exact Pks.nil _ | exact Pk.here _ | apply Pk.there | apply Pks.cons)) (by repeat (first | exact Tl.here _ | apply Tl.there))
  · first | have p5 := of_decide_eq_true h5 | have p5 := of_decide_eq_false h5 | have p5 := ndT h5 | have p5 := ndF h5 | have p5 := nbT h5 | have p5 := nbF h5 | have p5 := h5
    refine sc_false (by rfl) h5 ?_
    refine jc_exit ?_
    refine jk_then_exit ?_
    refine jk_then_exit ?_
    refine jk_block_exit ?_
    refine jk_then ?_
    refine jc_seq ?_
    refine sc_region ?_
    refine so_pure (opv_move (by rfl)) (by rfl) rfl ?_
    refine so_pure (opv_assign (by rfl)) (by rfl) rfl ?_
    refine jo_nil ?_
    refine jk_then ?_
    refine jc_ret ?_
    refine jk_fn_ret rfl rfl (by rfl) (fun w hw => ?_)
    have ek : k = 12 := by omega
    subst ek
    exact hw
set_option maxHeartbeats 4000000 in
theorem new_spec (w : World) : Does Try.prog 9 #[] w (fun v w' => ∃ bb ps, ps.length = 12 ∧ v = .pointer (some ⟨bb, 0, none⟩) ∧ St w Emp [blk bb (.cells (ptrs ps).toArray 50 (0, 0)), grp (List.zipWith dkI ps (new12 12))] w') := by
  refine fn_body (fn := Try.f9) Try.func9 rfl [] (by exact trivial) rfl (St.start w) ?_
  refine jc_seq ?_
  refine sc_region ?_
  refine so_pure (opv_assign (by rfl)) (by rfl) rfl ?_
  refine jo_nil ?_
  refine jk_then ?_
  refine jc_seq ?_
  refine sc_region ?_
  refine so_pure (opv_build (by rfl) (fun w => by exact bld50_ ..)) (by rfl) rfl ?_
  refine so_eff (eff_box (by rfl) rfl) (by rfl) rfl ?_
  rintro _ _ ⟨b4, rfl, rfl⟩
  refine so_pure (opv_assign (by rfl)) (by rfl) rfl ?_
  refine jo_nil ?_
  refine jk_then ?_
  refine jc_seq ?_
  refine jc_seq ?_
  refine sc_region ?_
  refine so_pure (opv_move (by rfl)) (by rfl) rfl ?_
  refine jo_nil ?_
  refine jk_then ?_
  refine jc_block ?_
  refine jc_loop (σ := List Nat) (fun ps => [(1, .pointer (some ⟨b4, 0, none⟩)), (5, .int .i64 ps.length)]) (fun ps => [blk b4 (.cells (ptrs ps ++ List.replicate (12 - ps.length) (Value.pointer none)).toArray 50 (0, 0)), grp (List.zipWith dkI ps (new12 ps.length))]) (fun ps => (ps.length ≤ 12) ∧ (True)) (fun ps => 12 - ps.length) ([] : List Nat) ⟨Nat.zero_le _, trivial⟩ ⟨rfl, rfl, trivial⟩ (fun w hw => St.sel (St.grp_mk (L := []) hw) (by repeat (first | exact Pks.nil _ | exact Pk.here _ | apply Pk.there | apply Pks.cons))) ?_
  rintro ps ⟨hl, ht⟩
  show Jc _ _ [(1, .pointer (some ⟨b4, 0, none⟩)), (5, .int .i64 ps.length)] [blk b4 (.cells (ptrs ps ++ List.replicate (12 - ps.length) (Value.pointer none)).toArray 50 (0, 0)), grp (List.zipWith dkI ps (new12 ps.length))] _
  refine jc_seq ?_
  refine sc_region ?_
  refine so_pure (opv_cmp (by rfl) (by rfl) (by rfl)) (by rfl) rfl ?_
  refine jo_nil ?_
  refine jk_then ?_
  refine jc_seq ?_
  refine sk_split (x := 6) (by rfl) (fun h5 => ?_) (fun h5 => ?_)
  · first | have p5 := of_decide_eq_true h5 | have p5 := of_decide_eq_false h5 | have p5 := ndT h5 | have p5 := ndF h5 | have p5 := nbT h5 | have p5 := nbF h5 | have p5 := h5
    refine sc_true (by rfl) h5 ?_
    refine jc_skip ?_
    refine jk_then ?_
    refine jc_seq ?_
    refine jc_block ?_
    refine jc_seq ?_
    refine sc_region ?_
    refine so_pure (opv_move (by rfl)) (by rfl) rfl ?_
    refine so_pure (opv_assign (by rfl)) (by rfl) rfl ?_
    refine jo_nil ?_
    refine jk_then ?_
    refine so_draw [] (by kernel_rfl) (by kernel_rfl) (by kernel_rfl) rfl (by rfl) (fun hap htm => ?_)
    refine da_any hap htm (i := 0) (by rfl) (by kernel_rfl) (by rfl) (listed' := #[true, false, false, false, false, false, false]) (by rfl) (fun _ => (opv_move (by rfl))) (by rfl) rfl ?_
    refine da_any hap htm (i := 1) (by rfl) (by kernel_rfl) (by rfl) (listed' := #[true, true, false, false, false, false, false]) (by rfl) (fun _ => (opv_move (by rfl))) (by rfl) rfl ?_
    refine da_any hap htm (i := 3) (by rfl) (by kernel_rfl) (by rfl) (listed' := #[true, true, false, true, false, false, false]) (by rfl) (fun _ => (opv_nilCheck (by rfl))) (by rfl) rfl ?_
    refine da_any hap htm (i := 4) (by rfl) (by kernel_rfl) (by rfl) (listed' := #[true, true, false, true, true, false, false]) (by rfl) (fun _ => (opv_fieldAddr (by rfl) fld50_0)) (by rfl) rfl ?_
    refine da_eff (i := 2) (by rfl) (by kernel_rfl) (by rfl) (listed' := #[true, true, true, true, true, false, false]) (by rfl) (eff_call0 (fl := []) (cl := []) (G := fun v New => ∃ db, v = .pointer (some ⟨db, 0, none⟩) ∧ New = [dkI db (some ⟨[], []⟩)]) (by rfl) (by rfl) tx26 (by exact fun w1 hw1 => (blank_spec w1).mono (fun _ _ ⟨db, hv, hst⟩ => ⟨_, ⟨db, hv, rfl⟩, hst⟩))) (fun _ _ _ _ hw => cw_nil hw) (by rfl) rfl ?_
    rintro _ _ ⟨_, ⟨b12, rfl, rfl⟩, rfl⟩
    refine da_any hap htm (i := 5) (by rfl) (by kernel_rfl) (by rfl) (listed' := #[true, true, true, true, true, true, false]) (by rfl) (fun _ => (opv_indexAddr_arr (i := ps.length) (by rfl) (by rfl) Try.underlying48 ti47 rfl (by omega))) (by rfl) rfl ?_
    refine da_eff0 (i := 6) (by rfl) (by kernel_rfl) (by rfl) (listed' := #[true, true, true, true, true, true, true]) (by rfl) (eff_store (off := 0 + ps.length * 1) (vs := [.pointer (some ⟨b12, 0, none⟩)]) (by rfl) (by rfl) (by rfl) ti47 (by rfl) (by repeat (first | exact Pk.here _ | apply Pk.there)) (by unfold ptrs; simp; omega) (by rfl)) (fun _ _ _ _ hw => cw_nil hw) (by rfl) ?_
    rintro _ _ ⟨rfl, rfl⟩
    refine da_done (by kernel_rfl) ?_
    refine jk_block ?_
    refine jk_then ?_
    refine sc_region ?_
    refine so_pure (opv_add (by rfl) (by rfl) (wrap64_ok (by omega))) (by rfl) rfl ?_
    refine so_pure (opv_move (by rfl)) (by rfl) rfl ?_
    refine jo_nil ?_
    obtain ⟨m, hm⟩ : ∃ m, 12 - ps.length = m + 1 := ⟨11 - ps.length, by omega⟩
    have e2 : 12 - (ps ++ [b12]).length = m := by simp; omega
    have e3 : (ps ++ [b12]).length = ps.length + 1 := by simp
    refine jk_round (ps ++ [b12]) ⟨by rw [e3]; omega, trivial⟩ (by show 12 - (ps ++ [b12]).length < 12 - ps.length; (rw [e3]; omega)) ⟨rfl, by rw [e3]; rfl, trivial⟩ (fun w hw => ?_)
    show St _ _ [blk b4 (.cells (ptrs (ps ++ [b12]) ++ List.replicate (12 - (ps ++ [b12]).length) (Value.pointer none)).toArray 50 (0, 0)), grp (List.zipWith dkI (ps ++ [b12]) (new12 (ps ++ [b12]).length))] _
    rw [e2, ← new_cells, e3, new12_succ, zip_snoc (by rw [new12_len])]
    rw [hm] at hw
    have hw2 := (St.keep (Sb := [dkI b12 (some ⟨[], []⟩), grp (List.zipWith dkI ps (new12 ps.length))]) hw (by repeat (first | exact Pks.nil _ | exact Pk.here _ | apply Pk.there | apply Pks.cons)) (Tl.here _))
    exact St.sel (grp_snoc hw2) (by repeat (first | exact Pks.nil _ | exact Pk.here _ | apply Pk.there | apply Pks.cons))
  · first | have p5 := of_decide_eq_true h5 | have p5 := of_decide_eq_false h5 | have p5 := ndT h5 | have p5 := ndF h5 | have p5 := nbT h5 | have p5 := nbF h5 | have p5 := h5
    refine sc_false (by rfl) h5 ?_
    refine jc_exit ?_
    refine jk_then_exit ?_
    refine jk_then_exit ?_
    refine jk_block_exit ?_
    refine jk_then ?_
    refine jc_seq ?_
    refine sc_region ?_
    refine so_pure (opv_move (by rfl)) (by rfl) rfl ?_
    refine so_pure (opv_assign (by rfl)) (by rfl) rfl ?_
    refine jo_nil ?_
    refine jk_then ?_
    refine jc_ret ?_
    refine jk_fn_ret rfl rfl (by rfl) (fun w hw => ?_)
    have el : ps.length = 12 := by omega
    rw [el] at hw
    refine ⟨b4, ps, el, rfl, ?_⟩
    have : ptrs ps ++ List.replicate (12 - 12) (Value.pointer none) = ptrs ps := List.append_nil _
    rw [this] at hw
    exact St.sel hw (by repeat (first | exact Pks.nil _ | exact Pk.here _ | apply Pk.there | apply Pks.cons))
end Go.Disks
