/- A part of a proof for the laws of the seat Ythkafociknhgaaa; it has no conditions of its own. -/
import Derived.Test.YthkafociknhgaaaDkW2
namespace Go.Disks
open Go Go.SL Go.Proofs
set_option maxHeartbeats 4000000 in
theorem waits_spec {w0 w : World} {M : Nat → Prop} {Fr : List Itm} {bb : Nat} {ps : List Nat} {ds : List DD} (d : Int) (hst : St w0 M (blk bb (.cells (ptrs ps).toArray 50 (0, 0)) :: grp (List.zipWith dkI ps ds) :: Fr) w) (hlp : ps.length = 12) (hld : ds.length = 12) : Does Try.prog 15 #[.pointer (some ⟨bb, 0, none⟩), .int .i64 d] w (fun v w' => v = .int .i64 (waitsD ds d) ∧ St w0 M (blk bb (.cells (ptrs ps).toArray 50 (0, 0)) :: grp (List.zipWith dkI ps ds) :: Fr) w') := by
  refine fn_bodyX (fn := Try.f15) Try.func15 rfl [(0, .pointer (some ⟨bb, 0, none⟩)), (1, .int .i64 d)] (by exact ⟨rfl, rfl, trivial⟩) rfl hst ?_
  refine jc_seq ?_
  refine sc_region ?_
  refine so_pure (opv_assign (by rfl)) (by rfl) rfl ?_
  refine jo_nil ?_
  refine jk_then ?_
  refine jc_seq ?_
  refine jc_seq ?_
  refine sc_region ?_
  refine so_pure (opv_move (by rfl)) (by rfl) rfl ?_
  refine so_pure (opv_move (by rfl)) (by rfl) rfl ?_
  refine so_eff (eff_call0 (fl := []) (cl := []) (G := fun v New => v = .bool (decide (0 ≤ d ∧ d < 12)) ∧ New = []) (by rfl) (by rfl) tx37 (by exact fun w1 hw1 => (number_spec w1 _ d).mono (fun _ _ ⟨hv, hst⟩ => ⟨[], ⟨hv, rfl⟩, hst⟩))) (by rfl) rfl ?_
  rintro _ _ ⟨_, ⟨rfl, rfl⟩, rfl⟩
  refine so_pure (opv_not (by rfl)) (by rfl) rfl ?_
  refine jo_nil ?_
  refine jk_then ?_
  refine sk_split (x := 8) (by rfl) (fun h4 => ?_) (fun h4 => ?_)
  · first | have p4 := of_decide_eq_true h4 | have p4 := of_decide_eq_false h4 | have p4 := ndT h4 | have p4 := ndF h4 | have p4 := nbT h4 | have p4 := nbF h4 | have p4 := h4
    refine sc_true (by rfl) (not_t (nbT h4)) ?_
    refine jc_seq ?_
    refine sc_region ?_
    refine so_pure (opv_assign (by rfl)) (by rfl) rfl ?_
    refine jo_nil ?_
    refine jk_then ?_
    refine jc_ret ?_
    refine jk_then_ret ?_
    refine jk_fn_ret rfl rfl (by rfl) (fun w hw => ?_)
    have hn : ¬ inR d := by simpa [inR] using p4
    refine ⟨by unfold waitsD; rw [if_neg hn]; rfl, hw⟩
  · first | have p4 := of_decide_eq_true h4 | have p4 := of_decide_eq_false h4 | have p4 := ndT h4 | have p4 := ndF h4 | have p4 := nbT h4 | have p4 := nbF h4 | have p4 := h4
    refine sc_false (by rfl) (not_f (nbF h4)) ?_
    refine jc_skip ?_
    refine jk_then ?_
    refine jc_seq ?_
    have hd12 : 0 ≤ d ∧ d < 12 := by simpa using p4
    obtain ⟨k, rfl⟩ : ∃ k : Nat, d = k := ⟨d.toNat, by omega⟩
    have hk12 : k < 12 := by omega
    obtain ⟨db, hdb⟩ : ∃ db, ps[k]? = some db := ⟨ps[k], List.getElem?_eq_getElem (by omega)⟩
    obtain ⟨DQ, hD⟩ : ∃ D, ds[k]? = some D := ⟨ds[k], List.getElem?_eq_getElem (by omega)⟩
    refine jk_focus (d := k) (by repeat (first | exact Pk.here _ | apply Pk.there)) (zip_get hdb hD) ?_
    refine sc_region ?_
    refine so_pure (opv_move (by rfl)) (by rfl) rfl ?_
    refine so_pure (opv_move (by rfl)) (by rfl) rfl ?_
    refine so_pure (opv_nilCheck (by rfl)) (by rfl) rfl ?_
    refine so_pure (opv_fieldAddr (by rfl) fld50_0) (by rfl) rfl ?_
    refine so_pure (opv_indexAddr_arr (i := k) (by rfl) (by rfl) Try.underlying48 ti47 rfl (by omega)) (by rfl) rfl ?_
    refine so_pure (opv_load (by rfl) na47 (rd_pk (by repeat (first | exact Pk.here _ | apply Pk.there))) (by simpa using ptrs_get hdb)) (by rfl) rfl ?_
    rcases DQ with _ | D
    · skip
      refine so_pure (opv_nilCheck (by rfl)) (by rfl) rfl ?_
      refine so_pure (opv_fieldAddr (by rfl) fld57_1) (by rfl) rfl ?_
      refine so_pure (opv_load (v := .slice none 0 0) (by rfl) na54 (rd_pk (by first | exact Pk.there (Pk.here _) | (show Pk _ _ _; exact Pk.here _) | (repeat (first | exact Pk.here _ | apply Pk.there)))) (by rfl)) (by rfl) rfl ?_
      refine so_pure (opv_len_slice (n := 0) (by rfl) Try.underlying54) (by rfl) rfl ?_
      refine so_pure (opv_assign (by rfl)) (by rfl) rfl ?_
      refine jo_nil ?_
      refine jk_then ?_
      refine jc_ret ?_
      refine jk_fn_ret rfl rfl (by rfl) (fun w hw => ?_)
      have hn : inR (k : Int) := by unfold inR; omega
      have hw3 := focus_same hdb hD (St.keep (Sb := [dkI db none, grp ((List.zipWith dkI ps ds).eraseIdx k)]) hw (by repeat (first | exact Pks.nil _ | exact Pk.here _ | apply Pk.there | apply Pks.cons)) (Tl.here _))
      exact ⟨by unfold waitsD; rw [if_pos hn, Int.toNat_natCast, hD] <;> rfl, St.keep (Sb := [blk bb (.cells (ptrs ps).toArray 50 (0, 0)), grp (List.zipWith dkI ps ds)]) hw3 (by repeat (first | exact Pks.nil _ | exact Pk.here _ | apply Pk.there | apply Pks.cons)) (by repeat (first | exact Tl.here _ | apply Tl.there))⟩
    · refine jk_dk_open (D := D) (by repeat (first | exact Pk.here _ | apply Pk.there)) (fun mb wv => ?_)
      refine so_pure (opv_nilCheck (by rfl)) (by rfl) rfl ?_
      refine so_pure (opv_fieldAddr (by rfl) fld57_1) (by rfl) rfl ?_
      refine so_pure (opv_load (v := wv) (by rfl) na54 (rd_pk (by first | exact Pk.there (Pk.here _) | (show Pk _ _ _; exact Pk.here _) | (repeat (first | exact Pk.here _ | apply Pk.there)))) (by rfl)) (by rfl) rfl ?_
      refine so_pure (opv_len_own (v := wv) (by rfl) Try.underlying54 (by repeat (first | exact Pk.here _ | apply Pk.there))) (by rfl) rfl ?_
      refine so_pure (opv_assign (by rfl)) (by rfl) rfl ?_
      refine jo_nil ?_
      refine jk_then ?_
      refine jc_ret ?_
      refine jk_fn_ret rfl rfl (by rfl) (fun w hw => ?_)
      have hn : inR (k : Int) := by unfold inR; omega
      have hw2 := (St.keep (Sb := [blk db (.cells #[.map (some mb), wv, .bool false] 57 (0, 0)), mapI kvI mb (mpS D.kp), own wv 59 2 D.ws.length (D.ws.flatMap Wr.cells)]) hw (by repeat (first | exact Pks.nil _ | exact Pk.here _ | apply Pk.there | apply Pks.cons)) (Tl.here _))
      have hw3 := focus_same hdb hD (St.keep (Sb := [dkI db (some D), grp ((List.zipWith dkI ps ds).eraseIdx k)]) (dk_mk hw2) (by repeat (first | exact Pks.nil _ | exact Pk.here _ | apply Pk.there | apply Pks.cons)) (Tl.here _))
      exact ⟨by unfold waitsD; rw [if_pos hn, Int.toNat_natCast, hD], St.keep (Sb := [blk bb (.cells (ptrs ps).toArray 50 (0, 0)), grp (List.zipWith dkI ps ds)]) hw3 (by repeat (first | exact Pks.nil _ | exact Pk.here _ | apply Pk.there | apply Pks.cons)) (by repeat (first | exact Tl.here _ | apply Tl.there))⟩
set_option maxHeartbeats 4000000 in
theorem lose_spec {w0 w : World} {M : Nat → Prop} {Fr : List Itm} {bb : Nat} {ps : List Nat} {ds : List DD} (d : Int) (hst : St w0 M (blk bb (.cells (ptrs ps).toArray 50 (0, 0)) :: grp (List.zipWith dkI ps ds) :: Fr) w) (hlp : ps.length = 12) (hld : ds.length = 12) : Does Try.prog 24 #[.pointer (some ⟨bb, 0, none⟩), .int .i64 d] w (fun v w' => ∃ ps', ps'.length = 12 ∧ v = .int .i64 (if inR d then 0 else 1) ∧ St w0 M (blk bb (.cells (ptrs ps').toArray 50 (0, 0)) :: grp (List.zipWith dkI ps' (putD ds d none)) :: Fr) w') := by
  refine fn_bodyX (fn := Try.f24) Try.func24 rfl [(0, .pointer (some ⟨bb, 0, none⟩)), (1, .int .i64 d)] (by exact ⟨rfl, rfl, trivial⟩) rfl hst ?_
  refine jc_seq ?_
  refine sc_region ?_
  refine so_pure (opv_assign (by rfl)) (by rfl) rfl ?_
  refine jo_nil ?_
  refine jk_then ?_
  refine jc_seq ?_
  refine jc_seq ?_
  refine sc_region ?_
  refine so_pure (opv_move (by rfl)) (by rfl) rfl ?_
  refine so_pure (opv_move (by rfl)) (by rfl) rfl ?_
  refine so_eff (eff_call0 (fl := []) (cl := []) (G := fun v New => v = .bool (decide (0 ≤ d ∧ d < 12)) ∧ New = []) (by rfl) (by rfl) tx37 (by exact fun w1 hw1 => (number_spec w1 _ d).mono (fun _ _ ⟨hv, hst⟩ => ⟨[], ⟨hv, rfl⟩, hst⟩))) (by rfl) rfl ?_
  rintro _ _ ⟨_, ⟨rfl, rfl⟩, rfl⟩
  refine so_pure (opv_not (by rfl)) (by rfl) rfl ?_
  refine jo_nil ?_
  refine jk_then ?_
  refine sk_split (x := 8) (by rfl) (fun h4 => ?_) (fun h4 => ?_)
  · first | have p4 := of_decide_eq_true h4 | have p4 := of_decide_eq_false h4 | have p4 := ndT h4 | have p4 := ndF h4 | have p4 := nbT h4 | have p4 := nbF h4 | have p4 := h4
    refine sc_true (by rfl) (not_t (nbT h4)) ?_
    refine jc_seq ?_
    refine sc_region ?_
    refine so_pure (opv_assign (by rfl)) (by rfl) rfl ?_
    refine jo_nil ?_
    refine jk_then ?_
    refine jc_ret ?_
    refine jk_then_ret ?_
    refine jk_fn_ret rfl rfl (by rfl) (fun w hw => ?_)
    have hn : ¬ inR d := by simpa [inR] using p4
    refine ⟨ps, hlp, by rw [if_neg hn], ?_⟩
    unfold putD
    rw [if_neg hn]
    exact hw
  · first | have p4 := of_decide_eq_true h4 | have p4 := of_decide_eq_false h4 | have p4 := ndT h4 | have p4 := ndF h4 | have p4 := nbT h4 | have p4 := nbF h4 | have p4 := h4
    refine sc_false (by rfl) (not_f (nbF h4)) ?_
    refine jc_skip ?_
    refine jk_then ?_
    refine jc_seq ?_
    have hd12 : 0 ≤ d ∧ d < 12 := by simpa using p4
    obtain ⟨k, rfl⟩ : ∃ k : Nat, d = k := ⟨d.toNat, by omega⟩
    have hk12 : k < 12 := by omega
    obtain ⟨db, hdb⟩ : ∃ db, ps[k]? = some db := ⟨ps[k], List.getElem?_eq_getElem (by omega)⟩
    obtain ⟨DQ, hD⟩ : ∃ D, ds[k]? = some D := ⟨ds[k], List.getElem?_eq_getElem (by omega)⟩
    refine jk_focus (d := k) (by repeat (first | exact Pk.here _ | apply Pk.there)) (zip_get hdb hD) ?_
    refine sc_region ?_
    refine so_pure (opv_move (by rfl)) (by rfl) rfl ?_
    refine so_pure (opv_move (by rfl)) (by rfl) rfl ?_
    refine so_pure (opv_build (by rfl) (fun w => by exact bld57_2 ..)) (by rfl) rfl ?_
    refine so_eff (eff_box (by rfl) rfl) (by rfl) rfl ?_
    rintro _ _ ⟨b12, rfl, rfl⟩
    refine so_pure (opv_nilCheck (by rfl)) (by rfl) rfl ?_
    refine so_pure (opv_fieldAddr (by rfl) fld50_0) (by rfl) rfl ?_
    refine so_pure (opv_indexAddr_arr (i := k) (by rfl) (by rfl) Try.underlying48 ti47 rfl (by omega)) (by rfl) rfl ?_
    refine so_eff0 (eff_store (off := 0 + k * 1) (vs := [.pointer (some ⟨b12, 0, none⟩)]) (by rfl) (by rfl) (by rfl) ti47 (by rfl) (by repeat (first | exact Pk.here _ | apply Pk.there)) (by unfold ptrs; simp; omega) (by rfl)) (by rfl) ?_
    rintro _ _ ⟨rfl, rfl⟩
    refine jo_nil ?_
    refine jk_then ?_
    refine jc_seq ?_
    refine sc_region ?_
    refine so_pure (opv_assign (by rfl)) (by rfl) rfl ?_
    refine jo_nil ?_
    refine jk_then ?_
    refine jc_ret ?_
    refine jk_fn_ret rfl rfl (by rfl) (fun w hw => ?_)
    have hn : inR (k : Int) := by unfold inR; omega
    refine ⟨ps.set k b12, by rw [List.length_set]; exact hlp, by rw [if_pos hn], ?_⟩
    unfold putD
    rw [if_pos hn, Int.toNat_natCast, ← ptrs_put (by omega)]
    have hw2 := (St.keep (Sb := [dkI b12 none, grp ((List.zipWith dkI ps ds).eraseIdx k)]) hw (by repeat (first | exact Pks.nil _ | exact Pk.here _ | apply Pk.there | apply Pks.cons)) (Tl.here _))
    have hw3 := focus_new (by omega) (by omega) hw2
    exact St.keep (Sb := [blk bb (.cells (putCells (ptrs ps).toArray (0 + k * 1) [.pointer (some ⟨b12, 0, none⟩)]) 50 (0, 0)), grp (List.zipWith dkI (ps.set k b12) (ds.set k none))]) hw3 (by repeat (first | exact Pks.nil _ | exact Pk.here _ | apply Pk.there | apply Pks.cons)) (by repeat (first | exact Tl.here _ | apply Tl.there))
set_option maxHeartbeats 4000000 in
theorem replace_spec {w0 w : World} {M : Nat → Prop} {Fr : List Itm} {bb : Nat} {ps : List Nat} {ds : List DD} (d : Int) (hst : St w0 M (blk bb (.cells (ptrs ps).toArray 50 (0, 0)) :: grp (List.zipWith dkI ps ds) :: Fr) w) (hlp : ps.length = 12) (hld : ds.length = 12) : Does Try.prog 25 #[.pointer (some ⟨bb, 0, none⟩), .int .i64 d] w (fun v w' => ∃ ps', ps'.length = 12 ∧ v = .int .i64 (if inR d then 0 else 1) ∧ St w0 M (blk bb (.cells (ptrs ps').toArray 50 (0, 0)) :: grp (List.zipWith dkI ps' (putD ds d (some ⟨[], []⟩))) :: Fr) w') := by
  refine fn_bodyX (fn := Try.f25) Try.func25 rfl [(0, .pointer (some ⟨bb, 0, none⟩)), (1, .int .i64 d)] (by exact ⟨rfl, rfl, trivial⟩) rfl hst ?_
  refine jc_seq ?_
  refine sc_region ?_
  refine so_pure (opv_assign (by rfl)) (by rfl) rfl ?_
  refine jo_nil ?_
  refine jk_then ?_
  refine jc_seq ?_
  refine jc_seq ?_
  refine sc_region ?_
  refine so_pure (opv_move (by rfl)) (by rfl) rfl ?_
  refine so_pure (opv_move (by rfl)) (by rfl) rfl ?_
  refine so_eff (eff_call0 (fl := []) (cl := []) (G := fun v New => v = .bool (decide (0 ≤ d ∧ d < 12)) ∧ New = []) (by rfl) (by rfl) tx37 (by exact fun w1 hw1 => (number_spec w1 _ d).mono (fun _ _ ⟨hv, hst⟩ => ⟨[], ⟨hv, rfl⟩, hst⟩))) (by rfl) rfl ?_
  rintro _ _ ⟨_, ⟨rfl, rfl⟩, rfl⟩
  refine so_pure (opv_not (by rfl)) (by rfl) rfl ?_
  refine jo_nil ?_
  refine jk_then ?_
  refine sk_split (x := 8) (by rfl) (fun h4 => ?_) (fun h4 => ?_)
  · first | have p4 := of_decide_eq_true h4 | have p4 := of_decide_eq_false h4 | have p4 := ndT h4 | have p4 := ndF h4 | have p4 := nbT h4 | have p4 := nbF h4 | have p4 := h4
    refine sc_true (by rfl) (not_t (nbT h4)) ?_
    refine jc_seq ?_
    refine sc_region ?_
    refine so_pure (opv_assign (by rfl)) (by rfl) rfl ?_
    refine jo_nil ?_
    refine jk_then ?_
    refine jc_ret ?_
    refine jk_then_ret ?_
    refine jk_fn_ret rfl rfl (by rfl) (fun w hw => ?_)
    have hn : ¬ inR d := by simpa [inR] using p4
    refine ⟨ps, hlp, by rw [if_neg hn], ?_⟩
    unfold putD
    rw [if_neg hn]
    exact hw
  · first | have p4 := of_decide_eq_true h4 | have p4 := of_decide_eq_false h4 | have p4 := ndT h4 | have p4 := ndF h4 | have p4 := nbT h4 | have p4 := nbF h4 | have p4 := h4
    refine sc_false (by rfl) (not_f (nbF h4)) ?_
    refine jc_skip ?_
    refine jk_then ?_
    refine jc_seq ?_
    have hd12 : 0 ≤ d ∧ d < 12 := by simpa using p4
    obtain ⟨k, rfl⟩ : ∃ k : Nat, d = k := ⟨d.toNat, by omega⟩
    have hk12 : k < 12 := by omega
    obtain ⟨db, hdb⟩ : ∃ db, ps[k]? = some db := ⟨ps[k], List.getElem?_eq_getElem (by omega)⟩
    obtain ⟨DQ, hD⟩ : ∃ D, ds[k]? = some D := ⟨ds[k], List.getElem?_eq_getElem (by omega)⟩
    refine jk_focus (d := k) (by repeat (first | exact Pk.here _ | apply Pk.there)) (zip_get hdb hD) ?_
    refine so_draw [] (by kernel_rfl) (by kernel_rfl) (by kernel_rfl) rfl (by rfl) (fun hap htm => ?_)
    refine da_any hap htm (i := 0) (by rfl) (by kernel_rfl) (by rfl) (listed' := #[true, false, false, false, false, false, false]) (by rfl) (fun _ => (opv_move (by rfl))) (by rfl) rfl ?_
    refine da_any hap htm (i := 1) (by rfl) (by kernel_rfl) (by rfl) (listed' := #[true, true, false, false, false, false, false]) (by rfl) (fun _ => (opv_move (by rfl))) (by rfl) rfl ?_
    refine da_any hap htm (i := 3) (by rfl) (by kernel_rfl) (by rfl) (listed' := #[true, true, false, true, false, false, false]) (by rfl) (fun _ => (opv_nilCheck (by rfl))) (by rfl) rfl ?_
    refine da_any hap htm (i := 4) (by rfl) (by kernel_rfl) (by rfl) (listed' := #[true, true, false, true, true, false, false]) (by rfl) (fun _ => (opv_fieldAddr (by rfl) fld50_0)) (by rfl) rfl ?_
    refine da_eff (i := 2) (by rfl) (by kernel_rfl) (by rfl) (listed' := #[true, true, true, true, true, false, false]) (by rfl) (eff_call0 (fl := []) (cl := []) (G := fun v New => ∃ db, v = .pointer (some ⟨db, 0, none⟩) ∧ New = [dkI db (some ⟨[], []⟩)]) (by rfl) (by rfl) tx26 (by exact fun w1 hw1 => (blank_spec w1).mono (fun _ _ ⟨db, hv, hst⟩ => ⟨_, ⟨db, hv, rfl⟩, hst⟩))) (fun _ _ _ _ hw => cw_nil hw) (by rfl) rfl ?_
    rintro _ _ ⟨_, ⟨b12, rfl, rfl⟩, rfl⟩
    refine da_any hap htm (i := 5) (by rfl) (by kernel_rfl) (by rfl) (listed' := #[true, true, true, true, true, true, false]) (by rfl) (fun _ => (opv_indexAddr_arr (i := k) (by rfl) (by rfl) Try.underlying48 ti47 rfl (by omega))) (by rfl) rfl ?_
    refine da_eff0 (i := 6) (by rfl) (by kernel_rfl) (by rfl) (listed' := #[true, true, true, true, true, true, true]) (by rfl) (eff_store (off := 0 + k * 1) (vs := [.pointer (some ⟨b12, 0, none⟩)]) (by rfl) (by rfl) (by rfl) ti47 (by rfl) (by repeat (first | exact Pk.here _ | apply Pk.there)) (by unfold ptrs; simp; omega) (by rfl)) (fun _ _ _ _ hw => cw_nil hw) (by rfl) ?_
    rintro _ _ ⟨rfl, rfl⟩
    refine da_done (by kernel_rfl) ?_
    refine jk_then ?_
    refine jc_seq ?_
    refine sc_region ?_
    refine so_pure (opv_assign (by rfl)) (by rfl) rfl ?_
    refine jo_nil ?_
    refine jk_then ?_
    refine jc_ret ?_
    refine jk_fn_ret rfl rfl (by rfl) (fun w hw => ?_)
    have hn : inR (k : Int) := by unfold inR; omega
    refine ⟨ps.set k b12, by rw [List.length_set]; exact hlp, by rw [if_pos hn], ?_⟩
    unfold putD
    rw [if_pos hn, Int.toNat_natCast, ← ptrs_put (by omega)]
    have hw2 := (St.keep (Sb := [dkI b12 (some ⟨[], []⟩), grp ((List.zipWith dkI ps ds).eraseIdx k)]) hw (by repeat (first | exact Pks.nil _ | exact Pk.here _ | apply Pk.there | apply Pks.cons)) (Tl.here _))
    have hw3 := focus_new (by omega) (by omega) hw2
    exact St.keep (Sb := [blk bb (.cells (putCells (ptrs ps).toArray (0 + k * 1) [.pointer (some ⟨b12, 0, none⟩)]) 50 (0, 0)), grp (List.zipWith dkI (ps.set k b12) (ds.set k (some ⟨[], []⟩)))]) hw3 (by repeat (first | exact Pks.nil _ | exact Pk.here _ | apply Pk.there | apply Pks.cons)) (by repeat (first | exact Tl.here _ | apply Tl.there))
end Go.Disks
