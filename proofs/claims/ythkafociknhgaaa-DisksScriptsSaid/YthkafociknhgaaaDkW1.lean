/- A part of a proof for the laws of the seat Ythkafociknhgaaa; it has no conditions of its own. -/
import Derived.Test.YthkafociknhgaaaDkFacts
namespace Go.Disks
open Go Go.SL Go.Proofs
set_option maxHeartbeats 4000000 in
theorem number_spec (w : World) (a : Addr) (d : Int) : Does Try.prog 37 #[.pointer (some a), .int .i64 d] w (fun v w' => v = .bool (decide (0 ≤ d ∧ d < 12)) ∧ St w Emp [] w') := by
  refine fn_body (fn := Try.f37) Try.func37 rfl [(0, .pointer (some a)), (1, .int .i64 d)] (by exact ⟨rfl, rfl, trivial⟩) rfl (St.start w) ?_
  refine jc_seq ?_
  refine sc_region ?_
  refine so_pure (opv_assign (by rfl)) (by rfl) rfl ?_
  refine jo_nil ?_
  refine jk_then ?_
  refine jc_seq ?_
  refine sc_region ?_
  refine so_pure (opv_move (by rfl)) (by rfl) rfl ?_
  refine so_pure (opv_ptr_nnil (by rfl) (by rfl) Try.underlying25) (by rfl) rfl ?_
  refine so_pure (opv_move (by rfl)) (by rfl) rfl ?_
  refine so_pure (opv_move (by rfl)) (wtd_run rfl rfl (by rfl) rfl) rfl ?_
  refine so_pure (opv_cmp (by rfl) (by rfl) (by rfl)) (wtd_run rfl rfl (by rfl) rfl) rfl ?_
  refine so_pure (sv_pick_t (by rfl) rfl (by rfl)) (by rfl) rfl ?_
  refine so_pure (opv_move (by rfl)) (by rfl) rfl ?_
  refine sk_split (x := 11) (by rfl) (fun h3 => ?_) (fun h3 => ?_)
  · first | have p3 := of_decide_eq_true h3 | have p3 := of_decide_eq_false h3 | have p3 := ndT h3 | have p3 := ndF h3 | have p3 := nbT h3 | have p3 := nbF h3 | have p3 := h3
    refine so_pure (opv_move (by rfl)) (wtd_run rfl rfl (by rfl) h3) rfl ?_
    refine so_pure (opv_cmp (by rfl) (by rfl) (by rfl)) (wtd_run rfl rfl (by rfl) h3) rfl ?_
    refine so_pure (sv_pick_t (by rfl) h3 (by rfl)) (by rfl) rfl ?_
    refine so_pure (opv_assign (by rfl)) (by rfl) rfl ?_
    refine jo_nil ?_
    refine jk_then ?_
    refine jc_ret ?_
    refine jk_fn_ret rfl rfl (by rfl) (fun w hw => ?_)
    refine ⟨?_, hw.forget⟩
    have := p3
    simp <;> omega
  · first | have p3 := of_decide_eq_true h3 | have p3 := of_decide_eq_false h3 | have p3 := ndT h3 | have p3 := ndF h3 | have p3 := nbT h3 | have p3 := nbF h3 | have p3 := h3
    refine so_skip (wtd_not rfl rfl (by rfl) h3) rfl ?_
    refine so_skip (wtd_not rfl rfl (by rfl) h3) rfl ?_
    refine so_pure (sv_pick_f (by rfl) h3 (by rfl)) (by rfl) rfl ?_
    refine so_pure (opv_assign (by rfl)) (by rfl) rfl ?_
    refine jo_nil ?_
    refine jk_then ?_
    refine jc_ret ?_
    refine jk_fn_ret rfl rfl (by rfl) (fun w hw => ?_)
    refine ⟨?_, hw.forget⟩
    have := p3
    simp <;> omega
set_option maxHeartbeats 4000000 in
theorem number_nil (w : World) (d : Int) : Does Try.prog 37 #[.pointer none, .int .i64 d] w (fun v w' => v = .bool false ∧ St w Emp [] w') := by
  refine fn_body (fn := Try.f37) Try.func37 rfl [(0, .pointer none), (1, .int .i64 d)] (by exact ⟨rfl, rfl, trivial⟩) rfl (St.start w) ?_
  refine jc_seq ?_
  refine sc_region ?_
  refine so_pure (opv_assign (by rfl)) (by rfl) rfl ?_
  refine jo_nil ?_
  refine jk_then ?_
  refine jc_seq ?_
  refine sc_region ?_
  refine so_pure (opv_move (by rfl)) (by rfl) rfl ?_
  refine so_pure (opv_ptr_nnil (by rfl) (by rfl) Try.underlying25) (by rfl) rfl ?_
  refine so_pure (opv_move (by rfl)) (by rfl) rfl ?_
  refine so_skip (wtd_not rfl rfl (by rfl) rfl) rfl ?_
  refine so_skip (wtd_not rfl rfl (by rfl) rfl) rfl ?_
  refine so_pure (sv_pick_f (by rfl) rfl (by rfl)) (by rfl) rfl ?_
  refine so_pure (opv_move (by rfl)) (by rfl) rfl ?_
  refine so_skip (wtd_not rfl rfl (by rfl) rfl) rfl ?_
  refine so_skip (wtd_not rfl rfl (by rfl) rfl) rfl ?_
  refine so_pure (sv_pick_f (by rfl) rfl (by rfl)) (by rfl) rfl ?_
  refine so_pure (opv_assign (by rfl)) (by rfl) rfl ?_
  refine jo_nil ?_
  refine jk_then ?_
  refine jc_ret ?_
  refine jk_fn_ret rfl rfl (by rfl) (fun w hw => ?_)
  exact ⟨rfl, hw.forget⟩
set_option maxHeartbeats 4000000 in
theorem blank_spec (w : World) : Does Try.prog 26 #[] w (fun v w' => ∃ db, v = .pointer (some ⟨db, 0, none⟩) ∧ St w Emp [dkI db (some ⟨[], []⟩)] w') := by
  refine fn_body (fn := Try.f26) Try.func26 rfl [] (by exact trivial) rfl (St.start w) ?_
  refine jc_seq ?_
  refine sc_region ?_
  refine so_pure (opv_assign (by rfl)) (by rfl) rfl ?_
  refine jo_nil ?_
  refine jk_then ?_
  refine jc_seq ?_
  refine sc_region ?_
  refine so_eff (eff_makeMapI kvI) (by rfl) rfl ?_
  rintro _ _ ⟨mb, rfl, rfl⟩
  refine so_pure (opv_build (by rfl) (fun w => by exact bld57_0 ..)) (by rfl) rfl ?_
  refine so_eff (eff_box (by rfl) rfl) (by rfl) rfl ?_
  rintro _ _ ⟨db, rfl, rfl⟩
  refine so_pure (opv_assign (by rfl)) (by rfl) rfl ?_
  refine jo_nil ?_
  refine jk_then ?_
  refine jc_ret ?_
  refine jk_fn_ret rfl rfl (by rfl) (fun w hw => ?_)
  exact ⟨db, rfl, dk_mk (D := ⟨[], []⟩) (mb := mb) (wv := .slice none 0 0) (St.sel (hw.own_nil 59 2) (by repeat (first | exact Pks.nil _ | exact Pk.here _ | apply Pk.there | apply Pks.cons)))⟩
set_option maxHeartbeats 4000000 in
theorem disk_spec {w0 w : World} {M : Nat → Prop} {Fr : List Itm} {bb : Nat} {ps : List Nat} {ds : List DD} (d n : Int) (s : ByteArray) (hst : St w0 M (blk bb (.cells (ptrs ps).toArray 50 (0, 0)) :: grp (List.zipWith dkI ps ds) :: Fr) w) (hlp : ps.length = 12) (hld : ds.length = 12) : Does Try.prog 27 #[.pointer (some ⟨bb, 0, none⟩), .int .i64 d, .int .i64 n, .string s] w (fun v w' => v = .tuple #[dptr ps d (chk ds d n s.size), .int .i64 (chk ds d n s.size)] ∧ St w0 M (blk bb (.cells (ptrs ps).toArray 50 (0, 0)) :: grp (List.zipWith dkI ps ds) :: Fr) w') := by
  refine fn_bodyX (fn := Try.f27) Try.func27 rfl [(0, .pointer (some ⟨bb, 0, none⟩)), (1, .int .i64 d), (2, .int .i64 n), (3, .string s)] (by exact ⟨rfl, rfl, rfl, rfl, trivial⟩) rfl hst ?_
  refine jc_seq ?_
  refine sc_region ?_
  refine so_pure (opv_assign (by rfl)) (by rfl) rfl ?_
  refine so_pure (opv_assign (by rfl)) (by rfl) rfl ?_
  refine jo_nil ?_
  refine jk_then ?_
  refine jc_seq ?_
  refine jc_block ?_
  refine jc_seq ?_
  refine sc_region ?_
  refine so_pure (opv_move (by rfl)) (by rfl) rfl ?_
  refine so_pure (opv_move (by rfl)) (by rfl) rfl ?_
  refine so_eff (eff_call0 (fl := []) (cl := []) (G := fun v New => v = .bool (decide (0 ≤ d ∧ d < 12)) ∧ New = []) (by rfl) (by rfl) tx37 (by exact fun w1 hw1 => (number_spec w1 _ d).mono (fun _ _ ⟨hv, hst⟩ => ⟨[], ⟨hv, rfl⟩, hst⟩))) (by rfl) rfl ?_
  rintro _ _ ⟨_, ⟨rfl, rfl⟩, rfl⟩
  refine so_pure (opv_not (by rfl)) (by rfl) rfl ?_
  refine so_pure (opv_assign (by rfl)) (by rfl) rfl ?_
  refine jo_nil ?_
  refine jk_then ?_
  refine sk_split (x := 10) (by rfl) (fun h7 => ?_) (fun h7 => ?_)
  · first | have p7 := of_decide_eq_true h7 | have p7 := of_decide_eq_false h7 | have p7 := ndT h7 | have p7 := ndF h7 | have p7 := nbT h7 | have p7 := nbF h7 | have p7 := h7
    refine sc_true (by rfl) (not_t (nbT h7)) ?_
    refine jc_seq ?_
    refine sc_region ?_
    refine so_pure (opv_assign (by rfl)) (by rfl) rfl ?_
    refine so_pure (opv_assign (by rfl)) (by rfl) rfl ?_
    refine jo_nil ?_
    refine jk_then ?_
    refine jc_ret ?_
    refine jk_block_ret ?_
    refine jk_then_ret ?_
    refine jk_fn_ret2 rfl rfl (by rfl) (by rfl) (fun w hw => ?_)
    rw [chk_out (by simpa using p7)]
    exact ⟨rfl, hw⟩
  · first | have p7 := of_decide_eq_true h7 | have p7 := of_decide_eq_false h7 | have p7 := ndT h7 | have p7 := ndF h7 | have p7 := nbT h7 | have p7 := nbF h7 | have p7 := h7
    refine sc_false (by rfl) (not_f (nbF h7)) ?_
    refine jc_seq ?_
    have hd12 : 0 ≤ d ∧ d < 12 := by simpa using p7
    obtain ⟨k, rfl⟩ : ∃ k : Nat, d = k := ⟨d.toNat, by omega⟩
    have hk12 : k < 12 := by omega
    obtain ⟨db, hdb⟩ : ∃ db, ps[k]? = some db := ⟨ps[k], List.getElem?_eq_getElem (by omega)⟩
    obtain ⟨DQ, hD⟩ : ∃ D, ds[k]? = some D := ⟨ds[k], List.getElem?_eq_getElem (by omega)⟩
    refine jk_focus (d := k) (by repeat (first | exact Pk.here _ | apply Pk.there)) (zip_get hdb hD) ?_
    refine sc_region ?_
    refine so_pure (opv_move (by rfl)) (by rfl) rfl ?_
    refine so_pure (opv_move (by rfl)) (by rfl) rfl ?_
    refine so_pure (opv_nilCheck (by rfl)) (by rfl) rfl ?_
    refine so_pure (opv_fieldAddr (by rfl) fld50_0) (by rfl) rfl ?_
    refine so_pure (opv_indexAddr_arr (i := k) (by rfl) (by rfl) Try.underlying48 ti47 rfl (by omega)) (by rfl) rfl ?_
    rcases DQ with _ | D
    · skip
      refine so_pure (opv_load (by rfl) na47 (rd_pk (by repeat (first | exact Pk.here _ | apply Pk.there))) (by simpa using ptrs_get hdb)) (by rfl) rfl ?_
      refine so_pure (opv_nilCheck (by rfl)) (by rfl) rfl ?_
      refine so_pure (opv_fieldAddr (by rfl) fld57_2) (by rfl) rfl ?_
      refine so_pure (opv_load (v := .bool true) (by rfl) na4 (rd_pk (by first | exact Pk.there (Pk.here _) | (show Pk _ _ _; exact Pk.here _) | (repeat (first | exact Pk.here _ | apply Pk.there)))) (by rfl)) (by rfl) rfl ?_
      refine so_pure (opv_assign (by rfl)) (by rfl) rfl ?_
      refine jo_nil ?_
      refine jk_then ?_
      refine sc_true (by rfl) rfl ?_
      refine jc_seq ?_
      refine sc_region ?_
      refine so_pure (opv_assign (by rfl)) (by rfl) rfl ?_
      refine so_pure (opv_assign (by rfl)) (by rfl) rfl ?_
      refine jo_nil ?_
      refine jk_then ?_
      refine jc_ret ?_
      refine jk_block_ret ?_
      refine jk_then_ret ?_
      refine jk_fn_ret2 rfl rfl (by rfl) (by rfl) (fun w hw => ?_)
      rw [chk_lost hk12 hD]
      have hw3 := focus_same hdb hD (St.keep (Sb := [dkI db none, grp ((List.zipWith dkI ps ds).eraseIdx k)]) hw (by repeat (first | exact Pks.nil _ | exact Pk.here _ | apply Pk.there | apply Pks.cons)) (Tl.here _))
      exact ⟨rfl, St.keep (Sb := [blk bb (.cells (ptrs ps).toArray 50 (0, 0)), grp (List.zipWith dkI ps ds)]) hw3 (by repeat (first | exact Pks.nil _ | exact Pk.here _ | apply Pk.there | apply Pks.cons)) (by repeat (first | exact Tl.here _ | apply Tl.there))⟩
    · refine jk_dk_open (D := D) (by repeat (first | exact Pk.here _ | apply Pk.there)) (fun mb wv => ?_)
      refine so_pure (opv_load (by rfl) na47 (rd_pk (by repeat (first | exact Pk.here _ | apply Pk.there))) (by simpa using ptrs_get hdb)) (by rfl) rfl ?_
      refine so_pure (opv_nilCheck (by rfl)) (by rfl) rfl ?_
      refine so_pure (opv_fieldAddr (by rfl) fld57_2) (by rfl) rfl ?_
      refine so_pure (opv_load (v := .bool false) (by rfl) na4 (rd_pk (by first | exact Pk.there (Pk.here _) | (show Pk _ _ _; exact Pk.here _) | (repeat (first | exact Pk.here _ | apply Pk.there)))) (by rfl)) (by rfl) rfl ?_
      refine so_pure (opv_assign (by rfl)) (by rfl) rfl ?_
      refine jo_nil ?_
      refine jk_then ?_
      refine sc_false (by rfl) rfl ?_
      refine jc_seq ?_
      refine sc_region ?_
      refine so_pure (opv_move (by rfl)) (by rfl) rfl ?_
      refine so_pure (opv_cmp (by rfl) (by rfl) (by rfl)) (by rfl) rfl ?_
      refine so_pure (opv_move (by rfl)) (by rfl) rfl ?_
      refine sk_split (x := 28) (by rfl) (fun h21 => ?_) (fun h21 => ?_)
      · first | have p21 := of_decide_eq_true h21 | have p21 := of_decide_eq_false h21 | have p21 := ndT h21 | have p21 := ndF h21 | have p21 := nbT h21 | have p21 := nbF h21 | have p21 := h21
        refine so_skip (wtd_not rfl rfl (by rfl) h21) rfl ?_
        refine so_skip (wtd_not rfl rfl (by rfl) h21) rfl ?_
        refine so_pure (sv_pick_t (by rfl) h21 (by rfl)) (by rfl) rfl ?_
        refine so_pure (opv_assign (by rfl)) (by rfl) rfl ?_
        refine jo_nil ?_
        refine jk_then ?_
        refine sc_true (by rfl) rfl ?_
        refine jc_seq ?_
        refine sc_region ?_
        refine so_pure (opv_assign (by rfl)) (by rfl) rfl ?_
        refine so_pure (opv_assign (by rfl)) (by rfl) rfl ?_
        refine jo_nil ?_
        refine jk_then ?_
        refine jc_ret ?_
        refine jk_block_ret ?_
        refine jk_then_ret ?_
        refine jk_fn_ret2 rfl rfl (by rfl) (by rfl) (fun w hw => ?_)
        rw [chk_in hk12 hD, if_pos (by omega)]
        have hw2 := (St.keep (Sb := [blk db (.cells #[.map (some mb), wv, .bool false] 57 (0, 0)), mapI kvI mb (mpS D.kp), own wv 59 2 D.ws.length (D.ws.flatMap Wr.cells)]) hw (by repeat (first | exact Pks.nil _ | exact Pk.here _ | apply Pk.there | apply Pks.cons)) (Tl.here _))
        have hw3 := focus_same hdb hD (St.keep (Sb := [dkI db (some D), grp ((List.zipWith dkI ps ds).eraseIdx k)]) (dk_mk hw2) (by repeat (first | exact Pks.nil _ | exact Pk.here _ | apply Pk.there | apply Pks.cons)) (Tl.here _))
        exact ⟨rfl, St.keep (Sb := [blk bb (.cells (ptrs ps).toArray 50 (0, 0)), grp (List.zipWith dkI ps ds)]) hw3 (by repeat (first | exact Pks.nil _ | exact Pk.here _ | apply Pk.there | apply Pks.cons)) (by repeat (first | exact Tl.here _ | apply Tl.there))⟩
      · first | have p21 := of_decide_eq_true h21 | have p21 := of_decide_eq_false h21 | have p21 := ndT h21 | have p21 := ndF h21 | have p21 := nbT h21 | have p21 := nbF h21 | have p21 := h21
        refine so_pure (opv_move (by rfl)) (wtd_run rfl rfl (by rfl) h21) rfl ?_
        refine so_pure (opv_cmp (by rfl) (by rfl) (by rfl)) (wtd_run rfl rfl (by rfl) h21) rfl ?_
        refine so_pure (sv_pick_f (by rfl) h21 (by rfl)) (by rfl) rfl ?_
        refine so_pure (opv_assign (by rfl)) (by rfl) rfl ?_
        refine jo_nil ?_
        refine jk_then ?_
        refine sk_split (x := 25) (by rfl) (fun h24 => ?_) (fun h24 => ?_)
        · first | have p24 := of_decide_eq_true h24 | have p24 := of_decide_eq_false h24 | have p24 := ndT h24 | have p24 := ndF h24 | have p24 := nbT h24 | have p24 := nbF h24 | have p24 := h24
          refine sc_true (by rfl) h24 ?_
          refine jc_seq ?_
          refine sc_region ?_
          refine so_pure (opv_assign (by rfl)) (by rfl) rfl ?_
          refine so_pure (opv_assign (by rfl)) (by rfl) rfl ?_
          refine jo_nil ?_
          refine jk_then ?_
          refine jc_ret ?_
          refine jk_block_ret ?_
          refine jk_then_ret ?_
          refine jk_fn_ret2 rfl rfl (by rfl) (by rfl) (fun w hw => ?_)
          rw [chk_in hk12 hD, if_pos (by omega)]
          have hw2 := (St.keep (Sb := [blk db (.cells #[.map (some mb), wv, .bool false] 57 (0, 0)), mapI kvI mb (mpS D.kp), own wv 59 2 D.ws.length (D.ws.flatMap Wr.cells)]) hw (by repeat (first | exact Pks.nil _ | exact Pk.here _ | apply Pk.there | apply Pks.cons)) (Tl.here _))
          have hw3 := focus_same hdb hD (St.keep (Sb := [dkI db (some D), grp ((List.zipWith dkI ps ds).eraseIdx k)]) (dk_mk hw2) (by repeat (first | exact Pks.nil _ | exact Pk.here _ | apply Pk.there | apply Pks.cons)) (Tl.here _))
          exact ⟨rfl, St.keep (Sb := [blk bb (.cells (ptrs ps).toArray 50 (0, 0)), grp (List.zipWith dkI ps ds)]) hw3 (by repeat (first | exact Pks.nil _ | exact Pk.here _ | apply Pk.there | apply Pks.cons)) (by repeat (first | exact Tl.here _ | apply Tl.there))⟩
        · first | have p24 := of_decide_eq_true h24 | have p24 := of_decide_eq_false h24 | have p24 := ndT h24 | have p24 := ndF h24 | have p24 := nbT h24 | have p24 := nbF h24 | have p24 := h24
          refine sc_false (by rfl) h24 ?_
          refine jc_seq ?_
          refine sc_region ?_
          refine so_pure (opv_move (by rfl)) (by rfl) rfl ?_
          refine so_pure (opv_len_string (by rfl) Try.underlying9) (by rfl) rfl ?_
          refine so_pure (opv_cmp (by rfl) (by rfl) (by rfl)) (by rfl) rfl ?_
          refine so_pure (opv_assign (by rfl)) (by rfl) rfl ?_
          refine jo_nil ?_
          refine jk_then ?_
          refine sk_split (x := 32) (by rfl) (fun h28 => ?_) (fun h28 => ?_)
          · first | have p28 := of_decide_eq_true h28 | have p28 := of_decide_eq_false h28 | have p28 := ndT h28 | have p28 := ndF h28 | have p28 := nbT h28 | have p28 := nbF h28 | have p28 := h28
            refine sc_true (by rfl) h28 ?_
            refine jc_seq ?_
            refine sc_region ?_
            refine so_pure (opv_assign (by rfl)) (by rfl) rfl ?_
            refine so_pure (opv_assign (by rfl)) (by rfl) rfl ?_
            refine jo_nil ?_
            refine jk_then ?_
            refine jc_ret ?_
            refine jk_block_ret ?_
            refine jk_then_ret ?_
            refine jk_fn_ret2 rfl rfl (by rfl) (by rfl) (fun w hw => ?_)
            rw [chk_in hk12 hD, if_neg (by omega), if_pos (by omega)]
            have hw2 := (St.keep (Sb := [blk db (.cells #[.map (some mb), wv, .bool false] 57 (0, 0)), mapI kvI mb (mpS D.kp), own wv 59 2 D.ws.length (D.ws.flatMap Wr.cells)]) hw (by repeat (first | exact Pks.nil _ | exact Pk.here _ | apply Pk.there | apply Pks.cons)) (Tl.here _))
            have hw3 := focus_same hdb hD (St.keep (Sb := [dkI db (some D), grp ((List.zipWith dkI ps ds).eraseIdx k)]) (dk_mk hw2) (by repeat (first | exact Pks.nil _ | exact Pk.here _ | apply Pk.there | apply Pks.cons)) (Tl.here _))
            exact ⟨rfl, St.keep (Sb := [blk bb (.cells (ptrs ps).toArray 50 (0, 0)), grp (List.zipWith dkI ps ds)]) hw3 (by repeat (first | exact Pks.nil _ | exact Pk.here _ | apply Pk.there | apply Pks.cons)) (by repeat (first | exact Tl.here _ | apply Tl.there))⟩
          · first | have p28 := of_decide_eq_true h28 | have p28 := of_decide_eq_false h28 | have p28 := ndT h28 | have p28 := ndF h28 | have p28 := nbT h28 | have p28 := nbF h28 | have p28 := h28
            refine sc_false (by rfl) h28 ?_
            refine jc_skip ?_
            refine jk_block ?_
            refine jk_then ?_
            refine jc_seq ?_
            refine sc_region ?_
            refine so_pure (opv_move (by rfl)) (by rfl) rfl ?_
            refine so_pure (opv_move (by rfl)) (by rfl) rfl ?_
            refine so_pure (opv_nilCheck (by rfl)) (by rfl) rfl ?_
            refine so_pure (opv_fieldAddr (by rfl) fld50_0) (by rfl) rfl ?_
            refine so_pure (opv_indexAddr_arr (i := k) (by rfl) (by rfl) Try.underlying48 ti47 rfl (by omega)) (by rfl) rfl ?_
            refine so_pure (opv_load (by rfl) na47 (rd_pk (by repeat (first | exact Pk.here _ | apply Pk.there))) (by simpa using ptrs_get hdb)) (by rfl) rfl ?_
            refine so_pure (opv_assign (by rfl)) (by rfl) rfl ?_
            refine so_pure (opv_assign (by rfl)) (by rfl) rfl ?_
            refine jo_nil ?_
            refine jk_then ?_
            refine jc_ret ?_
            refine jk_fn_ret2 rfl rfl (by rfl) (by rfl) (fun w hw => ?_)
            rw [chk_in hk12 hD, if_neg (by omega), if_neg (by omega)]
            have edp : dptr ps (k : Int) 0 = .pointer (some ⟨db, 0, none⟩) := by unfold dptr; rw [if_pos rfl, Int.toNat_natCast, hdb]; rfl
            rw [edp]
            have hw2 := (St.keep (Sb := [blk db (.cells #[.map (some mb), wv, .bool false] 57 (0, 0)), mapI kvI mb (mpS D.kp), own wv 59 2 D.ws.length (D.ws.flatMap Wr.cells)]) hw (by repeat (first | exact Pks.nil _ | exact Pk.here _ | apply Pk.there | apply Pks.cons)) (Tl.here _))
            have hw3 := focus_same hdb hD (St.keep (Sb := [dkI db (some D), grp ((List.zipWith dkI ps ds).eraseIdx k)]) (dk_mk hw2) (by repeat (first | exact Pks.nil _ | exact Pk.here _ | apply Pk.there | apply Pks.cons)) (Tl.here _))
            exact ⟨rfl, St.keep (Sb := [blk bb (.cells (ptrs ps).toArray 50 (0, 0)), grp (List.zipWith dkI ps ds)]) hw3 (by repeat (first | exact Pks.nil _ | exact Pk.here _ | apply Pk.there | apply Pks.cons)) (by repeat (first | exact Tl.here _ | apply Tl.there))⟩
end Go.Disks
