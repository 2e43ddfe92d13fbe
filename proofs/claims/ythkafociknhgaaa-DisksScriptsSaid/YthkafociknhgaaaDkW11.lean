/- A part of a proof for the laws of the seat Ythkafociknhgaaa; it has no conditions of its own. -/
import Derived.Test.YthkafociknhgaaaDkW10
namespace Go.Disks
open Go Go.SL Go.Proofs
set_option maxHeartbeats 4000000 in
theorem read_spec {w0 w : World} {M : Nat → Prop} {Fr : List Itm} {bb : Nat} {ps : List Nat} {ds : List DD} (d n : Int) (hst : St w0 M (blk bb (.cells (ptrs ps).toArray 50 (0, 0)) :: grp (List.zipWith dkI ps ds) :: Fr) w) (hlp : ps.length = 12) (hld : ds.length = 12) {N : Nat} (hwb : WB ds N) (hN : N ≤ 100000) : Does Try.prog 14 #[.pointer (some ⟨bb, 0, none⟩), .int .i64 d, .int .i64 n] w (fun v w' => v = .tuple #[.string (rdD ds d n), .int .i64 (chk ds d n 0)] ∧ St w0 M (blk bb (.cells (ptrs ps).toArray 50 (0, 0)) :: grp (List.zipWith dkI ps ds) :: Fr) w') := by
  refine fn_bodyM (fn := Try.f14) Try.func14 rfl [(0, .pointer (some ⟨bb, 0, none⟩)), (1, .int .i64 d), (2, .int .i64 n)] (by exact ⟨rfl, rfl, rfl, trivial⟩) rfl hst ?_
  refine jc_seq ?_
  refine sc_region ?_
  refine so_eff (eff_box (by rfl) rfl) (by rfl) rfl ?_
  rintro _ _ ⟨b5, rfl, rfl⟩
  refine so_eff (eff_alloc ti9 rfl) (by rfl) rfl ?_
  rintro _ _ ⟨b6, rfl, rfl⟩
  refine so_eff (eff_alloc ti27 rfl) (by rfl) rfl ?_
  rintro _ _ ⟨b7, rfl, rfl⟩
  refine jo_nil ?_
  refine jk_then ?_
  refine jc_seq ?_
  refine sc_region ?_
  refine so_pure (opv_move (by rfl)) (by rfl) rfl ?_
  refine so_pure (opv_move (by rfl)) (by rfl) rfl ?_
  refine so_pure (opv_load (by rfl) na3 (rd_pk (by repeat (first | exact Pk.here _ | apply Pk.there))) (by rfl)) (by rfl) rfl ?_
  refine so_eff (eff_callF [blk bb (.cells (ptrs ps).toArray 50 (0, 0)), grp (List.zipWith dkI ps ds)] (fl := []) (cl := []) (G := fun v Is' => v = .tuple #[dptr ps d (chk ds d n 0), .int .i64 (chk ds d n 0)] ∧ Is' = [blk bb (.cells (ptrs ps).toArray 50 (0, 0)), grp (List.zipWith dkI ps ds)]) (by rfl) (by rfl) tx27 (by repeat (first | exact Pks.nil _ | exact Pk.here _ | apply Pk.there | apply Pks.cons)) (by exact fun w1 hw1 => (disk_spec d n ⟨#[]⟩ hw1 hlp hld).mono (fun _ _ ⟨hv, hst⟩ => ⟨_, ⟨hv, rfl⟩, hst⟩))) (by rfl) rfl ?_
  rintro _ _ ⟨_, ⟨rfl, rfl⟩, rfl⟩
  refine so_pure (opv_move (by rfl)) (by rfl) rfl ?_
  refine so_pure (opv_extract (by rfl) (by rfl)) (by rfl) rfl ?_
  refine so_pure (opv_extract (by rfl) (by rfl)) (by rfl) rfl ?_
  refine so_pure (opv_assign (by rfl)) (by rfl) rfl ?_
  refine so_pure (opv_assign (by rfl)) (by rfl) rfl ?_
  refine jo_nil ?_
  refine jk_then ?_
  refine jc_seq ?_
  refine jc_seq ?_
  refine sc_region ?_
  refine so_pure (opv_move (by rfl)) (by rfl) rfl ?_
  refine so_pure (opv_cmp (by rfl) (by rfl) (by rfl)) (by rfl) rfl ?_
  refine jo_nil ?_
  refine jk_then ?_
  refine sk_split (x := 20) (by rfl) (fun h11 => ?_) (fun h11 => ?_)
  · first | have p11 := of_decide_eq_true h11 | have p11 := of_decide_eq_false h11 | have p11 := ndT h11 | have p11 := ndF h11 | have p11 := nbT h11 | have p11 := nbF h11 | have p11 := h11
    refine sc_true (by rfl) h11 ?_
    refine jc_seq ?_
    refine sc_region ?_
    refine so_pure (opv_move (by rfl)) (by rfl) rfl ?_
    refine so_eff0 (eff_store_all (by rfl) (by rfl) (by rfl) ti9 (by rfl) (by repeat (first | exact Pk.here _ | apply Pk.there)) (by rfl) (by rfl)) (by rfl) ?_
    rintro _ _ ⟨rfl, rfl⟩
    refine so_eff0 (eff_store_all (by rfl) (by rfl) (by rfl) ti27 (by rfl) (by repeat (first | exact Pk.here _ | apply Pk.there)) (by rfl) (by rfl)) (by rfl) ?_
    rintro _ _ ⟨rfl, rfl⟩
    refine jo_nil ?_
    refine jk_then ?_
    refine jc_ret ?_
    refine jk_then_ret ?_
    refine jk_fnMs rfl (resc2 rfl (by rfl) (by rfl) na9 na27 (rd_pk (by repeat (first | exact Pk.here _ | apply Pk.there))) (rd_pk (by repeat (first | exact Pk.here _ | apply Pk.there)))) (fun w hw => ?_)
    rw [rdD_no p11]
    exact ⟨rfl, St.keep (Sb := [blk bb (.cells (ptrs ps).toArray 50 (0, 0)), grp (List.zipWith dkI ps ds)]) hw (by repeat (first | exact Pks.nil _ | exact Pk.here _ | apply Pk.there | apply Pks.cons)) (by repeat (first | exact Tl.here _ | apply Tl.there))⟩
  · first | have p11 := of_decide_eq_true h11 | have p11 := of_decide_eq_false h11 | have p11 := ndT h11 | have p11 := ndF h11 | have p11 := nbT h11 | have p11 := nbF h11 | have p11 := h11
    refine sc_false (by rfl) h11 ?_
    refine jc_skip ?_
    refine jk_then ?_
    refine jc_seq ?_
    refine jc_seq ?_
    have hc0 : chk ds d n 0 = 0 := by have := p11; omega
    obtain ⟨k, D, rfl, hk12, hD, hn0, hn1, hsz⟩ := chk_ok hld hc0
    obtain ⟨db, hdb⟩ : ∃ db, ps[k]? = some db := ⟨ps[k], List.getElem?_eq_getElem (by omega)⟩
    rw [hc0, dptr_ok hdb]
    refine jk_focus (d := k) (by repeat (first | exact Pk.here _ | apply Pk.there)) (zip_get hdb hD) ?_
    refine jk_dk_open (D := D) (by repeat (first | exact Pk.here _ | apply Pk.there)) (fun mb wv => ?_)
    have hwn : D.ws.length ≤ 100000 := Nat.le_trans (hwb k D hD).1 hN
    refine jk_sv (v := wv) (by repeat (first | exact Pk.here _ | apply Pk.there)) (fun hsv => ?_)
    refine sc_region ?_
    refine so_pure (opv_move (by rfl)) (by rfl) rfl ?_
    refine so_pure (opv_nilCheck (by rfl)) (by rfl) rfl ?_
    refine so_pure (opv_fieldAddr (by rfl) fld57_1) (by rfl) rfl ?_
    refine so_pure (opv_load (by rfl) na54 (rd_pk (by repeat (first | exact Pk.here _ | apply Pk.there))) (by rfl)) (by rfl) rfl ?_
    refine so_eff (eff_call0 (fl := []) (cl := []) (G := fun v New => ∃ b1, v = .func (.func 47) #[] #[.pointer (some ⟨b1, 0, none⟩)] ∧ New = [blk b1 (.cells #[wv] 54 (0, 0))]) (by rfl) (by rfl) tx36 (by exact fun w1 hw1 => (backward_spec w1 wv hsv).mono (fun _ _ ⟨b1, hv, hst⟩ => ⟨_, ⟨b1, hv, rfl⟩, hst⟩))) (by rfl) rfl ?_
    rintro _ _ ⟨_, ⟨b1, rfl, rfl⟩, rfl⟩
    refine jo_nil ?_
    refine jk_then ?_
    refine jc_block ?_
    refine jc_rangeFunc (gf := 47) (cl := [.pointer (some ⟨b1, 0, none⟩)]) rfl (by rfl) tx47 (by rfl) (fun D_ pe Is' => (pe = none ∧ Is' = [blk D_ (.deferred (some [])), own wv 59 2 D.ws.length (D.ws.flatMap Wr.cells), blk b5 (.cells #[.int .i64 n] 3 (0, 0)), blk b6 (.cells #[.string ⟨#[]⟩] 9 (0, 0)), blk b7 (.cells #[.int .i64 0] 27 (0, 0)), blk db (.cells #[.map (some mb), wv, .bool false] 57 (0, 0)), mapI kvI mb (mpS D.kp), grp ((List.zipWith dkI ps ds).eraseIdx k), blk bb (.cells (ptrs ps).toArray 50 (0, 0)), pu (noW D.ws n 0)] ++ Fr) ∨ (pe = some .ret ∧ Is' = [blk D_ (.deferred (some [])), own wv 59 2 D.ws.length (D.ws.flatMap Wr.cells), blk b7 (.cells #[.int .i64 0] 27 (0, 0)), blk db (.cells #[.map (some mb), wv, .bool false] 57 (0, 0)), mapI kvI mb (mpS D.kp), grp ((List.zipWith dkI ps ds).eraseIdx k), blk bb (.cells (ptrs ps).toArray 50 (0, 0)), Any fun t : ByteArray => [blk b6 (.cells #[.string t] 9 (0, 0)), pu (lastW D.ws n = some t)]] ++ Fr)) (fun D_ l fn tm hround w1 hw1 => ?_) (fun D_ pe Is' hG => ?_)
    · refine (back1_spec (w0 := w0) (n := D.ws.length) rfl hwn (fun i => [blk l (.loop (Rec fn tm _ _ _ D_ .ready none)), blk D_ (.deferred (some [])), blk b5 (.cells #[.int .i64 n] 3 (0, 0)), blk b6 (.cells #[.string ⟨#[]⟩] 9 (0, 0)), blk b7 (.cells #[.int .i64 0] 27 (0, 0)), blk db (.cells #[.map (some mb), wv, .bool false] 57 (0, 0)), mapI kvI mb (mpS D.kp), grp ((List.zipWith dkI ps ds).eraseIdx k), blk bb (.cells (ptrs ps).toArray 50 (0, 0)), pu (noW D.ws n i)] ++ Fr) (fun i => [blk l (.loop (Rec fn tm _ _ _ D_ .done (some .ret))), blk D_ (.deferred (some [])), blk b7 (.cells #[.int .i64 0] 27 (0, 0)), blk db (.cells #[.map (some mb), wv, .bool false] 57 (0, 0)), mapI kvI mb (mpS D.kp), grp ((List.zipWith dkI ps ds).eraseIdx k), blk bb (.cells (ptrs ps).toArray 50 (0, 0)), Any fun t : ByteArray => [blk b6 (.cells #[.string t] 9 (0, 0)), pu (lastW D.ws n = some t)]] ++ Fr) (w := w1) (St.keep (Sb := [blk b1 (.cells #[wv] 54 (0, 0)), own wv 59 2 D.ws.length (D.ws.flatMap Wr.cells), blk l (.loop (Rec fn tm _ _ _ D_ .ready none)), blk D_ (.deferred (some [])), blk b5 (.cells #[.int .i64 n] 3 (0, 0)), blk b6 (.cells #[.string ⟨#[]⟩] 9 (0, 0)), blk b7 (.cells #[.int .i64 0] 27 (0, 0)), blk db (.cells #[.map (some mb), wv, .bool false] 57 (0, 0)), mapI kvI mb (mpS D.kp), grp ((List.zipWith dkI ps ds).eraseIdx k), blk bb (.cells (ptrs ps).toArray 50 (0, 0)), pu (noW D.ws n D.ws.length)]) (St.pu_mk (noW_all D.ws n) hw1) (by repeat (first | exact Pks.nil _ | exact Pk.here _ | apply Pk.there | apply Pks.cons)) (by repeat (first | exact Tl.here _ | apply Tl.there))) (fun i x hi hx w2 hw2 => ?_)).mono (fun _ w3 hst3 => by
        rcases hst3 with h | ⟨i, _, h⟩
        · exact ⟨.ready, none, _, by simp, .inl ⟨rfl, rfl⟩, St.keep (Sb := [blk l (.loop (Rec fn tm _ _ _ D_ .ready none)), blk D_ (.deferred (some [])), own wv 59 2 D.ws.length (D.ws.flatMap Wr.cells), blk b5 (.cells #[.int .i64 n] 3 (0, 0)), blk b6 (.cells #[.string ⟨#[]⟩] 9 (0, 0)), blk b7 (.cells #[.int .i64 0] 27 (0, 0)), blk db (.cells #[.map (some mb), wv, .bool false] 57 (0, 0)), mapI kvI mb (mpS D.kp), grp ((List.zipWith dkI ps ds).eraseIdx k), blk bb (.cells (ptrs ps).toArray 50 (0, 0)), pu (noW D.ws n 0)]) h (by repeat (first | exact Pks.nil _ | exact Pk.here _ | apply Pk.there | apply Pks.cons)) (by repeat (first | exact Tl.here _ | apply Tl.there))⟩
        · exact ⟨.done, some .ret, _, by simp, .inr ⟨rfl, rfl⟩, St.keep (Sb := [blk l (.loop (Rec fn tm _ _ _ D_ .done (some .ret))), blk D_ (.deferred (some [])), own wv 59 2 D.ws.length (D.ws.flatMap Wr.cells), blk b7 (.cells #[.int .i64 0] 27 (0, 0)), blk db (.cells #[.map (some mb), wv, .bool false] 57 (0, 0)), mapI kvI mb (mpS D.kp), grp ((List.zipWith dkI ps ds).eraseIdx k), blk bb (.cells (ptrs ps).toArray 50 (0, 0)), Any fun t : ByteArray => [blk b6 (.cells #[.string t] 9 (0, 0)), pu (lastW D.ws n = some t)]]) h (by repeat (first | exact Pks.nil _ | exact Pk.here _ | apply Pk.there | apply Pks.cons)) (by repeat (first | exact Tl.here _ | apply Tl.there))⟩)
      refine hround [.int .i64 (i : Int), .agg x.cells.toArray] ([blk b1 (.cells #[wv] 54 (0, 0)), own wv 59 2 D.ws.length (D.ws.flatMap Wr.cells), blk D_ (.deferred (some [])), blk b5 (.cells #[.int .i64 n] 3 (0, 0)), blk b6 (.cells #[.string ⟨#[]⟩] 9 (0, 0)), blk b7 (.cells #[.int .i64 0] 27 (0, 0)), blk db (.cells #[.map (some mb), wv, .bool false] 57 (0, 0)), mapI kvI mb (mpS D.kp), grp ((List.zipWith dkI ps ds).eraseIdx k), blk bb (.cells (ptrs ps).toArray 50 (0, 0)), pu (noW D.ws n (i + 1))] ++ Fr) _ rfl ?_ w2 (St.keep (Sb := [blk l (.loop (Rec fn tm _ _ _ D_ .ready none)), blk b1 (.cells #[wv] 54 (0, 0)), own wv 59 2 D.ws.length (D.ws.flatMap Wr.cells), blk D_ (.deferred (some [])), blk b5 (.cells #[.int .i64 n] 3 (0, 0)), blk b6 (.cells #[.string ⟨#[]⟩] 9 (0, 0)), blk b7 (.cells #[.int .i64 0] 27 (0, 0)), blk db (.cells #[.map (some mb), wv, .bool false] 57 (0, 0)), mapI kvI mb (mpS D.kp), grp ((List.zipWith dkI ps ds).eraseIdx k), blk bb (.cells (ptrs ps).toArray 50 (0, 0)), pu (noW D.ws n (i + 1))]) hw2 (by repeat (first | exact Pks.nil _ | exact Pk.here _ | apply Pk.there | apply Pks.cons)) (by repeat (first | exact Tl.here _ | apply Tl.there)))
      show Jc _ _ ((28, .agg x.cells.toArray) :: (27, .int .i64 (i : Int)) :: _) _ _
      refine sc_region ?_
      refine so_eff (eff_alloc ti59 rfl) (by rfl) rfl ?_
      rintro _ _ ⟨b11, rfl, rfl⟩
      refine so_eff0 (eff_store_all (vs := x.cells) (by rfl) (by rfl) (by rfl) ti59 (by rfl) (by repeat (first | exact Pk.here _ | apply Pk.there)) (by rfl) (by rfl)) (by rfl) ?_
      rintro _ _ ⟨rfl, rfl⟩
      refine jo_nil ?_
      refine jk_begin rfl (by repeat (first | exact Pk.here _ | apply Pk.there)) ?_
      refine jc_block ?_
      refine jc_seq ?_
      refine jk_pu (by repeat (first | exact Pk.here _ | apply Pk.there)) (fun hno => ?_)
      refine sc_region ?_
      refine so_pure (opv_fieldAddr (by rfl) fld59_0) (by rfl) rfl ?_
      refine so_pure (opv_load (by rfl) na3 (rd_pk (by repeat (first | exact Pk.here _ | apply Pk.there))) (by rfl)) (by rfl) rfl ?_
      refine so_pure (opv_load (by rfl) na3 (rd_pk (by repeat (first | exact Pk.here _ | apply Pk.there))) (by rfl)) (by rfl) rfl ?_
      refine so_pure (opv_cmp (by rfl) (by rfl) (by rfl)) (by rfl) rfl ?_
      refine jo_nil ?_
      refine jk_then ?_
      refine sk_split (x := 32) (by rfl) (fun h20 => ?_) (fun h20 => ?_)
      · first | have p20 := of_decide_eq_true h20 | have p20 := of_decide_eq_false h20 | have p20 := ndT h20 | have p20 := ndF h20 | have p20 := nbT h20 | have p20 := nbF h20 | have p20 := h20
        refine sc_true (by rfl) h20 ?_
        refine jc_seq ?_
        refine sc_region ?_
        refine so_pure (opv_fieldAddr (by rfl) fld59_1) (by rfl) rfl ?_
        refine so_pure (opv_load (by rfl) na9 (rd_pk (by repeat (first | exact Pk.here _ | apply Pk.there))) (by rfl)) (by rfl) rfl ?_
        refine so_eff0 (eff_store_all (by rfl) (by rfl) (by rfl) ti9 (by rfl) (by repeat (first | exact Pk.here _ | apply Pk.there)) (by rfl) (by rfl)) (by rfl) ?_
        rintro _ _ ⟨rfl, rfl⟩
        refine so_eff0 (eff_store_all (by rfl) (by rfl) (by rfl) ti27 (by rfl) (by repeat (first | exact Pk.here _ | apply Pk.there)) (by rfl) (by rfl)) (by rfl) ?_
        rintro _ _ ⟨rfl, rfl⟩
        refine jo_nil ?_
        refine jk_then ?_
        refine jc_ret ?_
        refine jk_block_ret ?_
        refine jk_round_ret (by repeat (first | exact Pk.here _ | apply Pk.there)) (fun w hw => ?_)
        have hfound := noW_found hx hno p20
        refine ⟨false, rfl, ?_⟩
        show St _ _ (blk b1 (.cells #[wv] 54 (0, 0)) :: own wv 59 2 D.ws.length (D.ws.flatMap Wr.cells) :: _) _
        simp only [cond_false]
        have hw5 := St.any_mk (F := fun t : ByteArray => [blk b6 (.cells #[.string t] 9 (0, 0)), pu (lastW D.ws n = some t)]) x.s (St.keep (Sb := [blk b6 (.cells #[.string x.s] 9 (0, 0)), pu (lastW D.ws n = some x.s)]) (St.pu_mk hfound hw) (by repeat (first | exact Pks.nil _ | exact Pk.here _ | apply Pk.there | apply Pks.cons)) (Tl.here _))
        exact St.keep (Sb := [blk b1 (.cells #[wv] 54 (0, 0)), own wv 59 2 D.ws.length (D.ws.flatMap Wr.cells), blk l (.loop (Rec fn tm _ _ _ D_ .done (some .ret))), blk D_ (.deferred (some [])), blk b7 (.cells #[.int .i64 0] 27 (0, 0)), blk db (.cells #[.map (some mb), wv, .bool false] 57 (0, 0)), mapI kvI mb (mpS D.kp), grp ((List.zipWith dkI ps ds).eraseIdx k), blk bb (.cells (ptrs ps).toArray 50 (0, 0)), Any fun t : ByteArray => [blk b6 (.cells #[.string t] 9 (0, 0)), pu (lastW D.ws n = some t)]]) hw5 (by repeat (first | exact Pks.nil _ | exact Pk.here _ | apply Pk.there | apply Pks.cons)) (by repeat (first | exact Tl.here _ | apply Tl.there))
      · first | have p20 := of_decide_eq_true h20 | have p20 := of_decide_eq_false h20 | have p20 := ndT h20 | have p20 := ndF h20 | have p20 := nbT h20 | have p20 := nbF h20 | have p20 := h20
        refine sc_false (by rfl) h20 ?_
        refine jc_skip ?_
        refine jk_block ?_
        refine jk_round_next (by repeat (first | exact Pk.here _ | apply Pk.there)) (fun w hw => ?_)
        refine ⟨true, rfl, ?_⟩
        show St _ _ (blk b1 (.cells #[wv] 54 (0, 0)) :: own wv 59 2 D.ws.length (D.ws.flatMap Wr.cells) :: _) _
        simp only [cond_true]
        exact St.keep (Sb := [blk b1 (.cells #[wv] 54 (0, 0)), own wv 59 2 D.ws.length (D.ws.flatMap Wr.cells), blk l (.loop (Rec fn tm _ _ _ D_ .ready none)), blk D_ (.deferred (some [])), blk b5 (.cells #[.int .i64 n] 3 (0, 0)), blk b6 (.cells #[.string ⟨#[]⟩] 9 (0, 0)), blk b7 (.cells #[.int .i64 0] 27 (0, 0)), blk db (.cells #[.map (some mb), wv, .bool false] 57 (0, 0)), mapI kvI mb (mpS D.kp), grp ((List.zipWith dkI ps ds).eraseIdx k), blk bb (.cells (ptrs ps).toArray 50 (0, 0)), pu (noW D.ws n i)]) (St.pu_mk (noW_step hx hno p20) hw) (by repeat (first | exact Pks.nil _ | exact Pk.here _ | apply Pk.there | apply Pks.cons)) (by repeat (first | exact Tl.here _ | apply Tl.there))
    · rcases hG with ⟨rfl, rfl⟩ | ⟨rfl, rfl⟩
      · show Jk _ _ _ _
        refine jk_block ?_
        refine jk_then ?_
        refine jc_seq ?_
        refine jk_pu (by repeat (first | exact Pk.here _ | apply Pk.there)) (fun hno => ?_)
        refine so_draw [] (by kernel_rfl) (by kernel_rfl) (by kernel_rfl) rfl (by rfl) (fun hap htm => ?_)
        refine da_any hap htm (i := 0) (by rfl) (by kernel_rfl) (by rfl) (listed' := #[true, false, false, false, false, false, false, false]) (by rfl) (fun _ => (opv_move (by rfl))) (by rfl) rfl ?_
        refine da_any hap htm (i := 1) (by rfl) (by kernel_rfl) (by rfl) (listed' := #[true, true, false, false, false, false, false, false]) (by rfl) (fun _ => (opv_nilCheck (by rfl))) (by rfl) rfl ?_
        refine da_any hap htm (i := 2) (by rfl) (by kernel_rfl) (by rfl) (listed' := #[true, true, true, false, false, false, false, false]) (by rfl) (fun _ => (opv_fieldAddr (by rfl) fld57_0)) (by rfl) rfl ?_
        refine da_now [5, 6, 7] hap htm (i := 3) (by rfl) (by kernel_rfl) (by rfl) (listed' := #[true, true, true, true, false, false, false, false]) (by rfl) (by kernel_rfl) (by kernel_rfl) (opv_load (by rfl) na55 (rd_pk (by repeat (first | exact Pk.here _ | apply Pk.there))) (by rfl)) (by rfl) rfl ?_
        refine da_now [5, 6, 7] hap htm (i := 4) (by rfl) (by kernel_rfl) (by rfl) (listed' := #[true, true, true, true, true, false, false, false]) (by rfl) (by kernel_rfl) (by kernel_rfl) (opv_load (by rfl) na3 (rd_pk (by repeat (first | exact Pk.here _ | apply Pk.there))) (by rfl)) (by rfl) rfl ?_
        refine da_now [6, 7] hap htm (i := 5) (by rfl) (by kernel_rfl) (by rfl) (listed' := #[true, true, true, true, true, true, false, false]) (by rfl) (by kernel_rfl) (by kernel_rfl) (opv_lookup1 (kv := kvI) (k := n) (v := .string ((getL D.kp n).getD ⟨#[]⟩)) (by rfl) (by rfl) (KL.int Try.underlying3) Try.underlying55 ti9 (by repeat (first | exact Pk.here _ | apply Pk.there)) (mpS_get D.kp n)) (by rfl) rfl ?_
        refine da_eff0 (i := 6) (by rfl) (by kernel_rfl) (by rfl) (listed' := #[true, true, true, true, true, true, true, false]) (by rfl) (eff_store_all (by rfl) (by rfl) (by rfl) ti9 (by rfl) (by repeat (first | exact Pk.here _ | apply Pk.there)) (by rfl) (by rfl)) (fun _ _ _ _ hw => cw_nil hw) (by rfl) ?_
        rintro _ _ ⟨rfl, rfl⟩
        refine da_eff0 (i := 7) (by rfl) (by kernel_rfl) (by rfl) (listed' := #[true, true, true, true, true, true, true, true]) (by rfl) (eff_store_all (by rfl) (by rfl) (by rfl) ti27 (by rfl) (by repeat (first | exact Pk.here _ | apply Pk.there)) (by rfl) (by rfl)) (fun _ _ _ _ hw => cw_nil hw) (by rfl) ?_
        rintro _ _ ⟨rfl, rfl⟩
        refine da_done (by kernel_rfl) ?_
        refine jk_then ?_
        refine jc_ret ?_
        refine jk_fnM1s (D := D_) rfl (by repeat (first | exact Pk.here _ | apply Pk.there)) (resc2 rfl (by rfl) (by rfl) na9 na27 (rd_pk (by repeat (first | exact Pk.here _ | apply Pk.there))) (rd_pk (by repeat (first | exact Pk.here _ | apply Pk.there)))) (fun w hw => ?_)
        rw [rdD_ok hc0 hD, noW_none hno]
        have hw3 := focus_same hdb hD (St.keep (Sb := [dkI db (some D), grp ((List.zipWith dkI ps ds).eraseIdx k)]) (dk_mk (St.keep (Sb := [blk db (.cells #[.map (some mb), wv, .bool false] 57 (0, 0)), mapI kvI mb (mpS D.kp), own wv 59 2 D.ws.length (D.ws.flatMap Wr.cells)]) hw (by repeat (first | exact Pks.nil _ | exact Pk.here _ | apply Pk.there | apply Pks.cons)) (Tl.here _))) (by repeat (first | exact Pks.nil _ | exact Pk.here _ | apply Pk.there | apply Pks.cons)) (Tl.here _))
        exact ⟨rfl, St.keep (Sb := [blk bb (.cells (ptrs ps).toArray 50 (0, 0)), grp (List.zipWith dkI ps ds)]) hw3 (by repeat (first | exact Pks.nil _ | exact Pk.here _ | apply Pk.there | apply Pks.cons)) (by repeat (first | exact Tl.here _ | apply Tl.there))⟩
      · show Jc _ _ _ _ .ret
        refine jk_any_open (by repeat (first | exact Pk.here _ | apply Pk.there)) (fun t => ?_)
        refine jk_pu (by repeat (first | exact Pk.here _ | apply Pk.there)) (fun hfound => ?_)
        refine jc_ret ?_
        refine jk_block_ret ?_
        refine jk_then_ret ?_
        refine jk_fnM1s (D := D_) rfl (by repeat (first | exact Pk.here _ | apply Pk.there)) (resc2 rfl (by rfl) (by rfl) na9 na27 (rd_pk (by repeat (first | exact Pk.here _ | apply Pk.there))) (rd_pk (by repeat (first | exact Pk.here _ | apply Pk.there)))) (fun w hw => ?_)
        rw [rdD_ok hc0 hD, hfound]
        have hw3 := focus_same hdb hD (St.keep (Sb := [dkI db (some D), grp ((List.zipWith dkI ps ds).eraseIdx k)]) (dk_mk (St.keep (Sb := [blk db (.cells #[.map (some mb), wv, .bool false] 57 (0, 0)), mapI kvI mb (mpS D.kp), own wv 59 2 D.ws.length (D.ws.flatMap Wr.cells)]) hw (by repeat (first | exact Pks.nil _ | exact Pk.here _ | apply Pk.there | apply Pks.cons)) (Tl.here _))) (by repeat (first | exact Pks.nil _ | exact Pk.here _ | apply Pk.there | apply Pks.cons)) (Tl.here _))
        exact ⟨rfl, St.keep (Sb := [blk bb (.cells (ptrs ps).toArray 50 (0, 0)), grp (List.zipWith dkI ps ds)]) hw3 (by repeat (first | exact Pks.nil _ | exact Pk.here _ | apply Pk.there | apply Pks.cons)) (by repeat (first | exact Tl.here _ | apply Tl.there))⟩
end Go.Disks
