/- A part of a proof for the laws of the seat Ythkafociknhgaaa; it has no conditions of its own. -/
import Derived.Test.YthkafociknhgaaaDkR3
namespace Go.Disks
open Go Go.SL Go.Proofs
set_option maxHeartbeats 4000000 in
theorem rspoil_spec {w0 w : World} {M : Nat → Prop} {Fr : List Itm} {bk : Nat} {dv : Value} {rps : List Nat} {ds : List DD} (d n : Int) (s : ByteArray) (hst : St w0 M (blk bk (.cells #[dv] 73 (0, 0)) :: own dv 74 1 12 (rps.flatMap pc) :: grp (List.zipWith rdI rps ds) :: Fr) w) (hlp : rps.length = 12) (hld : ds.length = 12) {N : Nat} (hwb : WB ds N) (hN : N ≤ 100000) (hwn : WN ds) : Does Try.prog 41 #[.pointer (some ⟨bk, 0, none⟩), .int .i64 d, .int .i64 n, .string s] w (fun v w' => v = .int .i64 (chk ds d n s.size) ∧ St w0 M (blk bk (.cells #[dv] 73 (0, 0)) :: own dv 74 1 12 (rps.flatMap pc) :: grp (List.zipWith rdI rps (onD ds d n s.size (spD n s))) :: Fr) w') := by
  refine fn_bodyX (fn := Try.f41) Try.func41 rfl [(0, .pointer (some ⟨bk, 0, none⟩)), (1, .int .i64 d), (2, .int .i64 n), (3, .string s)] (by exact ⟨rfl, rfl, rfl, rfl, trivial⟩) rfl hst ?_
  refine jc_seq ?_
  refine sc_region ?_
  refine so_pure (opv_assign (by rfl)) (by rfl) rfl ?_
  refine jo_nil ?_
  refine jk_then ?_
  refine jc_seq ?_
  refine sc_region ?_
  refine so_pure (opv_move (by rfl)) (by rfl) rfl ?_
  refine so_pure (opv_move (by rfl)) (by rfl) rfl ?_
  refine so_pure (opv_move (by rfl)) (by rfl) rfl ?_
  refine so_pure (opv_move (by rfl)) (by rfl) rfl ?_
  refine so_eff (eff_callF [blk bk (.cells #[dv] 73 (0, 0)), own dv 74 1 12 (rps.flatMap pc), grp (List.zipWith rdI rps ds)] (fl := []) (cl := []) (G := fun v Is' => v = .int .i64 (chk ds d n s.size) ∧ Is' = [blk bk (.cells #[dv] 73 (0, 0)), own dv 74 1 12 (rps.flatMap pc), grp (List.zipWith rdI rps ds)]) (by rfl) (by rfl) tx43 (by repeat (first | exact Pks.nil _ | exact Pk.here _ | apply Pk.there | apply Pks.cons)) (by exact fun w1 hw1 => (rcheck_spec d n s hw1 hlp hld).mono (fun _ _ ⟨hv, hst⟩ => ⟨_, ⟨hv, rfl⟩, hst⟩))) (by rfl) rfl ?_
  rintro _ _ ⟨_, ⟨rfl, rfl⟩, rfl⟩
  refine so_pure (opv_assign (by rfl)) (by rfl) rfl ?_
  refine jo_nil ?_
  refine jk_then ?_
  refine jc_seq ?_
  refine jc_seq ?_
  refine sc_region ?_
  refine so_pure (opv_move (by rfl)) (by rfl) rfl ?_
  refine so_pure (opv_cmp (by rfl) (by rfl) (by rfl)) (by rfl) rfl ?_
  refine jo_nil ?_
  refine jk_then ?_
  refine sk_split (x := 18) (by rfl) (fun h7 => ?_) (fun h7 => ?_)
  · first | have p7 := of_decide_eq_true h7 | have p7 := of_decide_eq_false h7 | have p7 := ndT h7 | have p7 := ndF h7 | have p7 := nbT h7 | have p7 := nbF h7 | have p7 := h7
    refine sc_true (by rfl) h7 ?_
    refine jc_seq ?_
    refine sc_region ?_
    refine so_pure (opv_move (by rfl)) (by rfl) rfl ?_
    refine so_pure (opv_assign (by rfl)) (by rfl) rfl ?_
    refine jo_nil ?_
    refine jk_then ?_
    refine jc_ret ?_
    refine jk_then_ret ?_
    refine jk_fn_ret rfl rfl (by rfl) (fun w hw => ?_)
    rw [onD_no p7]
    exact ⟨rfl, hw⟩
  · first | have p7 := of_decide_eq_true h7 | have p7 := of_decide_eq_false h7 | have p7 := ndT h7 | have p7 := ndF h7 | have p7 := nbT h7 | have p7 := nbF h7 | have p7 := h7
    refine sc_false (by rfl) h7 ?_
    refine jc_skip ?_
    refine jk_then ?_
    refine jc_seq ?_
    have hc0 : chk ds d n s.size = 0 := p7
    obtain ⟨k, D, rfl, hk12, hD, hn0, hn1, hsz⟩ := chk_ok hld hc0
    obtain ⟨rb, hrb⟩ : ∃ rb, rps[k]? = some rb := ⟨rps[k], List.getElem?_eq_getElem (by omega)⟩
    refine jk_focus (d := k) (by repeat (first | exact Pk.here _ | apply Pk.there)) (rzip_get hrb hD) ?_
    refine jk_rd_open (D := (some D)) (by repeat (first | exact Pk.here _ | apply Pk.there)) (fun lv wv => ?_)
    show Jk _ _ _ (blk rb (.cells #[lv, wv, .bool (lostB (some D))] 78 (0, 0)) :: own lv 9 1 112 ((lK D.kp).flatMap sc) :: own wv 81 2 D.ws.length (D.ws.flatMap Wr.cells) :: _)
    refine jk_sv (v := dv) (by repeat (first | exact Pk.here _ | apply Pk.there)) (fun hdv => ?_)
    refine jk_sv (v := lv) (by repeat (first | exact Pk.here _ | apply Pk.there)) (fun hlv => ?_)
    refine jk_sv (v := wv) (by repeat (first | exact Pk.here _ | apply Pk.there)) (fun hwv => ?_)
    have hwl := (hwb k D hD).1
    obtain ⟨m, rfl⟩ : ∃ m : Nat, n = m := ⟨n.toNat, by omega⟩
    have hm112 : m < 112 := by omega
    refine sc_region ?_
    refine so_pure (opv_assign (by rfl)) (by rfl) rfl ?_
    refine jo_nil ?_
    refine jk_then ?_
    refine jc_seq ?_
    refine jc_seq ?_
    refine sc_region ?_
    refine so_pure (opv_assign (by rfl)) (by rfl) rfl ?_
    refine jo_nil ?_
    refine jk_then ?_
    refine jc_block ?_
    refine jc_loop (σ := Nat × Value) (fun (i, lf) => [(0, .pointer (some ⟨bk, 0, none⟩)), (1, .int .i64 (k : Int)), (2, .int .i64 (m : Int)), (3, .string s), (10, lf), (11, .int .i64 i)]) (fun (i, lf) => (own lf 81 2 ((D.ws.take i).filter fun y => !decide (y.n = (m : Int))).length (((D.ws.take i).filter fun y => !decide (y.n = (m : Int))).flatMap Wr.cells) :: blk rb (.cells #[lv, wv, .bool (lostB (some D))] 78 (0, 0)) :: own lv 9 1 112 ((lK D.kp).flatMap sc) :: own wv 81 2 D.ws.length (D.ws.flatMap Wr.cells) :: grp ((List.zipWith rdI rps ds).eraseIdx k) :: blk bk (.cells #[dv] 73 (0, 0)) :: own dv 74 1 12 (rps.flatMap pc) :: Fr)) (fun (i, lf) => (i ≤ D.ws.length) ∧ (True)) (fun (i, lf) => D.ws.length - i) (0, .slice none 0 0) ⟨Nat.zero_le _, trivial⟩ ⟨rfl, rfl, rfl, rfl, rfl, rfl, trivial⟩ (fun w hw => hw.own_nil 81 2) ?_
    rintro ⟨i, lf⟩ ⟨hi, ht⟩
    show Jc _ _ [(0, .pointer (some ⟨bk, 0, none⟩)), (1, .int .i64 (k : Int)), (2, .int .i64 (m : Int)), (3, .string s), (10, lf), (11, .int .i64 i)] (own lf 81 2 ((D.ws.take i).filter fun y => !decide (y.n = (m : Int))).length (((D.ws.take i).filter fun y => !decide (y.n = (m : Int))).flatMap Wr.cells) :: blk rb (.cells #[lv, wv, .bool (lostB (some D))] 78 (0, 0)) :: own lv 9 1 112 ((lK D.kp).flatMap sc) :: own wv 81 2 D.ws.length (D.ws.flatMap Wr.cells) :: grp ((List.zipWith rdI rps ds).eraseIdx k) :: blk bk (.cells #[dv] 73 (0, 0)) :: own dv 74 1 12 (rps.flatMap pc) :: Fr) _
    refine jc_seq ?_
    refine jc_seq ?_
    refine sc_region ?_
    refine so_pure (opv_move (by rfl)) (by rfl) rfl ?_
    refine so_pure (opv_move (by rfl)) (by rfl) rfl ?_
    refine so_pure (opv_nilCheck (by rfl)) (by rfl) rfl ?_
    refine so_pure (opv_fieldAddr (by rfl) fld73_0) (by rfl) rfl ?_
    refine so_pure (opv_load (by rfl) na71 (rd_pk (by repeat (first | exact Pk.here _ | apply Pk.there))) (by rfl)) (by rfl) rfl ?_
    refine so_pure (opv_move (by rfl)) (by rfl) rfl ?_
    refine so_pure (opv_indexAddr_sv (i := k) (v := dv) (n := 12) (by rfl) hdv (by rfl) Try.underlying71 ti74 rfl (by omega)) (by rfl) rfl ?_
    refine so_pure (opv_load_fld (enc := pc) (v := dv) (i := k) (u := rb) (fo := 0) (w := .pointer (some ⟨rb, 0, none⟩)) pc_len (by rfl) na74 (by repeat (first | exact Pk.here _ | apply Pk.there)) hrb rfl) (by rfl) rfl ?_
    refine so_pure (opv_nilCheck (by rfl)) (by rfl) rfl ?_
    refine so_pure (opv_fieldAddr (by rfl) fld78_1) (by rfl) rfl ?_
    refine so_pure (opv_load (by rfl) na76 (rd_pk (by repeat (first | exact Pk.here _ | apply Pk.there))) (by rfl)) (by rfl) rfl ?_
    refine so_pure (opv_len_sv (v := wv) (n := D.ws.length) (by rfl) hwv Try.underlying76) (by rfl) rfl ?_
    refine so_pure (opv_cmp (by rfl) (by rfl) (by rfl)) (by rfl) rfl ?_
    refine jo_nil ?_
    refine jk_then ?_
    refine sk_split (x := 32) (by rfl) (fun h20 => ?_) (fun h20 => ?_)
    · first | have p20 := of_decide_eq_true h20 | have p20 := of_decide_eq_false h20 | have p20 := ndT h20 | have p20 := ndF h20 | have p20 := nbT h20 | have p20 := nbF h20 | have p20 := h20
      refine sc_true (by rfl) h20 ?_
      refine jc_skip ?_
      refine jk_then ?_
      refine jc_seq ?_
      refine jc_block ?_
      refine jc_seq ?_
      have hlt : i < D.ws.length := by omega
      obtain ⟨x, hx⟩ : ∃ x, D.ws[i]? = some x := ⟨D.ws[i], List.getElem?_eq_getElem hlt⟩
      refine sc_region ?_
      refine so_pure (opv_move (by rfl)) (by rfl) rfl ?_
      refine so_pure (opv_nilCheck (by rfl)) (by rfl) rfl ?_
      refine so_pure (opv_fieldAddr (by rfl) fld73_0) (by rfl) rfl ?_
      refine so_pure (opv_load (by rfl) na71 (rd_pk (by repeat (first | exact Pk.here _ | apply Pk.there))) (by rfl)) (by rfl) rfl ?_
      refine so_pure (opv_move (by rfl)) (by rfl) rfl ?_
      refine so_pure (opv_indexAddr_sv (i := k) (v := dv) (n := 12) (by rfl) hdv (by rfl) Try.underlying71 ti74 rfl (by omega)) (by rfl) rfl ?_
      refine so_pure (opv_load_fld (enc := pc) (v := dv) (i := k) (u := rb) (fo := 0) (w := .pointer (some ⟨rb, 0, none⟩)) pc_len (by rfl) na74 (by repeat (first | exact Pk.here _ | apply Pk.there)) hrb rfl) (by rfl) rfl ?_
      refine so_pure (opv_nilCheck (by rfl)) (by rfl) rfl ?_
      refine so_pure (opv_fieldAddr (by rfl) fld78_1) (by rfl) rfl ?_
      refine so_pure (opv_load (by rfl) na76 (rd_pk (by repeat (first | exact Pk.here _ | apply Pk.there))) (by rfl)) (by rfl) rfl ?_
      refine so_pure (opv_move (by rfl)) (by rfl) rfl ?_
      refine so_pure (opv_indexAddr_sv (i := i) (v := wv) (n := D.ws.length) (by rfl) hwv (by rfl) Try.underlying76 ti81 rfl hlt) (by rfl) rfl ?_
      refine so_pure (opv_fieldAddr (by rfl) fld81_0) (by rfl) rfl ?_
      refine so_pure (opv_load_fld (enc := Wr.cells) (v := wv) (i := i) (u := x) (fo := 0) (w := .int .i64 x.n) Wr.cells_len (by rfl) na3 (by repeat (first | exact Pk.here _ | apply Pk.there)) hx rfl) (by rfl) rfl ?_
      refine so_pure (opv_move (by rfl)) (by rfl) rfl ?_
      refine so_pure (opv_cmp (by rfl) (by rfl) (by rfl)) (by rfl) rfl ?_
      refine jo_nil ?_
      refine jk_then ?_
      refine sk_split (x := 50) (by rfl) (fun h33 => ?_) (fun h33 => ?_)
      · first | have p33 := of_decide_eq_true h33 | have p33 := of_decide_eq_false h33 | have p33 := ndT h33 | have p33 := ndF h33 | have p33 := nbT h33 | have p33 := nbF h33 | have p33 := h33
        refine sc_true (by rfl) h33 ?_
        refine sc_region ?_
        refine so_pure (opv_move (by rfl)) (by rfl) rfl ?_
        refine so_pure (opv_move (by rfl)) (by rfl) rfl ?_
        refine so_pure (opv_nilCheck (by rfl)) (by rfl) rfl ?_
        refine so_pure (opv_fieldAddr (by rfl) fld73_0) (by rfl) rfl ?_
        refine so_pure (opv_load (by rfl) na71 (rd_pk (by repeat (first | exact Pk.here _ | apply Pk.there))) (by rfl)) (by rfl) rfl ?_
        refine so_pure (opv_move (by rfl)) (by rfl) rfl ?_
        refine so_pure (opv_indexAddr_sv (i := k) (v := dv) (n := 12) (by rfl) hdv (by rfl) Try.underlying71 ti74 rfl (by omega)) (by rfl) rfl ?_
        refine so_pure (opv_load_fld (enc := pc) (v := dv) (i := k) (u := rb) (fo := 0) (w := .pointer (some ⟨rb, 0, none⟩)) pc_len (by rfl) na74 (by repeat (first | exact Pk.here _ | apply Pk.there)) hrb rfl) (by rfl) rfl ?_
        refine so_pure (opv_nilCheck (by rfl)) (by rfl) rfl ?_
        refine so_pure (opv_fieldAddr (by rfl) fld78_1) (by rfl) rfl ?_
        refine so_pure (opv_load (by rfl) na76 (rd_pk (by repeat (first | exact Pk.here _ | apply Pk.there))) (by rfl)) (by rfl) rfl ?_
        refine so_pure (opv_move (by rfl)) (by rfl) rfl ?_
        refine so_pure (opv_indexAddr_sv (i := i) (v := wv) (n := D.ws.length) (by rfl) hwv (by rfl) Try.underlying76 ti81 rfl hlt) (by rfl) rfl ?_
        refine so_pure (opv_load_elem (u := x) Wr.cells_len (by rfl) ag81 ti81 (by repeat (first | exact Pk.here _ | apply Pk.there)) (by omega) hx) (by rfl) rfl ?_
        refine so_eff (eff_buildSlice (by rfl) (fun w => by exact bsl76_1_0 ..)) (by rfl) rfl ?_
        rintro _ _ ⟨b65, rfl, rfl⟩
        refine so_eff (eff_append_lit (by rfl) (by rfl) Try.underlying76 ti81 (by rfl) (by omega) (by repeat (first | exact Pk.here _ | apply Pk.there)) (rd_pk (by repeat (first | exact Pk.here _ | apply Pk.there))) (by rfl) (by rfl) (by have := List.length_filter_le (fun y => !decide (Wr.n y = (m : Int))) (D.ws.take i); rw [List.length_take] at this; unfold maxLen; omega) (by have := List.length_filter_le (fun y => !decide (Wr.n y = (m : Int))) (D.ws.take i); rw [List.length_take] at this; omega)) (by rfl) rfl ?_
        rintro nv _ ⟨rfl, _⟩
        refine so_pure (opv_assign (by rfl)) (by rfl) rfl ?_
        refine jo_nil ?_
        refine jk_block ?_
        refine jk_then ?_
        refine sc_region ?_
        refine so_pure (opv_move (by rfl)) (by rfl) rfl ?_
        refine so_pure (opv_add (by rfl) (by rfl) (wrap64_ok (by omega))) (by rfl) rfl ?_
        refine so_pure (opv_assign (by rfl)) (by rfl) rfl ?_
        refine jo_nil ?_
        have hp : (!decide (x.n = (m : Int))) = true := by rw [decide_eq_false p33]; rfl
        refine jk_round (i + 1, nv) ⟨by omega, trivial⟩ (by show D.ws.length - (i + 1) < D.ws.length - i; omega) ⟨rfl, rfl, rfl, rfl, rfl, rfl, trivial⟩ (fun w hw => ?_)
        show St _ _ (own (nv) 81 2 ((D.ws.take (i + 1)).filter fun y => !decide (y.n = (m : Int))).length (((D.ws.take (i + 1)).filter fun y => !decide (y.n = (m : Int))).flatMap Wr.cells) :: blk rb (.cells #[lv, wv, .bool (lostB (some D))] 78 (0, 0)) :: own lv 9 1 112 ((lK D.kp).flatMap sc) :: own wv 81 2 D.ws.length (D.ws.flatMap Wr.cells) :: grp ((List.zipWith rdI rps ds).eraseIdx k) :: blk bk (.cells #[dv] 73 (0, 0)) :: own dv 74 1 12 (rps.flatMap pc) :: Fr) _
        rw [take_snoc hx, List.filter_append, List.length_append, List.flatMap_append]
        simp only [List.filter_cons, hp, if_true, List.filter_nil, List.flatMap_cons, List.flatMap_nil, List.append_nil, List.length_cons, List.length_nil]
        exact St.keep (Sb := [own nv 81 2 (((D.ws.take i).filter fun y => !decide (y.n = (m : Int))).length + 1) (((D.ws.take i).filter fun y => !decide (y.n = (m : Int))).flatMap Wr.cells ++ x.cells), blk rb (.cells #[lv, wv, .bool (lostB (some D))] 78 (0, 0)), own lv 9 1 112 ((lK D.kp).flatMap sc), own wv 81 2 D.ws.length (D.ws.flatMap Wr.cells), grp ((List.zipWith rdI rps ds).eraseIdx k), blk bk (.cells #[dv] 73 (0, 0)), own dv 74 1 12 (rps.flatMap pc)]) hw (by repeat (first | exact Pks.nil _ | exact Pk.here _ | apply Pk.there | apply Pks.cons)) (by repeat (first | exact Tl.here _ | apply Tl.there))
      · first | have p33 := of_decide_eq_true h33 | have p33 := of_decide_eq_false h33 | have p33 := ndT h33 | have p33 := ndF h33 | have p33 := nbT h33 | have p33 := nbF h33 | have p33 := h33
        refine sc_false (by rfl) h33 ?_
        refine jc_skip ?_
        refine jk_block ?_
        refine jk_then ?_
        refine sc_region ?_
        refine so_pure (opv_move (by rfl)) (by rfl) rfl ?_
        refine so_pure (opv_add (by rfl) (by rfl) (wrap64_ok (by omega))) (by rfl) rfl ?_
        refine so_pure (opv_assign (by rfl)) (by rfl) rfl ?_
        refine jo_nil ?_
        have hp : (!decide (x.n = (m : Int))) = false := by rw [decide_eq_true p33]; rfl
        refine jk_round (i + 1, lf) ⟨by omega, trivial⟩ (by show D.ws.length - (i + 1) < D.ws.length - i; omega) ⟨rfl, rfl, rfl, rfl, rfl, rfl, trivial⟩ (fun w hw => ?_)
        show St _ _ (own (lf) 81 2 ((D.ws.take (i + 1)).filter fun y => !decide (y.n = (m : Int))).length (((D.ws.take (i + 1)).filter fun y => !decide (y.n = (m : Int))).flatMap Wr.cells) :: blk rb (.cells #[lv, wv, .bool (lostB (some D))] 78 (0, 0)) :: own lv 9 1 112 ((lK D.kp).flatMap sc) :: own wv 81 2 D.ws.length (D.ws.flatMap Wr.cells) :: grp ((List.zipWith rdI rps ds).eraseIdx k) :: blk bk (.cells #[dv] 73 (0, 0)) :: own dv 74 1 12 (rps.flatMap pc) :: Fr) _
        rw [take_snoc hx, List.filter_append, List.length_append, List.flatMap_append]
        simp only [List.filter_cons, hp, Bool.false_eq_true, if_false, List.filter_nil, List.flatMap_nil, List.append_nil, List.length_nil, Nat.add_zero]
        exact St.keep (Sb := [own lf 81 2 ((D.ws.take i).filter fun y => !decide (y.n = (m : Int))).length (((D.ws.take i).filter fun y => !decide (y.n = (m : Int))).flatMap Wr.cells), blk rb (.cells #[lv, wv, .bool (lostB (some D))] 78 (0, 0)), own lv 9 1 112 ((lK D.kp).flatMap sc), own wv 81 2 D.ws.length (D.ws.flatMap Wr.cells), grp ((List.zipWith rdI rps ds).eraseIdx k), blk bk (.cells #[dv] 73 (0, 0)), own dv 74 1 12 (rps.flatMap pc)]) hw (by repeat (first | exact Pks.nil _ | exact Pk.here _ | apply Pk.there | apply Pks.cons)) (by repeat (first | exact Tl.here _ | apply Tl.there))
    · first | have p20 := of_decide_eq_true h20 | have p20 := of_decide_eq_false h20 | have p20 := ndT h20 | have p20 := ndF h20 | have p20 := nbT h20 | have p20 := nbF h20 | have p20 := h20
      refine sc_false (by rfl) h20 ?_
      refine jc_exit ?_
      refine jk_then_exit ?_
      refine jk_then_exit ?_
      refine jk_block_exit ?_
      refine jk_then ?_
      refine jc_seq ?_
      have ei : i = D.ws.length := by omega
      subst ei
      rw [List.take_length]
      refine jk_sv (v := lf) (by repeat (first | exact Pk.here _ | apply Pk.there)) (fun hsv => ?_)
      obtain ⟨A2, c2, rfl, _⟩ := hsv
      refine sc_region ?_
      refine so_pure (opv_move (by rfl)) (by rfl) rfl ?_
      refine so_pure (opv_nilCheck (by rfl)) (by rfl) rfl ?_
      refine so_pure (opv_fieldAddr (by rfl) fld73_0) (by rfl) rfl ?_
      refine so_pure (opv_load (by rfl) na71 (rd_pk (by repeat (first | exact Pk.here _ | apply Pk.there))) (by rfl)) (by rfl) rfl ?_
      refine so_pure (opv_move (by rfl)) (by rfl) rfl ?_
      refine so_pure (opv_indexAddr_sv (i := k) (v := dv) (n := 12) (by rfl) hdv (by rfl) Try.underlying71 ti74 rfl (by omega)) (by rfl) rfl ?_
      refine so_pure (opv_load_fld (enc := pc) (v := dv) (i := k) (u := rb) (fo := 0) (w := .pointer (some ⟨rb, 0, none⟩)) pc_len (by rfl) na74 (by repeat (first | exact Pk.here _ | apply Pk.there)) hrb rfl) (by rfl) rfl ?_
      refine so_pure (opv_move (by rfl)) (by rfl) rfl ?_
      refine so_pure (opv_nilCheck (by rfl)) (by rfl) rfl ?_
      refine so_pure (opv_fieldAddr (by rfl) fld78_1) (by rfl) rfl ?_
      refine so_eff0 (eff_store (vs := [.slice A2 (D.ws.filter fun y => !decide (y.n = (m : Int))).length c2]) (by rfl) (by rfl) (by rfl) ti76 (by rfl) (by repeat (first | exact Pk.here _ | apply Pk.there)) (by exact Nat.le_of_ble_eq_true rfl) (by rfl)) (by rfl) ?_
      rintro _ _ ⟨rfl, rfl⟩
      refine jo_nil ?_
      refine jk_then ?_
      refine jc_seq ?_
      refine sc_region ?_
      refine so_pure (opv_move (by rfl)) (by rfl) rfl ?_
      refine so_pure (opv_nilCheck (by rfl)) (by rfl) rfl ?_
      refine so_pure (opv_fieldAddr (by rfl) fld73_0) (by rfl) rfl ?_
      refine so_pure (opv_load (by rfl) na71 (rd_pk (by repeat (first | exact Pk.here _ | apply Pk.there))) (by rfl)) (by rfl) rfl ?_
      refine so_pure (opv_move (by rfl)) (by rfl) rfl ?_
      refine so_pure (opv_indexAddr_sv (i := k) (v := dv) (n := 12) (by rfl) hdv (by rfl) Try.underlying71 ti74 rfl (by omega)) (by rfl) rfl ?_
      refine so_pure (opv_load_fld (enc := pc) (v := dv) (i := k) (u := rb) (fo := 0) (w := .pointer (some ⟨rb, 0, none⟩)) pc_len (by rfl) na74 (by repeat (first | exact Pk.here _ | apply Pk.there)) hrb rfl) (by rfl) rfl ?_
      refine so_pure (opv_nilCheck (by rfl)) (by rfl) rfl ?_
      refine so_pure (opv_fieldAddr (by rfl) fld78_0) (by rfl) rfl ?_
      refine so_pure (opv_load (by rfl) na75 (rd_pk (by repeat (first | exact Pk.here _ | apply Pk.there))) (by rfl)) (by rfl) rfl ?_
      refine so_pure (opv_move (by rfl)) (by rfl) rfl ?_
      refine so_pure (opv_move (by rfl)) (by rfl) rfl ?_
      refine so_pure (opv_indexAddr_sv (i := m) (v := lv) (n := 112) (by rfl) hlv (by rfl) Try.underlying75 ti9 rfl hm112) (by rfl) rfl ?_
      refine so_eff0 (eff_store_elem (enc := sc) (v := lv) (i := m) (q := s) (vs := [.string s]) (fo := 0) sc_len (by rfl) (by rfl) (by rfl) ti9 (by rfl) (by repeat (first | exact Pk.here _ | apply Pk.there)) (lK_len _).symm (lK_get hm112) (by exact Nat.le_refl _) rfl (by rfl)) (by rfl) ?_
      rintro _ _ ⟨rfl, rfl⟩
      refine jo_nil ?_
      refine jk_then ?_
      refine jc_seq ?_
      refine sc_region ?_
      refine so_pure (opv_assign (by rfl)) (by rfl) rfl ?_
      refine jo_nil ?_
      refine jk_then ?_
      refine jc_ret ?_
      refine jk_fn_ret rfl rfl (by rfl) (fun w hw => ?_)
      rw [onD_ok hc0 hD, hc0]
      rw [lK_set _ hm112] at hw
      have hw3 := rfocus_back hrb (by omega) (St.keep (Sb := [rdI rb (some (spD (m : Int) s D)), grp ((List.zipWith rdI rps ds).eraseIdx k)]) (rd_mk (D := some (spD (m : Int) s D)) (St.keep (Sb := [blk rb (.cells #[lv, .slice A2 (D.ws.filter fun y => !decide (y.n = (m : Int))).length c2, .bool (lostB (some D))] 78 (0, 0)), own lv 9 1 112 ((lK (setL D.kp (m : Int) s)).flatMap sc), own (.slice A2 (D.ws.filter fun y => !decide (y.n = (m : Int))).length c2) 81 2 (D.ws.filter fun y => !decide (y.n = (m : Int))).length ((D.ws.filter fun y => !decide (y.n = (m : Int))).flatMap Wr.cells)]) hw (by repeat (first | exact Pks.nil _ | exact Pk.here _ | apply Pk.there | apply Pks.cons)) (Tl.here _))) (by repeat (first | exact Pks.nil _ | exact Pk.here _ | apply Pk.there | apply Pks.cons)) (Tl.here _))
      exact ⟨rfl, St.keep (Sb := [blk bk (.cells #[dv] 73 (0, 0)), own dv 74 1 12 (rps.flatMap pc), grp (List.zipWith rdI rps (ds.set k (some (spD (m : Int) s D))))]) hw3 (by repeat (first | exact Pks.nil _ | exact Pk.here _ | apply Pk.there | apply Pks.cons)) (by repeat (first | exact Tl.here _ | apply Tl.there))⟩
end Go.Disks
