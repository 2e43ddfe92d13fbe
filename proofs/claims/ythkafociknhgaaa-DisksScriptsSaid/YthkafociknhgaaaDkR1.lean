/- A part of a proof for the laws of the seat Ythkafociknhgaaa; it has no conditions of its own. -/
import Derived.Test.YthkafociknhgaaaDkW17
import Derived.Test.YthkafociknhgaaaDkRef
namespace Go.Disks
open Go Go.SL Go.Proofs
set_option maxHeartbeats 4000000 in
theorem rcheck_spec {w0 w : World} {M : Nat → Prop} {Fr : List Itm} {bk : Nat} {dv : Value} {rps : List Nat} {ds : List DD} (d n : Int) (s : ByteArray) (hst : St w0 M (blk bk (.cells #[dv] 73 (0, 0)) :: own dv 74 1 12 (rps.flatMap pc) :: grp (List.zipWith rdI rps ds) :: Fr) w) (hlp : rps.length = 12) (hld : ds.length = 12) : Does Try.prog 43 #[.pointer (some ⟨bk, 0, none⟩), .int .i64 d, .int .i64 n, .string s] w (fun v w' => v = .int .i64 (chk ds d n s.size) ∧ St w0 M (blk bk (.cells #[dv] 73 (0, 0)) :: own dv 74 1 12 (rps.flatMap pc) :: grp (List.zipWith rdI rps ds) :: Fr) w') := by
  refine fn_bodyX (fn := Try.f43) Try.func43 rfl [(0, .pointer (some ⟨bk, 0, none⟩)), (1, .int .i64 d), (2, .int .i64 n), (3, .string s)] (by exact ⟨rfl, rfl, rfl, rfl, trivial⟩) rfl hst ?_
  refine jc_seq ?_
  refine sc_region ?_
  refine so_pure (opv_assign (by rfl)) (by rfl) rfl ?_
  refine jo_nil ?_
  refine jk_then ?_
  refine jc_seq ?_
  refine jc_block ?_
  refine jc_seq ?_
  refine sc_region ?_
  refine so_pure (opv_move (by rfl)) (by rfl) rfl ?_
  refine so_pure (opv_cmp (by rfl) (by rfl) (by rfl)) (by rfl) rfl ?_
  refine so_pure (opv_move (by rfl)) (by rfl) rfl ?_
  refine sk_split (x := 12) (by rfl) (fun h6 => ?_) (fun h6 => ?_)
  · first | have p6 := of_decide_eq_true h6 | have p6 := of_decide_eq_false h6 | have p6 := ndT h6 | have p6 := ndF h6 | have p6 := nbT h6 | have p6 := nbF h6 | have p6 := h6
    refine so_skip (wtd_not rfl rfl (by rfl) h6) rfl ?_
    refine so_skip (wtd_not rfl rfl (by rfl) h6) rfl ?_
    refine so_pure (sv_pick_t (by rfl) h6 (by rfl)) (by rfl) rfl ?_
    refine so_pure (opv_assign (by rfl)) (by rfl) rfl ?_
    refine jo_nil ?_
    refine jk_then ?_
    refine sc_true (by rfl) rfl ?_
    refine jc_seq ?_
    refine sc_region ?_
    refine so_pure (opv_assign (by rfl)) (by rfl) rfl ?_
    refine jo_nil ?_
    refine jk_then ?_
    refine jc_ret ?_
    refine jk_block_ret ?_
    refine jk_then_ret ?_
    refine jk_fn_ret rfl rfl (by rfl) (fun w hw => ?_)
    rw [chk_out (by omega)]
    exact ⟨rfl, hw⟩
  · first | have p6 := of_decide_eq_true h6 | have p6 := of_decide_eq_false h6 | have p6 := ndT h6 | have p6 := ndF h6 | have p6 := nbT h6 | have p6 := nbF h6 | have p6 := h6
    refine so_pure (opv_move (by rfl)) (wtd_run rfl rfl (by rfl) h6) rfl ?_
    refine so_pure (opv_cmp (by rfl) (by rfl) (by rfl)) (wtd_run rfl rfl (by rfl) h6) rfl ?_
    refine so_pure (sv_pick_f (by rfl) h6 (by rfl)) (by rfl) rfl ?_
    refine so_pure (opv_assign (by rfl)) (by rfl) rfl ?_
    refine jo_nil ?_
    refine jk_then ?_
    refine sk_split (x := 9) (by rfl) (fun h8 => ?_) (fun h8 => ?_)
    · first | have p8 := of_decide_eq_true h8 | have p8 := of_decide_eq_false h8 | have p8 := ndT h8 | have p8 := ndF h8 | have p8 := nbT h8 | have p8 := nbF h8 | have p8 := h8
      refine sc_true (by rfl) h8 ?_
      refine jc_seq ?_
      refine sc_region ?_
      refine so_pure (opv_assign (by rfl)) (by rfl) rfl ?_
      refine jo_nil ?_
      refine jk_then ?_
      refine jc_ret ?_
      refine jk_block_ret ?_
      refine jk_then_ret ?_
      refine jk_fn_ret rfl rfl (by rfl) (fun w hw => ?_)
      rw [chk_out (by omega)]
      exact ⟨rfl, hw⟩
    · first | have p8 := of_decide_eq_true h8 | have p8 := of_decide_eq_false h8 | have p8 := ndT h8 | have p8 := ndF h8 | have p8 := nbT h8 | have p8 := nbF h8 | have p8 := h8
      refine sc_false (by rfl) h8 ?_
      refine jc_seq ?_
      obtain ⟨k, rfl⟩ : ∃ k : Nat, d = k := ⟨d.toNat, by omega⟩
      have hk12 : k < 12 := by omega
      obtain ⟨rb, hrb⟩ : ∃ rb, rps[k]? = some rb := ⟨rps[k], List.getElem?_eq_getElem (by omega)⟩
      obtain ⟨DQ, hD⟩ : ∃ D, ds[k]? = some D := ⟨ds[k], List.getElem?_eq_getElem (by omega)⟩
      refine jk_focus (d := k) (by repeat (first | exact Pk.here _ | apply Pk.there)) (rzip_get hrb hD) ?_
      refine jk_rd_open (D := DQ) (by repeat (first | exact Pk.here _ | apply Pk.there)) (fun lv wv => ?_)
      refine jk_sv (v := dv) (by repeat (first | exact Pk.here _ | apply Pk.there)) (fun hdv => ?_)
      refine jk_sv (v := lv) (by repeat (first | exact Pk.here _ | apply Pk.there)) (fun hlv => ?_)
      refine jk_sv (v := wv) (by repeat (first | exact Pk.here _ | apply Pk.there)) (fun hwv => ?_)
      refine sc_region ?_
      refine so_pure (opv_move (by rfl)) (by rfl) rfl ?_
      refine so_pure (opv_nilCheck (by rfl)) (by rfl) rfl ?_
      refine so_pure (opv_fieldAddr (by rfl) fld73_0) (by rfl) rfl ?_
      refine so_pure (opv_load (by rfl) na71 (rd_pk (by repeat (first | exact Pk.here _ | apply Pk.there))) (by rfl)) (by rfl) rfl ?_
      refine so_pure (opv_move (by rfl)) (by rfl) rfl ?_
      refine so_pure (opv_indexAddr_sv (i := k) (v := dv) (n := 12) (by rfl) hdv (by rfl) Try.underlying71 ti74 rfl (by omega)) (by rfl) rfl ?_
      refine so_pure (opv_load_fld (enc := pc) (v := dv) (i := k) (u := rb) (fo := 0) (w := .pointer (some ⟨rb, 0, none⟩)) pc_len (by rfl) na74 (by repeat (first | exact Pk.here _ | apply Pk.there)) hrb rfl) (by rfl) rfl ?_
      refine so_pure (opv_nilCheck (by rfl)) (by rfl) rfl ?_
      refine so_pure (opv_fieldAddr (by rfl) fld78_2) (by rfl) rfl ?_
      refine so_pure (opv_load (v := .bool (lostB DQ)) (by rfl) na4 (rd_pk (by repeat (first | exact Pk.here _ | apply Pk.there))) (by rfl)) (by rfl) rfl ?_
      refine so_pure (opv_assign (by rfl)) (by rfl) rfl ?_
      refine jo_nil ?_
      refine jk_then ?_
      refine sk_split (x := 16) (by rfl) (fun h17 => ?_) (fun h17 => ?_)
      · first | have p17 := of_decide_eq_true h17 | have p17 := of_decide_eq_false h17 | have p17 := ndT h17 | have p17 := ndF h17 | have p17 := nbT h17 | have p17 := nbF h17 | have p17 := h17
        refine sc_true (by rfl) h17 ?_
        refine jc_seq ?_
        refine sc_region ?_
        refine so_pure (opv_assign (by rfl)) (by rfl) rfl ?_
        refine jo_nil ?_
        refine jk_then ?_
        refine jc_ret ?_
        refine jk_block_ret ?_
        refine jk_then_ret ?_
        refine jk_fn_ret rfl rfl (by rfl) (fun w hw => ?_)
        obtain rfl := lost_none p17
        rw [chk_lost hk12 hD]
        have hw2 := (St.keep (Sb := [blk rb (.cells #[lv, wv, .bool (lostB none)] 78 (0, 0)), own lv 9 1 112 ((lK (kpOf none)).flatMap sc), own wv 81 2 (wsOf none).length ((wsOf none).flatMap Wr.cells)]) hw (by repeat (first | exact Pks.nil _ | exact Pk.here _ | apply Pk.there | apply Pks.cons)) (Tl.here _))
        have hw3 := rfocus_same hrb hD (St.keep (Sb := [rdI rb none, grp ((List.zipWith rdI rps ds).eraseIdx k)]) (rd_mk hw2) (by repeat (first | exact Pks.nil _ | exact Pk.here _ | apply Pk.there | apply Pks.cons)) (Tl.here _))
        exact ⟨rfl, St.keep (Sb := [blk bk (.cells #[dv] 73 (0, 0)), own dv 74 1 12 (rps.flatMap pc), grp (List.zipWith rdI rps ds)]) hw3 (by repeat (first | exact Pks.nil _ | exact Pk.here _ | apply Pk.there | apply Pks.cons)) (by repeat (first | exact Tl.here _ | apply Tl.there))⟩
      · first | have p17 := of_decide_eq_true h17 | have p17 := of_decide_eq_false h17 | have p17 := ndT h17 | have p17 := ndF h17 | have p17 := nbT h17 | have p17 := nbF h17 | have p17 := h17
        refine sc_false (by rfl) h17 ?_
        refine jc_seq ?_
        refine sc_region ?_
        refine so_pure (opv_move (by rfl)) (by rfl) rfl ?_
        refine so_pure (opv_cmp (by rfl) (by rfl) (by rfl)) (by rfl) rfl ?_
        refine so_pure (opv_move (by rfl)) (by rfl) rfl ?_
        refine sk_split (x := 30) (by rfl) (fun h19 => ?_) (fun h19 => ?_)
        · first | have p19 := of_decide_eq_true h19 | have p19 := of_decide_eq_false h19 | have p19 := ndT h19 | have p19 := ndF h19 | have p19 := nbT h19 | have p19 := nbF h19 | have p19 := h19
          refine so_skip (wtd_not rfl rfl (by rfl) h19) rfl ?_
          refine so_skip (wtd_not rfl rfl (by rfl) h19) rfl ?_
          refine so_pure (sv_pick_t (by rfl) h19 (by rfl)) (by rfl) rfl ?_
          refine so_pure (opv_assign (by rfl)) (by rfl) rfl ?_
          refine jo_nil ?_
          refine jk_then ?_
          refine sc_true (by rfl) rfl ?_
          refine jc_seq ?_
          refine sc_region ?_
          refine so_pure (opv_assign (by rfl)) (by rfl) rfl ?_
          refine jo_nil ?_
          refine jk_then ?_
          refine jc_ret ?_
          refine jk_block_ret ?_
          refine jk_then_ret ?_
          refine jk_fn_ret rfl rfl (by rfl) (fun w hw => ?_)
          obtain ⟨D, rfl⟩ := lost_some p17
          rw [chk_in hk12 hD, if_pos (by omega)]
          have hw2 := (St.keep (Sb := [blk rb (.cells #[lv, wv, .bool (lostB (some D))] 78 (0, 0)), own lv 9 1 112 ((lK (kpOf (some D))).flatMap sc), own wv 81 2 (wsOf (some D)).length ((wsOf (some D)).flatMap Wr.cells)]) hw (by repeat (first | exact Pks.nil _ | exact Pk.here _ | apply Pk.there | apply Pks.cons)) (Tl.here _))
          have hw3 := rfocus_same hrb hD (St.keep (Sb := [rdI rb (some D), grp ((List.zipWith rdI rps ds).eraseIdx k)]) (rd_mk hw2) (by repeat (first | exact Pks.nil _ | exact Pk.here _ | apply Pk.there | apply Pks.cons)) (Tl.here _))
          exact ⟨rfl, St.keep (Sb := [blk bk (.cells #[dv] 73 (0, 0)), own dv 74 1 12 (rps.flatMap pc), grp (List.zipWith rdI rps ds)]) hw3 (by repeat (first | exact Pks.nil _ | exact Pk.here _ | apply Pk.there | apply Pks.cons)) (by repeat (first | exact Tl.here _ | apply Tl.there))⟩
        · first | have p19 := of_decide_eq_true h19 | have p19 := of_decide_eq_false h19 | have p19 := ndT h19 | have p19 := ndF h19 | have p19 := nbT h19 | have p19 := nbF h19 | have p19 := h19
          refine so_pure (opv_move (by rfl)) (wtd_run rfl rfl (by rfl) h19) rfl ?_
          refine so_pure (opv_cmp (by rfl) (by rfl) (by rfl)) (wtd_run rfl rfl (by rfl) h19) rfl ?_
          refine so_pure (sv_pick_f (by rfl) h19 (by rfl)) (by rfl) rfl ?_
          refine so_pure (opv_assign (by rfl)) (by rfl) rfl ?_
          refine jo_nil ?_
          refine jk_then ?_
          refine sk_split (x := 27) (by rfl) (fun h21 => ?_) (fun h21 => ?_)
          · first | have p21 := of_decide_eq_true h21 | have p21 := of_decide_eq_false h21 | have p21 := ndT h21 | have p21 := ndF h21 | have p21 := nbT h21 | have p21 := nbF h21 | have p21 := h21
            refine sc_true (by rfl) h21 ?_
            refine jc_seq ?_
            refine sc_region ?_
            refine so_pure (opv_assign (by rfl)) (by rfl) rfl ?_
            refine jo_nil ?_
            refine jk_then ?_
            refine jc_ret ?_
            refine jk_block_ret ?_
            refine jk_then_ret ?_
            refine jk_fn_ret rfl rfl (by rfl) (fun w hw => ?_)
            obtain ⟨D, rfl⟩ := lost_some p17
            rw [chk_in hk12 hD, if_pos (by omega)]
            have hw2 := (St.keep (Sb := [blk rb (.cells #[lv, wv, .bool (lostB (some D))] 78 (0, 0)), own lv 9 1 112 ((lK (kpOf (some D))).flatMap sc), own wv 81 2 (wsOf (some D)).length ((wsOf (some D)).flatMap Wr.cells)]) hw (by repeat (first | exact Pks.nil _ | exact Pk.here _ | apply Pk.there | apply Pks.cons)) (Tl.here _))
            have hw3 := rfocus_same hrb hD (St.keep (Sb := [rdI rb (some D), grp ((List.zipWith rdI rps ds).eraseIdx k)]) (rd_mk hw2) (by repeat (first | exact Pks.nil _ | exact Pk.here _ | apply Pk.there | apply Pks.cons)) (Tl.here _))
            exact ⟨rfl, St.keep (Sb := [blk bk (.cells #[dv] 73 (0, 0)), own dv 74 1 12 (rps.flatMap pc), grp (List.zipWith rdI rps ds)]) hw3 (by repeat (first | exact Pks.nil _ | exact Pk.here _ | apply Pk.there | apply Pks.cons)) (by repeat (first | exact Tl.here _ | apply Tl.there))⟩
          · first | have p21 := of_decide_eq_true h21 | have p21 := of_decide_eq_false h21 | have p21 := ndT h21 | have p21 := ndF h21 | have p21 := nbT h21 | have p21 := nbF h21 | have p21 := h21
            refine sc_false (by rfl) h21 ?_
            refine jc_seq ?_
            refine sc_region ?_
            refine so_pure (opv_move (by rfl)) (by rfl) rfl ?_
            refine so_pure (opv_len_string (by rfl) Try.underlying9) (by rfl) rfl ?_
            refine so_pure (opv_cmp (by rfl) (by rfl) (by rfl)) (by rfl) rfl ?_
            refine so_pure (opv_assign (by rfl)) (by rfl) rfl ?_
            refine jo_nil ?_
            refine jk_then ?_
            refine sk_split (x := 34) (by rfl) (fun h24 => ?_) (fun h24 => ?_)
            · first | have p24 := of_decide_eq_true h24 | have p24 := of_decide_eq_false h24 | have p24 := ndT h24 | have p24 := ndF h24 | have p24 := nbT h24 | have p24 := nbF h24 | have p24 := h24
              refine sc_true (by rfl) h24 ?_
              refine jc_seq ?_
              refine sc_region ?_
              refine so_pure (opv_assign (by rfl)) (by rfl) rfl ?_
              refine jo_nil ?_
              refine jk_then ?_
              refine jc_ret ?_
              refine jk_block_ret ?_
              refine jk_then_ret ?_
              refine jk_fn_ret rfl rfl (by rfl) (fun w hw => ?_)
              obtain ⟨D, rfl⟩ := lost_some p17
              rw [chk_in hk12 hD, if_neg (by omega), if_pos (by omega)]
              have hw2 := (St.keep (Sb := [blk rb (.cells #[lv, wv, .bool (lostB (some D))] 78 (0, 0)), own lv 9 1 112 ((lK (kpOf (some D))).flatMap sc), own wv 81 2 (wsOf (some D)).length ((wsOf (some D)).flatMap Wr.cells)]) hw (by repeat (first | exact Pks.nil _ | exact Pk.here _ | apply Pk.there | apply Pks.cons)) (Tl.here _))
              have hw3 := rfocus_same hrb hD (St.keep (Sb := [rdI rb (some D), grp ((List.zipWith rdI rps ds).eraseIdx k)]) (rd_mk hw2) (by repeat (first | exact Pks.nil _ | exact Pk.here _ | apply Pk.there | apply Pks.cons)) (Tl.here _))
              exact ⟨rfl, St.keep (Sb := [blk bk (.cells #[dv] 73 (0, 0)), own dv 74 1 12 (rps.flatMap pc), grp (List.zipWith rdI rps ds)]) hw3 (by repeat (first | exact Pks.nil _ | exact Pk.here _ | apply Pk.there | apply Pks.cons)) (by repeat (first | exact Tl.here _ | apply Tl.there))⟩
            · first | have p24 := of_decide_eq_true h24 | have p24 := of_decide_eq_false h24 | have p24 := ndT h24 | have p24 := ndF h24 | have p24 := nbT h24 | have p24 := nbF h24 | have p24 := h24
              refine sc_false (by rfl) h24 ?_
              refine jc_skip ?_
              refine jk_block ?_
              refine jk_then ?_
              refine jc_seq ?_
              refine sc_region ?_
              refine so_pure (opv_assign (by rfl)) (by rfl) rfl ?_
              refine jo_nil ?_
              refine jk_then ?_
              refine jc_ret ?_
              refine jk_fn_ret rfl rfl (by rfl) (fun w hw => ?_)
              obtain ⟨D, rfl⟩ := lost_some p17
              rw [chk_in hk12 hD, if_neg (by omega), if_neg (by omega)]
              have hw2 := (St.keep (Sb := [blk rb (.cells #[lv, wv, .bool (lostB (some D))] 78 (0, 0)), own lv 9 1 112 ((lK (kpOf (some D))).flatMap sc), own wv 81 2 (wsOf (some D)).length ((wsOf (some D)).flatMap Wr.cells)]) hw (by repeat (first | exact Pks.nil _ | exact Pk.here _ | apply Pk.there | apply Pks.cons)) (Tl.here _))
              have hw3 := rfocus_same hrb hD (St.keep (Sb := [rdI rb (some D), grp ((List.zipWith rdI rps ds).eraseIdx k)]) (rd_mk hw2) (by repeat (first | exact Pks.nil _ | exact Pk.here _ | apply Pk.there | apply Pks.cons)) (Tl.here _))
              exact ⟨rfl, St.keep (Sb := [blk bk (.cells #[dv] 73 (0, 0)), own dv 74 1 12 (rps.flatMap pc), grp (List.zipWith rdI rps ds)]) hw3 (by repeat (first | exact Pks.nil _ | exact Pk.here _ | apply Pk.there | apply Pks.cons)) (by repeat (first | exact Tl.here _ | apply Tl.there))⟩
set_option maxHeartbeats 4000000 in
theorem rread_spec {w0 w : World} {M : Nat → Prop} {Fr : List Itm} {bk : Nat} {dv : Value} {rps : List Nat} {ds : List DD} (d n : Int) (hst : St w0 M (blk bk (.cells #[dv] 73 (0, 0)) :: own dv 74 1 12 (rps.flatMap pc) :: grp (List.zipWith rdI rps ds) :: Fr) w) (hlp : rps.length = 12) (hld : ds.length = 12) {N : Nat} (hwb : WB ds N) (hN : N ≤ 100000) (hwn : WN ds) : Does Try.prog 21 #[.pointer (some ⟨bk, 0, none⟩), .int .i64 d, .int .i64 n] w (fun v w' => v = .tuple #[.string (rdD ds d n), .int .i64 (chk ds d n 0)] ∧ St w0 M (blk bk (.cells #[dv] 73 (0, 0)) :: own dv 74 1 12 (rps.flatMap pc) :: grp (List.zipWith rdI rps ds) :: Fr) w') := by
  refine fn_bodyX (fn := Try.f21) Try.func21 rfl [(0, .pointer (some ⟨bk, 0, none⟩)), (1, .int .i64 d), (2, .int .i64 n)] (by exact ⟨rfl, rfl, rfl, trivial⟩) rfl hst ?_
  refine jc_seq ?_
  refine sc_region ?_
  refine so_pure (opv_assign (by rfl)) (by rfl) rfl ?_
  refine so_pure (opv_assign (by rfl)) (by rfl) rfl ?_
  refine jo_nil ?_
  refine jk_then ?_
  refine jc_seq ?_
  refine sc_region ?_
  refine so_pure (opv_move (by rfl)) (by rfl) rfl ?_
  refine so_pure (opv_move (by rfl)) (by rfl) rfl ?_
  refine so_pure (opv_move (by rfl)) (by rfl) rfl ?_
  refine so_eff (eff_callF [blk bk (.cells #[dv] 73 (0, 0)), own dv 74 1 12 (rps.flatMap pc), grp (List.zipWith rdI rps ds)] (fl := []) (cl := []) (G := fun v Is' => v = .int .i64 (chk ds d n 0) ∧ Is' = [blk bk (.cells #[dv] 73 (0, 0)), own dv 74 1 12 (rps.flatMap pc), grp (List.zipWith rdI rps ds)]) (by rfl) (by rfl) tx43 (by repeat (first | exact Pks.nil _ | exact Pk.here _ | apply Pk.there | apply Pks.cons)) (by exact fun w1 hw1 => (rcheck_spec d n ⟨#[]⟩ hw1 hlp hld).mono (fun _ _ ⟨hv, hst⟩ => ⟨_, ⟨hv, rfl⟩, hst⟩))) (by rfl) rfl ?_
  rintro _ _ ⟨_, ⟨rfl, rfl⟩, rfl⟩
  refine so_pure (opv_assign (by rfl)) (by rfl) rfl ?_
  refine jo_nil ?_
  refine jk_then ?_
  refine jc_seq ?_
  refine jc_seq ?_
  refine sc_region ?_
  refine so_pure (opv_move (by rfl)) (by rfl) rfl ?_
  refine so_pure (opv_cmp (by rfl) (by rfl) (by rfl)) (by rfl) rfl ?_
  refine jo_nil ?_
  refine jk_then ?_
  refine sk_split (x := 16) (by rfl) (fun h7 => ?_) (fun h7 => ?_)
  · first | have p7 := of_decide_eq_true h7 | have p7 := of_decide_eq_false h7 | have p7 := ndT h7 | have p7 := ndF h7 | have p7 := nbT h7 | have p7 := nbF h7 | have p7 := h7
    refine sc_true (by rfl) h7 ?_
    refine jc_seq ?_
    refine sc_region ?_
    refine so_pure (opv_move (by rfl)) (by rfl) rfl ?_
    refine so_pure (opv_assign (by rfl)) (by rfl) rfl ?_
    refine so_pure (opv_assign (by rfl)) (by rfl) rfl ?_
    refine jo_nil ?_
    refine jk_then ?_
    refine jc_ret ?_
    refine jk_then_ret ?_
    refine jk_fn_ret2 rfl rfl (by rfl) (by rfl) (fun w hw => ?_)
    rw [rdD_no p7]
    exact ⟨rfl, hw⟩
  · first | have p7 := of_decide_eq_true h7 | have p7 := of_decide_eq_false h7 | have p7 := ndT h7 | have p7 := ndF h7 | have p7 := nbT h7 | have p7 := nbF h7 | have p7 := h7
    refine sc_false (by rfl) h7 ?_
    refine jc_skip ?_
    refine jk_then ?_
    refine jc_seq ?_
    have hc0 : chk ds d n 0 = 0 := p7
    obtain ⟨k, D, rfl, hk12, hD, hn0, hn1, hsz⟩ := chk_ok hld hc0
    obtain ⟨rb, hrb⟩ : ∃ rb, rps[k]? = some rb := ⟨rps[k], List.getElem?_eq_getElem (by omega)⟩
    refine jk_focus (d := k) (by repeat (first | exact Pk.here _ | apply Pk.there)) (rzip_get hrb hD) ?_
    refine jk_rd_open (D := (some D)) (by repeat (first | exact Pk.here _ | apply Pk.there)) (fun lv wv => ?_)
    show Jk _ _ _ (blk rb (.cells #[lv, wv, .bool (lostB (some D))] 78 (0, 0)) :: own lv 9 1 112 ((lK D.kp).flatMap sc) :: own wv 81 2 D.ws.length (D.ws.flatMap Wr.cells) :: _)
    refine jk_sv (v := dv) (by repeat (first | exact Pk.here _ | apply Pk.there)) (fun hdv => ?_)
    refine jk_sv (v := lv) (by repeat (first | exact Pk.here _ | apply Pk.there)) (fun hlv => ?_)
    refine jk_sv (v := wv) (by repeat (first | exact Pk.here _ | apply Pk.there)) (fun hwv => ?_)
    have hwl := (hwb k D hD).1
    obtain ⟨m, rfl⟩ : ∃ m : Nat, n = m := ⟨n.toNat, by omega⟩
    refine sc_region ?_
    refine so_pure (opv_move (by rfl)) (by rfl) rfl ?_
    refine so_pure (opv_nilCheck (by rfl)) (by rfl) rfl ?_
    refine so_pure (opv_fieldAddr (by rfl) fld73_0) (by rfl) rfl ?_
    refine so_pure (opv_load (by rfl) na71 (rd_pk (by repeat (first | exact Pk.here _ | apply Pk.there))) (by rfl)) (by rfl) rfl ?_
    refine so_pure (opv_move (by rfl)) (by rfl) rfl ?_
    refine so_pure (opv_indexAddr_sv (i := k) (v := dv) (n := 12) (by rfl) hdv (by rfl) Try.underlying71 ti74 rfl (by omega)) (by rfl) rfl ?_
    refine so_pure (opv_load_fld (enc := pc) (v := dv) (i := k) (u := rb) (fo := 0) (w := .pointer (some ⟨rb, 0, none⟩)) pc_len (by rfl) na74 (by repeat (first | exact Pk.here _ | apply Pk.there)) hrb rfl) (by rfl) rfl ?_
    refine so_pure (opv_nilCheck (by rfl)) (by rfl) rfl ?_
    refine so_pure (opv_fieldAddr (by rfl) fld78_0) (by rfl) rfl ?_
    refine so_pure (opv_load (by rfl) na75 (rd_pk (by repeat (first | exact Pk.here _ | apply Pk.there))) (by rfl)) (by rfl) rfl ?_
    refine so_pure (opv_move (by rfl)) (by rfl) rfl ?_
    refine so_pure (opv_indexAddr_sv (i := m) (v := lv) (n := 112) (by rfl) hlv (by rfl) Try.underlying75 ti9 rfl (by omega)) (by rfl) rfl ?_
    refine so_pure (opv_load_fld (enc := sc) (v := lv) (i := m) (u := (getL D.kp (m : Int)).getD ⟨#[]⟩) (fo := 0) (w := .string ((getL D.kp (m : Int)).getD ⟨#[]⟩)) sc_len (by rfl) na9 (by repeat (first | exact Pk.here _ | apply Pk.there)) (lK_get (by omega)) rfl) (by rfl) rfl ?_
    refine so_pure (opv_assign (by rfl)) (by rfl) rfl ?_
    refine jo_nil ?_
    refine jk_then ?_
    refine jc_seq ?_
    refine jc_seq ?_
    refine sc_region ?_
    refine so_pure (opv_assign (by rfl)) (by rfl) rfl ?_
    refine jo_nil ?_
    refine jk_then ?_
    refine jc_block ?_
    refine jc_loop (σ := Nat × ByteArray) (fun (i, t) => [(0, .pointer (some ⟨bk, 0, none⟩)), (1, .int .i64 (k : Int)), (2, .int .i64 (m : Int)), (9, .string t), (10, .int .i64 i)]) (fun (i, t) => (blk rb (.cells #[lv, wv, .bool (lostB (some D))] 78 (0, 0)) :: own lv 9 1 112 ((lK D.kp).flatMap sc) :: own wv 81 2 D.ws.length (D.ws.flatMap Wr.cells) :: grp ((List.zipWith rdI rps ds).eraseIdx k) :: blk bk (.cells #[dv] 73 (0, 0)) :: own dv 74 1 12 (rps.flatMap pc) :: Fr)) (fun (i, t) => (i ≤ D.ws.length) ∧ (t = rdT D m i)) (fun (i, t) => D.ws.length - i) (0, (getL D.kp (m : Int)).getD ⟨#[]⟩) ⟨Nat.zero_le _, rfl⟩ ⟨rfl, rfl, rfl, rfl, rfl, trivial⟩ (fun w hw => hw) ?_
    rintro ⟨i, t⟩ ⟨hi, htt⟩
    show Jc _ _ [(0, .pointer (some ⟨bk, 0, none⟩)), (1, .int .i64 (k : Int)), (2, .int .i64 (m : Int)), (9, .string t), (10, .int .i64 i)] (blk rb (.cells #[lv, wv, .bool (lostB (some D))] 78 (0, 0)) :: own lv 9 1 112 ((lK D.kp).flatMap sc) :: own wv 81 2 D.ws.length (D.ws.flatMap Wr.cells) :: grp ((List.zipWith rdI rps ds).eraseIdx k) :: blk bk (.cells #[dv] 73 (0, 0)) :: own dv 74 1 12 (rps.flatMap pc) :: Fr) _
    refine jc_seq ?_
    refine jc_seq ?_
    refine sc_region ?_
    refine so_pure (opv_move (by rfl)) (by rfl) rfl ?_
    refine so_pure (opv_move (by rfl)) (by rfl) rfl ?_
    refine so_pure (opv_nilCheck (by rfl)) (by rfl) rfl ?_
    refine so_pure (opv_fieldAddr (by rfl) fld73_0) (by rfl) rfl ?_
    refine so_pure (opv_load (by rfl) na71 (rd_pk (by repeat (first | exact Pk.here _ | apply Pk.there))) (by rfl)) (by rfl) rfl ?_
    refine so_pure (opv_move (by rfl)) (by rfl) rfl ?_
    refine so_pure (opv_indexAddr_sv (i := k) (v := dv) (n := 12) (by rfl) hdv (by rfl) Try.underlying71 ti74 rfl (by omega)) (by rfl) rfl ?_
    refine so_pure (opv_load_fld (enc := pc) (v := dv) (i := k) (u := rb) (fo := 0) (w := .pointer (some ⟨rb, 0, none⟩)) pc_len (by rfl) na74 (by repeat (first | exact Pk.here _ | apply Pk.there)) hrb rfl) (by rfl) rfl ?_
    refine so_pure (opv_nilCheck (by rfl)) (by rfl) rfl ?_
    refine so_pure (opv_fieldAddr (by rfl) fld78_1) (by rfl) rfl ?_
    refine so_pure (opv_load (by rfl) na76 (rd_pk (by repeat (first | exact Pk.here _ | apply Pk.there))) (by rfl)) (by rfl) rfl ?_
    refine so_pure (opv_len_sv (v := wv) (n := D.ws.length) (by rfl) hwv Try.underlying76) (by rfl) rfl ?_
    refine so_pure (opv_cmp (by rfl) (by rfl) (by rfl)) (by rfl) rfl ?_
    refine jo_nil ?_
    refine jk_then ?_
    refine sk_split (x := 43) (by rfl) (fun h30 => ?_) (fun h30 => ?_)
    · first | have p30 := of_decide_eq_true h30 | have p30 := of_decide_eq_false h30 | have p30 := ndT h30 | have p30 := ndF h30 | have p30 := nbT h30 | have p30 := nbF h30 | have p30 := h30
      refine sc_true (by rfl) h30 ?_
      refine jc_skip ?_
      refine jk_then ?_
      refine jc_seq ?_
      refine jc_block ?_
      refine jc_seq ?_
      have hlt : i < D.ws.length := by omega
      obtain ⟨x, hx⟩ : ∃ x, D.ws[i]? = some x := ⟨D.ws[i], List.getElem?_eq_getElem hlt⟩
      refine sc_region ?_
      refine so_pure (opv_move (by rfl)) (by rfl) rfl ?_
      refine so_pure (opv_nilCheck (by rfl)) (by rfl) rfl ?_
      refine so_pure (opv_fieldAddr (by rfl) fld73_0) (by rfl) rfl ?_
      refine so_pure (opv_load (by rfl) na71 (rd_pk (by repeat (first | exact Pk.here _ | apply Pk.there))) (by rfl)) (by rfl) rfl ?_
      refine so_pure (opv_move (by rfl)) (by rfl) rfl ?_
      refine so_pure (opv_indexAddr_sv (i := k) (v := dv) (n := 12) (by rfl) hdv (by rfl) Try.underlying71 ti74 rfl (by omega)) (by rfl) rfl ?_
      refine so_pure (opv_load_fld (enc := pc) (v := dv) (i := k) (u := rb) (fo := 0) (w := .pointer (some ⟨rb, 0, none⟩)) pc_len (by rfl) na74 (by repeat (first | exact Pk.here _ | apply Pk.there)) hrb rfl) (by rfl) rfl ?_
      refine so_pure (opv_nilCheck (by rfl)) (by rfl) rfl ?_
      refine so_pure (opv_fieldAddr (by rfl) fld78_1) (by rfl) rfl ?_
      refine so_pure (opv_load (by rfl) na76 (rd_pk (by repeat (first | exact Pk.here _ | apply Pk.there))) (by rfl)) (by rfl) rfl ?_
      refine so_pure (opv_move (by rfl)) (by rfl) rfl ?_
      refine so_pure (opv_indexAddr_sv (i := i) (v := wv) (n := D.ws.length) (by rfl) hwv (by rfl) Try.underlying76 ti81 rfl hlt) (by rfl) rfl ?_
      refine so_pure (opv_fieldAddr (by rfl) fld81_0) (by rfl) rfl ?_
      refine so_pure (opv_load_fld (enc := Wr.cells) (v := wv) (i := i) (u := x) (fo := 0) (w := .int .i64 x.n) Wr.cells_len (by rfl) na3 (by repeat (first | exact Pk.here _ | apply Pk.there)) hx rfl) (by rfl) rfl ?_
      refine so_pure (opv_move (by rfl)) (by rfl) rfl ?_
      refine so_pure (opv_cmp (by rfl) (by rfl) (by rfl)) (by rfl) rfl ?_
      refine jo_nil ?_
      refine jk_then ?_
      refine sk_split (x := 61) (by rfl) (fun h43 => ?_) (fun h43 => ?_)
      · first | have p43 := of_decide_eq_true h43 | have p43 := of_decide_eq_false h43 | have p43 := ndT h43 | have p43 := ndF h43 | have p43 := nbT h43 | have p43 := nbF h43 | have p43 := h43
        refine sc_true (by rfl) h43 ?_
        refine sc_region ?_
        refine so_pure (opv_move (by rfl)) (by rfl) rfl ?_
        refine so_pure (opv_nilCheck (by rfl)) (by rfl) rfl ?_
        refine so_pure (opv_fieldAddr (by rfl) fld73_0) (by rfl) rfl ?_
        refine so_pure (opv_load (by rfl) na71 (rd_pk (by repeat (first | exact Pk.here _ | apply Pk.there))) (by rfl)) (by rfl) rfl ?_
        refine so_pure (opv_move (by rfl)) (by rfl) rfl ?_
        refine so_pure (opv_indexAddr_sv (i := k) (v := dv) (n := 12) (by rfl) hdv (by rfl) Try.underlying71 ti74 rfl (by omega)) (by rfl) rfl ?_
        refine so_pure (opv_load_fld (enc := pc) (v := dv) (i := k) (u := rb) (fo := 0) (w := .pointer (some ⟨rb, 0, none⟩)) pc_len (by rfl) na74 (by repeat (first | exact Pk.here _ | apply Pk.there)) hrb rfl) (by rfl) rfl ?_
        refine so_pure (opv_nilCheck (by rfl)) (by rfl) rfl ?_
        refine so_pure (opv_fieldAddr (by rfl) fld78_1) (by rfl) rfl ?_
        refine so_pure (opv_load (by rfl) na76 (rd_pk (by repeat (first | exact Pk.here _ | apply Pk.there))) (by rfl)) (by rfl) rfl ?_
        refine so_pure (opv_move (by rfl)) (by rfl) rfl ?_
        refine so_pure (opv_indexAddr_sv (i := i) (v := wv) (n := D.ws.length) (by rfl) hwv (by rfl) Try.underlying76 ti81 rfl hlt) (by rfl) rfl ?_
        refine so_pure (opv_fieldAddr (by rfl) fld81_1) (by rfl) rfl ?_
        refine so_pure (opv_load_fld (enc := Wr.cells) (v := wv) (i := i) (u := x) (fo := 1) (w := .string x.s) Wr.cells_len (by rfl) na9 (by repeat (first | exact Pk.here _ | apply Pk.there)) hx rfl) (by rfl) rfl ?_
        refine so_pure (opv_assign (by rfl)) (by rfl) rfl ?_
        refine jo_nil ?_
        refine jk_block ?_
        refine jk_then ?_
        refine sc_region ?_
        refine so_pure (opv_move (by rfl)) (by rfl) rfl ?_
        refine so_pure (opv_add (by rfl) (by rfl) (wrap64_ok (by omega))) (by rfl) rfl ?_
        refine so_pure (opv_assign (by rfl)) (by rfl) rfl ?_
        refine jo_nil ?_
        refine jk_round (i + 1, x.s) ⟨by omega, by rw [rdT_succ hx, if_pos p43]⟩ (by show D.ws.length - (i + 1) < D.ws.length - i; omega) ⟨rfl, rfl, rfl, rfl, rfl, trivial⟩ (fun w hw => ?_)
        show St _ _ (blk rb (.cells #[lv, wv, .bool (lostB (some D))] 78 (0, 0)) :: own lv 9 1 112 ((lK D.kp).flatMap sc) :: own wv 81 2 D.ws.length (D.ws.flatMap Wr.cells) :: grp ((List.zipWith rdI rps ds).eraseIdx k) :: blk bk (.cells #[dv] 73 (0, 0)) :: own dv 74 1 12 (rps.flatMap pc) :: Fr) _
        exact St.keep (Sb := [blk rb (.cells #[lv, wv, .bool (lostB (some D))] 78 (0, 0)), own lv 9 1 112 ((lK D.kp).flatMap sc), own wv 81 2 D.ws.length (D.ws.flatMap Wr.cells), grp ((List.zipWith rdI rps ds).eraseIdx k), blk bk (.cells #[dv] 73 (0, 0)), own dv 74 1 12 (rps.flatMap pc)]) hw (by repeat (first | exact Pks.nil _ | exact Pk.here _ | apply Pk.there | apply Pks.cons)) (by repeat (first | exact Tl.here _ | apply Tl.there))
      · first | have p43 := of_decide_eq_true h43 | have p43 := of_decide_eq_false h43 | have p43 := ndT h43 | have p43 := ndF h43 | have p43 := nbT h43 | have p43 := nbF h43 | have p43 := h43
        refine sc_false (by rfl) h43 ?_
        refine jc_skip ?_
        refine jk_block ?_
        refine jk_then ?_
        refine sc_region ?_
        refine so_pure (opv_move (by rfl)) (by rfl) rfl ?_
        refine so_pure (opv_add (by rfl) (by rfl) (wrap64_ok (by omega))) (by rfl) rfl ?_
        refine so_pure (opv_assign (by rfl)) (by rfl) rfl ?_
        refine jo_nil ?_
        refine jk_round (i + 1, t) ⟨by omega, by rw [rdT_succ hx, if_neg p43]; exact htt⟩ (by show D.ws.length - (i + 1) < D.ws.length - i; omega) ⟨rfl, rfl, rfl, rfl, rfl, trivial⟩ (fun w hw => ?_)
        show St _ _ (blk rb (.cells #[lv, wv, .bool (lostB (some D))] 78 (0, 0)) :: own lv 9 1 112 ((lK D.kp).flatMap sc) :: own wv 81 2 D.ws.length (D.ws.flatMap Wr.cells) :: grp ((List.zipWith rdI rps ds).eraseIdx k) :: blk bk (.cells #[dv] 73 (0, 0)) :: own dv 74 1 12 (rps.flatMap pc) :: Fr) _
        exact St.keep (Sb := [blk rb (.cells #[lv, wv, .bool (lostB (some D))] 78 (0, 0)), own lv 9 1 112 ((lK D.kp).flatMap sc), own wv 81 2 D.ws.length (D.ws.flatMap Wr.cells), grp ((List.zipWith rdI rps ds).eraseIdx k), blk bk (.cells #[dv] 73 (0, 0)), own dv 74 1 12 (rps.flatMap pc)]) hw (by repeat (first | exact Pks.nil _ | exact Pk.here _ | apply Pk.there | apply Pks.cons)) (by repeat (first | exact Tl.here _ | apply Tl.there))
    · first | have p30 := of_decide_eq_true h30 | have p30 := of_decide_eq_false h30 | have p30 := ndT h30 | have p30 := ndF h30 | have p30 := nbT h30 | have p30 := nbF h30 | have p30 := h30
      refine sc_false (by rfl) h30 ?_
      refine jc_exit ?_
      refine jk_then_exit ?_
      refine jk_then_exit ?_
      refine jk_block_exit ?_
      refine jk_then ?_
      refine jc_seq ?_
      refine sc_region ?_
      refine so_pure (opv_move (by rfl)) (by rfl) rfl ?_
      refine so_pure (opv_assign (by rfl)) (by rfl) rfl ?_
      refine so_pure (opv_assign (by rfl)) (by rfl) rfl ?_
      refine jo_nil ?_
      refine jk_then ?_
      refine jc_ret ?_
      refine jk_fn_ret2 rfl rfl (by rfl) (by rfl) (fun w hw => ?_)
      have ei : i = D.ws.length := by omega
      unfold rdT at htt
      rw [ei, List.take_length] at htt
      rw [rdD_ok hc0 hD, hc0, ← htt]
      have hw2 := (St.keep (Sb := [blk rb (.cells #[lv, wv, .bool (lostB (some D))] 78 (0, 0)), own lv 9 1 112 ((lK (kpOf (some D))).flatMap sc), own wv 81 2 (wsOf (some D)).length ((wsOf (some D)).flatMap Wr.cells)]) hw (by repeat (first | exact Pks.nil _ | exact Pk.here _ | apply Pk.there | apply Pks.cons)) (Tl.here _))
      have hw3 := rfocus_same hrb hD (St.keep (Sb := [rdI rb (some D), grp ((List.zipWith rdI rps ds).eraseIdx k)]) (rd_mk hw2) (by repeat (first | exact Pks.nil _ | exact Pk.here _ | apply Pk.there | apply Pks.cons)) (Tl.here _))
      exact ⟨rfl, St.keep (Sb := [blk bk (.cells #[dv] 73 (0, 0)), own dv 74 1 12 (rps.flatMap pc), grp (List.zipWith rdI rps ds)]) hw3 (by repeat (first | exact Pks.nil _ | exact Pk.here _ | apply Pk.there | apply Pks.cons)) (by repeat (first | exact Tl.here _ | apply Tl.there))⟩
end Go.Disks
