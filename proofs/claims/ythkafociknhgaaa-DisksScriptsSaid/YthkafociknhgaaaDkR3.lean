/- A part of a proof for the laws of the seat Ythkafociknhgaaa; it has no conditions of its own. -/
import Derived.Test.YthkafociknhgaaaDkR2
namespace Go.Disks
open Go Go.SL Go.Proofs
set_option maxHeartbeats 4000000 in
theorem rflush_spec {w0 w : World} {M : Nat → Prop} {Fr : List Itm} {bk : Nat} {dv : Value} {rps : List Nat} {ds : List DD} (d : Int) (hst : St w0 M (blk bk (.cells #[dv] 73 (0, 0)) :: own dv 74 1 12 (rps.flatMap pc) :: grp (List.zipWith rdI rps ds) :: Fr) w) (hlp : rps.length = 12) (hld : ds.length = 12) {N : Nat} (hwb : WB ds N) (hN : N ≤ 100000) (hwn : WN ds) : Does Try.prog 39 #[.pointer (some ⟨bk, 0, none⟩), .int .i64 d] w (fun v w' => v = .int .i64 (chk ds d 0 0) ∧ St w0 M (blk bk (.cells #[dv] 73 (0, 0)) :: own dv 74 1 12 (rps.flatMap pc) :: grp (List.zipWith rdI rps (onD ds d 0 0 (settleD whole))) :: Fr) w') := by
  refine fn_bodyX (fn := Try.f39) Try.func39 rfl [(0, .pointer (some ⟨bk, 0, none⟩)), (1, .int .i64 d)] (by exact ⟨rfl, rfl, trivial⟩) rfl hst ?_
  refine jc_seq ?_
  refine sc_region ?_
  refine so_pure (opv_assign (by rfl)) (by rfl) rfl ?_
  refine jo_nil ?_
  refine jk_then ?_
  refine jc_seq ?_
  refine sc_region ?_
  refine so_pure (opv_move (by rfl)) (by rfl) rfl ?_
  refine so_pure (opv_move (by rfl)) (by rfl) rfl ?_
  refine so_eff (eff_callF [blk bk (.cells #[dv] 73 (0, 0)), own dv 74 1 12 (rps.flatMap pc), grp (List.zipWith rdI rps ds)] (fl := []) (cl := []) (G := fun v Is' => v = .int .i64 (chk ds d 0 0) ∧ Is' = [blk bk (.cells #[dv] 73 (0, 0)), own dv 74 1 12 (rps.flatMap pc), grp (List.zipWith rdI rps ds)]) (by rfl) (by rfl) tx43 (by repeat (first | exact Pks.nil _ | exact Pk.here _ | apply Pk.there | apply Pks.cons)) (by exact fun w1 hw1 => (rcheck_spec d 0 ⟨#[]⟩ hw1 hlp hld).mono (fun _ _ ⟨hv, hst⟩ => ⟨_, ⟨hv, rfl⟩, hst⟩))) (by rfl) rfl ?_
  rintro _ _ ⟨_, ⟨rfl, rfl⟩, rfl⟩
  refine so_pure (opv_assign (by rfl)) (by rfl) rfl ?_
  refine jo_nil ?_
  refine jk_then ?_
  refine jc_seq ?_
  refine jc_seq ?_
  refine sc_region ?_
  refine so_pure (opv_move (by rfl)) (by rfl) rfl ?_
  refine so_pure (opv_cmp (by rfl) (by rfl) (by rfl)) (by rfl) rfl ?_
  refine jo_nil ?_
  refine jk_then ?_
  refine sk_split (x := 12) (by rfl) (fun h5 => ?_) (fun h5 => ?_)
  · first | have p5 := of_decide_eq_true h5 | have p5 := of_decide_eq_false h5 | have p5 := ndT h5 | have p5 := ndF h5 | have p5 := nbT h5 | have p5 := nbF h5 | have p5 := h5
    refine sc_true (by rfl) h5 ?_
    refine jc_seq ?_
    refine sc_region ?_
    refine so_pure (opv_move (by rfl)) (by rfl) rfl ?_
    refine so_pure (opv_assign (by rfl)) (by rfl) rfl ?_
    refine jo_nil ?_
    refine jk_then ?_
    refine jc_ret ?_
    refine jk_then_ret ?_
    refine jk_fn_ret rfl rfl (by rfl) (fun w hw => ?_)
    rw [onD_no p5]
    exact ⟨rfl, hw⟩
  · first | have p5 := of_decide_eq_true h5 | have p5 := of_decide_eq_false h5 | have p5 := ndT h5 | have p5 := ndF h5 | have p5 := nbT h5 | have p5 := nbF h5 | have p5 := h5
    refine sc_false (by rfl) h5 ?_
    refine jc_skip ?_
    refine jk_then ?_
    refine jc_seq ?_
    have hc0 : chk ds d 0 0 = 0 := p5
    obtain ⟨k, D, rfl, hk12, hD, hn0, hn1, hsz⟩ := chk_ok hld hc0
    obtain ⟨rb, hrb⟩ : ∃ rb, rps[k]? = some rb := ⟨rps[k], List.getElem?_eq_getElem (by omega)⟩
    refine jk_focus (d := k) (by repeat (first | exact Pk.here _ | apply Pk.there)) (rzip_get hrb hD) ?_
    refine jk_rd_open (D := (some D)) (by repeat (first | exact Pk.here _ | apply Pk.there)) (fun lv wv => ?_)
    show Jk _ _ _ (blk rb (.cells #[lv, wv, .bool (lostB (some D))] 78 (0, 0)) :: own lv 9 1 112 ((lK D.kp).flatMap sc) :: own wv 81 2 D.ws.length (D.ws.flatMap Wr.cells) :: _)
    refine jk_sv (v := dv) (by repeat (first | exact Pk.here _ | apply Pk.there)) (fun hdv => ?_)
    refine jk_sv (v := lv) (by repeat (first | exact Pk.here _ | apply Pk.there)) (fun hlv => ?_)
    refine jk_sv (v := wv) (by repeat (first | exact Pk.here _ | apply Pk.there)) (fun hwv => ?_)
    have hwl := (hwb k D hD).1
    refine sc_region ?_
    refine so_pure (opv_move (by rfl)) (by rfl) rfl ?_
    refine so_pure (opv_nilCheck (by rfl)) (by rfl) rfl ?_
    refine so_pure (opv_fieldAddr (by rfl) fld73_0) (by rfl) rfl ?_
    refine so_pure (opv_load (by rfl) na71 (rd_pk (by repeat (first | exact Pk.here _ | apply Pk.there))) (by rfl)) (by rfl) rfl ?_
    refine so_pure (opv_move (by rfl)) (by rfl) rfl ?_
    refine so_pure (opv_indexAddr_sv (i := k) (v := dv) (n := 12) (by rfl) hdv (by rfl) Try.underlying71 ti74 rfl (by omega)) (by rfl) rfl ?_
    refine so_pure (opv_load_fld (enc := pc) (v := dv) (i := k) (u := rb) (fo := 0) (w := .pointer (some ⟨rb, 0, none⟩)) pc_len (by rfl) na74 (by repeat (first | exact Pk.here _ | apply Pk.there)) hrb rfl) (by rfl) rfl ?_
    refine so_pure (opv_assign (by rfl)) (by rfl) rfl ?_
    refine jo_nil ?_
    refine jk_then ?_
    refine jc_seq ?_
    refine jc_seq ?_
    refine sc_region ?_
    refine so_pure (opv_assign (by rfl)) (by rfl) rfl ?_
    refine jo_nil ?_
    refine jk_then ?_
    refine jc_block ?_
    refine jc_loop (σ := Nat) (fun j => [(0, .pointer (some ⟨bk, 0, none⟩)), (1, .int .i64 (k : Int)), (6, .pointer (some ⟨rb, 0, none⟩)), (7, .int .i64 j)]) (fun j => (blk rb (.cells #[lv, wv, .bool (lostB (some D))] 78 (0, 0)) :: own lv 9 1 112 ((lK (settleK whole D.kp D.ws j)).flatMap sc) :: own wv 81 2 D.ws.length (D.ws.flatMap Wr.cells) :: grp ((List.zipWith rdI rps ds).eraseIdx k) :: blk bk (.cells #[dv] 73 (0, 0)) :: own dv 74 1 12 (rps.flatMap pc) :: Fr)) (fun j => (j ≤ D.ws.length) ∧ (True)) (fun j => D.ws.length - j) 0 ⟨Nat.zero_le _, trivial⟩ ⟨rfl, rfl, rfl, rfl, trivial⟩ (fun w hw => hw) ?_
    rintro j ⟨hj, ht⟩
    show Jc _ _ [(0, .pointer (some ⟨bk, 0, none⟩)), (1, .int .i64 (k : Int)), (6, .pointer (some ⟨rb, 0, none⟩)), (7, .int .i64 j)] (blk rb (.cells #[lv, wv, .bool (lostB (some D))] 78 (0, 0)) :: own lv 9 1 112 ((lK (settleK whole D.kp D.ws j)).flatMap sc) :: own wv 81 2 D.ws.length (D.ws.flatMap Wr.cells) :: grp ((List.zipWith rdI rps ds).eraseIdx k) :: blk bk (.cells #[dv] 73 (0, 0)) :: own dv 74 1 12 (rps.flatMap pc) :: Fr) _
    refine jc_seq ?_
    refine jc_seq ?_
    refine sc_region ?_
    refine so_pure (opv_move (by rfl)) (by rfl) rfl ?_
    refine so_pure (opv_move (by rfl)) (by rfl) rfl ?_
    refine so_pure (opv_nilCheck (by rfl)) (by rfl) rfl ?_
    refine so_pure (opv_fieldAddr (by rfl) fld78_1) (by rfl) rfl ?_
    refine so_pure (opv_load (by rfl) na76 (rd_pk (by repeat (first | exact Pk.here _ | apply Pk.there))) (by rfl)) (by rfl) rfl ?_
    refine so_pure (opv_len_sv (v := wv) (n := D.ws.length) (by rfl) hwv Try.underlying76) (by rfl) rfl ?_
    refine so_pure (opv_cmp (by rfl) (by rfl) (by rfl)) (by rfl) rfl ?_
    refine jo_nil ?_
    refine jk_then ?_
    refine sk_split (x := 27) (by rfl) (fun h17 => ?_) (fun h17 => ?_)
    · first | have p17 := of_decide_eq_true h17 | have p17 := of_decide_eq_false h17 | have p17 := ndT h17 | have p17 := ndF h17 | have p17 := nbT h17 | have p17 := nbF h17 | have p17 := h17
      refine sc_true (by rfl) h17 ?_
      refine jc_skip ?_
      refine jk_then ?_
      refine jc_seq ?_
      refine jc_block ?_
      have hlt : j < D.ws.length := by omega
      obtain ⟨x, hx⟩ : ∃ x, D.ws[j]? = some x := ⟨D.ws[j], List.getElem?_eq_getElem hlt⟩
      have hxr := hwn k D hD x (List.mem_of_getElem? hx)
      obtain ⟨m, hm⟩ : ∃ m : Nat, x.n = m := ⟨x.n.toNat, by omega⟩
      have hm112 : m < 112 := by omega
      refine so_draw [] (by kernel_rfl) (by kernel_rfl) (by kernel_rfl) rfl (by rfl) (fun hap htm => ?_)
      refine da_any hap htm (i := 0) (by rfl) (by kernel_rfl) (by rfl) (listed' := #[true, false, false, false, false, false, false, false, false, false, false, false, false, false, false, false, false, false, false, false, false, false]) (by rfl) (fun _ => (opv_move (by rfl))) (by rfl) rfl ?_
      refine da_any hap htm (i := 1) (by rfl) (by kernel_rfl) (by rfl) (listed' := #[true, true, false, false, false, false, false, false, false, false, false, false, false, false, false, false, false, false, false, false, false, false]) (by rfl) (fun _ => (opv_nilCheck (by rfl))) (by rfl) rfl ?_
      refine da_any hap htm (i := 2) (by rfl) (by kernel_rfl) (by rfl) (listed' := #[true, true, true, false, false, false, false, false, false, false, false, false, false, false, false, false, false, false, false, false, false, false]) (by rfl) (fun _ => (opv_fieldAddr (by rfl) fld78_0)) (by rfl) rfl ?_
      refine da_now [20, 21] hap htm (i := 3) (by rfl) (by kernel_rfl) (by rfl) (listed' := #[true, true, true, true, false, false, false, false, false, false, false, false, false, false, false, false, false, false, false, false, false, false]) (by rfl) (by kernel_rfl) (by kernel_rfl) (opv_load (by rfl) na75 (rd_pk (by repeat (first | exact Pk.here _ | apply Pk.there))) (by rfl)) (by rfl) rfl ?_
      refine da_any hap htm (i := 4) (by rfl) (by kernel_rfl) (by rfl) (listed' := #[true, true, true, true, true, false, false, false, false, false, false, false, false, false, false, false, false, false, false, false, false, false]) (by rfl) (fun _ => (opv_move (by rfl))) (by rfl) rfl ?_
      refine da_any hap htm (i := 5) (by rfl) (by kernel_rfl) (by rfl) (listed' := #[true, true, true, true, true, true, false, false, false, false, false, false, false, false, false, false, false, false, false, false, false, false]) (by rfl) (fun _ => (opv_nilCheck (by rfl))) (by rfl) rfl ?_
      refine da_any hap htm (i := 6) (by rfl) (by kernel_rfl) (by rfl) (listed' := #[true, true, true, true, true, true, true, false, false, false, false, false, false, false, false, false, false, false, false, false, false, false]) (by rfl) (fun _ => (opv_fieldAddr (by rfl) fld78_1)) (by rfl) rfl ?_
      refine da_now [9, 10, 11, 20, 21] hap htm (i := 7) (by rfl) (by kernel_rfl) (by rfl) (listed' := #[true, true, true, true, true, true, true, true, false, false, false, false, false, false, false, false, false, false, false, false, false, false]) (by rfl) (by kernel_rfl) (by kernel_rfl) (opv_load (by rfl) na76 (rd_pk (by repeat (first | exact Pk.here _ | apply Pk.there))) (by rfl)) (by rfl) rfl ?_
      refine da_any hap htm (i := 8) (by rfl) (by kernel_rfl) (by rfl) (listed' := #[true, true, true, true, true, true, true, true, true, false, false, false, false, false, false, false, false, false, false, false, false, false]) (by rfl) (fun _ => (opv_move (by rfl))) (by rfl) rfl ?_
      refine da_any hap htm (i := 9) (by rfl) (by kernel_rfl) (by rfl) (listed' := #[true, true, true, true, true, true, true, true, true, true, false, false, false, false, false, false, false, false, false, false, false, false]) (by rfl) (fun _ => (opv_indexAddr_sv (i := j) (v := wv) (n := D.ws.length) (by rfl) hwv (by rfl) Try.underlying76 ti81 rfl hlt)) (by rfl) rfl ?_
      refine da_any hap htm (i := 10) (by rfl) (by kernel_rfl) (by rfl) (listed' := #[true, true, true, true, true, true, true, true, true, true, true, false, false, false, false, false, false, false, false, false, false, false]) (by rfl) (fun _ => (opv_fieldAddr (by rfl) fld81_0)) (by rfl) rfl ?_
      refine da_now [20, 21] hap htm (i := 11) (by rfl) (by kernel_rfl) (by rfl) (listed' := #[true, true, true, true, true, true, true, true, true, true, true, true, false, false, false, false, false, false, false, false, false, false]) (by rfl) (by kernel_rfl) (by kernel_rfl) (opv_load_fld (enc := Wr.cells) (v := wv) (i := j) (u := x) (fo := 0) (w := .int .i64 x.n) Wr.cells_len (by rfl) na3 (by repeat (first | exact Pk.here _ | apply Pk.there)) hx rfl) (by rfl) rfl ?_
      refine da_any hap htm (i := 12) (by rfl) (by kernel_rfl) (by rfl) (listed' := #[true, true, true, true, true, true, true, true, true, true, true, true, true, false, false, false, false, false, false, false, false, false]) (by rfl) (fun _ => (opv_move (by rfl))) (by rfl) rfl ?_
      refine da_any hap htm (i := 13) (by rfl) (by kernel_rfl) (by rfl) (listed' := #[true, true, true, true, true, true, true, true, true, true, true, true, true, true, false, false, false, false, false, false, false, false]) (by rfl) (fun _ => (opv_nilCheck (by rfl))) (by rfl) rfl ?_
      refine da_any hap htm (i := 14) (by rfl) (by kernel_rfl) (by rfl) (listed' := #[true, true, true, true, true, true, true, true, true, true, true, true, true, true, true, false, false, false, false, false, false, false]) (by rfl) (fun _ => (opv_fieldAddr (by rfl) fld78_1)) (by rfl) rfl ?_
      refine da_now [17, 18, 19, 20, 21] hap htm (i := 15) (by rfl) (by kernel_rfl) (by rfl) (listed' := #[true, true, true, true, true, true, true, true, true, true, true, true, true, true, true, true, false, false, false, false, false, false]) (by rfl) (by kernel_rfl) (by kernel_rfl) (opv_load (by rfl) na76 (rd_pk (by repeat (first | exact Pk.here _ | apply Pk.there))) (by rfl)) (by rfl) rfl ?_
      refine da_any hap htm (i := 16) (by rfl) (by kernel_rfl) (by rfl) (listed' := #[true, true, true, true, true, true, true, true, true, true, true, true, true, true, true, true, true, false, false, false, false, false]) (by rfl) (fun _ => (opv_move (by rfl))) (by rfl) rfl ?_
      refine da_any hap htm (i := 17) (by rfl) (by kernel_rfl) (by rfl) (listed' := #[true, true, true, true, true, true, true, true, true, true, true, true, true, true, true, true, true, true, false, false, false, false]) (by rfl) (fun _ => (opv_indexAddr_sv (i := j) (v := wv) (n := D.ws.length) (by rfl) hwv (by rfl) Try.underlying76 ti81 rfl hlt)) (by rfl) rfl ?_
      refine da_any hap htm (i := 18) (by rfl) (by kernel_rfl) (by rfl) (listed' := #[true, true, true, true, true, true, true, true, true, true, true, true, true, true, true, true, true, true, true, false, false, false]) (by rfl) (fun _ => (opv_fieldAddr (by rfl) fld81_1)) (by rfl) rfl ?_
      refine da_now [20, 21] hap htm (i := 19) (by rfl) (by kernel_rfl) (by rfl) (listed' := #[true, true, true, true, true, true, true, true, true, true, true, true, true, true, true, true, true, true, true, true, false, false]) (by rfl) (by kernel_rfl) (by kernel_rfl) (opv_load_fld (enc := Wr.cells) (v := wv) (i := j) (u := x) (fo := 1) (w := .string x.s) Wr.cells_len (by rfl) na9 (by repeat (first | exact Pk.here _ | apply Pk.there)) hx rfl) (by rfl) rfl ?_
      refine da_any hap htm (i := 20) (by rfl) (by kernel_rfl) (by rfl) (listed' := #[true, true, true, true, true, true, true, true, true, true, true, true, true, true, true, true, true, true, true, true, true, false]) (by rfl) (fun _ => (opv_indexAddr_sv (i := m) (v := lv) (n := 112) (by rfl) hlv (by rfl) Try.underlying75 ti9 hm hm112)) (by rfl) rfl ?_
      refine da_eff0 (i := 21) (by rfl) (by kernel_rfl) (by rfl) (listed' := #[true, true, true, true, true, true, true, true, true, true, true, true, true, true, true, true, true, true, true, true, true, true]) (by rfl) (eff_store_elem (enc := sc) (v := lv) (i := m) (q := x.s) (vs := [.string x.s]) (fo := 0) sc_len (by rfl) (by rfl) (by rfl) ti9 (by rfl) (by repeat (first | exact Pk.here _ | apply Pk.there)) (lK_len _).symm (lK_get hm112) (by exact Nat.le_refl _) rfl (by rfl)) (fun _ _ _ _ hw => cw_nil hw) (by rfl) ?_
      rintro _ _ ⟨rfl, rfl⟩
      refine da_done (by kernel_rfl) ?_
      refine jk_block ?_
      refine jk_then ?_
      refine sc_region ?_
      refine so_pure (opv_move (by rfl)) (by rfl) rfl ?_
      refine so_pure (opv_add (by rfl) (by rfl) (wrap64_ok (by omega))) (by rfl) rfl ?_
      refine so_pure (opv_assign (by rfl)) (by rfl) rfl ?_
      refine jo_nil ?_
      have e1 : (settleK whole D.kp D.ws (j + 1)) = setL (settleK whole D.kp D.ws j) (m : Int) x.s := by rw [settleK_succ hx]; show setL _ x.n x.s = _; rw [hm]
      refine jk_round (j + 1) ⟨by omega, trivial⟩ (by show D.ws.length - (j + 1) < D.ws.length - j; omega) ⟨rfl, rfl, rfl, rfl, trivial⟩ (fun w hw => ?_)
      show St _ _ (blk rb (.cells #[lv, wv, .bool (lostB (some D))] 78 (0, 0)) :: own lv 9 1 112 ((lK (settleK whole D.kp D.ws (j + 1))).flatMap sc) :: own wv 81 2 D.ws.length (D.ws.flatMap Wr.cells) :: grp ((List.zipWith rdI rps ds).eraseIdx k) :: blk bk (.cells #[dv] 73 (0, 0)) :: own dv 74 1 12 (rps.flatMap pc) :: Fr) _
      rw [e1, ← lK_set _ hm112]
      exact St.keep (Sb := [blk rb (.cells #[lv, wv, .bool (lostB (some D))] 78 (0, 0)), own lv 9 1 112 (((lK (settleK whole D.kp D.ws j)).set m x.s).flatMap sc), own wv 81 2 D.ws.length (D.ws.flatMap Wr.cells), grp ((List.zipWith rdI rps ds).eraseIdx k), blk bk (.cells #[dv] 73 (0, 0)), own dv 74 1 12 (rps.flatMap pc)]) hw (by repeat (first | exact Pks.nil _ | exact Pk.here _ | apply Pk.there | apply Pks.cons)) (by repeat (first | exact Tl.here _ | apply Tl.there))
    · first | have p17 := of_decide_eq_true h17 | have p17 := of_decide_eq_false h17 | have p17 := ndT h17 | have p17 := ndF h17 | have p17 := nbT h17 | have p17 := nbF h17 | have p17 := h17
      refine sc_false (by rfl) h17 ?_
      refine jc_exit ?_
      refine jk_then_exit ?_
      refine jk_then_exit ?_
      refine jk_block_exit ?_
      refine jk_then ?_
      refine jc_seq ?_
      refine sc_region ?_
      refine so_pure (opv_move (by rfl)) (by rfl) rfl ?_
      refine so_pure (opv_nilCheck (by rfl)) (by rfl) rfl ?_
      refine so_pure (opv_fieldAddr (by rfl) fld78_1) (by rfl) rfl ?_
      refine so_eff0 (eff_store (vs := [.slice none 0 0]) (by rfl) (by rfl) (by rfl) ti76 (by rfl) (by repeat (first | exact Pk.here _ | apply Pk.there)) (by exact Nat.le_of_ble_eq_true rfl) (by rfl)) (by rfl) ?_
      rintro _ _ ⟨rfl, rfl⟩
      refine jo_nil ?_
      refine jk_then ?_
      refine jc_seq ?_
      refine sc_region ?_
      refine so_pure (opv_assign (by rfl)) (by rfl) rfl ?_
      refine jo_nil ?_
      refine jk_then ?_
      refine jc_ret ?_
      refine jk_fn_ret rfl rfl (by rfl) (fun w hw => ?_)
      have ej : j = D.ws.length := by omega
      subst ej
      rw [onD_ok hc0 hD, hc0]
      have hw1 := St.own_nil (St.keep (Sb := [blk rb (.cells #[lv, .slice none 0 0, .bool (lostB (some D))] 78 (0, 0)), own lv 9 1 112 ((lK (settleK whole D.kp D.ws D.ws.length)).flatMap sc)]) hw (by repeat (first | exact Pks.nil _ | exact Pk.here _ | apply Pk.there | apply Pks.cons)) (Tl.here _)) 81 2
      have hw3 := rfocus_back hrb (by omega) (St.keep (Sb := [rdI rb (some (settleD whole D)), grp ((List.zipWith rdI rps ds).eraseIdx k)]) (rd_mk (D := some (settleD whole D)) (St.keep (Sb := [blk rb (.cells #[lv, .slice none 0 0, .bool (lostB (some D))] 78 (0, 0)), own lv 9 1 112 ((lK (settleK whole D.kp D.ws D.ws.length)).flatMap sc), own (.slice none 0 0) 81 2 ([] : List Wr).length (([] : List Wr).flatMap Wr.cells)]) hw1 (by repeat (first | exact Pks.nil _ | exact Pk.here _ | apply Pk.there | apply Pks.cons)) (Tl.here _))) (by repeat (first | exact Pks.nil _ | exact Pk.here _ | apply Pk.there | apply Pks.cons)) (Tl.here _))
      exact ⟨rfl, St.keep (Sb := [blk bk (.cells #[dv] 73 (0, 0)), own dv 74 1 12 (rps.flatMap pc), grp (List.zipWith rdI rps (ds.set k (some (settleD whole D))))]) hw3 (by repeat (first | exact Pks.nil _ | exact Pk.here _ | apply Pk.there | apply Pks.cons)) (by repeat (first | exact Tl.here _ | apply Tl.there))⟩
end Go.Disks
