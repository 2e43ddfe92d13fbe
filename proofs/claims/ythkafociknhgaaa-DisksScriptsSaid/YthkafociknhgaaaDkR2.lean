/- A part of a proof for the laws of the seat Ythkafociknhgaaa; it has no conditions of its own. -/
import Derived.Test.YthkafociknhgaaaDkR1
namespace Go.Disks
open Go Go.SL Go.Proofs
set_option maxHeartbeats 4000000 in
theorem rwrite_spec {w0 w : World} {M : Nat → Prop} {Fr : List Itm} {bk : Nat} {dv : Value} {rps : List Nat} {ds : List DD} (d n : Int) (s : ByteArray) (hst : St w0 M (blk bk (.cells #[dv] 73 (0, 0)) :: own dv 74 1 12 (rps.flatMap pc) :: grp (List.zipWith rdI rps ds) :: Fr) w) (hlp : rps.length = 12) (hld : ds.length = 12) {N : Nat} (hwb : WB ds N) (hN : N ≤ 100000) (hwn : WN ds) : Does Try.prog 38 #[.pointer (some ⟨bk, 0, none⟩), .int .i64 d, .int .i64 n, .string s] w (fun v w' => v = .int .i64 (chk ds d n s.size) ∧ St w0 M (blk bk (.cells #[dv] 73 (0, 0)) :: own dv 74 1 12 (rps.flatMap pc) :: grp (List.zipWith rdI rps (onD ds d n s.size (fun D => { D with ws := D.ws ++ [⟨n, s⟩] }))) :: Fr) w') := by
  refine fn_bodyX (fn := Try.f38) Try.func38 rfl [(0, .pointer (some ⟨bk, 0, none⟩)), (1, .int .i64 d), (2, .int .i64 n), (3, .string s)] (by exact ⟨rfl, rfl, rfl, rfl, trivial⟩) rfl hst ?_
  refine jc_seq ?_
  refine sc_region ?_
  refine so_pure (opv_assign (by rfl)) (by rfl) rfl ?_
  refine jo_nil ?_
  refine jk_then ?_
  refine jc_seq ?_
  refine sc_region ?_
  refine so_pure (opv_move (by rfl)) (by rfl) rfl ?_
  refine so_pure (opv_move (by rfl)) (by rfl) rfl ?_
  refine so_pure (opv_move (by rfl)) (by rfl) rfl ?_
  refine so_pure (opv_move (by rfl)) (by rfl) rfl ?_
  refine so_eff (eff_callF [blk bk (.cells #[dv] 73 (0, 0)), own dv 74 1 12 (rps.flatMap pc), grp (List.zipWith rdI rps ds)] (fl := []) (cl := []) (G := fun v Is' => v = .int .i64 (chk ds d n s.size) ∧ Is' = [blk bk (.cells #[dv] 73 (0, 0)), own dv 74 1 12 (rps.flatMap pc), grp (List.zipWith rdI rps ds)]) (by rfl) (by rfl) tx43 (by repeat (first | exact Pks.nil _ | exact Pk.here _ | apply Pk.there | apply Pks.cons)) (by exact fun w1 hw1 => (rcheck_spec d n s hw1 hlp hld).mono (fun _ _ ⟨hv, hst⟩ => ⟨_, ⟨hv, rfl⟩, hst⟩))) (by rfl) rfl ?_
  rintro _ _ ⟨_, ⟨rfl, rfl⟩, rfl⟩
  refine so_pure (opv_assign (by rfl)) (by rfl) rfl ?_
  refine jo_nil ?_
  refine jk_then ?_
  refine jc_seq ?_
  refine jc_seq ?_
  refine sc_region ?_
  refine so_pure (opv_move (by rfl)) (by rfl) rfl ?_
  refine so_pure (opv_cmp (by rfl) (by rfl) (by rfl)) (by rfl) rfl ?_
  refine jo_nil ?_
  refine jk_then ?_
  refine sk_split (x := 16) (by rfl) (fun h7 => ?_) (fun h7 => ?_)
  · first | have p7 := of_decide_eq_true h7 | have p7 := of_decide_eq_false h7 | have p7 := ndT h7 | have p7 := ndF h7 | have p7 := nbT h7 | have p7 := nbF h7 | have p7 := h7
    refine sc_true (by rfl) h7 ?_
    have hc0 : chk ds d n s.size = 0 := p7
    obtain ⟨k, D, rfl, hk12, hD, hn0, hn1, hsz⟩ := chk_ok hld hc0
    obtain ⟨rb, hrb⟩ : ∃ rb, rps[k]? = some rb := ⟨rps[k], List.getElem?_eq_getElem (by omega)⟩
    refine jk_focus (d := k) (by repeat (first | exact Pk.here _ | apply Pk.there)) (rzip_get hrb hD) ?_
    refine jk_rd_open (D := (some D)) (by repeat (first | exact Pk.here _ | apply Pk.there)) (fun lv wv => ?_)
    show Jk _ _ _ (blk rb (.cells #[lv, wv, .bool (lostB (some D))] 78 (0, 0)) :: own lv 9 1 112 ((lK D.kp).flatMap sc) :: own wv 81 2 D.ws.length (D.ws.flatMap Wr.cells) :: _)
    refine jk_sv (v := dv) (by repeat (first | exact Pk.here _ | apply Pk.there)) (fun hdv => ?_)
    refine jk_sv (v := lv) (by repeat (first | exact Pk.here _ | apply Pk.there)) (fun hlv => ?_)
    refine jk_sv (v := wv) (by repeat (first | exact Pk.here _ | apply Pk.there)) (fun hwv => ?_)
    have hwl := (hwb k D hD).1
    refine so_draw [blk bk (.cells #[dv] 73 (0, 0)), own dv 74 1 12 (rps.flatMap pc)] (by kernel_rfl) (by kernel_rfl) (by kernel_rfl) rfl (by rfl) (fun hap htm => ?_)
    refine da_any hap htm (i := 0) (by rfl) (by kernel_rfl) (by rfl) (listed' := #[true, false, false, false, false, false, false, false, false, false, false, false, false, false, false, false, false, false, false, false, false, false, false, false, false]) (by rfl) (fun _ => (opv_move (by rfl))) (by rfl) rfl ?_
    refine da_any hap htm (i := 1) (by rfl) (by kernel_rfl) (by rfl) (listed' := #[true, true, false, false, false, false, false, false, false, false, false, false, false, false, false, false, false, false, false, false, false, false, false, false, false]) (by rfl) (fun _ => (opv_nilCheck (by rfl))) (by rfl) rfl ?_
    refine da_any hap htm (i := 2) (by rfl) (by kernel_rfl) (by rfl) (listed' := #[true, true, true, false, false, false, false, false, false, false, false, false, false, false, false, false, false, false, false, false, false, false, false, false, false]) (by rfl) (fun _ => (opv_fieldAddr (by rfl) fld73_0)) (by rfl) rfl ?_
    refine da_free hap htm (i := 3) (by rfl) (by kernel_rfl) (by rfl) (listed' := #[true, true, true, true, false, false, false, false, false, false, false, false, false, false, false, false, false, false, false, false, false, false, false, false, false]) (by rfl) (fun w hw => Pks.cw (by repeat (first | exact Pks.nil _ | exact Pk.here _ | apply Pk.there | apply Pks.cons)) hw) (fun _ => (opv_load (by rfl) na71 (rd_pk (by repeat (first | exact Pk.here _ | apply Pk.there))) (by rfl))) (by rfl) rfl ?_
    refine da_any hap htm (i := 4) (by rfl) (by kernel_rfl) (by rfl) (listed' := #[true, true, true, true, true, false, false, false, false, false, false, false, false, false, false, false, false, false, false, false, false, false, false, false, false]) (by rfl) (fun _ => (opv_move (by rfl))) (by rfl) rfl ?_
    refine da_any hap htm (i := 5) (by rfl) (by kernel_rfl) (by rfl) (listed' := #[true, true, true, true, true, true, false, false, false, false, false, false, false, false, false, false, false, false, false, false, false, false, false, false, false]) (by rfl) (fun _ => (opv_indexAddr_sv (i := k) (v := dv) (n := 12) (by rfl) hdv (by rfl) Try.underlying71 ti74 rfl (by omega))) (by rfl) rfl ?_
    refine da_free hap htm (i := 6) (by rfl) (by kernel_rfl) (by rfl) (listed' := #[true, true, true, true, true, true, true, false, false, false, false, false, false, false, false, false, false, false, false, false, false, false, false, false, false]) (by rfl) (fun w hw => Pks.cw (by repeat (first | exact Pks.nil _ | exact Pk.here _ | apply Pk.there | apply Pks.cons)) hw) (fun _ => (opv_load_fld (enc := pc) (v := dv) (i := k) (u := rb) (fo := 0) (w := .pointer (some ⟨rb, 0, none⟩)) pc_len (by rfl) na74 (by repeat (first | exact Pk.here _ | apply Pk.there)) hrb rfl)) (by rfl) rfl ?_
    refine da_any hap htm (i := 7) (by rfl) (by kernel_rfl) (by rfl) (listed' := #[true, true, true, true, true, true, true, true, false, false, false, false, false, false, false, false, false, false, false, false, false, false, false, false, false]) (by rfl) (fun _ => (opv_move (by rfl))) (by rfl) rfl ?_
    refine da_any hap htm (i := 8) (by rfl) (by kernel_rfl) (by rfl) (listed' := #[true, true, true, true, true, true, true, true, true, false, false, false, false, false, false, false, false, false, false, false, false, false, false, false, false]) (by rfl) (fun _ => (opv_nilCheck (by rfl))) (by rfl) rfl ?_
    refine da_any hap htm (i := 9) (by rfl) (by kernel_rfl) (by rfl) (listed' := #[true, true, true, true, true, true, true, true, true, true, false, false, false, false, false, false, false, false, false, false, false, false, false, false, false]) (by rfl) (fun _ => (opv_fieldAddr (by rfl) fld73_0)) (by rfl) rfl ?_
    refine da_free hap htm (i := 10) (by rfl) (by kernel_rfl) (by rfl) (listed' := #[true, true, true, true, true, true, true, true, true, true, true, false, false, false, false, false, false, false, false, false, false, false, false, false, false]) (by rfl) (fun w hw => Pks.cw (by repeat (first | exact Pks.nil _ | exact Pk.here _ | apply Pk.there | apply Pks.cons)) hw) (fun _ => (opv_load (by rfl) na71 (rd_pk (by repeat (first | exact Pk.here _ | apply Pk.there))) (by rfl))) (by rfl) rfl ?_
    refine da_any hap htm (i := 11) (by rfl) (by kernel_rfl) (by rfl) (listed' := #[true, true, true, true, true, true, true, true, true, true, true, true, false, false, false, false, false, false, false, false, false, false, false, false, false]) (by rfl) (fun _ => (opv_move (by rfl))) (by rfl) rfl ?_
    refine da_any hap htm (i := 12) (by rfl) (by kernel_rfl) (by rfl) (listed' := #[true, true, true, true, true, true, true, true, true, true, true, true, true, false, false, false, false, false, false, false, false, false, false, false, false]) (by rfl) (fun _ => (opv_indexAddr_sv (i := k) (v := dv) (n := 12) (by rfl) hdv (by rfl) Try.underlying71 ti74 rfl (by omega))) (by rfl) rfl ?_
    refine da_free hap htm (i := 13) (by rfl) (by kernel_rfl) (by rfl) (listed' := #[true, true, true, true, true, true, true, true, true, true, true, true, true, true, false, false, false, false, false, false, false, false, false, false, false]) (by rfl) (fun w hw => Pks.cw (by repeat (first | exact Pks.nil _ | exact Pk.here _ | apply Pk.there | apply Pks.cons)) hw) (fun _ => (opv_load_fld (enc := pc) (v := dv) (i := k) (u := rb) (fo := 0) (w := .pointer (some ⟨rb, 0, none⟩)) pc_len (by rfl) na74 (by repeat (first | exact Pk.here _ | apply Pk.there)) hrb rfl)) (by rfl) rfl ?_
    refine da_any hap htm (i := 14) (by rfl) (by kernel_rfl) (by rfl) (listed' := #[true, true, true, true, true, true, true, true, true, true, true, true, true, true, true, false, false, false, false, false, false, false, false, false, false]) (by rfl) (fun _ => (opv_nilCheck (by rfl))) (by rfl) rfl ?_
    refine da_any hap htm (i := 15) (by rfl) (by kernel_rfl) (by rfl) (listed' := #[true, true, true, true, true, true, true, true, true, true, true, true, true, true, true, true, false, false, false, false, false, false, false, false, false]) (by rfl) (fun _ => (opv_fieldAddr (by rfl) fld78_1)) (by rfl) rfl ?_
    refine da_any hap htm (i := 17) (by rfl) (by kernel_rfl) (by rfl) (listed' := #[true, true, true, true, true, true, true, true, true, true, true, true, true, true, true, true, false, true, false, false, false, false, false, false, false]) (by rfl) (fun _ => (opv_move (by rfl))) (by rfl) rfl ?_
    refine da_any hap htm (i := 18) (by rfl) (by kernel_rfl) (by rfl) (listed' := #[true, true, true, true, true, true, true, true, true, true, true, true, true, true, true, true, false, true, true, false, false, false, false, false, false]) (by rfl) (fun _ => (opv_move (by rfl))) (by rfl) rfl ?_
    refine da_any hap htm (i := 19) (by rfl) (by kernel_rfl) (by rfl) (listed' := #[true, true, true, true, true, true, true, true, true, true, true, true, true, true, true, true, false, true, true, true, false, false, false, false, false]) (by rfl) (fun _ => (opv_build (by rfl) (fun w => by exact bld81_0_1 ..))) (by rfl) rfl ?_
    refine ja_two (i := 16) (j := 20) (by kernel_rfl) ?_ ?_
    · refine js_pure htm (i := 16) (by rfl) (by rfl) (listed' := #[true, true, true, true, true, true, true, true, true, true, true, true, true, true, true, true, true, true, true, true, false, false, false, false, false]) (by rfl) (opv_load (by rfl) na76 (rd_pk (by repeat (first | exact Pk.here _ | apply Pk.there))) (by rfl)) (by rfl) rfl ?_
      refine da_eff (i := 20) (by rfl) (by kernel_rfl) (by rfl) (listed' := #[true, true, true, true, true, true, true, true, true, true, true, true, true, true, true, true, true, true, true, true, true, false, false, false, false]) (by rfl) (eff_buildSlice (by rfl) (fun w => by exact bsl76_1_0 ..)) (fun _ _ h w hw => by obtain ⟨_, rfl, rfl⟩ := h; exact Pks.cw (by repeat (first | exact Pks.nil _ | exact Pk.here _ | apply Pk.there | apply Pks.cons)) hw) (by rfl) rfl ?_
      rintro _ _ ⟨b36, rfl, rfl⟩
      refine da_eff (i := 21) (by rfl) (by kernel_rfl) (by rfl) (listed' := #[true, true, true, true, true, true, true, true, true, true, true, true, true, true, true, true, true, true, true, true, true, true, false, false, false]) (by rfl) (eff_append_lit (by rfl) (by rfl) Try.underlying76 ti81 (by rfl) (by omega) (by repeat (first | exact Pk.here _ | apply Pk.there)) (rd_pk (by repeat (first | exact Pk.here _ | apply Pk.there))) (by rfl) (by rfl) (by unfold maxLen; omega) (by omega)) (fun _ _ h w hw => by obtain ⟨rfl, _⟩ := h; exact Pks.cw (by repeat (first | exact Pks.nil _ | exact Pk.here _ | apply Pk.there | apply Pks.cons)) hw) (by rfl) rfl ?_
      rintro wv2 _ ⟨rfl, _⟩
      refine ja_sv (by repeat (first | exact Pk.here _ | apply Pk.there)) (fun hsv2 => ?_)
      obtain ⟨A2, c2, rfl, _⟩ := hsv2
      refine da_any hap htm (i := 22) (by rfl) (by kernel_rfl) (by rfl) (listed' := #[true, true, true, true, true, true, true, true, true, true, true, true, true, true, true, true, true, true, true, true, true, true, true, false, false]) (by rfl) (fun _ => (opv_nilCheck (by rfl))) (by rfl) rfl ?_
      refine da_any hap htm (i := 23) (by rfl) (by kernel_rfl) (by rfl) (listed' := #[true, true, true, true, true, true, true, true, true, true, true, true, true, true, true, true, true, true, true, true, true, true, true, true, false]) (by rfl) (fun _ => (opv_fieldAddr (by rfl) fld78_1)) (by rfl) rfl ?_
      refine da_eff0 (i := 24) (by rfl) (by kernel_rfl) (by rfl) (listed' := #[true, true, true, true, true, true, true, true, true, true, true, true, true, true, true, true, true, true, true, true, true, true, true, true, true]) (by rfl) (eff_store (vs := [.slice A2 (D.ws.length + 1) c2]) (by rfl) (by rfl) (by rfl) ti76 (by rfl) (by repeat (first | exact Pk.here _ | apply Pk.there)) (by exact Nat.le_of_ble_eq_true rfl) (by rfl)) (fun _ _ h w hw => by obtain ⟨_, rfl⟩ := h; exact Pks.cw (by repeat (first | exact Pks.nil _ | exact Pk.here _ | apply Pk.there | apply Pks.cons)) hw) (by rfl) ?_
      rintro _ _ ⟨rfl, rfl⟩
      refine da_done (by kernel_rfl) ?_
      refine jk_then ?_
      refine jc_seq ?_
      refine sc_region ?_
      refine so_pure (opv_move (by rfl)) (by rfl) rfl ?_
      refine so_pure (opv_assign (by rfl)) (by rfl) rfl ?_
      refine jo_nil ?_
      refine jk_then ?_
      refine jc_ret ?_
      refine jk_fn_ret rfl rfl (by rfl) (fun w hw => ?_)
      rw [onD_ok hc0 hD, hc0]
      have hz : own (.slice A2 (D.ws.length + 1) c2) 81 2 (D.ws.length + 1) (D.ws.flatMap Wr.cells ++ [.int .i64 n, .string s]) = own (.slice A2 (D.ws.length + 1) c2) 81 2 ({ D with ws := D.ws ++ [⟨n, s⟩] } : Dsk).ws.length (({ D with ws := D.ws ++ [⟨n, s⟩] } : Dsk).ws.flatMap Wr.cells) := by
        show _ = own _ 81 2 (D.ws ++ [_]).length ((D.ws ++ [_]).flatMap Wr.cells)
        rw [List.length_append, List.flatMap_append]; rfl
      have hw2 : St w0 M (blk rb (.cells #[lv, (.slice A2 (D.ws.length + 1) c2), .bool (lostB (some D))] 78 (0, 0)) :: own lv 9 1 112 ((lK D.kp).flatMap sc) :: own (.slice A2 (D.ws.length + 1) c2) 81 2 (D.ws.length + 1) (D.ws.flatMap Wr.cells ++ [.int .i64 n, .string s]) :: grp ((List.zipWith rdI rps ds).eraseIdx k) :: blk bk (.cells #[dv] 73 (0, 0)) :: own dv 74 1 12 (rps.flatMap pc) :: Fr) w := St.keep (Sb := [blk rb (.cells #[lv, (.slice A2 (D.ws.length + 1) c2), .bool (lostB (some D))] 78 (0, 0)), own lv 9 1 112 ((lK D.kp).flatMap sc), own (.slice A2 (D.ws.length + 1) c2) 81 2 (D.ws.length + 1) (D.ws.flatMap Wr.cells ++ [.int .i64 n, .string s]), grp ((List.zipWith rdI rps ds).eraseIdx k), blk bk (.cells #[dv] 73 (0, 0)), own dv 74 1 12 (rps.flatMap pc)]) hw (by repeat (first | exact Pks.nil _ | exact Pk.here _ | apply Pk.there | apply Pks.cons)) (by repeat (first | exact Tl.here _ | apply Tl.there))
      rw [hz] at hw2
      have hw3 := rfocus_back hrb (by omega) (St.keep (Sb := [rdI rb (some ({ D with ws := D.ws ++ [⟨n, s⟩] } : Dsk)), grp ((List.zipWith rdI rps ds).eraseIdx k)]) (rd_mk (D := some ({ D with ws := D.ws ++ [⟨n, s⟩] } : Dsk)) hw2) (by repeat (first | exact Pks.nil _ | exact Pk.here _ | apply Pk.there | apply Pks.cons)) (Tl.here _))
      exact ⟨rfl, St.keep (Sb := [blk bk (.cells #[dv] 73 (0, 0)), own dv 74 1 12 (rps.flatMap pc), grp (List.zipWith rdI rps (ds.set k (some ({ D with ws := D.ws ++ [⟨n, s⟩] } : Dsk))))]) hw3 (by repeat (first | exact Pks.nil _ | exact Pk.here _ | apply Pk.there | apply Pks.cons)) (by repeat (first | exact Tl.here _ | apply Tl.there))⟩
    · refine js_eff (i := 20) (by rfl) (by rfl) (listed' := #[true, true, true, true, true, true, true, true, true, true, true, true, true, true, true, true, false, true, true, true, true, false, false, false, false]) (by rfl) (eff_buildSlice (by rfl) (fun w => by exact bsl76_1_0 ..)) (fun _ _ h w hw => by obtain ⟨_, rfl, rfl⟩ := h; exact Pks.cw (by repeat (first | exact Pks.nil _ | exact Pk.here _ | apply Pk.there | apply Pks.cons)) hw) (by rfl) rfl ?_
      rintro _ _ ⟨b36, rfl, rfl⟩
      refine da_now [21, 22, 23, 24] hap htm (i := 16) (by rfl) (by kernel_rfl) (by rfl) (listed' := #[true, true, true, true, true, true, true, true, true, true, true, true, true, true, true, true, true, true, true, true, true, false, false, false, false]) (by rfl) (by kernel_rfl) (by kernel_rfl) (opv_load (by rfl) na76 (rd_pk (by repeat (first | exact Pk.here _ | apply Pk.there))) (by rfl)) (by rfl) rfl ?_
      refine da_eff (i := 21) (by rfl) (by kernel_rfl) (by rfl) (listed' := #[true, true, true, true, true, true, true, true, true, true, true, true, true, true, true, true, true, true, true, true, true, true, false, false, false]) (by rfl) (eff_append_lit (by rfl) (by rfl) Try.underlying76 ti81 (by rfl) (by omega) (by repeat (first | exact Pk.here _ | apply Pk.there)) (rd_pk (by repeat (first | exact Pk.here _ | apply Pk.there))) (by rfl) (by rfl) (by unfold maxLen; omega) (by omega)) (fun _ _ h w hw => by obtain ⟨rfl, _⟩ := h; exact Pks.cw (by repeat (first | exact Pks.nil _ | exact Pk.here _ | apply Pk.there | apply Pks.cons)) hw) (by rfl) rfl ?_
      rintro wv2 _ ⟨rfl, _⟩
      refine ja_sv (by repeat (first | exact Pk.here _ | apply Pk.there)) (fun hsv2 => ?_)
      obtain ⟨A2, c2, rfl, _⟩ := hsv2
      refine da_any hap htm (i := 22) (by rfl) (by kernel_rfl) (by rfl) (listed' := #[true, true, true, true, true, true, true, true, true, true, true, true, true, true, true, true, true, true, true, true, true, true, true, false, false]) (by rfl) (fun _ => (opv_nilCheck (by rfl))) (by rfl) rfl ?_
      refine da_any hap htm (i := 23) (by rfl) (by kernel_rfl) (by rfl) (listed' := #[true, true, true, true, true, true, true, true, true, true, true, true, true, true, true, true, true, true, true, true, true, true, true, true, false]) (by rfl) (fun _ => (opv_fieldAddr (by rfl) fld78_1)) (by rfl) rfl ?_
      refine da_eff0 (i := 24) (by rfl) (by kernel_rfl) (by rfl) (listed' := #[true, true, true, true, true, true, true, true, true, true, true, true, true, true, true, true, true, true, true, true, true, true, true, true, true]) (by rfl) (eff_store (vs := [.slice A2 (D.ws.length + 1) c2]) (by rfl) (by rfl) (by rfl) ti76 (by rfl) (by repeat (first | exact Pk.here _ | apply Pk.there)) (by exact Nat.le_of_ble_eq_true rfl) (by rfl)) (fun _ _ h w hw => by obtain ⟨_, rfl⟩ := h; exact Pks.cw (by repeat (first | exact Pks.nil _ | exact Pk.here _ | apply Pk.there | apply Pks.cons)) hw) (by rfl) ?_
      rintro _ _ ⟨rfl, rfl⟩
      refine da_done (by kernel_rfl) ?_
      refine jk_then ?_
      refine jc_seq ?_
      refine sc_region ?_
      refine so_pure (opv_move (by rfl)) (by rfl) rfl ?_
      refine so_pure (opv_assign (by rfl)) (by rfl) rfl ?_
      refine jo_nil ?_
      refine jk_then ?_
      refine jc_ret ?_
      refine jk_fn_ret rfl rfl (by rfl) (fun w hw => ?_)
      rw [onD_ok hc0 hD, hc0]
      have hz : own (.slice A2 (D.ws.length + 1) c2) 81 2 (D.ws.length + 1) (D.ws.flatMap Wr.cells ++ [.int .i64 n, .string s]) = own (.slice A2 (D.ws.length + 1) c2) 81 2 ({ D with ws := D.ws ++ [⟨n, s⟩] } : Dsk).ws.length (({ D with ws := D.ws ++ [⟨n, s⟩] } : Dsk).ws.flatMap Wr.cells) := by
        show _ = own _ 81 2 (D.ws ++ [_]).length ((D.ws ++ [_]).flatMap Wr.cells)
        rw [List.length_append, List.flatMap_append]; rfl
      have hw2 : St w0 M (blk rb (.cells #[lv, (.slice A2 (D.ws.length + 1) c2), .bool (lostB (some D))] 78 (0, 0)) :: own lv 9 1 112 ((lK D.kp).flatMap sc) :: own (.slice A2 (D.ws.length + 1) c2) 81 2 (D.ws.length + 1) (D.ws.flatMap Wr.cells ++ [.int .i64 n, .string s]) :: grp ((List.zipWith rdI rps ds).eraseIdx k) :: blk bk (.cells #[dv] 73 (0, 0)) :: own dv 74 1 12 (rps.flatMap pc) :: Fr) w := St.keep (Sb := [blk rb (.cells #[lv, (.slice A2 (D.ws.length + 1) c2), .bool (lostB (some D))] 78 (0, 0)), own lv 9 1 112 ((lK D.kp).flatMap sc), own (.slice A2 (D.ws.length + 1) c2) 81 2 (D.ws.length + 1) (D.ws.flatMap Wr.cells ++ [.int .i64 n, .string s]), grp ((List.zipWith rdI rps ds).eraseIdx k), blk bk (.cells #[dv] 73 (0, 0)), own dv 74 1 12 (rps.flatMap pc)]) hw (by repeat (first | exact Pks.nil _ | exact Pk.here _ | apply Pk.there | apply Pks.cons)) (by repeat (first | exact Tl.here _ | apply Tl.there))
      rw [hz] at hw2
      have hw3 := rfocus_back hrb (by omega) (St.keep (Sb := [rdI rb (some ({ D with ws := D.ws ++ [⟨n, s⟩] } : Dsk)), grp ((List.zipWith rdI rps ds).eraseIdx k)]) (rd_mk (D := some ({ D with ws := D.ws ++ [⟨n, s⟩] } : Dsk)) hw2) (by repeat (first | exact Pks.nil _ | exact Pk.here _ | apply Pk.there | apply Pks.cons)) (Tl.here _))
      exact ⟨rfl, St.keep (Sb := [blk bk (.cells #[dv] 73 (0, 0)), own dv 74 1 12 (rps.flatMap pc), grp (List.zipWith rdI rps (ds.set k (some ({ D with ws := D.ws ++ [⟨n, s⟩] } : Dsk))))]) hw3 (by repeat (first | exact Pks.nil _ | exact Pk.here _ | apply Pk.there | apply Pks.cons)) (by repeat (first | exact Tl.here _ | apply Tl.there))⟩
  · first | have p7 := of_decide_eq_true h7 | have p7 := of_decide_eq_false h7 | have p7 := ndT h7 | have p7 := ndF h7 | have p7 := nbT h7 | have p7 := nbF h7 | have p7 := h7
    refine sc_false (by rfl) h7 ?_
    refine jc_skip ?_
    refine jk_then ?_
    refine jc_seq ?_
    refine sc_region ?_
    refine so_pure (opv_move (by rfl)) (by rfl) rfl ?_
    refine so_pure (opv_assign (by rfl)) (by rfl) rfl ?_
    refine jo_nil ?_
    refine jk_then ?_
    refine jc_ret ?_
    refine jk_fn_ret rfl rfl (by rfl) (fun w hw => ?_)
    rw [onD_no p7]
    exact ⟨rfl, hw⟩
set_option maxHeartbeats 4000000 in
theorem rwaits_spec {w0 w : World} {M : Nat → Prop} {Fr : List Itm} {bk : Nat} {dv : Value} {rps : List Nat} {ds : List DD} (d : Int) (hst : St w0 M (blk bk (.cells #[dv] 73 (0, 0)) :: own dv 74 1 12 (rps.flatMap pc) :: grp (List.zipWith rdI rps ds) :: Fr) w) (hlp : rps.length = 12) (hld : ds.length = 12) : Does Try.prog 22 #[.pointer (some ⟨bk, 0, none⟩), .int .i64 d] w (fun v w' => v = .int .i64 (waitsD ds d) ∧ St w0 M (blk bk (.cells #[dv] 73 (0, 0)) :: own dv 74 1 12 (rps.flatMap pc) :: grp (List.zipWith rdI rps ds) :: Fr) w') := by
  refine fn_bodyX (fn := Try.f22) Try.func22 rfl [(0, .pointer (some ⟨bk, 0, none⟩)), (1, .int .i64 d)] (by exact ⟨rfl, rfl, trivial⟩) rfl hst ?_
  refine jc_seq ?_
  refine sc_region ?_
  refine so_pure (opv_assign (by rfl)) (by rfl) rfl ?_
  refine jo_nil ?_
  refine jk_then ?_
  refine jc_seq ?_
  refine jc_seq ?_
  refine sc_region ?_
  refine so_pure (opv_move (by rfl)) (by rfl) rfl ?_
  refine so_pure (opv_cmp (by rfl) (by rfl) (by rfl)) (by rfl) rfl ?_
  refine so_pure (opv_move (by rfl)) (by rfl) rfl ?_
  refine sk_split (x := 7) (by rfl) (fun h4 => ?_) (fun h4 => ?_)
  · first | have p4 := of_decide_eq_true h4 | have p4 := of_decide_eq_false h4 | have p4 := ndT h4 | have p4 := ndF h4 | have p4 := nbT h4 | have p4 := nbF h4 | have p4 := h4
    refine so_skip (wtd_not rfl rfl (by rfl) h4) rfl ?_
    refine so_skip (wtd_not rfl rfl (by rfl) h4) rfl ?_
    refine so_pure (sv_pick_t (by rfl) h4 (by rfl)) (by rfl) rfl ?_
    refine jo_nil ?_
    refine jk_then ?_
    refine sc_true (by rfl) rfl ?_
    refine jc_seq ?_
    refine sc_region ?_
    refine so_pure (opv_assign (by rfl)) (by rfl) rfl ?_
    refine jo_nil ?_
    refine jk_then ?_
    refine jc_ret ?_
    refine jk_then_ret ?_
    refine jk_fn_ret rfl rfl (by rfl) (fun w hw => ?_)
    rw [waitsD_out (by omega)]
    exact ⟨rfl, hw⟩
  · first | have p4 := of_decide_eq_true h4 | have p4 := of_decide_eq_false h4 | have p4 := ndT h4 | have p4 := ndF h4 | have p4 := nbT h4 | have p4 := nbF h4 | have p4 := h4
    refine so_pure (opv_move (by rfl)) (wtd_run rfl rfl (by rfl) h4) rfl ?_
    refine so_pure (opv_cmp (by rfl) (by rfl) (by rfl)) (wtd_run rfl rfl (by rfl) h4) rfl ?_
    refine so_pure (sv_pick_f (by rfl) h4 (by rfl)) (by rfl) rfl ?_
    refine jo_nil ?_
    refine jk_then ?_
    refine sk_split (x := 10) (by rfl) (fun h6 => ?_) (fun h6 => ?_)
    · first | have p6 := of_decide_eq_true h6 | have p6 := of_decide_eq_false h6 | have p6 := ndT h6 | have p6 := ndF h6 | have p6 := nbT h6 | have p6 := nbF h6 | have p6 := h6
      refine sc_true (by rfl) h6 ?_
      refine jc_seq ?_
      refine sc_region ?_
      refine so_pure (opv_assign (by rfl)) (by rfl) rfl ?_
      refine jo_nil ?_
      refine jk_then ?_
      refine jc_ret ?_
      refine jk_then_ret ?_
      refine jk_fn_ret rfl rfl (by rfl) (fun w hw => ?_)
      rw [waitsD_out (by omega)]
      exact ⟨rfl, hw⟩
    · first | have p6 := of_decide_eq_true h6 | have p6 := of_decide_eq_false h6 | have p6 := ndT h6 | have p6 := ndF h6 | have p6 := nbT h6 | have p6 := nbF h6 | have p6 := h6
      refine sc_false (by rfl) h6 ?_
      refine jc_skip ?_
      refine jk_then ?_
      refine jc_seq ?_
      obtain ⟨k, rfl⟩ : ∃ k : Nat, d = k := ⟨d.toNat, by omega⟩
      have hk12 : k < 12 := by omega
      obtain ⟨rb, hrb⟩ : ∃ rb, rps[k]? = some rb := ⟨rps[k], List.getElem?_eq_getElem (by omega)⟩
      obtain ⟨DQ, hD⟩ : ∃ D, ds[k]? = some D := ⟨ds[k], List.getElem?_eq_getElem (by omega)⟩
      refine jk_focus (d := k) (by repeat (first | exact Pk.here _ | apply Pk.there)) (rzip_get hrb hD) ?_
      refine jk_rd_open (D := DQ) (by repeat (first | exact Pk.here _ | apply Pk.there)) (fun lv wv => ?_)
      refine jk_sv (v := dv) (by repeat (first | exact Pk.here _ | apply Pk.there)) (fun hdv => ?_)
      refine jk_sv (v := lv) (by repeat (first | exact Pk.here _ | apply Pk.there)) (fun hlv => ?_)
      refine jk_sv (v := wv) (by repeat (first | exact Pk.here _ | apply Pk.there)) (fun hwv => ?_)
      refine sc_region ?_
      refine so_pure (opv_move (by rfl)) (by rfl) rfl ?_
      refine so_pure (opv_nilCheck (by rfl)) (by rfl) rfl ?_
      refine so_pure (opv_fieldAddr (by rfl) fld73_0) (by rfl) rfl ?_
      refine so_pure (opv_load (by rfl) na71 (rd_pk (by repeat (first | exact Pk.here _ | apply Pk.there))) (by rfl)) (by rfl) rfl ?_
      refine so_pure (opv_move (by rfl)) (by rfl) rfl ?_
      refine so_pure (opv_indexAddr_sv (i := k) (v := dv) (n := 12) (by rfl) hdv (by rfl) Try.underlying71 ti74 rfl (by omega)) (by rfl) rfl ?_
      refine so_pure (opv_load_fld (enc := pc) (v := dv) (i := k) (u := rb) (fo := 0) (w := .pointer (some ⟨rb, 0, none⟩)) pc_len (by rfl) na74 (by repeat (first | exact Pk.here _ | apply Pk.there)) hrb rfl) (by rfl) rfl ?_
      refine so_pure (opv_nilCheck (by rfl)) (by rfl) rfl ?_
      refine so_pure (opv_fieldAddr (by rfl) fld78_1) (by rfl) rfl ?_
      refine so_pure (opv_load (by rfl) na76 (rd_pk (by repeat (first | exact Pk.here _ | apply Pk.there))) (by rfl)) (by rfl) rfl ?_
      refine so_pure (opv_len_sv (v := wv) (n := (wsOf DQ).length) (by rfl) hwv Try.underlying76) (by rfl) rfl ?_
      refine so_pure (opv_assign (by rfl)) (by rfl) rfl ?_
      refine jo_nil ?_
      refine jk_then ?_
      refine jc_ret ?_
      refine jk_fn_ret rfl rfl (by rfl) (fun w hw => ?_)
      rw [waitsD_in hk12 hD]
      have hw2 := (St.keep (Sb := [blk rb (.cells #[lv, wv, .bool (lostB DQ)] 78 (0, 0)), own lv 9 1 112 ((lK (kpOf DQ)).flatMap sc), own wv 81 2 (wsOf DQ).length ((wsOf DQ).flatMap Wr.cells)]) hw (by repeat (first | exact Pks.nil _ | exact Pk.here _ | apply Pk.there | apply Pks.cons)) (Tl.here _))
      have hw3 := rfocus_same hrb hD (St.keep (Sb := [rdI rb DQ, grp ((List.zipWith rdI rps ds).eraseIdx k)]) (rd_mk hw2) (by repeat (first | exact Pks.nil _ | exact Pk.here _ | apply Pk.there | apply Pks.cons)) (Tl.here _))
      exact ⟨rfl, St.keep (Sb := [blk bk (.cells #[dv] 73 (0, 0)), own dv 74 1 12 (rps.flatMap pc), grp (List.zipWith rdI rps ds)]) hw3 (by repeat (first | exact Pks.nil _ | exact Pk.here _ | apply Pk.there | apply Pks.cons)) (by repeat (first | exact Tl.here _ | apply Tl.there))⟩
end Go.Disks
