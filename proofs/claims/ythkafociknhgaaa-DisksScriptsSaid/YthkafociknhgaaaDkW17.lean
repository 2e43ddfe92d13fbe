/- A part of a proof for the laws of the seat Ythkafociknhgaaa; it has no conditions of its own. -/
import Derived.Test.YthkafociknhgaaaDkW16
namespace Go.Disks
open Go Go.SL Go.Proofs
set_option maxHeartbeats 4000000 in
theorem spoil_spec {w0 w : World} {M : Nat → Prop} {Fr : List Itm} {bb : Nat} {ps : List Nat} {ds : List DD} (d n : Int) (s : ByteArray) (hst : St w0 M (blk bb (.cells (ptrs ps).toArray 50 (0, 0)) :: grp (List.zipWith dkI ps ds) :: Fr) w) (hlp : ps.length = 12) (hld : ds.length = 12) {N : Nat} (hwb : WB ds N) (hN : N ≤ 100000) : Does Try.prog 23 #[.pointer (some ⟨bb, 0, none⟩), .int .i64 d, .int .i64 n, .string s] w (fun v w' => v = .int .i64 (chk ds d n s.size) ∧ St w0 M (blk bb (.cells (ptrs ps).toArray 50 (0, 0)) :: grp (List.zipWith dkI ps (onD ds d n s.size (spD n s))) :: Fr) w') := by
  refine fn_bodyX (fn := Try.f23) Try.func23 rfl [(0, .pointer (some ⟨bb, 0, none⟩)), (1, .int .i64 d), (2, .int .i64 n), (3, .string s)] (by exact ⟨rfl, rfl, rfl, rfl, trivial⟩) rfl hst ?_
  refine jc_seq ?_
  refine sc_region ?_
  refine so_eff (eff_box (by rfl) rfl) (by rfl) rfl ?_
  rintro _ _ ⟨b6, rfl, rfl⟩
  refine so_pure (opv_assign (by rfl)) (by rfl) rfl ?_
  refine jo_nil ?_
  refine jk_then ?_
  refine jc_seq ?_
  refine sc_region ?_
  refine so_pure (opv_move (by rfl)) (by rfl) rfl ?_
  refine so_pure (opv_move (by rfl)) (by rfl) rfl ?_
  refine so_pure (opv_load (by rfl) na3 (rd_pk (by repeat (first | exact Pk.here _ | apply Pk.there))) (by rfl)) (by rfl) rfl ?_
  refine so_pure (opv_move (by rfl)) (by rfl) rfl ?_
  refine so_eff (eff_callF [blk bb (.cells (ptrs ps).toArray 50 (0, 0)), grp (List.zipWith dkI ps ds)] (fl := []) (cl := []) (G := fun v Is' => v = .tuple #[dptr ps d (chk ds d n s.size), .int .i64 (chk ds d n s.size)] ∧ Is' = [blk bb (.cells (ptrs ps).toArray 50 (0, 0)), grp (List.zipWith dkI ps ds)]) (by rfl) (by rfl) tx27 (by repeat (first | exact Pks.nil _ | exact Pk.here _ | apply Pk.there | apply Pks.cons)) (by exact fun w1 hw1 => (disk_spec d n s hw1 hlp hld).mono (fun _ _ ⟨hv, hst⟩ => ⟨_, ⟨hv, rfl⟩, hst⟩))) (by rfl) rfl ?_
  rintro _ _ ⟨_, ⟨rfl, rfl⟩, rfl⟩
  refine so_pure (opv_move (by rfl)) (by rfl) rfl ?_
  refine so_pure (opv_extract (by rfl) (by rfl)) (by rfl) rfl ?_
  refine so_pure (opv_extract (by rfl) (by rfl)) (by rfl) rfl ?_
  refine so_pure (opv_assign (by rfl)) (by rfl) rfl ?_
  refine so_pure (opv_assign (by rfl)) (by rfl) rfl ?_
  refine jo_nil ?_
  refine jk_then ?_
  refine jc_seq ?_
  refine jc_seq ?_
  refine sc_region ?_
  refine so_pure (opv_move (by rfl)) (by rfl) rfl ?_
  refine so_pure (opv_cmp (by rfl) (by rfl) (by rfl)) (by rfl) rfl ?_
  refine jo_nil ?_
  refine jk_then ?_
  refine sk_split (x := 20) (by rfl) (fun h11 => ?_) (fun h11 => ?_)
  · first | have p11 := of_decide_eq_true h11 | have p11 := of_decide_eq_false h11 | have p11 := ndT h11 | have p11 := ndF h11 | have p11 := nbT h11 | have p11 := nbF h11 | have p11 := h11
    refine sc_true (by rfl) h11 ?_
    refine jc_seq ?_
    have hc0 : chk ds d n s.size = 0 := p11
    obtain ⟨k, D, rfl, hk12, hD, hn0, hn1, hsz⟩ := chk_ok hld hc0
    obtain ⟨db, hdb⟩ : ∃ db, ps[k]? = some db := ⟨ps[k], List.getElem?_eq_getElem (by omega)⟩
    rw [hc0, dptr_ok hdb]
    refine jk_focus (d := k) (by repeat (first | exact Pk.here _ | apply Pk.there)) (zip_get hdb hD) ?_
    refine jk_dk_open (D := D) (by repeat (first | exact Pk.here _ | apply Pk.there)) (fun mb wv => ?_)
    have hwn := (hwb k D hD).1
    refine sc_region ?_
    refine so_pure (opv_move (by rfl)) (by rfl) rfl ?_
    refine so_pure (opv_move (by rfl)) (by rfl) rfl ?_
    refine so_pure (opv_nilCheck (by rfl)) (by rfl) rfl ?_
    refine so_pure (opv_fieldAddr (by rfl) fld57_1) (by rfl) rfl ?_
    refine so_pure (opv_load (by rfl) na54 (rd_pk (by repeat (first | exact Pk.here _ | apply Pk.there))) (by rfl)) (by rfl) rfl ?_
    refine so_pure (opv_makeFunc (by rfl) (by rfl)) (by rfl) rfl ?_
    refine so_eff (eff_call (fl := []) (cl := []) (G := fun v Is' => Is' = own v 59 2 (D.ws.filter fun y => !decide (y.n = n)).length ((D.ws.filter fun y => !decide (y.n = n)).flatMap Wr.cells) :: blk b6 (.cells #[.int .i64 n] 3 (0, 0)) :: blk db (.cells #[.map (some mb), wv, .bool false] 57 (0, 0)) :: mapI kvI mb (mpS D.kp) :: grp ((List.zipWith dkI ps ds).eraseIdx k) :: blk bb (.cells (ptrs ps).toArray 50 (0, 0)) :: Fr) (by rfl) (by rfl) tx44 (by exact fun w1 hw1 => (delete_spec (fi := 45) (cl := [.pointer (some ⟨b6, 0, none⟩)]) (Fr := fun _ => blk b6 (.cells #[.int .i64 n] 3 (0, 0)) :: blk db (.cells #[.map (some mb), wv, .bool false] 57 (0, 0)) :: mapI kvI mb (mpS D.kp) :: grp ((List.zipWith dkI ps ds).eraseIdx k) :: blk bb (.cells (ptrs ps).toArray 50 (0, 0)) :: Fr) (ys0 := []) (xs := D.ws) (n := D.ws.length) (p := fun y => decide (y.n = n)) tx45 (St.keep (Sb := [own wv 59 2 D.ws.length (D.ws.flatMap Wr.cells), blk b6 (.cells #[.int .i64 n] 3 (0, 0)), blk db (.cells #[.map (some mb), wv, .bool false] 57 (0, 0)), mapI kvI mb (mpS D.kp), grp ((List.zipWith dkI ps ds).eraseIdx k), blk bb (.cells (ptrs ps).toArray 50 (0, 0))]) hw1 (by repeat (first | exact Pks.nil _ | exact Pk.here _ | apply Pk.there | apply Pks.cons)) (by repeat (first | exact Tl.here _ | apply Tl.there))) rfl (by omega) (Nat.zero_le _) (fun ys y Is2 w2 _ hw2 => (spoil1_spec w2 y n b6 _ (hw2.get (Pk.app Is2 (.here _)))).mono (fun _ _ ⟨hv, hs⟩ => ⟨hv, hw2.frame0 hs⟩))).mono (fun _ _ hst => ⟨_, rfl, hst⟩))) (by rfl) rfl ?_
    rintro wv2 _ rfl
    refine jo_sv (by repeat (first | exact Pk.here _ | apply Pk.there)) (fun hsv2 => ?_)
    obtain ⟨A2, c2, rfl, _⟩ := hsv2
    refine so_pure (opv_nilCheck (by rfl)) (by rfl) rfl ?_
    refine so_pure (opv_fieldAddr (by rfl) fld57_1) (by rfl) rfl ?_
    refine so_eff0 (eff_store (vs := [.slice A2 (D.ws.filter fun y => !decide (y.n = n)).length c2]) (by rfl) (by rfl) (by rfl) ti54 (by rfl) (by repeat (first | exact Pk.here _ | apply Pk.there)) (by exact Nat.le_of_ble_eq_true rfl) (by rfl)) (by rfl) ?_
    rintro _ _ ⟨rfl, rfl⟩
    refine jo_nil ?_
    refine jk_then ?_
    refine so_draw [] (by kernel_rfl) (by kernel_rfl) (by kernel_rfl) rfl (by rfl) (fun hap htm => ?_)
    refine da_any hap htm (i := 0) (by rfl) (by kernel_rfl) (by rfl) (listed' := #[true, false, false, false, false, false, false]) (by rfl) (fun _ => (opv_move (by rfl))) (by rfl) rfl ?_
    refine da_any hap htm (i := 1) (by rfl) (by kernel_rfl) (by rfl) (listed' := #[true, true, false, false, false, false, false]) (by rfl) (fun _ => (opv_nilCheck (by rfl))) (by rfl) rfl ?_
    refine da_any hap htm (i := 2) (by rfl) (by kernel_rfl) (by rfl) (listed' := #[true, true, true, false, false, false, false]) (by rfl) (fun _ => (opv_fieldAddr (by rfl) fld57_0)) (by rfl) rfl ?_
    refine da_now [6] hap htm (i := 3) (by rfl) (by kernel_rfl) (by rfl) (listed' := #[true, true, true, true, false, false, false]) (by rfl) (by kernel_rfl) (by kernel_rfl) (opv_load (by rfl) na55 (rd_pk (by repeat (first | exact Pk.here _ | apply Pk.there))) (by rfl)) (by rfl) rfl ?_
    refine da_now [6] hap htm (i := 4) (by rfl) (by kernel_rfl) (by rfl) (listed' := #[true, true, true, true, true, false, false]) (by rfl) (by kernel_rfl) (by kernel_rfl) (opv_load (by rfl) na3 (rd_pk (by repeat (first | exact Pk.here _ | apply Pk.there))) (by rfl)) (by rfl) rfl ?_
    refine da_any hap htm (i := 5) (by rfl) (by kernel_rfl) (by rfl) (listed' := #[true, true, true, true, true, true, false]) (by rfl) (fun _ => (opv_move (by rfl))) (by rfl) rfl ?_
    refine da_eff0 (i := 6) (by rfl) (by kernel_rfl) (by rfl) (listed' := #[true, true, true, true, true, true, true]) (by rfl) (eff_mapUpdate (kv := kvI) (k := n) (v := .string s) (by rfl) (by rfl) (by rfl) (KL.int Try.underlying3) Try.underlying55 (by repeat (first | exact Pk.here _ | apply Pk.there))) (fun _ _ _ _ hw => cw_nil hw) (by rfl) ?_
    rintro _ _ ⟨rfl, rfl⟩
    refine da_done (by kernel_rfl) ?_
    refine jk_then ?_
    refine jc_seq ?_
    refine sc_region ?_
    refine so_pure (opv_move (by rfl)) (by rfl) rfl ?_
    refine so_pure (opv_assign (by rfl)) (by rfl) rfl ?_
    refine jo_nil ?_
    refine jk_then ?_
    refine jc_ret ?_
    refine jk_fn_ret rfl rfl (by rfl) (fun w hw => ?_)
    rw [onD_ok hc0 hD]
    rw [mpS_set] at hw
    have hw2 : St w0 M (blk db (.cells #[.map (some mb), .slice A2 (D.ws.filter fun y => !decide (y.n = n)).length c2, .bool false] 57 (0, 0)) :: mapI kvI mb (mpS (spD n s D).kp) :: own (.slice A2 (D.ws.filter fun y => !decide (y.n = n)).length c2) 59 2 (spD n s D).ws.length ((spD n s D).ws.flatMap Wr.cells) :: grp ((List.zipWith dkI ps ds).eraseIdx k) :: blk bb (.cells (ptrs ps).toArray 50 (0, 0)) :: Fr) w := St.keep (Sb := [blk db (.cells #[.map (some mb), .slice A2 (D.ws.filter fun y => !decide (y.n = n)).length c2, .bool false] 57 (0, 0)), mapI kvI mb (mpS (setL D.kp n s)), own (.slice A2 (D.ws.filter fun y => !decide (y.n = n)).length c2) 59 2 (D.ws.filter fun y => !decide (y.n = n)).length ((D.ws.filter fun y => !decide (y.n = n)).flatMap Wr.cells), grp ((List.zipWith dkI ps ds).eraseIdx k), blk bb (.cells (ptrs ps).toArray 50 (0, 0))]) hw (by repeat (first | exact Pks.nil _ | exact Pk.here _ | apply Pk.there | apply Pks.cons)) (by repeat (first | exact Tl.here _ | apply Tl.there))
    have hw3 := focus_back hdb (by omega) (St.keep (Sb := [dkI db (some (spD n s D)), grp ((List.zipWith dkI ps ds).eraseIdx k)]) (dk_mk hw2) (by repeat (first | exact Pks.nil _ | exact Pk.here _ | apply Pk.there | apply Pks.cons)) (Tl.here _))
    exact ⟨rfl, St.keep (Sb := [blk bb (.cells (ptrs ps).toArray 50 (0, 0)), grp (List.zipWith dkI ps (ds.set k (some (spD n s D))))]) hw3 (by repeat (first | exact Pks.nil _ | exact Pk.here _ | apply Pk.there | apply Pks.cons)) (by repeat (first | exact Tl.here _ | apply Tl.there))⟩
  · first | have p11 := of_decide_eq_true h11 | have p11 := of_decide_eq_false h11 | have p11 := ndT h11 | have p11 := ndF h11 | have p11 := nbT h11 | have p11 := nbF h11 | have p11 := h11
    refine sc_false (by rfl) h11 ?_
    refine jc_skip ?_
    refine jk_then ?_
    refine jc_seq ?_
    refine sc_region ?_
    refine so_pure (opv_move (by rfl)) (by rfl) rfl ?_
    refine so_pure (opv_assign (by rfl)) (by rfl) rfl ?_
    refine jo_nil ?_
    refine jk_then ?_
    refine jc_ret ?_
    refine jk_fn_ret rfl rfl (by rfl) (fun w hw => ?_)
    rw [onD_no p11]
    exact ⟨rfl, St.keep (Sb := [blk bb (.cells (ptrs ps).toArray 50 (0, 0)), grp (List.zipWith dkI ps ds)]) hw (by repeat (first | exact Pks.nil _ | exact Pk.here _ | apply Pk.there | apply Pks.cons)) (by repeat (first | exact Tl.here _ | apply Tl.there))⟩
end Go.Disks
