/- A part of a proof for the laws of the seat Ythkafociknhgaaa; it has no conditions of its own. -/
import Derived.Test.YthkafociknhgaaaDkW1
namespace Go.Disks
open Go Go.SL Go.Proofs
set_option maxHeartbeats 4000000 in
theorem write_spec {w0 w : World} {M : Nat → Prop} {Fr : List Itm} {bb : Nat} {ps : List Nat} {ds : List DD} (d n : Int) (s : ByteArray) (hst : St w0 M (blk bb (.cells (ptrs ps).toArray 50 (0, 0)) :: grp (List.zipWith dkI ps ds) :: Fr) w) (hlp : ps.length = 12) (hld : ds.length = 12) {N : Nat} (hwb : WB ds N) (hN : N ≤ 100000) : Does Try.prog 10 #[.pointer (some ⟨bb, 0, none⟩), .int .i64 d, .int .i64 n, .string s] w (fun v w' => v = .int .i64 (chk ds d n s.size) ∧ St w0 M (blk bb (.cells (ptrs ps).toArray 50 (0, 0)) :: grp (List.zipWith dkI ps (onD ds d n s.size (fun D => { D with ws := D.ws ++ [⟨n, s⟩] }))) :: Fr) w') := by
  refine fn_bodyX (fn := Try.f10) Try.func10 rfl [(0, .pointer (some ⟨bb, 0, none⟩)), (1, .int .i64 d), (2, .int .i64 n), (3, .string s)] (by exact ⟨rfl, rfl, rfl, rfl, trivial⟩) rfl hst ?_
  refine jc_seq ?_
  refine sc_region ?_
  refine so_pure (opv_assign (by rfl)) (by rfl) rfl ?_
  refine jo_nil ?_
  refine jk_then ?_
  refine jc_seq ?_
  refine sc_region ?_
  refine so_pure (opv_move (by rfl)) (by rfl) rfl ?_
  refine so_pure (opv_move (by rfl)) (by rfl) rfl ?_
  refine so_pure (opv_move (by rfl)) (by rfl) rfl ?_
  refine so_pure (opv_move (by rfl)) (by rfl) rfl ?_
  refine so_eff (eff_callF [blk bb (.cells (ptrs ps).toArray 50 (0, 0)), grp (List.zipWith dkI ps ds)] (fl := []) (cl := []) (G := fun v Is' => v = .tuple #[dptr ps d (chk ds d n s.size), .int .i64 (chk ds d n s.size)] ∧ Is' = [blk bb (.cells (ptrs ps).toArray 50 (0, 0)), grp (List.zipWith dkI ps ds)]) (by rfl) (by rfl) tx27 (by repeat (first | exact Pks.nil _ | exact Pk.here _ | apply Pk.there | apply Pks.cons)) (by exact fun w1 hw1 => (disk_spec d n s hw1 hlp hld).mono (fun _ _ ⟨hv, hst⟩ => ⟨_, ⟨hv, rfl⟩, hst⟩))) (by rfl) rfl ?_
  rintro _ _ ⟨_, ⟨rfl, rfl⟩, rfl⟩
  refine so_pure (opv_move (by rfl)) (by rfl) rfl ?_
  refine so_pure (opv_extract (by rfl) (by rfl)) (by rfl) rfl ?_
  refine so_pure (opv_extract (by rfl) (by rfl)) (by rfl) rfl ?_
  refine so_pure (opv_assign (by rfl)) (by rfl) rfl ?_
  refine so_pure (opv_assign (by rfl)) (by rfl) rfl ?_
  refine jo_nil ?_
  refine jk_then ?_
  refine jc_seq ?_
  refine jc_seq ?_
  refine sc_region ?_
  refine so_pure (opv_move (by rfl)) (by rfl) rfl ?_
  refine so_pure (opv_cmp (by rfl) (by rfl) (by rfl)) (by rfl) rfl ?_
  refine jo_nil ?_
  refine jk_then ?_
  refine sk_split (x := 20) (by rfl) (fun h9 => ?_) (fun h9 => ?_)
  · first | have p9 := of_decide_eq_true h9 | have p9 := of_decide_eq_false h9 | have p9 := ndT h9 | have p9 := ndF h9 | have p9 := nbT h9 | have p9 := nbF h9 | have p9 := h9
    refine sc_true (by rfl) h9 ?_
    have hc0 : chk ds d n s.size = 0 := p9
    obtain ⟨k, D, rfl, hk12, hD, hn0, hn1, hsz⟩ := chk_ok hld hc0
    obtain ⟨db, hdb⟩ : ∃ db, ps[k]? = some db := ⟨ps[k], List.getElem?_eq_getElem (by omega)⟩
    rw [hc0, dptr_ok hdb]
    refine jk_focus (d := k) (by repeat (first | exact Pk.here _ | apply Pk.there)) (zip_get hdb hD) ?_
    refine jk_dk_open (D := D) (by repeat (first | exact Pk.here _ | apply Pk.there)) (fun mb wv => ?_)
    have hwn := (hwb k D hD).1
    refine sc_region ?_
    refine so_pure (opv_move (by rfl)) (by rfl) rfl ?_
    refine so_pure (opv_move (by rfl)) (by rfl) rfl ?_
    refine so_pure (opv_nilCheck (by rfl)) (by rfl) rfl ?_
    refine so_pure (opv_fieldAddr (by rfl) fld57_1) (by rfl) rfl ?_
    refine so_pure (opv_load (by rfl) na54 (rd_pk (by repeat (first | exact Pk.here _ | apply Pk.there))) (by rfl)) (by rfl) rfl ?_
    refine so_pure (opv_move (by rfl)) (by rfl) rfl ?_
    refine so_pure (opv_move (by rfl)) (by rfl) rfl ?_
    refine so_pure (opv_build (by rfl) (fun w => by exact bld59_0_1 ..)) (by rfl) rfl ?_
    refine so_eff (eff_buildSlice (by rfl) (fun w => by exact bsl54_1_0 ..)) (by rfl) rfl ?_
    rintro _ _ ⟨b29, rfl, rfl⟩
    refine so_eff (eff_append_lit (by rfl) (by rfl) Try.underlying54 ti59 (by rfl) (by omega) (by repeat (first | exact Pk.here _ | apply Pk.there)) (rd_pk (by repeat (first | exact Pk.here _ | apply Pk.there))) (by rfl) (by rfl) (by unfold maxLen; omega) (by omega)) (by rfl) rfl ?_
    rintro wv2 _ ⟨rfl, _⟩
    refine jo_sv (by repeat (first | exact Pk.here _ | apply Pk.there)) (fun hsv2 => ?_)
    obtain ⟨A2, c2, rfl, _⟩ := hsv2
    refine so_pure (opv_nilCheck (by rfl)) (by rfl) rfl ?_
    refine so_pure (opv_fieldAddr (by rfl) fld57_1) (by rfl) rfl ?_
    refine so_eff0 (eff_store (vs := [.slice A2 (D.ws.length + 1) c2]) (by rfl) (by rfl) (by rfl) ti54 (by rfl) (by repeat (first | exact Pk.here _ | apply Pk.there)) (by exact Nat.le_of_ble_eq_true rfl) (by rfl)) (by rfl) ?_
    rintro _ _ ⟨rfl, rfl⟩
    refine jo_nil ?_
    refine jk_then ?_
    refine jc_seq ?_
    refine sc_region ?_
    refine so_pure (opv_move (by rfl)) (by rfl) rfl ?_
    refine so_pure (opv_assign (by rfl)) (by rfl) rfl ?_
    refine jo_nil ?_
    refine jk_then ?_
    refine jc_ret ?_
    refine jk_fn_ret rfl rfl (by rfl) (fun w hw => ?_)
    rw [onD_ok hc0 hD]
    have hz : own (.slice A2 (D.ws.length + 1) c2) 59 2 (D.ws.length + 1) (D.ws.flatMap Wr.cells ++ [.int .i64 n, .string s]) = own (.slice A2 (D.ws.length + 1) c2) 59 2 ({ D with ws := D.ws ++ [⟨n, s⟩] } : Dsk).ws.length (({ D with ws := D.ws ++ [⟨n, s⟩] } : Dsk).ws.flatMap Wr.cells) := by
      show _ = own _ 59 2 (D.ws ++ [_]).length ((D.ws ++ [_]).flatMap Wr.cells)
      rw [List.length_append, List.flatMap_append]; rfl
    have hw2 : St w0 M (blk db (.cells #[.map (some mb), .slice A2 (D.ws.length + 1) c2, .bool false] 57 (0, 0)) :: mapI kvI mb (mpS ({ D with ws := D.ws ++ [⟨n, s⟩] } : Dsk).kp) :: own (.slice A2 (D.ws.length + 1) c2) 59 2 (D.ws.length + 1) (D.ws.flatMap Wr.cells ++ [.int .i64 n, .string s]) :: grp ((List.zipWith dkI ps ds).eraseIdx k) :: blk bb (.cells (ptrs ps).toArray 50 (0, 0)) :: Fr) w := St.keep (Sb := [blk db (.cells #[.map (some mb), .slice A2 (D.ws.length + 1) c2, .bool false] 57 (0, 0)), mapI kvI mb (mpS D.kp), own (.slice A2 (D.ws.length + 1) c2) 59 2 (D.ws.length + 1) (D.ws.flatMap Wr.cells ++ [.int .i64 n, .string s]), grp ((List.zipWith dkI ps ds).eraseIdx k), blk bb (.cells (ptrs ps).toArray 50 (0, 0))]) hw (by repeat (first | exact Pks.nil _ | exact Pk.here _ | apply Pk.there | apply Pks.cons)) (by repeat (first | exact Tl.here _ | apply Tl.there))
    rw [hz] at hw2
    have hw3 := focus_back hdb (by omega) (St.keep (Sb := [dkI db (some ({ D with ws := D.ws ++ [⟨n, s⟩] } : Dsk)), grp ((List.zipWith dkI ps ds).eraseIdx k)]) (dk_mk hw2) (by repeat (first | exact Pks.nil _ | exact Pk.here _ | apply Pk.there | apply Pks.cons)) (Tl.here _))
    exact ⟨rfl, St.keep (Sb := [blk bb (.cells (ptrs ps).toArray 50 (0, 0)), grp (List.zipWith dkI ps (ds.set k (some ({ D with ws := D.ws ++ [⟨n, s⟩] } : Dsk))))]) hw3 (by repeat (first | exact Pks.nil _ | exact Pk.here _ | apply Pk.there | apply Pks.cons)) (by repeat (first | exact Tl.here _ | apply Tl.there))⟩
  · first | have p9 := of_decide_eq_true h9 | have p9 := of_decide_eq_false h9 | have p9 := ndT h9 | have p9 := ndF h9 | have p9 := nbT h9 | have p9 := nbF h9 | have p9 := h9
    refine sc_false (by rfl) h9 ?_
    refine jc_skip ?_
    refine jk_then ?_
    refine jc_seq ?_
    refine sc_region ?_
    refine so_pure (opv_move (by rfl)) (by rfl) rfl ?_
    refine so_pure (opv_assign (by rfl)) (by rfl) rfl ?_
    refine jo_nil ?_
    refine jk_then ?_
    refine jc_ret ?_
    refine jk_fn_ret rfl rfl (by rfl) (fun w hw => ?_)
    rw [onD_no p9]
    exact ⟨rfl, hw⟩
end Go.Disks
