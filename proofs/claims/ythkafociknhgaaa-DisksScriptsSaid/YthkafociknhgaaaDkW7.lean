/- A part of a proof for the laws of the seat Ythkafociknhgaaa; it has no conditions of its own. -/
import Derived.Test.YthkafociknhgaaaDkW6
namespace Go.Disks
open Go Go.SL Go.Proofs
set_option maxHeartbeats 4000000 in
theorem flush1_spec (w : World) (i : Int) : Does Try.prog 29 #[.int .i64 i] w (fun v w' => v = howV (some false) ∧ St w Emp [] w') := by
  refine fn_body (fn := Try.f29) Try.func29 rfl [(0, .int .i64 i)] (by exact ⟨rfl, trivial⟩) rfl (St.start w) ?_
  refine jc_seq ?_
  refine sc_region ?_
  refine so_pure (opv_assign (by rfl)) (by rfl) rfl ?_
  refine jo_nil ?_
  refine jk_then ?_
  refine jc_seq ?_
  refine sc_region ?_
  refine so_pure (opv_assign (by rfl)) (by rfl) rfl ?_
  refine jo_nil ?_
  refine jk_then ?_
  refine jc_ret ?_
  refine jk_fn_ret rfl rfl (by rfl) (fun w hw => ?_)
  exact ⟨rfl, hw.forget⟩
set_option maxHeartbeats 4000000 in
theorem flush_spec {w0 w : World} {M : Nat → Prop} {Fr : List Itm} {bb : Nat} {ps : List Nat} {ds : List DD} (d : Int) (hst : St w0 M (blk bb (.cells (ptrs ps).toArray 50 (0, 0)) :: grp (List.zipWith dkI ps ds) :: Fr) w) (hlp : ps.length = 12) (hld : ds.length = 12) {N : Nat} (hwb : WB ds N) (hN : N ≤ 100000) : Does Try.prog 11 #[.pointer (some ⟨bb, 0, none⟩), .int .i64 d] w (fun v w' => v = .int .i64 (chk ds d 0 0) ∧ St w0 M (blk bb (.cells (ptrs ps).toArray 50 (0, 0)) :: grp (List.zipWith dkI ps (onD ds d 0 0 (settleD (fun _ => some false)))) :: Fr) w') := by
  refine fn_bodyX (fn := Try.f11) Try.func11 rfl [(0, .pointer (some ⟨bb, 0, none⟩)), (1, .int .i64 d)] (by exact ⟨rfl, rfl, trivial⟩) rfl hst ?_
  refine jc_seq ?_
  refine sc_region ?_
  refine so_pure (opv_assign (by rfl)) (by rfl) rfl ?_
  refine jo_nil ?_
  refine jk_then ?_
  refine jc_seq ?_
  refine sc_region ?_
  refine so_pure (opv_move (by rfl)) (by rfl) rfl ?_
  refine so_pure (opv_move (by rfl)) (by rfl) rfl ?_
  refine so_eff (eff_callF [blk bb (.cells (ptrs ps).toArray 50 (0, 0)), grp (List.zipWith dkI ps ds)] (fl := []) (cl := []) (G := fun v Is' => v = .tuple #[dptr ps d (chk ds d 0 0), .int .i64 (chk ds d 0 0)] ∧ Is' = [blk bb (.cells (ptrs ps).toArray 50 (0, 0)), grp (List.zipWith dkI ps ds)]) (by rfl) (by rfl) tx27 (by repeat (first | exact Pks.nil _ | exact Pk.here _ | apply Pk.there | apply Pks.cons)) (by exact fun w1 hw1 => (disk_spec d 0 ⟨#[]⟩ hw1 hlp hld).mono (fun _ _ ⟨hv, hst⟩ => ⟨_, ⟨hv, rfl⟩, hst⟩))) (by rfl) rfl ?_
  rintro _ _ ⟨_, ⟨rfl, rfl⟩, rfl⟩
  refine so_pure (opv_move (by rfl)) (by rfl) rfl ?_
  refine so_pure (opv_extract (by rfl) (by rfl)) (by rfl) rfl ?_
  refine so_pure (opv_extract (by rfl) (by rfl)) (by rfl) rfl ?_
  refine so_pure (opv_assign (by rfl)) (by rfl) rfl ?_
  refine so_pure (opv_assign (by rfl)) (by rfl) rfl ?_
  refine jo_nil ?_
  refine jk_then ?_
  refine jc_seq ?_
  refine jc_seq ?_
  refine sc_region ?_
  refine so_pure (opv_move (by rfl)) (by rfl) rfl ?_
  refine so_pure (opv_cmp (by rfl) (by rfl) (by rfl)) (by rfl) rfl ?_
  refine jo_nil ?_
  refine jk_then ?_
  refine sk_split (x := 14) (by rfl) (fun h7 => ?_) (fun h7 => ?_)
  · first | have p7 := of_decide_eq_true h7 | have p7 := of_decide_eq_false h7 | have p7 := ndT h7 | have p7 := ndF h7 | have p7 := nbT h7 | have p7 := nbF h7 | have p7 := h7
    refine sc_true (by rfl) h7 ?_
    have hc0 : chk ds d 0 0 = 0 := p7
    obtain ⟨k, D, rfl, hk12, hD, hn0, hn1, hsz⟩ := chk_ok hld hc0
    obtain ⟨db, hdb⟩ : ∃ db, ps[k]? = some db := ⟨ps[k], List.getElem?_eq_getElem (by omega)⟩
    rw [hc0, dptr_ok hdb]
    refine jk_focus (d := k) (by repeat (first | exact Pk.here _ | apply Pk.there)) (zip_get hdb hD) ?_
    refine jk_dk_open (D := D) (by repeat (first | exact Pk.here _ | apply Pk.there)) (fun mb wv => ?_)
    have hwn : D.ws.length ≤ 100000 ∧ ∀ x ∈ D.ws, x.s.size ≤ 1000000 := ⟨Nat.le_trans (hwb k D hD).1 hN, (hwb k D hD).2⟩
    refine sc_region ?_
    refine so_pure (opv_move (by rfl)) (by rfl) rfl ?_
    refine so_eff (eff_callF [blk db (.cells #[.map (some mb), wv, .bool false] 57 (0, 0)), mapI kvI mb (mpS D.kp), own wv 59 2 D.ws.length (D.ws.flatMap Wr.cells)] (fl := []) (cl := []) (f := 28) (G := fun v Is' => Is' = [dkI db (some (settleD (fun _ => some false) D))]) (by rfl) (by rfl) tx28 (by repeat (first | exact Pks.nil _ | exact Pk.here _ | apply Pk.there | apply Pks.cons)) (by exact fun w1 hw1 => (settle_spec (fi := 29) (cl := []) (h := (fun _ => some false)) tx29 hw1 rfl hwn.1 hwn.2 (fun i Is2 w2 _ _ => flush1_spec w2 i)).mono (fun _ _ hst => ⟨_, rfl, hst⟩))) (by rfl) rfl ?_
    rintro _ _ ⟨_, rfl, rfl⟩
    refine jo_nil ?_
    refine jk_then ?_
    refine jc_seq ?_
    refine sc_region ?_
    refine so_pure (opv_move (by rfl)) (by rfl) rfl ?_
    refine so_pure (opv_assign (by rfl)) (by rfl) rfl ?_
    refine jo_nil ?_
    refine jk_then ?_
    refine jc_ret ?_
    refine jk_fn_ret rfl rfl (by rfl) (fun w hw => ?_)
    rw [onD_ok hc0 hD]
    have hw3 := focus_back hdb (by omega) (St.keep (Sb := [dkI db (some (settleD (fun _ => some false) D)), grp ((List.zipWith dkI ps ds).eraseIdx k)]) hw (by repeat (first | exact Pks.nil _ | exact Pk.here _ | apply Pk.there | apply Pks.cons)) (Tl.here _))
    exact ⟨rfl, St.keep (Sb := [blk bb (.cells (ptrs ps).toArray 50 (0, 0)), grp (List.zipWith dkI ps (ds.set k (some (settleD (fun _ => some false) D))))]) hw3 (by repeat (first | exact Pks.nil _ | exact Pk.here _ | apply Pk.there | apply Pks.cons)) (by repeat (first | exact Tl.here _ | apply Tl.there))⟩
  · first | have p7 := of_decide_eq_true h7 | have p7 := of_decide_eq_false h7 | have p7 := ndT h7 | have p7 := ndF h7 | have p7 := nbT h7 | have p7 := nbF h7 | have p7 := h7
    refine sc_false (by rfl) h7 ?_
    refine jc_skip ?_
    refine jk_then ?_
    refine jc_seq ?_
    refine sc_region ?_
    refine so_pure (opv_move (by rfl)) (by rfl) rfl ?_
    refine so_pure (opv_assign (by rfl)) (by rfl) rfl ?_
    refine jo_nil ?_
    refine jk_then ?_
    refine jc_ret ?_
    refine jk_fn_ret rfl rfl (by rfl) (fun w hw => ?_)
    rw [onD_no p7]
    exact ⟨rfl, hw⟩
set_option maxHeartbeats 4000000 in
theorem is_spec (w : World) (A : Option Addr) (n c : Nat) (xs : List Bool) (hs : SlR w 4 1 bc A n xs) (i : Nat) : Does Try.prog 33 #[.slice A n c, .int .i64 (i : Int)] w (fun v w' => v = .bool (isB xs i) ∧ St w Emp [] w') := by
  refine fn_body (fn := Try.f33) Try.func33 rfl [(0, .slice A n c), (1, .int .i64 (i : Int))] (by exact ⟨rfl, rfl, trivial⟩) rfl (St.start w) ?_
  refine jc_seq ?_
  refine sc_region ?_
  refine so_pure (opv_assign (by rfl)) (by rfl) rfl ?_
  refine jo_nil ?_
  refine jk_then ?_
  refine jc_seq ?_
  refine sc_region ?_
  refine so_pure (opv_move (by rfl)) (by rfl) rfl ?_
  refine so_pure (opv_move (by rfl)) (by rfl) rfl ?_
  refine so_pure (opv_len_slice (by rfl) Try.underlying23) (by rfl) rfl ?_
  refine so_pure (opv_cmp (by rfl) (by rfl) (by rfl)) (by rfl) rfl ?_
  refine so_pure (opv_move (by rfl)) (by rfl) rfl ?_
  refine sk_split (x := 9) (by rfl) (fun h4 => ?_) (fun h4 => ?_)
  · first | have p4 := of_decide_eq_true h4 | have p4 := of_decide_eq_false h4 | have p4 := ndT h4 | have p4 := ndF h4 | have p4 := nbT h4 | have p4 := nbF h4 | have p4 := h4
    refine so_pure (opv_move (by rfl)) (wtd_run rfl rfl (by rfl) h4) rfl ?_
    refine so_pure (opv_move (by rfl)) (wtd_run rfl rfl (by rfl) h4) rfl ?_
    have hlt : i < n := by omega
    obtain ⟨_, _, _, _, x, _, _, hx, _⟩ := hs.get hlt
    refine so_pure (opv_indexAddr_slr (i := i) (by rfl) hs (by rfl) Try.underlying23 ti4 rfl hlt) (wtd_run rfl rfl (by rfl) h4) rfl ?_
    refine so_pure (opv_load_slr (enc := bc) (u := x) (fo := 0) (v := .bool x) (by rfl) na4 rfl hs hx rfl) (wtd_run rfl rfl (by rfl) h4) rfl ?_
    refine so_pure (sv_pick_t (by rfl) h4 (by rfl)) (by rfl) rfl ?_
    refine so_pure (opv_assign (by rfl)) (by rfl) rfl ?_
    refine jo_nil ?_
    refine jk_then ?_
    refine jc_ret ?_
    refine jk_fn_ret rfl rfl (by rfl) (fun w hw => ?_)
    refine ⟨?_, hw.forget⟩
    unfold isB
    rw [hx]; rfl
  · first | have p4 := of_decide_eq_true h4 | have p4 := of_decide_eq_false h4 | have p4 := ndT h4 | have p4 := ndF h4 | have p4 := nbT h4 | have p4 := nbF h4 | have p4 := h4
    refine so_skip (wtd_not rfl rfl (by rfl) h4) rfl ?_
    refine so_skip (wtd_not rfl rfl (by rfl) h4) rfl ?_
    refine so_skip (wtd_not rfl rfl (by rfl) h4) rfl ?_
    refine so_skip (wtd_not rfl rfl (by rfl) h4) rfl ?_
    refine so_pure (sv_pick_f (by rfl) h4 (by rfl)) (by rfl) rfl ?_
    refine so_pure (opv_assign (by rfl)) (by rfl) rfl ?_
    refine jo_nil ?_
    refine jk_then ?_
    refine jc_ret ?_
    refine jk_fn_ret rfl rfl (by rfl) (fun w hw => ?_)
    refine ⟨?_, hw.forget⟩
    unfold isB
    rw [List.getElem?_eq_none (by have := hs.1; omega)]; rfl
end Go.Disks
