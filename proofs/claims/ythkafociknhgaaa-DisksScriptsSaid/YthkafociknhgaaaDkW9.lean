/- A part of a proof for the laws of the seat Ythkafociknhgaaa; it has no conditions of its own. -/
import Derived.Test.YthkafociknhgaaaDkW8
namespace Go.Disks
open Go Go.SL Go.Proofs
set_option maxHeartbeats 4000000 in
theorem crash_spec {w0 w : World} {M : Nat → Prop} {Fr : List Itm} {bb : Nat} {ps : List Nat} {ds : List DD} (A B : Option Addr) (n m c c2 : Nat) (xs ys : List Bool) (hst : St w0 M (blk bb (.cells (ptrs ps).toArray 50 (0, 0)) :: grp (List.zipWith dkI ps ds) :: Fr) w) (hlp : ps.length = 12) (hld : ds.length = 12) {N : Nat} (hwb : WB ds N) (hN : N ≤ 100000) (hkeep : ∀ w1, St w0 M Fr w1 → SlR w1 4 1 bc A n xs) (htorn : ∀ w1, St w0 M Fr w1 → SlR w1 4 1 bc B m ys) : Does Try.prog 13 #[.pointer (some ⟨bb, 0, none⟩), .slice A n c, .slice B m c2] w (fun v w' => v = .int .i64 0 ∧ St w0 M (blk bb (.cells (ptrs ps).toArray 50 (0, 0)) :: grp (List.zipWith dkI ps (crashK xs ys ds 12)) :: Fr) w') := by
  refine fn_bodyX (fn := Try.f13) Try.func13 rfl [(0, .pointer (some ⟨bb, 0, none⟩)), (1, .slice A n c), (2, .slice B m c2)] (by exact ⟨rfl, rfl, rfl, trivial⟩) rfl hst ?_
  refine jc_seq ?_
  refine sc_region ?_
  refine so_eff (eff_box (by rfl) rfl) (by rfl) rfl ?_
  rintro _ _ ⟨b4, rfl, rfl⟩
  refine so_eff (eff_box (by rfl) rfl) (by rfl) rfl ?_
  rintro _ _ ⟨b5, rfl, rfl⟩
  refine so_pure (opv_assign (by rfl)) (by rfl) rfl ?_
  refine jo_nil ?_
  refine jk_then ?_
  refine jc_seq ?_
  refine jc_seq ?_
  refine sc_region ?_
  refine so_pure (opv_move (by rfl)) (by rfl) rfl ?_
  refine so_pure (opv_ptr_nil (by rfl) (by rfl) Try.underlying25) (by rfl) rfl ?_
  refine jo_nil ?_
  refine jk_then ?_
  refine sc_false (by rfl) rfl ?_
  refine jc_skip ?_
  refine jk_then ?_
  refine jc_seq ?_
  refine sc_region ?_
  refine so_eff (eff_alloc ti66 rfl) (by rfl) rfl ?_
  rintro _ _ ⟨b7, rfl, rfl⟩
  refine so_eff0 (eff_store_all (by rfl) (by rfl) (by rfl) ti66 (by rfl) (by repeat (first | exact Pk.here _ | apply Pk.there)) (by rfl) (by rfl)) (by rfl) ?_
  rintro _ _ ⟨rfl, rfl⟩
  refine jo_nil ?_
  refine jk_then ?_
  refine jc_seq ?_
  refine sc_region ?_
  refine so_eff (eff_alloc ti3 rfl) (by rfl) rfl ?_
  rintro _ _ ⟨b8, rfl, rfl⟩
  refine so_eff0 (eff_store_all (by rfl) (by rfl) (by rfl) ti3 (by rfl) (by repeat (first | exact Pk.here _ | apply Pk.there)) (by rfl) (by rfl)) (by rfl) ?_
  rintro _ _ ⟨rfl, rfl⟩
  refine jo_nil ?_
  refine jk_then ?_
  refine jc_seq ?_
  refine jc_seq ?_
  refine sc_region ?_
  refine so_pure (opv_move (by rfl)) (by rfl) rfl ?_
  refine so_pure (opv_nilCheck (by rfl)) (by rfl) rfl ?_
  refine so_pure (opv_fieldAddr (by rfl) fld50_0) (by rfl) rfl ?_
  refine so_pure (opv_load_agg (vs := ptrs ps) (by rfl) ag48 ti48 (rd_pk (by repeat (first | exact Pk.here _ | apply Pk.there))) (cells_of_get (fun j v h => by simpa using h)) (by unfold ptrs; simp; omega)) (by rfl) rfl ?_
  refine so_pure (opv_move (by rfl)) (by rfl) rfl ?_
  refine jo_nil ?_
  refine jk_then ?_
  refine jc_block ?_
  refine jc_loop (σ := Nat) (fun k => [(0, .pointer (some ⟨bb, 0, none⟩)), (4, .pointer (some ⟨b4, 0, none⟩)), (5, .pointer (some ⟨b5, 0, none⟩)), (7, .pointer (some ⟨b7, 0, none⟩)), (8, .pointer (some ⟨b8, 0, none⟩)), (17, .agg (ptrs ps).toArray), (18, .int .i64 k)]) (fun k => (blk b4 (.cells #[.slice A n c] 23 (0, 0)) :: blk b5 (.cells #[.slice B m c2] 23 (0, 0)) :: blk b7 (.cells #[.func (.func 33) #[] #[]] 66 (0, 0)) :: blk b8 (.cells #[.int .i64 ((atK ds k : Nat) : Int)] 3 (0, 0)) :: blk bb (.cells (ptrs ps).toArray 50 (0, 0)) :: grp (List.zipWith dkI ps (crashK xs ys ds k)) :: Fr)) (fun k => (k ≤ 12) ∧ (True)) (fun k => 12 - k) 0 ⟨Nat.zero_le _, trivial⟩ ⟨rfl, rfl, rfl, rfl, rfl, rfl, rfl, trivial⟩ (fun w hw => St.keep (Sb := [blk b4 (.cells #[.slice A n c] 23 (0, 0)), blk b5 (.cells #[.slice B m c2] 23 (0, 0)), blk b7 (.cells #[.func (.func 33) #[] #[]] 66 (0, 0)), blk b8 (.cells #[.int .i64 ((atK ds 0 : Nat) : Int)] 3 (0, 0)), blk bb (.cells (ptrs ps).toArray 50 (0, 0)), grp (List.zipWith dkI ps (crashK xs ys ds 0))]) hw (by repeat (first | exact Pks.nil _ | exact Pk.here _ | apply Pk.there | apply Pks.cons)) (by repeat (first | exact Tl.here _ | apply Tl.there))) ?_
  rintro k ⟨hk12, ht⟩
  show Jc _ _ [(0, .pointer (some ⟨bb, 0, none⟩)), (4, .pointer (some ⟨b4, 0, none⟩)), (5, .pointer (some ⟨b5, 0, none⟩)), (7, .pointer (some ⟨b7, 0, none⟩)), (8, .pointer (some ⟨b8, 0, none⟩)), (17, .agg (ptrs ps).toArray), (18, .int .i64 k)] (blk b4 (.cells #[.slice A n c] 23 (0, 0)) :: blk b5 (.cells #[.slice B m c2] 23 (0, 0)) :: blk b7 (.cells #[.func (.func 33) #[] #[]] 66 (0, 0)) :: blk b8 (.cells #[.int .i64 ((atK ds k : Nat) : Int)] 3 (0, 0)) :: blk bb (.cells (ptrs ps).toArray 50 (0, 0)) :: grp (List.zipWith dkI ps (crashK xs ys ds k)) :: Fr) _
  refine jc_seq ?_
  refine sc_region ?_
  refine so_pure (opv_cmp (by rfl) (by rfl) (by rfl)) (by rfl) rfl ?_
  refine jo_nil ?_
  refine jk_then ?_
  refine jc_seq ?_
  refine sk_split (x := 19) (by rfl) (fun h13 => ?_) (fun h13 => ?_)
  · first | have p13 := of_decide_eq_true h13 | have p13 := of_decide_eq_false h13 | have p13 := ndT h13 | have p13 := ndF h13 | have p13 := nbT h13 | have p13 := nbF h13 | have p13 := h13
    refine sc_true (by rfl) h13 ?_
    refine jc_skip ?_
    refine jk_then ?_
    refine jc_seq ?_
    refine jc_block ?_
    refine jc_seq ?_
    have hk : k < 12 := by omega
    obtain ⟨db, hdb⟩ : ∃ db, ps[k]? = some db := ⟨ps[k], List.getElem?_eq_getElem (by omega)⟩
    obtain ⟨DQ, hDs⟩ : ∃ D, ds[k]? = some D := ⟨ds[k], List.getElem?_eq_getElem (by omega)⟩
    have hDc : (crashK xs ys ds k)[k]? = some DQ := by rw [crashK_get xs ys ds k k (Nat.le_refl _)]; exact hDs
    have hat : atK ds k ≤ 12 * N := Nat.le_trans (atK_le hwb k (by omega)) (Nat.mul_le_mul_right _ (by omega))
    refine jk_focus (d := k) (by repeat (first | exact Pk.here _ | apply Pk.there)) (zip_get hdb hDc) ?_
    refine sc_region ?_
    refine so_pure (opv_index_arr (i := k) (by rfl) (by rfl) Try.underlying48 ti47 na47 rfl (by omega) (ptrs_get hdb)) (by rfl) rfl ?_
    refine so_pure (opv_assign (by rfl)) (by rfl) rfl ?_
    refine jo_nil ?_
    refine jk_then ?_
    refine jc_seq ?_
    rcases DQ with _ | D
    · skip
      refine sc_region ?_
      refine so_pure (opv_move (by rfl)) (by rfl) rfl ?_
      refine so_pure (opv_nilCheck (by rfl)) (by rfl) rfl ?_
      refine so_pure (opv_fieldAddr (by rfl) fld57_1) (by rfl) rfl ?_
      refine so_pure (opv_load (v := .slice none 0 0) (by rfl) na54 (rd_pk (by first | exact Pk.there (Pk.here _) | (show Pk _ _ _; exact Pk.here _) | (repeat (first | exact Pk.here _ | apply Pk.there)))) (by rfl)) (by rfl) rfl ?_
      refine so_pure (opv_len_slice (n := 0) (by rfl) Try.underlying54) (by rfl) rfl ?_
      refine so_pure (opv_assign (by rfl)) (by rfl) rfl ?_
      refine jo_nil ?_
      refine jk_then ?_
      refine jc_seq ?_
      refine sc_region ?_
      refine so_pure (opv_move (by rfl)) (by rfl) rfl ?_
      refine so_pure (opv_makeFunc (by rfl) (by rfl)) (by rfl) rfl ?_
      refine so_eff (eff_callF [blk db (.cells #[.map none, .slice none 0 0, .bool true] 57 (0, 0))] (fl := []) (cl := []) (f := 28) (G := fun v Is' => Is' = [blk db (.cells #[.map none, .slice none 0 0, .bool true] 57 (0, 0))]) (by rfl) (by rfl) tx28 (by repeat (first | exact Pks.nil _ | exact Pk.here _ | apply Pk.there | apply Pks.cons)) (by exact fun w1 hw1 => (settle_lost hw1).mono (fun _ _ hst => ⟨_, rfl, hst⟩))) (by rfl) rfl ?_
      rintro _ _ ⟨_, rfl, rfl⟩
      refine jo_nil ?_
      refine jk_then ?_
      refine sc_region ?_
      refine so_pure (opv_load (by rfl) na3 (rd_pk (by repeat (first | exact Pk.here _ | apply Pk.there))) (by rfl)) (by rfl) rfl ?_
      refine so_pure (opv_move (by rfl)) (by rfl) rfl ?_
      refine so_pure (opv_add_nat (m := atK ds k) (n := 0) (by rfl) (by rfl) (by omega)) (by rfl) rfl ?_
      refine so_eff0 (eff_store_all (by rfl) (by rfl) (by rfl) ti3 (by rfl) (by repeat (first | exact Pk.here _ | apply Pk.there)) (by rfl) (by rfl)) (by rfl) ?_
      rintro _ _ ⟨rfl, rfl⟩
      refine jo_nil ?_
      refine jk_block ?_
      refine jk_then ?_
      refine sc_region ?_
      refine so_pure (opv_add (by rfl) (by rfl) (wrap64_ok (by omega))) (by rfl) rfl ?_
      refine so_pure (opv_move (by rfl)) (by rfl) rfl ?_
      refine jo_nil ?_
      refine jk_round (k + 1) ⟨by omega, trivial⟩ (by show 12 - (k + 1) < 12 - k; omega) ⟨rfl, rfl, rfl, rfl, rfl, rfl, rfl, trivial⟩ (fun w hw => ?_)
      show St _ _ (blk b4 (.cells #[.slice A n c] 23 (0, 0)) :: blk b5 (.cells #[.slice B m c2] 23 (0, 0)) :: blk b7 (.cells #[.func (.func 33) #[] #[]] 66 (0, 0)) :: blk b8 (.cells #[.int .i64 ((atK ds (k + 1) : Nat) : Int)] 3 (0, 0)) :: blk bb (.cells (ptrs ps).toArray 50 (0, 0)) :: grp (List.zipWith dkI ps (crashK xs ys ds (k + 1))) :: Fr) _
      rw [crashK_succ hDs, atK_succ hDs]
      have hw3 := focus_back hdb (by rw [crashK_len]; omega) (St.keep (Sb := [dkI db none, grp ((List.zipWith dkI ps (crashK xs ys ds k)).eraseIdx k)]) hw (by repeat (first | exact Pks.nil _ | exact Pk.here _ | apply Pk.there | apply Pks.cons)) (Tl.here _))
      exact St.keep (Sb := [blk b4 (.cells #[.slice A n c] 23 (0, 0)), blk b5 (.cells #[.slice B m c2] 23 (0, 0)), blk b7 (.cells #[.func (.func 33) #[] #[]] 66 (0, 0)), blk b8 (.cells #[.int .i64 ((atK ds k + 0 : Nat) : Int)] 3 (0, 0)), blk bb (.cells (ptrs ps).toArray 50 (0, 0)), grp (List.zipWith dkI ps ((crashK xs ys ds k).set k none))]) hw3 (by repeat (first | exact Pks.nil _ | exact Pk.here _ | apply Pk.there | apply Pks.cons)) (by repeat (first | exact Tl.here _ | apply Tl.there))
    · have hwn : D.ws.length ≤ 100000 ∧ ∀ x ∈ D.ws, x.s.size ≤ 1000000 := ⟨Nat.le_trans (hwb k D hDs).1 hN, (hwb k D hDs).2⟩
      refine jk_dk_open (D := D) (by repeat (first | exact Pk.here _ | apply Pk.there)) (fun mb wv => ?_)
      refine sc_region ?_
      refine so_pure (opv_move (by rfl)) (by rfl) rfl ?_
      refine so_pure (opv_nilCheck (by rfl)) (by rfl) rfl ?_
      refine so_pure (opv_fieldAddr (by rfl) fld57_1) (by rfl) rfl ?_
      refine so_pure (opv_load (v := wv) (by rfl) na54 (rd_pk (by first | exact Pk.there (Pk.here _) | (show Pk _ _ _; exact Pk.here _) | (repeat (first | exact Pk.here _ | apply Pk.there)))) (by rfl)) (by rfl) rfl ?_
      refine so_pure (opv_len_own (v := wv) (by rfl) Try.underlying54 (by repeat (first | exact Pk.here _ | apply Pk.there))) (by rfl) rfl ?_
      refine so_pure (opv_assign (by rfl)) (by rfl) rfl ?_
      refine jo_nil ?_
      refine jk_then ?_
      refine jc_seq ?_
      refine sc_region ?_
      refine so_pure (opv_move (by rfl)) (by rfl) rfl ?_
      refine so_pure (opv_makeFunc (by rfl) (by rfl)) (by rfl) rfl ?_
      refine so_eff (eff_callF [blk db (.cells #[.map (some mb), wv, .bool false] 57 (0, 0)), mapI kvI mb (mpS D.kp), own wv 59 2 D.ws.length (D.ws.flatMap Wr.cells)] (fl := []) (cl := []) (f := 28) (G := fun v Is' => Is' = [dkI db (some (settleD (fun j => crashH xs ys (atK ds k + j)) D))]) (by rfl) (by rfl) tx28 (by repeat (first | exact Pks.nil _ | exact Pk.here _ | apply Pk.there | apply Pks.cons)) (by exact fun w1 hw1 => (settle_spec (fi := 34) (cl := [.pointer (some ⟨b7, 0, none⟩), .pointer (some ⟨b4, 0, none⟩), .pointer (some ⟨b8, 0, none⟩), .pointer (some ⟨b5, 0, none⟩)]) (h := (fun j => crashH xs ys (atK ds k + j))) tx34 hw1 rfl hwn.1 hwn.2 (fun i Is2 w2 hi hw2 => crash2_spec w2 i (atK ds k) b7 b4 b8 b5 A B n m c c2 xs ys (hkeep w2 (St.tl (Tl.pre Is2 (by repeat (first | exact Tl.here _ | apply Tl.there))) hw2)) (htorn w2 (St.tl (Tl.pre Is2 (by repeat (first | exact Tl.here _ | apply Tl.there))) hw2)) (by omega) (hw2.get (Pk.app Is2 (by repeat (first | exact Pk.here _ | apply Pk.there)))) (hw2.get (Pk.app Is2 (by repeat (first | exact Pk.here _ | apply Pk.there)))) (hw2.get (Pk.app Is2 (by repeat (first | exact Pk.here _ | apply Pk.there)))) (hw2.get (Pk.app Is2 (by repeat (first | exact Pk.here _ | apply Pk.there)))))).mono (fun _ _ hst => ⟨_, rfl, hst⟩))) (by rfl) rfl ?_
      rintro _ _ ⟨_, rfl, rfl⟩
      refine jo_nil ?_
      refine jk_then ?_
      refine sc_region ?_
      refine so_pure (opv_load (by rfl) na3 (rd_pk (by repeat (first | exact Pk.here _ | apply Pk.there))) (by rfl)) (by rfl) rfl ?_
      refine so_pure (opv_move (by rfl)) (by rfl) rfl ?_
      refine so_pure (opv_add_nat (m := atK ds k) (n := D.ws.length) (by rfl) (by rfl) (by omega)) (by rfl) rfl ?_
      refine so_eff0 (eff_store_all (by rfl) (by rfl) (by rfl) ti3 (by rfl) (by repeat (first | exact Pk.here _ | apply Pk.there)) (by rfl) (by rfl)) (by rfl) ?_
      rintro _ _ ⟨rfl, rfl⟩
      refine jo_nil ?_
      refine jk_block ?_
      refine jk_then ?_
      refine sc_region ?_
      refine so_pure (opv_add (by rfl) (by rfl) (wrap64_ok (by omega))) (by rfl) rfl ?_
      refine so_pure (opv_move (by rfl)) (by rfl) rfl ?_
      refine jo_nil ?_
      refine jk_round (k + 1) ⟨by omega, trivial⟩ (by show 12 - (k + 1) < 12 - k; omega) ⟨rfl, rfl, rfl, rfl, rfl, rfl, rfl, trivial⟩ (fun w hw => ?_)
      show St _ _ (blk b4 (.cells #[.slice A n c] 23 (0, 0)) :: blk b5 (.cells #[.slice B m c2] 23 (0, 0)) :: blk b7 (.cells #[.func (.func 33) #[] #[]] 66 (0, 0)) :: blk b8 (.cells #[.int .i64 ((atK ds (k + 1) : Nat) : Int)] 3 (0, 0)) :: blk bb (.cells (ptrs ps).toArray 50 (0, 0)) :: grp (List.zipWith dkI ps (crashK xs ys ds (k + 1))) :: Fr) _
      rw [crashK_succ hDs, atK_succ hDs]
      have hw3 := focus_back hdb (by rw [crashK_len]; omega) (St.keep (Sb := [dkI db (some (settleD (fun j => crashH xs ys (atK ds k + j)) D)), grp ((List.zipWith dkI ps (crashK xs ys ds k)).eraseIdx k)]) hw (by repeat (first | exact Pks.nil _ | exact Pk.here _ | apply Pk.there | apply Pks.cons)) (Tl.here _))
      exact St.keep (Sb := [blk b4 (.cells #[.slice A n c] 23 (0, 0)), blk b5 (.cells #[.slice B m c2] 23 (0, 0)), blk b7 (.cells #[.func (.func 33) #[] #[]] 66 (0, 0)), blk b8 (.cells #[.int .i64 ((atK ds k + D.ws.length : Nat) : Int)] 3 (0, 0)), blk bb (.cells (ptrs ps).toArray 50 (0, 0)), grp (List.zipWith dkI ps ((crashK xs ys ds k).set k (some (settleD (fun j => crashH xs ys (atK ds k + j)) D))))]) hw3 (by repeat (first | exact Pks.nil _ | exact Pk.here _ | apply Pk.there | apply Pks.cons)) (by repeat (first | exact Tl.here _ | apply Tl.there))
  · first | have p13 := of_decide_eq_true h13 | have p13 := of_decide_eq_false h13 | have p13 := ndT h13 | have p13 := ndF h13 | have p13 := nbT h13 | have p13 := nbF h13 | have p13 := h13
    refine sc_false (by rfl) h13 ?_
    refine jc_exit ?_
    refine jk_then_exit ?_
    refine jk_then_exit ?_
    refine jk_block_exit ?_
    refine jk_then ?_
    refine jc_seq ?_
    refine sc_region ?_
    refine so_pure (opv_assign (by rfl)) (by rfl) rfl ?_
    refine jo_nil ?_
    refine jk_then ?_
    refine jc_ret ?_
    refine jk_fn_ret rfl rfl (by rfl) (fun w hw => ?_)
    have ek : k = 12 := by omega
    subst ek
    exact ⟨rfl, St.keep (Sb := [blk bb (.cells (ptrs ps).toArray 50 (0, 0)), grp (List.zipWith dkI ps (crashK xs ys ds 12))]) hw (by repeat (first | exact Pks.nil _ | exact Pk.here _ | apply Pk.there | apply Pks.cons)) (by repeat (first | exact Tl.here _ | apply Tl.there))⟩
end Go.Disks
