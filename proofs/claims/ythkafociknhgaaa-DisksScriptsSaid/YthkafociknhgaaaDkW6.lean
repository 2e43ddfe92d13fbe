/- A part of a proof for the laws of the seat Ythkafociknhgaaa; it has no conditions of its own. -/
import Derived.Test.YthkafociknhgaaaDkW5
namespace Go.Disks
open Go Go.SL Go.Proofs
set_option maxHeartbeats 4000000 in
theorem settle_spec {w0 w : World} {M : Nat → Prop} {Fr : List Itm} {db mb n fi : Nat} {wv : Value} {cl : List Value} {kp : Kp} {ws : List Wr} {h : Nat → Option Bool} (tx : Txt Try.prog fi) (hst : St w0 M (blk db (.cells #[.map (some mb), wv, .bool false] 57 (0, 0)) :: mapI kvI mb (mpS kp) :: own wv 59 2 n (ws.flatMap Wr.cells) :: Fr) w) (hnx : n = ws.length) (hn : n ≤ 100000) (hsz : ∀ x ∈ ws, x.s.size ≤ 1000000)
    (hf : ∀ (i : Nat) (Is2 : List Itm) (w : World), i < n → St w0 M (Is2 ++ Fr) w → Does Try.prog fi ([] ++ [Value.int .i64 (i : Int)] ++ cl).toArray w fun v w' => v = howV (h i) ∧ St w Emp [] w') : Does Try.prog 28 #[.pointer (some ⟨db, 0, none⟩), .func (.func fi) #[] cl.toArray] w (fun _ w' => St w0 M (dkI db (some ⟨settleK h kp ws ws.length, []⟩) :: Fr) w') := by
  refine fn_bodyX (fn := Try.f28) Try.func28 rfl [(0, .pointer (some ⟨db, 0, none⟩)), (1, .func (.func fi) #[] cl.toArray)] (by exact ⟨rfl, rfl, trivial⟩) rfl hst ?_
  refine jc_seq ?_
  refine jc_seq ?_
  refine sc_region ?_
  refine so_pure (opv_move (by rfl)) (by rfl) rfl ?_
  refine so_pure (opv_nilCheck (by rfl)) (by rfl) rfl ?_
  refine so_pure (opv_fieldAddr (by rfl) fld57_1) (by rfl) rfl ?_
  refine so_pure (opv_load (by rfl) na54 (rd_pk (by repeat (first | exact Pk.here _ | apply Pk.there))) (by rfl)) (by rfl) rfl ?_
  refine so_pure (opv_len_own (v := wv) (by rfl) Try.underlying54 (by repeat (first | exact Pk.here _ | apply Pk.there))) (by rfl) rfl ?_
  refine so_pure (opv_move (by rfl)) (by rfl) rfl ?_
  refine jo_nil ?_
  refine jk_then ?_
  refine jc_block ?_
  refine jc_loop (σ := Nat) (fun k => [(0, .pointer (some ⟨db, 0, none⟩)), (1, .func (.func fi) #[] cl.toArray), (10, wv), (11, .int .i64 n), (12, .int .i64 k)]) (fun k => (blk db (.cells #[.map (some mb), wv, .bool false] 57 (0, 0)) :: mapI kvI mb (mpS (settleK h kp ws k)) :: own wv 59 2 n (ws.flatMap Wr.cells) :: Fr)) (fun k => (k ≤ n) ∧ (True)) (fun k => n - k) 0 ⟨Nat.zero_le _, trivial⟩ ⟨rfl, rfl, rfl, rfl, rfl, trivial⟩ (fun w hw => hw) ?_
  rintro k ⟨hk, ht⟩
  show Jc _ _ [(0, .pointer (some ⟨db, 0, none⟩)), (1, .func (.func fi) #[] cl.toArray), (10, wv), (11, .int .i64 n), (12, .int .i64 k)] (blk db (.cells #[.map (some mb), wv, .bool false] 57 (0, 0)) :: mapI kvI mb (mpS (settleK h kp ws k)) :: own wv 59 2 n (ws.flatMap Wr.cells) :: Fr) _
  refine jc_seq ?_
  refine sc_region ?_
  refine so_pure (opv_cmp (by rfl) (by rfl) (by rfl)) (by rfl) rfl ?_
  refine jo_nil ?_
  refine jk_then ?_
  refine jc_seq ?_
  refine sk_split (x := 13) (by rfl) (fun h8 => ?_) (fun h8 => ?_)
  · first | have p8 := of_decide_eq_true h8 | have p8 := of_decide_eq_false h8 | have p8 := ndT h8 | have p8 := ndF h8 | have p8 := nbT h8 | have p8 := nbF h8 | have p8 := h8
    refine sc_true (by rfl) h8 ?_
    refine jc_skip ?_
    refine jk_then ?_
    refine jc_seq ?_
    refine jc_block ?_
    refine jc_seq ?_
    have hlt : k < n := by omega
    obtain ⟨x, hx⟩ : ∃ x, ws[k]? = some x := ⟨ws[k], List.getElem?_eq_getElem (by omega)⟩
    refine sc_region ?_
    refine so_pure (opv_move (by rfl)) (by rfl) rfl ?_
    refine so_pure (opv_indexAddr_own (i := k) (v := wv) (by rfl) (by rfl) Try.underlying54 ti59 (by repeat (first | exact Pk.here _ | apply Pk.there)) rfl hlt) (by rfl) rfl ?_
    refine so_pure (opv_load_elem (u := x) Wr.cells_len (by rfl) ag59 ti59 (by repeat (first | exact Pk.here _ | apply Pk.there)) (by omega) hx) (by rfl) rfl ?_
    refine so_eff (eff_alloc ti59 rfl) (by rfl) rfl ?_
    rintro _ _ ⟨b5, rfl, rfl⟩
    refine so_pure (opv_assign (by rfl)) (by rfl) rfl ?_
    refine so_eff0 (eff_store_all (vs := x.cells) (by rfl) (by rfl) (by rfl) ti59 (by rfl) (by repeat (first | exact Pk.here _ | apply Pk.there)) (by rfl) (by rfl)) (by rfl) ?_
    rintro _ _ ⟨rfl, rfl⟩
    refine jo_nil ?_
    refine jk_then ?_
    refine jc_seq ?_
    refine sc_region ?_
    refine so_pure (opv_move (by rfl)) (by rfl) rfl ?_
    refine so_pure (opv_move (by rfl)) (by rfl) rfl ?_
    refine so_eff (eff_call0 (fl := []) (cl := cl) (G := fun v New => v = howV (h k) ∧ New = []) (by rfl) (by rfl) tx (by exact fun w1 hw1 => (hf k [_, _, _, _] w1 hlt hw1).mono (fun _ _ ⟨hv, hst⟩ => ⟨[], ⟨hv, rfl⟩, hst⟩))) (by rfl) rfl ?_
    rintro _ _ ⟨_, ⟨rfl, rfl⟩, rfl⟩
    refine so_pure (opv_assign (by rfl)) (by rfl) rfl ?_
    refine jo_nil ?_
    refine jk_then ?_
    refine jc_seq ?_
    rcases hh : h k with _ | _ | _
    · skip
      refine sc_region ?_
      refine so_pure (opv_move (by rfl)) (by rfl) rfl ?_
      refine so_pure (opv_nilfunc_nnil (by rfl) (by rfl) Try.underlying61) (by rfl) rfl ?_
      refine jo_nil ?_
      refine jk_then ?_
      refine sc_false (by rfl) rfl ?_
      refine jc_skip ?_
      refine jk_block ?_
      refine jk_then ?_
      refine sc_region ?_
      refine so_pure (opv_add (by rfl) (by rfl) (wrap64_ok (by omega))) (by rfl) rfl ?_
      refine so_pure (opv_move (by rfl)) (by rfl) rfl ?_
      refine jo_nil ?_
      have e1 : (settleK h kp ws (k + 1)) = (settleK h kp ws k) := by rw [settleK_succ hx, hh]; rfl
      refine jk_round (k + 1) ⟨by omega, trivial⟩ (by show n - (k + 1) < n - k; omega) ⟨rfl, rfl, rfl, rfl, rfl, trivial⟩ (fun w hw => ?_)
      show St _ _ (blk db (.cells #[.map (some mb), wv, .bool false] 57 (0, 0)) :: mapI kvI mb (mpS (settleK h kp ws (k + 1))) :: own wv 59 2 n (ws.flatMap Wr.cells) :: Fr) _
      rw [e1]
      exact St.keep (Sb := [blk db (.cells #[.map (some mb), wv, .bool false] 57 (0, 0)), mapI kvI mb (mpS (settleK h kp ws k)), own wv 59 2 n (ws.flatMap Wr.cells)]) hw (by repeat (first | exact Pks.nil _ | exact Pk.here _ | apply Pk.there | apply Pks.cons)) (by repeat (first | exact Tl.here _ | apply Tl.there))
    · skip
      refine sc_region ?_
      refine so_pure (opv_move (by rfl)) (by rfl) rfl ?_
      refine so_pure (opv_func_nnil (by rfl) (by rfl) Try.underlying61) (by rfl) rfl ?_
      refine jo_nil ?_
      refine jk_then ?_
      refine sc_true (by rfl) rfl ?_
      refine sc_region ?_
      refine so_pure (opv_move (by rfl)) (by rfl) rfl ?_
      refine so_pure (opv_move (by rfl)) (by rfl) rfl ?_
      refine so_pure (opv_load_agg (vs := x.cells) (by rfl) ag59 ti59 (rd_pk (by repeat (first | exact Pk.here _ | apply Pk.there))) (by exact ⟨rfl, rfl, trivial⟩) rfl) (by rfl) rfl ?_
      refine so_eff (eff_callF [blk db (.cells #[.map (some mb), wv, .bool false] 57 (0, 0)), mapI kvI mb (mpS (settleK h kp ws k))] (fl := []) (cl := []) (f := 30) (G := fun v Is' => Is' = [blk db (.cells #[.map (some mb), wv, .bool false] 57 (0, 0)), mapI kvI mb (mpS (setL (settleK h kp ws k) x.n x.s))]) (by rfl) (by rfl) tx30 (by repeat (first | exact Pks.nil _ | exact Pk.here _ | apply Pk.there | apply Pks.cons)) (by exact fun w1 hw1 => (whole_spec x (hsz x (List.mem_of_getElem? hx)) hw1).mono (fun _ _ hst => ⟨_, rfl, hst⟩))) (by rfl) rfl ?_
      rintro _ _ ⟨_, rfl, rfl⟩
      refine jo_nil ?_
      refine jk_block ?_
      refine jk_then ?_
      refine sc_region ?_
      refine so_pure (opv_add (by rfl) (by rfl) (wrap64_ok (by omega))) (by rfl) rfl ?_
      refine so_pure (opv_move (by rfl)) (by rfl) rfl ?_
      refine jo_nil ?_
      have e1 : (settleK h kp ws (k + 1)) = setL (settleK h kp ws k) x.n x.s := by rw [settleK_succ hx, hh]; rfl
      refine jk_round (k + 1) ⟨by omega, trivial⟩ (by show n - (k + 1) < n - k; omega) ⟨rfl, rfl, rfl, rfl, rfl, trivial⟩ (fun w hw => ?_)
      show St _ _ (blk db (.cells #[.map (some mb), wv, .bool false] 57 (0, 0)) :: mapI kvI mb (mpS (settleK h kp ws (k + 1))) :: own wv 59 2 n (ws.flatMap Wr.cells) :: Fr) _
      rw [e1]
      exact St.keep (Sb := [blk db (.cells #[.map (some mb), wv, .bool false] 57 (0, 0)), mapI kvI mb (mpS (setL (settleK h kp ws k) x.n x.s)), own wv 59 2 n (ws.flatMap Wr.cells)]) hw (by repeat (first | exact Pks.nil _ | exact Pk.here _ | apply Pk.there | apply Pks.cons)) (by repeat (first | exact Tl.here _ | apply Tl.there))
    · skip
      refine sc_region ?_
      refine so_pure (opv_move (by rfl)) (by rfl) rfl ?_
      refine so_pure (opv_func_nnil (by rfl) (by rfl) Try.underlying61) (by rfl) rfl ?_
      refine jo_nil ?_
      refine jk_then ?_
      refine sc_true (by rfl) rfl ?_
      refine sc_region ?_
      refine so_pure (opv_move (by rfl)) (by rfl) rfl ?_
      refine so_pure (opv_move (by rfl)) (by rfl) rfl ?_
      refine so_pure (opv_load_agg (vs := x.cells) (by rfl) ag59 ti59 (rd_pk (by repeat (first | exact Pk.here _ | apply Pk.there))) (by exact ⟨rfl, rfl, trivial⟩) rfl) (by rfl) rfl ?_
      refine so_eff (eff_callF [blk db (.cells #[.map (some mb), wv, .bool false] 57 (0, 0)), mapI kvI mb (mpS (settleK h kp ws k))] (fl := []) (cl := []) (f := 35) (G := fun v Is' => Is' = [blk db (.cells #[.map (some mb), wv, .bool false] 57 (0, 0)), mapI kvI mb (mpS (setL (settleK h kp ws k) x.n (half x.s)))]) (by rfl) (by rfl) tx35 (by repeat (first | exact Pks.nil _ | exact Pk.here _ | apply Pk.there | apply Pks.cons)) (by exact fun w1 hw1 => (torn_spec x (hsz x (List.mem_of_getElem? hx)) hw1).mono (fun _ _ hst => ⟨_, rfl, hst⟩))) (by rfl) rfl ?_
      rintro _ _ ⟨_, rfl, rfl⟩
      refine jo_nil ?_
      refine jk_block ?_
      refine jk_then ?_
      refine sc_region ?_
      refine so_pure (opv_add (by rfl) (by rfl) (wrap64_ok (by omega))) (by rfl) rfl ?_
      refine so_pure (opv_move (by rfl)) (by rfl) rfl ?_
      refine jo_nil ?_
      have e1 : (settleK h kp ws (k + 1)) = setL (settleK h kp ws k) x.n (half x.s) := by rw [settleK_succ hx, hh]; rfl
      refine jk_round (k + 1) ⟨by omega, trivial⟩ (by show n - (k + 1) < n - k; omega) ⟨rfl, rfl, rfl, rfl, rfl, trivial⟩ (fun w hw => ?_)
      show St _ _ (blk db (.cells #[.map (some mb), wv, .bool false] 57 (0, 0)) :: mapI kvI mb (mpS (settleK h kp ws (k + 1))) :: own wv 59 2 n (ws.flatMap Wr.cells) :: Fr) _
      rw [e1]
      exact St.keep (Sb := [blk db (.cells #[.map (some mb), wv, .bool false] 57 (0, 0)), mapI kvI mb (mpS (setL (settleK h kp ws k) x.n (half x.s))), own wv 59 2 n (ws.flatMap Wr.cells)]) hw (by repeat (first | exact Pks.nil _ | exact Pk.here _ | apply Pk.there | apply Pks.cons)) (by repeat (first | exact Tl.here _ | apply Tl.there))
  · first | have p8 := of_decide_eq_true h8 | have p8 := of_decide_eq_false h8 | have p8 := ndT h8 | have p8 := ndF h8 | have p8 := nbT h8 | have p8 := nbF h8 | have p8 := h8
    refine sc_false (by rfl) h8 ?_
    refine jc_exit ?_
    refine jk_then_exit ?_
    refine jk_then_exit ?_
    refine jk_block_exit ?_
    refine jk_then ?_
    refine sc_region ?_
    refine so_pure (opv_move (by rfl)) (by rfl) rfl ?_
    refine so_pure (opv_nilCheck (by rfl)) (by rfl) rfl ?_
    refine so_pure (opv_fieldAddr (by rfl) fld57_1) (by rfl) rfl ?_
    refine so_eff0 (eff_store (vs := [.slice none 0 0]) (by rfl) (by rfl) (by rfl) ti54 (by rfl) (by repeat (first | exact Pk.here _ | apply Pk.there)) (by exact Nat.le_of_ble_eq_true rfl) (by rfl)) (by rfl) ?_
    rintro _ _ ⟨rfl, rfl⟩
    refine jo_nil ?_
    refine jk_fn_end0 rfl rfl (fun w hw => ?_)
    have ek : k = ws.length := by omega
    subst ek
    have hw2 := (St.keep (Sb := [blk db (.cells #[.map (some mb), .slice none 0 0, .bool false] 57 (0, 0)), mapI kvI mb (mpS (settleK h kp ws ws.length))]) hw (by repeat (first | exact Pks.nil _ | exact Pk.here _ | apply Pk.there | apply Pks.cons)) (Tl.here _))
    exact dk_mk (D := ⟨settleK h kp ws ws.length, []⟩) (mb := mb) (wv := .slice none 0 0) (St.keep (Sb := [blk db (.cells #[.map (some mb), .slice none 0 0, .bool false] 57 (0, 0)), mapI kvI mb (mpS (settleK h kp ws ws.length)), own (.slice none 0 0) 59 2 ([] : List Wr).length (([] : List Wr).flatMap Wr.cells)]) (hw2.own_nil 59 2) (by repeat (first | exact Pks.nil _ | exact Pk.here _ | apply Pk.there | apply Pks.cons)) (by repeat (first | exact Tl.here _ | apply Tl.there)))
end Go.Disks
