/- A part of a proof for the laws of the seat Ytcjhahjjeicmoaa; it has no conditions of its own. -/
import Derived.Test.YtcjhahjjeicmoaaHW6
namespace Go.Hist
open Go Go.SL Go.Proofs
set_option maxHeartbeats 4000000 in
theorem pred_spec (w : World) (x : Ev) (tb mb : Nat) (fz : Nat × Nat) (es : Array MapEntry) (clock : Nat) (l : List (Int × Nat)) (htb : w.heap[tb]? = some (.cells #[.map (some mb)] 43 fz)) (hmb : w.heap[mb]? = some (.map es clock)) (hm : MapR kvI (l.map fun p => (p.1, kvN p.2)) es clock) :
    Does Try.prog 18 #[.agg #[.int .i64 x.task, .bool x.call, .int .i64 x.kind, .string x.key, .string x.value, .int .i64 x.code, .string x.rval, .slice x.kA x.kn x.kc], .pointer (some ⟨tb, 0, none⟩)] w (fun v w' => v = .bool (!x.call && decide (0 < (SL.getL l x.task).getD 0)) ∧ St w Emp [] w') := by
  refine fn_body (fn := Try.f18) Try.func18 rfl [(0, .agg #[.int .i64 x.task, .bool x.call, .int .i64 x.kind, .string x.key, .string x.value, .int .i64 x.code, .string x.rval, .slice x.kA x.kn x.kc]), (1, .pointer (some ⟨tb, 0, none⟩))] (by exact ⟨rfl, rfl, trivial⟩) rfl (St.start w) ?_
  refine jc_seq ?_
  refine sc_region ?_
  refine so_eff (eff_box (by rfl) rfl) (by rfl) rfl ?_
  rintro _ _ ⟨b2, rfl, rfl⟩
  refine so_pure (opv_assign (by rfl)) (by rfl) rfl ?_
  refine jo_nil ?_
  refine jk_then ?_
  refine jc_seq ?_
  refine sc_region ?_
  refine so_pure (opv_fieldAddr (by rfl) fld39_1) (by rfl) rfl ?_
  refine so_pure (opv_load (by rfl) na4 (rd_pk (by repeat (first | exact Pk.here _ | apply Pk.there))) (by rfl)) (by rfl) rfl ?_
  refine so_pure (opv_not (by rfl)) (by rfl) rfl ?_
  refine so_pure (opv_move (by rfl)) (by rfl) rfl ?_
  refine sk_split (x := 7) (by rfl) (fun h5 => ?_) (fun h5 => ?_)
  · first | have p5 := of_decide_eq_true h5 | have p5 := of_decide_eq_false h5 | have p5 := ndT h5 | have p5 := ndF h5 | have p5 := nbT h5 | have p5 := nbF h5 | have p5 := h5
    refine so_pure (opv_load (by rfl) na43 (rd_old htb (fun h => h)) (by rfl)) (wtd_run rfl rfl (by rfl) (not_t (by simpa using h5))) rfl ?_
    refine so_pure (opv_fieldAddr (by rfl) fld39_0) (wtd_run rfl rfl (by rfl) (not_t (by simpa using h5))) rfl ?_
    refine so_pure (opv_load (by rfl) na3 (rd_pk (by repeat (first | exact Pk.here _ | apply Pk.there))) (by rfl)) (wtd_run rfl rfl (by rfl) (not_t (by simpa using h5))) rfl ?_
    refine so_pure (opv_lookup_rd (kv := kvI) (k := x.task) (v := .int .i64 (((SL.getL l x.task).getD 0 : Nat) : Int)) (by rfl) (by rfl) (KL.int Try.underlying3) Try.underlying43 ti3 (rd_old hmb (fun h => h)) hm (by rw [getL_map]; cases getL l x.task <;> rfl)) (wtd_run rfl rfl (by rfl) (not_t (by simpa using h5))) rfl ?_
    refine so_pure (opv_cmp (by rfl) (by rfl) (by rfl)) (wtd_run rfl rfl (by rfl) (not_t (by simpa using h5))) rfl ?_
    refine so_pure (sv_pick_t (by rfl) (not_t (by simpa using h5)) (by rfl)) (by rfl) rfl ?_
    refine so_pure (opv_assign (by rfl)) (by rfl) rfl ?_
    refine jo_nil ?_
    refine jk_then ?_
    refine jc_ret ?_
    refine jk_fn_ret rfl rfl (by rfl) (fun w hw => ?_)
    refine ⟨?_, hw.forget⟩
    first | (simp_all; done) | (simp_all; omega)
  · first | have p5 := of_decide_eq_true h5 | have p5 := of_decide_eq_false h5 | have p5 := ndT h5 | have p5 := ndF h5 | have p5 := nbT h5 | have p5 := nbF h5 | have p5 := h5
    refine so_skip (wtd_not rfl rfl (by rfl) (not_f (by simpa using h5))) rfl ?_
    refine so_skip (wtd_not rfl rfl (by rfl) (not_f (by simpa using h5))) rfl ?_
    refine so_skip (wtd_not rfl rfl (by rfl) (not_f (by simpa using h5))) rfl ?_
    refine so_skip (wtd_not rfl rfl (by rfl) (not_f (by simpa using h5))) rfl ?_
    refine so_skip (wtd_not rfl rfl (by rfl) (not_f (by simpa using h5))) rfl ?_
    refine so_pure (sv_pick_f (by rfl) (not_f (by simpa using h5)) (by rfl)) (by rfl) rfl ?_
    refine so_pure (opv_assign (by rfl)) (by rfl) rfl ?_
    refine jo_nil ?_
    refine jk_then ?_
    refine jc_ret ?_
    refine jk_fn_ret rfl rfl (by rfl) (fun w hw => ?_)
    refine ⟨?_, hw.forget⟩
    first | (simp_all; done) | (simp_all; omega)
theorem pred_fr {w0 w : World} {Is2 : List Itm} {tb mb : Nat} {ys : List Ev} {x : Ev} {I1 I2 : Itm} (hw : St w0 Emp (Is2 ++ [I1, I2, blk tb (.cells #[.map (some mb)] 43 (0, 0)), mapI kvI mb ((cnt ys).map fun p => (p.1, kvN p.2))]) w) :
    Does Try.prog 18 #[.agg x.cells.toArray, .pointer (some ⟨tb, 0, none⟩)] w (fun v w' => v = .bool (gone ys x) ∧ St w Emp [] w') := by
  have htb := hw.get (Pk.app Is2 (.there (.there (.here _))))
  obtain ⟨es, clock, hm, hst⟩ := (hw.pk (Pk.app Is2 (.there (.there (.there (.here _)))))).mapI_open
  have hmb := hst.get (.here _)
  refine (pred_spec w x tb mb _ es clock (cnt ys) htb hmb hm).mono ?_
  rintro v w' ⟨rfl, h⟩
  refine ⟨?_, h⟩
  unfold gone
  rw [cnt_later]

set_option maxHeartbeats 4000000 in
theorem crash_spec (w : World) (A : Option Addr) (n cap : Nat) (xs : List Ev) (hs : SlR w 39 8 Ev.cells A n xs) (hn : n ≤ 1000000) (hcap : n ≤ cap) (m : Nat) (hm : m ≤ n) : Does Try.prog 12 #[.slice A n cap, .int .i64 m] w (fun v w' => St w Emp [own v 39 8 (crash xs m).length ((crash xs m).flatMap Ev.cells)] w') := by
  refine fn_bodyM (fn := Try.f12) Try.func12 rfl [(0, .slice A n cap), (1, .int .i64 m)] (by exact ⟨rfl, rfl, trivial⟩) rfl (St.start w) ?_
  refine jc_seq ?_
  refine sc_region ?_
  refine so_pure (opv_assign (by rfl)) (by rfl) rfl ?_
  refine jo_nil ?_
  refine jk_then ?_
  refine jc_seq ?_
  refine sc_region ?_
  refine so_pure (opv_move (by rfl)) (by rfl) rfl ?_
  refine so_pure (opv_max (by rfl) (by rfl)) (by rfl) rfl ?_
  refine so_pure (opv_move (by rfl)) (by rfl) rfl ?_
  refine so_pure (opv_len_slice (by rfl) Try.underlying22) (by rfl) rfl ?_
  refine so_pure (opv_min (by rfl) (by rfl)) (by rfl) rfl ?_
  refine so_pure (opv_assign (by rfl)) (by rfl) rfl ?_
  refine jo_nil ?_
  refine jk_then ?_
  refine jc_seq ?_
  rw [show min (max (m : Int) 0) (n : Int) = (m : Int) by omega]
  have hsT := hs.take (cap := cap) hm
  have hsD := hs.drop (m := m) (cap := cap) hcap
  have hlT : (xs.take m).length = m := by rw [List.length_take]; have := hs.1; omega
  refine sc_region ?_
  refine so_eff (eff_makeMapI kvI) (by rfl) rfl ?_
  rintro _ _ ⟨b13, rfl, rfl⟩
  refine so_eff (eff_alloc ti43 rfl) (by rfl) rfl ?_
  rintro _ _ ⟨b5, rfl, rfl⟩
  refine so_eff0 (eff_store_all (vs := [.map (some b13)]) (by rfl) (by rfl) (by rfl) ti43 (by rfl) (by repeat (first | exact Pk.here _ | apply Pk.there)) (by rfl) (by rfl)) (by rfl) ?_
  rintro _ _ ⟨rfl, rfl⟩
  refine jo_nil ?_
  refine jk_then ?_
  refine jc_seq ?_
  refine jc_seq ?_
  refine sc_region ?_
  refine so_pure (opv_move (by rfl)) (by rfl) rfl ?_
  refine so_pure (opv_move (by rfl)) (by rfl) rfl ?_
  refine so_pure (opv_slice (l := 0) (h := m) (by rfl) Try.underlying22 ti39 (by rfl) (by rfl) (by rfl) (by rfl) (by omega) (by omega)) (by rfl) rfl ?_
  refine so_eff (eff_call0 (G := fun v New => ∃ b1, v = .func (.func 19) #[] #[.pointer (some ⟨b1, 0, none⟩)] ∧ New = [blk b1 (.cells #[.slice (if cap = 0 then A else A.map fun a => a.add (0 * 8)) (m - 0) (cap - 0)] 22 (0, 0))]) (by rfl) (by rfl) tx15 (by exact fun w1 hw1 => (backward_spec w1 _ _ _).mono (fun _ _ ⟨b1, hv, hst⟩ => ⟨_, ⟨b1, hv, rfl⟩, hst⟩))) (by rfl) rfl ?_
  rintro _ _ ⟨_, ⟨b1, rfl, rfl⟩, rfl⟩
  refine jo_nil ?_
  refine jk_then ?_
  refine jc_block ?_
  refine jc_rangeFunc (gf := 19) (cl := [.pointer (some ⟨b1, 0, none⟩)]) rfl (by rfl) tx19 (by rfl) (fun D pe Is' => pe = none ∧ Is' = [blk D (.deferred (some [])), blk b5 (.cells #[.map (some b13)] 43 (0, 0)), mapI kvI b13 ((cnt (xs.take m)).map fun p => (p.1, kvN p.2))]) (fun D l fn tm hround w1 hw1 => ?_) (fun D pe Is' hG => ?_)
  · refine (backward1_spec w l b1 _ _ _ (xs.take m) hsT (by omega) (fun k => [blk l (.loop (Rec fn tm _ _ _ D .ready none)), blk D (.deferred (some [])), blk b5 (.cells #[.map (some b13)] 43 (0, 0)), mapI kvI b13 ((cnt ((xs.take m).drop k)).map fun p => (p.1, kvN p.2))]) (fun k x hx w2 hw2 => ?_) w1 (by simp only [show (xs.take m).drop (m - 0) = [] from List.drop_eq_nil_of_le (by omega)]; exact St.sel hw1 (by repeat (first | exact Pks.nil _ | exact Pk.here _ | apply Pk.there | apply Pks.cons)))).mono (fun _ w3 hst3 => ⟨.ready, none, _, by simp, ⟨rfl, rfl⟩, St.sel hst3 (by repeat (first | exact Pks.nil _ | exact Pk.here _ | apply Pk.there | apply Pks.cons))⟩)
    refine hround [.int .i64 k, .agg x.cells.toArray] [blk b1 (.cells #[.slice (if cap = 0 then A else A.map fun a => a.add (0 * 8)) (m - 0) (cap - 0)] 22 (0, 0)), blk D (.deferred (some [])), blk b5 (.cells #[.map (some b13)] 43 (0, 0)), mapI kvI b13 ((cnt ((xs.take m).drop (k + 1))).map fun p => (p.1, kvN p.2))] _ rfl ?_ w2 (St.sel hw2 (by repeat (first | exact Pks.nil _ | exact Pk.here _ | apply Pk.there | apply Pks.cons)))
    show Jc _ _ ((19, .agg x.cells.toArray) :: (18, .int .i64 k) :: _) _ _
    refine sc_region ?_
    refine so_eff (eff_alloc ti39 rfl) (by rfl) rfl ?_
    rintro _ _ ⟨b7, rfl, rfl⟩
    refine so_eff0 (eff_store_all (vs := x.cells) (by rfl) (by rfl) (by rfl) ti39 (by rfl) (by repeat (first | exact Pk.here _ | apply Pk.there)) (by rfl) (by rfl)) (by rfl) ?_
    rintro _ _ ⟨rfl, rfl⟩
    refine jo_nil ?_
    refine jk_begin rfl (by repeat (first | exact Pk.here _ | apply Pk.there)) ?_
    refine jc_block ?_
    refine jc_seq ?_
    refine sc_region ?_
    refine so_pure (opv_fieldAddr (by rfl) fld39_1) (by rfl) rfl ?_
    refine so_pure (opv_load (by rfl) na4 (rd_pk (by repeat (first | exact Pk.here _ | apply Pk.there))) (by rfl)) (by rfl) rfl ?_
    refine jo_nil ?_
    refine jk_then ?_
    refine sk_split (x := 21) (by rfl) (fun h13 => ?_) (fun h13 => ?_)
    · first | have p13 := of_decide_eq_true h13 | have p13 := of_decide_eq_false h13 | have p13 := ndT h13 | have p13 := ndF h13 | have p13 := nbT h13 | have p13 := nbF h13 | have p13 := h13
      refine sc_true (by rfl) h13 ?_
      refine sc_region ?_
      refine so_pure (opv_load (by rfl) na43 (rd_pk (by repeat (first | exact Pk.here _ | apply Pk.there))) (by rfl)) (by rfl) rfl ?_
      refine so_pure (opv_fieldAddr (by rfl) fld39_0) (by rfl) rfl ?_
      refine so_pure (opv_load (by rfl) na3 (rd_pk (by repeat (first | exact Pk.here _ | apply Pk.there))) (by rfl)) (by rfl) rfl ?_
      have hcs := cnt_small (ys := xs.take m) (k := k + 1) (t := x.task)
      rw [hlT] at hcs
      refine so_pure (opv_lookup1 (kv := kvI) (k := x.task) (v := .int .i64 (((SL.getL (cnt ((xs.take m).drop (k + 1))) x.task).getD 0 : Nat) : Int)) (by rfl) (by rfl) (KL.int Try.underlying3) Try.underlying43 ti3 (by repeat (first | exact Pk.here _ | apply Pk.there)) (by rw [getL_map]; cases getL (cnt ((xs.take m).drop (k + 1))) x.task <;> rfl)) (by rfl) rfl ?_
      refine so_pure (opv_add (by rfl) (by rfl) (wrap64_ok (by omega))) (by rfl) rfl ?_
      refine so_eff0 (eff_mapUpdate (kv := kvI) (k := x.task) (by rfl) (by rfl) (by rfl) (KL.int Try.underlying3) Try.underlying43 (by repeat (first | exact Pk.here _ | apply Pk.there))) (by rfl) ?_
      rintro _ _ ⟨rfl, rfl⟩
      refine jo_nil ?_
      refine jk_block ?_
      refine jk_round_next (by repeat (first | exact Pk.here _ | apply Pk.there)) (fun w hw => ?_)
      refine ⟨rfl, ?_⟩
      have e1 := cnt_step hx
      rw [p13] at e1
      simp only [if_true] at e1
      rw [e1, ← setL_map kvN]
      exact St.sel hw (by repeat (first | exact Pks.nil _ | exact Pk.here _ | apply Pk.there | apply Pks.cons))
    · first | have p13 := of_decide_eq_true h13 | have p13 := of_decide_eq_false h13 | have p13 := ndT h13 | have p13 := ndF h13 | have p13 := nbT h13 | have p13 := nbF h13 | have p13 := h13
      refine sc_false (by rfl) h13 ?_
      refine jc_skip ?_
      refine jk_block ?_
      refine jk_round_next (by repeat (first | exact Pk.here _ | apply Pk.there)) (fun w hw => ?_)
      refine ⟨rfl, ?_⟩
      have e1 := cnt_step hx
      rw [p13] at e1
      simp only [Bool.false_eq_true, if_false] at e1
      rw [e1]
      exact St.sel hw (by repeat (first | exact Pks.nil _ | exact Pk.here _ | apply Pk.there | apply Pks.cons))
  · obtain ⟨rfl, rfl⟩ := hG
    show Jk _ _ _ _
    refine jk_block ?_
    refine jk_then ?_
    refine jc_seq ?_
    have hc1 : ∀ (w1 : World) (Is1 : List Itm), St w Emp Is1 w1 → Does Try.prog 16 #[.slice (if cap = 0 then A else A.map fun a => a.add (0 * 8)) (m - 0) (cap - 0)] w1 (fun v w' => ∃ New, New = [own v 39 8 (m - 0) ((xs.take m).flatMap Ev.cells)] ∧ St w1 Emp New w') := fun w1 _ hw1 => (clone_spec w1 _ _ _ _ (hsT.keepSt hw1) (by omega)).mono (fun v _ hst => ⟨_, rfl, hst⟩)
    have hc2 : ∀ (w1 : World) (Is1 : List Itm), St w Emp Is1 w1 → Does Try.prog 16 #[.slice (if cap = m then A else A.map fun a => a.add (m * 8)) (n - m) (cap - m)] w1 (fun v w' => ∃ New, New = [own v 39 8 (n - m) ((xs.drop m).flatMap Ev.cells)] ∧ St w1 Emp New w') := fun w1 _ hw1 => (clone_spec w1 _ _ _ _ (hsD.keepSt hw1) (by omega)).mono (fun v _ hst => ⟨_, rfl, hst⟩)
    refine so_draw [] (by kernel_rfl) (by kernel_rfl) (by kernel_rfl) rfl (by rfl) (fun hap htm => ?_)
    refine da_any hap htm (i := 0) (by rfl) (by kernel_rfl) (by rfl) (listed' := #[true, false, false, false, false, false, false, false, false, false, false, false]) (by rfl) (fun _ => (opv_move (by rfl))) (by rfl) rfl ?_
    refine da_any hap htm (i := 1) (by rfl) (by kernel_rfl) (by rfl) (listed' := #[true, true, false, false, false, false, false, false, false, false, false, false]) (by rfl) (fun _ => (opv_move (by rfl))) (by rfl) rfl ?_
    refine da_any hap htm (i := 2) (by rfl) (by kernel_rfl) (by rfl) (listed' := #[true, true, true, false, false, false, false, false, false, false, false, false]) (by rfl) (fun _ => (opv_slice (l := 0) (h := m) (by rfl) Try.underlying22 ti39 (by rfl) (by rfl) (by rfl) (by rfl) (by omega) (by omega))) (by rfl) rfl ?_
    refine da_any hap htm (i := 4) (by rfl) (by kernel_rfl) (by rfl) (listed' := #[true, true, true, false, true, false, false, false, false, false, false, false]) (by rfl) (fun _ => (opv_move (by rfl))) (by rfl) rfl ?_
    refine da_any hap htm (i := 5) (by rfl) (by kernel_rfl) (by rfl) (listed' := #[true, true, true, false, true, true, false, false, false, false, false, false]) (by rfl) (fun _ => (opv_move (by rfl))) (by rfl) rfl ?_
    refine da_any hap htm (i := 6) (by rfl) (by kernel_rfl) (by rfl) (listed' := #[true, true, true, false, true, true, true, false, false, false, false, false]) (by rfl) (fun _ => (opv_slice (l := m) (h := n) (by rfl) Try.underlying22 ti39 (by rfl) (by rfl) (by rfl) (by rfl) (by omega) (by omega))) (by rfl) rfl ?_
    refine da_any hap htm (i := 8) (by rfl) (by kernel_rfl) (by rfl) (listed' := #[true, true, true, false, true, true, true, false, true, false, false, false]) (by rfl) (fun _ => (opv_makeFunc (by rfl) (by rfl))) (by rfl) rfl ?_
    refine da_eff (i := 3) (by rfl) (by kernel_rfl) (by rfl) (listed' := #[true, true, true, true, true, true, true, false, true, false, false, false]) (by rfl) (eff_call0 (G := fun v New => New = [own v 39 8 (m - 0) ((xs.take m).flatMap Ev.cells)]) (by rfl) (by rfl) tx16 (by exact fun w1 hw1 => hc1 w1 _ hw1)) (fun _ _ _ _ hw => cw_nil hw) (by rfl) rfl ?_
    rintro v30 _ ⟨_, rfl, rfl⟩
    refine da_eff (i := 7) (by rfl) (by kernel_rfl) (by rfl) (listed' := #[true, true, true, true, true, true, true, true, true, false, false, false]) (by rfl) (eff_call0 (G := fun v New => New = [own v 39 8 (n - m) ((xs.drop m).flatMap Ev.cells)]) (by rfl) (by rfl) tx16 (by exact fun w1 hw1 => hc2 w1 _ hw1)) (fun _ _ _ _ hw => cw_nil hw) (by rfl) rfl ?_
    rintro v34 _ ⟨_, rfl, rfl⟩
    refine da_eff (i := 9) (by rfl) (by kernel_rfl) (by rfl) (listed' := #[true, true, true, true, true, true, true, true, true, true, false, false]) (by rfl) (eff_call (G := fun v Is' => Is' = own v 39 8 ((xs.drop m).filter (fun x => !gone (xs.take m) x)).length (((xs.drop m).filter (fun x => !gone (xs.take m) x)).flatMap Ev.cells) :: [own v30 39 8 (m - 0) ((xs.take m).flatMap Ev.cells), blk D (.deferred (some [])), blk b5 (.cells #[.map (some b13)] 43 (0, 0)), mapI kvI b13 ((cnt (xs.take m)).map fun p => (p.1, kvN p.2))]) (by rfl) (by rfl) tx17 (by exact fun w1 hw1 => (delete_spec (p := gone (xs.take m)) (St.sel hw1 (by repeat (first | exact Pks.nil _ | exact Pk.here _ | apply Pk.there | apply Pks.cons))) (by rw [List.length_drop, ← hs.1]) (by omega) (fun x Is2 w2 hw2 => (pred_fr hw2).mono fun _ _ h => h)).mono (fun _ _ hst => ⟨_, rfl, hst⟩))) (fun _ _ _ _ hw => cw_nil hw) (by rfl) rfl ?_
    rintro v36 _ rfl
    have hfl : ((xs.drop m).filter (fun x => !gone (xs.take m) x)).length ≤ n := Nat.le_trans (List.length_filter_le _ _) (by rw [List.length_drop, ← hs.1]; omega)
    refine da_eff (i := 10) (by rfl) (by kernel_rfl) (by rfl) (listed' := #[true, true, true, true, true, true, true, true, true, true, true, false]) (by rfl) (eff_append_own (by rfl) (by rfl) Try.underlying22 ti39 (by rfl) (by omega) (by repeat (first | exact Pk.here _ | apply Pk.there)) (by repeat (first | exact Pk.here _ | apply Pk.there)) (evs_one _) (by unfold maxLen; omega) (by omega)) (fun _ _ _ _ hw => cw_nil hw) (by rfl) rfl ?_
    rintro v37 _ rfl
    refine da_any hap htm (i := 11) (by rfl) (by kernel_rfl) (by rfl) (listed' := #[true, true, true, true, true, true, true, true, true, true, true, true]) (by rfl) (fun _ => (opv_assign (by rfl))) (by rfl) rfl ?_
    refine da_done (by kernel_rfl) ?_
    refine jk_then ?_
    refine jc_ret ?_
    refine jk_fnM1 (D := D) rfl (res1 rfl (by rfl)) (by repeat (first | exact Pk.here _ | apply Pk.there)) (fun w hw => ?_)
    have e1 : (crash xs m).length = (m - 0) + ((xs.drop m).filter (fun x => !gone (xs.take m) x)).length := by unfold crash; rw [List.length_append, hlT]; rfl
    have e2 : (crash xs m).flatMap Ev.cells = (xs.take m).flatMap Ev.cells ++ ((xs.drop m).filter (fun x => !gone (xs.take m) x)).flatMap Ev.cells := by unfold crash; rw [List.flatMap_append]
    rw [e1, e2]
    exact St.sel hw (by repeat (first | exact Pks.nil _ | exact Pk.here _ | apply Pk.there | apply Pks.cons))
end Go.Hist
