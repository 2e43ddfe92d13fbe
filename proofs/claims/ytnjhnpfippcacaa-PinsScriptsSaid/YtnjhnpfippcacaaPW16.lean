/- A part of a proof for the laws of the seat Ytnjhnpfippcacaa; it has no conditions of its own. -/
import Derived.Test.YtnjhnpfippcacaaPW15
import Derived.Test.YtnjhnpfippcacaaPPlain
namespace Go.Pins
open Go Go.SL Go.Proofs
set_option maxHeartbeats 4000000 in
theorem refpin_spec {w0 w : World} {M : Nat → Prop} {Fr : List Itm} {bk : Nat} {lv uv : Value} {ps : List (Int × Int)} (id gen : Int) (hst : St w0 M (blk bk (.cells #[lv, uv] 30 (0, 0)) :: own lv 52 2 ps.length (ps.flatMap kc) :: Fr) w) (hn : ps.length ≤ 100000) : Does Try.prog 11 #[.pointer (some ⟨bk, 0, none⟩), .int .i64 id, .int .i64 gen] w (fun v w' => v = .int .i64 0 ∧ ∃ lv', St w0 M (blk bk (.cells #[lv', uv] 30 (0, 0)) :: own lv' 52 2 (ps ++ [(id, gen)]).length ((ps ++ [(id, gen)]).flatMap kc) :: Fr) w') := by
  refine fn_bodyX (fn := Try.f11) Try.func11 rfl [(0, .pointer (some ⟨bk, 0, none⟩)), (1, .int .i64 id), (2, .int .i64 gen)] (by exact ⟨rfl, rfl, rfl, trivial⟩) rfl hst ?_
  refine jc_seq ?_
  refine sc_region ?_
  refine so_pure (opv_assign (by rfl)) (by rfl) rfl ?_
  refine jo_nil ?_
  refine jk_then ?_
  refine jc_seq ?_
  refine sc_region ?_
  refine so_pure (opv_move (by rfl)) (by rfl) rfl ?_
  refine so_pure (opv_move (by rfl)) (by rfl) rfl ?_
  refine so_pure (opv_nilCheck (by rfl)) (by rfl) rfl ?_
  refine so_pure (opv_fieldAddr (by rfl) fld30_0) (by rfl) rfl ?_
  refine so_pure (opv_load (by rfl) na27 (rd_pk (by repeat (first | exact Pk.here _ | apply Pk.there))) (by rfl)) (by rfl) rfl ?_
  refine so_pure (opv_move (by rfl)) (by rfl) rfl ?_
  refine so_pure (opv_move (by rfl)) (by rfl) rfl ?_
  refine so_pure (opv_build (by rfl) (fun w => by exact bld52_0_1 ..)) (by rfl) rfl ?_
  refine so_eff (eff_buildSlice (by rfl) (fun w => by exact bsl27_1_0 ..)) (by rfl) rfl ?_
  rintro _ _ ⟨b15, rfl, rfl⟩
  refine so_eff (eff_append_lit (by rfl) (by rfl) Try.underlying27 ti52 (by rfl) (by omega) (by repeat (first | exact Pk.here _ | apply Pk.there)) (rd_pk (by repeat (first | exact Pk.here _ | apply Pk.there))) (by rfl) (by rfl) (by unfold maxLen; omega) (by omega)) (by rfl) rfl ?_
  rintro wv2 _ ⟨rfl, _⟩
  refine jo_sv (by repeat (first | exact Pk.here _ | apply Pk.there)) (fun hsv2 => ?_)
  obtain ⟨A2, c2, rfl, _⟩ := hsv2
  refine so_pure (opv_nilCheck (by rfl)) (by rfl) rfl ?_
  refine so_pure (opv_fieldAddr (by rfl) fld30_0) (by rfl) rfl ?_
  refine so_eff0 (eff_store (vs := [.slice A2 (ps.length + 1) c2]) (by rfl) (by rfl) (by rfl) ti27 (by rfl) (by repeat (first | exact Pk.here _ | apply Pk.there)) (by exact Nat.le_of_ble_eq_true rfl) (by rfl)) (by rfl) ?_
  rintro _ _ ⟨rfl, rfl⟩
  refine jo_nil ?_
  refine jk_then ?_
  refine jc_seq ?_
  refine sc_region ?_
  refine so_pure (opv_assign (by rfl)) (by rfl) rfl ?_
  refine jo_nil ?_
  refine jk_then ?_
  refine jc_ret ?_
  refine jk_fn_ret rfl rfl (by rfl) (fun w hw => ?_)
  refine ⟨rfl, .slice A2 (ps.length + 1) c2, ?_⟩
  rw [show own (.slice A2 (ps.length + 1) c2) 52 2 (ps ++ [(id, gen)]).length ((ps ++ [(id, gen)]).flatMap kc) = own (.slice A2 (ps.length + 1) c2) 52 2 (ps.length + 1) (ps.flatMap kc ++ kc (id, gen)) by rw [List.length_append, List.flatMap_append]; simp]
  exact St.keep (Sb := [blk bk (.cells #[.slice A2 (ps.length + 1) c2, uv] 30 (0, 0)), own (.slice A2 (ps.length + 1) c2) 52 2 (ps.length + 1) (ps.flatMap kc ++ kc (id, gen))]) hw (by repeat (first | exact Pks.nil _ | exact Pk.here _ | apply Pk.there | apply Pks.cons)) (by repeat (first | exact Tl.here _ | apply Tl.there))
set_option maxHeartbeats 4000000 in
theorem refcount_spec {w0 w : World} {M : Nat → Prop} {Fr : List Itm} {bk : Nat} {lv uv : Value} {ps : List (Int × Int)} (id gen : Int) (hst : St w0 M (blk bk (.cells #[lv, uv] 30 (0, 0)) :: own lv 52 2 ps.length (ps.flatMap kc) :: Fr) w) (hn : ps.length ≤ 100000) : Does Try.prog 21 #[.pointer (some ⟨bk, 0, none⟩), .int .i64 id, .int .i64 gen] w (fun v w' => v = .int .i64 (ps.count (id, gen)) ∧ St w0 M (blk bk (.cells #[lv, uv] 30 (0, 0)) :: own lv 52 2 ps.length (ps.flatMap kc) :: Fr) w') := by
  refine fn_bodyX (fn := Try.f21) Try.func21 rfl [(0, .pointer (some ⟨bk, 0, none⟩)), (1, .int .i64 id), (2, .int .i64 gen)] (by exact ⟨rfl, rfl, rfl, trivial⟩) rfl hst ?_
  refine jc_seq ?_
  refine sc_region ?_
  refine so_pure (opv_assign (by rfl)) (by rfl) rfl ?_
  refine jo_nil ?_
  refine jk_then ?_
  refine jc_seq ?_
  refine sc_region ?_
  refine so_pure (opv_assign (by rfl)) (by rfl) rfl ?_
  refine jo_nil ?_
  refine jk_then ?_
  refine jc_seq ?_
  refine jc_seq ?_
  refine sc_region ?_
  refine so_pure (opv_assign (by rfl)) (by rfl) rfl ?_
  refine jo_nil ?_
  refine jk_then ?_
  refine jc_block ?_
  refine jc_loop (σ := Nat × Nat) (fun (i, c) => [(0, .pointer (some ⟨bk, 0, none⟩)), (1, .int .i64 id), (2, .int .i64 gen), (7, .int .i64 c), (8, .int .i64 i)]) (fun (i, c) => (blk bk (.cells #[lv, uv] 30 (0, 0)) :: own lv 52 2 ps.length (ps.flatMap kc) :: Fr)) (fun (i, c) => (i ≤ ps.length) ∧ (c = (ps.take i).count (id, gen))) (fun (i, c) => ps.length - i) (0, 0) ⟨Nat.zero_le _, rfl⟩ ⟨rfl, rfl, rfl, rfl, rfl, trivial⟩ (fun w hw => hw) ?_
  rintro ⟨i, c⟩ ⟨hi, hc⟩
  show Jc _ _ [(0, .pointer (some ⟨bk, 0, none⟩)), (1, .int .i64 id), (2, .int .i64 gen), (7, .int .i64 c), (8, .int .i64 i)] (blk bk (.cells #[lv, uv] 30 (0, 0)) :: own lv 52 2 ps.length (ps.flatMap kc) :: Fr) _
  refine jc_seq ?_
  refine jc_seq ?_
  refine sc_region ?_
  refine so_pure (opv_move (by rfl)) (by rfl) rfl ?_
  refine so_pure (opv_move (by rfl)) (by rfl) rfl ?_
  refine so_pure (opv_nilCheck (by rfl)) (by rfl) rfl ?_
  refine so_pure (opv_fieldAddr (by rfl) fld30_0) (by rfl) rfl ?_
  refine so_pure (opv_load (by rfl) na27 (rd_pk (by repeat (first | exact Pk.here _ | apply Pk.there))) (by rfl)) (by rfl) rfl ?_
  refine so_pure (opv_len_own (v := lv) (by rfl) Try.underlying27 (by repeat (first | exact Pk.here _ | apply Pk.there))) (by rfl) rfl ?_
  refine so_pure (opv_cmp (by rfl) (by rfl) (by rfl)) (by rfl) rfl ?_
  refine jo_nil ?_
  refine jk_then ?_
  refine sk_split (x := 15) (by rfl) (fun h12 => ?_) (fun h12 => ?_)
  · first | have p12 := of_decide_eq_true h12 | have p12 := of_decide_eq_false h12 | have p12 := ndT h12 | have p12 := ndF h12 | have p12 := nbT h12 | have p12 := nbF h12 | have p12 := h12
    refine sc_true (by rfl) h12 ?_
    refine jc_skip ?_
    refine jk_then ?_
    refine jc_seq ?_
    refine jc_block ?_
    refine jc_seq ?_
    have hlt : i < ps.length := by omega
    obtain ⟨p, hx⟩ : ∃ p, ps[i]? = some p := ⟨ps[i], List.getElem?_eq_getElem hlt⟩
    refine sc_region ?_
    refine so_pure (opv_move (by rfl)) (by rfl) rfl ?_
    refine so_pure (opv_nilCheck (by rfl)) (by rfl) rfl ?_
    refine so_pure (opv_fieldAddr (by rfl) fld30_0) (by rfl) rfl ?_
    refine so_pure (opv_load (by rfl) na27 (rd_pk (by repeat (first | exact Pk.here _ | apply Pk.there))) (by rfl)) (by rfl) rfl ?_
    refine so_pure (opv_move (by rfl)) (by rfl) rfl ?_
    refine so_pure (opv_indexAddr_own (i := i) (v := lv) (by rfl) (by rfl) Try.underlying27 ti52 (by repeat (first | exact Pk.here _ | apply Pk.there)) rfl hlt) (by rfl) rfl ?_
    refine so_pure (opv_fieldAddr (by rfl) fld52_0) (by rfl) rfl ?_
    refine so_pure (opv_load_fld (enc := kc) (u := p) (fo := 0) (w := .int .i64 p.1) kc_len (by rfl) na3 (by repeat (first | exact Pk.here _ | apply Pk.there)) hx rfl) (by rfl) rfl ?_
    refine so_pure (opv_move (by rfl)) (by rfl) rfl ?_
    refine so_pure (opv_cmp (by rfl) (by rfl) (by rfl)) (by rfl) rfl ?_
    refine so_pure (opv_move (by rfl)) (by rfl) rfl ?_
    refine sk_split (x := 28) (by rfl) (fun h20 => ?_) (fun h20 => ?_)
    · first | have p20 := of_decide_eq_true h20 | have p20 := of_decide_eq_false h20 | have p20 := ndT h20 | have p20 := ndF h20 | have p20 := nbT h20 | have p20 := nbF h20 | have p20 := h20
      refine so_pure (opv_move (by rfl)) (wtd_run rfl rfl (by rfl) h20) rfl ?_
      refine so_pure (opv_nilCheck (by rfl)) (wtd_run rfl rfl (by rfl) h20) rfl ?_
      refine so_pure (opv_fieldAddr (by rfl) fld30_0) (wtd_run rfl rfl (by rfl) h20) rfl ?_
      refine so_pure (opv_load (by rfl) na27 (rd_pk (by repeat (first | exact Pk.here _ | apply Pk.there))) (by rfl)) (wtd_run rfl rfl (by rfl) h20) rfl ?_
      refine so_pure (opv_move (by rfl)) (wtd_run rfl rfl (by rfl) h20) rfl ?_
      refine so_pure (opv_indexAddr_own (i := i) (v := lv) (by rfl) (by rfl) Try.underlying27 ti52 (by repeat (first | exact Pk.here _ | apply Pk.there)) rfl hlt) (wtd_run rfl rfl (by rfl) h20) rfl ?_
      refine so_pure (opv_fieldAddr (by rfl) fld52_1) (wtd_run rfl rfl (by rfl) h20) rfl ?_
      refine so_pure (opv_load_fld (enc := kc) (u := p) (fo := 1) (w := .int .i64 p.2) kc_len (by rfl) na3 (by repeat (first | exact Pk.here _ | apply Pk.there)) hx rfl) (wtd_run rfl rfl (by rfl) h20) rfl ?_
      refine so_pure (opv_move (by rfl)) (wtd_run rfl rfl (by rfl) h20) rfl ?_
      refine so_pure (opv_cmp (by rfl) (by rfl) (by rfl)) (wtd_run rfl rfl (by rfl) h20) rfl ?_
      refine so_pure (sv_pick_t (by rfl) h20 (by rfl)) (by rfl) rfl ?_
      refine jo_nil ?_
      refine jk_then ?_
      refine sk_split (x := 39) (by rfl) (fun h28 => ?_) (fun h28 => ?_)
      · first | have p28 := of_decide_eq_true h28 | have p28 := of_decide_eq_false h28 | have p28 := ndT h28 | have p28 := ndF h28 | have p28 := nbT h28 | have p28 := nbF h28 | have p28 := h28
        refine sc_true (by rfl) h28 ?_
        have hcl : c ≤ i := by rw [hc]; exact Nat.le_trans List.count_le_length (List.length_take_le _ _)
        refine sc_region ?_
        refine so_pure (opv_move (by rfl)) (by rfl) rfl ?_
        refine so_pure (opv_add (by rfl) (by rfl) (wrap64_ok (by omega))) (by rfl) rfl ?_
        refine so_pure (opv_assign (by rfl)) (by rfl) rfl ?_
        refine jo_nil ?_
        refine jk_block ?_
        refine jk_then ?_
        refine sc_region ?_
        refine so_pure (opv_move (by rfl)) (by rfl) rfl ?_
        refine so_pure (opv_add (by rfl) (by rfl) (wrap64_ok (by omega))) (by rfl) rfl ?_
        refine so_pure (opv_assign (by rfl)) (by rfl) rfl ?_
        refine jo_nil ?_
        have hp : p = (id, gen) := Prod.ext p20 p28
        refine jk_round (i + 1, c + 1) ⟨by omega, by rw [count_step hx, if_pos hp, ← hc]⟩ (by show ps.length - (i + 1) < ps.length - i; omega) ⟨rfl, rfl, rfl, rfl, rfl, trivial⟩ (fun w hw => ?_)
        show St _ _ (blk bk (.cells #[lv, uv] 30 (0, 0)) :: own lv 52 2 ps.length (ps.flatMap kc) :: Fr) _
        exact St.keep (Sb := [blk bk (.cells #[lv, uv] 30 (0, 0)), own lv 52 2 ps.length (ps.flatMap kc)]) hw (by repeat (first | exact Pks.nil _ | exact Pk.here _ | apply Pk.there | apply Pks.cons)) (by repeat (first | exact Tl.here _ | apply Tl.there))
      · first | have p28 := of_decide_eq_true h28 | have p28 := of_decide_eq_false h28 | have p28 := ndT h28 | have p28 := ndF h28 | have p28 := nbT h28 | have p28 := nbF h28 | have p28 := h28
        refine sc_false (by rfl) h28 ?_
        refine jc_skip ?_
        refine jk_block ?_
        refine jk_then ?_
        refine sc_region ?_
        refine so_pure (opv_move (by rfl)) (by rfl) rfl ?_
        refine so_pure (opv_add (by rfl) (by rfl) (wrap64_ok (by omega))) (by rfl) rfl ?_
        refine so_pure (opv_assign (by rfl)) (by rfl) rfl ?_
        refine jo_nil ?_
        have hp : ¬ p = (id, gen) := fun h => p28 (congrArg Prod.snd h)
        refine jk_round (i + 1, c) ⟨by omega, by rw [count_step hx, if_neg hp, Nat.add_zero]; exact hc⟩ (by show ps.length - (i + 1) < ps.length - i; omega) ⟨rfl, rfl, rfl, rfl, rfl, trivial⟩ (fun w hw => ?_)
        show St _ _ (blk bk (.cells #[lv, uv] 30 (0, 0)) :: own lv 52 2 ps.length (ps.flatMap kc) :: Fr) _
        exact St.keep (Sb := [blk bk (.cells #[lv, uv] 30 (0, 0)), own lv 52 2 ps.length (ps.flatMap kc)]) hw (by repeat (first | exact Pks.nil _ | exact Pk.here _ | apply Pk.there | apply Pks.cons)) (by repeat (first | exact Tl.here _ | apply Tl.there))
    · first | have p20 := of_decide_eq_true h20 | have p20 := of_decide_eq_false h20 | have p20 := ndT h20 | have p20 := ndF h20 | have p20 := nbT h20 | have p20 := nbF h20 | have p20 := h20
      refine so_skip (wtd_not rfl rfl (by rfl) h20) rfl ?_
      refine so_skip (wtd_not rfl rfl (by rfl) h20) rfl ?_
      refine so_skip (wtd_not rfl rfl (by rfl) h20) rfl ?_
      refine so_skip (wtd_not rfl rfl (by rfl) h20) rfl ?_
      refine so_skip (wtd_not rfl rfl (by rfl) h20) rfl ?_
      refine so_skip (wtd_not rfl rfl (by rfl) h20) rfl ?_
      refine so_skip (wtd_not rfl rfl (by rfl) h20) rfl ?_
      refine so_skip (wtd_not rfl rfl (by rfl) h20) rfl ?_
      refine so_skip (wtd_not rfl rfl (by rfl) h20) rfl ?_
      refine so_skip (wtd_not rfl rfl (by rfl) h20) rfl ?_
      refine so_pure (sv_pick_f (by rfl) h20 (by rfl)) (by rfl) rfl ?_
      refine jo_nil ?_
      refine jk_then ?_
      refine sc_false (by rfl) rfl ?_
      refine jc_skip ?_
      refine jk_block ?_
      refine jk_then ?_
      refine sc_region ?_
      refine so_pure (opv_move (by rfl)) (by rfl) rfl ?_
      refine so_pure (opv_add (by rfl) (by rfl) (wrap64_ok (by omega))) (by rfl) rfl ?_
      refine so_pure (opv_assign (by rfl)) (by rfl) rfl ?_
      refine jo_nil ?_
      have hp : ¬ p = (id, gen) := fun h => p20 (congrArg Prod.fst h)
      refine jk_round (i + 1, c) ⟨by omega, by rw [count_step hx, if_neg hp, Nat.add_zero]; exact hc⟩ (by show ps.length - (i + 1) < ps.length - i; omega) ⟨rfl, rfl, rfl, rfl, rfl, trivial⟩ (fun w hw => ?_)
      show St _ _ (blk bk (.cells #[lv, uv] 30 (0, 0)) :: own lv 52 2 ps.length (ps.flatMap kc) :: Fr) _
      exact St.keep (Sb := [blk bk (.cells #[lv, uv] 30 (0, 0)), own lv 52 2 ps.length (ps.flatMap kc)]) hw (by repeat (first | exact Pks.nil _ | exact Pk.here _ | apply Pk.there | apply Pks.cons)) (by repeat (first | exact Tl.here _ | apply Tl.there))
  · first | have p12 := of_decide_eq_true h12 | have p12 := of_decide_eq_false h12 | have p12 := ndT h12 | have p12 := ndF h12 | have p12 := nbT h12 | have p12 := nbF h12 | have p12 := h12
    refine sc_false (by rfl) h12 ?_
    refine jc_exit ?_
    refine jk_then_exit ?_
    refine jk_then_exit ?_
    refine jk_block_exit ?_
    refine jk_then ?_
    refine jc_seq ?_
    refine sc_region ?_
    refine so_pure (opv_move (by rfl)) (by rfl) rfl ?_
    refine so_pure (opv_assign (by rfl)) (by rfl) rfl ?_
    refine jo_nil ?_
    refine jk_then ?_
    refine jc_ret ?_
    refine jk_fn_ret rfl rfl (by rfl) (fun w hw => ?_)
    have ei : i = ps.length := by omega
    rw [ei, List.take_length] at hc
    rw [← hc]
    exact ⟨rfl, hw⟩
set_option maxHeartbeats 4000000 in
theorem refunpin_spec {w0 w : World} {M : Nat → Prop} {Fr : List Itm} {bk : Nat} {lv uv : Value} {ps : List (Int × Int)} (id gen : Int) (hst : St w0 M (blk bk (.cells #[lv, uv] 30 (0, 0)) :: own lv 52 2 ps.length (ps.flatMap kc) :: Fr) w) (hn : ps.length ≤ 100000) : Does Try.prog 13 #[.pointer (some ⟨bk, 0, none⟩), .int .i64 id, .int .i64 gen] w (fun v w' => v = .int .i64 (if ps.count (id, gen) = 0 then 9 else 0) ∧ ∃ lv', St w0 M (blk bk (.cells #[lv', uv] 30 (0, 0)) :: own lv' 52 2 (ps.erase (id, gen)).length ((ps.erase (id, gen)).flatMap kc) :: Fr) w') := by
  refine fn_bodyX (fn := Try.f13) Try.func13 rfl [(0, .pointer (some ⟨bk, 0, none⟩)), (1, .int .i64 id), (2, .int .i64 gen)] (by exact ⟨rfl, rfl, rfl, trivial⟩) rfl hst ?_
  refine jc_seq ?_
  refine sc_region ?_
  refine so_pure (opv_assign (by rfl)) (by rfl) rfl ?_
  refine jo_nil ?_
  refine jk_then ?_
  refine jc_seq ?_
  refine jc_seq ?_
  refine sc_region ?_
  refine so_pure (opv_assign (by rfl)) (by rfl) rfl ?_
  refine jo_nil ?_
  refine jk_then ?_
  refine jc_block ?_
  refine jc_loop (σ := Nat) (fun i => [(0, .pointer (some ⟨bk, 0, none⟩)), (1, .int .i64 id), (2, .int .i64 gen), (7, .int .i64 i)]) (fun i => (blk bk (.cells #[lv, uv] 30 (0, 0)) :: own lv 52 2 ps.length (ps.flatMap kc) :: Fr)) (fun i => (i ≤ ps.length) ∧ ((id, gen) ∉ ps.take i)) (fun i => ps.length - i) 0 ⟨Nat.zero_le _, by simp⟩ ⟨rfl, rfl, rfl, rfl, trivial⟩ (fun w hw => hw) ?_
  rintro i ⟨hi, hno⟩
  show Jc _ _ [(0, .pointer (some ⟨bk, 0, none⟩)), (1, .int .i64 id), (2, .int .i64 gen), (7, .int .i64 i)] (blk bk (.cells #[lv, uv] 30 (0, 0)) :: own lv 52 2 ps.length (ps.flatMap kc) :: Fr) _
  refine jc_seq ?_
  refine jc_seq ?_
  refine sc_region ?_
  refine so_pure (opv_move (by rfl)) (by rfl) rfl ?_
  refine so_pure (opv_move (by rfl)) (by rfl) rfl ?_
  refine so_pure (opv_nilCheck (by rfl)) (by rfl) rfl ?_
  refine so_pure (opv_fieldAddr (by rfl) fld30_0) (by rfl) rfl ?_
  refine so_pure (opv_load (by rfl) na27 (rd_pk (by repeat (first | exact Pk.here _ | apply Pk.there))) (by rfl)) (by rfl) rfl ?_
  refine so_pure (opv_len_own (v := lv) (by rfl) Try.underlying27 (by repeat (first | exact Pk.here _ | apply Pk.there))) (by rfl) rfl ?_
  refine so_pure (opv_cmp (by rfl) (by rfl) (by rfl)) (by rfl) rfl ?_
  refine jo_nil ?_
  refine jk_then ?_
  refine sk_split (x := 14) (by rfl) (fun h11 => ?_) (fun h11 => ?_)
  · first | have p11 := of_decide_eq_true h11 | have p11 := of_decide_eq_false h11 | have p11 := ndT h11 | have p11 := ndF h11 | have p11 := nbT h11 | have p11 := nbF h11 | have p11 := h11
    refine sc_true (by rfl) h11 ?_
    refine jc_skip ?_
    refine jk_then ?_
    refine jc_seq ?_
    refine jc_block ?_
    refine jc_seq ?_
    have hlt : i < ps.length := by omega
    obtain ⟨p, hx⟩ : ∃ p, ps[i]? = some p := ⟨ps[i], List.getElem?_eq_getElem hlt⟩
    refine sc_region ?_
    refine so_pure (opv_move (by rfl)) (by rfl) rfl ?_
    refine so_pure (opv_nilCheck (by rfl)) (by rfl) rfl ?_
    refine so_pure (opv_fieldAddr (by rfl) fld30_0) (by rfl) rfl ?_
    refine so_pure (opv_load (by rfl) na27 (rd_pk (by repeat (first | exact Pk.here _ | apply Pk.there))) (by rfl)) (by rfl) rfl ?_
    refine so_pure (opv_move (by rfl)) (by rfl) rfl ?_
    refine so_pure (opv_indexAddr_own (i := i) (v := lv) (by rfl) (by rfl) Try.underlying27 ti52 (by repeat (first | exact Pk.here _ | apply Pk.there)) rfl hlt) (by rfl) rfl ?_
    refine so_pure (opv_fieldAddr (by rfl) fld52_0) (by rfl) rfl ?_
    refine so_pure (opv_load_fld (enc := kc) (u := p) (fo := 0) (w := .int .i64 p.1) kc_len (by rfl) na3 (by repeat (first | exact Pk.here _ | apply Pk.there)) hx rfl) (by rfl) rfl ?_
    refine so_pure (opv_move (by rfl)) (by rfl) rfl ?_
    refine so_pure (opv_cmp (by rfl) (by rfl) (by rfl)) (by rfl) rfl ?_
    refine so_pure (opv_move (by rfl)) (by rfl) rfl ?_
    refine sk_split (x := 27) (by rfl) (fun h19 => ?_) (fun h19 => ?_)
    · first | have p19 := of_decide_eq_true h19 | have p19 := of_decide_eq_false h19 | have p19 := ndT h19 | have p19 := ndF h19 | have p19 := nbT h19 | have p19 := nbF h19 | have p19 := h19
      refine so_pure (opv_move (by rfl)) (wtd_run rfl rfl (by rfl) h19) rfl ?_
      refine so_pure (opv_nilCheck (by rfl)) (wtd_run rfl rfl (by rfl) h19) rfl ?_
      refine so_pure (opv_fieldAddr (by rfl) fld30_0) (wtd_run rfl rfl (by rfl) h19) rfl ?_
      refine so_pure (opv_load (by rfl) na27 (rd_pk (by repeat (first | exact Pk.here _ | apply Pk.there))) (by rfl)) (wtd_run rfl rfl (by rfl) h19) rfl ?_
      refine so_pure (opv_move (by rfl)) (wtd_run rfl rfl (by rfl) h19) rfl ?_
      refine so_pure (opv_indexAddr_own (i := i) (v := lv) (by rfl) (by rfl) Try.underlying27 ti52 (by repeat (first | exact Pk.here _ | apply Pk.there)) rfl hlt) (wtd_run rfl rfl (by rfl) h19) rfl ?_
      refine so_pure (opv_fieldAddr (by rfl) fld52_1) (wtd_run rfl rfl (by rfl) h19) rfl ?_
      refine so_pure (opv_load_fld (enc := kc) (u := p) (fo := 1) (w := .int .i64 p.2) kc_len (by rfl) na3 (by repeat (first | exact Pk.here _ | apply Pk.there)) hx rfl) (wtd_run rfl rfl (by rfl) h19) rfl ?_
      refine so_pure (opv_move (by rfl)) (wtd_run rfl rfl (by rfl) h19) rfl ?_
      refine so_pure (opv_cmp (by rfl) (by rfl) (by rfl)) (wtd_run rfl rfl (by rfl) h19) rfl ?_
      refine so_pure (sv_pick_t (by rfl) h19 (by rfl)) (by rfl) rfl ?_
      refine jo_nil ?_
      refine jk_then ?_
      refine sk_split (x := 38) (by rfl) (fun h27 => ?_) (fun h27 => ?_)
      · first | have p27 := of_decide_eq_true h27 | have p27 := of_decide_eq_false h27 | have p27 := ndT h27 | have p27 := ndF h27 | have p27 := nbT h27 | have p27 := nbF h27 | have p27 := h27
        refine sc_true (by rfl) h27 ?_
        refine jc_seq ?_
        obtain rfl : p = (id, gen) := Prod.ext p19 p27
        refine jk_svc (v := lv) (by repeat (first | exact Pk.here _ | apply Pk.there)) (fun A c hlv hcap _ => ?_)
        subst hlv
        refine jk_own_nil 52 2 ?_
        refine so_draw [] (by kernel_rfl) (by kernel_rfl) (by kernel_rfl) rfl (by rfl) (fun hap htm => ?_)
        refine da_any hap htm (i := 0) (by rfl) (by kernel_rfl) (by rfl) (listed' := #[true, false, false, false, false, false, false, false, false, false, false, false, false, false, false, false, false, false, false]) (by rfl) (fun _ => (opv_move (by rfl))) (by rfl) rfl ?_
        refine da_any hap htm (i := 1) (by rfl) (by kernel_rfl) (by rfl) (listed' := #[true, true, false, false, false, false, false, false, false, false, false, false, false, false, false, false, false, false, false]) (by rfl) (fun _ => (opv_move (by rfl))) (by rfl) rfl ?_
        refine da_any hap htm (i := 2) (by rfl) (by kernel_rfl) (by rfl) (listed' := #[true, true, true, false, false, false, false, false, false, false, false, false, false, false, false, false, false, false, false]) (by rfl) (fun _ => (opv_nilCheck (by rfl))) (by rfl) rfl ?_
        refine da_any hap htm (i := 3) (by rfl) (by kernel_rfl) (by rfl) (listed' := #[true, true, true, true, false, false, false, false, false, false, false, false, false, false, false, false, false, false, false]) (by rfl) (fun _ => (opv_fieldAddr (by rfl) fld30_0)) (by rfl) rfl ?_
        refine da_now [6, 7, 15, 16, 17, 18] hap htm (i := 4) (by rfl) (by kernel_rfl) (by rfl) (listed' := #[true, true, true, true, true, false, false, false, false, false, false, false, false, false, false, false, false, false, false]) (by rfl) (by kernel_rfl) (by kernel_rfl) (opv_load (by rfl) na27 (rd_pk (by repeat (first | exact Pk.here _ | apply Pk.there))) (by rfl)) (by rfl) rfl ?_
        refine da_any hap htm (i := 5) (by rfl) (by kernel_rfl) (by rfl) (listed' := #[true, true, true, true, true, true, false, false, false, false, false, false, false, false, false, false, false, false, false]) (by rfl) (fun _ => (opv_move (by rfl))) (by rfl) rfl ?_
        refine da_any hap htm (i := 6) (by rfl) (by kernel_rfl) (by rfl) (listed' := #[true, true, true, true, true, true, true, false, false, false, false, false, false, false, false, false, false, false, false]) (by rfl) (fun _ => (opv_slice (l := 0) (h := i) (by rfl) Try.underlying27 ti52 (by rfl) (by rfl) (by rfl) (by rfl) (by omega) (by omega))) (by rfl) rfl ?_
        refine da_any hap htm (i := 8) (by rfl) (by kernel_rfl) (by rfl) (listed' := #[true, true, true, true, true, true, true, false, true, false, false, false, false, false, false, false, false, false, false]) (by rfl) (fun _ => (opv_move (by rfl))) (by rfl) rfl ?_
        refine da_any hap htm (i := 9) (by rfl) (by kernel_rfl) (by rfl) (listed' := #[true, true, true, true, true, true, true, false, true, true, false, false, false, false, false, false, false, false, false]) (by rfl) (fun _ => (opv_nilCheck (by rfl))) (by rfl) rfl ?_
        refine da_any hap htm (i := 10) (by rfl) (by kernel_rfl) (by rfl) (listed' := #[true, true, true, true, true, true, true, false, true, true, true, false, false, false, false, false, false, false, false]) (by rfl) (fun _ => (opv_fieldAddr (by rfl) fld30_0)) (by rfl) rfl ?_
        refine da_any hap htm (i := 12) (by rfl) (by kernel_rfl) (by rfl) (listed' := #[true, true, true, true, true, true, true, false, true, true, true, false, true, false, false, false, false, false, false]) (by rfl) (fun _ => (opv_move (by rfl))) (by rfl) rfl ?_
        refine da_any hap htm (i := 13) (by rfl) (by kernel_rfl) (by rfl) (listed' := #[true, true, true, true, true, true, true, false, true, true, true, false, true, true, false, false, false, false, false]) (by rfl) (fun _ => (opv_add (by rfl) (by rfl) (wrap64_ok (by omega)))) (by rfl) rfl ?_
        refine ja_two (i := 7) (j := 11) (by kernel_rfl) ?_ ?_
        · refine js_eff (i := 7) (by rfl) (by rfl) (listed' := #[true, true, true, true, true, true, true, true, true, true, true, false, true, true, false, false, false, false, false]) (by rfl) (eff_append_rd (ys := ps.take i) (n := 0) (xs := []) (v := .slice none 0 0) (el' := 52) kc_len (by rfl) (by rfl) Try.underlying27 ti52 (by rfl) (by omega) (by repeat (first | exact Pk.here _ | apply Pk.there)) (by exact fun w hw => SlR.take (St.slr kc_len hw (by repeat (first | exact Pk.here _ | apply Pk.there)) rfl) (by omega)) (kcs_one _) (by unfold maxLen; omega) (by omega)) (fun _ _ _ _ hw => cw_nil hw) (by rfl) rfl ?_
          rintro mv _ rfl
          refine da_now [14, 15, 16, 17, 18] hap htm (i := 11) (by rfl) (by kernel_rfl) (by rfl) (listed' := #[true, true, true, true, true, true, true, true, true, true, true, true, true, true, false, false, false, false, false]) (by rfl) (by kernel_rfl) (by kernel_rfl) (opv_load (by rfl) na27 (rd_pk (by repeat (first | exact Pk.here _ | apply Pk.there))) (by rfl)) (by rfl) rfl ?_
          refine da_any hap htm (i := 14) (by rfl) (by kernel_rfl) (by rfl) (listed' := #[true, true, true, true, true, true, true, true, true, true, true, true, true, true, true, false, false, false, false]) (by rfl) (fun _ => (opv_slice (l := i + 1) (h := ps.length) (by rfl) Try.underlying27 ti52 (by rfl) (by rfl) (by rfl) (by rfl) (by omega) (by omega))) (by rfl) rfl ?_
          refine da_eff (i := 15) (by rfl) (by kernel_rfl) (by rfl) (listed' := #[true, true, true, true, true, true, true, true, true, true, true, true, true, true, true, true, false, false, false]) (by rfl) (eff_append_rd (ys := ps.drop (i + 1)) (el' := 52) kc_len (by rfl) (by rfl) Try.underlying27 ti52 (by rfl) (by omega) (by repeat (first | exact Pk.here _ | apply Pk.there)) (by exact fun w hw => SlR.drop (St.slr kc_len hw (by repeat (first | exact Pk.here _ | apply Pk.there)) rfl) hcap) (kcs_one _) (by unfold maxLen; omega) (by omega)) (fun _ _ _ _ hw => cw_nil hw) (by rfl) rfl ?_
          rintro nv _ rfl
          refine ja_sv (v := nv) (by repeat (first | exact Pk.here _ | apply Pk.there)) (fun hsv2 => ?_)
          obtain ⟨A2, c2, rfl, _⟩ := hsv2
          refine da_any hap htm (i := 16) (by rfl) (by kernel_rfl) (by rfl) (listed' := #[true, true, true, true, true, true, true, true, true, true, true, true, true, true, true, true, true, false, false]) (by rfl) (fun _ => (opv_nilCheck (by rfl))) (by rfl) rfl ?_
          refine da_any hap htm (i := 17) (by rfl) (by kernel_rfl) (by rfl) (listed' := #[true, true, true, true, true, true, true, true, true, true, true, true, true, true, true, true, true, true, false]) (by rfl) (fun _ => (opv_fieldAddr (by rfl) fld30_0)) (by rfl) rfl ?_
          refine da_eff0 (i := 18) (by rfl) (by kernel_rfl) (by rfl) (listed' := #[true, true, true, true, true, true, true, true, true, true, true, true, true, true, true, true, true, true, true]) (by rfl) (eff_store (vs := [.slice A2 (0 + (i - 0) + (ps.length - (i + 1))) c2]) (by rfl) (by rfl) (by rfl) ti27 (by rfl) (by repeat (first | exact Pk.here _ | apply Pk.there)) (by exact Nat.le_of_ble_eq_true rfl) (by rfl)) (fun _ _ _ _ hw => cw_nil hw) (by rfl) ?_
          rintro _ _ ⟨rfl, rfl⟩
          refine da_done (by kernel_rfl) ?_
          refine jk_then ?_
          refine jc_seq ?_
          refine sc_region ?_
          refine so_pure (opv_assign (by rfl)) (by rfl) rfl ?_
          refine jo_nil ?_
          refine jk_then ?_
          refine jc_ret ?_
          refine jk_block_ret ?_
          refine jk_then_ret ?_
          refine jk_then_ret ?_
          refine jk_block_ret ?_
          refine jk_then_ret ?_
          refine jk_fn_ret rfl rfl (by rfl) (fun w hw => ?_)
          refine ⟨by rw [if_neg (count_at hx)], .slice A2 (0 + (i - 0) + (ps.length - (i + 1))) c2, ?_⟩
          rw [show own (.slice A2 (0 + (i - 0) + (ps.length - (i + 1))) c2) 52 2 (ps.erase (id, gen)).length ((ps.erase (id, gen)).flatMap kc) = own (.slice A2 (0 + (i - 0) + (ps.length - (i + 1))) c2) 52 2 (0 + (i - 0) + (ps.length - (i + 1))) ([] ++ (ps.take i).flatMap kc ++ (ps.drop (i + 1)).flatMap kc) by
            rw [erase_at hx hno, List.flatMap_append, List.length_append, List.length_take, List.length_drop, List.nil_append]
            congr 1; omega]
          exact St.keep (Sb := [blk bk (.cells #[.slice A2 (0 + (i - 0) + (ps.length - (i + 1))) c2, uv] 30 (0, 0)), own (.slice A2 (0 + (i - 0) + (ps.length - (i + 1))) c2) 52 2 (0 + (i - 0) + (ps.length - (i + 1))) ([] ++ (ps.take i).flatMap kc ++ (ps.drop (i + 1)).flatMap kc)]) hw (by repeat (first | exact Pks.nil _ | exact Pk.here _ | apply Pk.there | apply Pks.cons)) (by repeat (first | exact Tl.here _ | apply Tl.there))
        · refine js_pure htm (i := 11) (by rfl) (by rfl) (listed' := #[true, true, true, true, true, true, true, false, true, true, true, true, true, true, false, false, false, false, false]) (by rfl) (opv_load (by rfl) na27 (rd_pk (by repeat (first | exact Pk.here _ | apply Pk.there))) (by rfl)) (by rfl) rfl ?_
          refine da_any hap htm (i := 14) (by rfl) (by kernel_rfl) (by rfl) (listed' := #[true, true, true, true, true, true, true, false, true, true, true, true, true, true, true, false, false, false, false]) (by rfl) (fun _ => (opv_slice (l := i + 1) (h := ps.length) (by rfl) Try.underlying27 ti52 (by rfl) (by rfl) (by rfl) (by rfl) (by omega) (by omega))) (by rfl) rfl ?_
          refine da_eff (i := 7) (by rfl) (by kernel_rfl) (by rfl) (listed' := #[true, true, true, true, true, true, true, true, true, true, true, true, true, true, true, false, false, false, false]) (by rfl) (eff_append_rd (ys := ps.take i) (n := 0) (xs := []) (v := .slice none 0 0) (el' := 52) kc_len (by rfl) (by rfl) Try.underlying27 ti52 (by rfl) (by omega) (by repeat (first | exact Pk.here _ | apply Pk.there)) (by exact fun w hw => SlR.take (St.slr kc_len hw (by repeat (first | exact Pk.here _ | apply Pk.there)) rfl) (by omega)) (kcs_one _) (by unfold maxLen; omega) (by omega)) (fun _ _ _ _ hw => cw_nil hw) (by rfl) rfl ?_
          rintro mv _ rfl
          refine da_eff (i := 15) (by rfl) (by kernel_rfl) (by rfl) (listed' := #[true, true, true, true, true, true, true, true, true, true, true, true, true, true, true, true, false, false, false]) (by rfl) (eff_append_rd (ys := ps.drop (i + 1)) (el' := 52) kc_len (by rfl) (by rfl) Try.underlying27 ti52 (by rfl) (by omega) (by repeat (first | exact Pk.here _ | apply Pk.there)) (by exact fun w hw => SlR.drop (St.slr kc_len hw (by repeat (first | exact Pk.here _ | apply Pk.there)) rfl) hcap) (kcs_one _) (by unfold maxLen; omega) (by omega)) (fun _ _ _ _ hw => cw_nil hw) (by rfl) rfl ?_
          rintro nv _ rfl
          refine ja_sv (v := nv) (by repeat (first | exact Pk.here _ | apply Pk.there)) (fun hsv2 => ?_)
          obtain ⟨A2, c2, rfl, _⟩ := hsv2
          refine da_any hap htm (i := 16) (by rfl) (by kernel_rfl) (by rfl) (listed' := #[true, true, true, true, true, true, true, true, true, true, true, true, true, true, true, true, true, false, false]) (by rfl) (fun _ => (opv_nilCheck (by rfl))) (by rfl) rfl ?_
          refine da_any hap htm (i := 17) (by rfl) (by kernel_rfl) (by rfl) (listed' := #[true, true, true, true, true, true, true, true, true, true, true, true, true, true, true, true, true, true, false]) (by rfl) (fun _ => (opv_fieldAddr (by rfl) fld30_0)) (by rfl) rfl ?_
          refine da_eff0 (i := 18) (by rfl) (by kernel_rfl) (by rfl) (listed' := #[true, true, true, true, true, true, true, true, true, true, true, true, true, true, true, true, true, true, true]) (by rfl) (eff_store (vs := [.slice A2 (0 + (i - 0) + (ps.length - (i + 1))) c2]) (by rfl) (by rfl) (by rfl) ti27 (by rfl) (by repeat (first | exact Pk.here _ | apply Pk.there)) (by exact Nat.le_of_ble_eq_true rfl) (by rfl)) (fun _ _ _ _ hw => cw_nil hw) (by rfl) ?_
          rintro _ _ ⟨rfl, rfl⟩
          refine da_done (by kernel_rfl) ?_
          refine jk_then ?_
          refine jc_seq ?_
          refine sc_region ?_
          refine so_pure (opv_assign (by rfl)) (by rfl) rfl ?_
          refine jo_nil ?_
          refine jk_then ?_
          refine jc_ret ?_
          refine jk_block_ret ?_
          refine jk_then_ret ?_
          refine jk_then_ret ?_
          refine jk_block_ret ?_
          refine jk_then_ret ?_
          refine jk_fn_ret rfl rfl (by rfl) (fun w hw => ?_)
          refine ⟨by rw [if_neg (count_at hx)], .slice A2 (0 + (i - 0) + (ps.length - (i + 1))) c2, ?_⟩
          rw [show own (.slice A2 (0 + (i - 0) + (ps.length - (i + 1))) c2) 52 2 (ps.erase (id, gen)).length ((ps.erase (id, gen)).flatMap kc) = own (.slice A2 (0 + (i - 0) + (ps.length - (i + 1))) c2) 52 2 (0 + (i - 0) + (ps.length - (i + 1))) ([] ++ (ps.take i).flatMap kc ++ (ps.drop (i + 1)).flatMap kc) by
            rw [erase_at hx hno, List.flatMap_append, List.length_append, List.length_take, List.length_drop, List.nil_append]
            congr 1; omega]
          exact St.keep (Sb := [blk bk (.cells #[.slice A2 (0 + (i - 0) + (ps.length - (i + 1))) c2, uv] 30 (0, 0)), own (.slice A2 (0 + (i - 0) + (ps.length - (i + 1))) c2) 52 2 (0 + (i - 0) + (ps.length - (i + 1))) ([] ++ (ps.take i).flatMap kc ++ (ps.drop (i + 1)).flatMap kc)]) hw (by repeat (first | exact Pks.nil _ | exact Pk.here _ | apply Pk.there | apply Pks.cons)) (by repeat (first | exact Tl.here _ | apply Tl.there))
      · first | have p27 := of_decide_eq_true h27 | have p27 := of_decide_eq_false h27 | have p27 := ndT h27 | have p27 := ndF h27 | have p27 := nbT h27 | have p27 := nbF h27 | have p27 := h27
        refine sc_false (by rfl) h27 ?_
        refine jc_skip ?_
        refine jk_block ?_
        refine jk_then ?_
        refine sc_region ?_
        refine so_pure (opv_move (by rfl)) (by rfl) rfl ?_
        refine so_pure (opv_add (by rfl) (by rfl) (wrap64_ok (by omega))) (by rfl) rfl ?_
        refine so_pure (opv_assign (by rfl)) (by rfl) rfl ?_
        refine jo_nil ?_
        have hp : ¬ p = (id, gen) := fun h => p27 (congrArg Prod.snd h)
        refine jk_round (i + 1) ⟨by omega, notin_step hx hno hp⟩ (by show ps.length - (i + 1) < ps.length - i; omega) ⟨rfl, rfl, rfl, rfl, trivial⟩ (fun w hw => ?_)
        show St _ _ (blk bk (.cells #[lv, uv] 30 (0, 0)) :: own lv 52 2 ps.length (ps.flatMap kc) :: Fr) _
        exact St.keep (Sb := [blk bk (.cells #[lv, uv] 30 (0, 0)), own lv 52 2 ps.length (ps.flatMap kc)]) hw (by repeat (first | exact Pks.nil _ | exact Pk.here _ | apply Pk.there | apply Pks.cons)) (by repeat (first | exact Tl.here _ | apply Tl.there))
    · first | have p19 := of_decide_eq_true h19 | have p19 := of_decide_eq_false h19 | have p19 := ndT h19 | have p19 := ndF h19 | have p19 := nbT h19 | have p19 := nbF h19 | have p19 := h19
      refine so_skip (wtd_not rfl rfl (by rfl) h19) rfl ?_
      refine so_skip (wtd_not rfl rfl (by rfl) h19) rfl ?_
      refine so_skip (wtd_not rfl rfl (by rfl) h19) rfl ?_
      refine so_skip (wtd_not rfl rfl (by rfl) h19) rfl ?_
      refine so_skip (wtd_not rfl rfl (by rfl) h19) rfl ?_
      refine so_skip (wtd_not rfl rfl (by rfl) h19) rfl ?_
      refine so_skip (wtd_not rfl rfl (by rfl) h19) rfl ?_
      refine so_skip (wtd_not rfl rfl (by rfl) h19) rfl ?_
      refine so_skip (wtd_not rfl rfl (by rfl) h19) rfl ?_
      refine so_skip (wtd_not rfl rfl (by rfl) h19) rfl ?_
      refine so_pure (sv_pick_f (by rfl) h19 (by rfl)) (by rfl) rfl ?_
      refine jo_nil ?_
      refine jk_then ?_
      refine sc_false (by rfl) rfl ?_
      refine jc_skip ?_
      refine jk_block ?_
      refine jk_then ?_
      refine sc_region ?_
      refine so_pure (opv_move (by rfl)) (by rfl) rfl ?_
      refine so_pure (opv_add (by rfl) (by rfl) (wrap64_ok (by omega))) (by rfl) rfl ?_
      refine so_pure (opv_assign (by rfl)) (by rfl) rfl ?_
      refine jo_nil ?_
      have hp : ¬ p = (id, gen) := fun h => p19 (congrArg Prod.fst h)
      refine jk_round (i + 1) ⟨by omega, notin_step hx hno hp⟩ (by show ps.length - (i + 1) < ps.length - i; omega) ⟨rfl, rfl, rfl, rfl, trivial⟩ (fun w hw => ?_)
      show St _ _ (blk bk (.cells #[lv, uv] 30 (0, 0)) :: own lv 52 2 ps.length (ps.flatMap kc) :: Fr) _
      exact St.keep (Sb := [blk bk (.cells #[lv, uv] 30 (0, 0)), own lv 52 2 ps.length (ps.flatMap kc)]) hw (by repeat (first | exact Pks.nil _ | exact Pk.here _ | apply Pk.there | apply Pks.cons)) (by repeat (first | exact Tl.here _ | apply Tl.there))
  · first | have p11 := of_decide_eq_true h11 | have p11 := of_decide_eq_false h11 | have p11 := ndT h11 | have p11 := ndF h11 | have p11 := nbT h11 | have p11 := nbF h11 | have p11 := h11
    refine sc_false (by rfl) h11 ?_
    refine jc_exit ?_
    refine jk_then_exit ?_
    refine jk_then_exit ?_
    refine jk_block_exit ?_
    refine jk_then ?_
    refine jc_seq ?_
    refine sc_region ?_
    refine so_pure (opv_assign (by rfl)) (by rfl) rfl ?_
    refine jo_nil ?_
    refine jk_then ?_
    refine jc_ret ?_
    refine jk_fn_ret rfl rfl (by rfl) (fun w hw => ?_)
    have ei : i = ps.length := by omega
    rw [ei, List.take_length] at hno
    have h0 : ps.count (id, gen) = 0 := List.count_eq_zero.2 hno
    refine ⟨by rw [if_pos h0], lv, ?_⟩
    rw [List.erase_of_not_mem hno]
    exact hw
end Go.Pins
