/- A part of a proof for the laws of the seat Ytcjhahjjeicmoaa; it has no conditions of its own. -/
import Derived.Test.YtcjhahjjeicmoaaHFacts
namespace Go.Hist
open Go Go.SL Go.Proofs
set_option maxHeartbeats 4000000 in
theorem ahead_spec (a b : Hop) (w : World) : Does Try.prog 10 #[.agg #[.int .i64 a.task, .int .i64 a.kind, .string a.key, .string a.value, .int .i64 a.code, .string a.rval, .slice a.kA a.kn a.kc, .int .i64 a.start, .int .i64 a.fin], .agg #[.int .i64 b.task, .int .i64 b.kind, .string b.key, .string b.value, .int .i64 b.code, .string b.rval, .slice b.kA b.kn b.kc, .int .i64 b.start, .int .i64 b.fin]] w fun v w' => v = .bool (ahead a b) ∧ St w Emp [] w' := by
  refine fn_body (fn := Try.f10) Try.func10 rfl [(0, .agg #[.int .i64 a.task, .int .i64 a.kind, .string a.key, .string a.value, .int .i64 a.code, .string a.rval, .slice a.kA a.kn a.kc, .int .i64 a.start, .int .i64 a.fin]), (1, .agg #[.int .i64 b.task, .int .i64 b.kind, .string b.key, .string b.value, .int .i64 b.code, .string b.rval, .slice b.kA b.kn b.kc, .int .i64 b.start, .int .i64 b.fin])] (by exact ⟨rfl, rfl, trivial⟩) rfl (St.start w) ?_
  refine jc_seq ?_
  refine sc_region ?_
  refine so_eff (eff_box (by rfl) rfl) (by rfl) rfl ?_
  rintro _ _ ⟨b2, rfl, rfl⟩
  refine so_eff (eff_box (by rfl) rfl) (by rfl) rfl ?_
  rintro _ _ ⟨b3, rfl, rfl⟩
  refine so_pure (opv_assign (by rfl)) (by rfl) rfl ?_
  refine jo_nil ?_
  refine jk_then ?_
  refine jc_seq ?_
  refine sc_region ?_
  refine so_pure (opv_fieldAddr (by rfl) fld35_4) (by rfl) rfl ?_
  refine so_pure (opv_load (by rfl) na3 (rd_pk (by repeat (first | exact Pk.here _ | apply Pk.there))) (by rfl)) (by rfl) rfl ?_
  refine so_pure (opv_cmp (by rfl) (by rfl) (by rfl)) (by rfl) rfl ?_
  refine so_pure (opv_move (by rfl)) (by rfl) rfl ?_
  refine sk_split (x := 8) (by rfl) (fun h7 => ?_) (fun h7 => ?_)
  · first | have p7 := of_decide_eq_true h7 | have p7 := of_decide_eq_false h7 | have p7 := ndT h7 | have p7 := ndF h7 | have p7 := nbT h7 | have p7 := nbF h7 | have p7 := h7
    refine so_pure (opv_fieldAddr (by rfl) fld35_4) (wtd_run rfl rfl (by rfl) h7) rfl ?_
    refine so_pure (opv_load (by rfl) na3 (rd_pk (by repeat (first | exact Pk.here _ | apply Pk.there))) (by rfl)) (wtd_run rfl rfl (by rfl) h7) rfl ?_
    refine so_pure (opv_fieldAddr (by rfl) fld35_3) (wtd_run rfl rfl (by rfl) h7) rfl ?_
    refine so_pure (opv_load (by rfl) na3 (rd_pk (by repeat (first | exact Pk.here _ | apply Pk.there))) (by rfl)) (wtd_run rfl rfl (by rfl) h7) rfl ?_
    refine so_pure (opv_cmp (by rfl) (by rfl) (by rfl)) (wtd_run rfl rfl (by rfl) h7) rfl ?_
    refine so_pure (sv_pick_t (by rfl) h7 (by rfl)) (by rfl) rfl ?_
    refine so_pure (opv_assign (by rfl)) (by rfl) rfl ?_
    refine jo_nil ?_
    refine jk_then ?_
    refine jc_ret ?_
    refine jk_fn_ret rfl rfl (by rfl) (fun w hw => ?_)
    exact ⟨by simp [ahead, *], hw.forget⟩
  · first | have p7 := of_decide_eq_true h7 | have p7 := of_decide_eq_false h7 | have p7 := ndT h7 | have p7 := ndF h7 | have p7 := nbT h7 | have p7 := nbF h7 | have p7 := h7
    refine so_skip (wtd_not rfl rfl (by rfl) h7) rfl ?_
    refine so_skip (wtd_not rfl rfl (by rfl) h7) rfl ?_
    refine so_skip (wtd_not rfl rfl (by rfl) h7) rfl ?_
    refine so_skip (wtd_not rfl rfl (by rfl) h7) rfl ?_
    refine so_skip (wtd_not rfl rfl (by rfl) h7) rfl ?_
    refine so_pure (sv_pick_f (by rfl) h7 (by rfl)) (by rfl) rfl ?_
    refine so_pure (opv_assign (by rfl)) (by rfl) rfl ?_
    refine jo_nil ?_
    refine jk_then ?_
    refine jc_ret ?_
    refine jk_fn_ret rfl rfl (by rfl) (fun w hw => ?_)
    exact ⟨by simp [ahead, *], hw.forget⟩
set_option maxHeartbeats 4000000 in
theorem gather_spec (w : World) (A : Option Addr) (n cap : Nat) (xs : List Ev) (hs : SlR w 39 8 Ev.cells A n xs) (hn : n ≤ 1000000) : Does Try.prog 14 #[.slice A n cap] w (Gath xs w) := by
  refine fn_body (fn := Try.f14) Try.func14 rfl [(0, .slice A n cap)] (by exact ⟨rfl, trivial⟩) rfl (St.start w) ?_
  refine jc_seq ?_
  refine sc_region ?_
  refine so_pure (opv_assign (by rfl)) (by rfl) rfl ?_
  refine so_pure (opv_assign (by rfl)) (by rfl) rfl ?_
  refine jo_nil ?_
  refine jk_then ?_
  refine jc_seq ?_
  refine sc_region ?_
  refine so_pure (opv_assign (by rfl)) (by rfl) rfl ?_
  refine jo_nil ?_
  refine jk_then ?_
  refine jc_seq ?_
  refine sc_region ?_
  refine so_eff (eff_makeMapI kvI) (by rfl) rfl ?_
  rintro _ _ ⟨b10, rfl, rfl⟩
  refine so_pure (opv_assign (by rfl)) (by rfl) rfl ?_
  refine jo_nil ?_
  refine jk_then ?_
  refine jc_seq ?_
  refine jc_seq ?_
  refine sc_region ?_
  refine so_pure (opv_move (by rfl)) (by rfl) rfl ?_
  refine so_pure (opv_len_slice (by rfl) Try.underlying22) (by rfl) rfl ?_
  refine so_pure (opv_move (by rfl)) (by rfl) rfl ?_
  refine jo_nil ?_
  refine jk_then ?_
  refine jc_block ?_
  refine jc_loop (σ := Nat × List Hop × List (Int × Nat) × Value) (fun (k, ops, m, sv) => [(11, .slice A n cap), (12, .int .i64 n), (13, .int .i64 k), (4, sv), (5, .map (some b10))]) (fun (k, ops, m, sv) => [own sv 35 9 ops.length (ops.flatMap Hop.cells), mapI kvI b10 (m.map fun p => (p.1, kvN p.2))]) (fun (k, ops, m, sv) => (k ≤ n) ∧ (gat (xs.take k) 0 ([], []) = some (ops, m)) ∧ (∀ t j, getL m t = some j → j < ops.length) ∧ (ops.length ≤ k)) (fun (k, ops, m, sv) => n - k) (0, [], [], .slice none 0 0) ⟨Nat.zero_le _, rfl, (by intro t j h; simp [getL] at h), Nat.zero_le _⟩ ⟨rfl, rfl, rfl, rfl, rfl, trivial⟩ (fun w hw => hw.own_nil 35 9) ?_
  rintro ⟨k, ops, m, sv⟩ ⟨hk, hg, hm, hol⟩
  show Jc _ _ [(11, .slice A n cap), (12, .int .i64 n), (13, .int .i64 k), (4, sv), (5, .map (some b10))] [own sv 35 9 ops.length (ops.flatMap Hop.cells), mapI kvI b10 (m.map fun p => (p.1, kvN p.2))] _
  refine jc_seq ?_
  refine sc_region ?_
  refine so_pure (opv_cmp (by rfl) (by rfl) (by rfl)) (by rfl) rfl ?_
  refine jo_nil ?_
  refine jk_then ?_
  refine jc_seq ?_
  refine sk_split (x := 14) (by rfl) (fun h7 => ?_) (fun h7 => ?_)
  · first | have p7 := of_decide_eq_true h7 | have p7 := of_decide_eq_false h7 | have p7 := ndT h7 | have p7 := ndF h7 | have p7 := nbT h7 | have p7 := nbF h7 | have p7 := h7
    refine sc_true (by rfl) h7 ?_
    refine jc_skip ?_
    refine jk_then ?_
    refine jc_seq ?_
    refine jc_block ?_
    refine jc_seq ?_
    refine sc_region ?_
    refine so_pure (opv_move (by rfl)) (by rfl) rfl ?_
    have hlt : k < n := by omega
    obtain ⟨b, off, c, fz, x, rfl, hb, hx, hc⟩ := hs.get hlt
    obtain ⟨task, call, kind, key, value, code, rval, kA, kn, kc⟩ := x
    refine so_pure (opv_indexAddr (by rfl) (by rfl) Try.underlying22 ti39 (by first | rfl | omega) (by omega)) (by rfl) rfl ?_
    refine so_pure (opv_load_agg (vs := [.int .i64 task, .bool call, .int .i64 kind, .string key, .string value, .int .i64 code, .string rval, .slice kA kn kc]) (by rfl) ag39 ti39 (rd_old hb (fun h => h)) hc (by rfl)) (by rfl) rfl ?_
    refine so_eff (eff_alloc ti39 rfl) (by rfl) rfl ?_
    rintro _ _ ⟨b7, rfl, rfl⟩
    refine so_pure (opv_assign (by rfl)) (by rfl) rfl ?_
    refine so_eff0 (eff_store_all (vs := [.int .i64 task, .bool call, .int .i64 kind, .string key, .string value, .int .i64 code, .string rval, .slice kA kn kc]) (by rfl) (by rfl) (by rfl) ti39 (by rfl) (by repeat (first | exact Pk.here _ | apply Pk.there)) (by rfl) (by rfl)) (by rfl) ?_
    rintro _ _ ⟨rfl, rfl⟩
    refine jo_nil ?_
    refine jk_then ?_
    refine jc_seq ?_
    rcases hq : getL m task with _ | j
    · skip
      refine sc_region ?_
      cases call
      · skip
        refine so_pure (opv_move (by rfl)) (by rfl) rfl ?_
        refine so_pure (opv_fieldAddr (by rfl) fld39_0) (by rfl) rfl ?_
        refine so_pure (opv_load (by rfl) na3 (rd_pk (by repeat (first | exact Pk.here _ | apply Pk.there))) (by rfl)) (by rfl) rfl ?_
        refine so_pure (opv_lookup_ok_none (kv := kvI) (k := task) (by rfl) (by rfl) (KL.int Try.underlying3) Try.underlying43 ti3 (by repeat (first | exact Pk.here _ | apply Pk.there)) (by rw [getL_map, hq]; rfl)) (by rfl) rfl ?_
        refine so_pure (opv_move (by rfl)) (by rfl) rfl ?_
        refine so_pure (opv_extract (by rfl) (by rfl)) (by rfl) rfl ?_
        refine so_pure (opv_extract (by rfl) (by rfl)) (by rfl) rfl ?_
        refine so_pure (opv_assign (by rfl)) (by rfl) rfl ?_
        refine so_pure (opv_assign (by rfl)) (by rfl) rfl ?_
        refine jo_nil ?_
        refine jk_then ?_
        refine jc_block ?_
        refine jc_seq ?_
        refine sc_region ?_
        refine so_pure (opv_fieldAddr (by rfl) fld39_1) (by rfl) rfl ?_
        refine so_pure (opv_load (by rfl) na4 (rd_pk (by repeat (first | exact Pk.here _ | apply Pk.there))) (by rfl)) (by rfl) rfl ?_
        refine so_pure (opv_move (by rfl)) (by rfl) rfl ?_
        refine so_pure (opv_beq (by rfl) (by rfl) Try.underlying4) (by rfl) rfl ?_
        refine so_pure (opv_assign (by rfl)) (by rfl) rfl ?_
        refine jo_nil ?_
        refine jk_then ?_
        refine sc_true (by rfl) rfl ?_
        refine jc_seq ?_
        refine sc_region ?_
        refine so_pure (opv_assign (by rfl)) (by rfl) rfl ?_
        refine so_pure (opv_assign (by rfl)) (by rfl) rfl ?_
        refine jo_nil ?_
        refine jk_then ?_
        refine jc_ret ?_
        refine jk_block_ret ?_
        refine jk_block_ret ?_
        refine jk_then_ret ?_
        refine jk_then_ret ?_
        refine jk_block_ret ?_
        refine jk_then_ret ?_
        refine jk_fn_ret2 rfl rfl (by rfl) (by rfl) (fun w hw => ?_)
        have e1 : gather xs = none := gat_stop hx hg (by simp only [gstep, hq, if_false, Bool.false_eq_true])
        have e2 : opsOf xs = [] := by unfold opsOf; rw [e1]; rfl
        unfold Gath; rw [e1, e2]
        exact ⟨_, rfl, hw.forget.own_nil 35 9⟩
      · skip
        refine so_pure (opv_move (by rfl)) (by rfl) rfl ?_
        refine so_pure (opv_fieldAddr (by rfl) fld39_0) (by rfl) rfl ?_
        refine so_pure (opv_load (by rfl) na3 (rd_pk (by repeat (first | exact Pk.here _ | apply Pk.there))) (by rfl)) (by rfl) rfl ?_
        refine so_pure (opv_lookup_ok_none (kv := kvI) (k := task) (by rfl) (by rfl) (KL.int Try.underlying3) Try.underlying43 ti3 (by repeat (first | exact Pk.here _ | apply Pk.there)) (by rw [getL_map, hq]; rfl)) (by rfl) rfl ?_
        refine so_pure (opv_move (by rfl)) (by rfl) rfl ?_
        refine so_pure (opv_extract (by rfl) (by rfl)) (by rfl) rfl ?_
        refine so_pure (opv_extract (by rfl) (by rfl)) (by rfl) rfl ?_
        refine so_pure (opv_assign (by rfl)) (by rfl) rfl ?_
        refine so_pure (opv_assign (by rfl)) (by rfl) rfl ?_
        refine jo_nil ?_
        refine jk_then ?_
        refine jc_block ?_
        refine jc_seq ?_
        refine sc_region ?_
        refine so_pure (opv_fieldAddr (by rfl) fld39_1) (by rfl) rfl ?_
        refine so_pure (opv_load (by rfl) na4 (rd_pk (by repeat (first | exact Pk.here _ | apply Pk.there))) (by rfl)) (by rfl) rfl ?_
        refine so_pure (opv_move (by rfl)) (by rfl) rfl ?_
        refine so_pure (opv_beq (by rfl) (by rfl) Try.underlying4) (by rfl) rfl ?_
        refine so_pure (opv_assign (by rfl)) (by rfl) rfl ?_
        refine jo_nil ?_
        refine jk_then ?_
        refine sc_false (by rfl) rfl ?_
        refine jc_seq ?_
        refine sc_region ?_
        refine so_pure (opv_fieldAddr (by rfl) fld39_1) (by rfl) rfl ?_
        refine so_pure (opv_load (by rfl) na4 (rd_pk (by repeat (first | exact Pk.here _ | apply Pk.there))) (by rfl)) (by rfl) rfl ?_
        refine so_pure (opv_assign (by rfl)) (by rfl) rfl ?_
        refine jo_nil ?_
        refine jk_then ?_
        refine sc_true (by rfl) rfl ?_
        refine jc_seq ?_
        refine sc_region ?_
        refine so_pure (opv_move (by rfl)) (by rfl) rfl ?_
        refine so_pure (opv_fieldAddr (by rfl) fld39_0) (by rfl) rfl ?_
        refine so_pure (opv_load (by rfl) na3 (rd_pk (by repeat (first | exact Pk.here _ | apply Pk.there))) (by rfl)) (by rfl) rfl ?_
        refine so_pure (opv_move (by rfl)) (by rfl) rfl ?_
        refine so_pure (opv_len_own (by rfl) Try.underlying25 (by repeat (first | exact Pk.here _ | apply Pk.there))) (by rfl) rfl ?_
        refine so_eff0 (eff_mapUpdate (kv := kvI) (k := task) (by rfl) (by rfl) (by rfl) (KL.int Try.underlying3) Try.underlying43 (by repeat (first | exact Pk.here _ | apply Pk.there))) (by rfl) ?_
        rintro _ _ ⟨rfl, rfl⟩
        refine jo_nil ?_
        refine jk_then ?_
        refine sc_region ?_
        refine so_pure (opv_move (by rfl)) (by rfl) rfl ?_
        refine so_pure (opv_fieldAddr (by rfl) fld39_0) (by rfl) rfl ?_
        refine so_pure (opv_load (by rfl) na3 (rd_pk (by repeat (first | exact Pk.here _ | apply Pk.there))) (by rfl)) (by rfl) rfl ?_
        refine so_pure (opv_fieldAddr (by rfl) fld39_2) (by rfl) rfl ?_
        refine so_pure (opv_load_agg (vs := [_, _, _]) (by rfl) ag29 ti29 (rd_pk (by repeat (first | exact Pk.here _ | apply Pk.there))) (by exact ⟨rfl, rfl, rfl, trivial⟩) (by rfl)) (by rfl) rfl ?_
        refine so_pure (opv_move (by rfl)) (by rfl) rfl ?_
        refine so_pure (opv_build (by rfl) (fun w => by exact bld35_0_1_3_4 ..)) (by rfl) rfl ?_
        refine so_eff (eff_buildSlice (by rfl) (fun w => by exact bsl25_1_0 ..)) (by rfl) rfl ?_
        rintro _ _ ⟨b56, rfl, rfl⟩
        refine so_eff (eff_append_lit (by rfl) (by rfl) Try.underlying25 ti35 (by rfl) (by omega) (by repeat (first | exact Pk.here _ | apply Pk.there)) (rd_pk (by repeat (first | exact Pk.here _ | apply Pk.there))) (by rfl) (by rfl) (by unfold maxLen; omega) (by omega)) (by rfl) rfl ?_
        rintro v57 _ ⟨rfl, hv57⟩
        refine so_pure (opv_assign (by rfl)) (by rfl) rfl ?_
        refine jo_nil ?_
        refine jk_block ?_
        refine jk_block ?_
        refine jk_then ?_
        refine sc_region ?_
        refine so_pure (opv_add (by rfl) (by rfl) (wrap64_ok (by omega))) (by rfl) rfl ?_
        refine so_pure (opv_move (by rfl)) (by rfl) rfl ?_
        refine jo_nil ?_
        have e1 : (ops ++ [(⟨task, true, kind, key, value, code, rval, kA, kn, kc⟩ : Ev).op k]).flatMap Hop.cells = ops.flatMap Hop.cells ++ [.int .i64 task, .int .i64 kind, .string key, .string value, .int .i64 0, .string ⟨#[]⟩, .slice none 0 0, .int .i64 k, .int .i64 (-1)] := by simp [Ev.op, Hop.cells]
        have e2 : (ops ++ [(⟨task, true, kind, key, value, code, rval, kA, kn, kc⟩ : Ev).op k]).length = ops.length + 1 := by simp
        have e3 : ∀ t j, getL (setL m task ops.length) t = some j → j < ops.length + 1 := by
          intro t j h
          rw [getL_setL] at h
          split at h
          · injection h; omega
          · have := hm t j h; omega
        refine jk_round (k + 1, ops ++ [(⟨task, true, kind, key, value, code, rval, kA, kn, kc⟩ : Ev).op k], setL m task ops.length, v57) ⟨by omega, by rw [gat_step hx hg]; simp only [gstep, hq, if_true], by rw [e2]; exact e3, by omega⟩ (by show n - (k + 1) < n - k; omega) ⟨rfl, rfl, rfl, rfl, rfl, trivial⟩ (fun w hw => ?_)
        show St _ _ [own (v57) 35 9 (ops ++ [(⟨task, true, kind, key, value, code, rval, kA, kn, kc⟩ : Ev).op k]).length ((ops ++ [(⟨task, true, kind, key, value, code, rval, kA, kn, kc⟩ : Ev).op k]).flatMap Hop.cells), mapI kvI b10 ((setL m task ops.length).map fun p => (p.1, kvN p.2))] _
        rw [e1, e2, ← setL_map kvN]
        exact St.sel hw (by repeat (first | exact Pks.nil _ | exact Pk.here _ | apply Pk.there | apply Pks.cons))
    · have hj := hm _ _ hq
      refine sc_region ?_
      cases call
      · skip
        refine so_pure (opv_move (by rfl)) (by rfl) rfl ?_
        refine so_pure (opv_fieldAddr (by rfl) fld39_0) (by rfl) rfl ?_
        refine so_pure (opv_load (by rfl) na3 (rd_pk (by repeat (first | exact Pk.here _ | apply Pk.there))) (by rfl)) (by rfl) rfl ?_
        refine so_pure (opv_lookup_ok_some (kv := kvI) (k := task) (by rfl) (by rfl) (KL.int Try.underlying3) Try.underlying43 ti3 (by repeat (first | exact Pk.here _ | apply Pk.there)) (v := .int .i64 j) (by rw [getL_map, hq]; rfl)) (by rfl) rfl ?_
        refine so_pure (opv_move (by rfl)) (by rfl) rfl ?_
        refine so_pure (opv_extract (by rfl) (by rfl)) (by rfl) rfl ?_
        refine so_pure (opv_extract (by rfl) (by rfl)) (by rfl) rfl ?_
        refine so_pure (opv_assign (by rfl)) (by rfl) rfl ?_
        refine so_pure (opv_assign (by rfl)) (by rfl) rfl ?_
        refine jo_nil ?_
        refine jk_then ?_
        refine jc_block ?_
        refine jc_seq ?_
        refine sc_region ?_
        refine so_pure (opv_fieldAddr (by rfl) fld39_1) (by rfl) rfl ?_
        refine so_pure (opv_load (by rfl) na4 (rd_pk (by repeat (first | exact Pk.here _ | apply Pk.there))) (by rfl)) (by rfl) rfl ?_
        refine so_pure (opv_move (by rfl)) (by rfl) rfl ?_
        refine so_pure (opv_beq (by rfl) (by rfl) Try.underlying4) (by rfl) rfl ?_
        refine so_pure (opv_assign (by rfl)) (by rfl) rfl ?_
        refine jo_nil ?_
        refine jk_then ?_
        refine sc_false (by rfl) rfl ?_
        refine jc_seq ?_
        refine sc_region ?_
        refine so_pure (opv_fieldAddr (by rfl) fld39_1) (by rfl) rfl ?_
        refine so_pure (opv_load (by rfl) na4 (rd_pk (by repeat (first | exact Pk.here _ | apply Pk.there))) (by rfl)) (by rfl) rfl ?_
        refine so_pure (opv_assign (by rfl)) (by rfl) rfl ?_
        refine jo_nil ?_
        refine jk_then ?_
        refine sc_false (by rfl) rfl ?_
        refine jc_seq ?_
        obtain ⟨o, ho⟩ : ∃ o, ops[j]? = some o := ⟨ops[j], List.getElem?_eq_getElem hj⟩
        refine jk_own_open (by repeat (first | exact Pk.here _ | apply Pk.there)) (fun _ _ h0 => by omega) (fun bo cap2 cur hl hv hcap hmax hsz htake => ?_)
        subst hv
        have harr := arr_of_take Hop.cells_len rfl htake
        refine sc_region ?_
        refine so_pure (opv_move (by rfl)) (by rfl) rfl ?_
        refine so_pure (opv_move (by rfl)) (by rfl) rfl ?_
        refine so_pure (opv_indexAddr (i := j) (by rfl) (by rfl) Try.underlying25 ti35 (by rfl) (by omega)) (by rfl) rfl ?_
        refine so_pure (opv_fieldAddr (by rfl) fld35_4) (by rfl) rfl ?_
        refine so_pure (opv_load (by rfl) na3 (rd_pk (by repeat (first | exact Pk.here _ | apply Pk.there))) ((harr j o ho).get 8 _ rfl)) (by rfl) rfl ?_
        refine so_pure (opv_cmp (by rfl) (by rfl) (by rfl)) (by rfl) rfl ?_
        refine so_pure (opv_assign (by rfl)) (by rfl) rfl ?_
        refine jo_nil ?_
        refine jk_then ?_
        refine sk_split (x := 58) (by rfl) (fun h50 => ?_) (fun h50 => ?_)
        · first | have p50 := of_decide_eq_true h50 | have p50 := of_decide_eq_false h50 | have p50 := ndT h50 | have p50 := ndF h50 | have p50 := nbT h50 | have p50 := nbF h50 | have p50 := h50
          refine sc_true (by rfl) h50 ?_
          refine jc_seq ?_
          refine sc_region ?_
          refine so_pure (opv_assign (by rfl)) (by rfl) rfl ?_
          refine so_pure (opv_assign (by rfl)) (by rfl) rfl ?_
          refine jo_nil ?_
          refine jk_then ?_
          refine jc_ret ?_
          refine jk_block_ret ?_
          refine jk_block_ret ?_
          refine jk_then_ret ?_
          refine jk_then_ret ?_
          refine jk_block_ret ?_
          refine jk_then_ret ?_
          refine jk_fn_ret2 rfl rfl (by rfl) (by rfl) (fun w hw => ?_)
          have e1 : gather xs = none := gat_stop hx hg (by simp only [gstep, hq, ho, p50, if_true, if_false, Bool.false_eq_true])
          have e2 : opsOf xs = [] := by unfold opsOf; rw [e1]; rfl
          unfold Gath; rw [e1, e2]
          exact ⟨_, rfl, hw.forget.own_nil 35 9⟩
        · first | have p50 := of_decide_eq_true h50 | have p50 := of_decide_eq_false h50 | have p50 := ndT h50 | have p50 := ndF h50 | have p50 := nbT h50 | have p50 := nbF h50 | have p50 := h50
          refine sc_false (by rfl) h50 ?_
          refine so_draw [blk b7 (.cells #[.int .i64 task, .bool false, .int .i64 kind, .string key, .string value, .int .i64 code, .string rval, .slice kA kn kc] 39 (0, 0))] (by kernel_rfl) (by kernel_rfl) (by kernel_rfl) rfl (by rfl) (fun hap htm => ?_)
          refine da_any hap htm (i := 0) (by rfl) (by kernel_rfl) (by rfl) (listed' := #[true, false, false, false, false, false, false, false, false, false, false, false, false]) (by rfl) (fun _ => (opv_move (by rfl))) (by rfl) rfl ?_
          refine da_any hap htm (i := 1) (by rfl) (by kernel_rfl) (by rfl) (listed' := #[true, true, false, false, false, false, false, false, false, false, false, false, false]) (by rfl) (fun _ => (opv_move (by rfl))) (by rfl) rfl ?_
          refine da_any hap htm (i := 2) (by rfl) (by kernel_rfl) (by rfl) (listed' := #[true, true, true, false, false, false, false, false, false, false, false, false, false]) (by rfl) (fun _ => (opv_move (by rfl))) (by rfl) rfl ?_
          refine da_any hap htm (i := 3) (by rfl) (by kernel_rfl) (by rfl) (listed' := #[true, true, true, true, false, false, false, false, false, false, false, false, false]) (by rfl) (fun _ => (opv_move (by rfl))) (by rfl) rfl ?_
          refine da_any hap htm (i := 4) (by rfl) (by kernel_rfl) (by rfl) (listed' := #[true, true, true, true, true, false, false, false, false, false, false, false, false]) (by rfl) (fun _ => (opv_move (by rfl))) (by rfl) rfl ?_
          refine da_any hap htm (i := 5) (by rfl) (by kernel_rfl) (by rfl) (listed' := #[true, true, true, true, true, true, false, false, false, false, false, false, false]) (by rfl) (fun _ => (opv_fieldAddr (by rfl) fld39_3)) (by rfl) rfl ?_
          refine da_free hap htm (i := 6) (by rfl) (by kernel_rfl) (by rfl) (listed' := #[true, true, true, true, true, true, true, false, false, false, false, false, false]) (by rfl) (fun w hw => Pks.cw (by repeat (first | exact Pks.nil _ | exact Pk.here _ | apply Pk.there | apply Pks.cons)) hw) (fun _ => (opv_load_agg (vs := [_, _, _]) (by rfl) ag33 ti33 (rd_pk (by repeat (first | exact Pk.here _ | apply Pk.there))) (by exact ⟨rfl, rfl, rfl, trivial⟩) (by rfl))) (by rfl) rfl ?_
          refine da_any hap htm (i := 7) (by rfl) (by kernel_rfl) (by rfl) (listed' := #[true, true, true, true, true, true, true, true, false, false, false, false, false]) (by rfl) (fun _ => (opv_indexAddr (i := j) (by rfl) (by rfl) Try.underlying25 ti35 (by rfl) (by omega))) (by rfl) rfl ?_
          refine da_any hap htm (i := 8) (by rfl) (by kernel_rfl) (by rfl) (listed' := #[true, true, true, true, true, true, true, true, true, false, false, false, false]) (by rfl) (fun _ => (opv_fieldAddr (by rfl) fld35_4)) (by rfl) rfl ?_
          refine da_eff0 (i := 9) (by rfl) (by kernel_rfl) (by rfl) (listed' := #[true, true, true, true, true, true, true, true, true, true, false, false, false]) (by rfl) (eff_store (by rfl) (by rfl) (by rfl) ti3 (by rfl) (by repeat (first | exact Pk.here _ | apply Pk.there)) (by omega) (by rfl)) (fun _ _ h w hw => by obtain ⟨rfl, rfl⟩ := h; exact Pks.cw (by repeat (first | exact Pks.nil _ | exact Pk.here _ | apply Pk.there | apply Pks.cons)) hw) (by rfl) ?_
          rintro _ _ ⟨rfl, rfl⟩
          refine da_any hap htm (i := 10) (by rfl) (by kernel_rfl) (by rfl) (listed' := #[true, true, true, true, true, true, true, true, true, true, true, false, false]) (by rfl) (fun _ => (opv_indexAddr (i := j) (by rfl) (by rfl) Try.underlying25 ti35 (by rfl) (by omega))) (by rfl) rfl ?_
          refine da_any hap htm (i := 11) (by rfl) (by kernel_rfl) (by rfl) (listed' := #[true, true, true, true, true, true, true, true, true, true, true, true, false]) (by rfl) (fun _ => (opv_fieldAddr (by rfl) fld35_2)) (by rfl) rfl ?_
          refine da_eff0 (i := 12) (by rfl) (by kernel_rfl) (by rfl) (listed' := #[true, true, true, true, true, true, true, true, true, true, true, true, true]) (by rfl) (eff_store (by rfl) (by rfl) (by rfl) ti33 (by rfl) (by repeat (first | exact Pk.here _ | apply Pk.there)) (by rw [putCells_size]; omega) (by rfl)) (fun _ _ h w hw => by obtain ⟨rfl, rfl⟩ := h; exact Pks.cw (by repeat (first | exact Pks.nil _ | exact Pk.here _ | apply Pk.there | apply Pks.cons)) hw) (by rfl) ?_
          rintro _ _ ⟨rfl, rfl⟩
          refine da_done (by kernel_rfl) ?_
          refine jk_block ?_
          refine jk_block ?_
          refine jk_then ?_
          refine sc_region ?_
          refine so_pure (opv_add (by rfl) (by rfl) (wrap64_ok (by omega))) (by rfl) rfl ?_
          refine so_pure (opv_move (by rfl)) (by rfl) rfl ?_
          refine jo_nil ?_
          have hjl : j < ops.length := hj
          have hfin : ¬ 0 ≤ o.fin := by omega
          have harr2 := (harr.put Hop.cells_len (y := { o with fin := k }) (vs := [.int .i64 k]) (fo := 8) ho (by simp; omega) (by simp) (by intro i v hv; match i, hv with | 0, hv | 1, hv | 2, hv | 3, hv | 4, hv | 5, hv | 6, hv | 7, hv | 8, hv => simpa [Hop.cells] using hv))
          have ho2 : (ops.set j { o with fin := k })[j]? = some { o with fin := k } := by simp [hjl]
          have harr3 := (harr2.put Hop.cells_len (y := o.done (⟨task, false, kind, key, value, code, rval, kA, kn, kc⟩ : Ev) k) (vs := [.int .i64 code, .string rval, .slice kA kn kc]) (fo := 4) ho2 (by rw [putCells_size]; simp; omega) (by simp) (by intro i v hv; match i, hv with | 0, hv | 1, hv | 2, hv | 3, hv | 4, hv | 5, hv | 6, hv | 7, hv | 8, hv => simpa [Hop.cells, Hop.done] using hv))
          rw [List.set_set] at harr3
          have e2 : (ops.set j (o.done (⟨task, false, kind, key, value, code, rval, kA, kn, kc⟩ : Ev) k)).length = ops.length := by simp
          refine jk_own_mk (n := (ops.set j (o.done (⟨task, false, kind, key, value, code, rval, kA, kn, kc⟩ : Ev) k)).length) (size := 9) (xs := (ops.set j (o.done (⟨task, false, kind, key, value, code, rval, kA, kn, kc⟩ : Ev) k)).flatMap Hop.cells) (by repeat (first | exact Pk.here _ | apply Pk.there)) (by rw [e2]; exact hcap) hmax (by rw [putCells_size, putCells_size]; exact hsz) (arr_ext Hop.cells_len (by omega) rfl (by rw [putCells_size, putCells_size, hsz, e2]; exact Nat.mul_le_mul_right _ hcap) harr3) ?_
          refine jk_round (k + 1, ops.set j (o.done (⟨task, false, kind, key, value, code, rval, kA, kn, kc⟩ : Ev) k), m, .slice (some ⟨bo, 0, none⟩) (ops.set j (o.done (⟨task, false, kind, key, value, code, rval, kA, kn, kc⟩ : Ev) k)).length cap2) ⟨by omega, by rw [gat_step hx hg]; simp only [gstep, hq, ho, hfin, if_false, Bool.false_eq_true], by rw [e2]; exact hm, by omega⟩ (by show n - (k + 1) < n - k; omega) ⟨rfl, rfl, rfl, by rw [e2]; rfl, rfl, trivial⟩ (fun w hw => ?_)
          show St _ _ [own (.slice (some ⟨bo, 0, none⟩) (ops.set j (o.done (⟨task, false, kind, key, value, code, rval, kA, kn, kc⟩ : Ev) k)).length cap2) 35 9 (ops.set j (o.done (⟨task, false, kind, key, value, code, rval, kA, kn, kc⟩ : Ev) k)).length ((ops.set j (o.done (⟨task, false, kind, key, value, code, rval, kA, kn, kc⟩ : Ev) k)).flatMap Hop.cells), mapI kvI b10 ((m).map fun p => (p.1, kvN p.2))] _
          exact St.sel hw (by repeat (first | exact Pks.nil _ | exact Pk.here _ | apply Pk.there | apply Pks.cons))
      · skip
        refine so_pure (opv_move (by rfl)) (by rfl) rfl ?_
        refine so_pure (opv_fieldAddr (by rfl) fld39_0) (by rfl) rfl ?_
        refine so_pure (opv_load (by rfl) na3 (rd_pk (by repeat (first | exact Pk.here _ | apply Pk.there))) (by rfl)) (by rfl) rfl ?_
        refine so_pure (opv_lookup_ok_some (kv := kvI) (k := task) (by rfl) (by rfl) (KL.int Try.underlying3) Try.underlying43 ti3 (by repeat (first | exact Pk.here _ | apply Pk.there)) (v := .int .i64 j) (by rw [getL_map, hq]; rfl)) (by rfl) rfl ?_
        refine so_pure (opv_move (by rfl)) (by rfl) rfl ?_
        refine so_pure (opv_extract (by rfl) (by rfl)) (by rfl) rfl ?_
        refine so_pure (opv_extract (by rfl) (by rfl)) (by rfl) rfl ?_
        refine so_pure (opv_assign (by rfl)) (by rfl) rfl ?_
        refine so_pure (opv_assign (by rfl)) (by rfl) rfl ?_
        refine jo_nil ?_
        refine jk_then ?_
        refine jc_block ?_
        refine jc_seq ?_
        refine sc_region ?_
        refine so_pure (opv_fieldAddr (by rfl) fld39_1) (by rfl) rfl ?_
        refine so_pure (opv_load (by rfl) na4 (rd_pk (by repeat (first | exact Pk.here _ | apply Pk.there))) (by rfl)) (by rfl) rfl ?_
        refine so_pure (opv_move (by rfl)) (by rfl) rfl ?_
        refine so_pure (opv_beq (by rfl) (by rfl) Try.underlying4) (by rfl) rfl ?_
        refine so_pure (opv_assign (by rfl)) (by rfl) rfl ?_
        refine jo_nil ?_
        refine jk_then ?_
        refine sc_true (by rfl) rfl ?_
        refine jc_seq ?_
        refine sc_region ?_
        refine so_pure (opv_assign (by rfl)) (by rfl) rfl ?_
        refine so_pure (opv_assign (by rfl)) (by rfl) rfl ?_
        refine jo_nil ?_
        refine jk_then ?_
        refine jc_ret ?_
        refine jk_block_ret ?_
        refine jk_block_ret ?_
        refine jk_then_ret ?_
        refine jk_then_ret ?_
        refine jk_block_ret ?_
        refine jk_then_ret ?_
        refine jk_fn_ret2 rfl rfl (by rfl) (by rfl) (fun w hw => ?_)
        have e1 : gather xs = none := gat_stop hx hg (by simp only [gstep, hq, if_true])
        have e2 : opsOf xs = [] := by unfold opsOf; rw [e1]; rfl
        unfold Gath; rw [e1, e2]
        exact ⟨_, rfl, hw.forget.own_nil 35 9⟩
  · first | have p7 := of_decide_eq_true h7 | have p7 := of_decide_eq_false h7 | have p7 := ndT h7 | have p7 := ndF h7 | have p7 := nbT h7 | have p7 := nbF h7 | have p7 := h7
    refine sc_false (by rfl) h7 ?_
    refine jc_exit ?_
    refine jk_then_exit ?_
    refine jk_then_exit ?_
    refine jk_block_exit ?_
    refine jk_then ?_
    refine jc_seq ?_
    refine sc_region ?_
    refine so_pure (opv_move (by rfl)) (by rfl) rfl ?_
    refine so_pure (opv_assign (by rfl)) (by rfl) rfl ?_
    refine so_pure (opv_assign (by rfl)) (by rfl) rfl ?_
    refine jo_nil ?_
    refine jk_then ?_
    refine jc_ret ?_
    refine jk_fn_ret2 rfl rfl (by rfl) (by rfl) (fun w hw => ?_)
    obtain rfl : k = n := by omega
    rw [hs.1, List.take_length] at hg
    have e1 : gather xs = some ops := by unfold gather; rw [hg]; rfl
    have e2 : opsOf xs = ops := by unfold opsOf; rw [e1]; rfl
    unfold Gath; rw [e1, e2]
    exact ⟨sv, rfl, St.sel hw (by repeat (first | exact Pks.nil _ | exact Pk.here _ | apply Pk.there | apply Pks.cons))⟩
end Go.Hist
