/- A part of a proof for the laws of the seat Ytmhdjmbckgamlaa; it has no conditions of its own. -/
import Derived.Test.YtmhdjmbckgamlaaPlW9
import Derived.Test.YtmhdjmbckgamlaaPlFits
namespace Go.Place
open Go Go.SL Go.Proofs
set_option maxHeartbeats 4000000 in
theorem law_chooses (w : World) (x : Case) (hx : CaseOk w x) : Does Try.prog 3 #[.agg #[.int .i64 x.id, .int .i64 x.gen, .slice x.lA x.ln x.lc, .slice x.uA x.un x.uc]] w (fun v w' => v = .bool true ∧ St w Emp [] w') := by
  obtain ⟨⟨xs, hs⟩, ⟨us, hu⟩, hmx, hmu⟩ := hx
  refine fn_body (fn := Try.f3) Try.func3 rfl [(0, .agg #[.int .i64 x.id, .int .i64 x.gen, .slice x.lA x.ln x.lc, .slice x.uA x.un x.uc])] (by exact ⟨rfl, trivial⟩) rfl (St.start w) ?_
  refine jc_seq ?_
  refine sc_region ?_
  refine so_eff (eff_box (by rfl) rfl) (by rfl) rfl ?_
  rintro _ _ ⟨b1, rfl, rfl⟩
  refine so_pure (opv_assign (by rfl)) (by rfl) rfl ?_
  refine jo_nil ?_
  refine jk_then ?_
  refine jc_seq ?_
  refine so_draw [] (by kernel_rfl) (by kernel_rfl) (by kernel_rfl) rfl (by rfl) (fun hap htm => ?_)
  refine da_any hap htm (i := 0) (by rfl) (by kernel_rfl) (by rfl) (listed' := #[true, false, false, false, false, false, false, false, false, false, false, false]) (by rfl) (fun _ => (opv_fieldAddr (by rfl) fld24_0)) (by rfl) rfl ?_
  refine da_now [8, 9, 10, 11] hap htm (i := 1) (by rfl) (by kernel_rfl) (by rfl) (listed' := #[true, true, false, false, false, false, false, false, false, false, false, false]) (by rfl) (by kernel_rfl) (by kernel_rfl) (opv_load (by rfl) na3 (rd_pk (by repeat (first | exact Pk.here _ | apply Pk.there))) (by rfl)) (by rfl) rfl ?_
  refine da_any hap htm (i := 2) (by rfl) (by kernel_rfl) (by rfl) (listed' := #[true, true, true, false, false, false, false, false, false, false, false, false]) (by rfl) (fun _ => (opv_fieldAddr (by rfl) fld24_1)) (by rfl) rfl ?_
  refine da_now [9, 10, 11] hap htm (i := 3) (by rfl) (by kernel_rfl) (by rfl) (listed' := #[true, true, true, true, false, false, false, false, false, false, false, false]) (by rfl) (by kernel_rfl) (by kernel_rfl) (opv_load (by rfl) na3 (rd_pk (by repeat (first | exact Pk.here _ | apply Pk.there))) (by rfl)) (by rfl) rfl ?_
  refine da_any hap htm (i := 4) (by rfl) (by kernel_rfl) (by rfl) (listed' := #[true, true, true, true, true, false, false, false, false, false, false, false]) (by rfl) (fun _ => (opv_fieldAddr (by rfl) fld24_2)) (by rfl) rfl ?_
  refine da_now [10, 11] hap htm (i := 5) (by rfl) (by kernel_rfl) (by rfl) (listed' := #[true, true, true, true, true, true, false, false, false, false, false, false]) (by rfl) (by kernel_rfl) (by kernel_rfl) (opv_load (by rfl) na22 (rd_pk (by repeat (first | exact Pk.here _ | apply Pk.there))) (by rfl)) (by rfl) rfl ?_
  refine da_any hap htm (i := 6) (by rfl) (by kernel_rfl) (by rfl) (listed' := #[true, true, true, true, true, true, true, false, false, false, false, false]) (by rfl) (fun _ => (opv_fieldAddr (by rfl) fld24_3)) (by rfl) rfl ?_
  refine da_now [11] hap htm (i := 7) (by rfl) (by kernel_rfl) (by rfl) (listed' := #[true, true, true, true, true, true, true, true, false, false, false, false]) (by rfl) (by kernel_rfl) (by kernel_rfl) (opv_load (by rfl) na22 (rd_pk (by repeat (first | exact Pk.here _ | apply Pk.there))) (by rfl)) (by rfl) rfl ?_
  refine da_any hap htm (i := 8) (by rfl) (by kernel_rfl) (by rfl) (listed' := #[true, true, true, true, true, true, true, true, true, false, false, false]) (by rfl) (fun _ => (opv_assign (by rfl))) (by rfl) rfl ?_
  refine da_any hap htm (i := 9) (by rfl) (by kernel_rfl) (by rfl) (listed' := #[true, true, true, true, true, true, true, true, true, true, false, false]) (by rfl) (fun _ => (opv_assign (by rfl))) (by rfl) rfl ?_
  refine da_any hap htm (i := 10) (by rfl) (by kernel_rfl) (by rfl) (listed' := #[true, true, true, true, true, true, true, true, true, true, true, false]) (by rfl) (fun _ => (opv_assign (by rfl))) (by rfl) rfl ?_
  refine da_any hap htm (i := 11) (by rfl) (by kernel_rfl) (by rfl) (listed' := #[true, true, true, true, true, true, true, true, true, true, true, true]) (by rfl) (fun _ => (opv_assign (by rfl))) (by rfl) rfl ?_
  refine da_done (by kernel_rfl) ?_
  refine jk_then ?_
  refine jc_seq ?_
  refine jc_seq ?_
  refine sc_region ?_
  refine so_pure (opv_move (by rfl)) (by rfl) rfl ?_
  refine so_pure (opv_len_slice (by rfl) Try.underlying22) (by rfl) rfl ?_
  refine so_pure (opv_cmp (by rfl) (by rfl) (by rfl)) (by rfl) rfl ?_
  refine so_pure (opv_move (by rfl)) (by rfl) rfl ?_
  refine sk_split (x := 26) (by rfl) (fun h12 => ?_) (fun h12 => ?_)
  · first | have p12 := of_decide_eq_true h12 | have p12 := of_decide_eq_false h12 | have p12 := ndT h12 | have p12 := ndF h12 | have p12 := nbT h12 | have p12 := nbF h12 | have p12 := h12
    refine so_skip (wtd_not rfl rfl (by rfl) h12) rfl ?_
    refine so_skip (wtd_not rfl rfl (by rfl) h12) rfl ?_
    refine so_skip (wtd_not rfl rfl (by rfl) h12) rfl ?_
    refine so_pure (sv_pick_t (by rfl) h12 (by rfl)) (by rfl) rfl ?_
    refine jo_nil ?_
    refine jk_then ?_
    refine sc_true (by rfl) rfl ?_
    refine jc_seq ?_
    refine sc_region ?_
    refine so_eff (eff_call0 (G := fun u New => u = .bool true ∧ New = []) (by rfl) (by rfl) tx9 (by exact fun w1 hw1 => (live_spec w1).mono (fun _ _ ⟨hv, hst⟩ => ⟨[], ⟨hv, rfl⟩, hst⟩))) (by rfl) rfl ?_
    rintro _ _ ⟨_, ⟨rfl, rfl⟩, rfl⟩
    refine so_pure (opv_assign (by rfl)) (by rfl) rfl ?_
    refine jo_nil ?_
    refine jk_then ?_
    refine jc_ret ?_
    refine jk_then_ret ?_
    refine jk_fn_ret rfl rfl (by rfl) (fun w hw => ?_)
    exact ⟨rfl, hw.forget⟩
  · first | have p12 := of_decide_eq_true h12 | have p12 := of_decide_eq_false h12 | have p12 := ndT h12 | have p12 := ndF h12 | have p12 := nbT h12 | have p12 := nbF h12 | have p12 := h12
    refine so_pure (opv_move (by rfl)) (wtd_run rfl rfl (by rfl) h12) rfl ?_
    refine so_pure (opv_len_slice (by rfl) Try.underlying22) (wtd_run rfl rfl (by rfl) h12) rfl ?_
    refine so_pure (opv_cmp (by rfl) (by rfl) (by rfl)) (wtd_run rfl rfl (by rfl) h12) rfl ?_
    refine so_pure (sv_pick_f (by rfl) h12 (by rfl)) (by rfl) rfl ?_
    refine jo_nil ?_
    refine jk_then ?_
    refine sk_split (x := 30) (by rfl) (fun h15 => ?_) (fun h15 => ?_)
    · first | have p15 := of_decide_eq_true h15 | have p15 := of_decide_eq_false h15 | have p15 := ndT h15 | have p15 := ndF h15 | have p15 := nbT h15 | have p15 := nbF h15 | have p15 := h15
      refine sc_true (by rfl) h15 ?_
      refine jc_seq ?_
      refine sc_region ?_
      refine so_eff (eff_call0 (G := fun u New => u = .bool true ∧ New = []) (by rfl) (by rfl) tx9 (by exact fun w1 hw1 => (live_spec w1).mono (fun _ _ ⟨hv, hst⟩ => ⟨[], ⟨hv, rfl⟩, hst⟩))) (by rfl) rfl ?_
      rintro _ _ ⟨_, ⟨rfl, rfl⟩, rfl⟩
      refine so_pure (opv_assign (by rfl)) (by rfl) rfl ?_
      refine jo_nil ?_
      refine jk_then ?_
      refine jc_ret ?_
      refine jk_then_ret ?_
      refine jk_fn_ret rfl rfl (by rfl) (fun w hw => ?_)
      exact ⟨rfl, hw.forget⟩
    · first | have p15 := of_decide_eq_true h15 | have p15 := of_decide_eq_false h15 | have p15 := ndT h15 | have p15 := ndF h15 | have p15 := nbT h15 | have p15 := nbF h15 | have p15 := h15
      refine sc_false (by rfl) h15 ?_
      refine jc_skip ?_
      refine jk_then ?_
      refine jc_seq ?_
      refine sc_region ?_
      refine so_pure (opv_move (by rfl)) (by rfl) rfl ?_
      refine so_pure (opv_move (by rfl)) (by rfl) rfl ?_
      refine so_pure (opv_move (by rfl)) (by rfl) rfl ?_
      refine so_eff (eff_call0 (fl := []) (cl := []) (G := fun v New => ∃ sl, v = .tuple #[sl, .int .i64 (chooseE x.id x.gen xs)] ∧ New = [own sl 3 1 (chooseL x.id x.gen xs).length ((chooseL x.id x.gen xs).flatMap ic)]) (by rfl) (by rfl) tx10 (by exact fun w1 hw1 => (choose_spec w1 x.lA x.ln x.lc xs (hs.keepSt hw1) (by omega) x.id x.gen).mono (fun _ _ ⟨sl, hv, hst⟩ => ⟨_, ⟨sl, hv, rfl⟩, hst⟩))) (by rfl) rfl ?_
      rintro _ _ ⟨_, ⟨sl1, rfl, rfl⟩, rfl⟩
      refine so_pure (opv_move (by rfl)) (by rfl) rfl ?_
      refine so_pure (opv_extract (by rfl) (by rfl)) (by rfl) rfl ?_
      refine so_pure (opv_extract (by rfl) (by rfl)) (by rfl) rfl ?_
      refine so_pure (opv_assign (by rfl)) (by rfl) rfl ?_
      refine so_pure (opv_assign (by rfl)) (by rfl) rfl ?_
      refine jo_nil ?_
      refine jk_then ?_
      refine jc_seq ?_
      refine sc_region ?_
      refine so_pure (opv_move (by rfl)) (by rfl) rfl ?_
      refine so_pure (opv_move (by rfl)) (by rfl) rfl ?_
      refine so_pure (opv_move (by rfl)) (by rfl) rfl ?_
      refine so_eff (eff_call0 (fl := []) (cl := []) (G := fun v New => ∃ sl, v = .tuple #[sl, .int .i64 (chooseE x.id x.gen xs)] ∧ New = [own sl 3 1 (chooseL x.id x.gen xs).length ((chooseL x.id x.gen xs).flatMap ic)]) (by rfl) (by rfl) tx11 (by exact fun w1 hw1 => (refchoose_spec w1 x.lA x.ln x.lc xs (hs.keepSt hw1) (by omega) x.id x.gen).mono (fun _ _ ⟨sl, hv, hst⟩ => ⟨_, ⟨sl, hv, rfl⟩, hst⟩))) (by rfl) rfl ?_
      rintro _ _ ⟨_, ⟨sl2, rfl, rfl⟩, rfl⟩
      refine so_pure (opv_move (by rfl)) (by rfl) rfl ?_
      refine so_pure (opv_extract (by rfl) (by rfl)) (by rfl) rfl ?_
      refine so_pure (opv_extract (by rfl) (by rfl)) (by rfl) rfl ?_
      refine so_pure (opv_assign (by rfl)) (by rfl) rfl ?_
      refine so_pure (opv_assign (by rfl)) (by rfl) rfl ?_
      refine jo_nil ?_
      refine jk_then ?_
      refine jc_seq ?_
      refine sc_region ?_
      refine so_pure (opv_move (by rfl)) (by rfl) rfl ?_
      refine so_pure (opv_move (by rfl)) (by rfl) rfl ?_
      refine so_pure (opv_move (by rfl)) (by rfl) rfl ?_
      refine so_eff (eff_call0 (fl := []) (cl := []) (G := fun v New => v = .tuple #[.int .i64 (insteadR us xs x.id).1, .int .i64 (insteadR us xs x.id).2] ∧ New = []) (by rfl) (by rfl) tx12 (by exact fun w1 hw1 => (instead_spec w1 x.uA x.lA x.un x.ln x.uc x.lc us xs (hu.keepSt hw1) (hs.keepSt hw1) (by omega) (by omega) x.id).mono (fun _ _ ⟨hv, hst⟩ => ⟨[], ⟨hv, rfl⟩, hst⟩))) (by rfl) rfl ?_
      rintro _ _ ⟨_, ⟨rfl, rfl⟩, rfl⟩
      refine so_pure (opv_move (by rfl)) (by rfl) rfl ?_
      refine so_pure (opv_extract (by rfl) (by rfl)) (by rfl) rfl ?_
      refine so_pure (opv_extract (by rfl) (by rfl)) (by rfl) rfl ?_
      refine so_pure (opv_assign (by rfl)) (by rfl) rfl ?_
      refine so_pure (opv_assign (by rfl)) (by rfl) rfl ?_
      refine jo_nil ?_
      refine jk_then ?_
      refine jc_seq ?_
      refine sc_region ?_
      refine so_pure (opv_move (by rfl)) (by rfl) rfl ?_
      refine so_pure (opv_move (by rfl)) (by rfl) rfl ?_
      refine so_pure (opv_move (by rfl)) (by rfl) rfl ?_
      refine so_eff (eff_call0 (fl := []) (cl := []) (G := fun v New => v = .tuple #[.int .i64 (insteadR us xs x.id).1, .int .i64 (insteadR us xs x.id).2] ∧ New = []) (by rfl) (by rfl) tx13 (by exact fun w1 hw1 => (refinstead_spec w1 x.uA x.lA x.un x.ln x.uc x.lc us xs (hu.keepSt hw1) (hs.keepSt hw1) (by omega) (by omega) x.id).mono (fun _ _ ⟨hv, hst⟩ => ⟨[], ⟨hv, rfl⟩, hst⟩))) (by rfl) rfl ?_
      rintro _ _ ⟨_, ⟨rfl, rfl⟩, rfl⟩
      refine so_pure (opv_move (by rfl)) (by rfl) rfl ?_
      refine so_pure (opv_extract (by rfl) (by rfl)) (by rfl) rfl ?_
      refine so_pure (opv_extract (by rfl) (by rfl)) (by rfl) rfl ?_
      refine so_pure (opv_assign (by rfl)) (by rfl) rfl ?_
      refine so_pure (opv_assign (by rfl)) (by rfl) rfl ?_
      refine jo_nil ?_
      refine jk_then ?_
      refine jc_seq ?_
      refine jk_sv (v := sl1) (by repeat (first | exact Pk.here _ | apply Pk.there)) (fun hsv => ?_)
      obtain ⟨A1, c1, rfl, _⟩ := hsv
      refine jk_sv (v := sl2) (by repeat (first | exact Pk.here _ | apply Pk.there)) (fun hsv => ?_)
      obtain ⟨A2, c2, rfl, _⟩ := hsv
      have hle := chooseL_le x.id x.gen xs
      refine sc_region ?_
      refine so_pure (opv_move (by rfl)) (by rfl) rfl ?_
      refine so_pure (opv_move (by rfl)) (by rfl) rfl ?_
      refine so_eff (eff_call0 (fl := []) (cl := []) (G := fun v New => v = .bool true ∧ New = []) (by rfl) (by rfl) tx14 (by exact fun w1 hw1 => (ints_spec w1 A1 A2 (chooseL x.id x.gen xs).length (chooseL x.id x.gen xs).length c1 c2 (chooseL x.id x.gen xs) (chooseL x.id x.gen xs) (St.slr ic_len hw1 (by repeat (first | exact Pk.here _ | apply Pk.there)) rfl) (St.slr ic_len hw1 (by repeat (first | exact Pk.here _ | apply Pk.there)) rfl) (by omega)).mono (fun _ _ ⟨hv, hst⟩ => ⟨[], ⟨hv.trans (by simp), rfl⟩, hst⟩))) (by rfl) rfl ?_
      rintro _ _ ⟨_, ⟨rfl, rfl⟩, rfl⟩
      refine so_pure (opv_move (by rfl)) (by rfl) rfl ?_
      refine so_pure (opv_move (by rfl)) (wtd_run rfl rfl (by rfl) rfl) rfl ?_
      refine so_pure (opv_move (by rfl)) (wtd_run rfl rfl (by rfl) rfl) rfl ?_
      refine so_pure (opv_cmp (b := true) (by rfl) (by rfl) (by exact congrArg some (decide_eq_true rfl))) (wtd_run rfl rfl (by rfl) rfl) rfl ?_
      refine so_pure (sv_pick_t (by rfl) rfl (by rfl)) (by rfl) rfl ?_
      refine so_pure (opv_move (by rfl)) (by rfl) rfl ?_
      refine so_pure (opv_move (by rfl)) (wtd_run rfl rfl (by rfl) rfl) rfl ?_
      refine so_pure (opv_move (by rfl)) (wtd_run rfl rfl (by rfl) rfl) rfl ?_
      refine so_pure (opv_cmp (b := true) (by rfl) (by rfl) (by exact congrArg some (decide_eq_true rfl))) (wtd_run rfl rfl (by rfl) rfl) rfl ?_
      refine so_pure (sv_pick_t (by rfl) rfl (by rfl)) (by rfl) rfl ?_
      refine so_pure (opv_move (by rfl)) (by rfl) rfl ?_
      refine so_pure (opv_move (by rfl)) (wtd_run rfl rfl (by rfl) rfl) rfl ?_
      refine so_pure (opv_move (by rfl)) (wtd_run rfl rfl (by rfl) rfl) rfl ?_
      refine so_pure (opv_cmp (b := true) (by rfl) (by rfl) (by exact congrArg some (decide_eq_true rfl))) (wtd_run rfl rfl (by rfl) rfl) rfl ?_
      refine so_pure (sv_pick_t (by rfl) rfl (by rfl)) (by rfl) rfl ?_
      refine so_pure (opv_move (by rfl)) (by rfl) rfl ?_
      refine so_eff (eff_call0 (G := fun u New => u = .bool true ∧ New = []) (by rfl) (by rfl) tx9 (by exact fun w1 hw1 => (live_spec w1).mono (fun _ _ ⟨hv, hst⟩ => ⟨[], ⟨hv, rfl⟩, hst⟩))) (wtd_run rfl rfl (by rfl) rfl) rfl ?_
      rintro _ _ ⟨_, ⟨rfl, rfl⟩, rfl⟩
      refine so_pure (sv_pick_t (by rfl) rfl (by rfl)) (by rfl) rfl ?_
      refine so_pure (opv_assign (by rfl)) (by rfl) rfl ?_
      refine jo_nil ?_
      refine jk_then ?_
      refine jc_ret ?_
      refine jk_fn_ret rfl rfl (by rfl) (fun w hw => ?_)
      exact ⟨rfl, hw.forget⟩
end Go.Place
