/- A part of a proof for the laws of the seat Ytmhdjmbckgamlaa; it has no conditions of its own. -/
import Derived.Test.YtmhdjmbckgamlaaPlW8
namespace Go.Place
open Go Go.SL Go.Proofs
set_option maxHeartbeats 4000000 in
theorem live_spec (w : World) : Does Try.prog 9 #[] w (fun v w' => v = .bool true ∧ St w Emp [] w') := by
  refine fn_body (fn := Try.f9) Try.func9 rfl [] (by exact trivial) rfl (St.start w) ?_
  refine jc_seq ?_
  refine sc_region ?_
  refine so_pure (opv_assign (by rfl)) (by rfl) rfl ?_
  refine jo_nil ?_
  refine jk_then ?_
  refine jc_seq ?_
  refine sc_region ?_
  refine so_eff (eff_call0 (fl := []) (cl := []) (G := fun v New => ∃ b, v = .slice (some ⟨b, 0, none⟩) 12 12 ∧ New = [own (.slice (some ⟨b, 0, none⟩) 12 12) 3 1 12 (([0, 1, 2, 3, 4, 5, 6, 7, 8, 9, 10, 11] : List Int).flatMap ic)]) (by rfl) (by rfl) tx19 (by exact fun w1 hw1 => (all_spec w1).mono (fun _ _ ⟨b, hv, hst⟩ => ⟨_, ⟨b, hv, rfl⟩, hst⟩))) (by rfl) rfl ?_
  rintro _ _ ⟨_, ⟨ba, rfl, rfl⟩, rfl⟩
  refine so_eff (eff_call0 (fl := []) (cl := []) (G := fun v New => ∃ sl, v = .tuple #[sl, .int .i64 (chooseE 1 0 ([0, 1, 2, 3, 4, 5, 6, 7, 8, 9, 10, 11] : List Int))] ∧ New = [own sl 3 1 (chooseL 1 0 ([0, 1, 2, 3, 4, 5, 6, 7, 8, 9, 10, 11] : List Int)).length ((chooseL 1 0 ([0, 1, 2, 3, 4, 5, 6, 7, 8, 9, 10, 11] : List Int)).flatMap ic)]) (by rfl) (by rfl) tx10 (by exact fun w1 hw1 => (choose_spec w1 (some ⟨ba, 0, none⟩) 12 12 ([0, 1, 2, 3, 4, 5, 6, 7, 8, 9, 10, 11] : List Int) (St.slr ic_len hw1 (by repeat (first | exact Pk.here _ | apply Pk.there)) rfl) (by omega) 1 0).mono (fun _ _ ⟨sl, hv, hst⟩ => ⟨_, ⟨sl, hv, rfl⟩, hst⟩))) (by rfl) rfl ?_
  rintro _ _ ⟨_, ⟨sl1, rfl, rfl⟩, rfl⟩
  rw [show chooseE 1 0 ([0, 1, 2, 3, 4, 5, 6, 7, 8, 9, 10, 11] : List Int) = 0 by decide]
  refine so_pure (opv_move (by rfl)) (by rfl) rfl ?_
  refine so_pure (opv_extract (by rfl) (by rfl)) (by rfl) rfl ?_
  refine so_pure (opv_extract (by rfl) (by rfl)) (by rfl) rfl ?_
  refine so_pure (opv_assign (by rfl)) (by rfl) rfl ?_
  refine so_pure (opv_assign (by rfl)) (by rfl) rfl ?_
  refine jo_nil ?_
  refine jk_then ?_
  refine jc_seq ?_
  refine sc_region ?_
  refine so_eff (eff_call0 (fl := []) (cl := []) (G := fun v New => ∃ b, v = .slice (some ⟨b, 0, none⟩) 12 12 ∧ New = [own (.slice (some ⟨b, 0, none⟩) 12 12) 3 1 12 (([0, 1, 2, 3, 4, 5, 6, 7, 8, 9, 10, 11] : List Int).flatMap ic)]) (by rfl) (by rfl) tx19 (by exact fun w1 hw1 => (all_spec w1).mono (fun _ _ ⟨b, hv, hst⟩ => ⟨_, ⟨b, hv, rfl⟩, hst⟩))) (by rfl) rfl ?_
  rintro _ _ ⟨_, ⟨bb, rfl, rfl⟩, rfl⟩
  refine so_pure (opv_slice (l := 0) (h := 8) (by rfl) Try.underlying22 ti3 (by rfl) (by rfl) (by rfl) (by rfl) (by omega) (by omega)) (by rfl) rfl ?_
  refine so_eff (eff_call0 (fl := []) (cl := []) (G := fun v New => ∃ sl, v = .tuple #[sl, .int .i64 (chooseE 1 0 (([0, 1, 2, 3, 4, 5, 6, 7, 8, 9, 10, 11] : List Int).take 8))] ∧ New = [own sl 3 1 (chooseL 1 0 (([0, 1, 2, 3, 4, 5, 6, 7, 8, 9, 10, 11] : List Int).take 8)).length ((chooseL 1 0 (([0, 1, 2, 3, 4, 5, 6, 7, 8, 9, 10, 11] : List Int).take 8)).flatMap ic)]) (by rfl) (by rfl) tx10 (by exact fun w1 hw1 => (choose_spec w1 _ 8 12 (([0, 1, 2, 3, 4, 5, 6, 7, 8, 9, 10, 11] : List Int).take 8) (SlR.take (m := 8) (cap := 12) (St.slr ic_len hw1 (by repeat (first | exact Pk.here _ | apply Pk.there)) rfl) (by decide)) (by omega) 1 0).mono (fun _ _ ⟨sl, hv, hst⟩ => ⟨_, ⟨sl, hv, rfl⟩, hst⟩))) (by rfl) rfl ?_
  rintro _ _ ⟨_, ⟨sl2, rfl, rfl⟩, rfl⟩
  rw [show chooseE 1 0 (([0, 1, 2, 3, 4, 5, 6, 7, 8, 9, 10, 11] : List Int).take 8) = 2 by decide]
  refine so_pure (opv_move (by rfl)) (by rfl) rfl ?_
  refine so_pure (opv_extract (by rfl) (by rfl)) (by rfl) rfl ?_
  refine so_pure (opv_extract (by rfl) (by rfl)) (by rfl) rfl ?_
  refine so_pure (opv_assign (by rfl)) (by rfl) rfl ?_
  refine so_pure (opv_assign (by rfl)) (by rfl) rfl ?_
  refine jo_nil ?_
  refine jk_then ?_
  refine jc_seq ?_
  refine sc_region ?_
  refine so_eff (eff_call0 (fl := []) (cl := []) (G := fun v New => ∃ b, v = .slice (some ⟨b, 0, none⟩) 12 12 ∧ New = [own (.slice (some ⟨b, 0, none⟩) 12 12) 3 1 12 (([0, 1, 2, 3, 4, 5, 6, 7, 8, 9, 10, 11] : List Int).flatMap ic)]) (by rfl) (by rfl) tx19 (by exact fun w1 hw1 => (all_spec w1).mono (fun _ _ ⟨b, hv, hst⟩ => ⟨_, ⟨b, hv, rfl⟩, hst⟩))) (by rfl) rfl ?_
  rintro _ _ ⟨_, ⟨bc, rfl, rfl⟩, rfl⟩
  refine so_eff (eff_call0 (fl := []) (cl := []) (G := fun v New => ∃ sl, v = .tuple #[sl, .int .i64 (chooseE (-1) 0 ([0, 1, 2, 3, 4, 5, 6, 7, 8, 9, 10, 11] : List Int))] ∧ New = [own sl 3 1 (chooseL (-1) 0 ([0, 1, 2, 3, 4, 5, 6, 7, 8, 9, 10, 11] : List Int)).length ((chooseL (-1) 0 ([0, 1, 2, 3, 4, 5, 6, 7, 8, 9, 10, 11] : List Int)).flatMap ic)]) (by rfl) (by rfl) tx10 (by exact fun w1 hw1 => (choose_spec w1 (some ⟨bc, 0, none⟩) 12 12 ([0, 1, 2, 3, 4, 5, 6, 7, 8, 9, 10, 11] : List Int) (St.slr ic_len hw1 (by repeat (first | exact Pk.here _ | apply Pk.there)) rfl) (by omega) (-1) 0).mono (fun _ _ ⟨sl, hv, hst⟩ => ⟨_, ⟨sl, hv, rfl⟩, hst⟩))) (by rfl) rfl ?_
  rintro _ _ ⟨_, ⟨sl3, rfl, rfl⟩, rfl⟩
  rw [show chooseE (-1) 0 ([0, 1, 2, 3, 4, 5, 6, 7, 8, 9, 10, 11] : List Int) = 1 by decide]
  refine so_pure (opv_move (by rfl)) (by rfl) rfl ?_
  refine so_pure (opv_extract (by rfl) (by rfl)) (by rfl) rfl ?_
  refine so_pure (opv_extract (by rfl) (by rfl)) (by rfl) rfl ?_
  refine so_pure (opv_assign (by rfl)) (by rfl) rfl ?_
  refine so_pure (opv_assign (by rfl)) (by rfl) rfl ?_
  refine jo_nil ?_
  refine jk_then ?_
  refine jc_seq ?_
  refine sc_region ?_
  refine so_eff (eff_buildSlice (by rfl) (fun w => by exact bsl22_2_0_1 ..)) (by rfl) rfl ?_
  rintro _ _ ⟨b32, rfl, rfl⟩
  refine so_eff (eff_buildSlice (by rfl) (fun w => by exact bsl22_3_0_1_2 ..)) (by rfl) rfl ?_
  rintro _ _ ⟨b33, rfl, rfl⟩
  refine so_eff (eff_call0 (fl := []) (cl := []) (G := fun v New => v = .tuple #[.int .i64 (insteadR ([2, 3] : List Int) ([1, 2, 3] : List Int) 1).1, .int .i64 (insteadR ([2, 3] : List Int) ([1, 2, 3] : List Int) 1).2] ∧ New = []) (by rfl) (by rfl) tx12 (by exact fun w1 hw1 => (instead_spec w1 (some ⟨b32, 0, none⟩) (some ⟨b33, 0, none⟩) 2 3 2 3 ([2, 3] : List Int) ([1, 2, 3] : List Int) (SlR.of_blk hw1 (by repeat (first | exact Pk.here _ | apply Pk.there)) rfl (arr_of_take ic_len rfl rfl)) (SlR.of_blk hw1 (by repeat (first | exact Pk.here _ | apply Pk.there)) rfl (arr_of_take ic_len rfl rfl)) (by omega) (by omega) 1).mono (fun _ _ ⟨hv, hst⟩ => ⟨[], ⟨hv, rfl⟩, hst⟩))) (by rfl) rfl ?_
  rintro _ _ ⟨_, ⟨rfl, rfl⟩, rfl⟩
  rw [show insteadR ([2, 3] : List Int) ([1, 2, 3] : List Int) 1 = (1, 0) by decide]
  refine so_pure (opv_move (by rfl)) (by rfl) rfl ?_
  refine so_pure (opv_extract (by rfl) (by rfl)) (by rfl) rfl ?_
  refine so_pure (opv_extract (by rfl) (by rfl)) (by rfl) rfl ?_
  refine so_pure (opv_assign (by rfl)) (by rfl) rfl ?_
  refine so_pure (opv_assign (by rfl)) (by rfl) rfl ?_
  refine jo_nil ?_
  refine jk_then ?_
  refine jc_seq ?_
  refine sc_region ?_
  refine so_eff (eff_buildSlice (by rfl) (fun w => by exact bsl22_1_0 ..)) (by rfl) rfl ?_
  rintro _ _ ⟨b38, rfl, rfl⟩
  refine so_eff (eff_buildSlice (by rfl) (fun w => by exact bsl22_1_0 ..)) (by rfl) rfl ?_
  rintro _ _ ⟨b39, rfl, rfl⟩
  refine so_eff (eff_call0 (fl := []) (cl := []) (G := fun v New => v = .tuple #[.int .i64 (insteadR ([1] : List Int) ([1] : List Int) 0).1, .int .i64 (insteadR ([1] : List Int) ([1] : List Int) 0).2] ∧ New = []) (by rfl) (by rfl) tx12 (by exact fun w1 hw1 => (instead_spec w1 (some ⟨b38, 0, none⟩) (some ⟨b39, 0, none⟩) 1 1 1 1 ([1] : List Int) ([1] : List Int) (SlR.of_blk hw1 (by repeat (first | exact Pk.here _ | apply Pk.there)) rfl (arr_of_take ic_len rfl rfl)) (SlR.of_blk hw1 (by repeat (first | exact Pk.here _ | apply Pk.there)) rfl (arr_of_take ic_len rfl rfl)) (by omega) (by omega) 0).mono (fun _ _ ⟨hv, hst⟩ => ⟨[], ⟨hv, rfl⟩, hst⟩))) (by rfl) rfl ?_
  rintro _ _ ⟨_, ⟨rfl, rfl⟩, rfl⟩
  rw [show insteadR ([1] : List Int) ([1] : List Int) 0 = (0, 2) by decide]
  refine so_pure (opv_move (by rfl)) (by rfl) rfl ?_
  refine so_pure (opv_extract (by rfl) (by rfl)) (by rfl) rfl ?_
  refine so_pure (opv_extract (by rfl) (by rfl)) (by rfl) rfl ?_
  refine so_pure (opv_assign (by rfl)) (by rfl) rfl ?_
  refine so_pure (opv_assign (by rfl)) (by rfl) rfl ?_
  refine jo_nil ?_
  refine jk_then ?_
  refine jc_seq ?_
  refine sc_region ?_
  refine so_pure (opv_build (by rfl) (fun w => by exact bld45_0 ..)) (by rfl) rfl ?_
  refine so_pure (opv_build (by rfl) (fun w => by exact bld45_0_1 ..)) (by rfl) rfl ?_
  refine so_pure (opv_build (by rfl) (fun w => by exact bld45_0 ..)) (by rfl) rfl ?_
  refine so_eff (eff_buildSlice (by rfl) (fun w => by exact bsl34_3_0_1_2 ..)) (by rfl) rfl ?_
  rintro _ _ ⟨b46, rfl, rfl⟩
  refine so_pure (opv_build (by rfl) (fun w => by exact bld36_3 ..)) (by rfl) rfl ?_
  refine so_eff (eff_buildSlice (by rfl) (fun w => by exact bsl33_1_0 ..)) (by rfl) rfl ?_
  rintro _ _ ⟨b48, rfl, rfl⟩
  refine so_eff (eff_call0 (fl := []) (cl := []) (G := fun v New => ∃ lb, v = .slice (some ⟨lb, 0, none⟩) 12 12 ∧ New = [own (.slice (some ⟨lb, 0, none⟩) 12 12) 3 1 12 ((loadL ([[⟨3, 0⟩, ⟨3, 1⟩, ⟨12, 0⟩]] : List (List Loc))).flatMap ic)]) (by rfl) (by rfl) tx17 (by exact fun w1 hw1 => (load_spec w1 (some ⟨b48, 0, none⟩) 1 1 [(⟨0, 0, 0, some ⟨b46, 0, none⟩, 3, 3⟩ : Vol)] ([[⟨3, 0⟩, ⟨3, 1⟩, ⟨12, 0⟩]] : List (List Loc)) (SlR.of_blk hw1 (by repeat (first | exact Pk.here _ | apply Pk.there)) rfl (arr_of_take Vol.cells_len rfl rfl)) ⟨⟨SlR.of_blk hw1 (by repeat (first | exact Pk.here _ | apply Pk.there)) rfl (arr_of_take Loc.cells_len rfl rfl), Nat.le_of_ble_eq_true rfl⟩, trivial⟩ (by omega)).mono (fun _ _ ⟨lb, m, hv, _, _, hst⟩ => ⟨_, ⟨lb, hv, rfl⟩, hst⟩))) (by rfl) rfl ?_
  rintro _ _ ⟨_, ⟨lb, rfl, rfl⟩, rfl⟩
  rw [show loadL ([[⟨3, 0⟩, ⟨3, 1⟩, ⟨12, 0⟩]] : List (List Loc)) = ([0, 0, 0, 2, 0, 0, 0, 0, 0, 0, 0, 0] : List Int) by decide]
  refine so_pure (opv_assign (by rfl)) (by rfl) rfl ?_
  refine jo_nil ?_
  refine jk_then ?_
  refine jc_seq ?_
  refine sc_region ?_
  refine so_pure (opv_build (by rfl) (fun w => by exact bld45_0 ..)) (by rfl) rfl ?_
  refine so_pure (opv_build (by rfl) (fun w => by exact bld45_0 ..)) (by rfl) rfl ?_
  refine so_eff (eff_buildSlice (by rfl) (fun w => by exact bsl34_2_0_1 ..)) (by rfl) rfl ?_
  rintro _ _ ⟨b53, rfl, rfl⟩
  refine so_pure (opv_build (by rfl) (fun w => by exact bld36_3 ..)) (by rfl) rfl ?_
  refine so_eff (eff_buildSlice (by rfl) (fun w => by exact bsl33_1_0 ..)) (by rfl) rfl ?_
  rintro _ _ ⟨b55, rfl, rfl⟩
  refine so_eff (eff_buildSlice (by rfl) (fun w => by exact bsl22_2_0_1 ..)) (by rfl) rfl ?_
  rintro _ _ ⟨b56, rfl, rfl⟩
  refine so_eff (eff_call0 (fl := []) (cl := []) (G := fun v New => v = .tuple #[.int .i64 (evenR (loadL ([[⟨3, 0⟩, ⟨3, 0⟩]] : List (List Loc))) [2, 3]).1, .int .i64 (evenR (loadL ([[⟨3, 0⟩, ⟨3, 0⟩]] : List (List Loc))) [2, 3]).2.1, .bool (evenR (loadL ([[⟨3, 0⟩, ⟨3, 0⟩]] : List (List Loc))) [2, 3]).2.2] ∧ New = []) (by rfl) (by rfl) tx15 (by exact fun w1 hw1 => (even_spec w1 (some ⟨b55, 0, none⟩) (some ⟨b56, 0, none⟩) 1 2 1 2 [(⟨0, 0, 0, some ⟨b53, 0, none⟩, 2, 2⟩ : Vol)] ([[⟨3, 0⟩, ⟨3, 0⟩]] : List (List Loc)) [2, 3] (SlR.of_blk hw1 (by repeat (first | exact Pk.here _ | apply Pk.there)) rfl (arr_of_take Vol.cells_len rfl rfl)) ⟨⟨SlR.of_blk hw1 (by repeat (first | exact Pk.here _ | apply Pk.there)) rfl (arr_of_take Loc.cells_len rfl rfl), Nat.le_of_ble_eq_true rfl⟩, trivial⟩ (by omega) (SlR.of_blk hw1 (by repeat (first | exact Pk.here _ | apply Pk.there)) rfl (arr_of_take ic_len rfl rfl)) (by omega)).mono (fun _ _ ⟨hv, hst⟩ => ⟨[], ⟨hv, rfl⟩, hst⟩))) (by rfl) rfl ?_
  rintro _ _ ⟨_, ⟨rfl, rfl⟩, rfl⟩
  rw [show evenR (loadL ([[⟨3, 0⟩, ⟨3, 0⟩]] : List (List Loc))) [2, 3] = (3, 2, true) by decide]
  refine so_pure (opv_move (by rfl)) (by rfl) rfl ?_
  refine so_pure (opv_extract (by rfl) (by rfl)) (by rfl) rfl ?_
  refine so_pure (opv_extract (by rfl) (by rfl)) (by rfl) rfl ?_
  refine so_pure (opv_extract (by rfl) (by rfl)) (by rfl) rfl ?_
  refine so_pure (opv_assign (by rfl)) (by rfl) rfl ?_
  refine so_pure (opv_assign (by rfl)) (by rfl) rfl ?_
  refine so_pure (opv_assign (by rfl)) (by rfl) rfl ?_
  refine jo_nil ?_
  refine jk_then ?_
  refine jc_seq ?_
  refine jk_sv (v := sl1) (by repeat (first | exact Pk.here _ | apply Pk.there)) (fun hsv => ?_)
  obtain ⟨A1, c1, rfl, _⟩ := hsv
  refine sc_region ?_
  refine so_pure (opv_move (by rfl)) (by rfl) rfl ?_
  refine so_eff (eff_buildSlice (by rfl) (fun w => by exact bsl22_9_0_1_2_3_4_5_6_7_8 ..)) (by rfl) rfl ?_
  rintro _ _ ⟨b62, rfl, rfl⟩
  refine so_eff (eff_call0 (fl := []) (cl := []) (G := fun v New => v = .bool true ∧ New = []) (by rfl) (by rfl) tx14 (by exact fun w1 hw1 => (ints_spec w1 A1 (some ⟨b62, 0, none⟩) (chooseL 1 0 ([0, 1, 2, 3, 4, 5, 6, 7, 8, 9, 10, 11] : List Int)).length 9 c1 9 (chooseL 1 0 ([0, 1, 2, 3, 4, 5, 6, 7, 8, 9, 10, 11] : List Int)) ([5, 6, 7, 8, 9, 10, 11, 0, 1] : List Int) (St.slr ic_len hw1 (by repeat (first | exact Pk.here _ | apply Pk.there)) rfl) (SlR.of_blk hw1 (by repeat (first | exact Pk.here _ | apply Pk.there)) rfl (arr_of_take ic_len rfl rfl)) (by simp [chooseL, rotL]; split <;> simp)).mono (fun _ _ ⟨hv, hst⟩ => ⟨[], ⟨hv.trans (by rw [show (chooseL 1 0 ([0, 1, 2, 3, 4, 5, 6, 7, 8, 9, 10, 11] : List Int)) = ([5, 6, 7, 8, 9, 10, 11, 0, 1] : List Int) by decide]; simp), rfl⟩, hst⟩))) (by rfl) rfl ?_
  rintro _ _ ⟨_, ⟨rfl, rfl⟩, rfl⟩
  refine so_pure (opv_move (by rfl)) (by rfl) rfl ?_
  refine so_pure (opv_move (by rfl)) (wtd_run rfl rfl (by rfl) rfl) rfl ?_
  refine so_pure (opv_cmp (by rfl) (by rfl) (by rfl)) (wtd_run rfl rfl (by rfl) rfl) rfl ?_
  refine so_pure (sv_pick_t (by rfl) rfl (by rfl)) (by rfl) rfl ?_
  refine so_pure (opv_move (by rfl)) (by rfl) rfl ?_
  refine so_pure (opv_move (by rfl)) (wtd_run rfl rfl (by rfl) rfl) rfl ?_
  refine so_pure (opv_cmp (by rfl) (by rfl) (by rfl)) (wtd_run rfl rfl (by rfl) rfl) rfl ?_
  refine so_pure (sv_pick_t (by rfl) rfl (by rfl)) (by rfl) rfl ?_
  refine so_pure (opv_move (by rfl)) (by rfl) rfl ?_
  refine so_pure (opv_move (by rfl)) (wtd_run rfl rfl (by rfl) rfl) rfl ?_
  refine so_pure (opv_cmp (by rfl) (by rfl) (by rfl)) (wtd_run rfl rfl (by rfl) rfl) rfl ?_
  refine so_pure (sv_pick_t (by rfl) rfl (by rfl)) (by rfl) rfl ?_
  refine so_pure (opv_move (by rfl)) (by rfl) rfl ?_
  refine so_pure (opv_move (by rfl)) (wtd_run rfl rfl (by rfl) rfl) rfl ?_
  refine so_pure (opv_cmp (by rfl) (by rfl) (by rfl)) (wtd_run rfl rfl (by rfl) rfl) rfl ?_
  refine so_pure (sv_pick_t (by rfl) rfl (by rfl)) (by rfl) rfl ?_
  refine so_pure (opv_move (by rfl)) (by rfl) rfl ?_
  refine so_pure (opv_move (by rfl)) (wtd_run rfl rfl (by rfl) rfl) rfl ?_
  refine so_pure (opv_cmp (by rfl) (by rfl) (by rfl)) (wtd_run rfl rfl (by rfl) rfl) rfl ?_
  refine so_pure (sv_pick_t (by rfl) rfl (by rfl)) (by rfl) rfl ?_
  refine so_pure (opv_move (by rfl)) (by rfl) rfl ?_
  refine so_pure (opv_move (by rfl)) (wtd_run rfl rfl (by rfl) rfl) rfl ?_
  refine so_pure (opv_cmp (by rfl) (by rfl) (by rfl)) (wtd_run rfl rfl (by rfl) rfl) rfl ?_
  refine so_pure (sv_pick_t (by rfl) rfl (by rfl)) (by rfl) rfl ?_
  refine so_pure (opv_move (by rfl)) (by rfl) rfl ?_
  refine so_pure (opv_move (by rfl)) (wtd_run rfl rfl (by rfl) rfl) rfl ?_
  refine so_pure (opv_len_slice (by rfl) Try.underlying22) (wtd_run rfl rfl (by rfl) rfl) rfl ?_
  refine so_pure (opv_cmp (by rfl) (by rfl) (by rfl)) (wtd_run rfl rfl (by rfl) rfl) rfl ?_
  refine so_pure (sv_pick_t (by rfl) rfl (by rfl)) (by rfl) rfl ?_
  refine so_pure (opv_move (by rfl)) (by rfl) rfl ?_
  refine so_pure (opv_move (by rfl)) (wtd_run rfl rfl (by rfl) rfl) rfl ?_
  refine so_pure (opv_indexAddr (i := 3) (by rfl) (by rfl) Try.underlying22 ti3 rfl (by omega)) (wtd_run rfl rfl (by rfl) rfl) rfl ?_
  refine so_pure (opv_load_fld (enc := ic) (v := .slice (some ⟨lb, 0, none⟩) 12 12) (i := 3) (xs := ([0, 0, 0, 2, 0, 0, 0, 0, 0, 0, 0, 0] : List Int)) (u := 2) (fo := 0) (w := .int .i64 2) ic_len (by rfl) na3 (by repeat (first | exact Pk.here _ | apply Pk.there)) rfl rfl) (wtd_run rfl rfl (by rfl) rfl) rfl ?_
  refine so_pure (opv_cmp (by rfl) (by rfl) (by rfl)) (wtd_run rfl rfl (by rfl) rfl) rfl ?_
  refine so_pure (sv_pick_t (by rfl) rfl (by rfl)) (by rfl) rfl ?_
  refine so_pure (opv_move (by rfl)) (by rfl) rfl ?_
  refine so_pure (opv_move (by rfl)) (wtd_run rfl rfl (by rfl) rfl) rfl ?_
  refine so_pure (opv_cmp (by rfl) (by rfl) (by rfl)) (wtd_run rfl rfl (by rfl) rfl) rfl ?_
  refine so_pure (sv_pick_t (by rfl) rfl (by rfl)) (by rfl) rfl ?_
  refine so_pure (opv_move (by rfl)) (by rfl) rfl ?_
  refine so_pure (opv_move (by rfl)) (wtd_run rfl rfl (by rfl) rfl) rfl ?_
  refine so_pure (opv_cmp (by rfl) (by rfl) (by rfl)) (wtd_run rfl rfl (by rfl) rfl) rfl ?_
  refine so_pure (sv_pick_t (by rfl) rfl (by rfl)) (by rfl) rfl ?_
  refine so_pure (opv_move (by rfl)) (by rfl) rfl ?_
  refine so_pure (opv_move (by rfl)) (wtd_run rfl rfl (by rfl) rfl) rfl ?_
  refine so_pure (sv_pick_t (by rfl) rfl (by rfl)) (by rfl) rfl ?_
  refine so_pure (opv_assign (by rfl)) (by rfl) rfl ?_
  refine jo_nil ?_
  refine jk_then ?_
  refine jc_ret ?_
  refine jk_fn_ret rfl rfl (by rfl) (fun w hw => ?_)
  exact ⟨rfl, hw.forget⟩
end Go.Place
