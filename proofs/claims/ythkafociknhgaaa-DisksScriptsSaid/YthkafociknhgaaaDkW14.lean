/- A part of a proof for the laws of the seat Ythkafociknhgaaa; it has no conditions of its own. -/
import Derived.Test.YthkafociknhgaaaDkW13
namespace Go.Disks
open Go Go.SL Go.Proofs
set_option maxHeartbeats 4000000 in
theorem live_spec (w : World) : Does Try.prog 8 #[] w (fun v w' => v = .bool true ∧ St w Emp [] w') := by
  refine fn_body (fn := Try.f8) Try.func8 rfl [] (by exact trivial) rfl (St.start w) ?_
  refine jc_seq ?_
  refine sc_region ?_
  refine so_pure (opv_assign (by rfl)) (by rfl) rfl ?_
  refine jo_nil ?_
  refine jk_then ?_
  refine jc_seq ?_
  refine sc_region ?_
  refine so_eff (eff_call0 (fl := []) (cl := []) (G := fun v New => ∃ bb ps, ps.length = 12 ∧ v = .pointer (some ⟨bb, 0, none⟩) ∧ New = [blk bb (.cells (ptrs ps).toArray 50 (0, 0)), grp (List.zipWith dkI ps (new12 12))]) (by rfl) (by rfl) tx9 (by exact fun w1 hw1 => (new_spec w1).mono (fun _ _ ⟨bb, ps, hl, hv, hst⟩ => ⟨_, ⟨bb, ps, hl, hv, rfl⟩, hst⟩))) (by rfl) rfl ?_
  rintro _ _ ⟨_, ⟨bb, ps, hlp, rfl, rfl⟩, rfl⟩
  rw [show new12 12 = (at3 E0) by kernel_rfl]
  refine so_pure (opv_assign (by rfl)) (by rfl) rfl ?_
  refine jo_nil ?_
  refine jk_then ?_
  refine jc_seq ?_
  refine jc_seq ?_
  refine sc_region ?_
  refine so_pure (opv_move (by rfl)) (by rfl) rfl ?_
  refine so_pure (opv_ptr_nil (by rfl) (by rfl) Try.underlying25) (by rfl) rfl ?_
  refine jo_nil ?_
  refine jk_then ?_
  refine sc_false (by rfl) rfl ?_
  refine jc_skip ?_
  refine jk_then ?_
  refine jc_seq ?_
  refine sc_region ?_
  refine so_pure (opv_move (by rfl)) (by rfl) rfl ?_
  refine so_eff (eff_callF [blk bb (.cells (ptrs ps).toArray 50 (0, 0)), grp (List.zipWith dkI ps (at3 E0))] (fl := []) (cl := []) (G := fun v Is' => v = .int .i64 (chk (at3 E0) 3 5 (⟨#[120, 121, 122]⟩ : ByteArray).size) ∧ Is' = [blk bb (.cells (ptrs ps).toArray 50 (0, 0)), grp (List.zipWith dkI ps (onD (at3 E0) 3 5 (⟨#[120, 121, 122]⟩ : ByteArray).size (fun D => { D with ws := D.ws ++ [⟨5, (⟨#[120, 121, 122]⟩ : ByteArray)⟩] })))]) (by rfl) (by rfl) tx10 (by repeat (first | exact Pks.nil _ | exact Pk.here _ | apply Pk.there | apply Pks.cons)) (by exact fun w1 hw1 => (write_spec 3 5 (⟨#[120, 121, 122]⟩ : ByteArray) hw1 hlp rfl (wb_at3 _ (by intro D' h; cases h; exact ⟨by simp, by intro x hx; simp at hx; try (subst hx; exact Nat.le_of_ble_eq_true rfl)⟩)) (by omega)).mono (fun _ _ ⟨hv, hst⟩ => ⟨_, ⟨hv, rfl⟩, hst⟩))) (by rfl) rfl ?_
  rintro _ _ ⟨_, ⟨rfl, rfl⟩, rfl⟩
  rw [show (onD (at3 E0) 3 5 (⟨#[120, 121, 122]⟩ : ByteArray).size (fun D => { D with ws := D.ws ++ [⟨5, (⟨#[120, 121, 122]⟩ : ByteArray)⟩] })) = (at3 (some ⟨[], [⟨5, (⟨#[120, 121, 122]⟩ : ByteArray)⟩]⟩)) by kernel_rfl]
  rw [show chk (at3 E0) 3 5 (⟨#[120, 121, 122]⟩ : ByteArray).size = 0 by kernel_rfl]
  refine so_pure (opv_assign (by rfl)) (by rfl) rfl ?_
  refine jo_nil ?_
  refine jk_then ?_
  refine jc_seq ?_
  refine sc_region ?_
  refine so_pure (opv_move (by rfl)) (by rfl) rfl ?_
  refine so_eff (eff_callF [blk bb (.cells (ptrs ps).toArray 50 (0, 0)), grp (List.zipWith dkI ps (at3 (some ⟨[], [⟨5, (⟨#[120, 121, 122]⟩ : ByteArray)⟩]⟩)))] (fl := []) (cl := []) (G := fun v Is' => v = .int .i64 (chk (at3 (some ⟨[], [⟨5, (⟨#[120, 121, 122]⟩ : ByteArray)⟩]⟩)) 3 0 0) ∧ Is' = [blk bb (.cells (ptrs ps).toArray 50 (0, 0)), grp (List.zipWith dkI ps (onD (at3 (some ⟨[], [⟨5, (⟨#[120, 121, 122]⟩ : ByteArray)⟩]⟩)) 3 0 0 (settleD (fun _ => some false))))]) (by rfl) (by rfl) tx11 (by repeat (first | exact Pks.nil _ | exact Pk.here _ | apply Pk.there | apply Pks.cons)) (by exact fun w1 hw1 => (flush_spec 3 hw1 hlp rfl (wb_at3 _ (by intro D' h; cases h; exact ⟨by simp, by intro x hx; simp at hx; try (subst hx; exact Nat.le_of_ble_eq_true rfl)⟩)) (by omega)).mono (fun _ _ ⟨hv, hst⟩ => ⟨_, ⟨hv, rfl⟩, hst⟩))) (by rfl) rfl ?_
  rintro _ _ ⟨_, ⟨rfl, rfl⟩, rfl⟩
  rw [show (onD (at3 (some ⟨[], [⟨5, (⟨#[120, 121, 122]⟩ : ByteArray)⟩]⟩)) 3 0 0 (settleD (fun _ => some false))) = (at3 (some ⟨[(5, (⟨#[120, 121, 122]⟩ : ByteArray))], []⟩)) by kernel_rfl]
  rw [show chk (at3 (some ⟨[], [⟨5, (⟨#[120, 121, 122]⟩ : ByteArray)⟩]⟩)) 3 0 0 = 0 by kernel_rfl]
  refine so_pure (opv_assign (by rfl)) (by rfl) rfl ?_
  refine jo_nil ?_
  refine jk_then ?_
  refine jc_seq ?_
  refine sc_region ?_
  refine so_pure (opv_move (by rfl)) (by rfl) rfl ?_
  refine so_eff (eff_callF [blk bb (.cells (ptrs ps).toArray 50 (0, 0)), grp (List.zipWith dkI ps (at3 (some ⟨[(5, (⟨#[120, 121, 122]⟩ : ByteArray))], []⟩)))] (fl := []) (cl := []) (G := fun v Is' => v = .int .i64 (chk (at3 (some ⟨[(5, (⟨#[120, 121, 122]⟩ : ByteArray))], []⟩)) 3 5 (⟨#[97, 98, 99, 100]⟩ : ByteArray).size) ∧ Is' = [blk bb (.cells (ptrs ps).toArray 50 (0, 0)), grp (List.zipWith dkI ps (onD (at3 (some ⟨[(5, (⟨#[120, 121, 122]⟩ : ByteArray))], []⟩)) 3 5 (⟨#[97, 98, 99, 100]⟩ : ByteArray).size (fun D => { D with ws := D.ws ++ [⟨5, (⟨#[97, 98, 99, 100]⟩ : ByteArray)⟩] })))]) (by rfl) (by rfl) tx10 (by repeat (first | exact Pks.nil _ | exact Pk.here _ | apply Pk.there | apply Pks.cons)) (by exact fun w1 hw1 => (write_spec 3 5 (⟨#[97, 98, 99, 100]⟩ : ByteArray) hw1 hlp rfl (wb_at3 _ (by intro D' h; cases h; exact ⟨by simp, by intro x hx; simp at hx; try (subst hx; exact Nat.le_of_ble_eq_true rfl)⟩)) (by omega)).mono (fun _ _ ⟨hv, hst⟩ => ⟨_, ⟨hv, rfl⟩, hst⟩))) (by rfl) rfl ?_
  rintro _ _ ⟨_, ⟨rfl, rfl⟩, rfl⟩
  rw [show (onD (at3 (some ⟨[(5, (⟨#[120, 121, 122]⟩ : ByteArray))], []⟩)) 3 5 (⟨#[97, 98, 99, 100]⟩ : ByteArray).size (fun D => { D with ws := D.ws ++ [⟨5, (⟨#[97, 98, 99, 100]⟩ : ByteArray)⟩] })) = (at3 (some ⟨[(5, (⟨#[120, 121, 122]⟩ : ByteArray))], [⟨5, (⟨#[97, 98, 99, 100]⟩ : ByteArray)⟩]⟩)) by kernel_rfl]
  rw [show chk (at3 (some ⟨[(5, (⟨#[120, 121, 122]⟩ : ByteArray))], []⟩)) 3 5 (⟨#[97, 98, 99, 100]⟩ : ByteArray).size = 0 by kernel_rfl]
  refine so_pure (opv_assign (by rfl)) (by rfl) rfl ?_
  refine jo_nil ?_
  refine jk_then ?_
  refine jc_seq ?_
  refine sc_region ?_
  refine so_pure (opv_move (by rfl)) (by rfl) rfl ?_
  refine so_eff (eff_callF [blk bb (.cells (ptrs ps).toArray 50 (0, 0)), grp (List.zipWith dkI ps (at3 (some ⟨[(5, (⟨#[120, 121, 122]⟩ : ByteArray))], [⟨5, (⟨#[97, 98, 99, 100]⟩ : ByteArray)⟩]⟩)))] (fl := []) (cl := []) (G := fun v Is' => v = .int .i64 (waitsD (at3 (some ⟨[(5, (⟨#[120, 121, 122]⟩ : ByteArray))], [⟨5, (⟨#[97, 98, 99, 100]⟩ : ByteArray)⟩]⟩)) 3) ∧ Is' = [blk bb (.cells (ptrs ps).toArray 50 (0, 0)), grp (List.zipWith dkI ps (at3 (some ⟨[(5, (⟨#[120, 121, 122]⟩ : ByteArray))], [⟨5, (⟨#[97, 98, 99, 100]⟩ : ByteArray)⟩]⟩)))]) (by rfl) (by rfl) tx15 (by repeat (first | exact Pks.nil _ | exact Pk.here _ | apply Pk.there | apply Pks.cons)) (by exact fun w1 hw1 => (waits_spec 3 hw1 hlp rfl ).mono (fun _ _ ⟨hv, hst⟩ => ⟨_, ⟨hv, rfl⟩, hst⟩))) (by rfl) rfl ?_
  rintro _ _ ⟨_, ⟨rfl, rfl⟩, rfl⟩
  rw [show waitsD (at3 (some ⟨[(5, (⟨#[120, 121, 122]⟩ : ByteArray))], [⟨5, (⟨#[97, 98, 99, 100]⟩ : ByteArray)⟩]⟩)) 3 = 1 by kernel_rfl]
  refine so_pure (opv_assign (by rfl)) (by rfl) rfl ?_
  refine jo_nil ?_
  refine jk_then ?_
  refine jc_seq ?_
  refine sc_region ?_
  refine so_pure (opv_move (by rfl)) (by rfl) rfl ?_
  refine so_eff (eff_callF [blk bb (.cells (ptrs ps).toArray 50 (0, 0)), grp (List.zipWith dkI ps (at3 (some ⟨[(5, (⟨#[120, 121, 122]⟩ : ByteArray))], [⟨5, (⟨#[97, 98, 99, 100]⟩ : ByteArray)⟩]⟩)))] (fl := []) (cl := []) (G := fun v Is' => ∃ b9 qs, qs.length = 12 ∧ v = .pointer (some ⟨b9, 0, none⟩) ∧ Is' = [blk b9 (.cells (ptrs qs).toArray 50 (0, 0)), grp (List.zipWith dkI qs (at3 (some ⟨[(5, (⟨#[120, 121, 122]⟩ : ByteArray))], [⟨5, (⟨#[97, 98, 99, 100]⟩ : ByteArray)⟩]⟩))), blk bb (.cells (ptrs ps).toArray 50 (0, 0)), grp (List.zipWith dkI ps (at3 (some ⟨[(5, (⟨#[120, 121, 122]⟩ : ByteArray))], [⟨5, (⟨#[97, 98, 99, 100]⟩ : ByteArray)⟩]⟩)))]) (by rfl) (by rfl) tx12 (by repeat (first | exact Pks.nil _ | exact Pk.here _ | apply Pk.there | apply Pks.cons)) (by exact fun w1 hw1 => (copy_spec hw1 hlp rfl (wb_at3 _ (by intro D' h; cases h; exact ⟨by simp, by intro x hx; simp at hx; try (subst hx; exact Nat.le_of_ble_eq_true rfl)⟩)) (by omega)).mono (fun _ _ ⟨b9, qs, hl, hv, hst⟩ => ⟨_, ⟨b9, qs, hl, hv, rfl⟩, hst⟩))) (by rfl) rfl ?_
  rintro _ _ ⟨_, ⟨b9, qs, hlq, rfl, rfl⟩, rfl⟩
  refine so_pure (opv_assign (by rfl)) (by rfl) rfl ?_
  refine jo_nil ?_
  refine jk_then ?_
  refine jc_seq ?_
  refine sc_region ?_
  refine so_pure (opv_move (by rfl)) (by rfl) rfl ?_
  refine so_eff (eff_buildSlice (by rfl) (fun w => by exact bsl23_1_0 ..)) (by rfl) rfl ?_
  rintro _ _ ⟨b34, rfl, rfl⟩
  refine so_eff (eff_buildSlice (by rfl) (fun w => by exact bsl23_1_0 ..)) (by rfl) rfl ?_
  rintro _ _ ⟨b35, rfl, rfl⟩
  refine so_eff (eff_callF [blk bb (.cells (ptrs ps).toArray 50 (0, 0)), grp (List.zipWith dkI ps (at3 (some ⟨[(5, (⟨#[120, 121, 122]⟩ : ByteArray))], [⟨5, (⟨#[97, 98, 99, 100]⟩ : ByteArray)⟩]⟩)))] (fl := []) (cl := []) (G := fun v Is' => v = .int .i64 0 ∧ Is' = [blk bb (.cells (ptrs ps).toArray 50 (0, 0)), grp (List.zipWith dkI ps (crashK ([true] : List Bool) ([true] : List Bool) (at3 (some ⟨[(5, (⟨#[120, 121, 122]⟩ : ByteArray))], [⟨5, (⟨#[97, 98, 99, 100]⟩ : ByteArray)⟩]⟩)) 12))]) (by rfl) (by rfl) tx13 (by repeat (first | exact Pks.nil _ | exact Pk.here _ | apply Pk.there | apply Pks.cons)) (by exact fun w1 hw1 => (crash_spec (some ⟨b34, 0, none⟩) (some ⟨b35, 0, none⟩) 1 1 1 1 ([true] : List Bool) ([true] : List Bool) hw1 hlp rfl (wb_at3 _ (by intro D' h; cases h; exact ⟨by simp, by intro x hx; simp at hx; try (subst hx; exact Nat.le_of_ble_eq_true rfl)⟩)) (by omega) (fun w1 hw1 => SlR.of_blk hw1 (by repeat (first | exact Pk.here _ | apply Pk.there)) rfl (arr_of_take bc_len rfl rfl)) (fun w1 hw1 => SlR.of_blk hw1 (by repeat (first | exact Pk.here _ | apply Pk.there)) rfl (arr_of_take bc_len rfl rfl))).mono (fun _ _ ⟨hv, hst⟩ => ⟨_, ⟨hv, rfl⟩, hst⟩))) (by rfl) rfl ?_
  rintro _ _ ⟨_, ⟨rfl, rfl⟩, rfl⟩
  rw [show crashK ([true] : List Bool) ([true] : List Bool) (at3 (some ⟨[(5, (⟨#[120, 121, 122]⟩ : ByteArray))], [⟨5, (⟨#[97, 98, 99, 100]⟩ : ByteArray)⟩]⟩)) 12 = (at3 (some ⟨[(5, (⟨#[97, 98]⟩ : ByteArray))], []⟩)) by kernel_rfl]
  refine so_pure (opv_assign (by rfl)) (by rfl) rfl ?_
  refine jo_nil ?_
  refine jk_then ?_
  refine jc_seq ?_
  refine sc_region ?_
  refine so_pure (opv_move (by rfl)) (by rfl) rfl ?_
  refine so_eff (eff_callF [blk bb (.cells (ptrs ps).toArray 50 (0, 0)), grp (List.zipWith dkI ps (at3 (some ⟨[(5, (⟨#[97, 98]⟩ : ByteArray))], []⟩)))] (fl := []) (cl := []) (G := fun v Is' => v = .tuple #[.string (rdD (at3 (some ⟨[(5, (⟨#[97, 98]⟩ : ByteArray))], []⟩)) 3 5), .int .i64 (chk (at3 (some ⟨[(5, (⟨#[97, 98]⟩ : ByteArray))], []⟩)) 3 5 0)] ∧ Is' = [blk bb (.cells (ptrs ps).toArray 50 (0, 0)), grp (List.zipWith dkI ps (at3 (some ⟨[(5, (⟨#[97, 98]⟩ : ByteArray))], []⟩)))]) (by rfl) (by rfl) tx14 (by repeat (first | exact Pks.nil _ | exact Pk.here _ | apply Pk.there | apply Pks.cons)) (by exact fun w1 hw1 => (read_spec 3 5 hw1 hlp rfl (wb_at3 _ (by intro D' h; cases h; exact ⟨by simp, by intro x hx; simp at hx; try (subst hx; exact Nat.le_of_ble_eq_true rfl)⟩)) (by omega)).mono (fun _ _ ⟨hv, hst⟩ => ⟨_, ⟨hv, rfl⟩, hst⟩))) (by rfl) rfl ?_
  rintro _ _ ⟨_, ⟨rfl, rfl⟩, rfl⟩
  rw [show rdD (at3 (some ⟨[(5, (⟨#[97, 98]⟩ : ByteArray))], []⟩)) 3 5 = (⟨#[97, 98]⟩ : ByteArray) by kernel_rfl]
  rw [show chk (at3 (some ⟨[(5, (⟨#[97, 98]⟩ : ByteArray))], []⟩)) 3 5 0 = 0 by kernel_rfl]
  refine so_pure (opv_move (by rfl)) (by rfl) rfl ?_
  refine so_pure (opv_extract (by rfl) (by rfl)) (by rfl) rfl ?_
  refine so_pure (opv_extract (by rfl) (by rfl)) (by rfl) rfl ?_
  refine so_pure (opv_assign (by rfl)) (by rfl) rfl ?_
  refine so_pure (opv_assign (by rfl)) (by rfl) rfl ?_
  refine jo_nil ?_
  refine jk_then ?_
  refine jc_seq ?_
  refine sc_region ?_
  refine so_pure (opv_move (by rfl)) (by rfl) rfl ?_
  refine so_eff (eff_callF [blk b9 (.cells (ptrs qs).toArray 50 (0, 0)), grp (List.zipWith dkI qs (at3 (some ⟨[(5, (⟨#[120, 121, 122]⟩ : ByteArray))], [⟨5, (⟨#[97, 98, 99, 100]⟩ : ByteArray)⟩]⟩)))] (fl := []) (cl := []) (G := fun v Is' => v = .int .i64 0 ∧ Is' = [blk b9 (.cells (ptrs qs).toArray 50 (0, 0)), grp (List.zipWith dkI qs (crashK ([] : List Bool) ([] : List Bool) (at3 (some ⟨[(5, (⟨#[120, 121, 122]⟩ : ByteArray))], [⟨5, (⟨#[97, 98, 99, 100]⟩ : ByteArray)⟩]⟩)) 12))]) (by rfl) (by rfl) tx13 (by repeat (first | exact Pks.nil _ | exact Pk.here _ | apply Pk.there | apply Pks.cons)) (by exact fun w1 hw1 => (crash_spec none none 0 0 0 0 ([] : List Bool) ([] : List Bool) hw1 hlq rfl (wb_at3 _ (by intro D' h; cases h; exact ⟨by simp, by intro x hx; simp at hx; try (subst hx; exact Nat.le_of_ble_eq_true rfl)⟩)) (by omega) (fun w1 _ => SlR.nil w1 4 none) (fun w1 _ => SlR.nil w1 4 none)).mono (fun _ _ ⟨hv, hst⟩ => ⟨_, ⟨hv, rfl⟩, hst⟩))) (by rfl) rfl ?_
  rintro _ _ ⟨_, ⟨rfl, rfl⟩, rfl⟩
  rw [show crashK ([] : List Bool) ([] : List Bool) (at3 (some ⟨[(5, (⟨#[120, 121, 122]⟩ : ByteArray))], [⟨5, (⟨#[97, 98, 99, 100]⟩ : ByteArray)⟩]⟩)) 12 = (at3 (some ⟨[(5, (⟨#[120, 121, 122]⟩ : ByteArray))], []⟩)) by kernel_rfl]
  refine jo_nil ?_
  refine jk_then ?_
  refine jc_seq ?_
  refine sc_region ?_
  refine so_pure (opv_move (by rfl)) (by rfl) rfl ?_
  refine so_eff (eff_callF [blk b9 (.cells (ptrs qs).toArray 50 (0, 0)), grp (List.zipWith dkI qs (at3 (some ⟨[(5, (⟨#[120, 121, 122]⟩ : ByteArray))], []⟩)))] (fl := []) (cl := []) (G := fun v Is' => v = .tuple #[.string (rdD (at3 (some ⟨[(5, (⟨#[120, 121, 122]⟩ : ByteArray))], []⟩)) 3 5), .int .i64 (chk (at3 (some ⟨[(5, (⟨#[120, 121, 122]⟩ : ByteArray))], []⟩)) 3 5 0)] ∧ Is' = [blk b9 (.cells (ptrs qs).toArray 50 (0, 0)), grp (List.zipWith dkI qs (at3 (some ⟨[(5, (⟨#[120, 121, 122]⟩ : ByteArray))], []⟩)))]) (by rfl) (by rfl) tx14 (by repeat (first | exact Pks.nil _ | exact Pk.here _ | apply Pk.there | apply Pks.cons)) (by exact fun w1 hw1 => (read_spec 3 5 hw1 hlq rfl (wb_at3 _ (by intro D' h; cases h; exact ⟨by simp, by intro x hx; simp at hx; try (subst hx; exact Nat.le_of_ble_eq_true rfl)⟩)) (by omega)).mono (fun _ _ ⟨hv, hst⟩ => ⟨_, ⟨hv, rfl⟩, hst⟩))) (by rfl) rfl ?_
  rintro _ _ ⟨_, ⟨rfl, rfl⟩, rfl⟩
  rw [show rdD (at3 (some ⟨[(5, (⟨#[120, 121, 122]⟩ : ByteArray))], []⟩)) 3 5 = (⟨#[120, 121, 122]⟩ : ByteArray) by kernel_rfl]
  refine so_pure (opv_move (by rfl)) (by rfl) rfl ?_
  refine so_pure (opv_extract (by rfl) (by rfl)) (by rfl) rfl ?_
  refine so_pure (opv_extract (by rfl) (by rfl)) (by rfl) rfl ?_
  refine so_pure (opv_assign (by rfl)) (by rfl) rfl ?_
  refine so_pure (opv_assign (by rfl)) (by rfl) rfl ?_
  refine jo_nil ?_
  refine jk_then ?_
  refine jc_seq ?_
  refine sc_region ?_
  refine so_pure (opv_move (by rfl)) (by rfl) rfl ?_
  refine so_eff (eff_callF [blk bb (.cells (ptrs ps).toArray 50 (0, 0)), grp (List.zipWith dkI ps (at3 (some ⟨[(5, (⟨#[97, 98]⟩ : ByteArray))], []⟩)))] (fl := []) (cl := []) (G := fun v Is' => ∃ ps', ps'.length = 12 ∧ v = .int .i64 (if inR 3 then 0 else 1) ∧ Is' = [blk bb (.cells (ptrs ps').toArray 50 (0, 0)), grp (List.zipWith dkI ps' (putD (at3 (some ⟨[(5, (⟨#[97, 98]⟩ : ByteArray))], []⟩)) 3 none))]) (by rfl) (by rfl) tx24 (by repeat (first | exact Pks.nil _ | exact Pk.here _ | apply Pk.there | apply Pks.cons)) (by exact fun w1 hw1 => (lose_spec 3 hw1 hlp rfl).mono (fun _ _ ⟨ps', hl, hv, hst⟩ => ⟨_, ⟨ps', hl, hv, rfl⟩, hst⟩))) (by rfl) rfl ?_
  rintro _ _ ⟨_, ⟨ps, hlp, rfl, rfl⟩, rfl⟩
  rw [show putD (at3 (some ⟨[(5, (⟨#[97, 98]⟩ : ByteArray))], []⟩)) 3 none = (at3 none) by kernel_rfl]
  refine so_pure (opv_assign (by rfl)) (by rfl) rfl ?_
  refine jo_nil ?_
  refine jk_then ?_
  refine jc_seq ?_
  refine sc_region ?_
  refine so_pure (opv_move (by rfl)) (by rfl) rfl ?_
  refine so_eff (eff_callF [blk bb (.cells (ptrs ps).toArray 50 (0, 0)), grp (List.zipWith dkI ps (at3 none))] (fl := []) (cl := []) (G := fun v Is' => v = .tuple #[.string (rdD (at3 none) 3 500), .int .i64 (chk (at3 none) 3 500 0)] ∧ Is' = [blk bb (.cells (ptrs ps).toArray 50 (0, 0)), grp (List.zipWith dkI ps (at3 none))]) (by rfl) (by rfl) tx14 (by repeat (first | exact Pks.nil _ | exact Pk.here _ | apply Pk.there | apply Pks.cons)) (by exact fun w1 hw1 => (read_spec 3 500 hw1 hlp rfl (wb_at3 _ (by intro D' h; cases h)) (by omega)).mono (fun _ _ ⟨hv, hst⟩ => ⟨_, ⟨hv, rfl⟩, hst⟩))) (by rfl) rfl ?_
  rintro _ _ ⟨_, ⟨rfl, rfl⟩, rfl⟩
  rw [show chk (at3 none) 3 500 0 = 6 by kernel_rfl]
  refine so_pure (opv_move (by rfl)) (by rfl) rfl ?_
  refine so_pure (opv_extract (by rfl) (by rfl)) (by rfl) rfl ?_
  refine so_pure (opv_extract (by rfl) (by rfl)) (by rfl) rfl ?_
  refine so_pure (opv_assign (by rfl)) (by rfl) rfl ?_
  refine so_pure (opv_assign (by rfl)) (by rfl) rfl ?_
  refine jo_nil ?_
  refine jk_then ?_
  refine jc_seq ?_
  refine sc_region ?_
  refine so_pure (opv_move (by rfl)) (by rfl) rfl ?_
  refine so_eff (eff_callF [blk bb (.cells (ptrs ps).toArray 50 (0, 0)), grp (List.zipWith dkI ps (at3 none))] (fl := []) (cl := []) (G := fun v Is' => ∃ ps', ps'.length = 12 ∧ v = .int .i64 (if inR 3 then 0 else 1) ∧ Is' = [blk bb (.cells (ptrs ps').toArray 50 (0, 0)), grp (List.zipWith dkI ps' (putD (at3 none) 3 (some ⟨[], []⟩)))]) (by rfl) (by rfl) tx25 (by repeat (first | exact Pks.nil _ | exact Pk.here _ | apply Pk.there | apply Pks.cons)) (by exact fun w1 hw1 => (replace_spec 3 hw1 hlp rfl).mono (fun _ _ ⟨ps', hl, hv, hst⟩ => ⟨_, ⟨ps', hl, hv, rfl⟩, hst⟩))) (by rfl) rfl ?_
  rintro _ _ ⟨_, ⟨ps, hlp, rfl, rfl⟩, rfl⟩
  rw [show putD (at3 none) 3 (some ⟨[], []⟩) = (at3 E0) by kernel_rfl]
  refine so_pure (opv_assign (by rfl)) (by rfl) rfl ?_
  refine jo_nil ?_
  refine jk_then ?_
  refine jc_seq ?_
  refine sc_region ?_
  refine so_pure (opv_move (by rfl)) (by rfl) rfl ?_
  refine so_eff (eff_callF [blk bb (.cells (ptrs ps).toArray 50 (0, 0)), grp (List.zipWith dkI ps (at3 E0))] (fl := []) (cl := []) (G := fun v Is' => v = .tuple #[.string (rdD (at3 E0) 3 5), .int .i64 (chk (at3 E0) 3 5 0)] ∧ Is' = [blk bb (.cells (ptrs ps).toArray 50 (0, 0)), grp (List.zipWith dkI ps (at3 E0))]) (by rfl) (by rfl) tx14 (by repeat (first | exact Pks.nil _ | exact Pk.here _ | apply Pk.there | apply Pks.cons)) (by exact fun w1 hw1 => (read_spec 3 5 hw1 hlp rfl (wb_at3 _ (by intro D' h; cases h; exact ⟨by simp, by intro x hx; simp at hx; try (subst hx; exact Nat.le_of_ble_eq_true rfl)⟩)) (by omega)).mono (fun _ _ ⟨hv, hst⟩ => ⟨_, ⟨hv, rfl⟩, hst⟩))) (by rfl) rfl ?_
  rintro _ _ ⟨_, ⟨rfl, rfl⟩, rfl⟩
  rw [show rdD (at3 E0) 3 5 = (⟨#[]⟩ : ByteArray) by kernel_rfl]
  refine so_pure (opv_move (by rfl)) (by rfl) rfl ?_
  refine so_pure (opv_extract (by rfl) (by rfl)) (by rfl) rfl ?_
  refine so_pure (opv_extract (by rfl) (by rfl)) (by rfl) rfl ?_
  refine so_pure (opv_assign (by rfl)) (by rfl) rfl ?_
  refine so_pure (opv_assign (by rfl)) (by rfl) rfl ?_
  refine jo_nil ?_
  refine jk_then ?_
  refine jc_seq ?_
  refine sc_region ?_
  refine so_pure (opv_move (by rfl)) (by rfl) rfl ?_
  refine so_eff (eff_callF [blk bb (.cells (ptrs ps).toArray 50 (0, 0)), grp (List.zipWith dkI ps (at3 E0))] (fl := []) (cl := []) (G := fun v Is' => v = .tuple #[.string (rdD (at3 E0) 12 0), .int .i64 (chk (at3 E0) 12 0 0)] ∧ Is' = [blk bb (.cells (ptrs ps).toArray 50 (0, 0)), grp (List.zipWith dkI ps (at3 E0))]) (by rfl) (by rfl) tx14 (by repeat (first | exact Pks.nil _ | exact Pk.here _ | apply Pk.there | apply Pks.cons)) (by exact fun w1 hw1 => (read_spec 12 0 hw1 hlp rfl (wb_at3 _ (by intro D' h; cases h; exact ⟨by simp, by intro x hx; simp at hx; try (subst hx; exact Nat.le_of_ble_eq_true rfl)⟩)) (by omega)).mono (fun _ _ ⟨hv, hst⟩ => ⟨_, ⟨hv, rfl⟩, hst⟩))) (by rfl) rfl ?_
  rintro _ _ ⟨_, ⟨rfl, rfl⟩, rfl⟩
  rw [show chk (at3 E0) 12 0 0 = 1 by kernel_rfl]
  refine so_pure (opv_move (by rfl)) (by rfl) rfl ?_
  refine so_pure (opv_extract (by rfl) (by rfl)) (by rfl) rfl ?_
  refine so_pure (opv_extract (by rfl) (by rfl)) (by rfl) rfl ?_
  refine so_pure (opv_assign (by rfl)) (by rfl) rfl ?_
  refine so_pure (opv_assign (by rfl)) (by rfl) rfl ?_
  refine jo_nil ?_
  refine jk_then ?_
  refine jc_seq ?_
  refine sc_region ?_
  refine so_pure (opv_move (by rfl)) (by rfl) rfl ?_
  refine so_pure (opv_cmp (by rfl) (by rfl) (by rfl)) (by rfl) rfl ?_
  refine so_pure (opv_move (by rfl)) (by rfl) rfl ?_
  refine so_pure (opv_move (by rfl)) (wtd_run rfl rfl (by rfl) rfl) rfl ?_
  refine so_pure (opv_cmp (by rfl) (by rfl) (by rfl)) (wtd_run rfl rfl (by rfl) rfl) rfl ?_
  refine so_pure (sv_pick_t (by rfl) rfl (by rfl)) (by rfl) rfl ?_
  refine so_pure (opv_move (by rfl)) (by rfl) rfl ?_
  refine so_pure (opv_move (by rfl)) (wtd_run rfl rfl (by rfl) rfl) rfl ?_
  refine so_pure (opv_cmp (by rfl) (by rfl) (by rfl)) (wtd_run rfl rfl (by rfl) rfl) rfl ?_
  refine so_pure (sv_pick_t (by rfl) rfl (by rfl)) (by rfl) rfl ?_
  refine so_pure (opv_move (by rfl)) (by rfl) rfl ?_
  refine so_pure (opv_move (by rfl)) (wtd_run rfl rfl (by rfl) rfl) rfl ?_
  refine so_pure (opv_cmp (by rfl) (by rfl) (by rfl)) (wtd_run rfl rfl (by rfl) rfl) rfl ?_
  refine so_pure (sv_pick_t (by rfl) rfl (by rfl)) (by rfl) rfl ?_
  refine so_pure (opv_move (by rfl)) (by rfl) rfl ?_
  refine so_pure (opv_move (by rfl)) (wtd_run rfl rfl (by rfl) rfl) rfl ?_
  refine so_pure (opv_cmp (by rfl) (by rfl) (by rfl)) (wtd_run rfl rfl (by rfl) rfl) rfl ?_
  refine so_pure (sv_pick_t (by rfl) rfl (by rfl)) (by rfl) rfl ?_
  refine so_pure (opv_move (by rfl)) (by rfl) rfl ?_
  refine so_pure (opv_move (by rfl)) (wtd_run rfl rfl (by rfl) rfl) rfl ?_
  refine so_pure (opv_seq_true (by rfl) (by rfl) rfl) (wtd_run rfl rfl (by rfl) rfl) rfl ?_
  refine so_pure (sv_pick_t (by rfl) rfl (by rfl)) (by rfl) rfl ?_
  refine so_pure (opv_move (by rfl)) (by rfl) rfl ?_
  refine so_pure (opv_move (by rfl)) (wtd_run rfl rfl (by rfl) rfl) rfl ?_
  refine so_pure (opv_cmp (by rfl) (by rfl) (by rfl)) (wtd_run rfl rfl (by rfl) rfl) rfl ?_
  refine so_pure (sv_pick_t (by rfl) rfl (by rfl)) (by rfl) rfl ?_
  refine so_pure (opv_move (by rfl)) (by rfl) rfl ?_
  refine so_pure (opv_move (by rfl)) (wtd_run rfl rfl (by rfl) rfl) rfl ?_
  refine so_pure (opv_seq_true (by rfl) (by rfl) rfl) (wtd_run rfl rfl (by rfl) rfl) rfl ?_
  refine so_pure (sv_pick_t (by rfl) rfl (by rfl)) (by rfl) rfl ?_
  refine so_pure (opv_move (by rfl)) (by rfl) rfl ?_
  refine so_pure (opv_move (by rfl)) (wtd_run rfl rfl (by rfl) rfl) rfl ?_
  refine so_pure (opv_cmp (b := true) (by rfl) (by rfl) (by rfl)) (wtd_run rfl rfl (by rfl) rfl) rfl ?_
  refine so_pure (sv_pick_t (by rfl) rfl (by rfl)) (by rfl) rfl ?_
  refine so_pure (opv_move (by rfl)) (by rfl) rfl ?_
  refine so_pure (opv_move (by rfl)) (wtd_run rfl rfl (by rfl) rfl) rfl ?_
  refine so_pure (opv_cmp (by rfl) (by rfl) (by rfl)) (wtd_run rfl rfl (by rfl) rfl) rfl ?_
  refine so_pure (sv_pick_t (by rfl) rfl (by rfl)) (by rfl) rfl ?_
  refine so_pure (opv_move (by rfl)) (by rfl) rfl ?_
  refine so_pure (opv_move (by rfl)) (wtd_run rfl rfl (by rfl) rfl) rfl ?_
  refine so_pure (opv_cmp (b := true) (by rfl) (by rfl) (by rfl)) (wtd_run rfl rfl (by rfl) rfl) rfl ?_
  refine so_pure (sv_pick_t (by rfl) rfl (by rfl)) (by rfl) rfl ?_
  refine so_pure (opv_move (by rfl)) (by rfl) rfl ?_
  refine so_pure (opv_move (by rfl)) (wtd_run rfl rfl (by rfl) rfl) rfl ?_
  refine so_pure (opv_seq_true (by rfl) (by rfl) rfl) (wtd_run rfl rfl (by rfl) rfl) rfl ?_
  refine so_pure (sv_pick_t (by rfl) rfl (by rfl)) (by rfl) rfl ?_
  refine so_pure (opv_move (by rfl)) (by rfl) rfl ?_
  refine so_pure (opv_move (by rfl)) (wtd_run rfl rfl (by rfl) rfl) rfl ?_
  refine so_pure (opv_cmp (by rfl) (by rfl) (by rfl)) (wtd_run rfl rfl (by rfl) rfl) rfl ?_
  refine so_pure (sv_pick_t (by rfl) rfl (by rfl)) (by rfl) rfl ?_
  refine so_pure (opv_move (by rfl)) (by rfl) rfl ?_
  refine so_pure (opv_move (by rfl)) (wtd_run rfl rfl (by rfl) rfl) rfl ?_
  refine so_eff (eff_callF [blk bb (.cells (ptrs ps).toArray 50 (0, 0)), grp (List.zipWith dkI ps (at3 E0))] (fl := []) (cl := []) (G := fun v Is' => Is' = [own v 3 1 (liveK (at3 E0) 12).length ((liveK (at3 E0) 12).flatMap ic), blk bb (.cells (ptrs ps).toArray 50 (0, 0)), grp (List.zipWith dkI ps (at3 E0))]) (by rfl) (by rfl) tx19 (by repeat (first | exact Pks.nil _ | exact Pk.here _ | apply Pk.there | apply Pks.cons)) (by exact fun w1 hw1 => (live19_spec hw1 hlp rfl).mono (fun _ _ hst => ⟨_, rfl, hst⟩))) (wtd_run rfl rfl (by rfl) rfl) rfl ?_
  rintro lv _ ⟨_, rfl, rfl⟩
  refine so_pure (opv_len_own (v := lv) (by rfl) Try.underlying42 (by repeat (first | exact Pk.here _ | apply Pk.there))) (wtd_run rfl rfl (by rfl) rfl) rfl ?_
  refine so_pure (opv_cmp (b := true) (by rfl) (by rfl) (by rfl)) (wtd_run rfl rfl (by rfl) rfl) rfl ?_
  refine so_pure (sv_pick_t (by rfl) rfl (by rfl)) (by rfl) rfl ?_
  refine so_pure (opv_assign (by rfl)) (by rfl) rfl ?_
  refine jo_nil ?_
  refine jk_then ?_
  refine jc_ret ?_
  refine jk_fn_ret rfl rfl (by rfl) (fun w hw => ?_)
  exact ⟨rfl, hw.forget⟩
end Go.Disks
