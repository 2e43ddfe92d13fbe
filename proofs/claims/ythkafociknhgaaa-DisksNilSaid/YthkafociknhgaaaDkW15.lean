/- A part of a proof for the laws of the seat Ythkafociknhgaaa; it has no conditions of its own. -/
import Derived.Test.YthkafociknhgaaaDkW14
namespace Go.Disks
open Go Go.SL Go.Proofs
set_option maxHeartbeats 4000000 in
theorem disk_nil (w : World) (d n : Int) (s : ByteArray) : Does Try.prog 27 #[.pointer none, .int .i64 d, .int .i64 n, .string s] w (fun v w' => v = .tuple #[.pointer none, .int .i64 1] ∧ St w Emp [] w') := by
  refine fn_body (fn := Try.f27) Try.func27 rfl [(0, .pointer none), (1, .int .i64 d), (2, .int .i64 n), (3, .string s)] (by exact ⟨rfl, rfl, rfl, rfl, trivial⟩) rfl (St.start w) ?_
  refine jc_seq ?_
  refine sc_region ?_
  refine so_pure (opv_assign (by rfl)) (by rfl) rfl ?_
  refine so_pure (opv_assign (by rfl)) (by rfl) rfl ?_
  refine jo_nil ?_
  refine jk_then ?_
  refine jc_seq ?_
  refine jc_block ?_
  refine jc_seq ?_
  refine sc_region ?_
  refine so_pure (opv_move (by rfl)) (by rfl) rfl ?_
  refine so_pure (opv_move (by rfl)) (by rfl) rfl ?_
  refine so_eff (eff_call0 (fl := []) (cl := []) (G := fun v New => v = .bool false ∧ New = []) (by rfl) (by rfl) tx37 (by exact fun w1 hw1 => (number_nil w1 d).mono (fun _ _ ⟨hv, hst⟩ => ⟨[], ⟨hv, rfl⟩, hst⟩))) (by rfl) rfl ?_
  rintro _ _ ⟨_, ⟨rfl, rfl⟩, rfl⟩
  refine so_pure (opv_not (by rfl)) (by rfl) rfl ?_
  refine so_pure (opv_assign (by rfl)) (by rfl) rfl ?_
  refine jo_nil ?_
  refine jk_then ?_
  refine sc_true (by rfl) rfl ?_
  refine jc_seq ?_
  refine sc_region ?_
  refine so_pure (opv_assign (by rfl)) (by rfl) rfl ?_
  refine so_pure (opv_assign (by rfl)) (by rfl) rfl ?_
  refine jo_nil ?_
  refine jk_then ?_
  refine jc_ret ?_
  refine jk_block_ret ?_
  refine jk_then_ret ?_
  refine jk_fn_ret2 rfl rfl (by rfl) (by rfl) (fun w hw => ?_)
  exact ⟨rfl, hw.forget⟩
set_option maxHeartbeats 4000000 in
theorem write_nil (w : World) (d n : Int) (s : ByteArray) : Does Try.prog 10 #[.pointer none, .int .i64 d, .int .i64 n, .string s] w (fun v w' => v = .int .i64 1 ∧ St w Emp [] w') := by
  refine fn_body (fn := Try.f10) Try.func10 rfl [(0, .pointer none), (1, .int .i64 d), (2, .int .i64 n), (3, .string s)] (by exact ⟨rfl, rfl, rfl, rfl, trivial⟩) rfl (St.start w) ?_
  refine jc_seq ?_
  refine sc_region ?_
  refine so_pure (opv_assign (by rfl)) (by rfl) rfl ?_
  refine jo_nil ?_
  refine jk_then ?_
  refine jc_seq ?_
  refine sc_region ?_
  refine so_pure (opv_move (by rfl)) (by rfl) rfl ?_
  refine so_pure (opv_move (by rfl)) (by rfl) rfl ?_
  refine so_pure (opv_move (by rfl)) (by rfl) rfl ?_
  refine so_pure (opv_move (by rfl)) (by rfl) rfl ?_
  refine so_eff (eff_call0 (fl := []) (cl := []) (G := fun v New => v = .tuple #[.pointer none, .int .i64 1] ∧ New = []) (by rfl) (by rfl) tx27 (by exact fun w1 _ => (disk_nil w1 d n s).mono (fun _ _ ⟨hv, hst⟩ => ⟨[], ⟨hv, rfl⟩, hst⟩))) (by rfl) rfl ?_
  rintro _ _ ⟨_, ⟨rfl, rfl⟩, rfl⟩
  refine so_pure (opv_move (by rfl)) (by rfl) rfl ?_
  refine so_pure (opv_extract (by rfl) (by rfl)) (by rfl) rfl ?_
  refine so_pure (opv_extract (by rfl) (by rfl)) (by rfl) rfl ?_
  refine so_pure (opv_assign (by rfl)) (by rfl) rfl ?_
  refine so_pure (opv_assign (by rfl)) (by rfl) rfl ?_
  refine jo_nil ?_
  refine jk_then ?_
  refine jc_seq ?_
  refine jc_seq ?_
  refine sc_region ?_
  refine so_pure (opv_move (by rfl)) (by rfl) rfl ?_
  refine so_pure (opv_cmp (by rfl) (by rfl) (by rfl)) (by rfl) rfl ?_
  refine jo_nil ?_
  refine jk_then ?_
  refine sc_false (by rfl) rfl ?_
  refine jc_skip ?_
  refine jk_then ?_
  refine jc_seq ?_
  refine sc_region ?_
  refine so_pure (opv_move (by rfl)) (by rfl) rfl ?_
  refine so_pure (opv_assign (by rfl)) (by rfl) rfl ?_
  refine jo_nil ?_
  refine jk_then ?_
  refine jc_ret ?_
  refine jk_fn_ret rfl rfl (by rfl) (fun w hw => ?_)
  exact ⟨rfl, hw.forget⟩
set_option maxHeartbeats 4000000 in
theorem flush_nil (w : World) (d : Int) : Does Try.prog 11 #[.pointer none, .int .i64 d] w (fun v w' => v = .int .i64 1 ∧ St w Emp [] w') := by
  refine fn_body (fn := Try.f11) Try.func11 rfl [(0, .pointer none), (1, .int .i64 d)] (by exact ⟨rfl, rfl, trivial⟩) rfl (St.start w) ?_
  refine jc_seq ?_
  refine sc_region ?_
  refine so_pure (opv_assign (by rfl)) (by rfl) rfl ?_
  refine jo_nil ?_
  refine jk_then ?_
  refine jc_seq ?_
  refine sc_region ?_
  refine so_pure (opv_move (by rfl)) (by rfl) rfl ?_
  refine so_pure (opv_move (by rfl)) (by rfl) rfl ?_
  refine so_eff (eff_call0 (fl := []) (cl := []) (G := fun v New => v = .tuple #[.pointer none, .int .i64 1] ∧ New = []) (by rfl) (by rfl) tx27 (by exact fun w1 _ => (disk_nil w1 d 0 ⟨#[]⟩).mono (fun _ _ ⟨hv, hst⟩ => ⟨[], ⟨hv, rfl⟩, hst⟩))) (by rfl) rfl ?_
  rintro _ _ ⟨_, ⟨rfl, rfl⟩, rfl⟩
  refine so_pure (opv_move (by rfl)) (by rfl) rfl ?_
  refine so_pure (opv_extract (by rfl) (by rfl)) (by rfl) rfl ?_
  refine so_pure (opv_extract (by rfl) (by rfl)) (by rfl) rfl ?_
  refine so_pure (opv_assign (by rfl)) (by rfl) rfl ?_
  refine so_pure (opv_assign (by rfl)) (by rfl) rfl ?_
  refine jo_nil ?_
  refine jk_then ?_
  refine jc_seq ?_
  refine jc_seq ?_
  refine sc_region ?_
  refine so_pure (opv_move (by rfl)) (by rfl) rfl ?_
  refine so_pure (opv_cmp (by rfl) (by rfl) (by rfl)) (by rfl) rfl ?_
  refine jo_nil ?_
  refine jk_then ?_
  refine sc_false (by rfl) rfl ?_
  refine jc_skip ?_
  refine jk_then ?_
  refine jc_seq ?_
  refine sc_region ?_
  refine so_pure (opv_move (by rfl)) (by rfl) rfl ?_
  refine so_pure (opv_assign (by rfl)) (by rfl) rfl ?_
  refine jo_nil ?_
  refine jk_then ?_
  refine jc_ret ?_
  refine jk_fn_ret rfl rfl (by rfl) (fun w hw => ?_)
  exact ⟨rfl, hw.forget⟩
set_option maxHeartbeats 4000000 in
theorem spoil_nil (w : World) (d n : Int) (s : ByteArray) : Does Try.prog 23 #[.pointer none, .int .i64 d, .int .i64 n, .string s] w (fun v w' => v = .int .i64 1 ∧ St w Emp [] w') := by
  refine fn_body (fn := Try.f23) Try.func23 rfl [(0, .pointer none), (1, .int .i64 d), (2, .int .i64 n), (3, .string s)] (by exact ⟨rfl, rfl, rfl, rfl, trivial⟩) rfl (St.start w) ?_
  refine jc_seq ?_
  refine sc_region ?_
  refine so_eff (eff_box (by rfl) rfl) (by rfl) rfl ?_
  rintro _ _ ⟨b6, rfl, rfl⟩
  refine so_pure (opv_assign (by rfl)) (by rfl) rfl ?_
  refine jo_nil ?_
  refine jk_then ?_
  refine jc_seq ?_
  refine sc_region ?_
  refine so_pure (opv_move (by rfl)) (by rfl) rfl ?_
  refine so_pure (opv_move (by rfl)) (by rfl) rfl ?_
  refine so_pure (opv_load (by rfl) na3 (rd_pk (by repeat (first | exact Pk.here _ | apply Pk.there))) (by rfl)) (by rfl) rfl ?_
  refine so_pure (opv_move (by rfl)) (by rfl) rfl ?_
  refine so_eff (eff_call0 (fl := []) (cl := []) (G := fun v New => v = .tuple #[.pointer none, .int .i64 1] ∧ New = []) (by rfl) (by rfl) tx27 (by exact fun w1 _ => (disk_nil w1 d n s).mono (fun _ _ ⟨hv, hst⟩ => ⟨[], ⟨hv, rfl⟩, hst⟩))) (by rfl) rfl ?_
  rintro _ _ ⟨_, ⟨rfl, rfl⟩, rfl⟩
  refine so_pure (opv_move (by rfl)) (by rfl) rfl ?_
  refine so_pure (opv_extract (by rfl) (by rfl)) (by rfl) rfl ?_
  refine so_pure (opv_extract (by rfl) (by rfl)) (by rfl) rfl ?_
  refine so_pure (opv_assign (by rfl)) (by rfl) rfl ?_
  refine so_pure (opv_assign (by rfl)) (by rfl) rfl ?_
  refine jo_nil ?_
  refine jk_then ?_
  refine jc_seq ?_
  refine jc_seq ?_
  refine sc_region ?_
  refine so_pure (opv_move (by rfl)) (by rfl) rfl ?_
  refine so_pure (opv_cmp (by rfl) (by rfl) (by rfl)) (by rfl) rfl ?_
  refine jo_nil ?_
  refine jk_then ?_
  refine sc_false (by rfl) rfl ?_
  refine jc_skip ?_
  refine jk_then ?_
  refine jc_seq ?_
  refine sc_region ?_
  refine so_pure (opv_move (by rfl)) (by rfl) rfl ?_
  refine so_pure (opv_assign (by rfl)) (by rfl) rfl ?_
  refine jo_nil ?_
  refine jk_then ?_
  refine jc_ret ?_
  refine jk_fn_ret rfl rfl (by rfl) (fun w hw => ?_)
  exact ⟨rfl, hw.forget⟩
set_option maxHeartbeats 4000000 in
theorem lose_nil (w : World) (d : Int) : Does Try.prog 24 #[.pointer none, .int .i64 d] w (fun v w' => v = .int .i64 1 ∧ St w Emp [] w') := by
  refine fn_body (fn := Try.f24) Try.func24 rfl [(0, .pointer none), (1, .int .i64 d)] (by exact ⟨rfl, rfl, trivial⟩) rfl (St.start w) ?_
  refine jc_seq ?_
  refine sc_region ?_
  refine so_pure (opv_assign (by rfl)) (by rfl) rfl ?_
  refine jo_nil ?_
  refine jk_then ?_
  refine jc_seq ?_
  refine jc_seq ?_
  refine sc_region ?_
  refine so_pure (opv_move (by rfl)) (by rfl) rfl ?_
  refine so_pure (opv_move (by rfl)) (by rfl) rfl ?_
  refine so_eff (eff_call0 (fl := []) (cl := []) (G := fun v New => v = .bool false ∧ New = []) (by rfl) (by rfl) tx37 (by exact fun w1 hw1 => (number_nil w1 d).mono (fun _ _ ⟨hv, hst⟩ => ⟨[], ⟨hv, rfl⟩, hst⟩))) (by rfl) rfl ?_
  rintro _ _ ⟨_, ⟨rfl, rfl⟩, rfl⟩
  refine so_pure (opv_not (by rfl)) (by rfl) rfl ?_
  refine jo_nil ?_
  refine jk_then ?_
  refine sc_true (by rfl) rfl ?_
  refine jc_seq ?_
  refine sc_region ?_
  refine so_pure (opv_assign (by rfl)) (by rfl) rfl ?_
  refine jo_nil ?_
  refine jk_then ?_
  refine jc_ret ?_
  refine jk_then_ret ?_
  refine jk_fn_ret rfl rfl (by rfl) (fun w hw => ?_)
  exact ⟨rfl, hw.forget⟩
set_option maxHeartbeats 4000000 in
theorem replace_nil (w : World) (d : Int) : Does Try.prog 25 #[.pointer none, .int .i64 d] w (fun v w' => v = .int .i64 1 ∧ St w Emp [] w') := by
  refine fn_body (fn := Try.f25) Try.func25 rfl [(0, .pointer none), (1, .int .i64 d)] (by exact ⟨rfl, rfl, trivial⟩) rfl (St.start w) ?_
  refine jc_seq ?_
  refine sc_region ?_
  refine so_pure (opv_assign (by rfl)) (by rfl) rfl ?_
  refine jo_nil ?_
  refine jk_then ?_
  refine jc_seq ?_
  refine jc_seq ?_
  refine sc_region ?_
  refine so_pure (opv_move (by rfl)) (by rfl) rfl ?_
  refine so_pure (opv_move (by rfl)) (by rfl) rfl ?_
  refine so_eff (eff_call0 (fl := []) (cl := []) (G := fun v New => v = .bool false ∧ New = []) (by rfl) (by rfl) tx37 (by exact fun w1 hw1 => (number_nil w1 d).mono (fun _ _ ⟨hv, hst⟩ => ⟨[], ⟨hv, rfl⟩, hst⟩))) (by rfl) rfl ?_
  rintro _ _ ⟨_, ⟨rfl, rfl⟩, rfl⟩
  refine so_pure (opv_not (by rfl)) (by rfl) rfl ?_
  refine jo_nil ?_
  refine jk_then ?_
  refine sc_true (by rfl) rfl ?_
  refine jc_seq ?_
  refine sc_region ?_
  refine so_pure (opv_assign (by rfl)) (by rfl) rfl ?_
  refine jo_nil ?_
  refine jk_then ?_
  refine jc_ret ?_
  refine jk_then_ret ?_
  refine jk_fn_ret rfl rfl (by rfl) (fun w hw => ?_)
  exact ⟨rfl, hw.forget⟩
set_option maxHeartbeats 4000000 in
theorem waits_nil (w : World) (d : Int) : Does Try.prog 15 #[.pointer none, .int .i64 d] w (fun v w' => v = .int .i64 0 ∧ St w Emp [] w') := by
  refine fn_body (fn := Try.f15) Try.func15 rfl [(0, .pointer none), (1, .int .i64 d)] (by exact ⟨rfl, rfl, trivial⟩) rfl (St.start w) ?_
  refine jc_seq ?_
  refine sc_region ?_
  refine so_pure (opv_assign (by rfl)) (by rfl) rfl ?_
  refine jo_nil ?_
  refine jk_then ?_
  refine jc_seq ?_
  refine jc_seq ?_
  refine sc_region ?_
  refine so_pure (opv_move (by rfl)) (by rfl) rfl ?_
  refine so_pure (opv_move (by rfl)) (by rfl) rfl ?_
  refine so_eff (eff_call0 (fl := []) (cl := []) (G := fun v New => v = .bool false ∧ New = []) (by rfl) (by rfl) tx37 (by exact fun w1 hw1 => (number_nil w1 d).mono (fun _ _ ⟨hv, hst⟩ => ⟨[], ⟨hv, rfl⟩, hst⟩))) (by rfl) rfl ?_
  rintro _ _ ⟨_, ⟨rfl, rfl⟩, rfl⟩
  refine so_pure (opv_not (by rfl)) (by rfl) rfl ?_
  refine jo_nil ?_
  refine jk_then ?_
  refine sc_true (by rfl) rfl ?_
  refine jc_seq ?_
  refine sc_region ?_
  refine so_pure (opv_assign (by rfl)) (by rfl) rfl ?_
  refine jo_nil ?_
  refine jk_then ?_
  refine jc_ret ?_
  refine jk_then_ret ?_
  refine jk_fn_ret rfl rfl (by rfl) (fun w hw => ?_)
  exact ⟨rfl, hw.forget⟩
set_option maxHeartbeats 4000000 in
theorem crash_nil (w : World) : Does Try.prog 13 #[.pointer none, .slice none 0 0, .slice none 0 0] w (fun v w' => v = .int .i64 1 ∧ St w Emp [] w') := by
  refine fn_body (fn := Try.f13) Try.func13 rfl [(0, .pointer none), (1, .slice none 0 0), (2, .slice none 0 0)] (by exact ⟨rfl, rfl, rfl, trivial⟩) rfl (St.start w) ?_
  refine jc_seq ?_
  refine sc_region ?_
  refine so_eff (eff_box (by rfl) rfl) (by rfl) rfl ?_
  rintro _ _ ⟨b4, rfl, rfl⟩
  refine so_eff (eff_box (by rfl) rfl) (by rfl) rfl ?_
  rintro _ _ ⟨b5, rfl, rfl⟩
  refine so_pure (opv_assign (by rfl)) (by rfl) rfl ?_
  refine jo_nil ?_
  refine jk_then ?_
  refine jc_seq ?_
  refine jc_seq ?_
  refine sc_region ?_
  refine so_pure (opv_move (by rfl)) (by rfl) rfl ?_
  refine so_pure (opv_ptr_nil (by rfl) (by rfl) Try.underlying25) (by rfl) rfl ?_
  refine jo_nil ?_
  refine jk_then ?_
  refine sc_true (by rfl) rfl ?_
  refine jc_seq ?_
  refine sc_region ?_
  refine so_pure (opv_assign (by rfl)) (by rfl) rfl ?_
  refine jo_nil ?_
  refine jk_then ?_
  refine jc_ret ?_
  refine jk_then_ret ?_
  refine jk_fn_ret rfl rfl (by rfl) (fun w hw => ?_)
  exact ⟨rfl, hw.forget⟩
set_option maxHeartbeats 4000000 in
theorem copy_nil (w : World) : Does Try.prog 12 #[.pointer none] w (fun v w' => v = .pointer none ∧ St w Emp [] w') := by
  refine fn_body (fn := Try.f12) Try.func12 rfl [(0, .pointer none)] (by exact ⟨rfl, trivial⟩) rfl (St.start w) ?_
  refine jc_seq ?_
  refine sc_region ?_
  refine so_pure (opv_assign (by rfl)) (by rfl) rfl ?_
  refine jo_nil ?_
  refine jk_then ?_
  refine jc_seq ?_
  refine jc_seq ?_
  refine sc_region ?_
  refine so_pure (opv_move (by rfl)) (by rfl) rfl ?_
  refine so_pure (opv_ptr_nil (by rfl) (by rfl) Try.underlying25) (by rfl) rfl ?_
  refine jo_nil ?_
  refine jk_then ?_
  refine sc_true (by rfl) rfl ?_
  refine jc_seq ?_
  refine sc_region ?_
  refine so_pure (opv_assign (by rfl)) (by rfl) rfl ?_
  refine jo_nil ?_
  refine jk_then ?_
  refine jc_ret ?_
  refine jk_then_ret ?_
  refine jk_fn_ret rfl rfl (by rfl) (fun w hw => ?_)
  exact ⟨rfl, hw.forget⟩
set_option maxHeartbeats 4000000 in
theorem read_nil (w : World) (d n : Int) : Does Try.prog 14 #[.pointer none, .int .i64 d, .int .i64 n] w (fun v w' => v = .tuple #[.string ⟨#[]⟩, .int .i64 1] ∧ St w Emp [] w') := by
  refine fn_bodyM (fn := Try.f14) Try.func14 rfl [(0, .pointer none), (1, .int .i64 d), (2, .int .i64 n)] (by exact ⟨rfl, rfl, rfl, trivial⟩) rfl (St.start w) ?_
  refine jc_seq ?_
  refine sc_region ?_
  refine so_eff (eff_box (by rfl) rfl) (by rfl) rfl ?_
  rintro _ _ ⟨b5, rfl, rfl⟩
  refine so_eff (eff_alloc ti9 rfl) (by rfl) rfl ?_
  rintro _ _ ⟨b6, rfl, rfl⟩
  refine so_eff (eff_alloc ti27 rfl) (by rfl) rfl ?_
  rintro _ _ ⟨b7, rfl, rfl⟩
  refine jo_nil ?_
  refine jk_then ?_
  refine jc_seq ?_
  refine sc_region ?_
  refine so_pure (opv_move (by rfl)) (by rfl) rfl ?_
  refine so_pure (opv_move (by rfl)) (by rfl) rfl ?_
  refine so_pure (opv_load (by rfl) na3 (rd_pk (by repeat (first | exact Pk.here _ | apply Pk.there))) (by rfl)) (by rfl) rfl ?_
  refine so_eff (eff_call0 (fl := []) (cl := []) (G := fun v New => v = .tuple #[.pointer none, .int .i64 1] ∧ New = []) (by rfl) (by rfl) tx27 (by exact fun w1 _ => (disk_nil w1 d n ⟨#[]⟩).mono (fun _ _ ⟨hv, hst⟩ => ⟨[], ⟨hv, rfl⟩, hst⟩))) (by rfl) rfl ?_
  rintro _ _ ⟨_, ⟨rfl, rfl⟩, rfl⟩
  refine so_pure (opv_move (by rfl)) (by rfl) rfl ?_
  refine so_pure (opv_extract (by rfl) (by rfl)) (by rfl) rfl ?_
  refine so_pure (opv_extract (by rfl) (by rfl)) (by rfl) rfl ?_
  refine so_pure (opv_assign (by rfl)) (by rfl) rfl ?_
  refine so_pure (opv_assign (by rfl)) (by rfl) rfl ?_
  refine jo_nil ?_
  refine jk_then ?_
  refine jc_seq ?_
  refine jc_seq ?_
  refine sc_region ?_
  refine so_pure (opv_move (by rfl)) (by rfl) rfl ?_
  refine so_pure (opv_cmp (by rfl) (by rfl) (by rfl)) (by rfl) rfl ?_
  refine jo_nil ?_
  refine jk_then ?_
  refine sc_true (by rfl) rfl ?_
  refine jc_seq ?_
  refine sc_region ?_
  refine so_pure (opv_move (by rfl)) (by rfl) rfl ?_
  refine so_eff0 (eff_store_all (by rfl) (by rfl) (by rfl) ti9 (by rfl) (by repeat (first | exact Pk.here _ | apply Pk.there)) (by rfl) (by rfl)) (by rfl) ?_
  rintro _ _ ⟨rfl, rfl⟩
  refine so_eff0 (eff_store_all (by rfl) (by rfl) (by rfl) ti27 (by rfl) (by repeat (first | exact Pk.here _ | apply Pk.there)) (by rfl) (by rfl)) (by rfl) ?_
  rintro _ _ ⟨rfl, rfl⟩
  refine jo_nil ?_
  refine jk_then ?_
  refine jc_ret ?_
  refine jk_then_ret ?_
  refine jk_fnMs rfl (resc2 rfl (by rfl) (by rfl) na9 na27 (rd_pk (by repeat (first | exact Pk.here _ | apply Pk.there))) (rd_pk (by repeat (first | exact Pk.here _ | apply Pk.there)))) (fun w hw => ?_)
  exact ⟨rfl, hw.forget⟩
set_option maxHeartbeats 4000000 in
theorem live_nil (w : World) : Does Try.prog 19 #[.pointer none] w (fun v w' => v = .slice none 0 0 ∧ St w Emp [] w') := by
  refine fn_body (fn := Try.f19) Try.func19 rfl [(0, .pointer none)] (by exact ⟨rfl, trivial⟩) rfl (St.start w) ?_
  refine jc_seq ?_
  refine sc_region ?_
  refine so_pure (opv_assign (by rfl)) (by rfl) rfl ?_
  refine jo_nil ?_
  refine jk_then ?_
  refine jc_seq ?_
  refine sc_region ?_
  refine so_pure (opv_assign (by rfl)) (by rfl) rfl ?_
  refine jo_nil ?_
  refine jk_then ?_
  refine jc_seq ?_
  refine jc_seq ?_
  refine sc_region ?_
  refine so_pure (opv_move (by rfl)) (by rfl) rfl ?_
  refine jo_nil ?_
  refine jk_then ?_
  refine jc_block ?_
  refine jc_loop (σ := Nat) (fun k => [(0, .pointer none), (3, .slice none 0 0), (5, .int .i64 k)]) (fun k => []) (fun k => (k ≤ 12) ∧ (True)) (fun k => 12 - k) 0 ⟨Nat.zero_le _, trivial⟩ ⟨rfl, rfl, rfl, trivial⟩ (fun w hw => St.sel hw (by repeat (first | exact Pks.nil _ | exact Pk.here _ | apply Pk.there | apply Pks.cons))) ?_
  rintro k ⟨hk, ht⟩
  show Jc _ _ [(0, .pointer none), (3, .slice none 0 0), (5, .int .i64 k)] [] _
  refine jc_seq ?_
  refine sc_region ?_
  refine so_pure (opv_cmp (by rfl) (by rfl) (by rfl)) (by rfl) rfl ?_
  refine jo_nil ?_
  refine jk_then ?_
  refine jc_seq ?_
  refine sk_split (x := 6) (by rfl) (fun h5 => ?_) (fun h5 => ?_)
  · first | have p5 := of_decide_eq_true h5 | have p5 := of_decide_eq_false h5 | have p5 := ndT h5 | have p5 := ndF h5 | have p5 := nbT h5 | have p5 := nbF h5 | have p5 := h5
    refine sc_true (by rfl) h5 ?_
    refine jc_skip ?_
    refine jk_then ?_
    refine jc_seq ?_
    refine jc_block ?_
    refine jc_seq ?_
    refine sc_region ?_
    refine so_pure (opv_move (by rfl)) (by rfl) rfl ?_
    refine so_pure (opv_assign (by rfl)) (by rfl) rfl ?_
    refine jo_nil ?_
    refine jk_then ?_
    refine jc_seq ?_
    refine sc_region ?_
    refine so_pure (opv_move (by rfl)) (by rfl) rfl ?_
    refine so_pure (opv_move (by rfl)) (by rfl) rfl ?_
    refine so_eff (eff_call0 (fl := []) (cl := []) (G := fun v New => v = .bool false ∧ New = []) (by rfl) (by rfl) tx37 (by exact fun w1 hw1 => (number_nil w1 (k : Int)).mono (fun _ _ ⟨hv, hst⟩ => ⟨[], ⟨hv, rfl⟩, hst⟩))) (by rfl) rfl ?_
    rintro _ _ ⟨_, ⟨rfl, rfl⟩, rfl⟩
    refine so_pure (opv_move (by rfl)) (by rfl) rfl ?_
    refine so_skip (wtd_not rfl rfl (by rfl) rfl) rfl ?_
    refine so_skip (wtd_not rfl rfl (by rfl) rfl) rfl ?_
    refine so_skip (wtd_not rfl rfl (by rfl) rfl) rfl ?_
    refine so_skip (wtd_not rfl rfl (by rfl) rfl) rfl ?_
    refine so_skip (wtd_not rfl rfl (by rfl) rfl) rfl ?_
    refine so_skip (wtd_not rfl rfl (by rfl) rfl) rfl ?_
    refine so_skip (wtd_not rfl rfl (by rfl) rfl) rfl ?_
    refine so_skip (wtd_not rfl rfl (by rfl) rfl) rfl ?_
    refine so_skip (wtd_not rfl rfl (by rfl) rfl) rfl ?_
    refine so_skip (wtd_not rfl rfl (by rfl) rfl) rfl ?_
    refine so_pure (sv_pick_f (by rfl) rfl (by rfl)) (by rfl) rfl ?_
    refine jo_nil ?_
    refine jk_then ?_
    refine sc_false (by rfl) rfl ?_
    refine jc_skip ?_
    refine jk_block ?_
    refine jk_then ?_
    refine sc_region ?_
    refine so_pure (opv_add (by rfl) (by rfl) (wrap64_ok (by omega))) (by rfl) rfl ?_
    refine so_pure (opv_move (by rfl)) (by rfl) rfl ?_
    refine jo_nil ?_
    refine jk_round (k + 1) ⟨by omega, trivial⟩ (by show 12 - (k + 1) < 12 - k; omega) ⟨rfl, rfl, rfl, trivial⟩ (fun w hw => ?_)
    show St _ _ [] _
    exact St.sel hw (by repeat (first | exact Pks.nil _ | exact Pk.here _ | apply Pk.there | apply Pks.cons))
  · first | have p5 := of_decide_eq_true h5 | have p5 := of_decide_eq_false h5 | have p5 := ndT h5 | have p5 := ndF h5 | have p5 := nbT h5 | have p5 := nbF h5 | have p5 := h5
    refine sc_false (by rfl) h5 ?_
    refine jc_exit ?_
    refine jk_then_exit ?_
    refine jk_then_exit ?_
    refine jk_block_exit ?_
    refine jk_then ?_
    refine jc_seq ?_
    refine sc_region ?_
    refine so_pure (opv_move (by rfl)) (by rfl) rfl ?_
    refine so_pure (opv_assign (by rfl)) (by rfl) rfl ?_
    refine jo_nil ?_
    refine jk_then ?_
    refine jc_ret ?_
    refine jk_fn_ret rfl rfl (by rfl) (fun w hw => ?_)
    exact ⟨rfl, hw.forget⟩
end Go.Disks
