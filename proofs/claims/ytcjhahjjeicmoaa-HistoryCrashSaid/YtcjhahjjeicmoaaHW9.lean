/- A part of a proof for the laws of the seat Ytcjhahjjeicmoaa; it has no conditions of its own. -/
import Derived.Test.YtcjhahjjeicmoaaHW8
import Derived.Test.YtcjhahjjeicmoaaHLaws
namespace Go.Hist
open Go Go.SL Go.Proofs
set_option maxHeartbeats 4000000 in
theorem law_ahead (w : World) (A : Option Addr) (n cap : Nat) (xs : List Ev) (hs : SlR w 39 8 Ev.cells A n xs) (hn : n ≤ 9223372036854775807) : Does Try.prog 3 #[.slice A n cap] w (fun v w' => v = .bool true ∧ St w Emp [] w') := by
  refine fn_body (fn := Try.f3) Try.func3 rfl [(0, .slice A n cap)] (by exact ⟨rfl, trivial⟩) rfl (St.start w) ?_
  refine jc_seq ?_
  refine sc_region ?_
  refine so_pure (opv_assign (by rfl)) (by rfl) rfl ?_
  refine jo_nil ?_
  refine jk_then ?_
  refine jc_seq ?_
  refine jc_seq ?_
  refine sc_region ?_
  refine so_pure (opv_move (by rfl)) (by rfl) rfl ?_
  refine so_eff (eff_call0 (G := fun v New => v = .bool (small xs 40) ∧ New = []) (by rfl) (by rfl) tx7 (by exact fun w1 hw1 => (small17_spec w1 A n cap xs (hs.keepSt hw1) hn 40).mono (fun v _ ⟨hv, hst⟩ => ⟨[], ⟨hv, rfl⟩, hst⟩))) (by rfl) rfl ?_
  rintro _ _ ⟨_, ⟨rfl, rfl⟩, rfl⟩
  refine so_pure (opv_not (by rfl)) (by rfl) rfl ?_
  refine jo_nil ?_
  refine jk_then ?_
  refine sk_split (x := 10) (by rfl) (fun h2 => ?_) (fun h2 => ?_)
  · first | have p2 := of_decide_eq_true h2 | have p2 := of_decide_eq_false h2 | have p2 := ndT h2 | have p2 := ndF h2 | have p2 := nbT h2 | have p2 := nbF h2 | have p2 := h2
    skip
    refine sc_true (by rfl) (not_t (by simpa using h2)) ?_
    refine jc_seq ?_
    refine sc_region ?_
    refine so_eff (eff_call0 (G := fun v New => v = .bool true ∧ New = []) (by rfl) (by rfl) tx8 (by exact fun w1 hw1 => (live_spec w1).mono (fun v _ ⟨hv, hst⟩ => ⟨[], ⟨hv, rfl⟩, hst⟩))) (by rfl) rfl ?_
    rintro _ _ ⟨_, ⟨rfl, rfl⟩, rfl⟩
    refine so_pure (opv_assign (by rfl)) (by rfl) rfl ?_
    refine jo_nil ?_
    refine jk_then ?_
    refine jc_ret ?_
    refine jk_then_ret ?_
    refine jk_fn_ret rfl rfl (by rfl) (fun w hw => ?_)
    exact ⟨rfl, hw.forget⟩
  · first | have p2 := of_decide_eq_true h2 | have p2 := of_decide_eq_false h2 | have p2 := ndT h2 | have p2 := ndF h2 | have p2 := nbT h2 | have p2 := nbF h2 | have p2 := h2
    refine sc_false (by rfl) (not_f (by simpa using h2)) ?_
    refine jc_skip ?_
    refine jk_then ?_
    refine jc_seq ?_
    have hsm := small_len (xs := xs) (m := 40) (by simpa using p2)
    have hnx := hs.1
    refine sc_region ?_
    refine so_pure (opv_move (by rfl)) (by rfl) rfl ?_
    refine so_eff (eff_call0 (G := fun v New => New = [own v 35 9 (opsOf xs).length ((opsOf xs).flatMap Hop.cells)]) (by rfl) (by rfl) tx9 (by exact fun w1 hw1 => (ops_spec w1 A n cap xs (hs.keepSt hw1) (by omega)).mono (fun v _ hst => ⟨_, rfl, hst⟩))) (by rfl) rfl ?_
    rintro sv _ ⟨_, rfl, rfl⟩
    refine so_pure (opv_assign (by rfl)) (by rfl) rfl ?_
    refine jo_nil ?_
    refine jk_then ?_
    refine jc_seq ?_
    refine jc_seq ?_
    refine jk_sv (by repeat (first | exact Pk.here _ | apply Pk.there)) (fun hsv => ?_)
    have hok := opsOf_ok (xs := xs)
    have hol := opsOf_len xs
    generalize opsOf xs = ops at hsv hok hol ⊢
    refine sc_region ?_
    refine so_pure (opv_assign (by rfl)) (by rfl) rfl ?_
    refine jo_nil ?_
    refine jk_then ?_
    refine jc_block ?_
    refine jc_loop (σ := Nat) (fun i => [(3, sv), (4, .int .i64 i)]) (fun i => [own sv 35 9 ops.length (ops.flatMap Hop.cells)]) (fun i => (i ≤ ops.length)) (fun i => ops.length - i) 0 (Nat.zero_le _) ⟨rfl, rfl, trivial⟩ (fun w hw => St.sel hw (by repeat (first | exact Pks.nil _ | exact Pk.here _ | apply Pk.there | apply Pks.cons))) ?_
    rintro i hi
    show Jc _ _ [(3, sv), (4, .int .i64 i)] [own sv 35 9 ops.length (ops.flatMap Hop.cells)] _
    refine jc_seq ?_
    refine jc_seq ?_
    refine sc_region ?_
    refine so_pure (opv_move (by rfl)) (by rfl) rfl ?_
    refine so_pure (opv_move (by rfl)) (by rfl) rfl ?_
    refine so_pure (opv_len_sv (by rfl) hsv Try.underlying25) (by rfl) rfl ?_
    refine so_pure (opv_cmp (by rfl) (by rfl) (by rfl)) (by rfl) rfl ?_
    refine jo_nil ?_
    refine jk_then ?_
    refine sk_split (x := 17) (by rfl) (fun h8 => ?_) (fun h8 => ?_)
    · first | have p8 := of_decide_eq_true h8 | have p8 := of_decide_eq_false h8 | have p8 := ndT h8 | have p8 := ndF h8 | have p8 := nbT h8 | have p8 := nbF h8 | have p8 := h8
      refine sc_true (by rfl) h8 ?_
      refine jc_skip ?_
      refine jk_then ?_
      refine jc_seq ?_
      refine jc_block ?_
      refine jc_seq ?_
      refine jc_seq ?_
      have hloi : i < ops.length := by omega
      obtain ⟨oi, hoi⟩ : ∃ x, ops[i]? = some x := ⟨ops[i], List.getElem?_eq_getElem hloi⟩
      have okoi := hok oi (List.mem_of_getElem? hoi)
      refine so_draw [] (by kernel_rfl) (by kernel_rfl) (by kernel_rfl) rfl (by rfl) (fun hap htm => ?_)
      refine da_any hap htm (i := 0) (by rfl) (by kernel_rfl) (by rfl) (listed' := #[true, false, false, false, false, false, false, false, false]) (by rfl) (fun _ => (opv_move (by rfl))) (by rfl) rfl ?_
      refine da_any hap htm (i := 1) (by rfl) (by kernel_rfl) (by rfl) (listed' := #[true, true, false, false, false, false, false, false, false]) (by rfl) (fun _ => (opv_move (by rfl))) (by rfl) rfl ?_
      refine da_any hap htm (i := 2) (by rfl) (by kernel_rfl) (by rfl) (listed' := #[true, true, true, false, false, false, false, false, false]) (by rfl) (fun _ => (opv_indexAddr_sv (i := i) (by rfl) hsv (by rfl) Try.underlying25 ti35 (by rfl) (by omega))) (by rfl) rfl ?_
      refine da_now [8] hap htm (i := 3) (by rfl) (by kernel_rfl) (by rfl) (listed' := #[true, true, true, true, false, false, false, false, false]) (by rfl) (by kernel_rfl) (by kernel_rfl) (opv_load_elem (u := oi) Hop.cells_len (by rfl) ag35 ti35 (by repeat (first | exact Pk.here _ | apply Pk.there)) (by omega) hoi) (by rfl) rfl ?_
      refine da_any hap htm (i := 4) (by rfl) (by kernel_rfl) (by rfl) (listed' := #[true, true, true, true, true, false, false, false, false]) (by rfl) (fun _ => (opv_move (by rfl))) (by rfl) rfl ?_
      refine da_any hap htm (i := 5) (by rfl) (by kernel_rfl) (by rfl) (listed' := #[true, true, true, true, true, true, false, false, false]) (by rfl) (fun _ => (opv_move (by rfl))) (by rfl) rfl ?_
      refine da_any hap htm (i := 6) (by rfl) (by kernel_rfl) (by rfl) (listed' := #[true, true, true, true, true, true, true, false, false]) (by rfl) (fun _ => (opv_indexAddr_sv (i := i) (by rfl) hsv (by rfl) Try.underlying25 ti35 (by rfl) (by omega))) (by rfl) rfl ?_
      refine da_now [8] hap htm (i := 7) (by rfl) (by kernel_rfl) (by rfl) (listed' := #[true, true, true, true, true, true, true, true, false]) (by rfl) (by kernel_rfl) (by kernel_rfl) (opv_load_elem (u := oi) Hop.cells_len (by rfl) ag35 ti35 (by repeat (first | exact Pk.here _ | apply Pk.there)) (by omega) hoi) (by rfl) rfl ?_
      refine da_eff (i := 8) (by rfl) (by kernel_rfl) (by rfl) (listed' := #[true, true, true, true, true, true, true, true, true]) (by rfl) (eff_call0 (G := fun v New => v = .bool false ∧ New = []) (by rfl) (by rfl) tx10 (by exact fun w1 hw1 => (ahead_spec oi oi w1).mono (fun v _ ⟨hv, hst⟩ => ⟨[], ⟨by rw [ahead_irrefl okoi] at hv; exact hv, rfl⟩, hst⟩))) (fun _ _ _ _ hw => cw_nil hw) (by rfl) rfl ?_
      rintro _ _ ⟨_, ⟨rfl, rfl⟩, rfl⟩
      refine da_done (by kernel_rfl) ?_
      refine jk_then ?_
      refine sc_false (by rfl) rfl ?_
      refine jc_skip ?_
      refine jk_then ?_
      refine jc_seq ?_
      refine sc_region ?_
      refine so_pure (opv_assign (by rfl)) (by rfl) rfl ?_
      refine jo_nil ?_
      refine jk_then ?_
      refine jc_block ?_
      refine jc_loop (σ := Nat) (fun j => [(3, sv), (4, .int .i64 i), (5, .int .i64 j)]) (fun j => [own sv 35 9 ops.length (ops.flatMap Hop.cells)]) (fun j => (j ≤ ops.length)) (fun j => ops.length - j) 0 (Nat.zero_le _) ⟨rfl, rfl, rfl, trivial⟩ (fun w hw => St.sel hw (by repeat (first | exact Pks.nil _ | exact Pk.here _ | apply Pk.there | apply Pks.cons))) ?_
      rintro j hj
      show Jc _ _ [(3, sv), (4, .int .i64 i), (5, .int .i64 j)] [own sv 35 9 ops.length (ops.flatMap Hop.cells)] _
      refine jc_seq ?_
      refine jc_seq ?_
      refine sc_region ?_
      refine so_pure (opv_move (by rfl)) (by rfl) rfl ?_
      refine so_pure (opv_move (by rfl)) (by rfl) rfl ?_
      refine so_pure (opv_len_sv (by rfl) hsv Try.underlying25) (by rfl) rfl ?_
      refine so_pure (opv_cmp (by rfl) (by rfl) (by rfl)) (by rfl) rfl ?_
      refine jo_nil ?_
      refine jk_then ?_
      refine sk_split (x := 32) (by rfl) (fun h18 => ?_) (fun h18 => ?_)
      · first | have p18 := of_decide_eq_true h18 | have p18 := of_decide_eq_false h18 | have p18 := ndT h18 | have p18 := ndF h18 | have p18 := nbT h18 | have p18 := nbF h18 | have p18 := h18
        refine sc_true (by rfl) h18 ?_
        refine jc_skip ?_
        refine jk_then ?_
        refine jc_seq ?_
        refine jc_block ?_
        refine jc_seq ?_
        have hloj : j < ops.length := by omega
        obtain ⟨oj, hoj⟩ : ∃ x, ops[j]? = some x := ⟨ops[j], List.getElem?_eq_getElem hloj⟩
        have okoj := hok oj (List.mem_of_getElem? hoj)
        refine so_draw [] (by kernel_rfl) (by kernel_rfl) (by kernel_rfl) rfl (by rfl) (fun hap htm => ?_)
        refine da_any hap htm (i := 0) (by rfl) (by kernel_rfl) (by rfl) (listed' := #[true, false, false, false, false, false, false, false, false, false]) (by rfl) (fun _ => (opv_move (by rfl))) (by rfl) rfl ?_
        refine da_any hap htm (i := 1) (by rfl) (by kernel_rfl) (by rfl) (listed' := #[true, true, false, false, false, false, false, false, false, false]) (by rfl) (fun _ => (opv_move (by rfl))) (by rfl) rfl ?_
        refine da_any hap htm (i := 2) (by rfl) (by kernel_rfl) (by rfl) (listed' := #[true, true, true, false, false, false, false, false, false, false]) (by rfl) (fun _ => (opv_indexAddr_sv (i := i) (by rfl) hsv (by rfl) Try.underlying25 ti35 (by rfl) (by omega))) (by rfl) rfl ?_
        refine da_now [8, 9] hap htm (i := 3) (by rfl) (by kernel_rfl) (by rfl) (listed' := #[true, true, true, true, false, false, false, false, false, false]) (by rfl) (by kernel_rfl) (by kernel_rfl) (opv_load_elem (u := oi) Hop.cells_len (by rfl) ag35 ti35 (by repeat (first | exact Pk.here _ | apply Pk.there)) (by omega) hoi) (by rfl) rfl ?_
        refine da_any hap htm (i := 4) (by rfl) (by kernel_rfl) (by rfl) (listed' := #[true, true, true, true, true, false, false, false, false, false]) (by rfl) (fun _ => (opv_move (by rfl))) (by rfl) rfl ?_
        refine da_any hap htm (i := 5) (by rfl) (by kernel_rfl) (by rfl) (listed' := #[true, true, true, true, true, true, false, false, false, false]) (by rfl) (fun _ => (opv_move (by rfl))) (by rfl) rfl ?_
        refine da_any hap htm (i := 6) (by rfl) (by kernel_rfl) (by rfl) (listed' := #[true, true, true, true, true, true, true, false, false, false]) (by rfl) (fun _ => (opv_indexAddr_sv (i := j) (by rfl) hsv (by rfl) Try.underlying25 ti35 (by rfl) (by omega))) (by rfl) rfl ?_
        refine da_now [8, 9] hap htm (i := 7) (by rfl) (by kernel_rfl) (by rfl) (listed' := #[true, true, true, true, true, true, true, true, false, false]) (by rfl) (by kernel_rfl) (by kernel_rfl) (opv_load_elem (u := oj) Hop.cells_len (by rfl) ag35 ti35 (by repeat (first | exact Pk.here _ | apply Pk.there)) (by omega) hoj) (by rfl) rfl ?_
        refine da_eff (i := 8) (by rfl) (by kernel_rfl) (by rfl) (listed' := #[true, true, true, true, true, true, true, true, true, false]) (by rfl) (eff_call0 (G := fun v New => v = .bool (ahead oi oj) ∧ New = []) (by rfl) (by rfl) tx10 (by exact fun w1 hw1 => (ahead_spec oi oj w1).mono (fun v _ ⟨hv, hst⟩ => ⟨[], ⟨hv, rfl⟩, hst⟩))) (fun _ _ _ _ hw => cw_nil hw) (by rfl) rfl ?_
        rintro _ _ ⟨_, ⟨rfl, rfl⟩, rfl⟩
        refine da_any hap htm (i := 9) (by rfl) (by kernel_rfl) (by rfl) (listed' := #[true, true, true, true, true, true, true, true, true, true]) (by rfl) (fun _ => (opv_assign (by rfl))) (by rfl) rfl ?_
        refine da_done (by kernel_rfl) ?_
        refine jk_then ?_
        refine jc_seq ?_
        refine jc_seq ?_
        refine so_draw [] (by kernel_rfl) (by kernel_rfl) (by kernel_rfl) rfl (by rfl) (fun hap htm => ?_)
        refine da_any hap htm (i := 0) (by rfl) (by kernel_rfl) (by rfl) (listed' := #[true, false, false, false, false, false, false, false, false, false, false, false, false, false, false, false, false, false, false, false, false, false, false, false, false, false, false, false, false, false, false, false, false, false, false]) (by rfl) (fun _ => (opv_move (by rfl))) (by rfl) rfl ?_
        refine da_any hap htm (i := 1) (by rfl) (by kernel_rfl) (by rfl) (listed' := #[true, true, false, false, false, false, false, false, false, false, false, false, false, false, false, false, false, false, false, false, false, false, false, false, false, false, false, false, false, false, false, false, false, false, false]) (by rfl) (fun _ => (opv_move (by rfl))) (by rfl) rfl ?_
        refine da_any hap htm (i := 2) (by rfl) (by kernel_rfl) (by rfl) (listed' := #[true, true, true, false, false, false, false, false, false, false, false, false, false, false, false, false, false, false, false, false, false, false, false, false, false, false, false, false, false, false, false, false, false, false, false]) (by rfl) (fun _ => (opv_move (by rfl))) (by rfl) rfl ?_
        refine da_any hap htm (i := 3) (by rfl) (by kernel_rfl) (by rfl) (listed' := #[true, true, true, true, false, false, false, false, false, false, false, false, false, false, false, false, false, false, false, false, false, false, false, false, false, false, false, false, false, false, false, false, false, false, false]) (by rfl) (fun _ => (opv_indexAddr_sv (i := i) (by rfl) hsv (by rfl) Try.underlying25 ti35 (by rfl) (by omega))) (by rfl) rfl ?_
        refine da_any hap htm (i := 4) (by rfl) (by kernel_rfl) (by rfl) (listed' := #[true, true, true, true, true, false, false, false, false, false, false, false, false, false, false, false, false, false, false, false, false, false, false, false, false, false, false, false, false, false, false, false, false, false, false]) (by rfl) (fun _ => (opv_fieldAddr (by rfl) fld35_4)) (by rfl) rfl ?_
        refine da_now [6, 7, 8, 9, 10, 11, 12, 13, 14, 15, 16, 17, 18, 19, 20, 21, 22, 23, 24, 25, 26, 27, 28, 29, 30, 31, 32, 33, 34] hap htm (i := 5) (by rfl) (by kernel_rfl) (by rfl) (listed' := #[true, true, true, true, true, true, false, false, false, false, false, false, false, false, false, false, false, false, false, false, false, false, false, false, false, false, false, false, false, false, false, false, false, false, false]) (by rfl) (by kernel_rfl) (by kernel_rfl) (opv_load_fld (fo := 8) Hop.cells_len (by rfl) na3 (by repeat (first | exact Pk.here _ | apply Pk.there)) hoi (by rfl)) (by rfl) rfl ?_
        refine da_any hap htm (i := 6) (by rfl) (by kernel_rfl) (by rfl) (listed' := #[true, true, true, true, true, true, true, false, false, false, false, false, false, false, false, false, false, false, false, false, false, false, false, false, false, false, false, false, false, false, false, false, false, false, false]) (by rfl) (fun _ => (opv_cmp (by rfl) (by rfl) (by rfl))) (by rfl) rfl ?_
        refine da_any hap htm (i := 7) (by rfl) (by kernel_rfl) (by rfl) (listed' := #[true, true, true, true, true, true, true, true, false, false, false, false, false, false, false, false, false, false, false, false, false, false, false, false, false, false, false, false, false, false, false, false, false, false, false]) (by rfl) (fun _ => (opv_move (by rfl))) (by rfl) rfl ?_
        refine sk_split (x := 51) (by rfl) (fun h30 => ?_) (fun h30 => ?_)
        · first | have p30 := of_decide_eq_true h30 | have p30 := of_decide_eq_false h30 | have p30 := ndT h30 | have p30 := ndF h30 | have p30 := nbT h30 | have p30 := nbF h30 | have p30 := h30
          refine da_any hap htm (i := 8) (by rfl) (by kernel_rfl) (by rfl) (listed' := #[true, true, true, true, true, true, true, true, true, false, false, false, false, false, false, false, false, false, false, false, false, false, false, false, false, false, false, false, false, false, false, false, false, false, false]) (by rfl) (fun _ => (opv_move (by rfl))) (wtd_run rfl rfl (by rfl) h30) rfl ?_
          refine da_any hap htm (i := 9) (by rfl) (by kernel_rfl) (by rfl) (listed' := #[true, true, true, true, true, true, true, true, true, true, false, false, false, false, false, false, false, false, false, false, false, false, false, false, false, false, false, false, false, false, false, false, false, false, false]) (by rfl) (fun _ => (opv_move (by rfl))) (wtd_run rfl rfl (by rfl) h30) rfl ?_
          refine da_any hap htm (i := 10) (by rfl) (by kernel_rfl) (by rfl) (listed' := #[true, true, true, true, true, true, true, true, true, true, true, false, false, false, false, false, false, false, false, false, false, false, false, false, false, false, false, false, false, false, false, false, false, false, false]) (by rfl) (fun _ => (opv_indexAddr_sv (i := i) (by rfl) hsv (by rfl) Try.underlying25 ti35 (by rfl) (by omega))) (wtd_run rfl rfl (by rfl) h30) rfl ?_
          refine da_any hap htm (i := 11) (by rfl) (by kernel_rfl) (by rfl) (listed' := #[true, true, true, true, true, true, true, true, true, true, true, true, false, false, false, false, false, false, false, false, false, false, false, false, false, false, false, false, false, false, false, false, false, false, false]) (by rfl) (fun _ => (opv_fieldAddr (by rfl) fld35_4)) (wtd_run rfl rfl (by rfl) h30) rfl ?_
          refine da_now [18, 19, 20, 21, 22, 23, 24, 25, 26, 27, 28, 29, 30, 31, 32, 33, 34] hap htm (i := 12) (by rfl) (by kernel_rfl) (by rfl) (listed' := #[true, true, true, true, true, true, true, true, true, true, true, true, true, false, false, false, false, false, false, false, false, false, false, false, false, false, false, false, false, false, false, false, false, false, false]) (by rfl) (by kernel_rfl) (by kernel_rfl) (opv_load_fld (fo := 8) Hop.cells_len (by rfl) na3 (by repeat (first | exact Pk.here _ | apply Pk.there)) hoi (by rfl)) (wtd_run rfl rfl (by rfl) h30) rfl ?_
          refine da_any hap htm (i := 13) (by rfl) (by kernel_rfl) (by rfl) (listed' := #[true, true, true, true, true, true, true, true, true, true, true, true, true, true, false, false, false, false, false, false, false, false, false, false, false, false, false, false, false, false, false, false, false, false, false]) (by rfl) (fun _ => (opv_move (by rfl))) (wtd_run rfl rfl (by rfl) h30) rfl ?_
          refine da_any hap htm (i := 14) (by rfl) (by kernel_rfl) (by rfl) (listed' := #[true, true, true, true, true, true, true, true, true, true, true, true, true, true, true, false, false, false, false, false, false, false, false, false, false, false, false, false, false, false, false, false, false, false, false]) (by rfl) (fun _ => (opv_move (by rfl))) (wtd_run rfl rfl (by rfl) h30) rfl ?_
          refine da_any hap htm (i := 15) (by rfl) (by kernel_rfl) (by rfl) (listed' := #[true, true, true, true, true, true, true, true, true, true, true, true, true, true, true, true, false, false, false, false, false, false, false, false, false, false, false, false, false, false, false, false, false, false, false]) (by rfl) (fun _ => (opv_indexAddr_sv (i := j) (by rfl) hsv (by rfl) Try.underlying25 ti35 (by rfl) (by omega))) (wtd_run rfl rfl (by rfl) h30) rfl ?_
          refine da_any hap htm (i := 16) (by rfl) (by kernel_rfl) (by rfl) (listed' := #[true, true, true, true, true, true, true, true, true, true, true, true, true, true, true, true, true, false, false, false, false, false, false, false, false, false, false, false, false, false, false, false, false, false, false]) (by rfl) (fun _ => (opv_fieldAddr (by rfl) fld35_3)) (wtd_run rfl rfl (by rfl) h30) rfl ?_
          refine da_now [18, 19, 20, 21, 22, 23, 24, 25, 26, 27, 28, 29, 30, 31, 32, 33, 34] hap htm (i := 17) (by rfl) (by kernel_rfl) (by rfl) (listed' := #[true, true, true, true, true, true, true, true, true, true, true, true, true, true, true, true, true, true, false, false, false, false, false, false, false, false, false, false, false, false, false, false, false, false, false]) (by rfl) (by kernel_rfl) (by kernel_rfl) (opv_load_fld (fo := 7) Hop.cells_len (by rfl) na3 (by repeat (first | exact Pk.here _ | apply Pk.there)) hoj (by rfl)) (wtd_run rfl rfl (by rfl) h30) rfl ?_
          refine da_any hap htm (i := 18) (by rfl) (by kernel_rfl) (by rfl) (listed' := #[true, true, true, true, true, true, true, true, true, true, true, true, true, true, true, true, true, true, true, false, false, false, false, false, false, false, false, false, false, false, false, false, false, false, false]) (by rfl) (fun _ => (opv_cmp (by rfl) (by rfl) (by rfl))) (wtd_run rfl rfl (by rfl) h30) rfl ?_
          refine da_any hap htm (i := 19) (by rfl) (by kernel_rfl) (by rfl) (listed' := #[true, true, true, true, true, true, true, true, true, true, true, true, true, true, true, true, true, true, true, true, false, false, false, false, false, false, false, false, false, false, false, false, false, false, false]) (by rfl) (fun _ => (sv_pick_t (by rfl) h30 (by rfl))) (by rfl) rfl ?_
          refine da_any hap htm (i := 20) (by rfl) (by kernel_rfl) (by rfl) (listed' := #[true, true, true, true, true, true, true, true, true, true, true, true, true, true, true, true, true, true, true, true, true, false, false, false, false, false, false, false, false, false, false, false, false, false, false]) (by rfl) (fun _ => (opv_bne (by rfl) (by rfl) Try.underlying4)) (by rfl) rfl ?_
          refine da_any hap htm (i := 21) (by rfl) (by kernel_rfl) (by rfl) (listed' := #[true, true, true, true, true, true, true, true, true, true, true, true, true, true, true, true, true, true, true, true, true, true, false, false, false, false, false, false, false, false, false, false, false, false, false]) (by rfl) (fun _ => (opv_move (by rfl))) (by rfl) rfl ?_
          refine sk_split (x := 65) (by rfl) (fun h40 => ?_) (fun h40 => ?_)
          · first | have p40 := of_decide_eq_true h40 | have p40 := of_decide_eq_false h40 | have p40 := ndT h40 | have p40 := ndF h40 | have p40 := nbT h40 | have p40 := nbF h40 | have p40 := h40
            exact absurd p40 (by simp [ahead, *])
          · first | have p40 := of_decide_eq_true h40 | have p40 := of_decide_eq_false h40 | have p40 := ndT h40 | have p40 := ndF h40 | have p40 := nbT h40 | have p40 := nbF h40 | have p40 := h40
            refine da_any hap htm (i := 22) (by rfl) (by kernel_rfl) (by rfl) (listed' := #[true, true, true, true, true, true, true, true, true, true, true, true, true, true, true, true, true, true, true, true, true, true, true, false, false, false, false, false, false, false, false, false, false, false, false]) (by rfl) (fun _ => (opv_move (by rfl))) (wtd_run rfl rfl (by rfl) h40) rfl ?_
            refine da_any hap htm (i := 23) (by rfl) (by kernel_rfl) (by rfl) (listed' := #[true, true, true, true, true, true, true, true, true, true, true, true, true, true, true, true, true, true, true, true, true, true, true, true, false, false, false, false, false, false, false, false, false, false, false]) (by rfl) (fun _ => (opv_move (by rfl))) (wtd_run rfl rfl (by rfl) h40) rfl ?_
            refine sk_split (x := 67) (by rfl) (fun h25 => ?_) (fun h25 => ?_)
            · first | have p25 := of_decide_eq_true h25 | have p25 := of_decide_eq_false h25 | have p25 := ndT h25 | have p25 := ndF h25 | have p25 := nbT h25 | have p25 := nbF h25 | have p25 := h25
              refine da_any hap htm (i := 24) (by rfl) (by kernel_rfl) (by rfl) (listed' := #[true, true, true, true, true, true, true, true, true, true, true, true, true, true, true, true, true, true, true, true, true, true, true, true, true, false, false, false, false, false, false, false, false, false, false]) (by rfl) (fun _ => (opv_move (by rfl))) (wtd_run rfl rfl (by rfl) h25) rfl ?_
              refine da_any hap htm (i := 25) (by rfl) (by kernel_rfl) (by rfl) (listed' := #[true, true, true, true, true, true, true, true, true, true, true, true, true, true, true, true, true, true, true, true, true, true, true, true, true, true, false, false, false, false, false, false, false, false, false]) (by rfl) (fun _ => (opv_move (by rfl))) (wtd_run rfl rfl (by rfl) h25) rfl ?_
              refine da_any hap htm (i := 26) (by rfl) (by kernel_rfl) (by rfl) (listed' := #[true, true, true, true, true, true, true, true, true, true, true, true, true, true, true, true, true, true, true, true, true, true, true, true, true, true, true, false, false, false, false, false, false, false, false]) (by rfl) (fun _ => (opv_indexAddr_sv (i := j) (by rfl) hsv (by rfl) Try.underlying25 ti35 (by rfl) (by omega))) (wtd_run rfl rfl (by rfl) h25) rfl ?_
              refine da_now [32, 33, 34] hap htm (i := 27) (by rfl) (by kernel_rfl) (by rfl) (listed' := #[true, true, true, true, true, true, true, true, true, true, true, true, true, true, true, true, true, true, true, true, true, true, true, true, true, true, true, true, false, false, false, false, false, false, false]) (by rfl) (by kernel_rfl) (by kernel_rfl) (opv_load_elem (u := oj) Hop.cells_len (by rfl) ag35 ti35 (by repeat (first | exact Pk.here _ | apply Pk.there)) (by omega) hoj) (wtd_run rfl rfl (by rfl) h25) rfl ?_
              refine da_any hap htm (i := 28) (by rfl) (by kernel_rfl) (by rfl) (listed' := #[true, true, true, true, true, true, true, true, true, true, true, true, true, true, true, true, true, true, true, true, true, true, true, true, true, true, true, true, true, false, false, false, false, false, false]) (by rfl) (fun _ => (opv_move (by rfl))) (wtd_run rfl rfl (by rfl) h25) rfl ?_
              refine da_any hap htm (i := 29) (by rfl) (by kernel_rfl) (by rfl) (listed' := #[true, true, true, true, true, true, true, true, true, true, true, true, true, true, true, true, true, true, true, true, true, true, true, true, true, true, true, true, true, true, false, false, false, false, false]) (by rfl) (fun _ => (opv_move (by rfl))) (wtd_run rfl rfl (by rfl) h25) rfl ?_
              refine da_any hap htm (i := 30) (by rfl) (by kernel_rfl) (by rfl) (listed' := #[true, true, true, true, true, true, true, true, true, true, true, true, true, true, true, true, true, true, true, true, true, true, true, true, true, true, true, true, true, true, true, false, false, false, false]) (by rfl) (fun _ => (opv_indexAddr_sv (i := i) (by rfl) hsv (by rfl) Try.underlying25 ti35 (by rfl) (by omega))) (wtd_run rfl rfl (by rfl) h25) rfl ?_
              refine da_now [32, 33, 34] hap htm (i := 31) (by rfl) (by kernel_rfl) (by rfl) (listed' := #[true, true, true, true, true, true, true, true, true, true, true, true, true, true, true, true, true, true, true, true, true, true, true, true, true, true, true, true, true, true, true, true, false, false, false]) (by rfl) (by kernel_rfl) (by kernel_rfl) (opv_load_elem (u := oi) Hop.cells_len (by rfl) ag35 ti35 (by repeat (first | exact Pk.here _ | apply Pk.there)) (by omega) hoi) (wtd_run rfl rfl (by rfl) h25) rfl ?_
              refine da_eff (i := 32) (by rfl) (by kernel_rfl) (by rfl) (listed' := #[true, true, true, true, true, true, true, true, true, true, true, true, true, true, true, true, true, true, true, true, true, true, true, true, true, true, true, true, true, true, true, true, true, false, false]) (by rfl) (eff_call0 (G := fun v New => v = .bool false ∧ New = []) (by rfl) (by rfl) tx10 (by exact fun w1 hw1 => (ahead_spec oj oi w1).mono (fun v _ ⟨hv, hst⟩ => ⟨[], ⟨by rw [ahead_asymm okoi okoj (by assumption)] at hv; exact hv, rfl⟩, hst⟩))) (fun _ _ _ _ hw => cw_nil hw) (wtd_run rfl rfl (by rfl) h25) rfl ?_
              rintro _ _ ⟨_, ⟨rfl, rfl⟩, rfl⟩
              refine da_any hap htm (i := 33) (by rfl) (by kernel_rfl) (by rfl) (listed' := #[true, true, true, true, true, true, true, true, true, true, true, true, true, true, true, true, true, true, true, true, true, true, true, true, true, true, true, true, true, true, true, true, true, true, false]) (by rfl) (fun _ => (sv_pick_t (by rfl) h25 (by rfl))) (wtd_run rfl rfl (by rfl) h40) rfl ?_
              refine da_any hap htm (i := 34) (by rfl) (by kernel_rfl) (by rfl) (listed' := #[true, true, true, true, true, true, true, true, true, true, true, true, true, true, true, true, true, true, true, true, true, true, true, true, true, true, true, true, true, true, true, true, true, true, true]) (by rfl) (fun _ => (sv_pick_f (by rfl) h40 (by rfl))) (by rfl) rfl ?_
              refine da_done (by kernel_rfl) ?_
              refine jk_then ?_
              refine sc_false (by rfl) rfl ?_
              refine jc_skip ?_
              refine jk_then ?_
              refine jc_seq ?_
              refine sc_region ?_
              refine so_pure (opv_assign (by rfl)) (by rfl) rfl ?_
              refine jo_nil ?_
              refine jk_then ?_
              refine jc_block ?_
              refine jc_loop (σ := Nat) (fun k => [(3, sv), (4, .int .i64 i), (5, .int .i64 j), (6, .bool (ahead oi oj)), (7, .int .i64 k)]) (fun k => [own sv 35 9 ops.length (ops.flatMap Hop.cells)]) (fun k => (k ≤ ops.length)) (fun k => ops.length - k) 0 (Nat.zero_le _) ⟨rfl, rfl, rfl, rfl, rfl, trivial⟩ (fun w hw => St.sel hw (by repeat (first | exact Pks.nil _ | exact Pk.here _ | apply Pk.there | apply Pks.cons))) ?_
              rintro k hk
              show Jc _ _ [(3, sv), (4, .int .i64 i), (5, .int .i64 j), (6, .bool (ahead oi oj)), (7, .int .i64 k)] [own sv 35 9 ops.length (ops.flatMap Hop.cells)] _
              refine jc_seq ?_
              refine jc_seq ?_
              refine sc_region ?_
              refine so_pure (opv_move (by rfl)) (by rfl) rfl ?_
              refine so_pure (opv_move (by rfl)) (by rfl) rfl ?_
              refine so_pure (opv_len_sv (by rfl) hsv Try.underlying25) (by rfl) rfl ?_
              refine so_pure (opv_cmp (by rfl) (by rfl) (by rfl)) (by rfl) rfl ?_
              refine jo_nil ?_
              refine jk_then ?_
              refine sk_split (x := 82) (by rfl) (fun h50 => ?_) (fun h50 => ?_)
              · first | have p50 := of_decide_eq_true h50 | have p50 := of_decide_eq_false h50 | have p50 := ndT h50 | have p50 := ndF h50 | have p50 := nbT h50 | have p50 := nbF h50 | have p50 := h50
                refine sc_true (by rfl) h50 ?_
                refine jc_skip ?_
                refine jk_then ?_
                refine jc_seq ?_
                refine jc_block ?_
                refine jc_seq ?_
                have hlok1 : k < ops.length := by omega
                obtain ⟨ok1, hok1⟩ : ∃ x, ops[k]? = some x := ⟨ops[k], List.getElem?_eq_getElem hlok1⟩
                have okok1 := hok ok1 (List.mem_of_getElem? hok1)
                refine so_draw [] (by kernel_rfl) (by kernel_rfl) (by kernel_rfl) rfl (by rfl) (fun hap htm => ?_)
                refine da_any hap htm (i := 0) (by rfl) (by kernel_rfl) (by rfl) (listed' := #[true, false, false, false, false, false, false, false, false, false, false, false, false, false, false, false, false, false, false, false, false, false, false, false]) (by rfl) (fun _ => (opv_move (by rfl))) (by rfl) rfl ?_
                refine da_any hap htm (i := 1) (by rfl) (by kernel_rfl) (by rfl) (listed' := #[true, true, false, false, false, false, false, false, false, false, false, false, false, false, false, false, false, false, false, false, false, false, false, false]) (by rfl) (fun _ => (opv_move (by rfl))) (by rfl) rfl ?_
                refine da_any hap htm (i := 2) (by rfl) (by kernel_rfl) (by rfl) (listed' := #[true, true, true, false, false, false, false, false, false, false, false, false, false, false, false, false, false, false, false, false, false, false, false, false]) (by rfl) (fun _ => (opv_move (by rfl))) (wtd_run rfl rfl (by rfl) h25) rfl ?_
                refine da_any hap htm (i := 3) (by rfl) (by kernel_rfl) (by rfl) (listed' := #[true, true, true, true, false, false, false, false, false, false, false, false, false, false, false, false, false, false, false, false, false, false, false, false]) (by rfl) (fun _ => (opv_move (by rfl))) (wtd_run rfl rfl (by rfl) h25) rfl ?_
                refine da_any hap htm (i := 4) (by rfl) (by kernel_rfl) (by rfl) (listed' := #[true, true, true, true, true, false, false, false, false, false, false, false, false, false, false, false, false, false, false, false, false, false, false, false]) (by rfl) (fun _ => (opv_indexAddr_sv (i := j) (by rfl) hsv (by rfl) Try.underlying25 ti35 (by rfl) (by omega))) (wtd_run rfl rfl (by rfl) h25) rfl ?_
                refine da_now [10, 11, 12, 13, 14, 15, 16, 17, 18, 19, 20, 21, 22, 23] hap htm (i := 5) (by rfl) (by kernel_rfl) (by rfl) (listed' := #[true, true, true, true, true, true, false, false, false, false, false, false, false, false, false, false, false, false, false, false, false, false, false, false]) (by rfl) (by kernel_rfl) (by kernel_rfl) (opv_load_elem (u := oj) Hop.cells_len (by rfl) ag35 ti35 (by repeat (first | exact Pk.here _ | apply Pk.there)) (by omega) hoj) (wtd_run rfl rfl (by rfl) h25) rfl ?_
                refine da_any hap htm (i := 6) (by rfl) (by kernel_rfl) (by rfl) (listed' := #[true, true, true, true, true, true, true, false, false, false, false, false, false, false, false, false, false, false, false, false, false, false, false, false]) (by rfl) (fun _ => (opv_move (by rfl))) (wtd_run rfl rfl (by rfl) h25) rfl ?_
                refine da_any hap htm (i := 7) (by rfl) (by kernel_rfl) (by rfl) (listed' := #[true, true, true, true, true, true, true, true, false, false, false, false, false, false, false, false, false, false, false, false, false, false, false, false]) (by rfl) (fun _ => (opv_move (by rfl))) (wtd_run rfl rfl (by rfl) h25) rfl ?_
                refine da_any hap htm (i := 8) (by rfl) (by kernel_rfl) (by rfl) (listed' := #[true, true, true, true, true, true, true, true, true, false, false, false, false, false, false, false, false, false, false, false, false, false, false, false]) (by rfl) (fun _ => (opv_indexAddr_sv (i := k) (by rfl) hsv (by rfl) Try.underlying25 ti35 (by rfl) (by omega))) (wtd_run rfl rfl (by rfl) h25) rfl ?_
                refine da_now [10, 11, 12, 13, 14, 15, 16, 17, 18, 19, 20, 21, 22, 23] hap htm (i := 9) (by rfl) (by kernel_rfl) (by rfl) (listed' := #[true, true, true, true, true, true, true, true, true, true, false, false, false, false, false, false, false, false, false, false, false, false, false, false]) (by rfl) (by kernel_rfl) (by kernel_rfl) (opv_load_elem (u := ok1) Hop.cells_len (by rfl) ag35 ti35 (by repeat (first | exact Pk.here _ | apply Pk.there)) (by omega) hok1) (wtd_run rfl rfl (by rfl) h25) rfl ?_
                refine da_eff (i := 10) (by rfl) (by kernel_rfl) (by rfl) (listed' := #[true, true, true, true, true, true, true, true, true, true, true, false, false, false, false, false, false, false, false, false, false, false, false, false]) (by rfl) (eff_call0 (G := fun v New => v = .bool (ahead oj ok1) ∧ New = []) (by rfl) (by rfl) tx10 (by exact fun w1 hw1 => (ahead_spec oj ok1 w1).mono (fun v _ ⟨hv, hst⟩ => ⟨[], ⟨hv, rfl⟩, hst⟩))) (fun _ _ _ _ hw => cw_nil hw) (wtd_run rfl rfl (by rfl) h25) rfl ?_
                rintro _ _ ⟨_, ⟨rfl, rfl⟩, rfl⟩
                refine da_any hap htm (i := 11) (by rfl) (by kernel_rfl) (by rfl) (listed' := #[true, true, true, true, true, true, true, true, true, true, true, true, false, false, false, false, false, false, false, false, false, false, false, false]) (by rfl) (fun _ => (sv_pick_t (by rfl) h25 (by rfl))) (by rfl) rfl ?_
                refine da_any hap htm (i := 12) (by rfl) (by kernel_rfl) (by rfl) (listed' := #[true, true, true, true, true, true, true, true, true, true, true, true, true, false, false, false, false, false, false, false, false, false, false, false]) (by rfl) (fun _ => (opv_move (by rfl))) (by rfl) rfl ?_
                refine sk_split (x := 97) (by rfl) (fun h57 => ?_) (fun h57 => ?_)
                · first | have p57 := of_decide_eq_true h57 | have p57 := of_decide_eq_false h57 | have p57 := ndT h57 | have p57 := ndF h57 | have p57 := nbT h57 | have p57 := nbF h57 | have p57 := h57
                  refine da_any hap htm (i := 13) (by rfl) (by kernel_rfl) (by rfl) (listed' := #[true, true, true, true, true, true, true, true, true, true, true, true, true, true, false, false, false, false, false, false, false, false, false, false]) (by rfl) (fun _ => (opv_move (by rfl))) (wtd_run rfl rfl (by rfl) h57) rfl ?_
                  refine da_any hap htm (i := 14) (by rfl) (by kernel_rfl) (by rfl) (listed' := #[true, true, true, true, true, true, true, true, true, true, true, true, true, true, true, false, false, false, false, false, false, false, false, false]) (by rfl) (fun _ => (opv_move (by rfl))) (wtd_run rfl rfl (by rfl) h57) rfl ?_
                  refine da_any hap htm (i := 15) (by rfl) (by kernel_rfl) (by rfl) (listed' := #[true, true, true, true, true, true, true, true, true, true, true, true, true, true, true, true, false, false, false, false, false, false, false, false]) (by rfl) (fun _ => (opv_indexAddr_sv (i := i) (by rfl) hsv (by rfl) Try.underlying25 ti35 (by rfl) (by omega))) (wtd_run rfl rfl (by rfl) h57) rfl ?_
                  refine da_now [21, 22, 23] hap htm (i := 16) (by rfl) (by kernel_rfl) (by rfl) (listed' := #[true, true, true, true, true, true, true, true, true, true, true, true, true, true, true, true, true, false, false, false, false, false, false, false]) (by rfl) (by kernel_rfl) (by kernel_rfl) (opv_load_elem (u := oi) Hop.cells_len (by rfl) ag35 ti35 (by repeat (first | exact Pk.here _ | apply Pk.there)) (by omega) hoi) (wtd_run rfl rfl (by rfl) h57) rfl ?_
                  refine da_any hap htm (i := 17) (by rfl) (by kernel_rfl) (by rfl) (listed' := #[true, true, true, true, true, true, true, true, true, true, true, true, true, true, true, true, true, true, false, false, false, false, false, false]) (by rfl) (fun _ => (opv_move (by rfl))) (wtd_run rfl rfl (by rfl) h57) rfl ?_
                  refine da_any hap htm (i := 18) (by rfl) (by kernel_rfl) (by rfl) (listed' := #[true, true, true, true, true, true, true, true, true, true, true, true, true, true, true, true, true, true, true, false, false, false, false, false]) (by rfl) (fun _ => (opv_move (by rfl))) (wtd_run rfl rfl (by rfl) h57) rfl ?_
                  refine da_any hap htm (i := 19) (by rfl) (by kernel_rfl) (by rfl) (listed' := #[true, true, true, true, true, true, true, true, true, true, true, true, true, true, true, true, true, true, true, true, false, false, false, false]) (by rfl) (fun _ => (opv_indexAddr_sv (i := k) (by rfl) hsv (by rfl) Try.underlying25 ti35 (by rfl) (by omega))) (wtd_run rfl rfl (by rfl) h57) rfl ?_
                  refine da_now [21, 22, 23] hap htm (i := 20) (by rfl) (by kernel_rfl) (by rfl) (listed' := #[true, true, true, true, true, true, true, true, true, true, true, true, true, true, true, true, true, true, true, true, true, false, false, false]) (by rfl) (by kernel_rfl) (by kernel_rfl) (opv_load_elem (u := ok1) Hop.cells_len (by rfl) ag35 ti35 (by repeat (first | exact Pk.here _ | apply Pk.there)) (by omega) hok1) (wtd_run rfl rfl (by rfl) h57) rfl ?_
                  refine da_eff (i := 21) (by rfl) (by kernel_rfl) (by rfl) (listed' := #[true, true, true, true, true, true, true, true, true, true, true, true, true, true, true, true, true, true, true, true, true, true, false, false]) (by rfl) (eff_call0 (G := fun v New => v = .bool true ∧ New = []) (by rfl) (by rfl) tx10 (by exact fun w1 hw1 => (ahead_spec oi ok1 w1).mono (fun v _ ⟨hv, hst⟩ => ⟨[], ⟨by rw [ahead_trans okoj (by assumption) (by assumption)] at hv; exact hv, rfl⟩, hst⟩))) (fun _ _ _ _ hw => cw_nil hw) (wtd_run rfl rfl (by rfl) h57) rfl ?_
                  rintro _ _ ⟨_, ⟨rfl, rfl⟩, rfl⟩
                  refine da_any hap htm (i := 22) (by rfl) (by kernel_rfl) (by rfl) (listed' := #[true, true, true, true, true, true, true, true, true, true, true, true, true, true, true, true, true, true, true, true, true, true, true, false]) (by rfl) (fun _ => (opv_not (by rfl))) (wtd_run rfl rfl (by rfl) h57) rfl ?_
                  refine da_any hap htm (i := 23) (by rfl) (by kernel_rfl) (by rfl) (listed' := #[true, true, true, true, true, true, true, true, true, true, true, true, true, true, true, true, true, true, true, true, true, true, true, true]) (by rfl) (fun _ => (sv_pick_t (by rfl) h57 (by rfl))) (by rfl) rfl ?_
                  refine da_done (by kernel_rfl) ?_
                  refine jk_then ?_
                  refine sc_false (by rfl) rfl ?_
                  refine jc_skip ?_
                  refine jk_block ?_
                  refine jk_then ?_
                  refine sc_region ?_
                  refine so_pure (opv_move (by rfl)) (by rfl) rfl ?_
                  refine so_pure (opv_add (by rfl) (by rfl) (wrap64_ok (by omega))) (by rfl) rfl ?_
                  refine so_pure (opv_assign (by rfl)) (by rfl) rfl ?_
                  refine jo_nil ?_
                  refine jk_round (k + 1) (by omega) (by show ops.length - (k + 1) < ops.length - k; omega) ⟨rfl, rfl, rfl, rfl, rfl, trivial⟩ (fun w hw => ?_)
                  show St _ _ [own sv 35 9 ops.length (ops.flatMap Hop.cells)] _
                  exact St.sel hw (by repeat (first | exact Pks.nil _ | exact Pk.here _ | apply Pk.there | apply Pks.cons))
                · first | have p57 := of_decide_eq_true h57 | have p57 := of_decide_eq_false h57 | have p57 := ndT h57 | have p57 := ndF h57 | have p57 := nbT h57 | have p57 := nbF h57 | have p57 := h57
                  refine da_skip hap htm (i := 13) (by rfl) (by kernel_rfl) (listed' := #[true, true, true, true, true, true, true, true, true, true, true, true, true, true, false, false, false, false, false, false, false, false, false, false]) (by rfl) (wtd_not rfl rfl (by rfl) h57) rfl ?_
                  refine da_skip hap htm (i := 14) (by rfl) (by kernel_rfl) (listed' := #[true, true, true, true, true, true, true, true, true, true, true, true, true, true, true, false, false, false, false, false, false, false, false, false]) (by rfl) (wtd_not rfl rfl (by rfl) h57) rfl ?_
                  refine da_skip hap htm (i := 15) (by rfl) (by kernel_rfl) (listed' := #[true, true, true, true, true, true, true, true, true, true, true, true, true, true, true, true, false, false, false, false, false, false, false, false]) (by rfl) (wtd_not rfl rfl (by rfl) h57) rfl ?_
                  refine da_skip hap htm (i := 16) (by rfl) (by kernel_rfl) (listed' := #[true, true, true, true, true, true, true, true, true, true, true, true, true, true, true, true, true, false, false, false, false, false, false, false]) (by rfl) (wtd_not rfl rfl (by rfl) h57) rfl ?_
                  refine da_skip hap htm (i := 17) (by rfl) (by kernel_rfl) (listed' := #[true, true, true, true, true, true, true, true, true, true, true, true, true, true, true, true, true, true, false, false, false, false, false, false]) (by rfl) (wtd_not rfl rfl (by rfl) h57) rfl ?_
                  refine da_skip hap htm (i := 18) (by rfl) (by kernel_rfl) (listed' := #[true, true, true, true, true, true, true, true, true, true, true, true, true, true, true, true, true, true, true, false, false, false, false, false]) (by rfl) (wtd_not rfl rfl (by rfl) h57) rfl ?_
                  refine da_skip hap htm (i := 19) (by rfl) (by kernel_rfl) (listed' := #[true, true, true, true, true, true, true, true, true, true, true, true, true, true, true, true, true, true, true, true, false, false, false, false]) (by rfl) (wtd_not rfl rfl (by rfl) h57) rfl ?_
                  refine da_skip hap htm (i := 20) (by rfl) (by kernel_rfl) (listed' := #[true, true, true, true, true, true, true, true, true, true, true, true, true, true, true, true, true, true, true, true, true, false, false, false]) (by rfl) (wtd_not rfl rfl (by rfl) h57) rfl ?_
                  refine da_skip hap htm (i := 21) (by rfl) (by kernel_rfl) (listed' := #[true, true, true, true, true, true, true, true, true, true, true, true, true, true, true, true, true, true, true, true, true, true, false, false]) (by rfl) (wtd_not rfl rfl (by rfl) h57) rfl ?_
                  refine da_skip hap htm (i := 22) (by rfl) (by kernel_rfl) (listed' := #[true, true, true, true, true, true, true, true, true, true, true, true, true, true, true, true, true, true, true, true, true, true, true, false]) (by rfl) (wtd_not rfl rfl (by rfl) h57) rfl ?_
                  refine da_any hap htm (i := 23) (by rfl) (by kernel_rfl) (by rfl) (listed' := #[true, true, true, true, true, true, true, true, true, true, true, true, true, true, true, true, true, true, true, true, true, true, true, true]) (by rfl) (fun _ => (sv_pick_f (by rfl) h57 (by rfl))) (by rfl) rfl ?_
                  refine da_done (by kernel_rfl) ?_
                  refine jk_then ?_
                  refine sc_false (by rfl) rfl ?_
                  refine jc_skip ?_
                  refine jk_block ?_
                  refine jk_then ?_
                  refine sc_region ?_
                  refine so_pure (opv_move (by rfl)) (by rfl) rfl ?_
                  refine so_pure (opv_add (by rfl) (by rfl) (wrap64_ok (by omega))) (by rfl) rfl ?_
                  refine so_pure (opv_assign (by rfl)) (by rfl) rfl ?_
                  refine jo_nil ?_
                  refine jk_round (k + 1) (by omega) (by show ops.length - (k + 1) < ops.length - k; omega) ⟨rfl, rfl, rfl, rfl, rfl, trivial⟩ (fun w hw => ?_)
                  show St _ _ [own sv 35 9 ops.length (ops.flatMap Hop.cells)] _
                  exact St.sel hw (by repeat (first | exact Pks.nil _ | exact Pk.here _ | apply Pk.there | apply Pks.cons))
              · first | have p50 := of_decide_eq_true h50 | have p50 := of_decide_eq_false h50 | have p50 := ndT h50 | have p50 := ndF h50 | have p50 := nbT h50 | have p50 := nbF h50 | have p50 := h50
                refine sc_false (by rfl) h50 ?_
                refine jc_exit ?_
                refine jk_then_exit ?_
                refine jk_then_exit ?_
                refine jk_block_exit ?_
                refine jk_block ?_
                refine jk_then ?_
                refine sc_region ?_
                refine so_pure (opv_move (by rfl)) (by rfl) rfl ?_
                refine so_pure (opv_add (by rfl) (by rfl) (wrap64_ok (by omega))) (by rfl) rfl ?_
                refine so_pure (opv_assign (by rfl)) (by rfl) rfl ?_
                refine jo_nil ?_
                refine jk_round (j + 1) (by omega) (by show ops.length - (j + 1) < ops.length - j; omega) ⟨rfl, rfl, rfl, trivial⟩ (fun w hw => ?_)
                show St _ _ [own sv 35 9 ops.length (ops.flatMap Hop.cells)] _
                exact St.sel hw (by repeat (first | exact Pks.nil _ | exact Pk.here _ | apply Pk.there | apply Pks.cons))
            · first | have p25 := of_decide_eq_true h25 | have p25 := of_decide_eq_false h25 | have p25 := ndT h25 | have p25 := ndF h25 | have p25 := nbT h25 | have p25 := nbF h25 | have p25 := h25
              refine da_skip hap htm (i := 24) (by rfl) (by kernel_rfl) (listed' := #[true, true, true, true, true, true, true, true, true, true, true, true, true, true, true, true, true, true, true, true, true, true, true, true, true, false, false, false, false, false, false, false, false, false, false]) (by rfl) (wtd_not rfl rfl (by rfl) h25) rfl ?_
              refine da_skip hap htm (i := 25) (by rfl) (by kernel_rfl) (listed' := #[true, true, true, true, true, true, true, true, true, true, true, true, true, true, true, true, true, true, true, true, true, true, true, true, true, true, false, false, false, false, false, false, false, false, false]) (by rfl) (wtd_not rfl rfl (by rfl) h25) rfl ?_
              refine da_skip hap htm (i := 26) (by rfl) (by kernel_rfl) (listed' := #[true, true, true, true, true, true, true, true, true, true, true, true, true, true, true, true, true, true, true, true, true, true, true, true, true, true, true, false, false, false, false, false, false, false, false]) (by rfl) (wtd_not rfl rfl (by rfl) h25) rfl ?_
              refine da_skip hap htm (i := 27) (by rfl) (by kernel_rfl) (listed' := #[true, true, true, true, true, true, true, true, true, true, true, true, true, true, true, true, true, true, true, true, true, true, true, true, true, true, true, true, false, false, false, false, false, false, false]) (by rfl) (wtd_not rfl rfl (by rfl) h25) rfl ?_
              refine da_skip hap htm (i := 28) (by rfl) (by kernel_rfl) (listed' := #[true, true, true, true, true, true, true, true, true, true, true, true, true, true, true, true, true, true, true, true, true, true, true, true, true, true, true, true, true, false, false, false, false, false, false]) (by rfl) (wtd_not rfl rfl (by rfl) h25) rfl ?_
              refine da_skip hap htm (i := 29) (by rfl) (by kernel_rfl) (listed' := #[true, true, true, true, true, true, true, true, true, true, true, true, true, true, true, true, true, true, true, true, true, true, true, true, true, true, true, true, true, true, false, false, false, false, false]) (by rfl) (wtd_not rfl rfl (by rfl) h25) rfl ?_
              refine da_skip hap htm (i := 30) (by rfl) (by kernel_rfl) (listed' := #[true, true, true, true, true, true, true, true, true, true, true, true, true, true, true, true, true, true, true, true, true, true, true, true, true, true, true, true, true, true, true, false, false, false, false]) (by rfl) (wtd_not rfl rfl (by rfl) h25) rfl ?_
              refine da_skip hap htm (i := 31) (by rfl) (by kernel_rfl) (listed' := #[true, true, true, true, true, true, true, true, true, true, true, true, true, true, true, true, true, true, true, true, true, true, true, true, true, true, true, true, true, true, true, true, false, false, false]) (by rfl) (wtd_not rfl rfl (by rfl) h25) rfl ?_
              refine da_skip hap htm (i := 32) (by rfl) (by kernel_rfl) (listed' := #[true, true, true, true, true, true, true, true, true, true, true, true, true, true, true, true, true, true, true, true, true, true, true, true, true, true, true, true, true, true, true, true, true, false, false]) (by rfl) (wtd_not rfl rfl (by rfl) h25) rfl ?_
              refine da_any hap htm (i := 33) (by rfl) (by kernel_rfl) (by rfl) (listed' := #[true, true, true, true, true, true, true, true, true, true, true, true, true, true, true, true, true, true, true, true, true, true, true, true, true, true, true, true, true, true, true, true, true, true, false]) (by rfl) (fun _ => (sv_pick_f (by rfl) h25 (by rfl))) (wtd_run rfl rfl (by rfl) h40) rfl ?_
              refine da_any hap htm (i := 34) (by rfl) (by kernel_rfl) (by rfl) (listed' := #[true, true, true, true, true, true, true, true, true, true, true, true, true, true, true, true, true, true, true, true, true, true, true, true, true, true, true, true, true, true, true, true, true, true, true]) (by rfl) (fun _ => (sv_pick_f (by rfl) h40 (by rfl))) (by rfl) rfl ?_
              refine da_done (by kernel_rfl) ?_
              refine jk_then ?_
              refine sc_false (by rfl) rfl ?_
              refine jc_skip ?_
              refine jk_then ?_
              refine jc_seq ?_
              refine sc_region ?_
              refine so_pure (opv_assign (by rfl)) (by rfl) rfl ?_
              refine jo_nil ?_
              refine jk_then ?_
              refine jc_block ?_
              refine jc_loop (σ := Nat) (fun k => [(3, sv), (4, .int .i64 i), (5, .int .i64 j), (6, .bool (ahead oi oj)), (7, .int .i64 k)]) (fun k => [own sv 35 9 ops.length (ops.flatMap Hop.cells)]) (fun k => (k ≤ ops.length)) (fun k => ops.length - k) 0 (Nat.zero_le _) ⟨rfl, rfl, rfl, rfl, rfl, trivial⟩ (fun w hw => St.sel hw (by repeat (first | exact Pks.nil _ | exact Pk.here _ | apply Pk.there | apply Pks.cons))) ?_
              rintro k hk
              show Jc _ _ [(3, sv), (4, .int .i64 i), (5, .int .i64 j), (6, .bool (ahead oi oj)), (7, .int .i64 k)] [own sv 35 9 ops.length (ops.flatMap Hop.cells)] _
              refine jc_seq ?_
              refine jc_seq ?_
              refine sc_region ?_
              refine so_pure (opv_move (by rfl)) (by rfl) rfl ?_
              refine so_pure (opv_move (by rfl)) (by rfl) rfl ?_
              refine so_pure (opv_len_sv (by rfl) hsv Try.underlying25) (by rfl) rfl ?_
              refine so_pure (opv_cmp (by rfl) (by rfl) (by rfl)) (by rfl) rfl ?_
              refine jo_nil ?_
              refine jk_then ?_
              refine sk_split (x := 82) (by rfl) (fun h73 => ?_) (fun h73 => ?_)
              · first | have p73 := of_decide_eq_true h73 | have p73 := of_decide_eq_false h73 | have p73 := ndT h73 | have p73 := ndF h73 | have p73 := nbT h73 | have p73 := nbF h73 | have p73 := h73
                refine sc_true (by rfl) h73 ?_
                refine jc_skip ?_
                refine jk_then ?_
                refine jc_seq ?_
                refine jc_block ?_
                refine jc_seq ?_
                have hlok1 : k < ops.length := by omega
                obtain ⟨ok1, hok1⟩ : ∃ x, ops[k]? = some x := ⟨ops[k], List.getElem?_eq_getElem hlok1⟩
                have okok1 := hok ok1 (List.mem_of_getElem? hok1)
                refine so_draw [] (by kernel_rfl) (by kernel_rfl) (by kernel_rfl) rfl (by rfl) (fun hap htm => ?_)
                refine da_any hap htm (i := 0) (by rfl) (by kernel_rfl) (by rfl) (listed' := #[true, false, false, false, false, false, false, false, false, false, false, false, false, false, false, false, false, false, false, false, false, false, false, false]) (by rfl) (fun _ => (opv_move (by rfl))) (by rfl) rfl ?_
                refine da_any hap htm (i := 1) (by rfl) (by kernel_rfl) (by rfl) (listed' := #[true, true, false, false, false, false, false, false, false, false, false, false, false, false, false, false, false, false, false, false, false, false, false, false]) (by rfl) (fun _ => (opv_move (by rfl))) (by rfl) rfl ?_
                refine da_skip hap htm (i := 2) (by rfl) (by kernel_rfl) (listed' := #[true, true, true, false, false, false, false, false, false, false, false, false, false, false, false, false, false, false, false, false, false, false, false, false]) (by rfl) (wtd_not rfl rfl (by rfl) h25) rfl ?_
                refine da_skip hap htm (i := 3) (by rfl) (by kernel_rfl) (listed' := #[true, true, true, true, false, false, false, false, false, false, false, false, false, false, false, false, false, false, false, false, false, false, false, false]) (by rfl) (wtd_not rfl rfl (by rfl) h25) rfl ?_
                refine da_skip hap htm (i := 4) (by rfl) (by kernel_rfl) (listed' := #[true, true, true, true, true, false, false, false, false, false, false, false, false, false, false, false, false, false, false, false, false, false, false, false]) (by rfl) (wtd_not rfl rfl (by rfl) h25) rfl ?_
                refine da_skip hap htm (i := 5) (by rfl) (by kernel_rfl) (listed' := #[true, true, true, true, true, true, false, false, false, false, false, false, false, false, false, false, false, false, false, false, false, false, false, false]) (by rfl) (wtd_not rfl rfl (by rfl) h25) rfl ?_
                refine da_skip hap htm (i := 6) (by rfl) (by kernel_rfl) (listed' := #[true, true, true, true, true, true, true, false, false, false, false, false, false, false, false, false, false, false, false, false, false, false, false, false]) (by rfl) (wtd_not rfl rfl (by rfl) h25) rfl ?_
                refine da_skip hap htm (i := 7) (by rfl) (by kernel_rfl) (listed' := #[true, true, true, true, true, true, true, true, false, false, false, false, false, false, false, false, false, false, false, false, false, false, false, false]) (by rfl) (wtd_not rfl rfl (by rfl) h25) rfl ?_
                refine da_skip hap htm (i := 8) (by rfl) (by kernel_rfl) (listed' := #[true, true, true, true, true, true, true, true, true, false, false, false, false, false, false, false, false, false, false, false, false, false, false, false]) (by rfl) (wtd_not rfl rfl (by rfl) h25) rfl ?_
                refine da_skip hap htm (i := 9) (by rfl) (by kernel_rfl) (listed' := #[true, true, true, true, true, true, true, true, true, true, false, false, false, false, false, false, false, false, false, false, false, false, false, false]) (by rfl) (wtd_not rfl rfl (by rfl) h25) rfl ?_
                refine da_skip hap htm (i := 10) (by rfl) (by kernel_rfl) (listed' := #[true, true, true, true, true, true, true, true, true, true, true, false, false, false, false, false, false, false, false, false, false, false, false, false]) (by rfl) (wtd_not rfl rfl (by rfl) h25) rfl ?_
                refine da_any hap htm (i := 11) (by rfl) (by kernel_rfl) (by rfl) (listed' := #[true, true, true, true, true, true, true, true, true, true, true, true, false, false, false, false, false, false, false, false, false, false, false, false]) (by rfl) (fun _ => (sv_pick_f (by rfl) h25 (by rfl))) (by rfl) rfl ?_
                refine da_any hap htm (i := 12) (by rfl) (by kernel_rfl) (by rfl) (listed' := #[true, true, true, true, true, true, true, true, true, true, true, true, true, false, false, false, false, false, false, false, false, false, false, false]) (by rfl) (fun _ => (opv_move (by rfl))) (by rfl) rfl ?_
                refine da_skip hap htm (i := 13) (by rfl) (by kernel_rfl) (listed' := #[true, true, true, true, true, true, true, true, true, true, true, true, true, true, false, false, false, false, false, false, false, false, false, false]) (by rfl) (wtd_not rfl rfl (by rfl) rfl) rfl ?_
                refine da_skip hap htm (i := 14) (by rfl) (by kernel_rfl) (listed' := #[true, true, true, true, true, true, true, true, true, true, true, true, true, true, true, false, false, false, false, false, false, false, false, false]) (by rfl) (wtd_not rfl rfl (by rfl) rfl) rfl ?_
                refine da_skip hap htm (i := 15) (by rfl) (by kernel_rfl) (listed' := #[true, true, true, true, true, true, true, true, true, true, true, true, true, true, true, true, false, false, false, false, false, false, false, false]) (by rfl) (wtd_not rfl rfl (by rfl) rfl) rfl ?_
                refine da_skip hap htm (i := 16) (by rfl) (by kernel_rfl) (listed' := #[true, true, true, true, true, true, true, true, true, true, true, true, true, true, true, true, true, false, false, false, false, false, false, false]) (by rfl) (wtd_not rfl rfl (by rfl) rfl) rfl ?_
                refine da_skip hap htm (i := 17) (by rfl) (by kernel_rfl) (listed' := #[true, true, true, true, true, true, true, true, true, true, true, true, true, true, true, true, true, true, false, false, false, false, false, false]) (by rfl) (wtd_not rfl rfl (by rfl) rfl) rfl ?_
                refine da_skip hap htm (i := 18) (by rfl) (by kernel_rfl) (listed' := #[true, true, true, true, true, true, true, true, true, true, true, true, true, true, true, true, true, true, true, false, false, false, false, false]) (by rfl) (wtd_not rfl rfl (by rfl) rfl) rfl ?_
                refine da_skip hap htm (i := 19) (by rfl) (by kernel_rfl) (listed' := #[true, true, true, true, true, true, true, true, true, true, true, true, true, true, true, true, true, true, true, true, false, false, false, false]) (by rfl) (wtd_not rfl rfl (by rfl) rfl) rfl ?_
                refine da_skip hap htm (i := 20) (by rfl) (by kernel_rfl) (listed' := #[true, true, true, true, true, true, true, true, true, true, true, true, true, true, true, true, true, true, true, true, true, false, false, false]) (by rfl) (wtd_not rfl rfl (by rfl) rfl) rfl ?_
                refine da_skip hap htm (i := 21) (by rfl) (by kernel_rfl) (listed' := #[true, true, true, true, true, true, true, true, true, true, true, true, true, true, true, true, true, true, true, true, true, true, false, false]) (by rfl) (wtd_not rfl rfl (by rfl) rfl) rfl ?_
                refine da_skip hap htm (i := 22) (by rfl) (by kernel_rfl) (listed' := #[true, true, true, true, true, true, true, true, true, true, true, true, true, true, true, true, true, true, true, true, true, true, true, false]) (by rfl) (wtd_not rfl rfl (by rfl) rfl) rfl ?_
                refine da_any hap htm (i := 23) (by rfl) (by kernel_rfl) (by rfl) (listed' := #[true, true, true, true, true, true, true, true, true, true, true, true, true, true, true, true, true, true, true, true, true, true, true, true]) (by rfl) (fun _ => (sv_pick_f (by rfl) rfl (by rfl))) (by rfl) rfl ?_
                refine da_done (by kernel_rfl) ?_
                refine jk_then ?_
                refine sc_false (by rfl) rfl ?_
                refine jc_skip ?_
                refine jk_block ?_
                refine jk_then ?_
                refine sc_region ?_
                refine so_pure (opv_move (by rfl)) (by rfl) rfl ?_
                refine so_pure (opv_add (by rfl) (by rfl) (wrap64_ok (by omega))) (by rfl) rfl ?_
                refine so_pure (opv_assign (by rfl)) (by rfl) rfl ?_
                refine jo_nil ?_
                refine jk_round (k + 1) (by omega) (by show ops.length - (k + 1) < ops.length - k; omega) ⟨rfl, rfl, rfl, rfl, rfl, trivial⟩ (fun w hw => ?_)
                show St _ _ [own sv 35 9 ops.length (ops.flatMap Hop.cells)] _
                exact St.sel hw (by repeat (first | exact Pks.nil _ | exact Pk.here _ | apply Pk.there | apply Pks.cons))
              · first | have p73 := of_decide_eq_true h73 | have p73 := of_decide_eq_false h73 | have p73 := ndT h73 | have p73 := ndF h73 | have p73 := nbT h73 | have p73 := nbF h73 | have p73 := h73
                refine sc_false (by rfl) h73 ?_
                refine jc_exit ?_
                refine jk_then_exit ?_
                refine jk_then_exit ?_
                refine jk_block_exit ?_
                refine jk_block ?_
                refine jk_then ?_
                refine sc_region ?_
                refine so_pure (opv_move (by rfl)) (by rfl) rfl ?_
                refine so_pure (opv_add (by rfl) (by rfl) (wrap64_ok (by omega))) (by rfl) rfl ?_
                refine so_pure (opv_assign (by rfl)) (by rfl) rfl ?_
                refine jo_nil ?_
                refine jk_round (j + 1) (by omega) (by show ops.length - (j + 1) < ops.length - j; omega) ⟨rfl, rfl, rfl, trivial⟩ (fun w hw => ?_)
                show St _ _ [own sv 35 9 ops.length (ops.flatMap Hop.cells)] _
                exact St.sel hw (by repeat (first | exact Pks.nil _ | exact Pk.here _ | apply Pk.there | apply Pks.cons))
        · first | have p30 := of_decide_eq_true h30 | have p30 := of_decide_eq_false h30 | have p30 := ndT h30 | have p30 := ndF h30 | have p30 := nbT h30 | have p30 := nbF h30 | have p30 := h30
          refine da_skip hap htm (i := 8) (by rfl) (by kernel_rfl) (listed' := #[true, true, true, true, true, true, true, true, true, false, false, false, false, false, false, false, false, false, false, false, false, false, false, false, false, false, false, false, false, false, false, false, false, false, false]) (by rfl) (wtd_not rfl rfl (by rfl) h30) rfl ?_
          refine da_skip hap htm (i := 9) (by rfl) (by kernel_rfl) (listed' := #[true, true, true, true, true, true, true, true, true, true, false, false, false, false, false, false, false, false, false, false, false, false, false, false, false, false, false, false, false, false, false, false, false, false, false]) (by rfl) (wtd_not rfl rfl (by rfl) h30) rfl ?_
          refine da_skip hap htm (i := 10) (by rfl) (by kernel_rfl) (listed' := #[true, true, true, true, true, true, true, true, true, true, true, false, false, false, false, false, false, false, false, false, false, false, false, false, false, false, false, false, false, false, false, false, false, false, false]) (by rfl) (wtd_not rfl rfl (by rfl) h30) rfl ?_
          refine da_skip hap htm (i := 11) (by rfl) (by kernel_rfl) (listed' := #[true, true, true, true, true, true, true, true, true, true, true, true, false, false, false, false, false, false, false, false, false, false, false, false, false, false, false, false, false, false, false, false, false, false, false]) (by rfl) (wtd_not rfl rfl (by rfl) h30) rfl ?_
          refine da_skip hap htm (i := 12) (by rfl) (by kernel_rfl) (listed' := #[true, true, true, true, true, true, true, true, true, true, true, true, true, false, false, false, false, false, false, false, false, false, false, false, false, false, false, false, false, false, false, false, false, false, false]) (by rfl) (wtd_not rfl rfl (by rfl) h30) rfl ?_
          refine da_skip hap htm (i := 13) (by rfl) (by kernel_rfl) (listed' := #[true, true, true, true, true, true, true, true, true, true, true, true, true, true, false, false, false, false, false, false, false, false, false, false, false, false, false, false, false, false, false, false, false, false, false]) (by rfl) (wtd_not rfl rfl (by rfl) h30) rfl ?_
          refine da_skip hap htm (i := 14) (by rfl) (by kernel_rfl) (listed' := #[true, true, true, true, true, true, true, true, true, true, true, true, true, true, true, false, false, false, false, false, false, false, false, false, false, false, false, false, false, false, false, false, false, false, false]) (by rfl) (wtd_not rfl rfl (by rfl) h30) rfl ?_
          refine da_skip hap htm (i := 15) (by rfl) (by kernel_rfl) (listed' := #[true, true, true, true, true, true, true, true, true, true, true, true, true, true, true, true, false, false, false, false, false, false, false, false, false, false, false, false, false, false, false, false, false, false, false]) (by rfl) (wtd_not rfl rfl (by rfl) h30) rfl ?_
          refine da_skip hap htm (i := 16) (by rfl) (by kernel_rfl) (listed' := #[true, true, true, true, true, true, true, true, true, true, true, true, true, true, true, true, true, false, false, false, false, false, false, false, false, false, false, false, false, false, false, false, false, false, false]) (by rfl) (wtd_not rfl rfl (by rfl) h30) rfl ?_
          refine da_skip hap htm (i := 17) (by rfl) (by kernel_rfl) (listed' := #[true, true, true, true, true, true, true, true, true, true, true, true, true, true, true, true, true, true, false, false, false, false, false, false, false, false, false, false, false, false, false, false, false, false, false]) (by rfl) (wtd_not rfl rfl (by rfl) h30) rfl ?_
          refine da_skip hap htm (i := 18) (by rfl) (by kernel_rfl) (listed' := #[true, true, true, true, true, true, true, true, true, true, true, true, true, true, true, true, true, true, true, false, false, false, false, false, false, false, false, false, false, false, false, false, false, false, false]) (by rfl) (wtd_not rfl rfl (by rfl) h30) rfl ?_
          refine da_any hap htm (i := 19) (by rfl) (by kernel_rfl) (by rfl) (listed' := #[true, true, true, true, true, true, true, true, true, true, true, true, true, true, true, true, true, true, true, true, false, false, false, false, false, false, false, false, false, false, false, false, false, false, false]) (by rfl) (fun _ => (sv_pick_f (by rfl) h30 (by rfl))) (by rfl) rfl ?_
          refine da_any hap htm (i := 20) (by rfl) (by kernel_rfl) (by rfl) (listed' := #[true, true, true, true, true, true, true, true, true, true, true, true, true, true, true, true, true, true, true, true, true, false, false, false, false, false, false, false, false, false, false, false, false, false, false]) (by rfl) (fun _ => (opv_bne (by rfl) (by rfl) Try.underlying4)) (by rfl) rfl ?_
          refine da_any hap htm (i := 21) (by rfl) (by kernel_rfl) (by rfl) (listed' := #[true, true, true, true, true, true, true, true, true, true, true, true, true, true, true, true, true, true, true, true, true, true, false, false, false, false, false, false, false, false, false, false, false, false, false]) (by rfl) (fun _ => (opv_move (by rfl))) (by rfl) rfl ?_
          refine sk_split (x := 65) (by rfl) (fun h78 => ?_) (fun h78 => ?_)
          · first | have p78 := of_decide_eq_true h78 | have p78 := of_decide_eq_false h78 | have p78 := ndT h78 | have p78 := ndF h78 | have p78 := nbT h78 | have p78 := nbF h78 | have p78 := h78
            exact absurd p78 (by simp [ahead, *])
          · first | have p78 := of_decide_eq_true h78 | have p78 := of_decide_eq_false h78 | have p78 := ndT h78 | have p78 := ndF h78 | have p78 := nbT h78 | have p78 := nbF h78 | have p78 := h78
            refine da_any hap htm (i := 22) (by rfl) (by kernel_rfl) (by rfl) (listed' := #[true, true, true, true, true, true, true, true, true, true, true, true, true, true, true, true, true, true, true, true, true, true, true, false, false, false, false, false, false, false, false, false, false, false, false]) (by rfl) (fun _ => (opv_move (by rfl))) (wtd_run rfl rfl (by rfl) h78) rfl ?_
            refine da_any hap htm (i := 23) (by rfl) (by kernel_rfl) (by rfl) (listed' := #[true, true, true, true, true, true, true, true, true, true, true, true, true, true, true, true, true, true, true, true, true, true, true, true, false, false, false, false, false, false, false, false, false, false, false]) (by rfl) (fun _ => (opv_move (by rfl))) (wtd_run rfl rfl (by rfl) h78) rfl ?_
            refine sk_split (x := 67) (by rfl) (fun h25 => ?_) (fun h25 => ?_)
            · first | have p25 := of_decide_eq_true h25 | have p25 := of_decide_eq_false h25 | have p25 := ndT h25 | have p25 := ndF h25 | have p25 := nbT h25 | have p25 := nbF h25 | have p25 := h25
              refine da_any hap htm (i := 24) (by rfl) (by kernel_rfl) (by rfl) (listed' := #[true, true, true, true, true, true, true, true, true, true, true, true, true, true, true, true, true, true, true, true, true, true, true, true, true, false, false, false, false, false, false, false, false, false, false]) (by rfl) (fun _ => (opv_move (by rfl))) (wtd_run rfl rfl (by rfl) h25) rfl ?_
              refine da_any hap htm (i := 25) (by rfl) (by kernel_rfl) (by rfl) (listed' := #[true, true, true, true, true, true, true, true, true, true, true, true, true, true, true, true, true, true, true, true, true, true, true, true, true, true, false, false, false, false, false, false, false, false, false]) (by rfl) (fun _ => (opv_move (by rfl))) (wtd_run rfl rfl (by rfl) h25) rfl ?_
              refine da_any hap htm (i := 26) (by rfl) (by kernel_rfl) (by rfl) (listed' := #[true, true, true, true, true, true, true, true, true, true, true, true, true, true, true, true, true, true, true, true, true, true, true, true, true, true, true, false, false, false, false, false, false, false, false]) (by rfl) (fun _ => (opv_indexAddr_sv (i := j) (by rfl) hsv (by rfl) Try.underlying25 ti35 (by rfl) (by omega))) (wtd_run rfl rfl (by rfl) h25) rfl ?_
              refine da_now [32, 33, 34] hap htm (i := 27) (by rfl) (by kernel_rfl) (by rfl) (listed' := #[true, true, true, true, true, true, true, true, true, true, true, true, true, true, true, true, true, true, true, true, true, true, true, true, true, true, true, true, false, false, false, false, false, false, false]) (by rfl) (by kernel_rfl) (by kernel_rfl) (opv_load_elem (u := oj) Hop.cells_len (by rfl) ag35 ti35 (by repeat (first | exact Pk.here _ | apply Pk.there)) (by omega) hoj) (wtd_run rfl rfl (by rfl) h25) rfl ?_
              refine da_any hap htm (i := 28) (by rfl) (by kernel_rfl) (by rfl) (listed' := #[true, true, true, true, true, true, true, true, true, true, true, true, true, true, true, true, true, true, true, true, true, true, true, true, true, true, true, true, true, false, false, false, false, false, false]) (by rfl) (fun _ => (opv_move (by rfl))) (wtd_run rfl rfl (by rfl) h25) rfl ?_
              refine da_any hap htm (i := 29) (by rfl) (by kernel_rfl) (by rfl) (listed' := #[true, true, true, true, true, true, true, true, true, true, true, true, true, true, true, true, true, true, true, true, true, true, true, true, true, true, true, true, true, true, false, false, false, false, false]) (by rfl) (fun _ => (opv_move (by rfl))) (wtd_run rfl rfl (by rfl) h25) rfl ?_
              refine da_any hap htm (i := 30) (by rfl) (by kernel_rfl) (by rfl) (listed' := #[true, true, true, true, true, true, true, true, true, true, true, true, true, true, true, true, true, true, true, true, true, true, true, true, true, true, true, true, true, true, true, false, false, false, false]) (by rfl) (fun _ => (opv_indexAddr_sv (i := i) (by rfl) hsv (by rfl) Try.underlying25 ti35 (by rfl) (by omega))) (wtd_run rfl rfl (by rfl) h25) rfl ?_
              refine da_now [32, 33, 34] hap htm (i := 31) (by rfl) (by kernel_rfl) (by rfl) (listed' := #[true, true, true, true, true, true, true, true, true, true, true, true, true, true, true, true, true, true, true, true, true, true, true, true, true, true, true, true, true, true, true, true, false, false, false]) (by rfl) (by kernel_rfl) (by kernel_rfl) (opv_load_elem (u := oi) Hop.cells_len (by rfl) ag35 ti35 (by repeat (first | exact Pk.here _ | apply Pk.there)) (by omega) hoi) (wtd_run rfl rfl (by rfl) h25) rfl ?_
              refine da_eff (i := 32) (by rfl) (by kernel_rfl) (by rfl) (listed' := #[true, true, true, true, true, true, true, true, true, true, true, true, true, true, true, true, true, true, true, true, true, true, true, true, true, true, true, true, true, true, true, true, true, false, false]) (by rfl) (eff_call0 (G := fun v New => v = .bool false ∧ New = []) (by rfl) (by rfl) tx10 (by exact fun w1 hw1 => (ahead_spec oj oi w1).mono (fun v _ ⟨hv, hst⟩ => ⟨[], ⟨by rw [ahead_asymm okoi okoj (by assumption)] at hv; exact hv, rfl⟩, hst⟩))) (fun _ _ _ _ hw => cw_nil hw) (wtd_run rfl rfl (by rfl) h25) rfl ?_
              rintro _ _ ⟨_, ⟨rfl, rfl⟩, rfl⟩
              refine da_any hap htm (i := 33) (by rfl) (by kernel_rfl) (by rfl) (listed' := #[true, true, true, true, true, true, true, true, true, true, true, true, true, true, true, true, true, true, true, true, true, true, true, true, true, true, true, true, true, true, true, true, true, true, false]) (by rfl) (fun _ => (sv_pick_t (by rfl) h25 (by rfl))) (wtd_run rfl rfl (by rfl) h78) rfl ?_
              refine da_any hap htm (i := 34) (by rfl) (by kernel_rfl) (by rfl) (listed' := #[true, true, true, true, true, true, true, true, true, true, true, true, true, true, true, true, true, true, true, true, true, true, true, true, true, true, true, true, true, true, true, true, true, true, true]) (by rfl) (fun _ => (sv_pick_f (by rfl) h78 (by rfl))) (by rfl) rfl ?_
              refine da_done (by kernel_rfl) ?_
              refine jk_then ?_
              refine sc_false (by rfl) rfl ?_
              refine jc_skip ?_
              refine jk_then ?_
              refine jc_seq ?_
              refine sc_region ?_
              refine so_pure (opv_assign (by rfl)) (by rfl) rfl ?_
              refine jo_nil ?_
              refine jk_then ?_
              refine jc_block ?_
              refine jc_loop (σ := Nat) (fun k => [(3, sv), (4, .int .i64 i), (5, .int .i64 j), (6, .bool (ahead oi oj)), (7, .int .i64 k)]) (fun k => [own sv 35 9 ops.length (ops.flatMap Hop.cells)]) (fun k => (k ≤ ops.length)) (fun k => ops.length - k) 0 (Nat.zero_le _) ⟨rfl, rfl, rfl, rfl, rfl, trivial⟩ (fun w hw => St.sel hw (by repeat (first | exact Pks.nil _ | exact Pk.here _ | apply Pk.there | apply Pks.cons))) ?_
              rintro k hk
              show Jc _ _ [(3, sv), (4, .int .i64 i), (5, .int .i64 j), (6, .bool (ahead oi oj)), (7, .int .i64 k)] [own sv 35 9 ops.length (ops.flatMap Hop.cells)] _
              refine jc_seq ?_
              refine jc_seq ?_
              refine sc_region ?_
              refine so_pure (opv_move (by rfl)) (by rfl) rfl ?_
              refine so_pure (opv_move (by rfl)) (by rfl) rfl ?_
              refine so_pure (opv_len_sv (by rfl) hsv Try.underlying25) (by rfl) rfl ?_
              refine so_pure (opv_cmp (by rfl) (by rfl) (by rfl)) (by rfl) rfl ?_
              refine jo_nil ?_
              refine jk_then ?_
              refine sk_split (x := 82) (by rfl) (fun h88 => ?_) (fun h88 => ?_)
              · first | have p88 := of_decide_eq_true h88 | have p88 := of_decide_eq_false h88 | have p88 := ndT h88 | have p88 := ndF h88 | have p88 := nbT h88 | have p88 := nbF h88 | have p88 := h88
                refine sc_true (by rfl) h88 ?_
                refine jc_skip ?_
                refine jk_then ?_
                refine jc_seq ?_
                refine jc_block ?_
                refine jc_seq ?_
                have hlok1 : k < ops.length := by omega
                obtain ⟨ok1, hok1⟩ : ∃ x, ops[k]? = some x := ⟨ops[k], List.getElem?_eq_getElem hlok1⟩
                have okok1 := hok ok1 (List.mem_of_getElem? hok1)
                refine so_draw [] (by kernel_rfl) (by kernel_rfl) (by kernel_rfl) rfl (by rfl) (fun hap htm => ?_)
                refine da_any hap htm (i := 0) (by rfl) (by kernel_rfl) (by rfl) (listed' := #[true, false, false, false, false, false, false, false, false, false, false, false, false, false, false, false, false, false, false, false, false, false, false, false]) (by rfl) (fun _ => (opv_move (by rfl))) (by rfl) rfl ?_
                refine da_any hap htm (i := 1) (by rfl) (by kernel_rfl) (by rfl) (listed' := #[true, true, false, false, false, false, false, false, false, false, false, false, false, false, false, false, false, false, false, false, false, false, false, false]) (by rfl) (fun _ => (opv_move (by rfl))) (by rfl) rfl ?_
                refine da_any hap htm (i := 2) (by rfl) (by kernel_rfl) (by rfl) (listed' := #[true, true, true, false, false, false, false, false, false, false, false, false, false, false, false, false, false, false, false, false, false, false, false, false]) (by rfl) (fun _ => (opv_move (by rfl))) (wtd_run rfl rfl (by rfl) h25) rfl ?_
                refine da_any hap htm (i := 3) (by rfl) (by kernel_rfl) (by rfl) (listed' := #[true, true, true, true, false, false, false, false, false, false, false, false, false, false, false, false, false, false, false, false, false, false, false, false]) (by rfl) (fun _ => (opv_move (by rfl))) (wtd_run rfl rfl (by rfl) h25) rfl ?_
                refine da_any hap htm (i := 4) (by rfl) (by kernel_rfl) (by rfl) (listed' := #[true, true, true, true, true, false, false, false, false, false, false, false, false, false, false, false, false, false, false, false, false, false, false, false]) (by rfl) (fun _ => (opv_indexAddr_sv (i := j) (by rfl) hsv (by rfl) Try.underlying25 ti35 (by rfl) (by omega))) (wtd_run rfl rfl (by rfl) h25) rfl ?_
                refine da_now [10, 11, 12, 13, 14, 15, 16, 17, 18, 19, 20, 21, 22, 23] hap htm (i := 5) (by rfl) (by kernel_rfl) (by rfl) (listed' := #[true, true, true, true, true, true, false, false, false, false, false, false, false, false, false, false, false, false, false, false, false, false, false, false]) (by rfl) (by kernel_rfl) (by kernel_rfl) (opv_load_elem (u := oj) Hop.cells_len (by rfl) ag35 ti35 (by repeat (first | exact Pk.here _ | apply Pk.there)) (by omega) hoj) (wtd_run rfl rfl (by rfl) h25) rfl ?_
                refine da_any hap htm (i := 6) (by rfl) (by kernel_rfl) (by rfl) (listed' := #[true, true, true, true, true, true, true, false, false, false, false, false, false, false, false, false, false, false, false, false, false, false, false, false]) (by rfl) (fun _ => (opv_move (by rfl))) (wtd_run rfl rfl (by rfl) h25) rfl ?_
                refine da_any hap htm (i := 7) (by rfl) (by kernel_rfl) (by rfl) (listed' := #[true, true, true, true, true, true, true, true, false, false, false, false, false, false, false, false, false, false, false, false, false, false, false, false]) (by rfl) (fun _ => (opv_move (by rfl))) (wtd_run rfl rfl (by rfl) h25) rfl ?_
                refine da_any hap htm (i := 8) (by rfl) (by kernel_rfl) (by rfl) (listed' := #[true, true, true, true, true, true, true, true, true, false, false, false, false, false, false, false, false, false, false, false, false, false, false, false]) (by rfl) (fun _ => (opv_indexAddr_sv (i := k) (by rfl) hsv (by rfl) Try.underlying25 ti35 (by rfl) (by omega))) (wtd_run rfl rfl (by rfl) h25) rfl ?_
                refine da_now [10, 11, 12, 13, 14, 15, 16, 17, 18, 19, 20, 21, 22, 23] hap htm (i := 9) (by rfl) (by kernel_rfl) (by rfl) (listed' := #[true, true, true, true, true, true, true, true, true, true, false, false, false, false, false, false, false, false, false, false, false, false, false, false]) (by rfl) (by kernel_rfl) (by kernel_rfl) (opv_load_elem (u := ok1) Hop.cells_len (by rfl) ag35 ti35 (by repeat (first | exact Pk.here _ | apply Pk.there)) (by omega) hok1) (wtd_run rfl rfl (by rfl) h25) rfl ?_
                refine da_eff (i := 10) (by rfl) (by kernel_rfl) (by rfl) (listed' := #[true, true, true, true, true, true, true, true, true, true, true, false, false, false, false, false, false, false, false, false, false, false, false, false]) (by rfl) (eff_call0 (G := fun v New => v = .bool (ahead oj ok1) ∧ New = []) (by rfl) (by rfl) tx10 (by exact fun w1 hw1 => (ahead_spec oj ok1 w1).mono (fun v _ ⟨hv, hst⟩ => ⟨[], ⟨hv, rfl⟩, hst⟩))) (fun _ _ _ _ hw => cw_nil hw) (wtd_run rfl rfl (by rfl) h25) rfl ?_
                rintro _ _ ⟨_, ⟨rfl, rfl⟩, rfl⟩
                refine da_any hap htm (i := 11) (by rfl) (by kernel_rfl) (by rfl) (listed' := #[true, true, true, true, true, true, true, true, true, true, true, true, false, false, false, false, false, false, false, false, false, false, false, false]) (by rfl) (fun _ => (sv_pick_t (by rfl) h25 (by rfl))) (by rfl) rfl ?_
                refine da_any hap htm (i := 12) (by rfl) (by kernel_rfl) (by rfl) (listed' := #[true, true, true, true, true, true, true, true, true, true, true, true, true, false, false, false, false, false, false, false, false, false, false, false]) (by rfl) (fun _ => (opv_move (by rfl))) (by rfl) rfl ?_
                refine sk_split (x := 97) (by rfl) (fun h95 => ?_) (fun h95 => ?_)
                · first | have p95 := of_decide_eq_true h95 | have p95 := of_decide_eq_false h95 | have p95 := ndT h95 | have p95 := ndF h95 | have p95 := nbT h95 | have p95 := nbF h95 | have p95 := h95
                  refine da_any hap htm (i := 13) (by rfl) (by kernel_rfl) (by rfl) (listed' := #[true, true, true, true, true, true, true, true, true, true, true, true, true, true, false, false, false, false, false, false, false, false, false, false]) (by rfl) (fun _ => (opv_move (by rfl))) (wtd_run rfl rfl (by rfl) h95) rfl ?_
                  refine da_any hap htm (i := 14) (by rfl) (by kernel_rfl) (by rfl) (listed' := #[true, true, true, true, true, true, true, true, true, true, true, true, true, true, true, false, false, false, false, false, false, false, false, false]) (by rfl) (fun _ => (opv_move (by rfl))) (wtd_run rfl rfl (by rfl) h95) rfl ?_
                  refine da_any hap htm (i := 15) (by rfl) (by kernel_rfl) (by rfl) (listed' := #[true, true, true, true, true, true, true, true, true, true, true, true, true, true, true, true, false, false, false, false, false, false, false, false]) (by rfl) (fun _ => (opv_indexAddr_sv (i := i) (by rfl) hsv (by rfl) Try.underlying25 ti35 (by rfl) (by omega))) (wtd_run rfl rfl (by rfl) h95) rfl ?_
                  refine da_now [21, 22, 23] hap htm (i := 16) (by rfl) (by kernel_rfl) (by rfl) (listed' := #[true, true, true, true, true, true, true, true, true, true, true, true, true, true, true, true, true, false, false, false, false, false, false, false]) (by rfl) (by kernel_rfl) (by kernel_rfl) (opv_load_elem (u := oi) Hop.cells_len (by rfl) ag35 ti35 (by repeat (first | exact Pk.here _ | apply Pk.there)) (by omega) hoi) (wtd_run rfl rfl (by rfl) h95) rfl ?_
                  refine da_any hap htm (i := 17) (by rfl) (by kernel_rfl) (by rfl) (listed' := #[true, true, true, true, true, true, true, true, true, true, true, true, true, true, true, true, true, true, false, false, false, false, false, false]) (by rfl) (fun _ => (opv_move (by rfl))) (wtd_run rfl rfl (by rfl) h95) rfl ?_
                  refine da_any hap htm (i := 18) (by rfl) (by kernel_rfl) (by rfl) (listed' := #[true, true, true, true, true, true, true, true, true, true, true, true, true, true, true, true, true, true, true, false, false, false, false, false]) (by rfl) (fun _ => (opv_move (by rfl))) (wtd_run rfl rfl (by rfl) h95) rfl ?_
                  refine da_any hap htm (i := 19) (by rfl) (by kernel_rfl) (by rfl) (listed' := #[true, true, true, true, true, true, true, true, true, true, true, true, true, true, true, true, true, true, true, true, false, false, false, false]) (by rfl) (fun _ => (opv_indexAddr_sv (i := k) (by rfl) hsv (by rfl) Try.underlying25 ti35 (by rfl) (by omega))) (wtd_run rfl rfl (by rfl) h95) rfl ?_
                  refine da_now [21, 22, 23] hap htm (i := 20) (by rfl) (by kernel_rfl) (by rfl) (listed' := #[true, true, true, true, true, true, true, true, true, true, true, true, true, true, true, true, true, true, true, true, true, false, false, false]) (by rfl) (by kernel_rfl) (by kernel_rfl) (opv_load_elem (u := ok1) Hop.cells_len (by rfl) ag35 ti35 (by repeat (first | exact Pk.here _ | apply Pk.there)) (by omega) hok1) (wtd_run rfl rfl (by rfl) h95) rfl ?_
                  refine da_eff (i := 21) (by rfl) (by kernel_rfl) (by rfl) (listed' := #[true, true, true, true, true, true, true, true, true, true, true, true, true, true, true, true, true, true, true, true, true, true, false, false]) (by rfl) (eff_call0 (G := fun v New => v = .bool true ∧ New = []) (by rfl) (by rfl) tx10 (by exact fun w1 hw1 => (ahead_spec oi ok1 w1).mono (fun v _ ⟨hv, hst⟩ => ⟨[], ⟨by rw [ahead_trans okoj (by assumption) (by assumption)] at hv; exact hv, rfl⟩, hst⟩))) (fun _ _ _ _ hw => cw_nil hw) (wtd_run rfl rfl (by rfl) h95) rfl ?_
                  rintro _ _ ⟨_, ⟨rfl, rfl⟩, rfl⟩
                  refine da_any hap htm (i := 22) (by rfl) (by kernel_rfl) (by rfl) (listed' := #[true, true, true, true, true, true, true, true, true, true, true, true, true, true, true, true, true, true, true, true, true, true, true, false]) (by rfl) (fun _ => (opv_not (by rfl))) (wtd_run rfl rfl (by rfl) h95) rfl ?_
                  refine da_any hap htm (i := 23) (by rfl) (by kernel_rfl) (by rfl) (listed' := #[true, true, true, true, true, true, true, true, true, true, true, true, true, true, true, true, true, true, true, true, true, true, true, true]) (by rfl) (fun _ => (sv_pick_t (by rfl) h95 (by rfl))) (by rfl) rfl ?_
                  refine da_done (by kernel_rfl) ?_
                  refine jk_then ?_
                  refine sc_false (by rfl) rfl ?_
                  refine jc_skip ?_
                  refine jk_block ?_
                  refine jk_then ?_
                  refine sc_region ?_
                  refine so_pure (opv_move (by rfl)) (by rfl) rfl ?_
                  refine so_pure (opv_add (by rfl) (by rfl) (wrap64_ok (by omega))) (by rfl) rfl ?_
                  refine so_pure (opv_assign (by rfl)) (by rfl) rfl ?_
                  refine jo_nil ?_
                  refine jk_round (k + 1) (by omega) (by show ops.length - (k + 1) < ops.length - k; omega) ⟨rfl, rfl, rfl, rfl, rfl, trivial⟩ (fun w hw => ?_)
                  show St _ _ [own sv 35 9 ops.length (ops.flatMap Hop.cells)] _
                  exact St.sel hw (by repeat (first | exact Pks.nil _ | exact Pk.here _ | apply Pk.there | apply Pks.cons))
                · first | have p95 := of_decide_eq_true h95 | have p95 := of_decide_eq_false h95 | have p95 := ndT h95 | have p95 := ndF h95 | have p95 := nbT h95 | have p95 := nbF h95 | have p95 := h95
                  refine da_skip hap htm (i := 13) (by rfl) (by kernel_rfl) (listed' := #[true, true, true, true, true, true, true, true, true, true, true, true, true, true, false, false, false, false, false, false, false, false, false, false]) (by rfl) (wtd_not rfl rfl (by rfl) h95) rfl ?_
                  refine da_skip hap htm (i := 14) (by rfl) (by kernel_rfl) (listed' := #[true, true, true, true, true, true, true, true, true, true, true, true, true, true, true, false, false, false, false, false, false, false, false, false]) (by rfl) (wtd_not rfl rfl (by rfl) h95) rfl ?_
                  refine da_skip hap htm (i := 15) (by rfl) (by kernel_rfl) (listed' := #[true, true, true, true, true, true, true, true, true, true, true, true, true, true, true, true, false, false, false, false, false, false, false, false]) (by rfl) (wtd_not rfl rfl (by rfl) h95) rfl ?_
                  refine da_skip hap htm (i := 16) (by rfl) (by kernel_rfl) (listed' := #[true, true, true, true, true, true, true, true, true, true, true, true, true, true, true, true, true, false, false, false, false, false, false, false]) (by rfl) (wtd_not rfl rfl (by rfl) h95) rfl ?_
                  refine da_skip hap htm (i := 17) (by rfl) (by kernel_rfl) (listed' := #[true, true, true, true, true, true, true, true, true, true, true, true, true, true, true, true, true, true, false, false, false, false, false, false]) (by rfl) (wtd_not rfl rfl (by rfl) h95) rfl ?_
                  refine da_skip hap htm (i := 18) (by rfl) (by kernel_rfl) (listed' := #[true, true, true, true, true, true, true, true, true, true, true, true, true, true, true, true, true, true, true, false, false, false, false, false]) (by rfl) (wtd_not rfl rfl (by rfl) h95) rfl ?_
                  refine da_skip hap htm (i := 19) (by rfl) (by kernel_rfl) (listed' := #[true, true, true, true, true, true, true, true, true, true, true, true, true, true, true, true, true, true, true, true, false, false, false, false]) (by rfl) (wtd_not rfl rfl (by rfl) h95) rfl ?_
                  refine da_skip hap htm (i := 20) (by rfl) (by kernel_rfl) (listed' := #[true, true, true, true, true, true, true, true, true, true, true, true, true, true, true, true, true, true, true, true, true, false, false, false]) (by rfl) (wtd_not rfl rfl (by rfl) h95) rfl ?_
                  refine da_skip hap htm (i := 21) (by rfl) (by kernel_rfl) (listed' := #[true, true, true, true, true, true, true, true, true, true, true, true, true, true, true, true, true, true, true, true, true, true, false, false]) (by rfl) (wtd_not rfl rfl (by rfl) h95) rfl ?_
                  refine da_skip hap htm (i := 22) (by rfl) (by kernel_rfl) (listed' := #[true, true, true, true, true, true, true, true, true, true, true, true, true, true, true, true, true, true, true, true, true, true, true, false]) (by rfl) (wtd_not rfl rfl (by rfl) h95) rfl ?_
                  refine da_any hap htm (i := 23) (by rfl) (by kernel_rfl) (by rfl) (listed' := #[true, true, true, true, true, true, true, true, true, true, true, true, true, true, true, true, true, true, true, true, true, true, true, true]) (by rfl) (fun _ => (sv_pick_f (by rfl) h95 (by rfl))) (by rfl) rfl ?_
                  refine da_done (by kernel_rfl) ?_
                  refine jk_then ?_
                  refine sc_false (by rfl) rfl ?_
                  refine jc_skip ?_
                  refine jk_block ?_
                  refine jk_then ?_
                  refine sc_region ?_
                  refine so_pure (opv_move (by rfl)) (by rfl) rfl ?_
                  refine so_pure (opv_add (by rfl) (by rfl) (wrap64_ok (by omega))) (by rfl) rfl ?_
                  refine so_pure (opv_assign (by rfl)) (by rfl) rfl ?_
                  refine jo_nil ?_
                  refine jk_round (k + 1) (by omega) (by show ops.length - (k + 1) < ops.length - k; omega) ⟨rfl, rfl, rfl, rfl, rfl, trivial⟩ (fun w hw => ?_)
                  show St _ _ [own sv 35 9 ops.length (ops.flatMap Hop.cells)] _
                  exact St.sel hw (by repeat (first | exact Pks.nil _ | exact Pk.here _ | apply Pk.there | apply Pks.cons))
              · first | have p88 := of_decide_eq_true h88 | have p88 := of_decide_eq_false h88 | have p88 := ndT h88 | have p88 := ndF h88 | have p88 := nbT h88 | have p88 := nbF h88 | have p88 := h88
                refine sc_false (by rfl) h88 ?_
                refine jc_exit ?_
                refine jk_then_exit ?_
                refine jk_then_exit ?_
                refine jk_block_exit ?_
                refine jk_block ?_
                refine jk_then ?_
                refine sc_region ?_
                refine so_pure (opv_move (by rfl)) (by rfl) rfl ?_
                refine so_pure (opv_add (by rfl) (by rfl) (wrap64_ok (by omega))) (by rfl) rfl ?_
                refine so_pure (opv_assign (by rfl)) (by rfl) rfl ?_
                refine jo_nil ?_
                refine jk_round (j + 1) (by omega) (by show ops.length - (j + 1) < ops.length - j; omega) ⟨rfl, rfl, rfl, trivial⟩ (fun w hw => ?_)
                show St _ _ [own sv 35 9 ops.length (ops.flatMap Hop.cells)] _
                exact St.sel hw (by repeat (first | exact Pks.nil _ | exact Pk.here _ | apply Pk.there | apply Pks.cons))
            · first | have p25 := of_decide_eq_true h25 | have p25 := of_decide_eq_false h25 | have p25 := ndT h25 | have p25 := ndF h25 | have p25 := nbT h25 | have p25 := nbF h25 | have p25 := h25
              refine da_skip hap htm (i := 24) (by rfl) (by kernel_rfl) (listed' := #[true, true, true, true, true, true, true, true, true, true, true, true, true, true, true, true, true, true, true, true, true, true, true, true, true, false, false, false, false, false, false, false, false, false, false]) (by rfl) (wtd_not rfl rfl (by rfl) h25) rfl ?_
              refine da_skip hap htm (i := 25) (by rfl) (by kernel_rfl) (listed' := #[true, true, true, true, true, true, true, true, true, true, true, true, true, true, true, true, true, true, true, true, true, true, true, true, true, true, false, false, false, false, false, false, false, false, false]) (by rfl) (wtd_not rfl rfl (by rfl) h25) rfl ?_
              refine da_skip hap htm (i := 26) (by rfl) (by kernel_rfl) (listed' := #[true, true, true, true, true, true, true, true, true, true, true, true, true, true, true, true, true, true, true, true, true, true, true, true, true, true, true, false, false, false, false, false, false, false, false]) (by rfl) (wtd_not rfl rfl (by rfl) h25) rfl ?_
              refine da_skip hap htm (i := 27) (by rfl) (by kernel_rfl) (listed' := #[true, true, true, true, true, true, true, true, true, true, true, true, true, true, true, true, true, true, true, true, true, true, true, true, true, true, true, true, false, false, false, false, false, false, false]) (by rfl) (wtd_not rfl rfl (by rfl) h25) rfl ?_
              refine da_skip hap htm (i := 28) (by rfl) (by kernel_rfl) (listed' := #[true, true, true, true, true, true, true, true, true, true, true, true, true, true, true, true, true, true, true, true, true, true, true, true, true, true, true, true, true, false, false, false, false, false, false]) (by rfl) (wtd_not rfl rfl (by rfl) h25) rfl ?_
              refine da_skip hap htm (i := 29) (by rfl) (by kernel_rfl) (listed' := #[true, true, true, true, true, true, true, true, true, true, true, true, true, true, true, true, true, true, true, true, true, true, true, true, true, true, true, true, true, true, false, false, false, false, false]) (by rfl) (wtd_not rfl rfl (by rfl) h25) rfl ?_
              refine da_skip hap htm (i := 30) (by rfl) (by kernel_rfl) (listed' := #[true, true, true, true, true, true, true, true, true, true, true, true, true, true, true, true, true, true, true, true, true, true, true, true, true, true, true, true, true, true, true, false, false, false, false]) (by rfl) (wtd_not rfl rfl (by rfl) h25) rfl ?_
              refine da_skip hap htm (i := 31) (by rfl) (by kernel_rfl) (listed' := #[true, true, true, true, true, true, true, true, true, true, true, true, true, true, true, true, true, true, true, true, true, true, true, true, true, true, true, true, true, true, true, true, false, false, false]) (by rfl) (wtd_not rfl rfl (by rfl) h25) rfl ?_
              refine da_skip hap htm (i := 32) (by rfl) (by kernel_rfl) (listed' := #[true, true, true, true, true, true, true, true, true, true, true, true, true, true, true, true, true, true, true, true, true, true, true, true, true, true, true, true, true, true, true, true, true, false, false]) (by rfl) (wtd_not rfl rfl (by rfl) h25) rfl ?_
              refine da_any hap htm (i := 33) (by rfl) (by kernel_rfl) (by rfl) (listed' := #[true, true, true, true, true, true, true, true, true, true, true, true, true, true, true, true, true, true, true, true, true, true, true, true, true, true, true, true, true, true, true, true, true, true, false]) (by rfl) (fun _ => (sv_pick_f (by rfl) h25 (by rfl))) (wtd_run rfl rfl (by rfl) h78) rfl ?_
              refine da_any hap htm (i := 34) (by rfl) (by kernel_rfl) (by rfl) (listed' := #[true, true, true, true, true, true, true, true, true, true, true, true, true, true, true, true, true, true, true, true, true, true, true, true, true, true, true, true, true, true, true, true, true, true, true]) (by rfl) (fun _ => (sv_pick_f (by rfl) h78 (by rfl))) (by rfl) rfl ?_
              refine da_done (by kernel_rfl) ?_
              refine jk_then ?_
              refine sc_false (by rfl) rfl ?_
              refine jc_skip ?_
              refine jk_then ?_
              refine jc_seq ?_
              refine sc_region ?_
              refine so_pure (opv_assign (by rfl)) (by rfl) rfl ?_
              refine jo_nil ?_
              refine jk_then ?_
              refine jc_block ?_
              refine jc_loop (σ := Nat) (fun k => [(3, sv), (4, .int .i64 i), (5, .int .i64 j), (6, .bool (ahead oi oj)), (7, .int .i64 k)]) (fun k => [own sv 35 9 ops.length (ops.flatMap Hop.cells)]) (fun k => (k ≤ ops.length)) (fun k => ops.length - k) 0 (Nat.zero_le _) ⟨rfl, rfl, rfl, rfl, rfl, trivial⟩ (fun w hw => St.sel hw (by repeat (first | exact Pks.nil _ | exact Pk.here _ | apply Pk.there | apply Pks.cons))) ?_
              rintro k hk
              show Jc _ _ [(3, sv), (4, .int .i64 i), (5, .int .i64 j), (6, .bool (ahead oi oj)), (7, .int .i64 k)] [own sv 35 9 ops.length (ops.flatMap Hop.cells)] _
              refine jc_seq ?_
              refine jc_seq ?_
              refine sc_region ?_
              refine so_pure (opv_move (by rfl)) (by rfl) rfl ?_
              refine so_pure (opv_move (by rfl)) (by rfl) rfl ?_
              refine so_pure (opv_len_sv (by rfl) hsv Try.underlying25) (by rfl) rfl ?_
              refine so_pure (opv_cmp (by rfl) (by rfl) (by rfl)) (by rfl) rfl ?_
              refine jo_nil ?_
              refine jk_then ?_
              refine sk_split (x := 82) (by rfl) (fun h111 => ?_) (fun h111 => ?_)
              · first | have p111 := of_decide_eq_true h111 | have p111 := of_decide_eq_false h111 | have p111 := ndT h111 | have p111 := ndF h111 | have p111 := nbT h111 | have p111 := nbF h111 | have p111 := h111
                refine sc_true (by rfl) h111 ?_
                refine jc_skip ?_
                refine jk_then ?_
                refine jc_seq ?_
                refine jc_block ?_
                refine jc_seq ?_
                have hlok1 : k < ops.length := by omega
                obtain ⟨ok1, hok1⟩ : ∃ x, ops[k]? = some x := ⟨ops[k], List.getElem?_eq_getElem hlok1⟩
                have okok1 := hok ok1 (List.mem_of_getElem? hok1)
                refine so_draw [] (by kernel_rfl) (by kernel_rfl) (by kernel_rfl) rfl (by rfl) (fun hap htm => ?_)
                refine da_any hap htm (i := 0) (by rfl) (by kernel_rfl) (by rfl) (listed' := #[true, false, false, false, false, false, false, false, false, false, false, false, false, false, false, false, false, false, false, false, false, false, false, false]) (by rfl) (fun _ => (opv_move (by rfl))) (by rfl) rfl ?_
                refine da_any hap htm (i := 1) (by rfl) (by kernel_rfl) (by rfl) (listed' := #[true, true, false, false, false, false, false, false, false, false, false, false, false, false, false, false, false, false, false, false, false, false, false, false]) (by rfl) (fun _ => (opv_move (by rfl))) (by rfl) rfl ?_
                refine da_skip hap htm (i := 2) (by rfl) (by kernel_rfl) (listed' := #[true, true, true, false, false, false, false, false, false, false, false, false, false, false, false, false, false, false, false, false, false, false, false, false]) (by rfl) (wtd_not rfl rfl (by rfl) h25) rfl ?_
                refine da_skip hap htm (i := 3) (by rfl) (by kernel_rfl) (listed' := #[true, true, true, true, false, false, false, false, false, false, false, false, false, false, false, false, false, false, false, false, false, false, false, false]) (by rfl) (wtd_not rfl rfl (by rfl) h25) rfl ?_
                refine da_skip hap htm (i := 4) (by rfl) (by kernel_rfl) (listed' := #[true, true, true, true, true, false, false, false, false, false, false, false, false, false, false, false, false, false, false, false, false, false, false, false]) (by rfl) (wtd_not rfl rfl (by rfl) h25) rfl ?_
                refine da_skip hap htm (i := 5) (by rfl) (by kernel_rfl) (listed' := #[true, true, true, true, true, true, false, false, false, false, false, false, false, false, false, false, false, false, false, false, false, false, false, false]) (by rfl) (wtd_not rfl rfl (by rfl) h25) rfl ?_
                refine da_skip hap htm (i := 6) (by rfl) (by kernel_rfl) (listed' := #[true, true, true, true, true, true, true, false, false, false, false, false, false, false, false, false, false, false, false, false, false, false, false, false]) (by rfl) (wtd_not rfl rfl (by rfl) h25) rfl ?_
                refine da_skip hap htm (i := 7) (by rfl) (by kernel_rfl) (listed' := #[true, true, true, true, true, true, true, true, false, false, false, false, false, false, false, false, false, false, false, false, false, false, false, false]) (by rfl) (wtd_not rfl rfl (by rfl) h25) rfl ?_
                refine da_skip hap htm (i := 8) (by rfl) (by kernel_rfl) (listed' := #[true, true, true, true, true, true, true, true, true, false, false, false, false, false, false, false, false, false, false, false, false, false, false, false]) (by rfl) (wtd_not rfl rfl (by rfl) h25) rfl ?_
                refine da_skip hap htm (i := 9) (by rfl) (by kernel_rfl) (listed' := #[true, true, true, true, true, true, true, true, true, true, false, false, false, false, false, false, false, false, false, false, false, false, false, false]) (by rfl) (wtd_not rfl rfl (by rfl) h25) rfl ?_
                refine da_skip hap htm (i := 10) (by rfl) (by kernel_rfl) (listed' := #[true, true, true, true, true, true, true, true, true, true, true, false, false, false, false, false, false, false, false, false, false, false, false, false]) (by rfl) (wtd_not rfl rfl (by rfl) h25) rfl ?_
                refine da_any hap htm (i := 11) (by rfl) (by kernel_rfl) (by rfl) (listed' := #[true, true, true, true, true, true, true, true, true, true, true, true, false, false, false, false, false, false, false, false, false, false, false, false]) (by rfl) (fun _ => (sv_pick_f (by rfl) h25 (by rfl))) (by rfl) rfl ?_
                refine da_any hap htm (i := 12) (by rfl) (by kernel_rfl) (by rfl) (listed' := #[true, true, true, true, true, true, true, true, true, true, true, true, true, false, false, false, false, false, false, false, false, false, false, false]) (by rfl) (fun _ => (opv_move (by rfl))) (by rfl) rfl ?_
                refine da_skip hap htm (i := 13) (by rfl) (by kernel_rfl) (listed' := #[true, true, true, true, true, true, true, true, true, true, true, true, true, true, false, false, false, false, false, false, false, false, false, false]) (by rfl) (wtd_not rfl rfl (by rfl) rfl) rfl ?_
                refine da_skip hap htm (i := 14) (by rfl) (by kernel_rfl) (listed' := #[true, true, true, true, true, true, true, true, true, true, true, true, true, true, true, false, false, false, false, false, false, false, false, false]) (by rfl) (wtd_not rfl rfl (by rfl) rfl) rfl ?_
                refine da_skip hap htm (i := 15) (by rfl) (by kernel_rfl) (listed' := #[true, true, true, true, true, true, true, true, true, true, true, true, true, true, true, true, false, false, false, false, false, false, false, false]) (by rfl) (wtd_not rfl rfl (by rfl) rfl) rfl ?_
                refine da_skip hap htm (i := 16) (by rfl) (by kernel_rfl) (listed' := #[true, true, true, true, true, true, true, true, true, true, true, true, true, true, true, true, true, false, false, false, false, false, false, false]) (by rfl) (wtd_not rfl rfl (by rfl) rfl) rfl ?_
                refine da_skip hap htm (i := 17) (by rfl) (by kernel_rfl) (listed' := #[true, true, true, true, true, true, true, true, true, true, true, true, true, true, true, true, true, true, false, false, false, false, false, false]) (by rfl) (wtd_not rfl rfl (by rfl) rfl) rfl ?_
                refine da_skip hap htm (i := 18) (by rfl) (by kernel_rfl) (listed' := #[true, true, true, true, true, true, true, true, true, true, true, true, true, true, true, true, true, true, true, false, false, false, false, false]) (by rfl) (wtd_not rfl rfl (by rfl) rfl) rfl ?_
                refine da_skip hap htm (i := 19) (by rfl) (by kernel_rfl) (listed' := #[true, true, true, true, true, true, true, true, true, true, true, true, true, true, true, true, true, true, true, true, false, false, false, false]) (by rfl) (wtd_not rfl rfl (by rfl) rfl) rfl ?_
                refine da_skip hap htm (i := 20) (by rfl) (by kernel_rfl) (listed' := #[true, true, true, true, true, true, true, true, true, true, true, true, true, true, true, true, true, true, true, true, true, false, false, false]) (by rfl) (wtd_not rfl rfl (by rfl) rfl) rfl ?_
                refine da_skip hap htm (i := 21) (by rfl) (by kernel_rfl) (listed' := #[true, true, true, true, true, true, true, true, true, true, true, true, true, true, true, true, true, true, true, true, true, true, false, false]) (by rfl) (wtd_not rfl rfl (by rfl) rfl) rfl ?_
                refine da_skip hap htm (i := 22) (by rfl) (by kernel_rfl) (listed' := #[true, true, true, true, true, true, true, true, true, true, true, true, true, true, true, true, true, true, true, true, true, true, true, false]) (by rfl) (wtd_not rfl rfl (by rfl) rfl) rfl ?_
                refine da_any hap htm (i := 23) (by rfl) (by kernel_rfl) (by rfl) (listed' := #[true, true, true, true, true, true, true, true, true, true, true, true, true, true, true, true, true, true, true, true, true, true, true, true]) (by rfl) (fun _ => (sv_pick_f (by rfl) rfl (by rfl))) (by rfl) rfl ?_
                refine da_done (by kernel_rfl) ?_
                refine jk_then ?_
                refine sc_false (by rfl) rfl ?_
                refine jc_skip ?_
                refine jk_block ?_
                refine jk_then ?_
                refine sc_region ?_
                refine so_pure (opv_move (by rfl)) (by rfl) rfl ?_
                refine so_pure (opv_add (by rfl) (by rfl) (wrap64_ok (by omega))) (by rfl) rfl ?_
                refine so_pure (opv_assign (by rfl)) (by rfl) rfl ?_
                refine jo_nil ?_
                refine jk_round (k + 1) (by omega) (by show ops.length - (k + 1) < ops.length - k; omega) ⟨rfl, rfl, rfl, rfl, rfl, trivial⟩ (fun w hw => ?_)
                show St _ _ [own sv 35 9 ops.length (ops.flatMap Hop.cells)] _
                exact St.sel hw (by repeat (first | exact Pks.nil _ | exact Pk.here _ | apply Pk.there | apply Pks.cons))
              · first | have p111 := of_decide_eq_true h111 | have p111 := of_decide_eq_false h111 | have p111 := ndT h111 | have p111 := ndF h111 | have p111 := nbT h111 | have p111 := nbF h111 | have p111 := h111
                refine sc_false (by rfl) h111 ?_
                refine jc_exit ?_
                refine jk_then_exit ?_
                refine jk_then_exit ?_
                refine jk_block_exit ?_
                refine jk_block ?_
                refine jk_then ?_
                refine sc_region ?_
                refine so_pure (opv_move (by rfl)) (by rfl) rfl ?_
                refine so_pure (opv_add (by rfl) (by rfl) (wrap64_ok (by omega))) (by rfl) rfl ?_
                refine so_pure (opv_assign (by rfl)) (by rfl) rfl ?_
                refine jo_nil ?_
                refine jk_round (j + 1) (by omega) (by show ops.length - (j + 1) < ops.length - j; omega) ⟨rfl, rfl, rfl, trivial⟩ (fun w hw => ?_)
                show St _ _ [own sv 35 9 ops.length (ops.flatMap Hop.cells)] _
                exact St.sel hw (by repeat (first | exact Pks.nil _ | exact Pk.here _ | apply Pk.there | apply Pks.cons))
      · first | have p18 := of_decide_eq_true h18 | have p18 := of_decide_eq_false h18 | have p18 := ndT h18 | have p18 := ndF h18 | have p18 := nbT h18 | have p18 := nbF h18 | have p18 := h18
        refine sc_false (by rfl) h18 ?_
        refine jc_exit ?_
        refine jk_then_exit ?_
        refine jk_then_exit ?_
        refine jk_block_exit ?_
        refine jk_block ?_
        refine jk_then ?_
        refine sc_region ?_
        refine so_pure (opv_move (by rfl)) (by rfl) rfl ?_
        refine so_pure (opv_add (by rfl) (by rfl) (wrap64_ok (by omega))) (by rfl) rfl ?_
        refine so_pure (opv_assign (by rfl)) (by rfl) rfl ?_
        refine jo_nil ?_
        refine jk_round (i + 1) (by omega) (by show ops.length - (i + 1) < ops.length - i; omega) ⟨rfl, rfl, trivial⟩ (fun w hw => ?_)
        show St _ _ [own sv 35 9 ops.length (ops.flatMap Hop.cells)] _
        exact St.sel hw (by repeat (first | exact Pks.nil _ | exact Pk.here _ | apply Pk.there | apply Pks.cons))
    · first | have p8 := of_decide_eq_true h8 | have p8 := of_decide_eq_false h8 | have p8 := ndT h8 | have p8 := ndF h8 | have p8 := nbT h8 | have p8 := nbF h8 | have p8 := h8
      refine sc_false (by rfl) h8 ?_
      refine jc_exit ?_
      refine jk_then_exit ?_
      refine jk_then_exit ?_
      refine jk_block_exit ?_
      refine jk_then ?_
      refine jc_seq ?_
      refine sc_region ?_
      refine so_eff (eff_call0 (G := fun v New => v = .bool true ∧ New = []) (by rfl) (by rfl) tx8 (by exact fun w1 hw1 => (live_spec w1).mono (fun v _ ⟨hv, hst⟩ => ⟨[], ⟨hv, rfl⟩, hst⟩))) (by rfl) rfl ?_
      rintro _ _ ⟨_, ⟨rfl, rfl⟩, rfl⟩
      refine so_pure (opv_assign (by rfl)) (by rfl) rfl ?_
      refine jo_nil ?_
      refine jk_then ?_
      refine jc_ret ?_
      refine jk_fn_ret rfl rfl (by rfl) (fun w hw => ?_)
      exact ⟨rfl, hw.forget⟩
end Go.Hist
