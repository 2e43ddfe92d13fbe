/- A part of a proof for the laws of the seat Ytcjhahjjeicmoaa; it has no conditions of its own. -/
import Derived.Test.YtcjhahjjeicmoaaHW9
namespace Go.Hist
open Go Go.SL Go.Proofs
set_option maxHeartbeats 4000000 in
theorem law_ops (w : World) (A : Option Addr) (n cap : Nat) (xs : List Ev) (hs : SlR w 39 8 Ev.cells A n xs) (hn : n ≤ 9223372036854775807) : Does Try.prog 5 #[.slice A n cap] w (fun v w' => v = .bool true ∧ St w Emp [] w') := by
  refine fn_body (fn := Try.f5) Try.func5 rfl [(0, .slice A n cap)] (by exact ⟨rfl, trivial⟩) rfl (St.start w) ?_
  refine jc_seq ?_
  refine sc_region ?_
  refine so_pure (opv_assign (by rfl)) (by rfl) rfl ?_
  refine jo_nil ?_
  refine jk_then ?_
  refine jc_seq ?_
  refine jc_seq ?_
  refine sc_region ?_
  refine so_pure (opv_move (by rfl)) (by rfl) rfl ?_
  refine so_eff (eff_call0 (G := fun v New => v = .bool (small xs 40) ∧ New = []) (by rfl) (by rfl) tx7 (by exact fun w1 hw1 => (small17_spec w1 A n cap xs (hs.keepSt hw1) hn 40).mono (fun v _ ⟨hv, hst⟩ => ⟨[], ⟨hv, rfl⟩, hst⟩))) (by rfl) rfl ?_
  rintro _ _ ⟨_, ⟨rfl, rfl⟩, rfl⟩
  refine so_pure (opv_not (by rfl)) (by rfl) rfl ?_
  refine so_pure (opv_move (by rfl)) (by rfl) rfl ?_
  refine sk_split (x := 9) (by rfl) (fun h2 => ?_) (fun h2 => ?_)
  · first | have p2 := of_decide_eq_true h2 | have p2 := of_decide_eq_false h2 | have p2 := ndT h2 | have p2 := ndF h2 | have p2 := nbT h2 | have p2 := nbF h2 | have p2 := h2
    refine so_skip (wtd_not rfl rfl (by rfl) (not_t (by simpa using h2))) rfl ?_
    refine so_skip (wtd_not rfl rfl (by rfl) (not_t (by simpa using h2))) rfl ?_
    refine so_skip (wtd_not rfl rfl (by rfl) (not_t (by simpa using h2))) rfl ?_
    refine so_pure (sv_pick_t (by rfl) (not_t (by simpa using h2)) (by rfl)) (by rfl) rfl ?_
    refine jo_nil ?_
    refine jk_then ?_
    refine sc_true (by rfl) rfl ?_
    refine jc_seq ?_
    refine sc_region ?_
    refine so_pure (opv_move (by rfl)) (by rfl) rfl ?_
    refine so_pure (opv_len_slice (by rfl) Try.underlying22) (by rfl) rfl ?_
    refine so_pure (opv_cmp (by rfl) (by rfl) (by rfl)) (by rfl) rfl ?_
    refine so_pure (opv_move (by rfl)) (by rfl) rfl ?_
    refine sk_split (x := 17) (by rfl) (fun h4 => ?_) (fun h4 => ?_)
    · first | have p4 := of_decide_eq_true h4 | have p4 := of_decide_eq_false h4 | have p4 := ndT h4 | have p4 := ndF h4 | have p4 := nbT h4 | have p4 := nbF h4 | have p4 := h4
      refine so_skip (wtd_not rfl rfl (by rfl) h4) rfl ?_
      refine so_skip (wtd_not rfl rfl (by rfl) h4) rfl ?_
      refine so_skip (wtd_not rfl rfl (by rfl) h4) rfl ?_
      refine so_pure (sv_pick_t (by rfl) h4 (by rfl)) (by rfl) rfl ?_
      refine so_pure (opv_move (by rfl)) (by rfl) rfl ?_
      refine so_skip (wtd_not rfl rfl (by rfl) rfl) rfl ?_
      refine so_skip (wtd_not rfl rfl (by rfl) rfl) rfl ?_
      refine so_skip (wtd_not rfl rfl (by rfl) rfl) rfl ?_
      refine so_skip (wtd_not rfl rfl (by rfl) rfl) rfl ?_
      refine so_pure (sv_pick_t (by rfl) rfl (by rfl)) (by rfl) rfl ?_
      refine so_pure (opv_move (by rfl)) (by rfl) rfl ?_
      refine so_eff (eff_call0 (G := fun v New => v = .bool true ∧ New = []) (by rfl) (by rfl) tx8 (by exact fun w1 hw1 => (live_spec w1).mono (fun v _ ⟨hv, hst⟩ => ⟨[], ⟨hv, rfl⟩, hst⟩))) (wtd_run rfl rfl (by rfl) rfl) rfl ?_
      rintro _ _ ⟨_, ⟨rfl, rfl⟩, rfl⟩
      refine so_pure (sv_pick_t (by rfl) rfl (by rfl)) (by rfl) rfl ?_
      refine so_pure (opv_assign (by rfl)) (by rfl) rfl ?_
      refine jo_nil ?_
      refine jk_then ?_
      refine jc_ret ?_
      refine jk_then_ret ?_
      refine jk_fn_ret rfl rfl (by rfl) (fun w hw => ?_)
      exact ⟨rfl, hw.forget⟩
    · first | have p4 := of_decide_eq_true h4 | have p4 := of_decide_eq_false h4 | have p4 := ndT h4 | have p4 := ndF h4 | have p4 := nbT h4 | have p4 := nbF h4 | have p4 := h4
      refine so_pure (opv_move (by rfl)) (wtd_run rfl rfl (by rfl) h4) rfl ?_
      refine so_eff (eff_call0 (G := fun v New => v = .bool (small xs 40) ∧ New = []) (by rfl) (by rfl) tx7 (by exact fun w1 hw1 => (small17_spec w1 A n cap xs (hs.keepSt hw1) hn 40).mono (fun v _ ⟨hv, hst⟩ => ⟨[], ⟨hv, rfl⟩, hst⟩))) (wtd_run rfl rfl (by rfl) h4) rfl ?_
      rintro _ _ ⟨_, ⟨rfl, rfl⟩, rfl⟩
      refine so_pure (opv_not (by rfl)) (wtd_run rfl rfl (by rfl) h4) rfl ?_
      refine so_pure (sv_pick_f (by rfl) h4 (by rfl)) (by rfl) rfl ?_
      refine so_pure (opv_move (by rfl)) (by rfl) rfl ?_
      refine sk_split (x := 22) (by rfl) (fun h6 => ?_) (fun h6 => ?_)
      · first | have p6 := of_decide_eq_true h6 | have p6 := of_decide_eq_false h6 | have p6 := ndT h6 | have p6 := ndF h6 | have p6 := nbT h6 | have p6 := nbF h6 | have p6 := h6
        refine so_skip (wtd_not rfl rfl (by rfl) (not_t (by simpa using h6))) rfl ?_
        refine so_skip (wtd_not rfl rfl (by rfl) (not_t (by simpa using h6))) rfl ?_
        refine so_skip (wtd_not rfl rfl (by rfl) (not_t (by simpa using h6))) rfl ?_
        refine so_skip (wtd_not rfl rfl (by rfl) (not_t (by simpa using h6))) rfl ?_
        refine so_pure (sv_pick_t (by rfl) (not_t (by simpa using h6)) (by rfl)) (by rfl) rfl ?_
        refine so_pure (opv_move (by rfl)) (by rfl) rfl ?_
        refine so_eff (eff_call0 (G := fun v New => v = .bool true ∧ New = []) (by rfl) (by rfl) tx8 (by exact fun w1 hw1 => (live_spec w1).mono (fun v _ ⟨hv, hst⟩ => ⟨[], ⟨hv, rfl⟩, hst⟩))) (wtd_run rfl rfl (by rfl) rfl) rfl ?_
        rintro _ _ ⟨_, ⟨rfl, rfl⟩, rfl⟩
        refine so_pure (sv_pick_t (by rfl) rfl (by rfl)) (by rfl) rfl ?_
        refine so_pure (opv_assign (by rfl)) (by rfl) rfl ?_
        refine jo_nil ?_
        refine jk_then ?_
        refine jc_ret ?_
        refine jk_then_ret ?_
        refine jk_fn_ret rfl rfl (by rfl) (fun w hw => ?_)
        exact ⟨rfl, hw.forget⟩
      · first | have p6 := of_decide_eq_true h6 | have p6 := of_decide_eq_false h6 | have p6 := ndT h6 | have p6 := ndF h6 | have p6 := nbT h6 | have p6 := nbF h6 | have p6 := h6
        exfalso; simp_all
  · first | have p2 := of_decide_eq_true h2 | have p2 := of_decide_eq_false h2 | have p2 := ndT h2 | have p2 := ndF h2 | have p2 := nbT h2 | have p2 := nbF h2 | have p2 := h2
    refine so_pure (opv_move (by rfl)) (wtd_run rfl rfl (by rfl) (not_f (by simpa using h2))) rfl ?_
    have hsm := small_len (xs := xs) (m := 40) (by simpa using p2)
    have hnx := hs.1
    refine so_eff (eff_call0 (G := fun v New => v = .bool (gather xs).isSome ∧ New = []) (by rfl) (by rfl) tx11 (by exact fun w1 hw1 => (may_spec w1 A n cap xs (hs.keepSt hw1) (by omega)).mono (fun v _ ⟨hv, hst⟩ => ⟨[], ⟨hv, rfl⟩, hst⟩))) (wtd_run rfl rfl (by rfl) (not_f (by simpa using h2))) rfl ?_
    rintro _ _ ⟨_, ⟨rfl, rfl⟩, rfl⟩
    refine so_pure (opv_not (by rfl)) (wtd_run rfl rfl (by rfl) (not_f (by simpa using h2))) rfl ?_
    refine so_pure (sv_pick_f (by rfl) (not_f (by simpa using h2)) (by rfl)) (by rfl) rfl ?_
    refine jo_nil ?_
    refine jk_then ?_
    refine sk_split (x := 13) (by rfl) (fun h8 => ?_) (fun h8 => ?_)
    · first | have p8 := of_decide_eq_true h8 | have p8 := of_decide_eq_false h8 | have p8 := ndT h8 | have p8 := ndF h8 | have p8 := nbT h8 | have p8 := nbF h8 | have p8 := h8
      refine sc_true (by rfl) (not_t (by simpa using h8)) ?_
      refine jc_seq ?_
      refine sc_region ?_
      refine so_pure (opv_move (by rfl)) (by rfl) rfl ?_
      refine so_pure (opv_len_slice (by rfl) Try.underlying22) (by rfl) rfl ?_
      refine so_pure (opv_cmp (by rfl) (by rfl) (by rfl)) (by rfl) rfl ?_
      refine so_pure (opv_move (by rfl)) (by rfl) rfl ?_
      refine sk_split (x := 17) (by rfl) (fun h10 => ?_) (fun h10 => ?_)
      · first | have p10 := of_decide_eq_true h10 | have p10 := of_decide_eq_false h10 | have p10 := ndT h10 | have p10 := ndF h10 | have p10 := nbT h10 | have p10 := nbF h10 | have p10 := h10
        refine so_skip (wtd_not rfl rfl (by rfl) h10) rfl ?_
        refine so_skip (wtd_not rfl rfl (by rfl) h10) rfl ?_
        refine so_skip (wtd_not rfl rfl (by rfl) h10) rfl ?_
        refine so_pure (sv_pick_t (by rfl) h10 (by rfl)) (by rfl) rfl ?_
        refine so_pure (opv_move (by rfl)) (by rfl) rfl ?_
        refine so_skip (wtd_not rfl rfl (by rfl) rfl) rfl ?_
        refine so_skip (wtd_not rfl rfl (by rfl) rfl) rfl ?_
        refine so_skip (wtd_not rfl rfl (by rfl) rfl) rfl ?_
        refine so_skip (wtd_not rfl rfl (by rfl) rfl) rfl ?_
        refine so_pure (sv_pick_t (by rfl) rfl (by rfl)) (by rfl) rfl ?_
        refine so_pure (opv_move (by rfl)) (by rfl) rfl ?_
        refine so_eff (eff_call0 (G := fun v New => v = .bool true ∧ New = []) (by rfl) (by rfl) tx8 (by exact fun w1 hw1 => (live_spec w1).mono (fun v _ ⟨hv, hst⟩ => ⟨[], ⟨hv, rfl⟩, hst⟩))) (wtd_run rfl rfl (by rfl) rfl) rfl ?_
        rintro _ _ ⟨_, ⟨rfl, rfl⟩, rfl⟩
        refine so_pure (sv_pick_t (by rfl) rfl (by rfl)) (by rfl) rfl ?_
        refine so_pure (opv_assign (by rfl)) (by rfl) rfl ?_
        refine jo_nil ?_
        refine jk_then ?_
        refine jc_ret ?_
        refine jk_then_ret ?_
        refine jk_fn_ret rfl rfl (by rfl) (fun w hw => ?_)
        exact ⟨rfl, hw.forget⟩
      · first | have p10 := of_decide_eq_true h10 | have p10 := of_decide_eq_false h10 | have p10 := ndT h10 | have p10 := ndF h10 | have p10 := nbT h10 | have p10 := nbF h10 | have p10 := h10
        refine so_pure (opv_move (by rfl)) (wtd_run rfl rfl (by rfl) h10) rfl ?_
        refine so_eff (eff_call0 (G := fun v New => v = .bool (small xs 40) ∧ New = []) (by rfl) (by rfl) tx7 (by exact fun w1 hw1 => (small17_spec w1 A n cap xs (hs.keepSt hw1) hn 40).mono (fun v _ ⟨hv, hst⟩ => ⟨[], ⟨hv, rfl⟩, hst⟩))) (wtd_run rfl rfl (by rfl) h10) rfl ?_
        rintro _ _ ⟨_, ⟨rfl, rfl⟩, rfl⟩
        refine so_pure (opv_not (by rfl)) (wtd_run rfl rfl (by rfl) h10) rfl ?_
        refine so_pure (sv_pick_f (by rfl) h10 (by rfl)) (by rfl) rfl ?_
        refine so_pure (opv_move (by rfl)) (by rfl) rfl ?_
        refine sk_split (x := 22) (by rfl) (fun h12 => ?_) (fun h12 => ?_)
        · first | have p12 := of_decide_eq_true h12 | have p12 := of_decide_eq_false h12 | have p12 := ndT h12 | have p12 := ndF h12 | have p12 := nbT h12 | have p12 := nbF h12 | have p12 := h12
          exfalso; simp_all
        · first | have p12 := of_decide_eq_true h12 | have p12 := of_decide_eq_false h12 | have p12 := ndT h12 | have p12 := ndF h12 | have p12 := nbT h12 | have p12 := nbF h12 | have p12 := h12
          refine so_pure (opv_move (by rfl)) (wtd_run rfl rfl (by rfl) (not_f (by simpa using h12))) rfl ?_
          have hnx := hs.1
          refine so_eff (eff_call0 (G := fun v New => New = [own v 35 9 (opsOf xs).length ((opsOf xs).flatMap Hop.cells)]) (by rfl) (by rfl) tx9 (by exact fun w1 hw1 => (ops_spec w1 A n cap xs (hs.keepSt hw1) (by omega)).mono (fun v _ hst => ⟨_, rfl, hst⟩))) (wtd_run rfl rfl (by rfl) (not_f (by simpa using h12))) rfl ?_
          rintro sv _ ⟨_, rfl, rfl⟩
          refine so_pure (opv_len_own (by rfl) Try.underlying25 (by repeat (first | exact Pk.here _ | apply Pk.there))) (wtd_run rfl rfl (by rfl) (not_f (by simpa using h12))) rfl ?_
          refine so_pure (opv_cmp (by rfl) (by rfl) (by rfl)) (wtd_run rfl rfl (by rfl) (not_f (by simpa using h12))) rfl ?_
          refine so_pure (sv_pick_f (by rfl) (not_f (by simpa using h12)) (by rfl)) (by rfl) rfl ?_
          refine so_pure (opv_move (by rfl)) (by rfl) rfl ?_
          refine sk_split (x := 28) (by rfl) (fun h15 => ?_) (fun h15 => ?_)
          · first | have p15 := of_decide_eq_true h15 | have p15 := of_decide_eq_false h15 | have p15 := ndT h15 | have p15 := ndF h15 | have p15 := nbT h15 | have p15 := nbF h15 | have p15 := h15
            refine so_eff (eff_call0 (G := fun v New => v = .bool true ∧ New = []) (by rfl) (by rfl) tx8 (by exact fun w1 hw1 => (live_spec w1).mono (fun v _ ⟨hv, hst⟩ => ⟨[], ⟨hv, rfl⟩, hst⟩))) (wtd_run rfl rfl (by rfl) h15) rfl ?_
            rintro _ _ ⟨_, ⟨rfl, rfl⟩, rfl⟩
            refine so_pure (sv_pick_t (by rfl) h15 (by rfl)) (by rfl) rfl ?_
            refine so_pure (opv_assign (by rfl)) (by rfl) rfl ?_
            refine jo_nil ?_
            refine jk_then ?_
            refine jc_ret ?_
            refine jk_then_ret ?_
            refine jk_fn_ret rfl rfl (by rfl) (fun w hw => ?_)
            exact ⟨rfl, hw.forget⟩
          · first | have p15 := of_decide_eq_true h15 | have p15 := of_decide_eq_false h15 | have p15 := ndT h15 | have p15 := ndF h15 | have p15 := nbT h15 | have p15 := nbF h15 | have p15 := h15
            exfalso; have h := opsOf_none (xs := xs) (by simp_all); simp_all
    · first | have p8 := of_decide_eq_true h8 | have p8 := of_decide_eq_false h8 | have p8 := ndT h8 | have p8 := ndF h8 | have p8 := nbT h8 | have p8 := nbF h8 | have p8 := h8
      refine sc_false (by rfl) (not_f (by simpa using h8)) ?_
      refine jc_skip ?_
      refine jk_then ?_
      refine jc_seq ?_
      have hgs : (gather xs).isSome = true := by simpa using p8
      refine sc_region ?_
      refine so_pure (opv_move (by rfl)) (by rfl) rfl ?_
      refine so_eff (eff_call0 (G := fun v New => New = [own v 35 9 (opsOf xs).length ((opsOf xs).flatMap Hop.cells)]) (by rfl) (by rfl) tx9 (by exact fun w1 hw1 => (ops_spec w1 A n cap xs (hs.keepSt hw1) (by omega)).mono (fun v _ hst => ⟨_, rfl, hst⟩))) (by rfl) rfl ?_
      rintro sv _ ⟨_, rfl, rfl⟩
      refine so_pure (opv_assign (by rfl)) (by rfl) rfl ?_
      refine jo_nil ?_
      refine jk_then ?_
      refine jc_seq ?_
      refine jk_sv (by repeat (first | exact Pk.here _ | apply Pk.there)) (fun hsv => ?_)
      obtain ⟨m, hinv⟩ := gather_inv hgs
      have hgood := hinv.good
      have hnum := hinv.num
      have hol := opsOf_len xs
      clear hinv
      simp only at hgood hnum
      generalize opsOf xs = ops at hsv hgood hnum hol ⊢
      refine sc_region ?_
      refine so_pure (opv_assign (by rfl)) (by rfl) rfl ?_
      refine jo_nil ?_
      refine jk_then ?_
      refine jc_seq ?_
      refine jc_seq ?_
      refine sc_region ?_
      refine so_pure (opv_assign (by rfl)) (by rfl) rfl ?_
      refine jo_nil ?_
      refine jk_then ?_
      refine jc_block ?_
      refine jc_loop (σ := Nat × Nat) (fun (i, c) => [(0, .slice A n cap), (3, sv), (4, .int .i64 c), (5, .int .i64 i)]) (fun (i, c) => [own sv 35 9 ops.length (ops.flatMap Hop.cells)]) (fun (i, c) => (i ≤ ops.length) ∧ (c = i + (ops.take i).countP (fun o => decide (0 ≤ o.fin)))) (fun (i, c) => ops.length - i) (0, 0) ⟨Nat.zero_le _, by simp⟩ ⟨rfl, rfl, rfl, rfl, trivial⟩ (fun w hw => St.sel hw (by repeat (first | exact Pks.nil _ | exact Pk.here _ | apply Pk.there | apply Pks.cons))) ?_
      rintro ⟨i, c⟩ ⟨hi, hc⟩
      show Jc _ _ [(0, .slice A n cap), (3, sv), (4, .int .i64 c), (5, .int .i64 i)] [own sv 35 9 ops.length (ops.flatMap Hop.cells)] _
      refine jc_seq ?_
      refine jc_seq ?_
      refine sc_region ?_
      refine so_pure (opv_move (by rfl)) (by rfl) rfl ?_
      refine so_pure (opv_move (by rfl)) (by rfl) rfl ?_
      refine so_pure (opv_len_sv (by rfl) hsv Try.underlying25) (by rfl) rfl ?_
      refine so_pure (opv_cmp (by rfl) (by rfl) (by rfl)) (by rfl) rfl ?_
      refine jo_nil ?_
      refine jk_then ?_
      refine sk_split (x := 36) (by rfl) (fun h22 => ?_) (fun h22 => ?_)
      · first | have p22 := of_decide_eq_true h22 | have p22 := of_decide_eq_false h22 | have p22 := ndT h22 | have p22 := ndF h22 | have p22 := nbT h22 | have p22 := nbF h22 | have p22 := h22
        refine sc_true (by rfl) h22 ?_
        refine jc_skip ?_
        refine jk_then ?_
        refine jc_seq ?_
        refine jc_block ?_
        refine jc_seq ?_
        refine jc_seq ?_
        have hlt : i < ops.length := by omega
        have hcl : (ops.take i).countP (fun o => decide (0 ≤ o.fin)) ≤ i := Nat.le_trans List.countP_le_length (by rw [List.length_take]; omega)
        obtain ⟨o, ho⟩ : ∃ x, ops[i]? = some x := ⟨ops[i], List.getElem?_eq_getElem hlt⟩
        obtain ⟨a, ha, han, ⟨x, hx, hxc, hxt⟩, hf⟩ := hgood o (List.mem_of_getElem? ho)
        have hfn : o.fin < (n : Int) := by rcases hf with h | ⟨b, h, _, h2, _⟩ <;> omega
        refine so_draw [] (by kernel_rfl) (by kernel_rfl) (by kernel_rfl) rfl (by rfl) (fun hap htm => ?_)
        refine da_any hap htm (i := 0) (by rfl) (by kernel_rfl) (by rfl) (listed' := #[true, false, false, false, false, false, false, false, false, false, false, false, false, false, false, false, false, false, false, false, false, false, false, false, false, false, false, false, false, false, false, false, false, false, false, false, false, false, false, false, false, false, false, false, false, false, false, false, false, false, false, false, false, false, false]) (by rfl) (fun _ => (opv_move (by rfl))) (by rfl) rfl ?_
        refine da_any hap htm (i := 1) (by rfl) (by kernel_rfl) (by rfl) (listed' := #[true, true, false, false, false, false, false, false, false, false, false, false, false, false, false, false, false, false, false, false, false, false, false, false, false, false, false, false, false, false, false, false, false, false, false, false, false, false, false, false, false, false, false, false, false, false, false, false, false, false, false, false, false, false, false]) (by rfl) (fun _ => (opv_move (by rfl))) (by rfl) rfl ?_
        refine da_any hap htm (i := 2) (by rfl) (by kernel_rfl) (by rfl) (listed' := #[true, true, true, false, false, false, false, false, false, false, false, false, false, false, false, false, false, false, false, false, false, false, false, false, false, false, false, false, false, false, false, false, false, false, false, false, false, false, false, false, false, false, false, false, false, false, false, false, false, false, false, false, false, false, false]) (by rfl) (fun _ => (opv_indexAddr_sv (i := i) (by rfl) hsv (by rfl) Try.underlying25 ti35 (by rfl) (by omega))) (by rfl) rfl ?_
        refine da_any hap htm (i := 3) (by rfl) (by kernel_rfl) (by rfl) (listed' := #[true, true, true, true, false, false, false, false, false, false, false, false, false, false, false, false, false, false, false, false, false, false, false, false, false, false, false, false, false, false, false, false, false, false, false, false, false, false, false, false, false, false, false, false, false, false, false, false, false, false, false, false, false, false, false]) (by rfl) (fun _ => (opv_fieldAddr (by rfl) fld35_3)) (by rfl) rfl ?_
        refine da_now [5, 6, 7, 8, 9, 10, 11, 12, 13, 14, 15, 16, 17, 18, 19, 20, 21, 22, 23, 24, 25, 26, 27, 28, 29, 30, 31, 32, 33, 34, 35, 36, 37, 38, 39, 40, 41, 42, 43, 44, 45, 46, 47, 48, 49, 50, 51, 52, 53, 54] hap htm (i := 4) (by rfl) (by kernel_rfl) (by rfl) (listed' := #[true, true, true, true, true, false, false, false, false, false, false, false, false, false, false, false, false, false, false, false, false, false, false, false, false, false, false, false, false, false, false, false, false, false, false, false, false, false, false, false, false, false, false, false, false, false, false, false, false, false, false, false, false, false, false]) (by rfl) (by kernel_rfl) (by kernel_rfl) (opv_load_fld (fo := 7) Hop.cells_len (by rfl) na3 (by repeat (first | exact Pk.here _ | apply Pk.there)) ho (by rfl)) (by rfl) rfl ?_
        refine da_any hap htm (i := 5) (by rfl) (by kernel_rfl) (by rfl) (listed' := #[true, true, true, true, true, true, false, false, false, false, false, false, false, false, false, false, false, false, false, false, false, false, false, false, false, false, false, false, false, false, false, false, false, false, false, false, false, false, false, false, false, false, false, false, false, false, false, false, false, false, false, false, false, false, false]) (by rfl) (fun _ => (opv_cmp (by rfl) (by rfl) (by rfl))) (by rfl) rfl ?_
        refine da_any hap htm (i := 6) (by rfl) (by kernel_rfl) (by rfl) (listed' := #[true, true, true, true, true, true, true, false, false, false, false, false, false, false, false, false, false, false, false, false, false, false, false, false, false, false, false, false, false, false, false, false, false, false, false, false, false, false, false, false, false, false, false, false, false, false, false, false, false, false, false, false, false, false, false]) (by rfl) (fun _ => (opv_move (by rfl))) (by rfl) rfl ?_
        refine sk_split (x := 45) (by rfl) (fun h27 => ?_) (fun h27 => ?_)
        · first | have p27 := of_decide_eq_true h27 | have p27 := of_decide_eq_false h27 | have p27 := ndT h27 | have p27 := ndF h27 | have p27 := nbT h27 | have p27 := nbF h27 | have p27 := h27
          exfalso; omega
        · first | have p27 := of_decide_eq_true h27 | have p27 := of_decide_eq_false h27 | have p27 := ndT h27 | have p27 := ndF h27 | have p27 := nbT h27 | have p27 := nbF h27 | have p27 := h27
          refine da_any hap htm (i := 7) (by rfl) (by kernel_rfl) (by rfl) (listed' := #[true, true, true, true, true, true, true, true, false, false, false, false, false, false, false, false, false, false, false, false, false, false, false, false, false, false, false, false, false, false, false, false, false, false, false, false, false, false, false, false, false, false, false, false, false, false, false, false, false, false, false, false, false, false, false]) (by rfl) (fun _ => (opv_move (by rfl))) (wtd_run rfl rfl (by rfl) h27) rfl ?_
          refine da_any hap htm (i := 8) (by rfl) (by kernel_rfl) (by rfl) (listed' := #[true, true, true, true, true, true, true, true, true, false, false, false, false, false, false, false, false, false, false, false, false, false, false, false, false, false, false, false, false, false, false, false, false, false, false, false, false, false, false, false, false, false, false, false, false, false, false, false, false, false, false, false, false, false, false]) (by rfl) (fun _ => (opv_move (by rfl))) (wtd_run rfl rfl (by rfl) h27) rfl ?_
          refine da_any hap htm (i := 9) (by rfl) (by kernel_rfl) (by rfl) (listed' := #[true, true, true, true, true, true, true, true, true, true, false, false, false, false, false, false, false, false, false, false, false, false, false, false, false, false, false, false, false, false, false, false, false, false, false, false, false, false, false, false, false, false, false, false, false, false, false, false, false, false, false, false, false, false, false]) (by rfl) (fun _ => (opv_indexAddr_sv (i := i) (by rfl) hsv (by rfl) Try.underlying25 ti35 (by rfl) (by omega))) (wtd_run rfl rfl (by rfl) h27) rfl ?_
          refine da_any hap htm (i := 10) (by rfl) (by kernel_rfl) (by rfl) (listed' := #[true, true, true, true, true, true, true, true, true, true, true, false, false, false, false, false, false, false, false, false, false, false, false, false, false, false, false, false, false, false, false, false, false, false, false, false, false, false, false, false, false, false, false, false, false, false, false, false, false, false, false, false, false, false, false]) (by rfl) (fun _ => (opv_fieldAddr (by rfl) fld35_3)) (wtd_run rfl rfl (by rfl) h27) rfl ?_
          refine da_now [14, 15, 16, 17, 18, 19, 20, 21, 22, 23, 24, 25, 26, 27, 28, 29, 30, 31, 32, 33, 34, 35, 36, 37, 38, 39, 40, 41, 42, 43, 44, 45, 46, 47, 48, 49, 50, 51, 52, 53, 54] hap htm (i := 11) (by rfl) (by kernel_rfl) (by rfl) (listed' := #[true, true, true, true, true, true, true, true, true, true, true, true, false, false, false, false, false, false, false, false, false, false, false, false, false, false, false, false, false, false, false, false, false, false, false, false, false, false, false, false, false, false, false, false, false, false, false, false, false, false, false, false, false, false, false]) (by rfl) (by kernel_rfl) (by kernel_rfl) (opv_load_fld (fo := 7) Hop.cells_len (by rfl) na3 (by repeat (first | exact Pk.here _ | apply Pk.there)) ho (by rfl)) (wtd_run rfl rfl (by rfl) h27) rfl ?_
          refine da_any hap htm (i := 12) (by rfl) (by kernel_rfl) (by rfl) (listed' := #[true, true, true, true, true, true, true, true, true, true, true, true, true, false, false, false, false, false, false, false, false, false, false, false, false, false, false, false, false, false, false, false, false, false, false, false, false, false, false, false, false, false, false, false, false, false, false, false, false, false, false, false, false, false, false]) (by rfl) (fun _ => (opv_move (by rfl))) (wtd_run rfl rfl (by rfl) h27) rfl ?_
          refine da_any hap htm (i := 13) (by rfl) (by kernel_rfl) (by rfl) (listed' := #[true, true, true, true, true, true, true, true, true, true, true, true, true, true, false, false, false, false, false, false, false, false, false, false, false, false, false, false, false, false, false, false, false, false, false, false, false, false, false, false, false, false, false, false, false, false, false, false, false, false, false, false, false, false, false]) (by rfl) (fun _ => (opv_len_slice (by rfl) Try.underlying22)) (wtd_run rfl rfl (by rfl) h27) rfl ?_
          refine da_any hap htm (i := 14) (by rfl) (by kernel_rfl) (by rfl) (listed' := #[true, true, true, true, true, true, true, true, true, true, true, true, true, true, true, false, false, false, false, false, false, false, false, false, false, false, false, false, false, false, false, false, false, false, false, false, false, false, false, false, false, false, false, false, false, false, false, false, false, false, false, false, false, false, false]) (by rfl) (fun _ => (opv_cmp (by rfl) (by rfl) (by rfl))) (wtd_run rfl rfl (by rfl) h27) rfl ?_
          refine da_any hap htm (i := 15) (by rfl) (by kernel_rfl) (by rfl) (listed' := #[true, true, true, true, true, true, true, true, true, true, true, true, true, true, true, true, false, false, false, false, false, false, false, false, false, false, false, false, false, false, false, false, false, false, false, false, false, false, false, false, false, false, false, false, false, false, false, false, false, false, false, false, false, false, false]) (by rfl) (fun _ => (sv_pick_f (by rfl) h27 (by rfl))) (by rfl) rfl ?_
          refine da_any hap htm (i := 16) (by rfl) (by kernel_rfl) (by rfl) (listed' := #[true, true, true, true, true, true, true, true, true, true, true, true, true, true, true, true, true, false, false, false, false, false, false, false, false, false, false, false, false, false, false, false, false, false, false, false, false, false, false, false, false, false, false, false, false, false, false, false, false, false, false, false, false, false, false]) (by rfl) (fun _ => (opv_move (by rfl))) (by rfl) rfl ?_
          refine sk_split (x := 55) (by rfl) (fun h33 => ?_) (fun h33 => ?_)
          · first | have p33 := of_decide_eq_true h33 | have p33 := of_decide_eq_false h33 | have p33 := ndT h33 | have p33 := ndF h33 | have p33 := nbT h33 | have p33 := nbF h33 | have p33 := h33
            exfalso; omega
          · first | have p33 := of_decide_eq_true h33 | have p33 := of_decide_eq_false h33 | have p33 := ndT h33 | have p33 := ndF h33 | have p33 := nbT h33 | have p33 := nbF h33 | have p33 := h33
            refine da_any hap htm (i := 17) (by rfl) (by kernel_rfl) (by rfl) (listed' := #[true, true, true, true, true, true, true, true, true, true, true, true, true, true, true, true, true, true, false, false, false, false, false, false, false, false, false, false, false, false, false, false, false, false, false, false, false, false, false, false, false, false, false, false, false, false, false, false, false, false, false, false, false, false, false]) (by rfl) (fun _ => (opv_move (by rfl))) (wtd_run rfl rfl (by rfl) h33) rfl ?_
            refine da_any hap htm (i := 18) (by rfl) (by kernel_rfl) (by rfl) (listed' := #[true, true, true, true, true, true, true, true, true, true, true, true, true, true, true, true, true, true, true, false, false, false, false, false, false, false, false, false, false, false, false, false, false, false, false, false, false, false, false, false, false, false, false, false, false, false, false, false, false, false, false, false, false, false, false]) (by rfl) (fun _ => (opv_move (by rfl))) (wtd_run rfl rfl (by rfl) h33) rfl ?_
            refine da_any hap htm (i := 19) (by rfl) (by kernel_rfl) (by rfl) (listed' := #[true, true, true, true, true, true, true, true, true, true, true, true, true, true, true, true, true, true, true, true, false, false, false, false, false, false, false, false, false, false, false, false, false, false, false, false, false, false, false, false, false, false, false, false, false, false, false, false, false, false, false, false, false, false, false]) (by rfl) (fun _ => (opv_indexAddr_sv (i := i) (by rfl) hsv (by rfl) Try.underlying25 ti35 (by rfl) (by omega))) (wtd_run rfl rfl (by rfl) h33) rfl ?_
            refine da_any hap htm (i := 20) (by rfl) (by kernel_rfl) (by rfl) (listed' := #[true, true, true, true, true, true, true, true, true, true, true, true, true, true, true, true, true, true, true, true, true, false, false, false, false, false, false, false, false, false, false, false, false, false, false, false, false, false, false, false, false, false, false, false, false, false, false, false, false, false, false, false, false, false, false]) (by rfl) (fun _ => (opv_fieldAddr (by rfl) fld35_4)) (wtd_run rfl rfl (by rfl) h33) rfl ?_
            refine da_now [24, 25, 26, 27, 28, 29, 30, 31, 32, 33, 34, 35, 36, 37, 38, 39, 40, 41, 42, 43, 44, 45, 46, 47, 48, 49, 50, 51, 52, 53, 54] hap htm (i := 21) (by rfl) (by kernel_rfl) (by rfl) (listed' := #[true, true, true, true, true, true, true, true, true, true, true, true, true, true, true, true, true, true, true, true, true, true, false, false, false, false, false, false, false, false, false, false, false, false, false, false, false, false, false, false, false, false, false, false, false, false, false, false, false, false, false, false, false, false, false]) (by rfl) (by kernel_rfl) (by kernel_rfl) (opv_load_fld (fo := 8) Hop.cells_len (by rfl) na3 (by repeat (first | exact Pk.here _ | apply Pk.there)) ho (by rfl)) (wtd_run rfl rfl (by rfl) h33) rfl ?_
            refine da_any hap htm (i := 22) (by rfl) (by kernel_rfl) (by rfl) (listed' := #[true, true, true, true, true, true, true, true, true, true, true, true, true, true, true, true, true, true, true, true, true, true, true, false, false, false, false, false, false, false, false, false, false, false, false, false, false, false, false, false, false, false, false, false, false, false, false, false, false, false, false, false, false, false, false]) (by rfl) (fun _ => (opv_move (by rfl))) (wtd_run rfl rfl (by rfl) h33) rfl ?_
            refine da_any hap htm (i := 23) (by rfl) (by kernel_rfl) (by rfl) (listed' := #[true, true, true, true, true, true, true, true, true, true, true, true, true, true, true, true, true, true, true, true, true, true, true, true, false, false, false, false, false, false, false, false, false, false, false, false, false, false, false, false, false, false, false, false, false, false, false, false, false, false, false, false, false, false, false]) (by rfl) (fun _ => (opv_len_slice (by rfl) Try.underlying22)) (wtd_run rfl rfl (by rfl) h33) rfl ?_
            refine da_any hap htm (i := 24) (by rfl) (by kernel_rfl) (by rfl) (listed' := #[true, true, true, true, true, true, true, true, true, true, true, true, true, true, true, true, true, true, true, true, true, true, true, true, true, false, false, false, false, false, false, false, false, false, false, false, false, false, false, false, false, false, false, false, false, false, false, false, false, false, false, false, false, false, false]) (by rfl) (fun _ => (opv_cmp (by rfl) (by rfl) (by rfl))) (wtd_run rfl rfl (by rfl) h33) rfl ?_
            refine da_any hap htm (i := 25) (by rfl) (by kernel_rfl) (by rfl) (listed' := #[true, true, true, true, true, true, true, true, true, true, true, true, true, true, true, true, true, true, true, true, true, true, true, true, true, true, false, false, false, false, false, false, false, false, false, false, false, false, false, false, false, false, false, false, false, false, false, false, false, false, false, false, false, false, false]) (by rfl) (fun _ => (sv_pick_f (by rfl) h33 (by rfl))) (by rfl) rfl ?_
            refine da_any hap htm (i := 26) (by rfl) (by kernel_rfl) (by rfl) (listed' := #[true, true, true, true, true, true, true, true, true, true, true, true, true, true, true, true, true, true, true, true, true, true, true, true, true, true, true, false, false, false, false, false, false, false, false, false, false, false, false, false, false, false, false, false, false, false, false, false, false, false, false, false, false, false, false]) (by rfl) (fun _ => (opv_move (by rfl))) (by rfl) rfl ?_
            refine sk_split (x := 65) (by rfl) (fun h39 => ?_) (fun h39 => ?_)
            · first | have p39 := of_decide_eq_true h39 | have p39 := of_decide_eq_false h39 | have p39 := ndT h39 | have p39 := ndF h39 | have p39 := nbT h39 | have p39 := nbF h39 | have p39 := h39
              exfalso; omega
            · first | have p39 := of_decide_eq_true h39 | have p39 := of_decide_eq_false h39 | have p39 := ndT h39 | have p39 := ndF h39 | have p39 := nbT h39 | have p39 := nbF h39 | have p39 := h39
              refine da_any hap htm (i := 27) (by rfl) (by kernel_rfl) (by rfl) (listed' := #[true, true, true, true, true, true, true, true, true, true, true, true, true, true, true, true, true, true, true, true, true, true, true, true, true, true, true, true, false, false, false, false, false, false, false, false, false, false, false, false, false, false, false, false, false, false, false, false, false, false, false, false, false, false, false]) (by rfl) (fun _ => (opv_move (by rfl))) (wtd_run rfl rfl (by rfl) h39) rfl ?_
              refine da_any hap htm (i := 28) (by rfl) (by kernel_rfl) (by rfl) (listed' := #[true, true, true, true, true, true, true, true, true, true, true, true, true, true, true, true, true, true, true, true, true, true, true, true, true, true, true, true, true, false, false, false, false, false, false, false, false, false, false, false, false, false, false, false, false, false, false, false, false, false, false, false, false, false, false]) (by rfl) (fun _ => (opv_move (by rfl))) (wtd_run rfl rfl (by rfl) h39) rfl ?_
              refine da_any hap htm (i := 29) (by rfl) (by kernel_rfl) (by rfl) (listed' := #[true, true, true, true, true, true, true, true, true, true, true, true, true, true, true, true, true, true, true, true, true, true, true, true, true, true, true, true, true, true, false, false, false, false, false, false, false, false, false, false, false, false, false, false, false, false, false, false, false, false, false, false, false, false, false]) (by rfl) (fun _ => (opv_move (by rfl))) (wtd_run rfl rfl (by rfl) h39) rfl ?_
              refine da_any hap htm (i := 30) (by rfl) (by kernel_rfl) (by rfl) (listed' := #[true, true, true, true, true, true, true, true, true, true, true, true, true, true, true, true, true, true, true, true, true, true, true, true, true, true, true, true, true, true, true, false, false, false, false, false, false, false, false, false, false, false, false, false, false, false, false, false, false, false, false, false, false, false, false]) (by rfl) (fun _ => (opv_indexAddr_sv (i := i) (by rfl) hsv (by rfl) Try.underlying25 ti35 (by rfl) (by omega))) (wtd_run rfl rfl (by rfl) h39) rfl ?_
              refine da_any hap htm (i := 31) (by rfl) (by kernel_rfl) (by rfl) (listed' := #[true, true, true, true, true, true, true, true, true, true, true, true, true, true, true, true, true, true, true, true, true, true, true, true, true, true, true, true, true, true, true, true, false, false, false, false, false, false, false, false, false, false, false, false, false, false, false, false, false, false, false, false, false, false, false]) (by rfl) (fun _ => (opv_fieldAddr (by rfl) fld35_3)) (wtd_run rfl rfl (by rfl) h39) rfl ?_
              refine da_now [33, 34, 35, 36, 37, 38, 39, 40, 41, 42, 43, 44, 45, 46, 47, 48, 49, 50, 51, 52, 53, 54] hap htm (i := 32) (by rfl) (by kernel_rfl) (by rfl) (listed' := #[true, true, true, true, true, true, true, true, true, true, true, true, true, true, true, true, true, true, true, true, true, true, true, true, true, true, true, true, true, true, true, true, true, false, false, false, false, false, false, false, false, false, false, false, false, false, false, false, false, false, false, false, false, false, false]) (by rfl) (by kernel_rfl) (by kernel_rfl) (opv_load_fld (fo := 7) Hop.cells_len (by rfl) na3 (by repeat (first | exact Pk.here _ | apply Pk.there)) ho (by rfl)) (wtd_run rfl rfl (by rfl) h39) rfl ?_
              refine da_any hap htm (i := 33) (by rfl) (by kernel_rfl) (by rfl) (listed' := #[true, true, true, true, true, true, true, true, true, true, true, true, true, true, true, true, true, true, true, true, true, true, true, true, true, true, true, true, true, true, true, true, true, true, false, false, false, false, false, false, false, false, false, false, false, false, false, false, false, false, false, false, false, false, false]) (by rfl) (fun _ => (opv_indexAddr_slr (i := a) (by rfl) hs (by rfl) Try.underlying22 ti39 ha (by omega))) (wtd_run rfl rfl (by rfl) h39) rfl ?_
              refine da_any hap htm (i := 34) (by rfl) (by kernel_rfl) (by rfl) (listed' := #[true, true, true, true, true, true, true, true, true, true, true, true, true, true, true, true, true, true, true, true, true, true, true, true, true, true, true, true, true, true, true, true, true, true, true, false, false, false, false, false, false, false, false, false, false, false, false, false, false, false, false, false, false, false, false]) (by rfl) (fun _ => (opv_fieldAddr (by rfl) fld39_1)) (wtd_run rfl rfl (by rfl) h39) rfl ?_
              refine da_now [36, 37, 38, 39, 40, 41, 42, 43, 44, 45, 46, 47, 48, 49, 50, 51, 52, 53, 54] hap htm (i := 35) (by rfl) (by kernel_rfl) (by rfl) (listed' := #[true, true, true, true, true, true, true, true, true, true, true, true, true, true, true, true, true, true, true, true, true, true, true, true, true, true, true, true, true, true, true, true, true, true, true, true, false, false, false, false, false, false, false, false, false, false, false, false, false, false, false, false, false, false, false]) (by rfl) (by kernel_rfl) (by kernel_rfl) (opv_load_slr (fo := 1) (by rfl) na4 rfl hs hx (v := .bool true) (by rw [← hxc]; rfl)) (wtd_run rfl rfl (by rfl) h39) rfl ?_
              refine da_any hap htm (i := 36) (by rfl) (by kernel_rfl) (by rfl) (listed' := #[true, true, true, true, true, true, true, true, true, true, true, true, true, true, true, true, true, true, true, true, true, true, true, true, true, true, true, true, true, true, true, true, true, true, true, true, true, false, false, false, false, false, false, false, false, false, false, false, false, false, false, false, false, false, false]) (by rfl) (fun _ => (opv_not (by rfl))) (wtd_run rfl rfl (by rfl) h39) rfl ?_
              refine da_any hap htm (i := 37) (by rfl) (by kernel_rfl) (by rfl) (listed' := #[true, true, true, true, true, true, true, true, true, true, true, true, true, true, true, true, true, true, true, true, true, true, true, true, true, true, true, true, true, true, true, true, true, true, true, true, true, true, false, false, false, false, false, false, false, false, false, false, false, false, false, false, false, false, false]) (by rfl) (fun _ => (sv_pick_f (by rfl) h39 (by rfl))) (by rfl) rfl ?_
              refine da_any hap htm (i := 38) (by rfl) (by kernel_rfl) (by rfl) (listed' := #[true, true, true, true, true, true, true, true, true, true, true, true, true, true, true, true, true, true, true, true, true, true, true, true, true, true, true, true, true, true, true, true, true, true, true, true, true, true, true, false, false, false, false, false, false, false, false, false, false, false, false, false, false, false, false]) (by rfl) (fun _ => (opv_move (by rfl))) (by rfl) rfl ?_
              refine da_any hap htm (i := 39) (by rfl) (by kernel_rfl) (by rfl) (listed' := #[true, true, true, true, true, true, true, true, true, true, true, true, true, true, true, true, true, true, true, true, true, true, true, true, true, true, true, true, true, true, true, true, true, true, true, true, true, true, true, true, false, false, false, false, false, false, false, false, false, false, false, false, false, false, false]) (by rfl) (fun _ => (opv_move (by rfl))) (wtd_run rfl rfl (by rfl) rfl) rfl ?_
              refine da_any hap htm (i := 40) (by rfl) (by kernel_rfl) (by rfl) (listed' := #[true, true, true, true, true, true, true, true, true, true, true, true, true, true, true, true, true, true, true, true, true, true, true, true, true, true, true, true, true, true, true, true, true, true, true, true, true, true, true, true, true, false, false, false, false, false, false, false, false, false, false, false, false, false, false]) (by rfl) (fun _ => (opv_move (by rfl))) (wtd_run rfl rfl (by rfl) rfl) rfl ?_
              refine da_any hap htm (i := 41) (by rfl) (by kernel_rfl) (by rfl) (listed' := #[true, true, true, true, true, true, true, true, true, true, true, true, true, true, true, true, true, true, true, true, true, true, true, true, true, true, true, true, true, true, true, true, true, true, true, true, true, true, true, true, true, true, false, false, false, false, false, false, false, false, false, false, false, false, false]) (by rfl) (fun _ => (opv_move (by rfl))) (wtd_run rfl rfl (by rfl) rfl) rfl ?_
              refine da_any hap htm (i := 42) (by rfl) (by kernel_rfl) (by rfl) (listed' := #[true, true, true, true, true, true, true, true, true, true, true, true, true, true, true, true, true, true, true, true, true, true, true, true, true, true, true, true, true, true, true, true, true, true, true, true, true, true, true, true, true, true, true, false, false, false, false, false, false, false, false, false, false, false, false]) (by rfl) (fun _ => (opv_indexAddr_sv (i := i) (by rfl) hsv (by rfl) Try.underlying25 ti35 (by rfl) (by omega))) (wtd_run rfl rfl (by rfl) rfl) rfl ?_
              refine da_any hap htm (i := 43) (by rfl) (by kernel_rfl) (by rfl) (listed' := #[true, true, true, true, true, true, true, true, true, true, true, true, true, true, true, true, true, true, true, true, true, true, true, true, true, true, true, true, true, true, true, true, true, true, true, true, true, true, true, true, true, true, true, true, false, false, false, false, false, false, false, false, false, false, false]) (by rfl) (fun _ => (opv_fieldAddr (by rfl) fld35_3)) (wtd_run rfl rfl (by rfl) rfl) rfl ?_
              refine da_now [45, 46, 47, 53, 54] hap htm (i := 44) (by rfl) (by kernel_rfl) (by rfl) (listed' := #[true, true, true, true, true, true, true, true, true, true, true, true, true, true, true, true, true, true, true, true, true, true, true, true, true, true, true, true, true, true, true, true, true, true, true, true, true, true, true, true, true, true, true, true, true, false, false, false, false, false, false, false, false, false, false]) (by rfl) (by kernel_rfl) (by kernel_rfl) (opv_load_fld (fo := 7) Hop.cells_len (by rfl) na3 (by repeat (first | exact Pk.here _ | apply Pk.there)) ho (by rfl)) (wtd_run rfl rfl (by rfl) rfl) rfl ?_
              refine da_any hap htm (i := 45) (by rfl) (by kernel_rfl) (by rfl) (listed' := #[true, true, true, true, true, true, true, true, true, true, true, true, true, true, true, true, true, true, true, true, true, true, true, true, true, true, true, true, true, true, true, true, true, true, true, true, true, true, true, true, true, true, true, true, true, true, false, false, false, false, false, false, false, false, false]) (by rfl) (fun _ => (opv_indexAddr_slr (i := a) (by rfl) hs (by rfl) Try.underlying22 ti39 ha (by omega))) (wtd_run rfl rfl (by rfl) rfl) rfl ?_
              refine da_any hap htm (i := 46) (by rfl) (by kernel_rfl) (by rfl) (listed' := #[true, true, true, true, true, true, true, true, true, true, true, true, true, true, true, true, true, true, true, true, true, true, true, true, true, true, true, true, true, true, true, true, true, true, true, true, true, true, true, true, true, true, true, true, true, true, true, false, false, false, false, false, false, false, false]) (by rfl) (fun _ => (opv_fieldAddr (by rfl) fld39_0)) (wtd_run rfl rfl (by rfl) rfl) rfl ?_
              refine da_now [53, 54] hap htm (i := 47) (by rfl) (by kernel_rfl) (by rfl) (listed' := #[true, true, true, true, true, true, true, true, true, true, true, true, true, true, true, true, true, true, true, true, true, true, true, true, true, true, true, true, true, true, true, true, true, true, true, true, true, true, true, true, true, true, true, true, true, true, true, true, false, false, false, false, false, false, false]) (by rfl) (by kernel_rfl) (by kernel_rfl) (opv_load_slr (fo := 0) (by rfl) na3 rfl hs hx (by rfl)) (wtd_run rfl rfl (by rfl) rfl) rfl ?_
              refine da_any hap htm (i := 48) (by rfl) (by kernel_rfl) (by rfl) (listed' := #[true, true, true, true, true, true, true, true, true, true, true, true, true, true, true, true, true, true, true, true, true, true, true, true, true, true, true, true, true, true, true, true, true, true, true, true, true, true, true, true, true, true, true, true, true, true, true, true, true, false, false, false, false, false, false]) (by rfl) (fun _ => (opv_move (by rfl))) (wtd_run rfl rfl (by rfl) rfl) rfl ?_
              refine da_any hap htm (i := 49) (by rfl) (by kernel_rfl) (by rfl) (listed' := #[true, true, true, true, true, true, true, true, true, true, true, true, true, true, true, true, true, true, true, true, true, true, true, true, true, true, true, true, true, true, true, true, true, true, true, true, true, true, true, true, true, true, true, true, true, true, true, true, true, true, false, false, false, false, false]) (by rfl) (fun _ => (opv_move (by rfl))) (wtd_run rfl rfl (by rfl) rfl) rfl ?_
              refine da_any hap htm (i := 50) (by rfl) (by kernel_rfl) (by rfl) (listed' := #[true, true, true, true, true, true, true, true, true, true, true, true, true, true, true, true, true, true, true, true, true, true, true, true, true, true, true, true, true, true, true, true, true, true, true, true, true, true, true, true, true, true, true, true, true, true, true, true, true, true, true, false, false, false, false]) (by rfl) (fun _ => (opv_indexAddr_sv (i := i) (by rfl) hsv (by rfl) Try.underlying25 ti35 (by rfl) (by omega))) (wtd_run rfl rfl (by rfl) rfl) rfl ?_
              refine da_any hap htm (i := 51) (by rfl) (by kernel_rfl) (by rfl) (listed' := #[true, true, true, true, true, true, true, true, true, true, true, true, true, true, true, true, true, true, true, true, true, true, true, true, true, true, true, true, true, true, true, true, true, true, true, true, true, true, true, true, true, true, true, true, true, true, true, true, true, true, true, true, false, false, false]) (by rfl) (fun _ => (opv_fieldAddr (by rfl) fld35_0)) (wtd_run rfl rfl (by rfl) rfl) rfl ?_
              refine da_now [53, 54] hap htm (i := 52) (by rfl) (by kernel_rfl) (by rfl) (listed' := #[true, true, true, true, true, true, true, true, true, true, true, true, true, true, true, true, true, true, true, true, true, true, true, true, true, true, true, true, true, true, true, true, true, true, true, true, true, true, true, true, true, true, true, true, true, true, true, true, true, true, true, true, true, false, false]) (by rfl) (by kernel_rfl) (by kernel_rfl) (opv_load_fld (fo := 0) Hop.cells_len (by rfl) na3 (by repeat (first | exact Pk.here _ | apply Pk.there)) ho (by rfl)) (wtd_run rfl rfl (by rfl) rfl) rfl ?_
              refine da_any hap htm (i := 53) (by rfl) (by kernel_rfl) (by rfl) (listed' := #[true, true, true, true, true, true, true, true, true, true, true, true, true, true, true, true, true, true, true, true, true, true, true, true, true, true, true, true, true, true, true, true, true, true, true, true, true, true, true, true, true, true, true, true, true, true, true, true, true, true, true, true, true, true, false]) (by rfl) (fun _ => (opv_cmp (by rfl) (by rfl) (by rfl))) (wtd_run rfl rfl (by rfl) rfl) rfl ?_
              refine da_any hap htm (i := 54) (by rfl) (by kernel_rfl) (by rfl) (listed' := #[true, true, true, true, true, true, true, true, true, true, true, true, true, true, true, true, true, true, true, true, true, true, true, true, true, true, true, true, true, true, true, true, true, true, true, true, true, true, true, true, true, true, true, true, true, true, true, true, true, true, true, true, true, true, true]) (by rfl) (fun _ => (sv_pick_f (by rfl) rfl (by rfl))) (by rfl) rfl ?_
              refine da_done (by kernel_rfl) ?_
              refine jk_then ?_
              refine sk_split (x := 93) (by rfl) (fun h57 => ?_) (fun h57 => ?_)
              · first | have p57 := of_decide_eq_true h57 | have p57 := of_decide_eq_false h57 | have p57 := ndT h57 | have p57 := ndF h57 | have p57 := nbT h57 | have p57 := nbF h57 | have p57 := h57
                exfalso; omega
              · first | have p57 := of_decide_eq_true h57 | have p57 := of_decide_eq_false h57 | have p57 := ndT h57 | have p57 := ndF h57 | have p57 := nbT h57 | have p57 := nbF h57 | have p57 := h57
                refine sc_false (by rfl) h57 ?_
                refine jc_skip ?_
                refine jk_then ?_
                refine jc_seq ?_
                refine sc_region ?_
                refine so_pure (opv_move (by rfl)) (by rfl) rfl ?_
                refine so_pure (opv_add (by rfl) (by rfl) (wrap64_ok (by omega))) (by rfl) rfl ?_
                refine so_pure (opv_assign (by rfl)) (by rfl) rfl ?_
                refine jo_nil ?_
                refine jk_then ?_
                refine jc_seq ?_
                refine sc_region ?_
                refine so_pure (opv_move (by rfl)) (by rfl) rfl ?_
                refine so_pure (opv_move (by rfl)) (by rfl) rfl ?_
                refine so_pure (opv_indexAddr_sv (i := i) (by rfl) hsv (by rfl) Try.underlying25 ti35 (by rfl) (by omega)) (by rfl) rfl ?_
                refine so_pure (opv_fieldAddr (by rfl) fld35_4) (by rfl) rfl ?_
                refine so_pure (opv_load_fld (fo := 8) Hop.cells_len (by rfl) na3 (by repeat (first | exact Pk.here _ | apply Pk.there)) ho (by rfl)) (by rfl) rfl ?_
                refine so_pure (opv_cmp (by rfl) (by rfl) (by rfl)) (by rfl) rfl ?_
                refine jo_nil ?_
                refine jk_then ?_
                refine sk_split (x := 101) (by rfl) (fun h64 => ?_) (fun h64 => ?_)
                · first | have p64 := of_decide_eq_true h64 | have p64 := of_decide_eq_false h64 | have p64 := ndT h64 | have p64 := ndF h64 | have p64 := nbT h64 | have p64 := nbF h64 | have p64 := h64
                  refine sc_true (by rfl) h64 ?_
                  refine jc_seq ?_
                  refine jc_seq ?_
                  have hfin := p64
                  obtain ⟨b, hb, hab, hbn, y, hy, hyc, hyt⟩ := hf.resolve_left (fun h => by omega)
                  refine so_draw [] (by kernel_rfl) (by kernel_rfl) (by kernel_rfl) rfl (by rfl) (fun hap htm => ?_)
                  refine da_any hap htm (i := 0) (by rfl) (by kernel_rfl) (by rfl) (listed' := #[true, false, false, false, false, false, false, false, false, false, false, false, false, false, false, false, false, false, false, false, false, false, false, false, false, false, false, false, false, false, false, false, false, false, false, false, false, false, false]) (by rfl) (fun _ => (opv_move (by rfl))) (by rfl) rfl ?_
                  refine da_any hap htm (i := 1) (by rfl) (by kernel_rfl) (by rfl) (listed' := #[true, true, false, false, false, false, false, false, false, false, false, false, false, false, false, false, false, false, false, false, false, false, false, false, false, false, false, false, false, false, false, false, false, false, false, false, false, false, false]) (by rfl) (fun _ => (opv_move (by rfl))) (by rfl) rfl ?_
                  refine da_any hap htm (i := 2) (by rfl) (by kernel_rfl) (by rfl) (listed' := #[true, true, true, false, false, false, false, false, false, false, false, false, false, false, false, false, false, false, false, false, false, false, false, false, false, false, false, false, false, false, false, false, false, false, false, false, false, false, false]) (by rfl) (fun _ => (opv_move (by rfl))) (by rfl) rfl ?_
                  refine da_any hap htm (i := 3) (by rfl) (by kernel_rfl) (by rfl) (listed' := #[true, true, true, true, false, false, false, false, false, false, false, false, false, false, false, false, false, false, false, false, false, false, false, false, false, false, false, false, false, false, false, false, false, false, false, false, false, false, false]) (by rfl) (fun _ => (opv_indexAddr_sv (i := i) (by rfl) hsv (by rfl) Try.underlying25 ti35 (by rfl) (by omega))) (by rfl) rfl ?_
                  refine da_any hap htm (i := 4) (by rfl) (by kernel_rfl) (by rfl) (listed' := #[true, true, true, true, true, false, false, false, false, false, false, false, false, false, false, false, false, false, false, false, false, false, false, false, false, false, false, false, false, false, false, false, false, false, false, false, false, false, false]) (by rfl) (fun _ => (opv_fieldAddr (by rfl) fld35_4)) (by rfl) rfl ?_
                  refine da_now [6, 7, 8, 9, 10, 11, 12, 13, 14, 15, 16, 17, 18, 19, 20, 21, 22, 23, 24, 25, 26, 27, 28, 29, 30, 31, 32, 33, 34, 35, 36, 37, 38] hap htm (i := 5) (by rfl) (by kernel_rfl) (by rfl) (listed' := #[true, true, true, true, true, true, false, false, false, false, false, false, false, false, false, false, false, false, false, false, false, false, false, false, false, false, false, false, false, false, false, false, false, false, false, false, false, false, false]) (by rfl) (by kernel_rfl) (by kernel_rfl) (opv_load_fld (fo := 8) Hop.cells_len (by rfl) na3 (by repeat (first | exact Pk.here _ | apply Pk.there)) ho (by rfl)) (by rfl) rfl ?_
                  refine da_any hap htm (i := 6) (by rfl) (by kernel_rfl) (by rfl) (listed' := #[true, true, true, true, true, true, true, false, false, false, false, false, false, false, false, false, false, false, false, false, false, false, false, false, false, false, false, false, false, false, false, false, false, false, false, false, false, false, false]) (by rfl) (fun _ => (opv_indexAddr_slr (i := b) (by rfl) hs (by rfl) Try.underlying22 ti39 hb (by omega))) (by rfl) rfl ?_
                  refine da_any hap htm (i := 7) (by rfl) (by kernel_rfl) (by rfl) (listed' := #[true, true, true, true, true, true, true, true, false, false, false, false, false, false, false, false, false, false, false, false, false, false, false, false, false, false, false, false, false, false, false, false, false, false, false, false, false, false, false]) (by rfl) (fun _ => (opv_fieldAddr (by rfl) fld39_1)) (by rfl) rfl ?_
                  refine da_now [9, 10, 11, 12, 13, 14, 15, 16, 17, 18, 19, 20, 21, 22, 23, 24, 25, 26, 27, 28, 29, 30, 31, 32, 33, 34, 35, 36, 37, 38] hap htm (i := 8) (by rfl) (by kernel_rfl) (by rfl) (listed' := #[true, true, true, true, true, true, true, true, true, false, false, false, false, false, false, false, false, false, false, false, false, false, false, false, false, false, false, false, false, false, false, false, false, false, false, false, false, false, false]) (by rfl) (by kernel_rfl) (by kernel_rfl) (opv_load_slr (fo := 1) (by rfl) na4 rfl hs hy (v := .bool false) (by rw [← hyc]; rfl)) (by rfl) rfl ?_
                  refine da_any hap htm (i := 9) (by rfl) (by kernel_rfl) (by rfl) (listed' := #[true, true, true, true, true, true, true, true, true, true, false, false, false, false, false, false, false, false, false, false, false, false, false, false, false, false, false, false, false, false, false, false, false, false, false, false, false, false, false]) (by rfl) (fun _ => (opv_move (by rfl))) (by rfl) rfl ?_
                  refine da_any hap htm (i := 10) (by rfl) (by kernel_rfl) (by rfl) (listed' := #[true, true, true, true, true, true, true, true, true, true, true, false, false, false, false, false, false, false, false, false, false, false, false, false, false, false, false, false, false, false, false, false, false, false, false, false, false, false, false]) (by rfl) (fun _ => (opv_move (by rfl))) (wtd_run rfl rfl (by rfl) rfl) rfl ?_
                  refine da_any hap htm (i := 11) (by rfl) (by kernel_rfl) (by rfl) (listed' := #[true, true, true, true, true, true, true, true, true, true, true, true, false, false, false, false, false, false, false, false, false, false, false, false, false, false, false, false, false, false, false, false, false, false, false, false, false, false, false]) (by rfl) (fun _ => (opv_move (by rfl))) (wtd_run rfl rfl (by rfl) rfl) rfl ?_
                  refine da_any hap htm (i := 12) (by rfl) (by kernel_rfl) (by rfl) (listed' := #[true, true, true, true, true, true, true, true, true, true, true, true, true, false, false, false, false, false, false, false, false, false, false, false, false, false, false, false, false, false, false, false, false, false, false, false, false, false, false]) (by rfl) (fun _ => (opv_move (by rfl))) (wtd_run rfl rfl (by rfl) rfl) rfl ?_
                  refine da_any hap htm (i := 13) (by rfl) (by kernel_rfl) (by rfl) (listed' := #[true, true, true, true, true, true, true, true, true, true, true, true, true, true, false, false, false, false, false, false, false, false, false, false, false, false, false, false, false, false, false, false, false, false, false, false, false, false, false]) (by rfl) (fun _ => (opv_indexAddr_sv (i := i) (by rfl) hsv (by rfl) Try.underlying25 ti35 (by rfl) (by omega))) (wtd_run rfl rfl (by rfl) rfl) rfl ?_
                  refine da_any hap htm (i := 14) (by rfl) (by kernel_rfl) (by rfl) (listed' := #[true, true, true, true, true, true, true, true, true, true, true, true, true, true, true, false, false, false, false, false, false, false, false, false, false, false, false, false, false, false, false, false, false, false, false, false, false, false, false]) (by rfl) (fun _ => (opv_fieldAddr (by rfl) fld35_4)) (wtd_run rfl rfl (by rfl) rfl) rfl ?_
                  refine da_now [16, 17, 18, 24, 25, 26, 27, 28, 29, 30, 31, 32, 33, 34, 35, 36, 37, 38] hap htm (i := 15) (by rfl) (by kernel_rfl) (by rfl) (listed' := #[true, true, true, true, true, true, true, true, true, true, true, true, true, true, true, true, false, false, false, false, false, false, false, false, false, false, false, false, false, false, false, false, false, false, false, false, false, false, false]) (by rfl) (by kernel_rfl) (by kernel_rfl) (opv_load_fld (fo := 8) Hop.cells_len (by rfl) na3 (by repeat (first | exact Pk.here _ | apply Pk.there)) ho (by rfl)) (wtd_run rfl rfl (by rfl) rfl) rfl ?_
                  refine da_any hap htm (i := 16) (by rfl) (by kernel_rfl) (by rfl) (listed' := #[true, true, true, true, true, true, true, true, true, true, true, true, true, true, true, true, true, false, false, false, false, false, false, false, false, false, false, false, false, false, false, false, false, false, false, false, false, false, false]) (by rfl) (fun _ => (opv_indexAddr_slr (i := b) (by rfl) hs (by rfl) Try.underlying22 ti39 hb (by omega))) (wtd_run rfl rfl (by rfl) rfl) rfl ?_
                  refine da_any hap htm (i := 17) (by rfl) (by kernel_rfl) (by rfl) (listed' := #[true, true, true, true, true, true, true, true, true, true, true, true, true, true, true, true, true, true, false, false, false, false, false, false, false, false, false, false, false, false, false, false, false, false, false, false, false, false, false]) (by rfl) (fun _ => (opv_fieldAddr (by rfl) fld39_0)) (wtd_run rfl rfl (by rfl) rfl) rfl ?_
                  refine da_now [24, 25, 26, 27, 28, 29, 30, 31, 32, 33, 34, 35, 36, 37, 38] hap htm (i := 18) (by rfl) (by kernel_rfl) (by rfl) (listed' := #[true, true, true, true, true, true, true, true, true, true, true, true, true, true, true, true, true, true, true, false, false, false, false, false, false, false, false, false, false, false, false, false, false, false, false, false, false, false, false]) (by rfl) (by kernel_rfl) (by kernel_rfl) (opv_load_slr (fo := 0) (by rfl) na3 rfl hs hy (by rfl)) (wtd_run rfl rfl (by rfl) rfl) rfl ?_
                  refine da_any hap htm (i := 19) (by rfl) (by kernel_rfl) (by rfl) (listed' := #[true, true, true, true, true, true, true, true, true, true, true, true, true, true, true, true, true, true, true, true, false, false, false, false, false, false, false, false, false, false, false, false, false, false, false, false, false, false, false]) (by rfl) (fun _ => (opv_move (by rfl))) (wtd_run rfl rfl (by rfl) rfl) rfl ?_
                  refine da_any hap htm (i := 20) (by rfl) (by kernel_rfl) (by rfl) (listed' := #[true, true, true, true, true, true, true, true, true, true, true, true, true, true, true, true, true, true, true, true, true, false, false, false, false, false, false, false, false, false, false, false, false, false, false, false, false, false, false]) (by rfl) (fun _ => (opv_move (by rfl))) (wtd_run rfl rfl (by rfl) rfl) rfl ?_
                  refine da_any hap htm (i := 21) (by rfl) (by kernel_rfl) (by rfl) (listed' := #[true, true, true, true, true, true, true, true, true, true, true, true, true, true, true, true, true, true, true, true, true, true, false, false, false, false, false, false, false, false, false, false, false, false, false, false, false, false, false]) (by rfl) (fun _ => (opv_indexAddr_sv (i := i) (by rfl) hsv (by rfl) Try.underlying25 ti35 (by rfl) (by omega))) (wtd_run rfl rfl (by rfl) rfl) rfl ?_
                  refine da_any hap htm (i := 22) (by rfl) (by kernel_rfl) (by rfl) (listed' := #[true, true, true, true, true, true, true, true, true, true, true, true, true, true, true, true, true, true, true, true, true, true, true, false, false, false, false, false, false, false, false, false, false, false, false, false, false, false, false]) (by rfl) (fun _ => (opv_fieldAddr (by rfl) fld35_0)) (wtd_run rfl rfl (by rfl) rfl) rfl ?_
                  refine da_now [24, 25, 26, 27, 28, 29, 30, 31, 32, 33, 34, 35, 36, 37, 38] hap htm (i := 23) (by rfl) (by kernel_rfl) (by rfl) (listed' := #[true, true, true, true, true, true, true, true, true, true, true, true, true, true, true, true, true, true, true, true, true, true, true, true, false, false, false, false, false, false, false, false, false, false, false, false, false, false, false]) (by rfl) (by kernel_rfl) (by kernel_rfl) (opv_load_fld (fo := 0) Hop.cells_len (by rfl) na3 (by repeat (first | exact Pk.here _ | apply Pk.there)) ho (by rfl)) (wtd_run rfl rfl (by rfl) rfl) rfl ?_
                  refine da_any hap htm (i := 24) (by rfl) (by kernel_rfl) (by rfl) (listed' := #[true, true, true, true, true, true, true, true, true, true, true, true, true, true, true, true, true, true, true, true, true, true, true, true, true, false, false, false, false, false, false, false, false, false, false, false, false, false, false]) (by rfl) (fun _ => (opv_cmp (by rfl) (by rfl) (by rfl))) (wtd_run rfl rfl (by rfl) rfl) rfl ?_
                  refine da_any hap htm (i := 25) (by rfl) (by kernel_rfl) (by rfl) (listed' := #[true, true, true, true, true, true, true, true, true, true, true, true, true, true, true, true, true, true, true, true, true, true, true, true, true, true, false, false, false, false, false, false, false, false, false, false, false, false, false]) (by rfl) (fun _ => (sv_pick_f (by rfl) rfl (by rfl))) (by rfl) rfl ?_
                  refine da_any hap htm (i := 26) (by rfl) (by kernel_rfl) (by rfl) (listed' := #[true, true, true, true, true, true, true, true, true, true, true, true, true, true, true, true, true, true, true, true, true, true, true, true, true, true, true, false, false, false, false, false, false, false, false, false, false, false, false]) (by rfl) (fun _ => (opv_move (by rfl))) (by rfl) rfl ?_
                  refine sk_split (x := 128) (by rfl) (fun h82 => ?_) (fun h82 => ?_)
                  · first | have p82 := of_decide_eq_true h82 | have p82 := of_decide_eq_false h82 | have p82 := ndT h82 | have p82 := ndF h82 | have p82 := nbT h82 | have p82 := nbF h82 | have p82 := h82
                    exfalso; omega
                  · first | have p82 := of_decide_eq_true h82 | have p82 := of_decide_eq_false h82 | have p82 := ndT h82 | have p82 := ndF h82 | have p82 := nbT h82 | have p82 := nbF h82 | have p82 := h82
                    refine da_any hap htm (i := 27) (by rfl) (by kernel_rfl) (by rfl) (listed' := #[true, true, true, true, true, true, true, true, true, true, true, true, true, true, true, true, true, true, true, true, true, true, true, true, true, true, true, true, false, false, false, false, false, false, false, false, false, false, false]) (by rfl) (fun _ => (opv_move (by rfl))) (wtd_run rfl rfl (by rfl) h82) rfl ?_
                    refine da_any hap htm (i := 28) (by rfl) (by kernel_rfl) (by rfl) (listed' := #[true, true, true, true, true, true, true, true, true, true, true, true, true, true, true, true, true, true, true, true, true, true, true, true, true, true, true, true, true, false, false, false, false, false, false, false, false, false, false]) (by rfl) (fun _ => (opv_move (by rfl))) (wtd_run rfl rfl (by rfl) h82) rfl ?_
                    refine da_any hap htm (i := 29) (by rfl) (by kernel_rfl) (by rfl) (listed' := #[true, true, true, true, true, true, true, true, true, true, true, true, true, true, true, true, true, true, true, true, true, true, true, true, true, true, true, true, true, true, false, false, false, false, false, false, false, false, false]) (by rfl) (fun _ => (opv_indexAddr_sv (i := i) (by rfl) hsv (by rfl) Try.underlying25 ti35 (by rfl) (by omega))) (wtd_run rfl rfl (by rfl) h82) rfl ?_
                    refine da_any hap htm (i := 30) (by rfl) (by kernel_rfl) (by rfl) (listed' := #[true, true, true, true, true, true, true, true, true, true, true, true, true, true, true, true, true, true, true, true, true, true, true, true, true, true, true, true, true, true, true, false, false, false, false, false, false, false, false]) (by rfl) (fun _ => (opv_fieldAddr (by rfl) fld35_4)) (wtd_run rfl rfl (by rfl) h82) rfl ?_
                    refine da_now [37, 38] hap htm (i := 31) (by rfl) (by kernel_rfl) (by rfl) (listed' := #[true, true, true, true, true, true, true, true, true, true, true, true, true, true, true, true, true, true, true, true, true, true, true, true, true, true, true, true, true, true, true, true, false, false, false, false, false, false, false]) (by rfl) (by kernel_rfl) (by kernel_rfl) (opv_load_fld (fo := 8) Hop.cells_len (by rfl) na3 (by repeat (first | exact Pk.here _ | apply Pk.there)) ho (by rfl)) (wtd_run rfl rfl (by rfl) h82) rfl ?_
                    refine da_any hap htm (i := 32) (by rfl) (by kernel_rfl) (by rfl) (listed' := #[true, true, true, true, true, true, true, true, true, true, true, true, true, true, true, true, true, true, true, true, true, true, true, true, true, true, true, true, true, true, true, true, true, false, false, false, false, false, false]) (by rfl) (fun _ => (opv_move (by rfl))) (wtd_run rfl rfl (by rfl) h82) rfl ?_
                    refine da_any hap htm (i := 33) (by rfl) (by kernel_rfl) (by rfl) (listed' := #[true, true, true, true, true, true, true, true, true, true, true, true, true, true, true, true, true, true, true, true, true, true, true, true, true, true, true, true, true, true, true, true, true, true, false, false, false, false, false]) (by rfl) (fun _ => (opv_move (by rfl))) (wtd_run rfl rfl (by rfl) h82) rfl ?_
                    refine da_any hap htm (i := 34) (by rfl) (by kernel_rfl) (by rfl) (listed' := #[true, true, true, true, true, true, true, true, true, true, true, true, true, true, true, true, true, true, true, true, true, true, true, true, true, true, true, true, true, true, true, true, true, true, true, false, false, false, false]) (by rfl) (fun _ => (opv_indexAddr_sv (i := i) (by rfl) hsv (by rfl) Try.underlying25 ti35 (by rfl) (by omega))) (wtd_run rfl rfl (by rfl) h82) rfl ?_
                    refine da_any hap htm (i := 35) (by rfl) (by kernel_rfl) (by rfl) (listed' := #[true, true, true, true, true, true, true, true, true, true, true, true, true, true, true, true, true, true, true, true, true, true, true, true, true, true, true, true, true, true, true, true, true, true, true, true, false, false, false]) (by rfl) (fun _ => (opv_fieldAddr (by rfl) fld35_3)) (wtd_run rfl rfl (by rfl) h82) rfl ?_
                    refine da_now [37, 38] hap htm (i := 36) (by rfl) (by kernel_rfl) (by rfl) (listed' := #[true, true, true, true, true, true, true, true, true, true, true, true, true, true, true, true, true, true, true, true, true, true, true, true, true, true, true, true, true, true, true, true, true, true, true, true, true, false, false]) (by rfl) (by kernel_rfl) (by kernel_rfl) (opv_load_fld (fo := 7) Hop.cells_len (by rfl) na3 (by repeat (first | exact Pk.here _ | apply Pk.there)) ho (by rfl)) (wtd_run rfl rfl (by rfl) h82) rfl ?_
                    refine da_any hap htm (i := 37) (by rfl) (by kernel_rfl) (by rfl) (listed' := #[true, true, true, true, true, true, true, true, true, true, true, true, true, true, true, true, true, true, true, true, true, true, true, true, true, true, true, true, true, true, true, true, true, true, true, true, true, true, false]) (by rfl) (fun _ => (opv_cmp (by rfl) (by rfl) (by rfl))) (wtd_run rfl rfl (by rfl) h82) rfl ?_
                    refine da_any hap htm (i := 38) (by rfl) (by kernel_rfl) (by rfl) (listed' := #[true, true, true, true, true, true, true, true, true, true, true, true, true, true, true, true, true, true, true, true, true, true, true, true, true, true, true, true, true, true, true, true, true, true, true, true, true, true, true]) (by rfl) (fun _ => (sv_pick_f (by rfl) h82 (by rfl))) (by rfl) rfl ?_
                    refine da_done (by kernel_rfl) ?_
                    refine jk_then ?_
                    refine sk_split (x := 140) (by rfl) (fun h91 => ?_) (fun h91 => ?_)
                    · first | have p91 := of_decide_eq_true h91 | have p91 := of_decide_eq_false h91 | have p91 := ndT h91 | have p91 := ndF h91 | have p91 := nbT h91 | have p91 := nbF h91 | have p91 := h91
                      exfalso; omega
                    · first | have p91 := of_decide_eq_true h91 | have p91 := of_decide_eq_false h91 | have p91 := ndT h91 | have p91 := ndF h91 | have p91 := nbT h91 | have p91 := nbF h91 | have p91 := h91
                      refine sc_false (by rfl) h91 ?_
                      refine jc_skip ?_
                      refine jk_then ?_
                      refine sc_region ?_
                      refine so_pure (opv_move (by rfl)) (by rfl) rfl ?_
                      refine so_pure (opv_add (by rfl) (by rfl) (wrap64_ok (by omega))) (by rfl) rfl ?_
                      refine so_pure (opv_assign (by rfl)) (by rfl) rfl ?_
                      refine jo_nil ?_
                      refine jk_block ?_
                      refine jk_then ?_
                      refine sc_region ?_
                      refine so_pure (opv_move (by rfl)) (by rfl) rfl ?_
                      refine so_pure (opv_add (by rfl) (by rfl) (wrap64_ok (by omega))) (by rfl) rfl ?_
                      refine so_pure (opv_assign (by rfl)) (by rfl) rfl ?_
                      refine jo_nil ?_
                      have hcp := count_take (p := fun o => decide (0 ≤ o.fin)) ho
                      rw [if_pos (by simpa using hfin)] at hcp
                      refine jk_round (i + 1, c + 1 + 1) ⟨by omega, by omega⟩ (by show ops.length - (i + 1) < ops.length - i; omega) ⟨rfl, rfl, rfl, rfl, trivial⟩ (fun w hw => ?_)
                      show St _ _ [own sv 35 9 ops.length (ops.flatMap Hop.cells)] _
                      exact St.sel hw (by repeat (first | exact Pks.nil _ | exact Pk.here _ | apply Pk.there | apply Pks.cons))
                · first | have p64 := of_decide_eq_true h64 | have p64 := of_decide_eq_false h64 | have p64 := ndT h64 | have p64 := ndF h64 | have p64 := nbT h64 | have p64 := nbF h64 | have p64 := h64
                  refine sc_false (by rfl) h64 ?_
                  refine jc_skip ?_
                  refine jk_block ?_
                  refine jk_then ?_
                  refine sc_region ?_
                  refine so_pure (opv_move (by rfl)) (by rfl) rfl ?_
                  refine so_pure (opv_add (by rfl) (by rfl) (wrap64_ok (by omega))) (by rfl) rfl ?_
                  refine so_pure (opv_assign (by rfl)) (by rfl) rfl ?_
                  refine jo_nil ?_
                  have hfin := p64
                  have hcp := count_take (p := fun o => decide (0 ≤ o.fin)) ho
                  rw [if_neg (by simpa using hfin)] at hcp
                  refine jk_round (i + 1, c + 1) ⟨by omega, by omega⟩ (by show ops.length - (i + 1) < ops.length - i; omega) ⟨rfl, rfl, rfl, rfl, trivial⟩ (fun w hw => ?_)
                  show St _ _ [own sv 35 9 ops.length (ops.flatMap Hop.cells)] _
                  exact St.sel hw (by repeat (first | exact Pks.nil _ | exact Pk.here _ | apply Pk.there | apply Pks.cons))
      · first | have p22 := of_decide_eq_true h22 | have p22 := of_decide_eq_false h22 | have p22 := ndT h22 | have p22 := ndF h22 | have p22 := nbT h22 | have p22 := nbF h22 | have p22 := h22
        refine sc_false (by rfl) h22 ?_
        refine jc_exit ?_
        refine jk_then_exit ?_
        refine jk_then_exit ?_
        refine jk_block_exit ?_
        refine jk_then ?_
        refine jc_seq ?_
        have hce : c = n := by
          have : i = ops.length := by omega
          subst this
          rw [List.take_length] at hc
          omega
        refine sc_region ?_
        refine so_pure (opv_move (by rfl)) (by rfl) rfl ?_
        refine so_pure (opv_move (by rfl)) (by rfl) rfl ?_
        refine so_pure (opv_len_slice (by rfl) Try.underlying22) (by rfl) rfl ?_
        refine so_pure (opv_cmp (by rfl) (by rfl) (by rfl)) (by rfl) rfl ?_
        refine so_pure (opv_move (by rfl)) (by rfl) rfl ?_
        refine sk_split (x := 147) (by rfl) (fun h99 => ?_) (fun h99 => ?_)
        · first | have p99 := of_decide_eq_true h99 | have p99 := of_decide_eq_false h99 | have p99 := ndT h99 | have p99 := ndF h99 | have p99 := nbT h99 | have p99 := nbF h99 | have p99 := h99
          refine so_eff (eff_call0 (G := fun v New => v = .bool true ∧ New = []) (by rfl) (by rfl) tx8 (by exact fun w1 hw1 => (live_spec w1).mono (fun v _ ⟨hv, hst⟩ => ⟨[], ⟨hv, rfl⟩, hst⟩))) (wtd_run rfl rfl (by rfl) h99) rfl ?_
          rintro _ _ ⟨_, ⟨rfl, rfl⟩, rfl⟩
          refine so_pure (sv_pick_t (by rfl) h99 (by rfl)) (by rfl) rfl ?_
          refine so_pure (opv_assign (by rfl)) (by rfl) rfl ?_
          refine jo_nil ?_
          refine jk_then ?_
          refine jc_ret ?_
          refine jk_fn_ret rfl rfl (by rfl) (fun w hw => ?_)
          exact ⟨rfl, hw.forget⟩
        · first | have p99 := of_decide_eq_true h99 | have p99 := of_decide_eq_false h99 | have p99 := ndT h99 | have p99 := ndF h99 | have p99 := nbT h99 | have p99 := nbF h99 | have p99 := h99
          exfalso; omega
end Go.Hist
