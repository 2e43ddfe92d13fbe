/- A part of a proof for the laws of the seat Ytmhdjmbckgamlaa; it has no conditions of its own. -/
import Derived.Test.YtmhdjmbckgamlaaPlW3
namespace Go.Place
open Go Go.SL Go.Proofs
set_option maxHeartbeats 4000000 in
theorem refchoose_spec (w : World) (A : Option Addr) (n c : Nat) (xs : List Int) (hs : SlR w 3 1 ic A n xs) (hn : n ≤ 1000000) (id gen : Int) : Does Try.prog 11 #[.int .i64 id, .int .i64 gen, .slice A n c] w (fun v w' => ∃ sl, v = .tuple #[sl, .int .i64 (chooseE id gen xs)] ∧ St w Emp [own sl 3 1 (chooseL id gen xs).length ((chooseL id gen xs).flatMap ic)] w') := by
  refine fn_body (fn := Try.f11) Try.func11 rfl [(0, .int .i64 id), (1, .int .i64 gen), (2, .slice A n c)] (by exact ⟨rfl, rfl, rfl, trivial⟩) rfl (St.start w) ?_
  refine jc_seq ?_
  refine sc_region ?_
  refine so_pure (opv_assign (by rfl)) (by rfl) rfl ?_
  refine so_pure (opv_assign (by rfl)) (by rfl) rfl ?_
  refine jo_nil ?_
  refine jk_then ?_
  refine jc_seq ?_
  refine jc_seq ?_
  refine sc_region ?_
  refine so_pure (opv_move (by rfl)) (by rfl) rfl ?_
  refine so_eff (eff_call0 (fl := []) (cl := []) (G := fun v New => v = .bool (decide (0 ≤ id) && decide (id ≤ 1099511627776)) ∧ New = []) (by rfl) (by rfl) tx22 (by exact fun w1 hw1 => (number_spec w1 id).mono (fun _ _ ⟨hv, hst⟩ => ⟨[], ⟨hv, rfl⟩, hst⟩))) (by rfl) rfl ?_
  rintro _ _ ⟨_, ⟨rfl, rfl⟩, rfl⟩
  refine so_pure (opv_not (by rfl)) (by rfl) rfl ?_
  refine so_pure (opv_move (by rfl)) (by rfl) rfl ?_
  refine sk_split (x := 13) (by rfl) (fun h6 => ?_) (fun h6 => ?_)
  · first | have p6 := of_decide_eq_true h6 | have p6 := of_decide_eq_false h6 | have p6 := ndT h6 | have p6 := ndF h6 | have p6 := nbT h6 | have p6 := nbF h6 | have p6 := h6
    refine so_skip (wtd_not rfl rfl (by rfl) (not_t (nbT h6))) rfl ?_
    refine so_skip (wtd_not rfl rfl (by rfl) (not_t (nbT h6))) rfl ?_
    refine so_skip (wtd_not rfl rfl (by rfl) (not_t (nbT h6))) rfl ?_
    refine so_pure (sv_pick_t (by rfl) (not_t (nbT h6)) (by rfl)) (by rfl) rfl ?_
    refine so_pure (opv_move (by rfl)) (by rfl) rfl ?_
    refine so_skip (wtd_not rfl rfl (by rfl) rfl) rfl ?_
    refine so_skip (wtd_not rfl rfl (by rfl) rfl) rfl ?_
    refine so_skip (wtd_not rfl rfl (by rfl) rfl) rfl ?_
    refine so_pure (sv_pick_t (by rfl) rfl (by rfl)) (by rfl) rfl ?_
    refine jo_nil ?_
    refine jk_then ?_
    refine sc_true (by rfl) rfl ?_
    refine jc_seq ?_
    refine sc_region ?_
    refine so_pure (opv_assign (by rfl)) (by rfl) rfl ?_
    refine so_pure (opv_assign (by rfl)) (by rfl) rfl ?_
    refine jo_nil ?_
    refine jk_then ?_
    refine jc_ret ?_
    refine jk_then_ret ?_
    refine jk_fn_ret2 rfl rfl (by rfl) (by rfl) (fun w hw => ?_)
    have hb : badC id gen xs = true := by unfold badC; cases hare : areL xs <;> simp_all <;> omega
    have e1 : chooseE id gen xs = 1 := by unfold chooseE; rw [if_pos hb]
    have e2 : chooseL id gen xs = [] := by unfold chooseL; rw [if_pos hb]
    rw [e1, e2]
    exact ⟨_, rfl, hw.forget.own_nil 3 1⟩
  · first | have p6 := of_decide_eq_true h6 | have p6 := of_decide_eq_false h6 | have p6 := ndT h6 | have p6 := ndF h6 | have p6 := nbT h6 | have p6 := nbF h6 | have p6 := h6
    refine so_pure (opv_move (by rfl)) (wtd_run rfl rfl (by rfl) (not_f (nbF h6))) rfl ?_
    refine so_eff (eff_call0 (fl := []) (cl := []) (G := fun v New => v = .bool (decide (0 ≤ gen) && decide (gen ≤ 1099511627776)) ∧ New = []) (by rfl) (by rfl) tx22 (by exact fun w1 hw1 => (number_spec w1 gen).mono (fun _ _ ⟨hv, hst⟩ => ⟨[], ⟨hv, rfl⟩, hst⟩))) (wtd_run rfl rfl (by rfl) (not_f (nbF h6))) rfl ?_
    rintro _ _ ⟨_, ⟨rfl, rfl⟩, rfl⟩
    refine so_pure (opv_not (by rfl)) (wtd_run rfl rfl (by rfl) (not_f (nbF h6))) rfl ?_
    refine so_pure (sv_pick_f (by rfl) (not_f (nbF h6)) (by rfl)) (by rfl) rfl ?_
    refine so_pure (opv_move (by rfl)) (by rfl) rfl ?_
    refine sk_split (x := 18) (by rfl) (fun h9 => ?_) (fun h9 => ?_)
    · first | have p9 := of_decide_eq_true h9 | have p9 := of_decide_eq_false h9 | have p9 := ndT h9 | have p9 := ndF h9 | have p9 := nbT h9 | have p9 := nbF h9 | have p9 := h9
      refine so_skip (wtd_not rfl rfl (by rfl) (not_t (nbT h9))) rfl ?_
      refine so_skip (wtd_not rfl rfl (by rfl) (not_t (nbT h9))) rfl ?_
      refine so_skip (wtd_not rfl rfl (by rfl) (not_t (nbT h9))) rfl ?_
      refine so_pure (sv_pick_t (by rfl) (not_t (nbT h9)) (by rfl)) (by rfl) rfl ?_
      refine jo_nil ?_
      refine jk_then ?_
      refine sc_true (by rfl) rfl ?_
      refine jc_seq ?_
      refine sc_region ?_
      refine so_pure (opv_assign (by rfl)) (by rfl) rfl ?_
      refine so_pure (opv_assign (by rfl)) (by rfl) rfl ?_
      refine jo_nil ?_
      refine jk_then ?_
      refine jc_ret ?_
      refine jk_then_ret ?_
      refine jk_fn_ret2 rfl rfl (by rfl) (by rfl) (fun w hw => ?_)
      have hb : badC id gen xs = true := by unfold badC; cases hare : areL xs <;> simp_all <;> omega
      have e1 : chooseE id gen xs = 1 := by unfold chooseE; rw [if_pos hb]
      have e2 : chooseL id gen xs = [] := by unfold chooseL; rw [if_pos hb]
      rw [e1, e2]
      exact ⟨_, rfl, hw.forget.own_nil 3 1⟩
    · first | have p9 := of_decide_eq_true h9 | have p9 := of_decide_eq_false h9 | have p9 := ndT h9 | have p9 := ndF h9 | have p9 := nbT h9 | have p9 := nbF h9 | have p9 := h9
      refine so_pure (opv_move (by rfl)) (wtd_run rfl rfl (by rfl) (not_f (nbF h9))) rfl ?_
      refine so_eff (eff_call0 (fl := []) (cl := []) (G := fun v New => v = .bool (areL xs) ∧ New = []) (by rfl) (by rfl) tx23 (by exact fun w1 hw1 => (reflive_spec w1 A n c xs (hs.keepSt hw1) hn).mono (fun _ _ ⟨hv, hst⟩ => ⟨[], ⟨hv, rfl⟩, hst⟩))) (wtd_run rfl rfl (by rfl) (not_f (nbF h9))) rfl ?_
      rintro _ _ ⟨_, ⟨rfl, rfl⟩, rfl⟩
      refine so_pure (opv_not (by rfl)) (wtd_run rfl rfl (by rfl) (not_f (nbF h9))) rfl ?_
      refine so_pure (sv_pick_f (by rfl) (not_f (nbF h9)) (by rfl)) (by rfl) rfl ?_
      refine jo_nil ?_
      refine jk_then ?_
      refine sk_split (x := 22) (by rfl) (fun h12 => ?_) (fun h12 => ?_)
      · first | have p12 := of_decide_eq_true h12 | have p12 := of_decide_eq_false h12 | have p12 := ndT h12 | have p12 := ndF h12 | have p12 := nbT h12 | have p12 := nbF h12 | have p12 := h12
        refine sc_true (by rfl) (not_t (nbT h12)) ?_
        refine jc_seq ?_
        refine sc_region ?_
        refine so_pure (opv_assign (by rfl)) (by rfl) rfl ?_
        refine so_pure (opv_assign (by rfl)) (by rfl) rfl ?_
        refine jo_nil ?_
        refine jk_then ?_
        refine jc_ret ?_
        refine jk_then_ret ?_
        refine jk_fn_ret2 rfl rfl (by rfl) (by rfl) (fun w hw => ?_)
        have hb : badC id gen xs = true := by unfold badC; cases hare : areL xs <;> simp_all <;> omega
        have e1 : chooseE id gen xs = 1 := by unfold chooseE; rw [if_pos hb]
        have e2 : chooseL id gen xs = [] := by unfold chooseL; rw [if_pos hb]
        rw [e1, e2]
        exact ⟨_, rfl, hw.forget.own_nil 3 1⟩
      · first | have p12 := of_decide_eq_true h12 | have p12 := of_decide_eq_false h12 | have p12 := ndT h12 | have p12 := ndF h12 | have p12 := nbT h12 | have p12 := nbF h12 | have p12 := h12
        refine sc_false (by rfl) (not_f (nbF h12)) ?_
        refine jc_skip ?_
        refine jk_then ?_
        refine jc_seq ?_
        refine jc_seq ?_
        have hb : badC id gen xs = false := by unfold badC; cases hare : areL xs <;> simp_all <;> omega
        refine sc_region ?_
        refine so_pure (opv_move (by rfl)) (by rfl) rfl ?_
        refine so_pure (opv_len_slice (by rfl) Try.underlying22) (by rfl) rfl ?_
        refine so_pure (opv_cmp (by rfl) (by rfl) (by rfl)) (by rfl) rfl ?_
        refine jo_nil ?_
        refine jk_then ?_
        refine sk_split (x := 25) (by rfl) (fun h16 => ?_) (fun h16 => ?_)
        · first | have p16 := of_decide_eq_true h16 | have p16 := of_decide_eq_false h16 | have p16 := ndT h16 | have p16 := ndF h16 | have p16 := nbT h16 | have p16 := nbF h16 | have p16 := h16
          refine sc_true (by rfl) h16 ?_
          refine jc_seq ?_
          refine sc_region ?_
          refine so_pure (opv_assign (by rfl)) (by rfl) rfl ?_
          refine so_pure (opv_assign (by rfl)) (by rfl) rfl ?_
          refine jo_nil ?_
          refine jk_then ?_
          refine jc_ret ?_
          refine jk_then_ret ?_
          refine jk_fn_ret2 rfl rfl (by rfl) (by rfl) (fun w hw => ?_)
          have e1 : chooseE id gen xs = 2 := by unfold chooseE; rw [if_neg (by rw [hb]; simp), if_pos (by have := hs.1; omega)]
          have e2 : chooseL id gen xs = [] := by unfold chooseL; rw [if_neg (by rw [hb]; simp), if_pos (by have := hs.1; omega)]
          rw [e1, e2]
          exact ⟨_, rfl, hw.forget.own_nil 3 1⟩
        · first | have p16 := of_decide_eq_true h16 | have p16 := of_decide_eq_false h16 | have p16 := ndT h16 | have p16 := ndF h16 | have p16 := nbT h16 | have p16 := nbF h16 | have p16 := h16
          refine sc_false (by rfl) h16 ?_
          refine jc_skip ?_
          refine jk_then ?_
          refine jc_seq ?_
          refine sc_region ?_
          refine so_pure (opv_assign (by rfl)) (by rfl) rfl ?_
          refine jo_nil ?_
          refine jk_then ?_
          refine jc_seq ?_
          refine jc_seq ?_
          obtain ⟨f, hf⟩ : ∃ f : Nat, (f : Int) = 5 * id + 7 * gen := ⟨(5 * id + 7 * gen).toNat, Int.toNat_of_nonneg (by simp [badC] at hb; omega)⟩
          have hfb : f ≤ 1000000000000000 := by simp [badC] at hb; omega
          have hb1 : 0 ≤ id ∧ id ≤ 1099511627776 ∧ 0 ≤ gen ∧ gen ≤ 1099511627776 := by simp [badC] at hb; omega
          refine sc_region ?_
          refine so_pure (opv_assign (by rfl)) (by rfl) rfl ?_
          refine jo_nil ?_
          refine jk_then ?_
          refine jc_block ?_
          refine jc_loop (σ := Nat × Value) (fun (i, ov) => [(0, .int .i64 id), (1, .int .i64 gen), (2, .slice A n c), (8, ov), (9, .int .i64 i)]) (fun (i, ov) => [own ov 3 1 (rotL xs f i).length ((rotL xs f i).flatMap ic)]) (fun (i, ov) => (i ≤ 9) ∧ (True)) (fun (i, ov) => 9 - i) (0, .slice none 0 0) ⟨Nat.zero_le _, trivial⟩ ⟨rfl, rfl, rfl, rfl, rfl, trivial⟩ (fun w hw => hw.own_nil 3 1) ?_
          rintro ⟨i, ov⟩ ⟨hi, ht⟩
          show Jc _ _ [(0, .int .i64 id), (1, .int .i64 gen), (2, .slice A n c), (8, ov), (9, .int .i64 i)] [own ov 3 1 (rotL xs f i).length ((rotL xs f i).flatMap ic)] _
          refine jc_seq ?_
          refine jc_seq ?_
          refine sc_region ?_
          refine so_pure (opv_move (by rfl)) (by rfl) rfl ?_
          refine so_pure (opv_cmp (by rfl) (by rfl) (by rfl)) (by rfl) rfl ?_
          refine jo_nil ?_
          refine jk_then ?_
          refine sk_split (x := 27) (by rfl) (fun h22 => ?_) (fun h22 => ?_)
          · first | have p22 := of_decide_eq_true h22 | have p22 := of_decide_eq_false h22 | have p22 := ndT h22 | have p22 := ndF h22 | have p22 := nbT h22 | have p22 := nbF h22 | have p22 := h22
            refine sc_true (by rfl) h22 ?_
            refine jc_skip ?_
            refine jk_then ?_
            refine jc_seq ?_
            refine jc_block ?_
            have hil : (f + i) % n < n := Nat.mod_lt _ (by omega)
            obtain ⟨_, _, _, _, x, _, _, hx, _⟩ := hs.get hil
            have hx3 : xs[(f + i) % xs.length]? = some x := by rw [← hs.1]; exact hx
            refine sc_region ?_
            refine so_pure (opv_move (by rfl)) (by rfl) rfl ?_
            refine so_pure (opv_move (by rfl)) (by rfl) rfl ?_
            refine so_pure (opv_move (by rfl)) (by rfl) rfl ?_
            refine so_pure (opv_mul (by rfl) (by rfl) (wrap64_ok (by omega))) (by rfl) rfl ?_
            refine so_pure (opv_move (by rfl)) (by rfl) rfl ?_
            refine so_pure (opv_mul (by rfl) (by rfl) (wrap64_ok (by omega))) (by rfl) rfl ?_
            refine so_pure (opv_add (by rfl) (by rfl) (wrap64_ok (by omega))) (by rfl) rfl ?_
            rw [← hf]
            refine so_pure (opv_move (by rfl)) (by rfl) rfl ?_
            refine so_pure (opv_add_nat (m := f) (n := i) (by rfl) (by rfl) (by omega)) (by rfl) rfl ?_
            refine so_pure (opv_move (by rfl)) (by rfl) rfl ?_
            refine so_pure (opv_len_slice (by rfl) Try.underlying22) (by rfl) rfl ?_
            refine so_pure (opv_rem_nat (m := f + i) (n := n) (by rfl) (by rfl) (by omega)) (by rfl) rfl ?_
            refine so_pure (opv_indexAddr_slr (i := (f + i) % n) (by rfl) hs (by rfl) Try.underlying22 ti3 rfl hil) (by rfl) rfl ?_
            refine so_pure (opv_load_slr (enc := ic) (u := x) (fo := 0) (v := .int .i64 x) (by rfl) na3 rfl hs hx rfl) (by rfl) rfl ?_
            refine so_eff (eff_buildSlice (by rfl) (fun w => by exact bsl22_1_0 ..)) (by rfl) rfl ?_
            rintro _ _ ⟨b47, rfl, rfl⟩
            refine so_eff (eff_append_lit (by rfl) (by rfl) Try.underlying22 ti3 (by rfl) (by omega) (by repeat (first | exact Pk.here _ | apply Pk.there)) (rd_pk (by repeat (first | exact Pk.here _ | apply Pk.there))) (by rfl) (by rfl) (by rw [rotL_len]; unfold maxLen; omega) (by rw [rotL_len]; omega)) (by rfl) rfl ?_
            rintro nv _ ⟨rfl, _⟩
            refine so_pure (opv_assign (by rfl)) (by rfl) rfl ?_
            refine jo_nil ?_
            refine jk_block ?_
            refine jk_then ?_
            refine sc_region ?_
            refine so_pure (opv_move (by rfl)) (by rfl) rfl ?_
            refine so_pure (opv_add (by rfl) (by rfl) (wrap64_ok (by omega))) (by rfl) rfl ?_
            refine so_pure (opv_assign (by rfl)) (by rfl) rfl ?_
            refine jo_nil ?_
            refine jk_round (i + 1, nv) ⟨by omega, trivial⟩ (by show 9 - (i + 1) < 9 - i; omega) ⟨rfl, rfl, rfl, rfl, rfl, trivial⟩ (fun w hw => ?_)
            show St _ _ [own (nv) 3 1 (rotL xs f (i + 1)).length ((rotL xs f (i + 1)).flatMap ic)] _
            rw [rotL_succ hx3, List.length_append, List.flatMap_append]
            exact St.sel (Sb := [own nv 3 1 ((rotL xs f i).length + 1) ((rotL xs f i).flatMap ic ++ ic x)]) hw (by repeat (first | exact Pks.nil _ | exact Pk.here _ | apply Pk.there | apply Pks.cons))
          · first | have p22 := of_decide_eq_true h22 | have p22 := of_decide_eq_false h22 | have p22 := ndT h22 | have p22 := ndF h22 | have p22 := nbT h22 | have p22 := nbF h22 | have p22 := h22
            refine sc_false (by rfl) h22 ?_
            refine jc_exit ?_
            refine jk_then_exit ?_
            refine jk_then_exit ?_
            refine jk_block_exit ?_
            refine jk_then ?_
            refine jc_seq ?_
            refine sc_region ?_
            refine so_pure (opv_move (by rfl)) (by rfl) rfl ?_
            refine so_pure (opv_assign (by rfl)) (by rfl) rfl ?_
            refine so_pure (opv_assign (by rfl)) (by rfl) rfl ?_
            refine jo_nil ?_
            refine jk_then ?_
            refine jc_ret ?_
            refine jk_fn_ret2 rfl rfl (by rfl) (by rfl) (fun w hw => ?_)
            have e9 : i = 9 := by omega
            subst e9
            have e1 : chooseE id gen xs = 0 := by unfold chooseE; rw [if_neg (by rw [hb]; simp), if_neg (by have := hs.1; omega)]
            have e2 : chooseL id gen xs = rotL xs f 9 := by unfold chooseL; rw [if_neg (by rw [hb]; simp), if_neg (by have := hs.1; omega)]; congr 1; omega
            rw [e1, e2]
            exact ⟨_, rfl, St.sel hw (by repeat (first | exact Pks.nil _ | exact Pk.here _ | apply Pk.there | apply Pks.cons))⟩
end Go.Place
