/- A part of a proof for the laws of the seat Ytmhdjmbckgamlaa; it has no conditions of its own. -/
import Derived.Test.YtmhdjmbckgamlaaPlW9
import Derived.Test.YtmhdjmbckgamlaaPlFits
import Derived.Test.YtmhdjmbckgamlaaPlPlain
namespace Go.Place
open Go Go.SL Go.Proofs
set_option maxHeartbeats 4000000 in
theorem law_apart (w : World) (id gen : Int) (A : Option Addr) (n c : Nat) (xs : List Int) (hs : SlR w 3 1 ic A n xs) (hmn : n ≤ 9223372036854775807) : Does Try.prog 5 #[.int .i64 id, .int .i64 gen, .slice A n c] w (fun v w' => v = .bool true ∧ St w Emp [] w') := by
  refine fn_body (fn := Try.f5) Try.func5 rfl [(0, .int .i64 id), (1, .int .i64 gen), (2, .slice A n c)] (by exact ⟨rfl, rfl, rfl, trivial⟩) rfl (St.start w) ?_
  refine jc_seq ?_
  refine sc_region ?_
  refine so_pure (opv_assign (by rfl)) (by rfl) rfl ?_
  refine jo_nil ?_
  refine jk_then ?_
  refine jc_seq ?_
  refine jc_seq ?_
  refine sc_region ?_
  refine so_pure (opv_move (by rfl)) (by rfl) rfl ?_
  refine so_pure (opv_len_slice (by rfl) Try.underlying22) (by rfl) rfl ?_
  refine so_pure (opv_cmp (by rfl) (by rfl) (by rfl)) (by rfl) rfl ?_
  refine jo_nil ?_
  refine jk_then ?_
  refine sk_split (x := 18) (by rfl) (fun h5 => ?_) (fun h5 => ?_)
  · first | have p5 := of_decide_eq_true h5 | have p5 := of_decide_eq_false h5 | have p5 := ndT h5 | have p5 := ndF h5 | have p5 := nbT h5 | have p5 := nbF h5 | have p5 := h5
    refine sc_true (by rfl) h5 ?_
    refine jc_seq ?_
    refine sc_region ?_
    refine so_eff (eff_call0 (G := fun u New => u = .bool true ∧ New = []) (by rfl) (by rfl) tx9 (by exact fun w1 hw1 => (live_spec w1).mono (fun _ _ ⟨hv, hst⟩ => ⟨[], ⟨hv, rfl⟩, hst⟩))) (by rfl) rfl ?_
    rintro _ _ ⟨_, ⟨rfl, rfl⟩, rfl⟩
    refine so_pure (opv_assign (by rfl)) (by rfl) rfl ?_
    refine jo_nil ?_
    refine jk_then ?_
    refine jc_ret ?_
    refine jk_then_ret ?_
    refine jk_fn_ret rfl rfl (by rfl) (fun w hw => ?_)
    exact ⟨rfl, hw.forget⟩
  · first | have p5 := of_decide_eq_true h5 | have p5 := of_decide_eq_false h5 | have p5 := ndT h5 | have p5 := ndF h5 | have p5 := nbT h5 | have p5 := nbF h5 | have p5 := h5
    refine sc_false (by rfl) h5 ?_
    refine jc_skip ?_
    refine jk_then ?_
    refine jc_seq ?_
    refine sc_region ?_
    refine so_pure (opv_move (by rfl)) (by rfl) rfl ?_
    refine so_pure (opv_move (by rfl)) (by rfl) rfl ?_
    refine so_pure (opv_move (by rfl)) (by rfl) rfl ?_
    refine so_eff (eff_call0 (fl := []) (cl := []) (G := fun v New => ∃ sl, v = .tuple #[sl, .int .i64 (chooseE id gen xs)] ∧ New = [own sl 3 1 (chooseL id gen xs).length ((chooseL id gen xs).flatMap ic)]) (by rfl) (by rfl) tx10 (by exact fun w1 hw1 => (choose_spec w1 A n c xs (hs.keepSt hw1) (by omega) id gen).mono (fun _ _ ⟨sl, hv, hst⟩ => ⟨_, ⟨sl, hv, rfl⟩, hst⟩))) (by rfl) rfl ?_
    rintro _ _ ⟨_, ⟨sl1, rfl, rfl⟩, rfl⟩
    refine jo_sv (v := sl1) (by repeat (first | exact Pk.here _ | apply Pk.there)) (fun hsv1 => ?_)
    obtain ⟨A1, c1, rfl, hA1⟩ := hsv1
    have hsv1 : SV (.slice A1 (chooseL id gen xs).length c1) (chooseL id gen xs).length := ⟨A1, c1, rfl, hA1⟩
    refine so_pure (opv_move (by rfl)) (by rfl) rfl ?_
    refine so_pure (opv_extract (by rfl) (by rfl)) (by rfl) rfl ?_
    refine so_pure (opv_extract (by rfl) (by rfl)) (by rfl) rfl ?_
    refine so_pure (opv_assign (by rfl)) (by rfl) rfl ?_
    refine so_pure (opv_assign (by rfl)) (by rfl) rfl ?_
    refine jo_nil ?_
    refine jk_then ?_
    refine jc_seq ?_
    refine jc_seq ?_
    refine sc_region ?_
    refine so_pure (opv_move (by rfl)) (by rfl) rfl ?_
    refine so_pure (opv_cmp (by rfl) (by rfl) (by rfl)) (by rfl) rfl ?_
    refine jo_nil ?_
    refine jk_then ?_
    refine sk_split (x := 28) (by rfl) (fun h10 => ?_) (fun h10 => ?_)
    · first | have p10 := of_decide_eq_true h10 | have p10 := of_decide_eq_false h10 | have p10 := ndT h10 | have p10 := ndF h10 | have p10 := nbT h10 | have p10 := nbF h10 | have p10 := h10
      refine sc_true (by rfl) h10 ?_
      refine jc_seq ?_
      have he : ¬ chooseE id gen xs = 0 := p10
      have hnil := not_chosen he
      have hl0 : (chooseL id gen xs).length = 0 := by rw [hnil]; rfl
      refine sc_region ?_
      refine so_pure (opv_move (by rfl)) (by rfl) rfl ?_
      refine so_pure (opv_len_slice (by rfl) Try.underlying22) (by rfl) rfl ?_
      refine so_pure (opv_cmp (b := true) (by rfl) (by rfl) (by exact congrArg some (decide_eq_true (by rw [hl0]; rfl)))) (by rfl) rfl ?_
      refine so_pure (opv_move (by rfl)) (by rfl) rfl ?_
      refine so_eff (eff_call0 (G := fun u New => u = .bool true ∧ New = []) (by rfl) (by rfl) tx9 (by exact fun w1 hw1 => (live_spec w1).mono (fun _ _ ⟨hv, hst⟩ => ⟨[], ⟨hv, rfl⟩, hst⟩))) (wtd_run rfl rfl (by rfl) rfl) rfl ?_
      rintro _ _ ⟨_, ⟨rfl, rfl⟩, rfl⟩
      refine so_pure (sv_pick_t (by rfl) rfl (by rfl)) (by rfl) rfl ?_
      refine so_pure (opv_assign (by rfl)) (by rfl) rfl ?_
      refine jo_nil ?_
      refine jk_then ?_
      refine jc_ret ?_
      refine jk_then_ret ?_
      refine jk_fn_ret rfl rfl (by rfl) (fun w hw => ?_)
      exact ⟨rfl, hw.forget⟩
    · first | have p10 := of_decide_eq_true h10 | have p10 := of_decide_eq_false h10 | have p10 := ndT h10 | have p10 := ndF h10 | have p10 := nbT h10 | have p10 := nbF h10 | have p10 := h10
      refine sc_false (by rfl) h10 ?_
      refine jc_skip ?_
      refine jk_then ?_
      refine jc_seq ?_
      refine jc_seq ?_
      have he : chooseE id gen xs = 0 := by have := p10; omega
      have hcl := chosen_len he
      refine sc_region ?_
      refine so_pure (opv_assign (by rfl)) (by rfl) rfl ?_
      refine jo_nil ?_
      refine jk_then ?_
      refine jc_block ?_
      refine jc_loop (σ := Nat) (fun i => [(0, .int .i64 id), (1, .int .i64 gen), (2, .slice A n c), (7, .slice A1 (chooseL id gen xs).length c1), (9, .int .i64 i)]) (fun i => [own (.slice A1 (chooseL id gen xs).length c1) 3 1 (chooseL id gen xs).length ((chooseL id gen xs).flatMap ic)]) (fun i => (i ≤ 9) ∧ (True)) (fun i => 9 - i) 0 ⟨Nat.zero_le _, trivial⟩ ⟨rfl, rfl, rfl, rfl, rfl, trivial⟩ (fun w hw => St.sel hw (by repeat (first | exact Pks.nil _ | exact Pk.here _ | apply Pk.there | apply Pks.cons))) ?_
      rintro i ⟨hi, ht⟩
      show Jc _ _ [(0, .int .i64 id), (1, .int .i64 gen), (2, .slice A n c), (7, .slice A1 (chooseL id gen xs).length c1), (9, .int .i64 i)] [own (.slice A1 (chooseL id gen xs).length c1) 3 1 (chooseL id gen xs).length ((chooseL id gen xs).flatMap ic)] _
      refine jc_seq ?_
      refine jc_seq ?_
      refine sc_region ?_
      refine so_pure (opv_move (by rfl)) (by rfl) rfl ?_
      refine so_pure (opv_move (by rfl)) (by rfl) rfl ?_
      refine so_pure (opv_len_slice (by rfl) Try.underlying22) (by rfl) rfl ?_
      refine so_pure (opv_cmp (by rfl) (by rfl) (by rfl)) (by rfl) rfl ?_
      refine jo_nil ?_
      refine jk_then ?_
      refine sk_split (x := 38) (by rfl) (fun h15 => ?_) (fun h15 => ?_)
      · first | have p15 := of_decide_eq_true h15 | have p15 := of_decide_eq_false h15 | have p15 := ndT h15 | have p15 := ndF h15 | have p15 := nbT h15 | have p15 := nbF h15 | have p15 := h15
        refine sc_true (by rfl) h15 ?_
        refine jc_skip ?_
        refine jk_then ?_
        refine jc_seq ?_
        refine jc_block ?_
        refine jc_seq ?_
        have hcl := chosen_len he
        have hii : i < (chooseL id gen xs).length := by omega
        obtain ⟨x, hx⟩ : ∃ x, (chooseL id gen xs)[i]? = some x := ⟨(chooseL id gen xs)[i], List.getElem?_eq_getElem hii⟩
        have hxc := chosen_get he hx
        refine sc_region ?_
        refine so_pure (opv_assign (by rfl)) (by rfl) rfl ?_
        refine jo_nil ?_
        refine jk_then ?_
        refine jc_seq ?_
        refine jc_seq ?_
        refine sc_region ?_
        refine so_pure (opv_assign (by rfl)) (by rfl) rfl ?_
        refine jo_nil ?_
        refine jk_then ?_
        refine jc_block ?_
        refine jc_loop (σ := Nat × Bool) (fun (k, inb) => [(0, .int .i64 id), (1, .int .i64 gen), (2, .slice A n c), (7, .slice A1 (chooseL id gen xs).length c1), (9, .int .i64 i), (10, .bool inb), (11, .int .i64 k)]) (fun (k, inb) => [own (.slice A1 (chooseL id gen xs).length c1) 3 1 (chooseL id gen xs).length ((chooseL id gen xs).flatMap ic)]) (fun (k, inb) => (k ≤ n) ∧ (inb = decide (x ∈ xs.take k))) (fun (k, inb) => n - k) (0, false) ⟨Nat.zero_le _, by simp⟩ ⟨rfl, rfl, rfl, rfl, rfl, rfl, rfl, trivial⟩ (fun w hw => St.sel hw (by repeat (first | exact Pks.nil _ | exact Pk.here _ | apply Pk.there | apply Pks.cons))) ?_
        rintro ⟨k, inb⟩ ⟨hk, hin⟩
        show Jc _ _ [(0, .int .i64 id), (1, .int .i64 gen), (2, .slice A n c), (7, .slice A1 (chooseL id gen xs).length c1), (9, .int .i64 i), (10, .bool inb), (11, .int .i64 k)] [own (.slice A1 (chooseL id gen xs).length c1) 3 1 (chooseL id gen xs).length ((chooseL id gen xs).flatMap ic)] _
        refine jc_seq ?_
        refine jc_seq ?_
        refine sc_region ?_
        refine so_pure (opv_move (by rfl)) (by rfl) rfl ?_
        refine so_pure (opv_move (by rfl)) (by rfl) rfl ?_
        refine so_pure (opv_len_slice (by rfl) Try.underlying22) (by rfl) rfl ?_
        refine so_pure (opv_cmp (by rfl) (by rfl) (by rfl)) (by rfl) rfl ?_
        refine jo_nil ?_
        refine jk_then ?_
        refine sk_split (x := 44) (by rfl) (fun h19 => ?_) (fun h19 => ?_)
        · first | have p19 := of_decide_eq_true h19 | have p19 := of_decide_eq_false h19 | have p19 := ndT h19 | have p19 := ndF h19 | have p19 := nbT h19 | have p19 := nbF h19 | have p19 := h19
          refine sc_true (by rfl) h19 ?_
          refine jc_skip ?_
          refine jk_then ?_
          refine jc_seq ?_
          refine jc_block ?_
          have hlt : k < n := by omega
          obtain ⟨_, _, _, _, y, _, _, hy, _⟩ := hs.get hlt
          refine so_draw [] (by kernel_rfl) (by kernel_rfl) (by kernel_rfl) rfl (by rfl) (fun hap htm => ?_)
          refine da_any hap htm (i := 0) (by rfl) (by kernel_rfl) (by rfl) (listed' := #[true, false, false, false, false, false, false, false, false, false, false, false, false]) (by rfl) (fun _ => (opv_move (by rfl))) (by rfl) rfl ?_
          refine da_any hap htm (i := 1) (by rfl) (by kernel_rfl) (by rfl) (listed' := #[true, true, false, false, false, false, false, false, false, false, false, false, false]) (by rfl) (fun _ => (opv_move (by rfl))) (by rfl) rfl ?_
          refine sk_split (x := 48) (by rfl) (fun h20 => ?_) (fun h20 => ?_)
          · first | have p20 := of_decide_eq_true h20 | have p20 := of_decide_eq_false h20 | have p20 := ndT h20 | have p20 := ndF h20 | have p20 := nbT h20 | have p20 := nbF h20 | have p20 := h20
            refine da_skip hap htm (i := 2) (by rfl) (by kernel_rfl) (listed' := #[true, true, true, false, false, false, false, false, false, false, false, false, false]) (by rfl) (wtd_not rfl rfl (by rfl) h20) rfl ?_
            refine da_skip hap htm (i := 3) (by rfl) (by kernel_rfl) (listed' := #[true, true, true, true, false, false, false, false, false, false, false, false, false]) (by rfl) (wtd_not rfl rfl (by rfl) h20) rfl ?_
            refine da_skip hap htm (i := 4) (by rfl) (by kernel_rfl) (listed' := #[true, true, true, true, true, false, false, false, false, false, false, false, false]) (by rfl) (wtd_not rfl rfl (by rfl) h20) rfl ?_
            refine da_skip hap htm (i := 5) (by rfl) (by kernel_rfl) (listed' := #[true, true, true, true, true, true, false, false, false, false, false, false, false]) (by rfl) (wtd_not rfl rfl (by rfl) h20) rfl ?_
            refine da_skip hap htm (i := 6) (by rfl) (by kernel_rfl) (listed' := #[true, true, true, true, true, true, true, false, false, false, false, false, false]) (by rfl) (wtd_not rfl rfl (by rfl) h20) rfl ?_
            refine da_skip hap htm (i := 7) (by rfl) (by kernel_rfl) (listed' := #[true, true, true, true, true, true, true, true, false, false, false, false, false]) (by rfl) (wtd_not rfl rfl (by rfl) h20) rfl ?_
            refine da_skip hap htm (i := 8) (by rfl) (by kernel_rfl) (listed' := #[true, true, true, true, true, true, true, true, true, false, false, false, false]) (by rfl) (wtd_not rfl rfl (by rfl) h20) rfl ?_
            refine da_skip hap htm (i := 9) (by rfl) (by kernel_rfl) (listed' := #[true, true, true, true, true, true, true, true, true, true, false, false, false]) (by rfl) (wtd_not rfl rfl (by rfl) h20) rfl ?_
            refine da_skip hap htm (i := 10) (by rfl) (by kernel_rfl) (listed' := #[true, true, true, true, true, true, true, true, true, true, true, false, false]) (by rfl) (wtd_not rfl rfl (by rfl) h20) rfl ?_
            refine da_any hap htm (i := 11) (by rfl) (by kernel_rfl) (by rfl) (listed' := #[true, true, true, true, true, true, true, true, true, true, true, true, false]) (by rfl) (fun _ => (sv_pick_t (by rfl) h20 (by rfl))) (by rfl) rfl ?_
            refine da_any hap htm (i := 12) (by rfl) (by kernel_rfl) (by rfl) (listed' := #[true, true, true, true, true, true, true, true, true, true, true, true, true]) (by rfl) (fun _ => (opv_assign (by rfl))) (by rfl) rfl ?_
            refine da_done (by kernel_rfl) ?_
            refine jk_block ?_
            refine jk_then ?_
            refine sc_region ?_
            refine so_pure (opv_move (by rfl)) (by rfl) rfl ?_
            refine so_pure (opv_add (by rfl) (by rfl) (wrap64_ok (by omega))) (by rfl) rfl ?_
            refine so_pure (opv_assign (by rfl)) (by rfl) rfl ?_
            refine jo_nil ?_
            refine jk_round (k + 1, true) ⟨by omega, in_keep hy hin p20⟩ (by show n - (k + 1) < n - k; omega) ⟨rfl, rfl, rfl, rfl, rfl, rfl, rfl, trivial⟩ (fun w hw => ?_)
            show St _ _ [own (.slice A1 (chooseL id gen xs).length c1) 3 1 (chooseL id gen xs).length ((chooseL id gen xs).flatMap ic)] _
            exact St.sel hw (by repeat (first | exact Pks.nil _ | exact Pk.here _ | apply Pk.there | apply Pks.cons))
          · first | have p20 := of_decide_eq_true h20 | have p20 := of_decide_eq_false h20 | have p20 := ndT h20 | have p20 := ndF h20 | have p20 := nbT h20 | have p20 := nbF h20 | have p20 := h20
            refine da_any hap htm (i := 2) (by rfl) (by kernel_rfl) (by rfl) (listed' := #[true, true, true, false, false, false, false, false, false, false, false, false, false]) (by rfl) (fun _ => (opv_move (by rfl))) (wtd_run rfl rfl (by rfl) h20) rfl ?_
            refine da_any hap htm (i := 3) (by rfl) (by kernel_rfl) (by rfl) (listed' := #[true, true, true, true, false, false, false, false, false, false, false, false, false]) (by rfl) (fun _ => (opv_move (by rfl))) (wtd_run rfl rfl (by rfl) h20) rfl ?_
            refine da_any hap htm (i := 4) (by rfl) (by kernel_rfl) (by rfl) (listed' := #[true, true, true, true, true, false, false, false, false, false, false, false, false]) (by rfl) (fun _ => (opv_indexAddr_slr (i := k) (by rfl) hs (by rfl) Try.underlying22 ti3 rfl hlt)) (wtd_run rfl rfl (by rfl) h20) rfl ?_
            refine da_now [10, 11, 12] hap htm (i := 5) (by rfl) (by kernel_rfl) (by rfl) (listed' := #[true, true, true, true, true, true, false, false, false, false, false, false, false]) (by rfl) (by kernel_rfl) (by kernel_rfl) (opv_load_slr (enc := ic) (u := y) (fo := 0) (v := .int .i64 y) (by rfl) na3 rfl hs hy rfl) (wtd_run rfl rfl (by rfl) h20) rfl ?_
            refine da_any hap htm (i := 6) (by rfl) (by kernel_rfl) (by rfl) (listed' := #[true, true, true, true, true, true, true, false, false, false, false, false, false]) (by rfl) (fun _ => (opv_move (by rfl))) (wtd_run rfl rfl (by rfl) h20) rfl ?_
            refine da_any hap htm (i := 7) (by rfl) (by kernel_rfl) (by rfl) (listed' := #[true, true, true, true, true, true, true, true, false, false, false, false, false]) (by rfl) (fun _ => (opv_move (by rfl))) (wtd_run rfl rfl (by rfl) h20) rfl ?_
            refine da_any hap htm (i := 8) (by rfl) (by kernel_rfl) (by rfl) (listed' := #[true, true, true, true, true, true, true, true, true, false, false, false, false]) (by rfl) (fun _ => (opv_indexAddr_sv (i := i) (v := .slice A1 (chooseL id gen xs).length c1) (n := (chooseL id gen xs).length) (by rfl) hsv1 (by rfl) Try.underlying22 ti3 rfl hii)) (wtd_run rfl rfl (by rfl) h20) rfl ?_
            refine da_now [10, 11, 12] hap htm (i := 9) (by rfl) (by kernel_rfl) (by rfl) (listed' := #[true, true, true, true, true, true, true, true, true, true, false, false, false]) (by rfl) (by kernel_rfl) (by kernel_rfl) (opv_load_fld (enc := ic) (v := .slice A1 (chooseL id gen xs).length c1) (i := i) (u := x) (fo := 0) (w := .int .i64 x) ic_len (by rfl) na3 (by repeat (first | exact Pk.here _ | apply Pk.there)) hx rfl) (wtd_run rfl rfl (by rfl) h20) rfl ?_
            refine da_any hap htm (i := 10) (by rfl) (by kernel_rfl) (by rfl) (listed' := #[true, true, true, true, true, true, true, true, true, true, true, false, false]) (by rfl) (fun _ => (opv_cmp (by rfl) (by rfl) (by rfl))) (wtd_run rfl rfl (by rfl) h20) rfl ?_
            refine da_any hap htm (i := 11) (by rfl) (by kernel_rfl) (by rfl) (listed' := #[true, true, true, true, true, true, true, true, true, true, true, true, false]) (by rfl) (fun _ => (sv_pick_f (by rfl) h20 (by rfl))) (by rfl) rfl ?_
            refine da_any hap htm (i := 12) (by rfl) (by kernel_rfl) (by rfl) (listed' := #[true, true, true, true, true, true, true, true, true, true, true, true, true]) (by rfl) (fun _ => (opv_assign (by rfl))) (by rfl) rfl ?_
            refine da_done (by kernel_rfl) ?_
            refine jk_block ?_
            refine jk_then ?_
            refine sc_region ?_
            refine so_pure (opv_move (by rfl)) (by rfl) rfl ?_
            refine so_pure (opv_add (by rfl) (by rfl) (wrap64_ok (by omega))) (by rfl) rfl ?_
            refine so_pure (opv_assign (by rfl)) (by rfl) rfl ?_
            refine jo_nil ?_
            refine jk_round (k + 1, decide (y = x)) ⟨by omega, in_step hy hin p20⟩ (by show n - (k + 1) < n - k; omega) ⟨rfl, rfl, rfl, rfl, rfl, rfl, rfl, trivial⟩ (fun w hw => ?_)
            show St _ _ [own (.slice A1 (chooseL id gen xs).length c1) 3 1 (chooseL id gen xs).length ((chooseL id gen xs).flatMap ic)] _
            exact St.sel hw (by repeat (first | exact Pks.nil _ | exact Pk.here _ | apply Pk.there | apply Pks.cons))
        · first | have p19 := of_decide_eq_true h19 | have p19 := of_decide_eq_false h19 | have p19 := ndT h19 | have p19 := ndF h19 | have p19 := nbT h19 | have p19 := nbF h19 | have p19 := h19
          refine sc_false (by rfl) h19 ?_
          refine jc_exit ?_
          refine jk_then_exit ?_
          refine jk_then_exit ?_
          refine jk_block_exit ?_
          refine jk_then ?_
          refine jc_seq ?_
          refine jc_seq ?_
          have hinb : inb = true := by rw [hin, List.take_of_length_le (by have := hs.1; omega)]; exact decide_eq_true hxc.1
          subst hinb
          refine sc_region ?_
          refine so_pure (opv_assign (by rfl)) (by rfl) rfl ?_
          refine jo_nil ?_
          refine jk_then ?_
          refine jc_block ?_
          refine jc_loop (σ := Nat) (fun k => [(0, .int .i64 id), (1, .int .i64 gen), (2, .slice A n c), (7, .slice A1 (chooseL id gen xs).length c1), (9, .int .i64 i), (10, .bool true), (12, .int .i64 k)]) (fun k => [own (.slice A1 (chooseL id gen xs).length c1) 3 1 (chooseL id gen xs).length ((chooseL id gen xs).flatMap ic)]) (fun k => (k ≤ i) ∧ (True)) (fun k => i - k) 0 ⟨Nat.zero_le _, trivial⟩ ⟨rfl, rfl, rfl, rfl, rfl, rfl, rfl, trivial⟩ (fun w hw => St.sel hw (by repeat (first | exact Pks.nil _ | exact Pk.here _ | apply Pk.there | apply Pks.cons))) ?_
          rintro k ⟨hk, ht2⟩
          show Jc _ _ [(0, .int .i64 id), (1, .int .i64 gen), (2, .slice A n c), (7, .slice A1 (chooseL id gen xs).length c1), (9, .int .i64 i), (10, .bool true), (12, .int .i64 k)] [own (.slice A1 (chooseL id gen xs).length c1) 3 1 (chooseL id gen xs).length ((chooseL id gen xs).flatMap ic)] _
          refine jc_seq ?_
          refine jc_seq ?_
          refine sc_region ?_
          refine so_pure (opv_move (by rfl)) (by rfl) rfl ?_
          refine so_pure (opv_move (by rfl)) (by rfl) rfl ?_
          refine so_pure (opv_cmp (by rfl) (by rfl) (by rfl)) (by rfl) rfl ?_
          refine jo_nil ?_
          refine jk_then ?_
          refine sk_split (x := 61) (by rfl) (fun h35 => ?_) (fun h35 => ?_)
          · first | have p35 := of_decide_eq_true h35 | have p35 := of_decide_eq_false h35 | have p35 := ndT h35 | have p35 := ndF h35 | have p35 := nbT h35 | have p35 := nbF h35 | have p35 := h35
            refine sc_true (by rfl) h35 ?_
            refine jc_skip ?_
            refine jk_then ?_
            refine jc_seq ?_
            refine jc_block ?_
            have hkl : k < (chooseL id gen xs).length := by omega
            obtain ⟨z, hz⟩ : ∃ z, (chooseL id gen xs)[k]? = some z := ⟨(chooseL id gen xs)[k], List.getElem?_eq_getElem hkl⟩
            have hzx := hxc.2 k z (by omega) hz
            refine so_draw [] (by kernel_rfl) (by kernel_rfl) (by kernel_rfl) rfl (by rfl) (fun hap htm => ?_)
            refine da_any hap htm (i := 0) (by rfl) (by kernel_rfl) (by rfl) (listed' := #[true, false, false, false, false, false, false, false, false, false, false, false, false]) (by rfl) (fun _ => (opv_move (by rfl))) (by rfl) rfl ?_
            refine da_any hap htm (i := 1) (by rfl) (by kernel_rfl) (by rfl) (listed' := #[true, true, false, false, false, false, false, false, false, false, false, false, false]) (by rfl) (fun _ => (opv_move (by rfl))) (by rfl) rfl ?_
            refine da_any hap htm (i := 2) (by rfl) (by kernel_rfl) (by rfl) (listed' := #[true, true, true, false, false, false, false, false, false, false, false, false, false]) (by rfl) (fun _ => (opv_move (by rfl))) (wtd_run rfl rfl (by rfl) rfl) rfl ?_
            refine da_any hap htm (i := 3) (by rfl) (by kernel_rfl) (by rfl) (listed' := #[true, true, true, true, false, false, false, false, false, false, false, false, false]) (by rfl) (fun _ => (opv_move (by rfl))) (wtd_run rfl rfl (by rfl) rfl) rfl ?_
            refine da_any hap htm (i := 4) (by rfl) (by kernel_rfl) (by rfl) (listed' := #[true, true, true, true, true, false, false, false, false, false, false, false, false]) (by rfl) (fun _ => (opv_indexAddr_sv (i := k) (v := .slice A1 (chooseL id gen xs).length c1) (n := (chooseL id gen xs).length) (by rfl) hsv1 (by rfl) Try.underlying22 ti3 rfl hkl)) (wtd_run rfl rfl (by rfl) rfl) rfl ?_
            refine da_now [10, 11, 12] hap htm (i := 5) (by rfl) (by kernel_rfl) (by rfl) (listed' := #[true, true, true, true, true, true, false, false, false, false, false, false, false]) (by rfl) (by kernel_rfl) (by kernel_rfl) (opv_load_fld (enc := ic) (v := .slice A1 (chooseL id gen xs).length c1) (i := k) (u := z) (fo := 0) (w := .int .i64 z) ic_len (by rfl) na3 (by repeat (first | exact Pk.here _ | apply Pk.there)) hz rfl) (wtd_run rfl rfl (by rfl) rfl) rfl ?_
            refine da_any hap htm (i := 6) (by rfl) (by kernel_rfl) (by rfl) (listed' := #[true, true, true, true, true, true, true, false, false, false, false, false, false]) (by rfl) (fun _ => (opv_move (by rfl))) (wtd_run rfl rfl (by rfl) rfl) rfl ?_
            refine da_any hap htm (i := 7) (by rfl) (by kernel_rfl) (by rfl) (listed' := #[true, true, true, true, true, true, true, true, false, false, false, false, false]) (by rfl) (fun _ => (opv_move (by rfl))) (wtd_run rfl rfl (by rfl) rfl) rfl ?_
            refine da_any hap htm (i := 8) (by rfl) (by kernel_rfl) (by rfl) (listed' := #[true, true, true, true, true, true, true, true, true, false, false, false, false]) (by rfl) (fun _ => (opv_indexAddr_sv (i := i) (v := .slice A1 (chooseL id gen xs).length c1) (n := (chooseL id gen xs).length) (by rfl) hsv1 (by rfl) Try.underlying22 ti3 rfl hii)) (wtd_run rfl rfl (by rfl) rfl) rfl ?_
            refine da_now [10, 11, 12] hap htm (i := 9) (by rfl) (by kernel_rfl) (by rfl) (listed' := #[true, true, true, true, true, true, true, true, true, true, false, false, false]) (by rfl) (by kernel_rfl) (by kernel_rfl) (opv_load_fld (enc := ic) (v := .slice A1 (chooseL id gen xs).length c1) (i := i) (u := x) (fo := 0) (w := .int .i64 x) ic_len (by rfl) na3 (by repeat (first | exact Pk.here _ | apply Pk.there)) hx rfl) (wtd_run rfl rfl (by rfl) rfl) rfl ?_
            refine da_any hap htm (i := 10) (by rfl) (by kernel_rfl) (by rfl) (listed' := #[true, true, true, true, true, true, true, true, true, true, true, false, false]) (by rfl) (fun _ => (opv_cmp (b := true) (by rfl) (by rfl) (by exact congrArg some (by simp [hzx])))) (wtd_run rfl rfl (by rfl) rfl) rfl ?_
            refine da_any hap htm (i := 11) (by rfl) (by kernel_rfl) (by rfl) (listed' := #[true, true, true, true, true, true, true, true, true, true, true, true, false]) (by rfl) (fun _ => (sv_pick_t (by rfl) rfl (by rfl))) (by rfl) rfl ?_
            refine da_any hap htm (i := 12) (by rfl) (by kernel_rfl) (by rfl) (listed' := #[true, true, true, true, true, true, true, true, true, true, true, true, true]) (by rfl) (fun _ => (opv_assign (by rfl))) (by rfl) rfl ?_
            refine da_done (by kernel_rfl) ?_
            refine jk_block ?_
            refine jk_then ?_
            refine sc_region ?_
            refine so_pure (opv_move (by rfl)) (by rfl) rfl ?_
            refine so_pure (opv_add (by rfl) (by rfl) (wrap64_ok (by omega))) (by rfl) rfl ?_
            refine so_pure (opv_assign (by rfl)) (by rfl) rfl ?_
            refine jo_nil ?_
            refine jk_round (k + 1) ⟨by omega, trivial⟩ (by show i - (k + 1) < i - k; omega) ⟨rfl, rfl, rfl, rfl, rfl, rfl, rfl, trivial⟩ (fun w hw => ?_)
            show St _ _ [own (.slice A1 (chooseL id gen xs).length c1) 3 1 (chooseL id gen xs).length ((chooseL id gen xs).flatMap ic)] _
            exact St.sel hw (by repeat (first | exact Pks.nil _ | exact Pk.here _ | apply Pk.there | apply Pks.cons))
          · first | have p35 := of_decide_eq_true h35 | have p35 := of_decide_eq_false h35 | have p35 := ndT h35 | have p35 := ndF h35 | have p35 := nbT h35 | have p35 := nbF h35 | have p35 := h35
            refine sc_false (by rfl) h35 ?_
            refine jc_exit ?_
            refine jk_then_exit ?_
            refine jk_then_exit ?_
            refine jk_block_exit ?_
            refine jk_then ?_
            refine jc_seq ?_
            refine sc_region ?_
            refine so_pure (opv_move (by rfl)) (by rfl) rfl ?_
            refine so_pure (opv_not (by rfl)) (by rfl) rfl ?_
            refine jo_nil ?_
            refine jk_then ?_
            refine sc_false (by rfl) rfl ?_
            refine jc_skip ?_
            refine jk_block ?_
            refine jk_then ?_
            refine sc_region ?_
            refine so_pure (opv_move (by rfl)) (by rfl) rfl ?_
            refine so_pure (opv_add (by rfl) (by rfl) (wrap64_ok (by omega))) (by rfl) rfl ?_
            refine so_pure (opv_assign (by rfl)) (by rfl) rfl ?_
            refine jo_nil ?_
            refine jk_round (i + 1) ⟨by omega, trivial⟩ (by show 9 - (i + 1) < 9 - i; omega) ⟨rfl, rfl, rfl, rfl, rfl, trivial⟩ (fun w hw => ?_)
            show St _ _ [own (.slice A1 (chooseL id gen xs).length c1) 3 1 (chooseL id gen xs).length ((chooseL id gen xs).flatMap ic)] _
            exact St.sel hw (by repeat (first | exact Pks.nil _ | exact Pk.here _ | apply Pk.there | apply Pks.cons))
      · first | have p15 := of_decide_eq_true h15 | have p15 := of_decide_eq_false h15 | have p15 := ndT h15 | have p15 := ndF h15 | have p15 := nbT h15 | have p15 := nbF h15 | have p15 := h15
        refine sc_false (by rfl) h15 ?_
        refine jc_exit ?_
        refine jk_then_exit ?_
        refine jk_then_exit ?_
        refine jk_block_exit ?_
        refine jk_then ?_
        refine jc_seq ?_
        refine sc_region ?_
        refine so_pure (opv_move (by rfl)) (by rfl) rfl ?_
        refine so_pure (opv_move (by rfl)) (by rfl) rfl ?_
        refine so_pure (opv_move (by rfl)) (by rfl) rfl ?_
        refine so_eff (eff_call0 (fl := []) (cl := []) (G := fun v New => v = .tuple #[.int .i64 (insteadR (chooseL id gen xs) xs id).1, .int .i64 (insteadR (chooseL id gen xs) xs id).2] ∧ New = []) (by rfl) (by rfl) tx12 (by exact fun w1 hw1 => (instead_spec w1 A1 A (chooseL id gen xs).length n c1 c (chooseL id gen xs) xs (St.slr ic_len hw1 (by repeat (first | exact Pk.here _ | apply Pk.there)) rfl) (hs.keepSt hw1) (by omega) (by omega) id).mono (fun _ _ ⟨hv, hst⟩ => ⟨[], ⟨hv, rfl⟩, hst⟩))) (by rfl) rfl ?_
        rintro _ _ ⟨_, ⟨rfl, rfl⟩, rfl⟩
        refine so_pure (opv_move (by rfl)) (by rfl) rfl ?_
        refine so_pure (opv_extract (by rfl) (by rfl)) (by rfl) rfl ?_
        refine so_pure (opv_extract (by rfl) (by rfl)) (by rfl) rfl ?_
        refine so_pure (opv_assign (by rfl)) (by rfl) rfl ?_
        refine so_pure (opv_assign (by rfl)) (by rfl) rfl ?_
        refine jo_nil ?_
        refine jk_then ?_
        refine jc_seq ?_
        refine jc_seq ?_
        refine sc_region ?_
        refine so_pure (opv_move (by rfl)) (by rfl) rfl ?_
        refine so_pure (opv_len_slice (by rfl) Try.underlying22) (by rfl) rfl ?_
        refine so_pure (opv_cmp (by rfl) (by rfl) (by rfl)) (by rfl) rfl ?_
        refine jo_nil ?_
        refine jk_then ?_
        refine sk_split (x := 87) (by rfl) (fun h50 => ?_) (fun h50 => ?_)
        · first | have p50 := of_decide_eq_true h50 | have p50 := of_decide_eq_false h50 | have p50 := ndT h50 | have p50 := ndF h50 | have p50 := nbT h50 | have p50 := nbF h50 | have p50 := h50
          refine sc_true (by rfl) h50 ?_
          refine jc_seq ?_
          have hfew := instead_few he (by have := p50; have := hs.1; omega)
          refine sc_region ?_
          refine so_pure (opv_move (by rfl)) (by rfl) rfl ?_
          refine so_pure (opv_len_slice (by rfl) Try.underlying22) (by rfl) rfl ?_
          refine so_pure (opv_cmp (b := true) (by rfl) (by rfl) (by exact congrArg some (decide_eq_true (by rw [hcl]; rfl)))) (by rfl) rfl ?_
          refine so_pure (opv_move (by rfl)) (by rfl) rfl ?_
          refine so_pure (opv_move (by rfl)) (wtd_run rfl rfl (by rfl) rfl) rfl ?_
          refine so_pure (opv_cmp (b := true) (by rfl) (by rfl) (by rw [hfew]; rfl)) (wtd_run rfl rfl (by rfl) rfl) rfl ?_
          refine so_pure (sv_pick_t (by rfl) rfl (by rfl)) (by rfl) rfl ?_
          refine so_pure (opv_move (by rfl)) (by rfl) rfl ?_
          refine so_eff (eff_call0 (G := fun u New => u = .bool true ∧ New = []) (by rfl) (by rfl) tx9 (by exact fun w1 hw1 => (live_spec w1).mono (fun _ _ ⟨hv, hst⟩ => ⟨[], ⟨hv, rfl⟩, hst⟩))) (wtd_run rfl rfl (by rfl) rfl) rfl ?_
          rintro _ _ ⟨_, ⟨rfl, rfl⟩, rfl⟩
          refine so_pure (sv_pick_t (by rfl) rfl (by rfl)) (by rfl) rfl ?_
          refine so_pure (opv_assign (by rfl)) (by rfl) rfl ?_
          refine jo_nil ?_
          refine jk_then ?_
          refine jc_ret ?_
          refine jk_then_ret ?_
          refine jk_fn_ret rfl rfl (by rfl) (fun w hw => ?_)
          exact ⟨rfl, hw.forget⟩
        · first | have p50 := of_decide_eq_true h50 | have p50 := of_decide_eq_false h50 | have p50 := ndT h50 | have p50 := ndF h50 | have p50 := nbT h50 | have p50 := nbF h50 | have p50 := h50
          refine sc_false (by rfl) h50 ?_
          refine jc_skip ?_
          refine jk_then ?_
          refine jc_seq ?_
          refine jc_seq ?_
          have hsome := instead_some he (by have := p50; have := hs.1; omega)
          refine sc_region ?_
          refine so_pure (opv_assign (by rfl)) (by rfl) rfl ?_
          refine jo_nil ?_
          refine jk_then ?_
          refine jc_block ?_
          refine jc_loop (σ := Nat) (fun k => [(0, .int .i64 id), (1, .int .i64 gen), (2, .slice A n c), (7, .slice A1 (chooseL id gen xs).length c1), (13, .int .i64 (insteadR (chooseL id gen xs) xs id).1), (14, .int .i64 (insteadR (chooseL id gen xs) xs id).2), (15, .int .i64 k)]) (fun k => [own (.slice A1 (chooseL id gen xs).length c1) 3 1 (chooseL id gen xs).length ((chooseL id gen xs).flatMap ic)]) (fun k => (k ≤ 9) ∧ (True)) (fun k => 9 - k) 0 ⟨Nat.zero_le _, trivial⟩ ⟨rfl, rfl, rfl, rfl, rfl, rfl, rfl, trivial⟩ (fun w hw => St.sel hw (by repeat (first | exact Pks.nil _ | exact Pk.here _ | apply Pk.there | apply Pks.cons))) ?_
          rintro k ⟨hk, ht⟩
          show Jc _ _ [(0, .int .i64 id), (1, .int .i64 gen), (2, .slice A n c), (7, .slice A1 (chooseL id gen xs).length c1), (13, .int .i64 (insteadR (chooseL id gen xs) xs id).1), (14, .int .i64 (insteadR (chooseL id gen xs) xs id).2), (15, .int .i64 k)] [own (.slice A1 (chooseL id gen xs).length c1) 3 1 (chooseL id gen xs).length ((chooseL id gen xs).flatMap ic)] _
          refine jc_seq ?_
          refine jc_seq ?_
          refine sc_region ?_
          refine so_pure (opv_move (by rfl)) (by rfl) rfl ?_
          refine so_pure (opv_move (by rfl)) (by rfl) rfl ?_
          refine so_pure (opv_len_slice (by rfl) Try.underlying22) (by rfl) rfl ?_
          refine so_pure (opv_cmp (by rfl) (by rfl) (by rfl)) (by rfl) rfl ?_
          refine jo_nil ?_
          refine jk_then ?_
          refine sk_split (x := 101) (by rfl) (fun h55 => ?_) (fun h55 => ?_)
          · first | have p55 := of_decide_eq_true h55 | have p55 := of_decide_eq_false h55 | have p55 := ndT h55 | have p55 := ndF h55 | have p55 := nbT h55 | have p55 := nbF h55 | have p55 := h55
            refine sc_true (by rfl) h55 ?_
            refine jc_skip ?_
            refine jk_then ?_
            refine jc_seq ?_
            refine jc_block ?_
            refine jc_seq ?_
            have hkl : k < (chooseL id gen xs).length := by omega
            obtain ⟨z, hz⟩ : ∃ z, (chooseL id gen xs)[k]? = some z := ⟨(chooseL id gen xs)[k], List.getElem?_eq_getElem hkl⟩
            refine sc_region ?_
            refine so_pure (opv_move (by rfl)) (by rfl) rfl ?_
            refine so_pure (opv_move (by rfl)) (by rfl) rfl ?_
            refine so_pure (opv_indexAddr_own (i := k) (v := .slice A1 (chooseL id gen xs).length c1) (by rfl) (by rfl) Try.underlying22 ti3 (by repeat (first | exact Pk.here _ | apply Pk.there)) rfl hkl) (by rfl) rfl ?_
            refine so_pure (opv_load_fld (enc := ic) (v := .slice A1 (chooseL id gen xs).length c1) (i := k) (u := z) (fo := 0) (w := .int .i64 z) ic_len (by rfl) na3 (by repeat (first | exact Pk.here _ | apply Pk.there)) hz rfl) (by rfl) rfl ?_
            refine so_pure (opv_move (by rfl)) (by rfl) rfl ?_
            refine so_pure (opv_cmp (by rfl) (by rfl) (by rfl)) (by rfl) rfl ?_
            refine jo_nil ?_
            refine jk_then ?_
            refine sk_split (x := 109) (by rfl) (fun h59 => ?_) (fun h59 => ?_)
            · first | have p59 := of_decide_eq_true h59 | have p59 := of_decide_eq_false h59 | have p59 := ndT h59 | have p59 := ndF h59 | have p59 := nbT h59 | have p59 := nbF h59 | have p59 := h59
              exact absurd (show (insteadR (chooseL id gen xs) xs id).1 ∈ (chooseL id gen xs) by rw [← p59]; exact List.mem_of_getElem? hz) hsome.2
            · first | have p59 := of_decide_eq_true h59 | have p59 := of_decide_eq_false h59 | have p59 := ndT h59 | have p59 := ndF h59 | have p59 := nbT h59 | have p59 := nbF h59 | have p59 := h59
              refine sc_false (by rfl) h59 ?_
              refine jc_skip ?_
              refine jk_block ?_
              refine jk_then ?_
              refine sc_region ?_
              refine so_pure (opv_move (by rfl)) (by rfl) rfl ?_
              refine so_pure (opv_add (by rfl) (by rfl) (wrap64_ok (by omega))) (by rfl) rfl ?_
              refine so_pure (opv_assign (by rfl)) (by rfl) rfl ?_
              refine jo_nil ?_
              refine jk_round (k + 1) ⟨by omega, trivial⟩ (by show 9 - (k + 1) < 9 - k; omega) ⟨rfl, rfl, rfl, rfl, rfl, rfl, rfl, trivial⟩ (fun w hw => ?_)
              show St _ _ [own (.slice A1 (chooseL id gen xs).length c1) 3 1 (chooseL id gen xs).length ((chooseL id gen xs).flatMap ic)] _
              exact St.sel hw (by repeat (first | exact Pks.nil _ | exact Pk.here _ | apply Pk.there | apply Pks.cons))
          · first | have p55 := of_decide_eq_true h55 | have p55 := of_decide_eq_false h55 | have p55 := ndT h55 | have p55 := ndF h55 | have p55 := nbT h55 | have p55 := nbF h55 | have p55 := h55
            refine sc_false (by rfl) h55 ?_
            refine jc_exit ?_
            refine jk_then_exit ?_
            refine jk_then_exit ?_
            refine jk_block_exit ?_
            refine jk_then ?_
            refine jc_seq ?_
            refine sc_region ?_
            refine so_pure (opv_move (by rfl)) (by rfl) rfl ?_
            refine so_pure (opv_len_slice (by rfl) Try.underlying22) (by rfl) rfl ?_
            refine so_pure (opv_cmp (b := true) (by rfl) (by rfl) (by exact congrArg some (decide_eq_true (by rw [hcl]; rfl)))) (by rfl) rfl ?_
            refine so_pure (opv_move (by rfl)) (by rfl) rfl ?_
            refine so_pure (opv_move (by rfl)) (wtd_run rfl rfl (by rfl) rfl) rfl ?_
            refine so_pure (opv_cmp (b := true) (by rfl) (by rfl) (by rw [hsome.1]; rfl)) (wtd_run rfl rfl (by rfl) rfl) rfl ?_
            refine so_pure (sv_pick_t (by rfl) rfl (by rfl)) (by rfl) rfl ?_
            refine so_pure (opv_move (by rfl)) (by rfl) rfl ?_
            refine so_eff (eff_call0 (G := fun u New => u = .bool true ∧ New = []) (by rfl) (by rfl) tx9 (by exact fun w1 hw1 => (live_spec w1).mono (fun _ _ ⟨hv, hst⟩ => ⟨[], ⟨hv, rfl⟩, hst⟩))) (wtd_run rfl rfl (by rfl) rfl) rfl ?_
            rintro _ _ ⟨_, ⟨rfl, rfl⟩, rfl⟩
            refine so_pure (sv_pick_t (by rfl) rfl (by rfl)) (by rfl) rfl ?_
            refine so_pure (opv_assign (by rfl)) (by rfl) rfl ?_
            refine jo_nil ?_
            refine jk_then ?_
            refine jc_ret ?_
            refine jk_fn_ret rfl rfl (by rfl) (fun w hw => ?_)
            exact ⟨rfl, hw.forget⟩
end Go.Place
