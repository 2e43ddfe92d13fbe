/- A part of a proof for the laws of the seat Ytcjhahjjeicmoaa; it has no conditions of its own. -/
import Derived.Test.YtcjhahjjeicmoaaHW11
namespace Go.Hist
open Go Go.SL Go.Proofs
set_option maxHeartbeats 4000000 in
theorem law_crash (w : World) (A : Option Addr) (n cap : Nat) (xs : List Ev) (hs : SlR w 39 8 Ev.cells A n xs) (hn : n ≤ 9223372036854775807) (hcap : n ≤ cap) (nv : Int) : Does Try.prog 4 #[.slice A n cap, .int .i64 nv] w (fun v w' => v = .bool true ∧ St w Emp [] w') := by
  refine fn_body (fn := Try.f4) Try.func4 rfl [(0, .slice A n cap), (1, .int .i64 nv)] (by exact ⟨rfl, rfl, trivial⟩) rfl (St.start w) ?_
  refine jc_seq ?_
  refine sc_region ?_
  refine so_pure (opv_assign (by rfl)) (by rfl) rfl ?_
  refine jo_nil ?_
  refine jk_then ?_
  refine jc_seq ?_
  refine jc_seq ?_
  refine sc_region ?_
  refine so_pure (opv_move (by rfl)) (by rfl) rfl ?_
  refine so_eff (eff_call0 (G := fun v New => v = .bool (small xs 40) ∧ New = []) (by rfl) (by rfl) tx7 (by exact fun w1 hw1 => (small17_spec w1 A n cap xs (hs.keepSt hw1) hn 40).mono (fun v _ ⟨hv, hst⟩ => ⟨[], ⟨hv, rfl⟩, hst⟩))) (by rfl) rfl ?_
  rintro _ _ ⟨_, ⟨rfl, rfl⟩, rfl⟩
  refine so_pure (opv_not (by rfl)) (by rfl) rfl ?_
  refine so_pure (opv_move (by rfl)) (by rfl) rfl ?_
  refine sk_split (x := 12) (by rfl) (fun h3 => ?_) (fun h3 => ?_)
  · first | have p3 := of_decide_eq_true h3 | have p3 := of_decide_eq_false h3 | have p3 := ndT h3 | have p3 := ndF h3 | have p3 := nbT h3 | have p3 := nbF h3 | have p3 := h3
    refine so_skip (wtd_not rfl rfl (by rfl) (not_t (by simpa using h3))) rfl ?_
    refine so_skip (wtd_not rfl rfl (by rfl) (not_t (by simpa using h3))) rfl ?_
    refine so_skip (wtd_not rfl rfl (by rfl) (not_t (by simpa using h3))) rfl ?_
    refine so_pure (sv_pick_t (by rfl) (not_t (by simpa using h3)) (by rfl)) (by rfl) rfl ?_
    refine so_pure (opv_move (by rfl)) (by rfl) rfl ?_
    refine so_skip (wtd_not rfl rfl (by rfl) rfl) rfl ?_
    refine so_skip (wtd_not rfl rfl (by rfl) rfl) rfl ?_
    refine so_pure (sv_pick_t (by rfl) rfl (by rfl)) (by rfl) rfl ?_
    refine so_pure (opv_move (by rfl)) (by rfl) rfl ?_
    refine so_skip (wtd_not rfl rfl (by rfl) rfl) rfl ?_
    refine so_skip (wtd_not rfl rfl (by rfl) rfl) rfl ?_
    refine so_skip (wtd_not rfl rfl (by rfl) rfl) rfl ?_
    refine so_skip (wtd_not rfl rfl (by rfl) rfl) rfl ?_
    refine so_pure (sv_pick_t (by rfl) rfl (by rfl)) (by rfl) rfl ?_
    refine jo_nil ?_
    refine jk_then ?_
    refine sc_true (by rfl) rfl ?_
    refine jc_seq ?_
    refine sc_region ?_
    refine so_eff (eff_call0 (G := fun v New => v = .bool true ∧ New = []) (by rfl) (by rfl) tx8 (by exact fun w1 hw1 => (live_spec w1).mono (fun v _ ⟨hv, hst⟩ => ⟨[], ⟨hv, rfl⟩, hst⟩))) (by rfl) rfl ?_
    rintro _ _ ⟨_, ⟨rfl, rfl⟩, rfl⟩
    refine so_pure (opv_assign (by rfl)) (by rfl) rfl ?_
    refine jo_nil ?_
    refine jk_then ?_
    refine jc_ret ?_
    refine jk_then_ret ?_
    refine jk_fn_ret rfl rfl (by rfl) (fun w hw => ?_)
    exact ⟨rfl, hw.forget⟩
  · first | have p3 := of_decide_eq_true h3 | have p3 := of_decide_eq_false h3 | have p3 := ndT h3 | have p3 := ndF h3 | have p3 := nbT h3 | have p3 := nbF h3 | have p3 := h3
    refine so_pure (opv_move (by rfl)) (wtd_run rfl rfl (by rfl) (not_f (by simpa using h3))) rfl ?_
    have hsm := small_len (xs := xs) (m := 40) (by simpa using p3)
    have hnx := hs.1
    refine so_eff (eff_call0 (G := fun v New => v = .bool (gather xs).isSome ∧ New = []) (by rfl) (by rfl) tx11 (by exact fun w1 hw1 => (may_spec w1 A n cap xs (hs.keepSt hw1) (by omega)).mono (fun v _ ⟨hv, hst⟩ => ⟨[], ⟨hv, rfl⟩, hst⟩))) (wtd_run rfl rfl (by rfl) (not_f (by simpa using h3))) rfl ?_
    rintro _ _ ⟨_, ⟨rfl, rfl⟩, rfl⟩
    refine so_pure (opv_not (by rfl)) (wtd_run rfl rfl (by rfl) (not_f (by simpa using h3))) rfl ?_
    refine so_pure (sv_pick_f (by rfl) (not_f (by simpa using h3)) (by rfl)) (by rfl) rfl ?_
    refine so_pure (opv_move (by rfl)) (by rfl) rfl ?_
    refine sk_split (x := 17) (by rfl) (fun h5 => ?_) (fun h5 => ?_)
    · first | have p5 := of_decide_eq_true h5 | have p5 := of_decide_eq_false h5 | have p5 := ndT h5 | have p5 := ndF h5 | have p5 := nbT h5 | have p5 := nbF h5 | have p5 := h5
      refine so_skip (wtd_not rfl rfl (by rfl) (not_t (by simpa using h5))) rfl ?_
      refine so_skip (wtd_not rfl rfl (by rfl) (not_t (by simpa using h5))) rfl ?_
      refine so_pure (sv_pick_t (by rfl) (not_t (by simpa using h5)) (by rfl)) (by rfl) rfl ?_
      refine so_pure (opv_move (by rfl)) (by rfl) rfl ?_
      refine so_skip (wtd_not rfl rfl (by rfl) rfl) rfl ?_
      refine so_skip (wtd_not rfl rfl (by rfl) rfl) rfl ?_
      refine so_skip (wtd_not rfl rfl (by rfl) rfl) rfl ?_
      refine so_skip (wtd_not rfl rfl (by rfl) rfl) rfl ?_
      refine so_pure (sv_pick_t (by rfl) rfl (by rfl)) (by rfl) rfl ?_
      refine jo_nil ?_
      refine jk_then ?_
      refine sc_true (by rfl) rfl ?_
      refine jc_seq ?_
      refine sc_region ?_
      refine so_eff (eff_call0 (G := fun v New => v = .bool true ∧ New = []) (by rfl) (by rfl) tx8 (by exact fun w1 hw1 => (live_spec w1).mono (fun v _ ⟨hv, hst⟩ => ⟨[], ⟨hv, rfl⟩, hst⟩))) (by rfl) rfl ?_
      rintro _ _ ⟨_, ⟨rfl, rfl⟩, rfl⟩
      refine so_pure (opv_assign (by rfl)) (by rfl) rfl ?_
      refine jo_nil ?_
      refine jk_then ?_
      refine jc_ret ?_
      refine jk_then_ret ?_
      refine jk_fn_ret rfl rfl (by rfl) (fun w hw => ?_)
      exact ⟨rfl, hw.forget⟩
    · first | have p5 := of_decide_eq_true h5 | have p5 := of_decide_eq_false h5 | have p5 := ndT h5 | have p5 := ndF h5 | have p5 := nbT h5 | have p5 := nbF h5 | have p5 := h5
      refine so_pure (opv_move (by rfl)) (wtd_run rfl rfl (by rfl) (not_f (by simpa using h5))) rfl ?_
      refine so_pure (opv_cmp (by rfl) (by rfl) (by rfl)) (wtd_run rfl rfl (by rfl) (not_f (by simpa using h5))) rfl ?_
      refine so_pure (sv_pick_f (by rfl) (not_f (by simpa using h5)) (by rfl)) (by rfl) rfl ?_
      refine so_pure (opv_move (by rfl)) (by rfl) rfl ?_
      refine sk_split (x := 21) (by rfl) (fun h7 => ?_) (fun h7 => ?_)
      · first | have p7 := of_decide_eq_true h7 | have p7 := of_decide_eq_false h7 | have p7 := ndT h7 | have p7 := ndF h7 | have p7 := nbT h7 | have p7 := nbF h7 | have p7 := h7
        refine so_skip (wtd_not rfl rfl (by rfl) h7) rfl ?_
        refine so_skip (wtd_not rfl rfl (by rfl) h7) rfl ?_
        refine so_skip (wtd_not rfl rfl (by rfl) h7) rfl ?_
        refine so_skip (wtd_not rfl rfl (by rfl) h7) rfl ?_
        refine so_pure (sv_pick_t (by rfl) h7 (by rfl)) (by rfl) rfl ?_
        refine jo_nil ?_
        refine jk_then ?_
        refine sc_true (by rfl) rfl ?_
        refine jc_seq ?_
        refine sc_region ?_
        refine so_eff (eff_call0 (G := fun v New => v = .bool true ∧ New = []) (by rfl) (by rfl) tx8 (by exact fun w1 hw1 => (live_spec w1).mono (fun v _ ⟨hv, hst⟩ => ⟨[], ⟨hv, rfl⟩, hst⟩))) (by rfl) rfl ?_
        rintro _ _ ⟨_, ⟨rfl, rfl⟩, rfl⟩
        refine so_pure (opv_assign (by rfl)) (by rfl) rfl ?_
        refine jo_nil ?_
        refine jk_then ?_
        refine jc_ret ?_
        refine jk_then_ret ?_
        refine jk_fn_ret rfl rfl (by rfl) (fun w hw => ?_)
        exact ⟨rfl, hw.forget⟩
      · first | have p7 := of_decide_eq_true h7 | have p7 := of_decide_eq_false h7 | have p7 := ndT h7 | have p7 := ndF h7 | have p7 := nbT h7 | have p7 := nbF h7 | have p7 := h7
        refine so_pure (opv_move (by rfl)) (wtd_run rfl rfl (by rfl) h7) rfl ?_
        refine so_pure (opv_move (by rfl)) (wtd_run rfl rfl (by rfl) h7) rfl ?_
        refine so_pure (opv_len_slice (by rfl) Try.underlying22) (wtd_run rfl rfl (by rfl) h7) rfl ?_
        refine so_pure (opv_cmp (by rfl) (by rfl) (by rfl)) (wtd_run rfl rfl (by rfl) h7) rfl ?_
        refine so_pure (sv_pick_f (by rfl) h7 (by rfl)) (by rfl) rfl ?_
        refine jo_nil ?_
        refine jk_then ?_
        refine sk_split (x := 26) (by rfl) (fun h10 => ?_) (fun h10 => ?_)
        · first | have p10 := of_decide_eq_true h10 | have p10 := of_decide_eq_false h10 | have p10 := ndT h10 | have p10 := ndF h10 | have p10 := nbT h10 | have p10 := nbF h10 | have p10 := h10
          refine sc_true (by rfl) h10 ?_
          refine jc_seq ?_
          refine sc_region ?_
          refine so_eff (eff_call0 (G := fun v New => v = .bool true ∧ New = []) (by rfl) (by rfl) tx8 (by exact fun w1 hw1 => (live_spec w1).mono (fun v _ ⟨hv, hst⟩ => ⟨[], ⟨hv, rfl⟩, hst⟩))) (by rfl) rfl ?_
          rintro _ _ ⟨_, ⟨rfl, rfl⟩, rfl⟩
          refine so_pure (opv_assign (by rfl)) (by rfl) rfl ?_
          refine jo_nil ?_
          refine jk_then ?_
          refine jc_ret ?_
          refine jk_then_ret ?_
          refine jk_fn_ret rfl rfl (by rfl) (fun w hw => ?_)
          exact ⟨rfl, hw.forget⟩
        · first | have p10 := of_decide_eq_true h10 | have p10 := of_decide_eq_false h10 | have p10 := ndT h10 | have p10 := ndF h10 | have p10 := nbT h10 | have p10 := nbF h10 | have p10 := h10
          refine sc_false (by rfl) h10 ?_
          refine jc_skip ?_
          refine jk_then ?_
          refine jc_seq ?_
          have hgs : (gather xs).isSome = true := by simpa using p5
          obtain ⟨m, rfl⟩ : ∃ m : Nat, nv = m := ⟨nv.toNat, by omega⟩
          have hm : m ≤ n := by omega
          have hcl := crash_len xs m
          obtain ⟨hgC, hlen, hB⟩ := crashes (m := m) (by omega) hgs
          refine sc_region ?_
          refine so_pure (opv_move (by rfl)) (by rfl) rfl ?_
          refine so_pure (opv_move (by rfl)) (by rfl) rfl ?_
          refine so_eff (eff_call0 (G := fun v New => New = [own v 39 8 (crash xs m).length ((crash xs m).flatMap Ev.cells)]) (by rfl) (by rfl) tx12 (by exact fun w1 hw1 => (crash_spec w1 A n cap xs (hs.keepSt hw1) (by omega) hcap m hm).mono (fun v _ hst => ⟨_, rfl, hst⟩))) (by rfl) rfl ?_
          rintro svx _ ⟨_, rfl, rfl⟩
          refine so_pure (opv_assign (by rfl)) (by rfl) rfl ?_
          refine jo_nil ?_
          refine jk_then ?_
          refine jc_seq ?_
          refine jk_sv (v := svx) (by repeat (first | exact Pk.here _ | apply Pk.there)) (fun hsvx => ?_)
          obtain ⟨Ax, cx, rfl, _⟩ := hsvx
          refine sc_region ?_
          refine so_pure (opv_move (by rfl)) (by rfl) rfl ?_
          refine so_eff (eff_call0 (G := fun v New => New = [own v 35 9 (opsOf xs).length ((opsOf xs).flatMap Hop.cells)]) (by rfl) (by rfl) tx9 (by exact fun w1 hw1 => (ops_spec w1 A n cap xs (hs.keepSt hw1) (by omega)).mono (fun v _ hst => ⟨_, rfl, hst⟩))) (by rfl) rfl ?_
          rintro sva _ ⟨_, rfl, rfl⟩
          refine so_pure (opv_assign (by rfl)) (by rfl) rfl ?_
          refine jo_nil ?_
          refine jk_then ?_
          refine jc_seq ?_
          refine sc_region ?_
          refine so_pure (opv_move (by rfl)) (by rfl) rfl ?_
          refine so_eff (eff_call0 (G := fun v New => New = [own v 35 9 (opsOf (crash xs m)).length ((opsOf (crash xs m)).flatMap Hop.cells)]) (by rfl) (by rfl) tx9 (by exact fun w1 hw1 => (ops_spec w1 Ax (crash xs m).length cx (crash xs m) (hw1.slr Ev.cells_len (by repeat (first | exact Pk.here _ | apply Pk.there)) rfl) (by omega)).mono (fun v _ hst => ⟨_, rfl, hst⟩))) (by rfl) rfl ?_
          rintro svb _ ⟨_, rfl, rfl⟩
          refine so_pure (opv_assign (by rfl)) (by rfl) rfl ?_
          refine jo_nil ?_
          refine jk_then ?_
          refine jc_seq ?_
          refine jc_seq ?_
          refine jk_sv (v := sva) (by repeat (first | exact Pk.here _ | apply Pk.there)) (fun hsva => ?_)
          refine jk_sv (v := svb) (by repeat (first | exact Pk.here _ | apply Pk.there)) (fun hsvb => ?_)
          have hol := opsOf_len xs
          refine sc_region ?_
          refine so_pure (opv_move (by rfl)) (by rfl) rfl ?_
          refine so_eff (eff_call0 (G := fun v New => v = .bool true ∧ New = []) (by rfl) (by rfl) tx11 (by exact fun w1 hw1 => (may_spec w1 Ax (crash xs m).length cx (crash xs m) (hw1.slr Ev.cells_len (by repeat (first | exact Pk.here _ | apply Pk.there)) rfl) (by omega)).mono (fun v _ ⟨hv, hst⟩ => ⟨[], ⟨by rw [hgC] at hv; exact hv, rfl⟩, hst⟩))) (by rfl) rfl ?_
          rintro _ _ ⟨_, ⟨rfl, rfl⟩, rfl⟩
          refine so_pure (opv_not (by rfl)) (by rfl) rfl ?_
          refine so_pure (opv_move (by rfl)) (by rfl) rfl ?_
          refine so_pure (opv_move (by rfl)) (wtd_run rfl rfl (by rfl) rfl) rfl ?_
          refine so_pure (opv_len_sv (by rfl) hsva Try.underlying25) (wtd_run rfl rfl (by rfl) rfl) rfl ?_
          refine so_pure (opv_move (by rfl)) (wtd_run rfl rfl (by rfl) rfl) rfl ?_
          refine so_pure (opv_len_sv (by rfl) hsvb Try.underlying25) (wtd_run rfl rfl (by rfl) rfl) rfl ?_
          refine so_pure (opv_cmp (by rfl) (by rfl) (by rfl)) (wtd_run rfl rfl (by rfl) rfl) rfl ?_
          refine so_pure (sv_pick_f (by rfl) rfl (by rfl)) (by rfl) rfl ?_
          refine jo_nil ?_
          refine jk_then ?_
          refine sk_split (x := 44) (by rfl) (fun h17 => ?_) (fun h17 => ?_)
          · first | have p17 := of_decide_eq_true h17 | have p17 := of_decide_eq_false h17 | have p17 := ndT h17 | have p17 := ndF h17 | have p17 := nbT h17 | have p17 := nbF h17 | have p17 := h17
            exfalso; omega
          · first | have p17 := of_decide_eq_true h17 | have p17 := of_decide_eq_false h17 | have p17 := ndT h17 | have p17 := ndF h17 | have p17 := nbT h17 | have p17 := nbF h17 | have p17 := h17
            refine sc_false (by rfl) h17 ?_
            refine jc_skip ?_
            refine jk_then ?_
            refine jc_seq ?_
            refine jc_seq ?_
            generalize opsOf (crash xs m) = bb at hsvb hlen hB ⊢
            generalize opsOf xs = aa at hsva hol hlen hB ⊢
            refine sc_region ?_
            refine so_pure (opv_assign (by rfl)) (by rfl) rfl ?_
            refine jo_nil ?_
            refine jk_then ?_
            refine jc_block ?_
            refine jc_loop (σ := Nat) (fun i => [(1, .int .i64 m), (6, sva), (7, svb), (8, .int .i64 i)]) (fun i => [own sva 35 9 aa.length (aa.flatMap Hop.cells), own svb 35 9 bb.length (bb.flatMap Hop.cells)]) (fun i => (i ≤ aa.length)) (fun i => aa.length - i) 0 (Nat.zero_le _) ⟨rfl, rfl, rfl, rfl, trivial⟩ (fun w hw => St.sel hw (by repeat (first | exact Pks.nil _ | exact Pk.here _ | apply Pk.there | apply Pks.cons))) ?_
            rintro i hi
            show Jc _ _ [(1, .int .i64 m), (6, sva), (7, svb), (8, .int .i64 i)] [own sva 35 9 aa.length (aa.flatMap Hop.cells), own svb 35 9 bb.length (bb.flatMap Hop.cells)] _
            refine jc_seq ?_
            refine jc_seq ?_
            refine sc_region ?_
            refine so_pure (opv_move (by rfl)) (by rfl) rfl ?_
            refine so_pure (opv_move (by rfl)) (by rfl) rfl ?_
            refine so_pure (opv_len_sv (by rfl) hsva Try.underlying25) (by rfl) rfl ?_
            refine so_pure (opv_cmp (by rfl) (by rfl) (by rfl)) (by rfl) rfl ?_
            refine jo_nil ?_
            refine jk_then ?_
            refine sk_split (x := 48) (by rfl) (fun h21 => ?_) (fun h21 => ?_)
            · first | have p21 := of_decide_eq_true h21 | have p21 := of_decide_eq_false h21 | have p21 := ndT h21 | have p21 := ndF h21 | have p21 := nbT h21 | have p21 := nbF h21 | have p21 := h21
              refine sc_true (by rfl) h21 ?_
              refine jc_skip ?_
              refine jk_then ?_
              refine jc_seq ?_
              refine jc_block ?_
              refine jc_seq ?_
              refine jc_seq ?_
              have hlt : i < aa.length := by omega
              obtain ⟨a, ha⟩ : ∃ x, aa[i]? = some x := ⟨aa[i], List.getElem?_eq_getElem hlt⟩
              obtain ⟨b, hb⟩ : ∃ x, bb[i]? = some x := ⟨bb[i], List.getElem?_eq_getElem (by omega)⟩
              obtain ⟨r1, r2, r3⟩ := hB i a b ha hb
              refine so_draw [] (by kernel_rfl) (by kernel_rfl) (by kernel_rfl) rfl (by rfl) (fun hap htm => ?_)
              refine da_any hap htm (i := 0) (by rfl) (by kernel_rfl) (by rfl) (listed' := #[true, false, false, false, false, false, false, false, false, false, false]) (by rfl) (fun _ => (opv_move (by rfl))) (by rfl) rfl ?_
              refine da_any hap htm (i := 1) (by rfl) (by kernel_rfl) (by rfl) (listed' := #[true, true, false, false, false, false, false, false, false, false, false]) (by rfl) (fun _ => (opv_move (by rfl))) (by rfl) rfl ?_
              refine da_any hap htm (i := 2) (by rfl) (by kernel_rfl) (by rfl) (listed' := #[true, true, true, false, false, false, false, false, false, false, false]) (by rfl) (fun _ => (opv_indexAddr_sv (i := i) (by rfl) hsva (by rfl) Try.underlying25 ti35 (by rfl) (by omega))) (by rfl) rfl ?_
              refine da_any hap htm (i := 3) (by rfl) (by kernel_rfl) (by rfl) (listed' := #[true, true, true, true, false, false, false, false, false, false, false]) (by rfl) (fun _ => (opv_fieldAddr (by rfl) fld35_0)) (by rfl) rfl ?_
              refine da_now [10] hap htm (i := 4) (by rfl) (by kernel_rfl) (by rfl) (listed' := #[true, true, true, true, true, false, false, false, false, false, false]) (by rfl) (by kernel_rfl) (by kernel_rfl) (opv_load_fld (fo := 0) (xs := aa) Hop.cells_len (by rfl) na3 (by repeat (first | exact Pk.here _ | apply Pk.there)) ha (by rfl)) (by rfl) rfl ?_
              refine da_any hap htm (i := 5) (by rfl) (by kernel_rfl) (by rfl) (listed' := #[true, true, true, true, true, true, false, false, false, false, false]) (by rfl) (fun _ => (opv_move (by rfl))) (by rfl) rfl ?_
              refine da_any hap htm (i := 6) (by rfl) (by kernel_rfl) (by rfl) (listed' := #[true, true, true, true, true, true, true, false, false, false, false]) (by rfl) (fun _ => (opv_move (by rfl))) (by rfl) rfl ?_
              refine da_any hap htm (i := 7) (by rfl) (by kernel_rfl) (by rfl) (listed' := #[true, true, true, true, true, true, true, true, false, false, false]) (by rfl) (fun _ => (opv_indexAddr_sv (i := i) (by rfl) hsvb (by rfl) Try.underlying25 ti35 (by rfl) (by omega))) (by rfl) rfl ?_
              refine da_any hap htm (i := 8) (by rfl) (by kernel_rfl) (by rfl) (listed' := #[true, true, true, true, true, true, true, true, true, false, false]) (by rfl) (fun _ => (opv_fieldAddr (by rfl) fld35_0)) (by rfl) rfl ?_
              refine da_now [10] hap htm (i := 9) (by rfl) (by kernel_rfl) (by rfl) (listed' := #[true, true, true, true, true, true, true, true, true, true, false]) (by rfl) (by kernel_rfl) (by kernel_rfl) (opv_load_fld (fo := 0) (xs := bb) Hop.cells_len (by rfl) na3 (by repeat (first | exact Pk.here _ | apply Pk.there)) hb (by rfl)) (by rfl) rfl ?_
              refine da_any hap htm (i := 10) (by rfl) (by kernel_rfl) (by rfl) (listed' := #[true, true, true, true, true, true, true, true, true, true, true]) (by rfl) (fun _ => (opv_cmp (by rfl) (by rfl) (by rfl))) (by rfl) rfl ?_
              refine da_done (by kernel_rfl) ?_
              refine jk_then ?_
              refine sk_split (x := 61) (by rfl) (fun h30 => ?_) (fun h30 => ?_)
              · first | have p30 := of_decide_eq_true h30 | have p30 := of_decide_eq_false h30 | have p30 := ndT h30 | have p30 := ndF h30 | have p30 := nbT h30 | have p30 := nbF h30 | have p30 := h30
                exfalso; omega
              · first | have p30 := of_decide_eq_true h30 | have p30 := of_decide_eq_false h30 | have p30 := ndT h30 | have p30 := ndF h30 | have p30 := nbT h30 | have p30 := nbF h30 | have p30 := h30
                refine sc_false (by rfl) h30 ?_
                refine jc_skip ?_
                refine jk_then ?_
                refine jc_seq ?_
                refine jc_seq ?_
                refine sc_region ?_
                refine so_pure (opv_move (by rfl)) (by rfl) rfl ?_
                refine so_pure (opv_move (by rfl)) (by rfl) rfl ?_
                refine so_pure (opv_indexAddr_sv (i := i) (by rfl) hsva (by rfl) Try.underlying25 ti35 (by rfl) (by omega)) (by rfl) rfl ?_
                refine so_pure (opv_fieldAddr (by rfl) fld35_3) (by rfl) rfl ?_
                refine so_pure (opv_load_fld (fo := 7) (xs := aa) Hop.cells_len (by rfl) na3 (by repeat (first | exact Pk.here _ | apply Pk.there)) ha (by rfl)) (by rfl) rfl ?_
                refine so_pure (opv_move (by rfl)) (by rfl) rfl ?_
                refine so_pure (opv_cmp (by rfl) (by rfl) (by rfl)) (by rfl) rfl ?_
                refine so_pure (opv_move (by rfl)) (by rfl) rfl ?_
                refine sk_split (x := 69) (by rfl) (fun h35 => ?_) (fun h35 => ?_)
                · first | have p35 := of_decide_eq_true h35 | have p35 := of_decide_eq_false h35 | have p35 := ndT h35 | have p35 := ndF h35 | have p35 := nbT h35 | have p35 := nbF h35 | have p35 := h35
                  refine so_pure (opv_move (by rfl)) (wtd_run rfl rfl (by rfl) h35) rfl ?_
                  refine so_pure (opv_move (by rfl)) (wtd_run rfl rfl (by rfl) h35) rfl ?_
                  refine so_pure (opv_indexAddr_sv (i := i) (by rfl) hsva (by rfl) Try.underlying25 ti35 (by rfl) (by omega)) (wtd_run rfl rfl (by rfl) h35) rfl ?_
                  refine so_pure (opv_fieldAddr (by rfl) fld35_4) (wtd_run rfl rfl (by rfl) h35) rfl ?_
                  refine so_pure (opv_load_fld (fo := 8) (xs := aa) Hop.cells_len (by rfl) na3 (by repeat (first | exact Pk.here _ | apply Pk.there)) ha (by rfl)) (wtd_run rfl rfl (by rfl) h35) rfl ?_
                  refine so_pure (opv_move (by rfl)) (wtd_run rfl rfl (by rfl) h35) rfl ?_
                  refine so_pure (opv_cmp (by rfl) (by rfl) (by rfl)) (wtd_run rfl rfl (by rfl) h35) rfl ?_
                  refine so_pure (sv_pick_t (by rfl) h35 (by rfl)) (by rfl) rfl ?_
                  refine so_pure (opv_move (by rfl)) (by rfl) rfl ?_
                  refine sk_split (x := 78) (by rfl) (fun h40 => ?_) (fun h40 => ?_)
                  · first | have p40 := of_decide_eq_true h40 | have p40 := of_decide_eq_false h40 | have p40 := ndT h40 | have p40 := ndF h40 | have p40 := nbT h40 | have p40 := nbF h40 | have p40 := h40
                    refine so_pure (opv_move (by rfl)) (wtd_run rfl rfl (by rfl) h40) rfl ?_
                    refine so_pure (opv_move (by rfl)) (wtd_run rfl rfl (by rfl) h40) rfl ?_
                    refine so_pure (opv_indexAddr_sv (i := i) (by rfl) hsvb (by rfl) Try.underlying25 ti35 (by rfl) (by omega)) (wtd_run rfl rfl (by rfl) h40) rfl ?_
                    refine so_pure (opv_fieldAddr (by rfl) fld35_4) (wtd_run rfl rfl (by rfl) h40) rfl ?_
                    refine so_pure (opv_load_fld (fo := 8) (xs := bb) Hop.cells_len (by rfl) na3 (by repeat (first | exact Pk.here _ | apply Pk.there)) hb (by rfl)) (wtd_run rfl rfl (by rfl) h40) rfl ?_
                    refine so_pure (opv_cmp (by rfl) (by rfl) (by rfl)) (wtd_run rfl rfl (by rfl) h40) rfl ?_
                    refine so_pure (sv_pick_t (by rfl) h40 (by rfl)) (by rfl) rfl ?_
                    refine jo_nil ?_
                    refine jk_then ?_
                    refine sk_split (x := 85) (by rfl) (fun h45 => ?_) (fun h45 => ?_)
                    · first | have p45 := of_decide_eq_true h45 | have p45 := of_decide_eq_false h45 | have p45 := ndT h45 | have p45 := ndF h45 | have p45 := nbT h45 | have p45 := nbF h45 | have p45 := h45
                      exfalso; omega
                    · first | have p45 := of_decide_eq_true h45 | have p45 := of_decide_eq_false h45 | have p45 := ndT h45 | have p45 := ndF h45 | have p45 := nbT h45 | have p45 := nbF h45 | have p45 := h45
                      refine sc_false (by rfl) h45 ?_
                      refine jc_skip ?_
                      refine jk_then ?_
                      refine jc_seq ?_
                      refine so_draw [] (by kernel_rfl) (by kernel_rfl) (by kernel_rfl) rfl (by rfl) (fun hap htm => ?_)
                      refine da_any hap htm (i := 0) (by rfl) (by kernel_rfl) (by rfl) (listed' := #[true, false, false, false, false, false, false, false, false, false, false, false, false, false, false, false, false, false, false, false, false, false, false, false, false, false, false, false, false, false, false]) (by rfl) (fun _ => (opv_move (by rfl))) (by rfl) rfl ?_
                      refine da_any hap htm (i := 1) (by rfl) (by kernel_rfl) (by rfl) (listed' := #[true, true, false, false, false, false, false, false, false, false, false, false, false, false, false, false, false, false, false, false, false, false, false, false, false, false, false, false, false, false, false]) (by rfl) (fun _ => (opv_move (by rfl))) (by rfl) rfl ?_
                      refine da_any hap htm (i := 2) (by rfl) (by kernel_rfl) (by rfl) (listed' := #[true, true, true, false, false, false, false, false, false, false, false, false, false, false, false, false, false, false, false, false, false, false, false, false, false, false, false, false, false, false, false]) (by rfl) (fun _ => (opv_indexAddr_sv (i := i) (by rfl) hsva (by rfl) Try.underlying25 ti35 (by rfl) (by omega))) (by rfl) rfl ?_
                      refine da_any hap htm (i := 3) (by rfl) (by kernel_rfl) (by rfl) (listed' := #[true, true, true, true, false, false, false, false, false, false, false, false, false, false, false, false, false, false, false, false, false, false, false, false, false, false, false, false, false, false, false]) (by rfl) (fun _ => (opv_fieldAddr (by rfl) fld35_3)) (by rfl) rfl ?_
                      refine da_now [6, 7, 8, 9, 10, 11, 12, 13, 14, 15, 16, 17, 18, 19, 20, 21, 22, 23, 24, 25, 26, 27, 28, 29, 30] hap htm (i := 4) (by rfl) (by kernel_rfl) (by rfl) (listed' := #[true, true, true, true, true, false, false, false, false, false, false, false, false, false, false, false, false, false, false, false, false, false, false, false, false, false, false, false, false, false, false]) (by rfl) (by kernel_rfl) (by kernel_rfl) (opv_load_fld (fo := 7) (xs := aa) Hop.cells_len (by rfl) na3 (by repeat (first | exact Pk.here _ | apply Pk.there)) ha (by rfl)) (by rfl) rfl ?_
                      refine da_any hap htm (i := 5) (by rfl) (by kernel_rfl) (by rfl) (listed' := #[true, true, true, true, true, true, false, false, false, false, false, false, false, false, false, false, false, false, false, false, false, false, false, false, false, false, false, false, false, false, false]) (by rfl) (fun _ => (opv_move (by rfl))) (by rfl) rfl ?_
                      refine da_any hap htm (i := 6) (by rfl) (by kernel_rfl) (by rfl) (listed' := #[true, true, true, true, true, true, true, false, false, false, false, false, false, false, false, false, false, false, false, false, false, false, false, false, false, false, false, false, false, false, false]) (by rfl) (fun _ => (opv_cmp (by rfl) (by rfl) (by rfl))) (by rfl) rfl ?_
                      refine da_any hap htm (i := 7) (by rfl) (by kernel_rfl) (by rfl) (listed' := #[true, true, true, true, true, true, true, true, false, false, false, false, false, false, false, false, false, false, false, false, false, false, false, false, false, false, false, false, false, false, false]) (by rfl) (fun _ => (opv_move (by rfl))) (by rfl) rfl ?_
                      refine sk_split (x := 93) (by rfl) (fun h50 => ?_) (fun h50 => ?_)
                      · first | have p50 := of_decide_eq_true h50 | have p50 := of_decide_eq_false h50 | have p50 := ndT h50 | have p50 := ndF h50 | have p50 := nbT h50 | have p50 := nbF h50 | have p50 := h50
                        refine da_skip hap htm (i := 8) (by rfl) (by kernel_rfl) (listed' := #[true, true, true, true, true, true, true, true, true, false, false, false, false, false, false, false, false, false, false, false, false, false, false, false, false, false, false, false, false, false, false]) (by rfl) (wtd_not rfl rfl (by rfl) h50) rfl ?_
                        refine da_skip hap htm (i := 9) (by rfl) (by kernel_rfl) (listed' := #[true, true, true, true, true, true, true, true, true, true, false, false, false, false, false, false, false, false, false, false, false, false, false, false, false, false, false, false, false, false, false]) (by rfl) (wtd_not rfl rfl (by rfl) h50) rfl ?_
                        refine da_skip hap htm (i := 10) (by rfl) (by kernel_rfl) (listed' := #[true, true, true, true, true, true, true, true, true, true, true, false, false, false, false, false, false, false, false, false, false, false, false, false, false, false, false, false, false, false, false]) (by rfl) (wtd_not rfl rfl (by rfl) h50) rfl ?_
                        refine da_skip hap htm (i := 11) (by rfl) (by kernel_rfl) (listed' := #[true, true, true, true, true, true, true, true, true, true, true, true, false, false, false, false, false, false, false, false, false, false, false, false, false, false, false, false, false, false, false]) (by rfl) (wtd_not rfl rfl (by rfl) h50) rfl ?_
                        refine da_skip hap htm (i := 12) (by rfl) (by kernel_rfl) (listed' := #[true, true, true, true, true, true, true, true, true, true, true, true, true, false, false, false, false, false, false, false, false, false, false, false, false, false, false, false, false, false, false]) (by rfl) (wtd_not rfl rfl (by rfl) h50) rfl ?_
                        refine da_skip hap htm (i := 13) (by rfl) (by kernel_rfl) (listed' := #[true, true, true, true, true, true, true, true, true, true, true, true, true, true, false, false, false, false, false, false, false, false, false, false, false, false, false, false, false, false, false]) (by rfl) (wtd_not rfl rfl (by rfl) h50) rfl ?_
                        refine da_skip hap htm (i := 14) (by rfl) (by kernel_rfl) (listed' := #[true, true, true, true, true, true, true, true, true, true, true, true, true, true, true, false, false, false, false, false, false, false, false, false, false, false, false, false, false, false, false]) (by rfl) (wtd_not rfl rfl (by rfl) h50) rfl ?_
                        refine da_any hap htm (i := 15) (by rfl) (by kernel_rfl) (by rfl) (listed' := #[true, true, true, true, true, true, true, true, true, true, true, true, true, true, true, true, false, false, false, false, false, false, false, false, false, false, false, false, false, false, false]) (by rfl) (fun _ => (sv_pick_t (by rfl) h50 (by rfl))) (by rfl) rfl ?_
                        refine da_any hap htm (i := 16) (by rfl) (by kernel_rfl) (by rfl) (listed' := #[true, true, true, true, true, true, true, true, true, true, true, true, true, true, true, true, true, false, false, false, false, false, false, false, false, false, false, false, false, false, false]) (by rfl) (fun _ => (opv_move (by rfl))) (by rfl) rfl ?_
                        refine da_any hap htm (i := 17) (by rfl) (by kernel_rfl) (by rfl) (listed' := #[true, true, true, true, true, true, true, true, true, true, true, true, true, true, true, true, true, true, false, false, false, false, false, false, false, false, false, false, false, false, false]) (by rfl) (fun _ => (opv_move (by rfl))) (wtd_run rfl rfl (by rfl) rfl) rfl ?_
                        refine da_any hap htm (i := 18) (by rfl) (by kernel_rfl) (by rfl) (listed' := #[true, true, true, true, true, true, true, true, true, true, true, true, true, true, true, true, true, true, true, false, false, false, false, false, false, false, false, false, false, false, false]) (by rfl) (fun _ => (opv_move (by rfl))) (wtd_run rfl rfl (by rfl) rfl) rfl ?_
                        refine da_any hap htm (i := 19) (by rfl) (by kernel_rfl) (by rfl) (listed' := #[true, true, true, true, true, true, true, true, true, true, true, true, true, true, true, true, true, true, true, true, false, false, false, false, false, false, false, false, false, false, false]) (by rfl) (fun _ => (opv_indexAddr_sv (i := i) (by rfl) hsva (by rfl) Try.underlying25 ti35 (by rfl) (by omega))) (wtd_run rfl rfl (by rfl) rfl) rfl ?_
                        refine da_any hap htm (i := 20) (by rfl) (by kernel_rfl) (by rfl) (listed' := #[true, true, true, true, true, true, true, true, true, true, true, true, true, true, true, true, true, true, true, true, true, false, false, false, false, false, false, false, false, false, false]) (by rfl) (fun _ => (opv_fieldAddr (by rfl) fld35_4)) (wtd_run rfl rfl (by rfl) rfl) rfl ?_
                        refine da_now [22, 29, 30] hap htm (i := 21) (by rfl) (by kernel_rfl) (by rfl) (listed' := #[true, true, true, true, true, true, true, true, true, true, true, true, true, true, true, true, true, true, true, true, true, true, false, false, false, false, false, false, false, false, false]) (by rfl) (by kernel_rfl) (by kernel_rfl) (opv_load_fld (fo := 8) (xs := aa) Hop.cells_len (by rfl) na3 (by repeat (first | exact Pk.here _ | apply Pk.there)) ha (by rfl)) (wtd_run rfl rfl (by rfl) rfl) rfl ?_
                        refine da_any hap htm (i := 22) (by rfl) (by kernel_rfl) (by rfl) (listed' := #[true, true, true, true, true, true, true, true, true, true, true, true, true, true, true, true, true, true, true, true, true, true, true, false, false, false, false, false, false, false, false]) (by rfl) (fun _ => (opv_cmp (by rfl) (by rfl) (by rfl))) (wtd_run rfl rfl (by rfl) rfl) rfl ?_
                        refine da_any hap htm (i := 23) (by rfl) (by kernel_rfl) (by rfl) (listed' := #[true, true, true, true, true, true, true, true, true, true, true, true, true, true, true, true, true, true, true, true, true, true, true, true, false, false, false, false, false, false, false]) (by rfl) (fun _ => (opv_move (by rfl))) (wtd_run rfl rfl (by rfl) rfl) rfl ?_
                        refine da_any hap htm (i := 24) (by rfl) (by kernel_rfl) (by rfl) (listed' := #[true, true, true, true, true, true, true, true, true, true, true, true, true, true, true, true, true, true, true, true, true, true, true, true, true, false, false, false, false, false, false]) (by rfl) (fun _ => (opv_move (by rfl))) (wtd_run rfl rfl (by rfl) rfl) rfl ?_
                        refine da_any hap htm (i := 25) (by rfl) (by kernel_rfl) (by rfl) (listed' := #[true, true, true, true, true, true, true, true, true, true, true, true, true, true, true, true, true, true, true, true, true, true, true, true, true, true, false, false, false, false, false]) (by rfl) (fun _ => (opv_indexAddr_sv (i := i) (by rfl) hsvb (by rfl) Try.underlying25 ti35 (by rfl) (by omega))) (wtd_run rfl rfl (by rfl) rfl) rfl ?_
                        refine da_any hap htm (i := 26) (by rfl) (by kernel_rfl) (by rfl) (listed' := #[true, true, true, true, true, true, true, true, true, true, true, true, true, true, true, true, true, true, true, true, true, true, true, true, true, true, true, false, false, false, false]) (by rfl) (fun _ => (opv_fieldAddr (by rfl) fld35_4)) (wtd_run rfl rfl (by rfl) rfl) rfl ?_
                        refine da_now [28, 29, 30] hap htm (i := 27) (by rfl) (by kernel_rfl) (by rfl) (listed' := #[true, true, true, true, true, true, true, true, true, true, true, true, true, true, true, true, true, true, true, true, true, true, true, true, true, true, true, true, false, false, false]) (by rfl) (by kernel_rfl) (by kernel_rfl) (opv_load_fld (fo := 8) (xs := bb) Hop.cells_len (by rfl) na3 (by repeat (first | exact Pk.here _ | apply Pk.there)) hb (by rfl)) (wtd_run rfl rfl (by rfl) rfl) rfl ?_
                        refine da_any hap htm (i := 28) (by rfl) (by kernel_rfl) (by rfl) (listed' := #[true, true, true, true, true, true, true, true, true, true, true, true, true, true, true, true, true, true, true, true, true, true, true, true, true, true, true, true, true, false, false]) (by rfl) (fun _ => (opv_cmp (by rfl) (by rfl) (by rfl))) (wtd_run rfl rfl (by rfl) rfl) rfl ?_
                        refine da_any hap htm (i := 29) (by rfl) (by kernel_rfl) (by rfl) (listed' := #[true, true, true, true, true, true, true, true, true, true, true, true, true, true, true, true, true, true, true, true, true, true, true, true, true, true, true, true, true, true, false]) (by rfl) (fun _ => (opv_bne (by rfl) (by rfl) Try.underlying4)) (wtd_run rfl rfl (by rfl) rfl) rfl ?_
                        refine da_any hap htm (i := 30) (by rfl) (by kernel_rfl) (by rfl) (listed' := #[true, true, true, true, true, true, true, true, true, true, true, true, true, true, true, true, true, true, true, true, true, true, true, true, true, true, true, true, true, true, true]) (by rfl) (fun _ => (sv_pick_t (by rfl) rfl (by rfl))) (by rfl) rfl ?_
                        refine da_done (by kernel_rfl) ?_
                        refine jk_then ?_
                        refine sk_split (x := 116) (by rfl) (fun h61 => ?_) (fun h61 => ?_)
                        · first | have p61 := of_decide_eq_true h61 | have p61 := of_decide_eq_false h61 | have p61 := ndT h61 | have p61 := ndF h61 | have p61 := nbT h61 | have p61 := nbF h61 | have p61 := h61
                          exact absurd (by first | (simp only [decide_eq_decide]; omega) | (simp only [decide_eq_false_iff_not]; omega)) p61
                        · first | have p61 := of_decide_eq_true h61 | have p61 := of_decide_eq_false h61 | have p61 := ndT h61 | have p61 := ndF h61 | have p61 := nbT h61 | have p61 := nbF h61 | have p61 := h61
                          refine sc_false (by rfl) h61 ?_
                          refine jc_skip ?_
                          refine jk_block ?_
                          refine jk_then ?_
                          refine sc_region ?_
                          refine so_pure (opv_move (by rfl)) (by rfl) rfl ?_
                          refine so_pure (opv_add (by rfl) (by rfl) (wrap64_ok (by omega))) (by rfl) rfl ?_
                          refine so_pure (opv_assign (by rfl)) (by rfl) rfl ?_
                          refine jo_nil ?_
                          refine jk_round (i + 1) (by omega) (by show aa.length - (i + 1) < aa.length - i; omega) ⟨rfl, rfl, rfl, rfl, trivial⟩ (fun w hw => ?_)
                          show St _ _ [own sva 35 9 aa.length (aa.flatMap Hop.cells), own svb 35 9 bb.length (bb.flatMap Hop.cells)] _
                          exact St.sel hw (by repeat (first | exact Pks.nil _ | exact Pk.here _ | apply Pk.there | apply Pks.cons))
                      · first | have p50 := of_decide_eq_true h50 | have p50 := of_decide_eq_false h50 | have p50 := ndT h50 | have p50 := ndF h50 | have p50 := nbT h50 | have p50 := nbF h50 | have p50 := h50
                        refine da_any hap htm (i := 8) (by rfl) (by kernel_rfl) (by rfl) (listed' := #[true, true, true, true, true, true, true, true, true, false, false, false, false, false, false, false, false, false, false, false, false, false, false, false, false, false, false, false, false, false, false]) (by rfl) (fun _ => (opv_move (by rfl))) (wtd_run rfl rfl (by rfl) h50) rfl ?_
                        refine da_any hap htm (i := 9) (by rfl) (by kernel_rfl) (by rfl) (listed' := #[true, true, true, true, true, true, true, true, true, true, false, false, false, false, false, false, false, false, false, false, false, false, false, false, false, false, false, false, false, false, false]) (by rfl) (fun _ => (opv_move (by rfl))) (wtd_run rfl rfl (by rfl) h50) rfl ?_
                        refine da_any hap htm (i := 10) (by rfl) (by kernel_rfl) (by rfl) (listed' := #[true, true, true, true, true, true, true, true, true, true, true, false, false, false, false, false, false, false, false, false, false, false, false, false, false, false, false, false, false, false, false]) (by rfl) (fun _ => (opv_indexAddr_sv (i := i) (by rfl) hsva (by rfl) Try.underlying25 ti35 (by rfl) (by omega))) (wtd_run rfl rfl (by rfl) h50) rfl ?_
                        refine da_any hap htm (i := 11) (by rfl) (by kernel_rfl) (by rfl) (listed' := #[true, true, true, true, true, true, true, true, true, true, true, true, false, false, false, false, false, false, false, false, false, false, false, false, false, false, false, false, false, false, false]) (by rfl) (fun _ => (opv_fieldAddr (by rfl) fld35_4)) (wtd_run rfl rfl (by rfl) h50) rfl ?_
                        refine da_now [14, 15, 16, 17, 18, 19, 20, 21, 22, 23, 24, 25, 26, 27, 28, 29, 30] hap htm (i := 12) (by rfl) (by kernel_rfl) (by rfl) (listed' := #[true, true, true, true, true, true, true, true, true, true, true, true, true, false, false, false, false, false, false, false, false, false, false, false, false, false, false, false, false, false, false]) (by rfl) (by kernel_rfl) (by kernel_rfl) (opv_load_fld (fo := 8) (xs := aa) Hop.cells_len (by rfl) na3 (by repeat (first | exact Pk.here _ | apply Pk.there)) ha (by rfl)) (wtd_run rfl rfl (by rfl) h50) rfl ?_
                        refine da_any hap htm (i := 13) (by rfl) (by kernel_rfl) (by rfl) (listed' := #[true, true, true, true, true, true, true, true, true, true, true, true, true, true, false, false, false, false, false, false, false, false, false, false, false, false, false, false, false, false, false]) (by rfl) (fun _ => (opv_move (by rfl))) (wtd_run rfl rfl (by rfl) h50) rfl ?_
                        refine da_any hap htm (i := 14) (by rfl) (by kernel_rfl) (by rfl) (listed' := #[true, true, true, true, true, true, true, true, true, true, true, true, true, true, true, false, false, false, false, false, false, false, false, false, false, false, false, false, false, false, false]) (by rfl) (fun _ => (opv_cmp (by rfl) (by rfl) (by rfl))) (wtd_run rfl rfl (by rfl) h50) rfl ?_
                        refine da_any hap htm (i := 15) (by rfl) (by kernel_rfl) (by rfl) (listed' := #[true, true, true, true, true, true, true, true, true, true, true, true, true, true, true, true, false, false, false, false, false, false, false, false, false, false, false, false, false, false, false]) (by rfl) (fun _ => (sv_pick_f (by rfl) h50 (by rfl))) (by rfl) rfl ?_
                        refine da_any hap htm (i := 16) (by rfl) (by kernel_rfl) (by rfl) (listed' := #[true, true, true, true, true, true, true, true, true, true, true, true, true, true, true, true, true, false, false, false, false, false, false, false, false, false, false, false, false, false, false]) (by rfl) (fun _ => (opv_move (by rfl))) (by rfl) rfl ?_
                        refine sk_split (x := 102) (by rfl) (fun h68 => ?_) (fun h68 => ?_)
                        · first | have p68 := of_decide_eq_true h68 | have p68 := of_decide_eq_false h68 | have p68 := ndT h68 | have p68 := ndF h68 | have p68 := nbT h68 | have p68 := nbF h68 | have p68 := h68
                          refine da_any hap htm (i := 17) (by rfl) (by kernel_rfl) (by rfl) (listed' := #[true, true, true, true, true, true, true, true, true, true, true, true, true, true, true, true, true, true, false, false, false, false, false, false, false, false, false, false, false, false, false]) (by rfl) (fun _ => (opv_move (by rfl))) (wtd_run rfl rfl (by rfl) h68) rfl ?_
                          refine da_any hap htm (i := 18) (by rfl) (by kernel_rfl) (by rfl) (listed' := #[true, true, true, true, true, true, true, true, true, true, true, true, true, true, true, true, true, true, true, false, false, false, false, false, false, false, false, false, false, false, false]) (by rfl) (fun _ => (opv_move (by rfl))) (wtd_run rfl rfl (by rfl) h68) rfl ?_
                          refine da_any hap htm (i := 19) (by rfl) (by kernel_rfl) (by rfl) (listed' := #[true, true, true, true, true, true, true, true, true, true, true, true, true, true, true, true, true, true, true, true, false, false, false, false, false, false, false, false, false, false, false]) (by rfl) (fun _ => (opv_indexAddr_sv (i := i) (by rfl) hsva (by rfl) Try.underlying25 ti35 (by rfl) (by omega))) (wtd_run rfl rfl (by rfl) h68) rfl ?_
                          refine da_any hap htm (i := 20) (by rfl) (by kernel_rfl) (by rfl) (listed' := #[true, true, true, true, true, true, true, true, true, true, true, true, true, true, true, true, true, true, true, true, true, false, false, false, false, false, false, false, false, false, false]) (by rfl) (fun _ => (opv_fieldAddr (by rfl) fld35_4)) (wtd_run rfl rfl (by rfl) h68) rfl ?_
                          refine da_now [22, 29, 30] hap htm (i := 21) (by rfl) (by kernel_rfl) (by rfl) (listed' := #[true, true, true, true, true, true, true, true, true, true, true, true, true, true, true, true, true, true, true, true, true, true, false, false, false, false, false, false, false, false, false]) (by rfl) (by kernel_rfl) (by kernel_rfl) (opv_load_fld (fo := 8) (xs := aa) Hop.cells_len (by rfl) na3 (by repeat (first | exact Pk.here _ | apply Pk.there)) ha (by rfl)) (wtd_run rfl rfl (by rfl) h68) rfl ?_
                          refine da_any hap htm (i := 22) (by rfl) (by kernel_rfl) (by rfl) (listed' := #[true, true, true, true, true, true, true, true, true, true, true, true, true, true, true, true, true, true, true, true, true, true, true, false, false, false, false, false, false, false, false]) (by rfl) (fun _ => (opv_cmp (by rfl) (by rfl) (by rfl))) (wtd_run rfl rfl (by rfl) h68) rfl ?_
                          refine da_any hap htm (i := 23) (by rfl) (by kernel_rfl) (by rfl) (listed' := #[true, true, true, true, true, true, true, true, true, true, true, true, true, true, true, true, true, true, true, true, true, true, true, true, false, false, false, false, false, false, false]) (by rfl) (fun _ => (opv_move (by rfl))) (wtd_run rfl rfl (by rfl) h68) rfl ?_
                          refine da_any hap htm (i := 24) (by rfl) (by kernel_rfl) (by rfl) (listed' := #[true, true, true, true, true, true, true, true, true, true, true, true, true, true, true, true, true, true, true, true, true, true, true, true, true, false, false, false, false, false, false]) (by rfl) (fun _ => (opv_move (by rfl))) (wtd_run rfl rfl (by rfl) h68) rfl ?_
                          refine da_any hap htm (i := 25) (by rfl) (by kernel_rfl) (by rfl) (listed' := #[true, true, true, true, true, true, true, true, true, true, true, true, true, true, true, true, true, true, true, true, true, true, true, true, true, true, false, false, false, false, false]) (by rfl) (fun _ => (opv_indexAddr_sv (i := i) (by rfl) hsvb (by rfl) Try.underlying25 ti35 (by rfl) (by omega))) (wtd_run rfl rfl (by rfl) h68) rfl ?_
                          refine da_any hap htm (i := 26) (by rfl) (by kernel_rfl) (by rfl) (listed' := #[true, true, true, true, true, true, true, true, true, true, true, true, true, true, true, true, true, true, true, true, true, true, true, true, true, true, true, false, false, false, false]) (by rfl) (fun _ => (opv_fieldAddr (by rfl) fld35_4)) (wtd_run rfl rfl (by rfl) h68) rfl ?_
                          refine da_now [28, 29, 30] hap htm (i := 27) (by rfl) (by kernel_rfl) (by rfl) (listed' := #[true, true, true, true, true, true, true, true, true, true, true, true, true, true, true, true, true, true, true, true, true, true, true, true, true, true, true, true, false, false, false]) (by rfl) (by kernel_rfl) (by kernel_rfl) (opv_load_fld (fo := 8) (xs := bb) Hop.cells_len (by rfl) na3 (by repeat (first | exact Pk.here _ | apply Pk.there)) hb (by rfl)) (wtd_run rfl rfl (by rfl) h68) rfl ?_
                          refine da_any hap htm (i := 28) (by rfl) (by kernel_rfl) (by rfl) (listed' := #[true, true, true, true, true, true, true, true, true, true, true, true, true, true, true, true, true, true, true, true, true, true, true, true, true, true, true, true, true, false, false]) (by rfl) (fun _ => (opv_cmp (by rfl) (by rfl) (by rfl))) (wtd_run rfl rfl (by rfl) h68) rfl ?_
                          refine da_any hap htm (i := 29) (by rfl) (by kernel_rfl) (by rfl) (listed' := #[true, true, true, true, true, true, true, true, true, true, true, true, true, true, true, true, true, true, true, true, true, true, true, true, true, true, true, true, true, true, false]) (by rfl) (fun _ => (opv_bne (by rfl) (by rfl) Try.underlying4)) (wtd_run rfl rfl (by rfl) h68) rfl ?_
                          refine da_any hap htm (i := 30) (by rfl) (by kernel_rfl) (by rfl) (listed' := #[true, true, true, true, true, true, true, true, true, true, true, true, true, true, true, true, true, true, true, true, true, true, true, true, true, true, true, true, true, true, true]) (by rfl) (fun _ => (sv_pick_t (by rfl) h68 (by rfl))) (by rfl) rfl ?_
                          refine da_done (by kernel_rfl) ?_
                          refine jk_then ?_
                          refine sk_split (x := 116) (by rfl) (fun h79 => ?_) (fun h79 => ?_)
                          · first | have p79 := of_decide_eq_true h79 | have p79 := of_decide_eq_false h79 | have p79 := ndT h79 | have p79 := ndF h79 | have p79 := nbT h79 | have p79 := nbF h79 | have p79 := h79
                            exact absurd (by first | (simp only [decide_eq_decide]; omega) | (simp only [decide_eq_false_iff_not]; omega)) p79
                          · first | have p79 := of_decide_eq_true h79 | have p79 := of_decide_eq_false h79 | have p79 := ndT h79 | have p79 := ndF h79 | have p79 := nbT h79 | have p79 := nbF h79 | have p79 := h79
                            refine sc_false (by rfl) h79 ?_
                            refine jc_skip ?_
                            refine jk_block ?_
                            refine jk_then ?_
                            refine sc_region ?_
                            refine so_pure (opv_move (by rfl)) (by rfl) rfl ?_
                            refine so_pure (opv_add (by rfl) (by rfl) (wrap64_ok (by omega))) (by rfl) rfl ?_
                            refine so_pure (opv_assign (by rfl)) (by rfl) rfl ?_
                            refine jo_nil ?_
                            refine jk_round (i + 1) (by omega) (by show aa.length - (i + 1) < aa.length - i; omega) ⟨rfl, rfl, rfl, rfl, trivial⟩ (fun w hw => ?_)
                            show St _ _ [own sva 35 9 aa.length (aa.flatMap Hop.cells), own svb 35 9 bb.length (bb.flatMap Hop.cells)] _
                            exact St.sel hw (by repeat (first | exact Pks.nil _ | exact Pk.here _ | apply Pk.there | apply Pks.cons))
                        · first | have p68 := of_decide_eq_true h68 | have p68 := of_decide_eq_false h68 | have p68 := ndT h68 | have p68 := ndF h68 | have p68 := nbT h68 | have p68 := nbF h68 | have p68 := h68
                          refine da_skip hap htm (i := 17) (by rfl) (by kernel_rfl) (listed' := #[true, true, true, true, true, true, true, true, true, true, true, true, true, true, true, true, true, true, false, false, false, false, false, false, false, false, false, false, false, false, false]) (by rfl) (wtd_not rfl rfl (by rfl) h68) rfl ?_
                          refine da_skip hap htm (i := 18) (by rfl) (by kernel_rfl) (listed' := #[true, true, true, true, true, true, true, true, true, true, true, true, true, true, true, true, true, true, true, false, false, false, false, false, false, false, false, false, false, false, false]) (by rfl) (wtd_not rfl rfl (by rfl) h68) rfl ?_
                          refine da_skip hap htm (i := 19) (by rfl) (by kernel_rfl) (listed' := #[true, true, true, true, true, true, true, true, true, true, true, true, true, true, true, true, true, true, true, true, false, false, false, false, false, false, false, false, false, false, false]) (by rfl) (wtd_not rfl rfl (by rfl) h68) rfl ?_
                          refine da_skip hap htm (i := 20) (by rfl) (by kernel_rfl) (listed' := #[true, true, true, true, true, true, true, true, true, true, true, true, true, true, true, true, true, true, true, true, true, false, false, false, false, false, false, false, false, false, false]) (by rfl) (wtd_not rfl rfl (by rfl) h68) rfl ?_
                          refine da_skip hap htm (i := 21) (by rfl) (by kernel_rfl) (listed' := #[true, true, true, true, true, true, true, true, true, true, true, true, true, true, true, true, true, true, true, true, true, true, false, false, false, false, false, false, false, false, false]) (by rfl) (wtd_not rfl rfl (by rfl) h68) rfl ?_
                          refine da_skip hap htm (i := 22) (by rfl) (by kernel_rfl) (listed' := #[true, true, true, true, true, true, true, true, true, true, true, true, true, true, true, true, true, true, true, true, true, true, true, false, false, false, false, false, false, false, false]) (by rfl) (wtd_not rfl rfl (by rfl) h68) rfl ?_
                          refine da_skip hap htm (i := 23) (by rfl) (by kernel_rfl) (listed' := #[true, true, true, true, true, true, true, true, true, true, true, true, true, true, true, true, true, true, true, true, true, true, true, true, false, false, false, false, false, false, false]) (by rfl) (wtd_not rfl rfl (by rfl) h68) rfl ?_
                          refine da_skip hap htm (i := 24) (by rfl) (by kernel_rfl) (listed' := #[true, true, true, true, true, true, true, true, true, true, true, true, true, true, true, true, true, true, true, true, true, true, true, true, true, false, false, false, false, false, false]) (by rfl) (wtd_not rfl rfl (by rfl) h68) rfl ?_
                          refine da_skip hap htm (i := 25) (by rfl) (by kernel_rfl) (listed' := #[true, true, true, true, true, true, true, true, true, true, true, true, true, true, true, true, true, true, true, true, true, true, true, true, true, true, false, false, false, false, false]) (by rfl) (wtd_not rfl rfl (by rfl) h68) rfl ?_
                          refine da_skip hap htm (i := 26) (by rfl) (by kernel_rfl) (listed' := #[true, true, true, true, true, true, true, true, true, true, true, true, true, true, true, true, true, true, true, true, true, true, true, true, true, true, true, false, false, false, false]) (by rfl) (wtd_not rfl rfl (by rfl) h68) rfl ?_
                          refine da_skip hap htm (i := 27) (by rfl) (by kernel_rfl) (listed' := #[true, true, true, true, true, true, true, true, true, true, true, true, true, true, true, true, true, true, true, true, true, true, true, true, true, true, true, true, false, false, false]) (by rfl) (wtd_not rfl rfl (by rfl) h68) rfl ?_
                          refine da_skip hap htm (i := 28) (by rfl) (by kernel_rfl) (listed' := #[true, true, true, true, true, true, true, true, true, true, true, true, true, true, true, true, true, true, true, true, true, true, true, true, true, true, true, true, true, false, false]) (by rfl) (wtd_not rfl rfl (by rfl) h68) rfl ?_
                          refine da_skip hap htm (i := 29) (by rfl) (by kernel_rfl) (listed' := #[true, true, true, true, true, true, true, true, true, true, true, true, true, true, true, true, true, true, true, true, true, true, true, true, true, true, true, true, true, true, false]) (by rfl) (wtd_not rfl rfl (by rfl) h68) rfl ?_
                          refine da_any hap htm (i := 30) (by rfl) (by kernel_rfl) (by rfl) (listed' := #[true, true, true, true, true, true, true, true, true, true, true, true, true, true, true, true, true, true, true, true, true, true, true, true, true, true, true, true, true, true, true]) (by rfl) (fun _ => (sv_pick_f (by rfl) h68 (by rfl))) (by rfl) rfl ?_
                          refine da_done (by kernel_rfl) ?_
                          refine jk_then ?_
                          refine sc_false (by rfl) rfl ?_
                          refine jc_skip ?_
                          refine jk_block ?_
                          refine jk_then ?_
                          refine sc_region ?_
                          refine so_pure (opv_move (by rfl)) (by rfl) rfl ?_
                          refine so_pure (opv_add (by rfl) (by rfl) (wrap64_ok (by omega))) (by rfl) rfl ?_
                          refine so_pure (opv_assign (by rfl)) (by rfl) rfl ?_
                          refine jo_nil ?_
                          refine jk_round (i + 1) (by omega) (by show aa.length - (i + 1) < aa.length - i; omega) ⟨rfl, rfl, rfl, rfl, trivial⟩ (fun w hw => ?_)
                          show St _ _ [own sva 35 9 aa.length (aa.flatMap Hop.cells), own svb 35 9 bb.length (bb.flatMap Hop.cells)] _
                          exact St.sel hw (by repeat (first | exact Pks.nil _ | exact Pk.here _ | apply Pk.there | apply Pks.cons))
                  · first | have p40 := of_decide_eq_true h40 | have p40 := of_decide_eq_false h40 | have p40 := ndT h40 | have p40 := ndF h40 | have p40 := nbT h40 | have p40 := nbF h40 | have p40 := h40
                    refine so_skip (wtd_not rfl rfl (by rfl) h40) rfl ?_
                    refine so_skip (wtd_not rfl rfl (by rfl) h40) rfl ?_
                    refine so_skip (wtd_not rfl rfl (by rfl) h40) rfl ?_
                    refine so_skip (wtd_not rfl rfl (by rfl) h40) rfl ?_
                    refine so_skip (wtd_not rfl rfl (by rfl) h40) rfl ?_
                    refine so_skip (wtd_not rfl rfl (by rfl) h40) rfl ?_
                    refine so_pure (sv_pick_f (by rfl) h40 (by rfl)) (by rfl) rfl ?_
                    refine jo_nil ?_
                    refine jk_then ?_
                    refine sc_false (by rfl) rfl ?_
                    refine jc_skip ?_
                    refine jk_then ?_
                    refine jc_seq ?_
                    refine so_draw [] (by kernel_rfl) (by kernel_rfl) (by kernel_rfl) rfl (by rfl) (fun hap htm => ?_)
                    refine da_any hap htm (i := 0) (by rfl) (by kernel_rfl) (by rfl) (listed' := #[true, false, false, false, false, false, false, false, false, false, false, false, false, false, false, false, false, false, false, false, false, false, false, false, false, false, false, false, false, false, false]) (by rfl) (fun _ => (opv_move (by rfl))) (by rfl) rfl ?_
                    refine da_any hap htm (i := 1) (by rfl) (by kernel_rfl) (by rfl) (listed' := #[true, true, false, false, false, false, false, false, false, false, false, false, false, false, false, false, false, false, false, false, false, false, false, false, false, false, false, false, false, false, false]) (by rfl) (fun _ => (opv_move (by rfl))) (by rfl) rfl ?_
                    refine da_any hap htm (i := 2) (by rfl) (by kernel_rfl) (by rfl) (listed' := #[true, true, true, false, false, false, false, false, false, false, false, false, false, false, false, false, false, false, false, false, false, false, false, false, false, false, false, false, false, false, false]) (by rfl) (fun _ => (opv_indexAddr_sv (i := i) (by rfl) hsva (by rfl) Try.underlying25 ti35 (by rfl) (by omega))) (by rfl) rfl ?_
                    refine da_any hap htm (i := 3) (by rfl) (by kernel_rfl) (by rfl) (listed' := #[true, true, true, true, false, false, false, false, false, false, false, false, false, false, false, false, false, false, false, false, false, false, false, false, false, false, false, false, false, false, false]) (by rfl) (fun _ => (opv_fieldAddr (by rfl) fld35_3)) (by rfl) rfl ?_
                    refine da_now [6, 7, 8, 9, 10, 11, 12, 13, 14, 15, 16, 17, 18, 19, 20, 21, 22, 23, 24, 25, 26, 27, 28, 29, 30] hap htm (i := 4) (by rfl) (by kernel_rfl) (by rfl) (listed' := #[true, true, true, true, true, false, false, false, false, false, false, false, false, false, false, false, false, false, false, false, false, false, false, false, false, false, false, false, false, false, false]) (by rfl) (by kernel_rfl) (by kernel_rfl) (opv_load_fld (fo := 7) (xs := aa) Hop.cells_len (by rfl) na3 (by repeat (first | exact Pk.here _ | apply Pk.there)) ha (by rfl)) (by rfl) rfl ?_
                    refine da_any hap htm (i := 5) (by rfl) (by kernel_rfl) (by rfl) (listed' := #[true, true, true, true, true, true, false, false, false, false, false, false, false, false, false, false, false, false, false, false, false, false, false, false, false, false, false, false, false, false, false]) (by rfl) (fun _ => (opv_move (by rfl))) (by rfl) rfl ?_
                    refine da_any hap htm (i := 6) (by rfl) (by kernel_rfl) (by rfl) (listed' := #[true, true, true, true, true, true, true, false, false, false, false, false, false, false, false, false, false, false, false, false, false, false, false, false, false, false, false, false, false, false, false]) (by rfl) (fun _ => (opv_cmp (by rfl) (by rfl) (by rfl))) (by rfl) rfl ?_
                    refine da_any hap htm (i := 7) (by rfl) (by kernel_rfl) (by rfl) (listed' := #[true, true, true, true, true, true, true, true, false, false, false, false, false, false, false, false, false, false, false, false, false, false, false, false, false, false, false, false, false, false, false]) (by rfl) (fun _ => (opv_move (by rfl))) (by rfl) rfl ?_
                    refine sk_split (x := 93) (by rfl) (fun h88 => ?_) (fun h88 => ?_)
                    · first | have p88 := of_decide_eq_true h88 | have p88 := of_decide_eq_false h88 | have p88 := ndT h88 | have p88 := ndF h88 | have p88 := nbT h88 | have p88 := nbF h88 | have p88 := h88
                      refine da_skip hap htm (i := 8) (by rfl) (by kernel_rfl) (listed' := #[true, true, true, true, true, true, true, true, true, false, false, false, false, false, false, false, false, false, false, false, false, false, false, false, false, false, false, false, false, false, false]) (by rfl) (wtd_not rfl rfl (by rfl) h88) rfl ?_
                      refine da_skip hap htm (i := 9) (by rfl) (by kernel_rfl) (listed' := #[true, true, true, true, true, true, true, true, true, true, false, false, false, false, false, false, false, false, false, false, false, false, false, false, false, false, false, false, false, false, false]) (by rfl) (wtd_not rfl rfl (by rfl) h88) rfl ?_
                      refine da_skip hap htm (i := 10) (by rfl) (by kernel_rfl) (listed' := #[true, true, true, true, true, true, true, true, true, true, true, false, false, false, false, false, false, false, false, false, false, false, false, false, false, false, false, false, false, false, false]) (by rfl) (wtd_not rfl rfl (by rfl) h88) rfl ?_
                      refine da_skip hap htm (i := 11) (by rfl) (by kernel_rfl) (listed' := #[true, true, true, true, true, true, true, true, true, true, true, true, false, false, false, false, false, false, false, false, false, false, false, false, false, false, false, false, false, false, false]) (by rfl) (wtd_not rfl rfl (by rfl) h88) rfl ?_
                      refine da_skip hap htm (i := 12) (by rfl) (by kernel_rfl) (listed' := #[true, true, true, true, true, true, true, true, true, true, true, true, true, false, false, false, false, false, false, false, false, false, false, false, false, false, false, false, false, false, false]) (by rfl) (wtd_not rfl rfl (by rfl) h88) rfl ?_
                      refine da_skip hap htm (i := 13) (by rfl) (by kernel_rfl) (listed' := #[true, true, true, true, true, true, true, true, true, true, true, true, true, true, false, false, false, false, false, false, false, false, false, false, false, false, false, false, false, false, false]) (by rfl) (wtd_not rfl rfl (by rfl) h88) rfl ?_
                      refine da_skip hap htm (i := 14) (by rfl) (by kernel_rfl) (listed' := #[true, true, true, true, true, true, true, true, true, true, true, true, true, true, true, false, false, false, false, false, false, false, false, false, false, false, false, false, false, false, false]) (by rfl) (wtd_not rfl rfl (by rfl) h88) rfl ?_
                      refine da_any hap htm (i := 15) (by rfl) (by kernel_rfl) (by rfl) (listed' := #[true, true, true, true, true, true, true, true, true, true, true, true, true, true, true, true, false, false, false, false, false, false, false, false, false, false, false, false, false, false, false]) (by rfl) (fun _ => (sv_pick_t (by rfl) h88 (by rfl))) (by rfl) rfl ?_
                      refine da_any hap htm (i := 16) (by rfl) (by kernel_rfl) (by rfl) (listed' := #[true, true, true, true, true, true, true, true, true, true, true, true, true, true, true, true, true, false, false, false, false, false, false, false, false, false, false, false, false, false, false]) (by rfl) (fun _ => (opv_move (by rfl))) (by rfl) rfl ?_
                      refine da_any hap htm (i := 17) (by rfl) (by kernel_rfl) (by rfl) (listed' := #[true, true, true, true, true, true, true, true, true, true, true, true, true, true, true, true, true, true, false, false, false, false, false, false, false, false, false, false, false, false, false]) (by rfl) (fun _ => (opv_move (by rfl))) (wtd_run rfl rfl (by rfl) rfl) rfl ?_
                      refine da_any hap htm (i := 18) (by rfl) (by kernel_rfl) (by rfl) (listed' := #[true, true, true, true, true, true, true, true, true, true, true, true, true, true, true, true, true, true, true, false, false, false, false, false, false, false, false, false, false, false, false]) (by rfl) (fun _ => (opv_move (by rfl))) (wtd_run rfl rfl (by rfl) rfl) rfl ?_
                      refine da_any hap htm (i := 19) (by rfl) (by kernel_rfl) (by rfl) (listed' := #[true, true, true, true, true, true, true, true, true, true, true, true, true, true, true, true, true, true, true, true, false, false, false, false, false, false, false, false, false, false, false]) (by rfl) (fun _ => (opv_indexAddr_sv (i := i) (by rfl) hsva (by rfl) Try.underlying25 ti35 (by rfl) (by omega))) (wtd_run rfl rfl (by rfl) rfl) rfl ?_
                      refine da_any hap htm (i := 20) (by rfl) (by kernel_rfl) (by rfl) (listed' := #[true, true, true, true, true, true, true, true, true, true, true, true, true, true, true, true, true, true, true, true, true, false, false, false, false, false, false, false, false, false, false]) (by rfl) (fun _ => (opv_fieldAddr (by rfl) fld35_4)) (wtd_run rfl rfl (by rfl) rfl) rfl ?_
                      refine da_now [22, 29, 30] hap htm (i := 21) (by rfl) (by kernel_rfl) (by rfl) (listed' := #[true, true, true, true, true, true, true, true, true, true, true, true, true, true, true, true, true, true, true, true, true, true, false, false, false, false, false, false, false, false, false]) (by rfl) (by kernel_rfl) (by kernel_rfl) (opv_load_fld (fo := 8) (xs := aa) Hop.cells_len (by rfl) na3 (by repeat (first | exact Pk.here _ | apply Pk.there)) ha (by rfl)) (wtd_run rfl rfl (by rfl) rfl) rfl ?_
                      refine da_any hap htm (i := 22) (by rfl) (by kernel_rfl) (by rfl) (listed' := #[true, true, true, true, true, true, true, true, true, true, true, true, true, true, true, true, true, true, true, true, true, true, true, false, false, false, false, false, false, false, false]) (by rfl) (fun _ => (opv_cmp (by rfl) (by rfl) (by rfl))) (wtd_run rfl rfl (by rfl) rfl) rfl ?_
                      refine da_any hap htm (i := 23) (by rfl) (by kernel_rfl) (by rfl) (listed' := #[true, true, true, true, true, true, true, true, true, true, true, true, true, true, true, true, true, true, true, true, true, true, true, true, false, false, false, false, false, false, false]) (by rfl) (fun _ => (opv_move (by rfl))) (wtd_run rfl rfl (by rfl) rfl) rfl ?_
                      refine da_any hap htm (i := 24) (by rfl) (by kernel_rfl) (by rfl) (listed' := #[true, true, true, true, true, true, true, true, true, true, true, true, true, true, true, true, true, true, true, true, true, true, true, true, true, false, false, false, false, false, false]) (by rfl) (fun _ => (opv_move (by rfl))) (wtd_run rfl rfl (by rfl) rfl) rfl ?_
                      refine da_any hap htm (i := 25) (by rfl) (by kernel_rfl) (by rfl) (listed' := #[true, true, true, true, true, true, true, true, true, true, true, true, true, true, true, true, true, true, true, true, true, true, true, true, true, true, false, false, false, false, false]) (by rfl) (fun _ => (opv_indexAddr_sv (i := i) (by rfl) hsvb (by rfl) Try.underlying25 ti35 (by rfl) (by omega))) (wtd_run rfl rfl (by rfl) rfl) rfl ?_
                      refine da_any hap htm (i := 26) (by rfl) (by kernel_rfl) (by rfl) (listed' := #[true, true, true, true, true, true, true, true, true, true, true, true, true, true, true, true, true, true, true, true, true, true, true, true, true, true, true, false, false, false, false]) (by rfl) (fun _ => (opv_fieldAddr (by rfl) fld35_4)) (wtd_run rfl rfl (by rfl) rfl) rfl ?_
                      refine da_now [28, 29, 30] hap htm (i := 27) (by rfl) (by kernel_rfl) (by rfl) (listed' := #[true, true, true, true, true, true, true, true, true, true, true, true, true, true, true, true, true, true, true, true, true, true, true, true, true, true, true, true, false, false, false]) (by rfl) (by kernel_rfl) (by kernel_rfl) (opv_load_fld (fo := 8) (xs := bb) Hop.cells_len (by rfl) na3 (by repeat (first | exact Pk.here _ | apply Pk.there)) hb (by rfl)) (wtd_run rfl rfl (by rfl) rfl) rfl ?_
                      refine da_any hap htm (i := 28) (by rfl) (by kernel_rfl) (by rfl) (listed' := #[true, true, true, true, true, true, true, true, true, true, true, true, true, true, true, true, true, true, true, true, true, true, true, true, true, true, true, true, true, false, false]) (by rfl) (fun _ => (opv_cmp (by rfl) (by rfl) (by rfl))) (wtd_run rfl rfl (by rfl) rfl) rfl ?_
                      refine da_any hap htm (i := 29) (by rfl) (by kernel_rfl) (by rfl) (listed' := #[true, true, true, true, true, true, true, true, true, true, true, true, true, true, true, true, true, true, true, true, true, true, true, true, true, true, true, true, true, true, false]) (by rfl) (fun _ => (opv_bne (by rfl) (by rfl) Try.underlying4)) (wtd_run rfl rfl (by rfl) rfl) rfl ?_
                      refine da_any hap htm (i := 30) (by rfl) (by kernel_rfl) (by rfl) (listed' := #[true, true, true, true, true, true, true, true, true, true, true, true, true, true, true, true, true, true, true, true, true, true, true, true, true, true, true, true, true, true, true]) (by rfl) (fun _ => (sv_pick_t (by rfl) rfl (by rfl))) (by rfl) rfl ?_
                      refine da_done (by kernel_rfl) ?_
                      refine jk_then ?_
                      refine sk_split (x := 116) (by rfl) (fun h99 => ?_) (fun h99 => ?_)
                      · first | have p99 := of_decide_eq_true h99 | have p99 := of_decide_eq_false h99 | have p99 := ndT h99 | have p99 := ndF h99 | have p99 := nbT h99 | have p99 := nbF h99 | have p99 := h99
                        exact absurd (by first | (simp only [decide_eq_decide]; omega) | (simp only [decide_eq_false_iff_not]; omega)) p99
                      · first | have p99 := of_decide_eq_true h99 | have p99 := of_decide_eq_false h99 | have p99 := ndT h99 | have p99 := ndF h99 | have p99 := nbT h99 | have p99 := nbF h99 | have p99 := h99
                        refine sc_false (by rfl) h99 ?_
                        refine jc_skip ?_
                        refine jk_block ?_
                        refine jk_then ?_
                        refine sc_region ?_
                        refine so_pure (opv_move (by rfl)) (by rfl) rfl ?_
                        refine so_pure (opv_add (by rfl) (by rfl) (wrap64_ok (by omega))) (by rfl) rfl ?_
                        refine so_pure (opv_assign (by rfl)) (by rfl) rfl ?_
                        refine jo_nil ?_
                        refine jk_round (i + 1) (by omega) (by show aa.length - (i + 1) < aa.length - i; omega) ⟨rfl, rfl, rfl, rfl, trivial⟩ (fun w hw => ?_)
                        show St _ _ [own sva 35 9 aa.length (aa.flatMap Hop.cells), own svb 35 9 bb.length (bb.flatMap Hop.cells)] _
                        exact St.sel hw (by repeat (first | exact Pks.nil _ | exact Pk.here _ | apply Pk.there | apply Pks.cons))
                    · first | have p88 := of_decide_eq_true h88 | have p88 := of_decide_eq_false h88 | have p88 := ndT h88 | have p88 := ndF h88 | have p88 := nbT h88 | have p88 := nbF h88 | have p88 := h88
                      refine da_any hap htm (i := 8) (by rfl) (by kernel_rfl) (by rfl) (listed' := #[true, true, true, true, true, true, true, true, true, false, false, false, false, false, false, false, false, false, false, false, false, false, false, false, false, false, false, false, false, false, false]) (by rfl) (fun _ => (opv_move (by rfl))) (wtd_run rfl rfl (by rfl) h88) rfl ?_
                      refine da_any hap htm (i := 9) (by rfl) (by kernel_rfl) (by rfl) (listed' := #[true, true, true, true, true, true, true, true, true, true, false, false, false, false, false, false, false, false, false, false, false, false, false, false, false, false, false, false, false, false, false]) (by rfl) (fun _ => (opv_move (by rfl))) (wtd_run rfl rfl (by rfl) h88) rfl ?_
                      refine da_any hap htm (i := 10) (by rfl) (by kernel_rfl) (by rfl) (listed' := #[true, true, true, true, true, true, true, true, true, true, true, false, false, false, false, false, false, false, false, false, false, false, false, false, false, false, false, false, false, false, false]) (by rfl) (fun _ => (opv_indexAddr_sv (i := i) (by rfl) hsva (by rfl) Try.underlying25 ti35 (by rfl) (by omega))) (wtd_run rfl rfl (by rfl) h88) rfl ?_
                      refine da_any hap htm (i := 11) (by rfl) (by kernel_rfl) (by rfl) (listed' := #[true, true, true, true, true, true, true, true, true, true, true, true, false, false, false, false, false, false, false, false, false, false, false, false, false, false, false, false, false, false, false]) (by rfl) (fun _ => (opv_fieldAddr (by rfl) fld35_4)) (wtd_run rfl rfl (by rfl) h88) rfl ?_
                      refine da_now [14, 15, 16, 17, 18, 19, 20, 21, 22, 23, 24, 25, 26, 27, 28, 29, 30] hap htm (i := 12) (by rfl) (by kernel_rfl) (by rfl) (listed' := #[true, true, true, true, true, true, true, true, true, true, true, true, true, false, false, false, false, false, false, false, false, false, false, false, false, false, false, false, false, false, false]) (by rfl) (by kernel_rfl) (by kernel_rfl) (opv_load_fld (fo := 8) (xs := aa) Hop.cells_len (by rfl) na3 (by repeat (first | exact Pk.here _ | apply Pk.there)) ha (by rfl)) (wtd_run rfl rfl (by rfl) h88) rfl ?_
                      refine da_any hap htm (i := 13) (by rfl) (by kernel_rfl) (by rfl) (listed' := #[true, true, true, true, true, true, true, true, true, true, true, true, true, true, false, false, false, false, false, false, false, false, false, false, false, false, false, false, false, false, false]) (by rfl) (fun _ => (opv_move (by rfl))) (wtd_run rfl rfl (by rfl) h88) rfl ?_
                      refine da_any hap htm (i := 14) (by rfl) (by kernel_rfl) (by rfl) (listed' := #[true, true, true, true, true, true, true, true, true, true, true, true, true, true, true, false, false, false, false, false, false, false, false, false, false, false, false, false, false, false, false]) (by rfl) (fun _ => (opv_cmp (by rfl) (by rfl) (by rfl))) (wtd_run rfl rfl (by rfl) h88) rfl ?_
                      refine da_any hap htm (i := 15) (by rfl) (by kernel_rfl) (by rfl) (listed' := #[true, true, true, true, true, true, true, true, true, true, true, true, true, true, true, true, false, false, false, false, false, false, false, false, false, false, false, false, false, false, false]) (by rfl) (fun _ => (sv_pick_f (by rfl) h88 (by rfl))) (by rfl) rfl ?_
                      refine da_any hap htm (i := 16) (by rfl) (by kernel_rfl) (by rfl) (listed' := #[true, true, true, true, true, true, true, true, true, true, true, true, true, true, true, true, true, false, false, false, false, false, false, false, false, false, false, false, false, false, false]) (by rfl) (fun _ => (opv_move (by rfl))) (by rfl) rfl ?_
                      refine sk_split (x := 102) (by rfl) (fun h106 => ?_) (fun h106 => ?_)
                      · first | have p106 := of_decide_eq_true h106 | have p106 := of_decide_eq_false h106 | have p106 := ndT h106 | have p106 := ndF h106 | have p106 := nbT h106 | have p106 := nbF h106 | have p106 := h106
                        refine da_any hap htm (i := 17) (by rfl) (by kernel_rfl) (by rfl) (listed' := #[true, true, true, true, true, true, true, true, true, true, true, true, true, true, true, true, true, true, false, false, false, false, false, false, false, false, false, false, false, false, false]) (by rfl) (fun _ => (opv_move (by rfl))) (wtd_run rfl rfl (by rfl) h106) rfl ?_
                        refine da_any hap htm (i := 18) (by rfl) (by kernel_rfl) (by rfl) (listed' := #[true, true, true, true, true, true, true, true, true, true, true, true, true, true, true, true, true, true, true, false, false, false, false, false, false, false, false, false, false, false, false]) (by rfl) (fun _ => (opv_move (by rfl))) (wtd_run rfl rfl (by rfl) h106) rfl ?_
                        refine da_any hap htm (i := 19) (by rfl) (by kernel_rfl) (by rfl) (listed' := #[true, true, true, true, true, true, true, true, true, true, true, true, true, true, true, true, true, true, true, true, false, false, false, false, false, false, false, false, false, false, false]) (by rfl) (fun _ => (opv_indexAddr_sv (i := i) (by rfl) hsva (by rfl) Try.underlying25 ti35 (by rfl) (by omega))) (wtd_run rfl rfl (by rfl) h106) rfl ?_
                        refine da_any hap htm (i := 20) (by rfl) (by kernel_rfl) (by rfl) (listed' := #[true, true, true, true, true, true, true, true, true, true, true, true, true, true, true, true, true, true, true, true, true, false, false, false, false, false, false, false, false, false, false]) (by rfl) (fun _ => (opv_fieldAddr (by rfl) fld35_4)) (wtd_run rfl rfl (by rfl) h106) rfl ?_
                        refine da_now [22, 29, 30] hap htm (i := 21) (by rfl) (by kernel_rfl) (by rfl) (listed' := #[true, true, true, true, true, true, true, true, true, true, true, true, true, true, true, true, true, true, true, true, true, true, false, false, false, false, false, false, false, false, false]) (by rfl) (by kernel_rfl) (by kernel_rfl) (opv_load_fld (fo := 8) (xs := aa) Hop.cells_len (by rfl) na3 (by repeat (first | exact Pk.here _ | apply Pk.there)) ha (by rfl)) (wtd_run rfl rfl (by rfl) h106) rfl ?_
                        refine da_any hap htm (i := 22) (by rfl) (by kernel_rfl) (by rfl) (listed' := #[true, true, true, true, true, true, true, true, true, true, true, true, true, true, true, true, true, true, true, true, true, true, true, false, false, false, false, false, false, false, false]) (by rfl) (fun _ => (opv_cmp (by rfl) (by rfl) (by rfl))) (wtd_run rfl rfl (by rfl) h106) rfl ?_
                        refine da_any hap htm (i := 23) (by rfl) (by kernel_rfl) (by rfl) (listed' := #[true, true, true, true, true, true, true, true, true, true, true, true, true, true, true, true, true, true, true, true, true, true, true, true, false, false, false, false, false, false, false]) (by rfl) (fun _ => (opv_move (by rfl))) (wtd_run rfl rfl (by rfl) h106) rfl ?_
                        refine da_any hap htm (i := 24) (by rfl) (by kernel_rfl) (by rfl) (listed' := #[true, true, true, true, true, true, true, true, true, true, true, true, true, true, true, true, true, true, true, true, true, true, true, true, true, false, false, false, false, false, false]) (by rfl) (fun _ => (opv_move (by rfl))) (wtd_run rfl rfl (by rfl) h106) rfl ?_
                        refine da_any hap htm (i := 25) (by rfl) (by kernel_rfl) (by rfl) (listed' := #[true, true, true, true, true, true, true, true, true, true, true, true, true, true, true, true, true, true, true, true, true, true, true, true, true, true, false, false, false, false, false]) (by rfl) (fun _ => (opv_indexAddr_sv (i := i) (by rfl) hsvb (by rfl) Try.underlying25 ti35 (by rfl) (by omega))) (wtd_run rfl rfl (by rfl) h106) rfl ?_
                        refine da_any hap htm (i := 26) (by rfl) (by kernel_rfl) (by rfl) (listed' := #[true, true, true, true, true, true, true, true, true, true, true, true, true, true, true, true, true, true, true, true, true, true, true, true, true, true, true, false, false, false, false]) (by rfl) (fun _ => (opv_fieldAddr (by rfl) fld35_4)) (wtd_run rfl rfl (by rfl) h106) rfl ?_
                        refine da_now [28, 29, 30] hap htm (i := 27) (by rfl) (by kernel_rfl) (by rfl) (listed' := #[true, true, true, true, true, true, true, true, true, true, true, true, true, true, true, true, true, true, true, true, true, true, true, true, true, true, true, true, false, false, false]) (by rfl) (by kernel_rfl) (by kernel_rfl) (opv_load_fld (fo := 8) (xs := bb) Hop.cells_len (by rfl) na3 (by repeat (first | exact Pk.here _ | apply Pk.there)) hb (by rfl)) (wtd_run rfl rfl (by rfl) h106) rfl ?_
                        refine da_any hap htm (i := 28) (by rfl) (by kernel_rfl) (by rfl) (listed' := #[true, true, true, true, true, true, true, true, true, true, true, true, true, true, true, true, true, true, true, true, true, true, true, true, true, true, true, true, true, false, false]) (by rfl) (fun _ => (opv_cmp (by rfl) (by rfl) (by rfl))) (wtd_run rfl rfl (by rfl) h106) rfl ?_
                        refine da_any hap htm (i := 29) (by rfl) (by kernel_rfl) (by rfl) (listed' := #[true, true, true, true, true, true, true, true, true, true, true, true, true, true, true, true, true, true, true, true, true, true, true, true, true, true, true, true, true, true, false]) (by rfl) (fun _ => (opv_bne (by rfl) (by rfl) Try.underlying4)) (wtd_run rfl rfl (by rfl) h106) rfl ?_
                        refine da_any hap htm (i := 30) (by rfl) (by kernel_rfl) (by rfl) (listed' := #[true, true, true, true, true, true, true, true, true, true, true, true, true, true, true, true, true, true, true, true, true, true, true, true, true, true, true, true, true, true, true]) (by rfl) (fun _ => (sv_pick_t (by rfl) h106 (by rfl))) (by rfl) rfl ?_
                        refine da_done (by kernel_rfl) ?_
                        refine jk_then ?_
                        refine sk_split (x := 116) (by rfl) (fun h117 => ?_) (fun h117 => ?_)
                        · first | have p117 := of_decide_eq_true h117 | have p117 := of_decide_eq_false h117 | have p117 := ndT h117 | have p117 := ndF h117 | have p117 := nbT h117 | have p117 := nbF h117 | have p117 := h117
                          exact absurd (by first | (simp only [decide_eq_decide]; omega) | (simp only [decide_eq_false_iff_not]; omega)) p117
                        · first | have p117 := of_decide_eq_true h117 | have p117 := of_decide_eq_false h117 | have p117 := ndT h117 | have p117 := ndF h117 | have p117 := nbT h117 | have p117 := nbF h117 | have p117 := h117
                          refine sc_false (by rfl) h117 ?_
                          refine jc_skip ?_
                          refine jk_block ?_
                          refine jk_then ?_
                          refine sc_region ?_
                          refine so_pure (opv_move (by rfl)) (by rfl) rfl ?_
                          refine so_pure (opv_add (by rfl) (by rfl) (wrap64_ok (by omega))) (by rfl) rfl ?_
                          refine so_pure (opv_assign (by rfl)) (by rfl) rfl ?_
                          refine jo_nil ?_
                          refine jk_round (i + 1) (by omega) (by show aa.length - (i + 1) < aa.length - i; omega) ⟨rfl, rfl, rfl, rfl, trivial⟩ (fun w hw => ?_)
                          show St _ _ [own sva 35 9 aa.length (aa.flatMap Hop.cells), own svb 35 9 bb.length (bb.flatMap Hop.cells)] _
                          exact St.sel hw (by repeat (first | exact Pks.nil _ | exact Pk.here _ | apply Pk.there | apply Pks.cons))
                      · first | have p106 := of_decide_eq_true h106 | have p106 := of_decide_eq_false h106 | have p106 := ndT h106 | have p106 := ndF h106 | have p106 := nbT h106 | have p106 := nbF h106 | have p106 := h106
                        refine da_skip hap htm (i := 17) (by rfl) (by kernel_rfl) (listed' := #[true, true, true, true, true, true, true, true, true, true, true, true, true, true, true, true, true, true, false, false, false, false, false, false, false, false, false, false, false, false, false]) (by rfl) (wtd_not rfl rfl (by rfl) h106) rfl ?_
                        refine da_skip hap htm (i := 18) (by rfl) (by kernel_rfl) (listed' := #[true, true, true, true, true, true, true, true, true, true, true, true, true, true, true, true, true, true, true, false, false, false, false, false, false, false, false, false, false, false, false]) (by rfl) (wtd_not rfl rfl (by rfl) h106) rfl ?_
                        refine da_skip hap htm (i := 19) (by rfl) (by kernel_rfl) (listed' := #[true, true, true, true, true, true, true, true, true, true, true, true, true, true, true, true, true, true, true, true, false, false, false, false, false, false, false, false, false, false, false]) (by rfl) (wtd_not rfl rfl (by rfl) h106) rfl ?_
                        refine da_skip hap htm (i := 20) (by rfl) (by kernel_rfl) (listed' := #[true, true, true, true, true, true, true, true, true, true, true, true, true, true, true, true, true, true, true, true, true, false, false, false, false, false, false, false, false, false, false]) (by rfl) (wtd_not rfl rfl (by rfl) h106) rfl ?_
                        refine da_skip hap htm (i := 21) (by rfl) (by kernel_rfl) (listed' := #[true, true, true, true, true, true, true, true, true, true, true, true, true, true, true, true, true, true, true, true, true, true, false, false, false, false, false, false, false, false, false]) (by rfl) (wtd_not rfl rfl (by rfl) h106) rfl ?_
                        refine da_skip hap htm (i := 22) (by rfl) (by kernel_rfl) (listed' := #[true, true, true, true, true, true, true, true, true, true, true, true, true, true, true, true, true, true, true, true, true, true, true, false, false, false, false, false, false, false, false]) (by rfl) (wtd_not rfl rfl (by rfl) h106) rfl ?_
                        refine da_skip hap htm (i := 23) (by rfl) (by kernel_rfl) (listed' := #[true, true, true, true, true, true, true, true, true, true, true, true, true, true, true, true, true, true, true, true, true, true, true, true, false, false, false, false, false, false, false]) (by rfl) (wtd_not rfl rfl (by rfl) h106) rfl ?_
                        refine da_skip hap htm (i := 24) (by rfl) (by kernel_rfl) (listed' := #[true, true, true, true, true, true, true, true, true, true, true, true, true, true, true, true, true, true, true, true, true, true, true, true, true, false, false, false, false, false, false]) (by rfl) (wtd_not rfl rfl (by rfl) h106) rfl ?_
                        refine da_skip hap htm (i := 25) (by rfl) (by kernel_rfl) (listed' := #[true, true, true, true, true, true, true, true, true, true, true, true, true, true, true, true, true, true, true, true, true, true, true, true, true, true, false, false, false, false, false]) (by rfl) (wtd_not rfl rfl (by rfl) h106) rfl ?_
                        refine da_skip hap htm (i := 26) (by rfl) (by kernel_rfl) (listed' := #[true, true, true, true, true, true, true, true, true, true, true, true, true, true, true, true, true, true, true, true, true, true, true, true, true, true, true, false, false, false, false]) (by rfl) (wtd_not rfl rfl (by rfl) h106) rfl ?_
                        refine da_skip hap htm (i := 27) (by rfl) (by kernel_rfl) (listed' := #[true, true, true, true, true, true, true, true, true, true, true, true, true, true, true, true, true, true, true, true, true, true, true, true, true, true, true, true, false, false, false]) (by rfl) (wtd_not rfl rfl (by rfl) h106) rfl ?_
                        refine da_skip hap htm (i := 28) (by rfl) (by kernel_rfl) (listed' := #[true, true, true, true, true, true, true, true, true, true, true, true, true, true, true, true, true, true, true, true, true, true, true, true, true, true, true, true, true, false, false]) (by rfl) (wtd_not rfl rfl (by rfl) h106) rfl ?_
                        refine da_skip hap htm (i := 29) (by rfl) (by kernel_rfl) (listed' := #[true, true, true, true, true, true, true, true, true, true, true, true, true, true, true, true, true, true, true, true, true, true, true, true, true, true, true, true, true, true, false]) (by rfl) (wtd_not rfl rfl (by rfl) h106) rfl ?_
                        refine da_any hap htm (i := 30) (by rfl) (by kernel_rfl) (by rfl) (listed' := #[true, true, true, true, true, true, true, true, true, true, true, true, true, true, true, true, true, true, true, true, true, true, true, true, true, true, true, true, true, true, true]) (by rfl) (fun _ => (sv_pick_f (by rfl) h106 (by rfl))) (by rfl) rfl ?_
                        refine da_done (by kernel_rfl) ?_
                        refine jk_then ?_
                        refine sc_false (by rfl) rfl ?_
                        refine jc_skip ?_
                        refine jk_block ?_
                        refine jk_then ?_
                        refine sc_region ?_
                        refine so_pure (opv_move (by rfl)) (by rfl) rfl ?_
                        refine so_pure (opv_add (by rfl) (by rfl) (wrap64_ok (by omega))) (by rfl) rfl ?_
                        refine so_pure (opv_assign (by rfl)) (by rfl) rfl ?_
                        refine jo_nil ?_
                        refine jk_round (i + 1) (by omega) (by show aa.length - (i + 1) < aa.length - i; omega) ⟨rfl, rfl, rfl, rfl, trivial⟩ (fun w hw => ?_)
                        show St _ _ [own sva 35 9 aa.length (aa.flatMap Hop.cells), own svb 35 9 bb.length (bb.flatMap Hop.cells)] _
                        exact St.sel hw (by repeat (first | exact Pks.nil _ | exact Pk.here _ | apply Pk.there | apply Pks.cons))
                · first | have p35 := of_decide_eq_true h35 | have p35 := of_decide_eq_false h35 | have p35 := ndT h35 | have p35 := ndF h35 | have p35 := nbT h35 | have p35 := nbF h35 | have p35 := h35
                  refine so_skip (wtd_not rfl rfl (by rfl) h35) rfl ?_
                  refine so_skip (wtd_not rfl rfl (by rfl) h35) rfl ?_
                  refine so_skip (wtd_not rfl rfl (by rfl) h35) rfl ?_
                  refine so_skip (wtd_not rfl rfl (by rfl) h35) rfl ?_
                  refine so_skip (wtd_not rfl rfl (by rfl) h35) rfl ?_
                  refine so_skip (wtd_not rfl rfl (by rfl) h35) rfl ?_
                  refine so_skip (wtd_not rfl rfl (by rfl) h35) rfl ?_
                  refine so_pure (sv_pick_f (by rfl) h35 (by rfl)) (by rfl) rfl ?_
                  refine so_pure (opv_move (by rfl)) (by rfl) rfl ?_
                  refine so_skip (wtd_not rfl rfl (by rfl) rfl) rfl ?_
                  refine so_skip (wtd_not rfl rfl (by rfl) rfl) rfl ?_
                  refine so_skip (wtd_not rfl rfl (by rfl) rfl) rfl ?_
                  refine so_skip (wtd_not rfl rfl (by rfl) rfl) rfl ?_
                  refine so_skip (wtd_not rfl rfl (by rfl) rfl) rfl ?_
                  refine so_skip (wtd_not rfl rfl (by rfl) rfl) rfl ?_
                  refine so_pure (sv_pick_f (by rfl) rfl (by rfl)) (by rfl) rfl ?_
                  refine jo_nil ?_
                  refine jk_then ?_
                  refine sc_false (by rfl) rfl ?_
                  refine jc_skip ?_
                  refine jk_then ?_
                  refine jc_seq ?_
                  refine so_draw [] (by kernel_rfl) (by kernel_rfl) (by kernel_rfl) rfl (by rfl) (fun hap htm => ?_)
                  refine da_any hap htm (i := 0) (by rfl) (by kernel_rfl) (by rfl) (listed' := #[true, false, false, false, false, false, false, false, false, false, false, false, false, false, false, false, false, false, false, false, false, false, false, false, false, false, false, false, false, false, false]) (by rfl) (fun _ => (opv_move (by rfl))) (by rfl) rfl ?_
                  refine da_any hap htm (i := 1) (by rfl) (by kernel_rfl) (by rfl) (listed' := #[true, true, false, false, false, false, false, false, false, false, false, false, false, false, false, false, false, false, false, false, false, false, false, false, false, false, false, false, false, false, false]) (by rfl) (fun _ => (opv_move (by rfl))) (by rfl) rfl ?_
                  refine da_any hap htm (i := 2) (by rfl) (by kernel_rfl) (by rfl) (listed' := #[true, true, true, false, false, false, false, false, false, false, false, false, false, false, false, false, false, false, false, false, false, false, false, false, false, false, false, false, false, false, false]) (by rfl) (fun _ => (opv_indexAddr_sv (i := i) (by rfl) hsva (by rfl) Try.underlying25 ti35 (by rfl) (by omega))) (by rfl) rfl ?_
                  refine da_any hap htm (i := 3) (by rfl) (by kernel_rfl) (by rfl) (listed' := #[true, true, true, true, false, false, false, false, false, false, false, false, false, false, false, false, false, false, false, false, false, false, false, false, false, false, false, false, false, false, false]) (by rfl) (fun _ => (opv_fieldAddr (by rfl) fld35_3)) (by rfl) rfl ?_
                  refine da_now [6, 7, 8, 9, 10, 11, 12, 13, 14, 15, 16, 17, 18, 19, 20, 21, 22, 23, 24, 25, 26, 27, 28, 29, 30] hap htm (i := 4) (by rfl) (by kernel_rfl) (by rfl) (listed' := #[true, true, true, true, true, false, false, false, false, false, false, false, false, false, false, false, false, false, false, false, false, false, false, false, false, false, false, false, false, false, false]) (by rfl) (by kernel_rfl) (by kernel_rfl) (opv_load_fld (fo := 7) (xs := aa) Hop.cells_len (by rfl) na3 (by repeat (first | exact Pk.here _ | apply Pk.there)) ha (by rfl)) (by rfl) rfl ?_
                  refine da_any hap htm (i := 5) (by rfl) (by kernel_rfl) (by rfl) (listed' := #[true, true, true, true, true, true, false, false, false, false, false, false, false, false, false, false, false, false, false, false, false, false, false, false, false, false, false, false, false, false, false]) (by rfl) (fun _ => (opv_move (by rfl))) (by rfl) rfl ?_
                  refine da_any hap htm (i := 6) (by rfl) (by kernel_rfl) (by rfl) (listed' := #[true, true, true, true, true, true, true, false, false, false, false, false, false, false, false, false, false, false, false, false, false, false, false, false, false, false, false, false, false, false, false]) (by rfl) (fun _ => (opv_cmp (by rfl) (by rfl) (by rfl))) (by rfl) rfl ?_
                  refine da_any hap htm (i := 7) (by rfl) (by kernel_rfl) (by rfl) (listed' := #[true, true, true, true, true, true, true, true, false, false, false, false, false, false, false, false, false, false, false, false, false, false, false, false, false, false, false, false, false, false, false]) (by rfl) (fun _ => (opv_move (by rfl))) (by rfl) rfl ?_
                  refine sk_split (x := 93) (by rfl) (fun h126 => ?_) (fun h126 => ?_)
                  · first | have p126 := of_decide_eq_true h126 | have p126 := of_decide_eq_false h126 | have p126 := ndT h126 | have p126 := ndF h126 | have p126 := nbT h126 | have p126 := nbF h126 | have p126 := h126
                    refine da_skip hap htm (i := 8) (by rfl) (by kernel_rfl) (listed' := #[true, true, true, true, true, true, true, true, true, false, false, false, false, false, false, false, false, false, false, false, false, false, false, false, false, false, false, false, false, false, false]) (by rfl) (wtd_not rfl rfl (by rfl) h126) rfl ?_
                    refine da_skip hap htm (i := 9) (by rfl) (by kernel_rfl) (listed' := #[true, true, true, true, true, true, true, true, true, true, false, false, false, false, false, false, false, false, false, false, false, false, false, false, false, false, false, false, false, false, false]) (by rfl) (wtd_not rfl rfl (by rfl) h126) rfl ?_
                    refine da_skip hap htm (i := 10) (by rfl) (by kernel_rfl) (listed' := #[true, true, true, true, true, true, true, true, true, true, true, false, false, false, false, false, false, false, false, false, false, false, false, false, false, false, false, false, false, false, false]) (by rfl) (wtd_not rfl rfl (by rfl) h126) rfl ?_
                    refine da_skip hap htm (i := 11) (by rfl) (by kernel_rfl) (listed' := #[true, true, true, true, true, true, true, true, true, true, true, true, false, false, false, false, false, false, false, false, false, false, false, false, false, false, false, false, false, false, false]) (by rfl) (wtd_not rfl rfl (by rfl) h126) rfl ?_
                    refine da_skip hap htm (i := 12) (by rfl) (by kernel_rfl) (listed' := #[true, true, true, true, true, true, true, true, true, true, true, true, true, false, false, false, false, false, false, false, false, false, false, false, false, false, false, false, false, false, false]) (by rfl) (wtd_not rfl rfl (by rfl) h126) rfl ?_
                    refine da_skip hap htm (i := 13) (by rfl) (by kernel_rfl) (listed' := #[true, true, true, true, true, true, true, true, true, true, true, true, true, true, false, false, false, false, false, false, false, false, false, false, false, false, false, false, false, false, false]) (by rfl) (wtd_not rfl rfl (by rfl) h126) rfl ?_
                    refine da_skip hap htm (i := 14) (by rfl) (by kernel_rfl) (listed' := #[true, true, true, true, true, true, true, true, true, true, true, true, true, true, true, false, false, false, false, false, false, false, false, false, false, false, false, false, false, false, false]) (by rfl) (wtd_not rfl rfl (by rfl) h126) rfl ?_
                    refine da_any hap htm (i := 15) (by rfl) (by kernel_rfl) (by rfl) (listed' := #[true, true, true, true, true, true, true, true, true, true, true, true, true, true, true, true, false, false, false, false, false, false, false, false, false, false, false, false, false, false, false]) (by rfl) (fun _ => (sv_pick_t (by rfl) h126 (by rfl))) (by rfl) rfl ?_
                    refine da_any hap htm (i := 16) (by rfl) (by kernel_rfl) (by rfl) (listed' := #[true, true, true, true, true, true, true, true, true, true, true, true, true, true, true, true, true, false, false, false, false, false, false, false, false, false, false, false, false, false, false]) (by rfl) (fun _ => (opv_move (by rfl))) (by rfl) rfl ?_
                    refine da_any hap htm (i := 17) (by rfl) (by kernel_rfl) (by rfl) (listed' := #[true, true, true, true, true, true, true, true, true, true, true, true, true, true, true, true, true, true, false, false, false, false, false, false, false, false, false, false, false, false, false]) (by rfl) (fun _ => (opv_move (by rfl))) (wtd_run rfl rfl (by rfl) rfl) rfl ?_
                    refine da_any hap htm (i := 18) (by rfl) (by kernel_rfl) (by rfl) (listed' := #[true, true, true, true, true, true, true, true, true, true, true, true, true, true, true, true, true, true, true, false, false, false, false, false, false, false, false, false, false, false, false]) (by rfl) (fun _ => (opv_move (by rfl))) (wtd_run rfl rfl (by rfl) rfl) rfl ?_
                    refine da_any hap htm (i := 19) (by rfl) (by kernel_rfl) (by rfl) (listed' := #[true, true, true, true, true, true, true, true, true, true, true, true, true, true, true, true, true, true, true, true, false, false, false, false, false, false, false, false, false, false, false]) (by rfl) (fun _ => (opv_indexAddr_sv (i := i) (by rfl) hsva (by rfl) Try.underlying25 ti35 (by rfl) (by omega))) (wtd_run rfl rfl (by rfl) rfl) rfl ?_
                    refine da_any hap htm (i := 20) (by rfl) (by kernel_rfl) (by rfl) (listed' := #[true, true, true, true, true, true, true, true, true, true, true, true, true, true, true, true, true, true, true, true, true, false, false, false, false, false, false, false, false, false, false]) (by rfl) (fun _ => (opv_fieldAddr (by rfl) fld35_4)) (wtd_run rfl rfl (by rfl) rfl) rfl ?_
                    refine da_now [22, 29, 30] hap htm (i := 21) (by rfl) (by kernel_rfl) (by rfl) (listed' := #[true, true, true, true, true, true, true, true, true, true, true, true, true, true, true, true, true, true, true, true, true, true, false, false, false, false, false, false, false, false, false]) (by rfl) (by kernel_rfl) (by kernel_rfl) (opv_load_fld (fo := 8) (xs := aa) Hop.cells_len (by rfl) na3 (by repeat (first | exact Pk.here _ | apply Pk.there)) ha (by rfl)) (wtd_run rfl rfl (by rfl) rfl) rfl ?_
                    refine da_any hap htm (i := 22) (by rfl) (by kernel_rfl) (by rfl) (listed' := #[true, true, true, true, true, true, true, true, true, true, true, true, true, true, true, true, true, true, true, true, true, true, true, false, false, false, false, false, false, false, false]) (by rfl) (fun _ => (opv_cmp (by rfl) (by rfl) (by rfl))) (wtd_run rfl rfl (by rfl) rfl) rfl ?_
                    refine da_any hap htm (i := 23) (by rfl) (by kernel_rfl) (by rfl) (listed' := #[true, true, true, true, true, true, true, true, true, true, true, true, true, true, true, true, true, true, true, true, true, true, true, true, false, false, false, false, false, false, false]) (by rfl) (fun _ => (opv_move (by rfl))) (wtd_run rfl rfl (by rfl) rfl) rfl ?_
                    refine da_any hap htm (i := 24) (by rfl) (by kernel_rfl) (by rfl) (listed' := #[true, true, true, true, true, true, true, true, true, true, true, true, true, true, true, true, true, true, true, true, true, true, true, true, true, false, false, false, false, false, false]) (by rfl) (fun _ => (opv_move (by rfl))) (wtd_run rfl rfl (by rfl) rfl) rfl ?_
                    refine da_any hap htm (i := 25) (by rfl) (by kernel_rfl) (by rfl) (listed' := #[true, true, true, true, true, true, true, true, true, true, true, true, true, true, true, true, true, true, true, true, true, true, true, true, true, true, false, false, false, false, false]) (by rfl) (fun _ => (opv_indexAddr_sv (i := i) (by rfl) hsvb (by rfl) Try.underlying25 ti35 (by rfl) (by omega))) (wtd_run rfl rfl (by rfl) rfl) rfl ?_
                    refine da_any hap htm (i := 26) (by rfl) (by kernel_rfl) (by rfl) (listed' := #[true, true, true, true, true, true, true, true, true, true, true, true, true, true, true, true, true, true, true, true, true, true, true, true, true, true, true, false, false, false, false]) (by rfl) (fun _ => (opv_fieldAddr (by rfl) fld35_4)) (wtd_run rfl rfl (by rfl) rfl) rfl ?_
                    refine da_now [28, 29, 30] hap htm (i := 27) (by rfl) (by kernel_rfl) (by rfl) (listed' := #[true, true, true, true, true, true, true, true, true, true, true, true, true, true, true, true, true, true, true, true, true, true, true, true, true, true, true, true, false, false, false]) (by rfl) (by kernel_rfl) (by kernel_rfl) (opv_load_fld (fo := 8) (xs := bb) Hop.cells_len (by rfl) na3 (by repeat (first | exact Pk.here _ | apply Pk.there)) hb (by rfl)) (wtd_run rfl rfl (by rfl) rfl) rfl ?_
                    refine da_any hap htm (i := 28) (by rfl) (by kernel_rfl) (by rfl) (listed' := #[true, true, true, true, true, true, true, true, true, true, true, true, true, true, true, true, true, true, true, true, true, true, true, true, true, true, true, true, true, false, false]) (by rfl) (fun _ => (opv_cmp (by rfl) (by rfl) (by rfl))) (wtd_run rfl rfl (by rfl) rfl) rfl ?_
                    refine da_any hap htm (i := 29) (by rfl) (by kernel_rfl) (by rfl) (listed' := #[true, true, true, true, true, true, true, true, true, true, true, true, true, true, true, true, true, true, true, true, true, true, true, true, true, true, true, true, true, true, false]) (by rfl) (fun _ => (opv_bne (by rfl) (by rfl) Try.underlying4)) (wtd_run rfl rfl (by rfl) rfl) rfl ?_
                    refine da_any hap htm (i := 30) (by rfl) (by kernel_rfl) (by rfl) (listed' := #[true, true, true, true, true, true, true, true, true, true, true, true, true, true, true, true, true, true, true, true, true, true, true, true, true, true, true, true, true, true, true]) (by rfl) (fun _ => (sv_pick_t (by rfl) rfl (by rfl))) (by rfl) rfl ?_
                    refine da_done (by kernel_rfl) ?_
                    refine jk_then ?_
                    refine sk_split (x := 116) (by rfl) (fun h137 => ?_) (fun h137 => ?_)
                    · first | have p137 := of_decide_eq_true h137 | have p137 := of_decide_eq_false h137 | have p137 := ndT h137 | have p137 := ndF h137 | have p137 := nbT h137 | have p137 := nbF h137 | have p137 := h137
                      exact absurd (by first | (simp only [decide_eq_decide]; omega) | (simp only [decide_eq_false_iff_not]; omega)) p137
                    · first | have p137 := of_decide_eq_true h137 | have p137 := of_decide_eq_false h137 | have p137 := ndT h137 | have p137 := ndF h137 | have p137 := nbT h137 | have p137 := nbF h137 | have p137 := h137
                      refine sc_false (by rfl) h137 ?_
                      refine jc_skip ?_
                      refine jk_block ?_
                      refine jk_then ?_
                      refine sc_region ?_
                      refine so_pure (opv_move (by rfl)) (by rfl) rfl ?_
                      refine so_pure (opv_add (by rfl) (by rfl) (wrap64_ok (by omega))) (by rfl) rfl ?_
                      refine so_pure (opv_assign (by rfl)) (by rfl) rfl ?_
                      refine jo_nil ?_
                      refine jk_round (i + 1) (by omega) (by show aa.length - (i + 1) < aa.length - i; omega) ⟨rfl, rfl, rfl, rfl, trivial⟩ (fun w hw => ?_)
                      show St _ _ [own sva 35 9 aa.length (aa.flatMap Hop.cells), own svb 35 9 bb.length (bb.flatMap Hop.cells)] _
                      exact St.sel hw (by repeat (first | exact Pks.nil _ | exact Pk.here _ | apply Pk.there | apply Pks.cons))
                  · first | have p126 := of_decide_eq_true h126 | have p126 := of_decide_eq_false h126 | have p126 := ndT h126 | have p126 := ndF h126 | have p126 := nbT h126 | have p126 := nbF h126 | have p126 := h126
                    refine da_any hap htm (i := 8) (by rfl) (by kernel_rfl) (by rfl) (listed' := #[true, true, true, true, true, true, true, true, true, false, false, false, false, false, false, false, false, false, false, false, false, false, false, false, false, false, false, false, false, false, false]) (by rfl) (fun _ => (opv_move (by rfl))) (wtd_run rfl rfl (by rfl) h126) rfl ?_
                    refine da_any hap htm (i := 9) (by rfl) (by kernel_rfl) (by rfl) (listed' := #[true, true, true, true, true, true, true, true, true, true, false, false, false, false, false, false, false, false, false, false, false, false, false, false, false, false, false, false, false, false, false]) (by rfl) (fun _ => (opv_move (by rfl))) (wtd_run rfl rfl (by rfl) h126) rfl ?_
                    refine da_any hap htm (i := 10) (by rfl) (by kernel_rfl) (by rfl) (listed' := #[true, true, true, true, true, true, true, true, true, true, true, false, false, false, false, false, false, false, false, false, false, false, false, false, false, false, false, false, false, false, false]) (by rfl) (fun _ => (opv_indexAddr_sv (i := i) (by rfl) hsva (by rfl) Try.underlying25 ti35 (by rfl) (by omega))) (wtd_run rfl rfl (by rfl) h126) rfl ?_
                    refine da_any hap htm (i := 11) (by rfl) (by kernel_rfl) (by rfl) (listed' := #[true, true, true, true, true, true, true, true, true, true, true, true, false, false, false, false, false, false, false, false, false, false, false, false, false, false, false, false, false, false, false]) (by rfl) (fun _ => (opv_fieldAddr (by rfl) fld35_4)) (wtd_run rfl rfl (by rfl) h126) rfl ?_
                    refine da_now [14, 15, 16, 17, 18, 19, 20, 21, 22, 23, 24, 25, 26, 27, 28, 29, 30] hap htm (i := 12) (by rfl) (by kernel_rfl) (by rfl) (listed' := #[true, true, true, true, true, true, true, true, true, true, true, true, true, false, false, false, false, false, false, false, false, false, false, false, false, false, false, false, false, false, false]) (by rfl) (by kernel_rfl) (by kernel_rfl) (opv_load_fld (fo := 8) (xs := aa) Hop.cells_len (by rfl) na3 (by repeat (first | exact Pk.here _ | apply Pk.there)) ha (by rfl)) (wtd_run rfl rfl (by rfl) h126) rfl ?_
                    refine da_any hap htm (i := 13) (by rfl) (by kernel_rfl) (by rfl) (listed' := #[true, true, true, true, true, true, true, true, true, true, true, true, true, true, false, false, false, false, false, false, false, false, false, false, false, false, false, false, false, false, false]) (by rfl) (fun _ => (opv_move (by rfl))) (wtd_run rfl rfl (by rfl) h126) rfl ?_
                    refine da_any hap htm (i := 14) (by rfl) (by kernel_rfl) (by rfl) (listed' := #[true, true, true, true, true, true, true, true, true, true, true, true, true, true, true, false, false, false, false, false, false, false, false, false, false, false, false, false, false, false, false]) (by rfl) (fun _ => (opv_cmp (by rfl) (by rfl) (by rfl))) (wtd_run rfl rfl (by rfl) h126) rfl ?_
                    refine da_any hap htm (i := 15) (by rfl) (by kernel_rfl) (by rfl) (listed' := #[true, true, true, true, true, true, true, true, true, true, true, true, true, true, true, true, false, false, false, false, false, false, false, false, false, false, false, false, false, false, false]) (by rfl) (fun _ => (sv_pick_f (by rfl) h126 (by rfl))) (by rfl) rfl ?_
                    refine da_any hap htm (i := 16) (by rfl) (by kernel_rfl) (by rfl) (listed' := #[true, true, true, true, true, true, true, true, true, true, true, true, true, true, true, true, true, false, false, false, false, false, false, false, false, false, false, false, false, false, false]) (by rfl) (fun _ => (opv_move (by rfl))) (by rfl) rfl ?_
                    refine sk_split (x := 102) (by rfl) (fun h144 => ?_) (fun h144 => ?_)
                    · first | have p144 := of_decide_eq_true h144 | have p144 := of_decide_eq_false h144 | have p144 := ndT h144 | have p144 := ndF h144 | have p144 := nbT h144 | have p144 := nbF h144 | have p144 := h144
                      refine da_any hap htm (i := 17) (by rfl) (by kernel_rfl) (by rfl) (listed' := #[true, true, true, true, true, true, true, true, true, true, true, true, true, true, true, true, true, true, false, false, false, false, false, false, false, false, false, false, false, false, false]) (by rfl) (fun _ => (opv_move (by rfl))) (wtd_run rfl rfl (by rfl) h144) rfl ?_
                      refine da_any hap htm (i := 18) (by rfl) (by kernel_rfl) (by rfl) (listed' := #[true, true, true, true, true, true, true, true, true, true, true, true, true, true, true, true, true, true, true, false, false, false, false, false, false, false, false, false, false, false, false]) (by rfl) (fun _ => (opv_move (by rfl))) (wtd_run rfl rfl (by rfl) h144) rfl ?_
                      refine da_any hap htm (i := 19) (by rfl) (by kernel_rfl) (by rfl) (listed' := #[true, true, true, true, true, true, true, true, true, true, true, true, true, true, true, true, true, true, true, true, false, false, false, false, false, false, false, false, false, false, false]) (by rfl) (fun _ => (opv_indexAddr_sv (i := i) (by rfl) hsva (by rfl) Try.underlying25 ti35 (by rfl) (by omega))) (wtd_run rfl rfl (by rfl) h144) rfl ?_
                      refine da_any hap htm (i := 20) (by rfl) (by kernel_rfl) (by rfl) (listed' := #[true, true, true, true, true, true, true, true, true, true, true, true, true, true, true, true, true, true, true, true, true, false, false, false, false, false, false, false, false, false, false]) (by rfl) (fun _ => (opv_fieldAddr (by rfl) fld35_4)) (wtd_run rfl rfl (by rfl) h144) rfl ?_
                      refine da_now [22, 29, 30] hap htm (i := 21) (by rfl) (by kernel_rfl) (by rfl) (listed' := #[true, true, true, true, true, true, true, true, true, true, true, true, true, true, true, true, true, true, true, true, true, true, false, false, false, false, false, false, false, false, false]) (by rfl) (by kernel_rfl) (by kernel_rfl) (opv_load_fld (fo := 8) (xs := aa) Hop.cells_len (by rfl) na3 (by repeat (first | exact Pk.here _ | apply Pk.there)) ha (by rfl)) (wtd_run rfl rfl (by rfl) h144) rfl ?_
                      refine da_any hap htm (i := 22) (by rfl) (by kernel_rfl) (by rfl) (listed' := #[true, true, true, true, true, true, true, true, true, true, true, true, true, true, true, true, true, true, true, true, true, true, true, false, false, false, false, false, false, false, false]) (by rfl) (fun _ => (opv_cmp (by rfl) (by rfl) (by rfl))) (wtd_run rfl rfl (by rfl) h144) rfl ?_
                      refine da_any hap htm (i := 23) (by rfl) (by kernel_rfl) (by rfl) (listed' := #[true, true, true, true, true, true, true, true, true, true, true, true, true, true, true, true, true, true, true, true, true, true, true, true, false, false, false, false, false, false, false]) (by rfl) (fun _ => (opv_move (by rfl))) (wtd_run rfl rfl (by rfl) h144) rfl ?_
                      refine da_any hap htm (i := 24) (by rfl) (by kernel_rfl) (by rfl) (listed' := #[true, true, true, true, true, true, true, true, true, true, true, true, true, true, true, true, true, true, true, true, true, true, true, true, true, false, false, false, false, false, false]) (by rfl) (fun _ => (opv_move (by rfl))) (wtd_run rfl rfl (by rfl) h144) rfl ?_
                      refine da_any hap htm (i := 25) (by rfl) (by kernel_rfl) (by rfl) (listed' := #[true, true, true, true, true, true, true, true, true, true, true, true, true, true, true, true, true, true, true, true, true, true, true, true, true, true, false, false, false, false, false]) (by rfl) (fun _ => (opv_indexAddr_sv (i := i) (by rfl) hsvb (by rfl) Try.underlying25 ti35 (by rfl) (by omega))) (wtd_run rfl rfl (by rfl) h144) rfl ?_
                      refine da_any hap htm (i := 26) (by rfl) (by kernel_rfl) (by rfl) (listed' := #[true, true, true, true, true, true, true, true, true, true, true, true, true, true, true, true, true, true, true, true, true, true, true, true, true, true, true, false, false, false, false]) (by rfl) (fun _ => (opv_fieldAddr (by rfl) fld35_4)) (wtd_run rfl rfl (by rfl) h144) rfl ?_
                      refine da_now [28, 29, 30] hap htm (i := 27) (by rfl) (by kernel_rfl) (by rfl) (listed' := #[true, true, true, true, true, true, true, true, true, true, true, true, true, true, true, true, true, true, true, true, true, true, true, true, true, true, true, true, false, false, false]) (by rfl) (by kernel_rfl) (by kernel_rfl) (opv_load_fld (fo := 8) (xs := bb) Hop.cells_len (by rfl) na3 (by repeat (first | exact Pk.here _ | apply Pk.there)) hb (by rfl)) (wtd_run rfl rfl (by rfl) h144) rfl ?_
                      refine da_any hap htm (i := 28) (by rfl) (by kernel_rfl) (by rfl) (listed' := #[true, true, true, true, true, true, true, true, true, true, true, true, true, true, true, true, true, true, true, true, true, true, true, true, true, true, true, true, true, false, false]) (by rfl) (fun _ => (opv_cmp (by rfl) (by rfl) (by rfl))) (wtd_run rfl rfl (by rfl) h144) rfl ?_
                      refine da_any hap htm (i := 29) (by rfl) (by kernel_rfl) (by rfl) (listed' := #[true, true, true, true, true, true, true, true, true, true, true, true, true, true, true, true, true, true, true, true, true, true, true, true, true, true, true, true, true, true, false]) (by rfl) (fun _ => (opv_bne (by rfl) (by rfl) Try.underlying4)) (wtd_run rfl rfl (by rfl) h144) rfl ?_
                      refine da_any hap htm (i := 30) (by rfl) (by kernel_rfl) (by rfl) (listed' := #[true, true, true, true, true, true, true, true, true, true, true, true, true, true, true, true, true, true, true, true, true, true, true, true, true, true, true, true, true, true, true]) (by rfl) (fun _ => (sv_pick_t (by rfl) h144 (by rfl))) (by rfl) rfl ?_
                      refine da_done (by kernel_rfl) ?_
                      refine jk_then ?_
                      refine sk_split (x := 116) (by rfl) (fun h155 => ?_) (fun h155 => ?_)
                      · first | have p155 := of_decide_eq_true h155 | have p155 := of_decide_eq_false h155 | have p155 := ndT h155 | have p155 := ndF h155 | have p155 := nbT h155 | have p155 := nbF h155 | have p155 := h155
                        exact absurd (by first | (simp only [decide_eq_decide]; omega) | (simp only [decide_eq_false_iff_not]; omega)) p155
                      · first | have p155 := of_decide_eq_true h155 | have p155 := of_decide_eq_false h155 | have p155 := ndT h155 | have p155 := ndF h155 | have p155 := nbT h155 | have p155 := nbF h155 | have p155 := h155
                        refine sc_false (by rfl) h155 ?_
                        refine jc_skip ?_
                        refine jk_block ?_
                        refine jk_then ?_
                        refine sc_region ?_
                        refine so_pure (opv_move (by rfl)) (by rfl) rfl ?_
                        refine so_pure (opv_add (by rfl) (by rfl) (wrap64_ok (by omega))) (by rfl) rfl ?_
                        refine so_pure (opv_assign (by rfl)) (by rfl) rfl ?_
                        refine jo_nil ?_
                        refine jk_round (i + 1) (by omega) (by show aa.length - (i + 1) < aa.length - i; omega) ⟨rfl, rfl, rfl, rfl, trivial⟩ (fun w hw => ?_)
                        show St _ _ [own sva 35 9 aa.length (aa.flatMap Hop.cells), own svb 35 9 bb.length (bb.flatMap Hop.cells)] _
                        exact St.sel hw (by repeat (first | exact Pks.nil _ | exact Pk.here _ | apply Pk.there | apply Pks.cons))
                    · first | have p144 := of_decide_eq_true h144 | have p144 := of_decide_eq_false h144 | have p144 := ndT h144 | have p144 := ndF h144 | have p144 := nbT h144 | have p144 := nbF h144 | have p144 := h144
                      refine da_skip hap htm (i := 17) (by rfl) (by kernel_rfl) (listed' := #[true, true, true, true, true, true, true, true, true, true, true, true, true, true, true, true, true, true, false, false, false, false, false, false, false, false, false, false, false, false, false]) (by rfl) (wtd_not rfl rfl (by rfl) h144) rfl ?_
                      refine da_skip hap htm (i := 18) (by rfl) (by kernel_rfl) (listed' := #[true, true, true, true, true, true, true, true, true, true, true, true, true, true, true, true, true, true, true, false, false, false, false, false, false, false, false, false, false, false, false]) (by rfl) (wtd_not rfl rfl (by rfl) h144) rfl ?_
                      refine da_skip hap htm (i := 19) (by rfl) (by kernel_rfl) (listed' := #[true, true, true, true, true, true, true, true, true, true, true, true, true, true, true, true, true, true, true, true, false, false, false, false, false, false, false, false, false, false, false]) (by rfl) (wtd_not rfl rfl (by rfl) h144) rfl ?_
                      refine da_skip hap htm (i := 20) (by rfl) (by kernel_rfl) (listed' := #[true, true, true, true, true, true, true, true, true, true, true, true, true, true, true, true, true, true, true, true, true, false, false, false, false, false, false, false, false, false, false]) (by rfl) (wtd_not rfl rfl (by rfl) h144) rfl ?_
                      refine da_skip hap htm (i := 21) (by rfl) (by kernel_rfl) (listed' := #[true, true, true, true, true, true, true, true, true, true, true, true, true, true, true, true, true, true, true, true, true, true, false, false, false, false, false, false, false, false, false]) (by rfl) (wtd_not rfl rfl (by rfl) h144) rfl ?_
                      refine da_skip hap htm (i := 22) (by rfl) (by kernel_rfl) (listed' := #[true, true, true, true, true, true, true, true, true, true, true, true, true, true, true, true, true, true, true, true, true, true, true, false, false, false, false, false, false, false, false]) (by rfl) (wtd_not rfl rfl (by rfl) h144) rfl ?_
                      refine da_skip hap htm (i := 23) (by rfl) (by kernel_rfl) (listed' := #[true, true, true, true, true, true, true, true, true, true, true, true, true, true, true, true, true, true, true, true, true, true, true, true, false, false, false, false, false, false, false]) (by rfl) (wtd_not rfl rfl (by rfl) h144) rfl ?_
                      refine da_skip hap htm (i := 24) (by rfl) (by kernel_rfl) (listed' := #[true, true, true, true, true, true, true, true, true, true, true, true, true, true, true, true, true, true, true, true, true, true, true, true, true, false, false, false, false, false, false]) (by rfl) (wtd_not rfl rfl (by rfl) h144) rfl ?_
                      refine da_skip hap htm (i := 25) (by rfl) (by kernel_rfl) (listed' := #[true, true, true, true, true, true, true, true, true, true, true, true, true, true, true, true, true, true, true, true, true, true, true, true, true, true, false, false, false, false, false]) (by rfl) (wtd_not rfl rfl (by rfl) h144) rfl ?_
                      refine da_skip hap htm (i := 26) (by rfl) (by kernel_rfl) (listed' := #[true, true, true, true, true, true, true, true, true, true, true, true, true, true, true, true, true, true, true, true, true, true, true, true, true, true, true, false, false, false, false]) (by rfl) (wtd_not rfl rfl (by rfl) h144) rfl ?_
                      refine da_skip hap htm (i := 27) (by rfl) (by kernel_rfl) (listed' := #[true, true, true, true, true, true, true, true, true, true, true, true, true, true, true, true, true, true, true, true, true, true, true, true, true, true, true, true, false, false, false]) (by rfl) (wtd_not rfl rfl (by rfl) h144) rfl ?_
                      refine da_skip hap htm (i := 28) (by rfl) (by kernel_rfl) (listed' := #[true, true, true, true, true, true, true, true, true, true, true, true, true, true, true, true, true, true, true, true, true, true, true, true, true, true, true, true, true, false, false]) (by rfl) (wtd_not rfl rfl (by rfl) h144) rfl ?_
                      refine da_skip hap htm (i := 29) (by rfl) (by kernel_rfl) (listed' := #[true, true, true, true, true, true, true, true, true, true, true, true, true, true, true, true, true, true, true, true, true, true, true, true, true, true, true, true, true, true, false]) (by rfl) (wtd_not rfl rfl (by rfl) h144) rfl ?_
                      refine da_any hap htm (i := 30) (by rfl) (by kernel_rfl) (by rfl) (listed' := #[true, true, true, true, true, true, true, true, true, true, true, true, true, true, true, true, true, true, true, true, true, true, true, true, true, true, true, true, true, true, true]) (by rfl) (fun _ => (sv_pick_f (by rfl) h144 (by rfl))) (by rfl) rfl ?_
                      refine da_done (by kernel_rfl) ?_
                      refine jk_then ?_
                      refine sc_false (by rfl) rfl ?_
                      refine jc_skip ?_
                      refine jk_block ?_
                      refine jk_then ?_
                      refine sc_region ?_
                      refine so_pure (opv_move (by rfl)) (by rfl) rfl ?_
                      refine so_pure (opv_add (by rfl) (by rfl) (wrap64_ok (by omega))) (by rfl) rfl ?_
                      refine so_pure (opv_assign (by rfl)) (by rfl) rfl ?_
                      refine jo_nil ?_
                      refine jk_round (i + 1) (by omega) (by show aa.length - (i + 1) < aa.length - i; omega) ⟨rfl, rfl, rfl, rfl, trivial⟩ (fun w hw => ?_)
                      show St _ _ [own sva 35 9 aa.length (aa.flatMap Hop.cells), own svb 35 9 bb.length (bb.flatMap Hop.cells)] _
                      exact St.sel hw (by repeat (first | exact Pks.nil _ | exact Pk.here _ | apply Pk.there | apply Pks.cons))
            · first | have p21 := of_decide_eq_true h21 | have p21 := of_decide_eq_false h21 | have p21 := ndT h21 | have p21 := ndF h21 | have p21 := nbT h21 | have p21 := nbF h21 | have p21 := h21
              refine sc_false (by rfl) h21 ?_
              refine jc_exit ?_
              refine jk_then_exit ?_
              refine jk_then_exit ?_
              refine jk_block_exit ?_
              refine jk_then ?_
              refine jc_seq ?_
              refine sc_region ?_
              refine so_eff (eff_call0 (G := fun v New => v = .bool true ∧ New = []) (by rfl) (by rfl) tx8 (by exact fun w1 hw1 => (live_spec w1).mono (fun v _ ⟨hv, hst⟩ => ⟨[], ⟨hv, rfl⟩, hst⟩))) (by rfl) rfl ?_
              rintro _ _ ⟨_, ⟨rfl, rfl⟩, rfl⟩
              refine so_pure (opv_assign (by rfl)) (by rfl) rfl ?_
              refine jo_nil ?_
              refine jk_then ?_
              refine jc_ret ?_
              refine jk_fn_ret rfl rfl (by rfl) (fun w hw => ?_)
              exact ⟨rfl, hw.forget⟩
end Go.Hist
