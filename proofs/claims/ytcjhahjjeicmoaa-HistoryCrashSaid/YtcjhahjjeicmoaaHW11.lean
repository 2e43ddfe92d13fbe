/- A part of a proof for the laws of the seat Ytcjhahjjeicmoaa; it has no conditions of its own. -/
import Derived.Test.YtcjhahjjeicmoaaHW10
namespace Go.Hist
open Go Go.SL Go.Proofs
set_option maxHeartbeats 4000000 in
theorem law_begins (w : World) (A : Option Addr) (n cap : Nat) (xs : List Ev) (hs : SlR w 39 8 Ev.cells A n xs) (hn : n ≤ 9223372036854775807) (hcap : n ≤ cap) (nv : Int) : Does Try.prog 6 #[.slice A n cap, .int .i64 nv] w (fun v w' => v = .bool true ∧ St w Emp [] w') := by
  refine fn_body (fn := Try.f6) Try.func6 rfl [(0, .slice A n cap), (1, .int .i64 nv)] (by exact ⟨rfl, rfl, trivial⟩) rfl (St.start w) ?_
  refine jc_seq ?_
  refine sc_region ?_
  refine so_pure (opv_assign (by rfl)) (by rfl) rfl ?_
  refine jo_nil ?_
  refine jk_then ?_
  refine jc_seq ?_
  refine jc_seq ?_
  refine sc_region ?_
  refine so_pure (opv_move (by rfl)) (by rfl) rfl ?_
  refine so_eff (eff_call0 (G := fun v New => v = .bool (small xs 40) ∧ New = []) (by rfl) (by rfl) tx7 (by exact fun w1 hw1 => (small17_spec w1 A n cap xs (hs.keepSt hw1) hn 40).mono (fun v _ ⟨hv, hst⟩ => ⟨[], ⟨hv, rfl⟩, hst⟩))) (by rfl) rfl ?_
  rintro _ _ ⟨_, ⟨rfl, rfl⟩, rfl⟩
  refine so_pure (opv_not (by rfl)) (by rfl) rfl ?_
  refine so_pure (opv_move (by rfl)) (by rfl) rfl ?_
  refine sk_split (x := 11) (by rfl) (fun h3 => ?_) (fun h3 => ?_)
  · first | have p3 := of_decide_eq_true h3 | have p3 := of_decide_eq_false h3 | have p3 := ndT h3 | have p3 := ndF h3 | have p3 := nbT h3 | have p3 := nbF h3 | have p3 := h3
    refine so_skip (wtd_not rfl rfl (by rfl) (not_t (by simpa using h3))) rfl ?_
    refine so_skip (wtd_not rfl rfl (by rfl) (not_t (by simpa using h3))) rfl ?_
    refine so_skip (wtd_not rfl rfl (by rfl) (not_t (by simpa using h3))) rfl ?_
    refine so_pure (sv_pick_t (by rfl) (not_t (by simpa using h3)) (by rfl)) (by rfl) rfl ?_
    refine so_pure (opv_move (by rfl)) (by rfl) rfl ?_
    refine so_skip (wtd_not rfl rfl (by rfl) rfl) rfl ?_
    refine so_skip (wtd_not rfl rfl (by rfl) rfl) rfl ?_
    refine so_pure (sv_pick_t (by rfl) rfl (by rfl)) (by rfl) rfl ?_
    refine so_pure (opv_move (by rfl)) (by rfl) rfl ?_
    refine so_skip (wtd_not rfl rfl (by rfl) rfl) rfl ?_
    refine so_skip (wtd_not rfl rfl (by rfl) rfl) rfl ?_
    refine so_skip (wtd_not rfl rfl (by rfl) rfl) rfl ?_
    refine so_skip (wtd_not rfl rfl (by rfl) rfl) rfl ?_
    refine so_pure (sv_pick_t (by rfl) rfl (by rfl)) (by rfl) rfl ?_
    refine jo_nil ?_
    refine jk_then ?_
    refine sc_true (by rfl) rfl ?_
    refine jc_seq ?_
    refine sc_region ?_
    refine so_eff (eff_call0 (G := fun v New => v = .bool true ∧ New = []) (by rfl) (by rfl) tx8 (by exact fun w1 hw1 => (live_spec w1).mono (fun v _ ⟨hv, hst⟩ => ⟨[], ⟨hv, rfl⟩, hst⟩))) (by rfl) rfl ?_
    rintro _ _ ⟨_, ⟨rfl, rfl⟩, rfl⟩
    refine so_pure (opv_assign (by rfl)) (by rfl) rfl ?_
    refine jo_nil ?_
    refine jk_then ?_
    refine jc_ret ?_
    refine jk_then_ret ?_
    refine jk_fn_ret rfl rfl (by rfl) (fun w hw => ?_)
    exact ⟨rfl, hw.forget⟩
  · first | have p3 := of_decide_eq_true h3 | have p3 := of_decide_eq_false h3 | have p3 := ndT h3 | have p3 := ndF h3 | have p3 := nbT h3 | have p3 := nbF h3 | have p3 := h3
    refine so_pure (opv_move (by rfl)) (wtd_run rfl rfl (by rfl) (not_f (by simpa using h3))) rfl ?_
    have hsm := small_len (xs := xs) (m := 40) (by simpa using p3)
    have hnx := hs.1
    refine so_eff (eff_call0 (G := fun v New => v = .bool (gather xs).isSome ∧ New = []) (by rfl) (by rfl) tx11 (by exact fun w1 hw1 => (may_spec w1 A n cap xs (hs.keepSt hw1) (by omega)).mono (fun v _ ⟨hv, hst⟩ => ⟨[], ⟨hv, rfl⟩, hst⟩))) (wtd_run rfl rfl (by rfl) (not_f (by simpa using h3))) rfl ?_
    rintro _ _ ⟨_, ⟨rfl, rfl⟩, rfl⟩
    refine so_pure (opv_not (by rfl)) (wtd_run rfl rfl (by rfl) (not_f (by simpa using h3))) rfl ?_
    refine so_pure (sv_pick_f (by rfl) (not_f (by simpa using h3)) (by rfl)) (by rfl) rfl ?_
    refine so_pure (opv_move (by rfl)) (by rfl) rfl ?_
    refine sk_split (x := 16) (by rfl) (fun h5 => ?_) (fun h5 => ?_)
    · first | have p5 := of_decide_eq_true h5 | have p5 := of_decide_eq_false h5 | have p5 := ndT h5 | have p5 := ndF h5 | have p5 := nbT h5 | have p5 := nbF h5 | have p5 := h5
      refine so_skip (wtd_not rfl rfl (by rfl) (not_t (by simpa using h5))) rfl ?_
      refine so_skip (wtd_not rfl rfl (by rfl) (not_t (by simpa using h5))) rfl ?_
      refine so_pure (sv_pick_t (by rfl) (not_t (by simpa using h5)) (by rfl)) (by rfl) rfl ?_
      refine so_pure (opv_move (by rfl)) (by rfl) rfl ?_
      refine so_skip (wtd_not rfl rfl (by rfl) rfl) rfl ?_
      refine so_skip (wtd_not rfl rfl (by rfl) rfl) rfl ?_
      refine so_skip (wtd_not rfl rfl (by rfl) rfl) rfl ?_
      refine so_skip (wtd_not rfl rfl (by rfl) rfl) rfl ?_
      refine so_pure (sv_pick_t (by rfl) rfl (by rfl)) (by rfl) rfl ?_
      refine jo_nil ?_
      refine jk_then ?_
      refine sc_true (by rfl) rfl ?_
      refine jc_seq ?_
      refine sc_region ?_
      refine so_eff (eff_call0 (G := fun v New => v = .bool true ∧ New = []) (by rfl) (by rfl) tx8 (by exact fun w1 hw1 => (live_spec w1).mono (fun v _ ⟨hv, hst⟩ => ⟨[], ⟨hv, rfl⟩, hst⟩))) (by rfl) rfl ?_
      rintro _ _ ⟨_, ⟨rfl, rfl⟩, rfl⟩
      refine so_pure (opv_assign (by rfl)) (by rfl) rfl ?_
      refine jo_nil ?_
      refine jk_then ?_
      refine jc_ret ?_
      refine jk_then_ret ?_
      refine jk_fn_ret rfl rfl (by rfl) (fun w hw => ?_)
      exact ⟨rfl, hw.forget⟩
    · first | have p5 := of_decide_eq_true h5 | have p5 := of_decide_eq_false h5 | have p5 := ndT h5 | have p5 := ndF h5 | have p5 := nbT h5 | have p5 := nbF h5 | have p5 := h5
      refine so_pure (opv_move (by rfl)) (wtd_run rfl rfl (by rfl) (not_f (by simpa using h5))) rfl ?_
      refine so_pure (opv_cmp (by rfl) (by rfl) (by rfl)) (wtd_run rfl rfl (by rfl) (not_f (by simpa using h5))) rfl ?_
      refine so_pure (sv_pick_f (by rfl) (not_f (by simpa using h5)) (by rfl)) (by rfl) rfl ?_
      refine so_pure (opv_move (by rfl)) (by rfl) rfl ?_
      refine sk_split (x := 20) (by rfl) (fun h7 => ?_) (fun h7 => ?_)
      · first | have p7 := of_decide_eq_true h7 | have p7 := of_decide_eq_false h7 | have p7 := ndT h7 | have p7 := ndF h7 | have p7 := nbT h7 | have p7 := nbF h7 | have p7 := h7
        refine so_skip (wtd_not rfl rfl (by rfl) h7) rfl ?_
        refine so_skip (wtd_not rfl rfl (by rfl) h7) rfl ?_
        refine so_skip (wtd_not rfl rfl (by rfl) h7) rfl ?_
        refine so_skip (wtd_not rfl rfl (by rfl) h7) rfl ?_
        refine so_pure (sv_pick_t (by rfl) h7 (by rfl)) (by rfl) rfl ?_
        refine jo_nil ?_
        refine jk_then ?_
        refine sc_true (by rfl) rfl ?_
        refine jc_seq ?_
        refine sc_region ?_
        refine so_eff (eff_call0 (G := fun v New => v = .bool true ∧ New = []) (by rfl) (by rfl) tx8 (by exact fun w1 hw1 => (live_spec w1).mono (fun v _ ⟨hv, hst⟩ => ⟨[], ⟨hv, rfl⟩, hst⟩))) (by rfl) rfl ?_
        rintro _ _ ⟨_, ⟨rfl, rfl⟩, rfl⟩
        refine so_pure (opv_assign (by rfl)) (by rfl) rfl ?_
        refine jo_nil ?_
        refine jk_then ?_
        refine jc_ret ?_
        refine jk_then_ret ?_
        refine jk_fn_ret rfl rfl (by rfl) (fun w hw => ?_)
        exact ⟨rfl, hw.forget⟩
      · first | have p7 := of_decide_eq_true h7 | have p7 := of_decide_eq_false h7 | have p7 := ndT h7 | have p7 := ndF h7 | have p7 := nbT h7 | have p7 := nbF h7 | have p7 := h7
        refine so_pure (opv_move (by rfl)) (wtd_run rfl rfl (by rfl) h7) rfl ?_
        refine so_pure (opv_move (by rfl)) (wtd_run rfl rfl (by rfl) h7) rfl ?_
        refine so_pure (opv_len_slice (by rfl) Try.underlying22) (wtd_run rfl rfl (by rfl) h7) rfl ?_
        refine so_pure (opv_cmp (by rfl) (by rfl) (by rfl)) (wtd_run rfl rfl (by rfl) h7) rfl ?_
        refine so_pure (sv_pick_f (by rfl) h7 (by rfl)) (by rfl) rfl ?_
        refine jo_nil ?_
        refine jk_then ?_
        refine sk_split (x := 25) (by rfl) (fun h10 => ?_) (fun h10 => ?_)
        · first | have p10 := of_decide_eq_true h10 | have p10 := of_decide_eq_false h10 | have p10 := ndT h10 | have p10 := ndF h10 | have p10 := nbT h10 | have p10 := nbF h10 | have p10 := h10
          refine sc_true (by rfl) h10 ?_
          refine jc_seq ?_
          refine sc_region ?_
          refine so_eff (eff_call0 (G := fun v New => v = .bool true ∧ New = []) (by rfl) (by rfl) tx8 (by exact fun w1 hw1 => (live_spec w1).mono (fun v _ ⟨hv, hst⟩ => ⟨[], ⟨hv, rfl⟩, hst⟩))) (by rfl) rfl ?_
          rintro _ _ ⟨_, ⟨rfl, rfl⟩, rfl⟩
          refine so_pure (opv_assign (by rfl)) (by rfl) rfl ?_
          refine jo_nil ?_
          refine jk_then ?_
          refine jc_ret ?_
          refine jk_then_ret ?_
          refine jk_fn_ret rfl rfl (by rfl) (fun w hw => ?_)
          exact ⟨rfl, hw.forget⟩
        · first | have p10 := of_decide_eq_true h10 | have p10 := of_decide_eq_false h10 | have p10 := ndT h10 | have p10 := ndF h10 | have p10 := nbT h10 | have p10 := nbF h10 | have p10 := h10
          refine sc_false (by rfl) h10 ?_
          refine jc_skip ?_
          refine jk_then ?_
          refine jc_seq ?_
          have hgs : (gather xs).isSome = true := by simpa using p5
          obtain ⟨m, rfl⟩ : ∃ m : Nat, nv = m := ⟨nv.toNat, by omega⟩
          have hm : m ≤ n := by omega
          have hsT := hs.take (cap := cap) hm
          obtain ⟨hgT, hlen, hB⟩ := begins (m := m) (by omega) hgs
          refine sc_region ?_
          refine so_pure (opv_move (by rfl)) (by rfl) rfl ?_
          refine so_pure (opv_move (by rfl)) (by rfl) rfl ?_
          refine so_pure (opv_slice (l := 0) (h := m) (by rfl) Try.underlying22 ti39 (by rfl) (by rfl) (by rfl) (by rfl) (by omega) (by omega)) (by rfl) rfl ?_
          refine so_eff (eff_call0 (G := fun v New => New = [own v 35 9 (opsOf (xs.take m)).length ((opsOf (xs.take m)).flatMap Hop.cells)]) (by rfl) (by rfl) tx9 (by exact fun w1 hw1 => (ops_spec w1 _ _ _ (xs.take m) (hsT.keepSt hw1) (by omega)).mono (fun v _ hst => ⟨_, rfl, hst⟩))) (by rfl) rfl ?_
          rintro sva _ ⟨_, rfl, rfl⟩
          refine so_pure (opv_assign (by rfl)) (by rfl) rfl ?_
          refine jo_nil ?_
          refine jk_then ?_
          refine jc_seq ?_
          refine sc_region ?_
          refine so_pure (opv_move (by rfl)) (by rfl) rfl ?_
          refine so_eff (eff_call0 (G := fun v New => New = [own v 35 9 (opsOf xs).length ((opsOf xs).flatMap Hop.cells)]) (by rfl) (by rfl) tx9 (by exact fun w1 hw1 => (ops_spec w1 A n cap xs (hs.keepSt hw1) (by omega)).mono (fun v _ hst => ⟨_, rfl, hst⟩))) (by rfl) rfl ?_
          rintro svb _ ⟨_, rfl, rfl⟩
          refine so_pure (opv_assign (by rfl)) (by rfl) rfl ?_
          refine jo_nil ?_
          refine jk_then ?_
          refine jc_seq ?_
          refine jc_seq ?_
          refine jk_sv (v := sva) (by repeat (first | exact Pk.here _ | apply Pk.there)) (fun hsva => ?_)
          refine jk_sv (v := svb) (by repeat (first | exact Pk.here _ | apply Pk.there)) (fun hsvb => ?_)
          have hol := opsOf_len xs
          generalize opsOf (xs.take m) = aa at hsva hlen hB ⊢
          generalize opsOf xs = bb at hsvb hol hlen hB ⊢
          refine sc_region ?_
          refine so_pure (opv_move (by rfl)) (by rfl) rfl ?_
          refine so_pure (opv_move (by rfl)) (by rfl) rfl ?_
          refine so_pure (opv_slice (l := 0) (h := m) (by rfl) Try.underlying22 ti39 (by rfl) (by rfl) (by rfl) (by rfl) (by omega) (by omega)) (by rfl) rfl ?_
          refine so_eff (eff_call0 (G := fun v New => v = .bool true ∧ New = []) (by rfl) (by rfl) tx11 (by exact fun w1 hw1 => (may_spec w1 _ _ _ (xs.take m) (hsT.keepSt hw1) (by omega)).mono (fun v _ ⟨hv, hst⟩ => ⟨[], ⟨by rw [hgT] at hv; exact hv, rfl⟩, hst⟩))) (by rfl) rfl ?_
          rintro _ _ ⟨_, ⟨rfl, rfl⟩, rfl⟩
          refine so_pure (opv_not (by rfl)) (by rfl) rfl ?_
          refine so_pure (opv_move (by rfl)) (by rfl) rfl ?_
          refine so_pure (opv_move (by rfl)) (wtd_run rfl rfl (by rfl) rfl) rfl ?_
          refine so_pure (opv_len_sv (by rfl) hsva Try.underlying25) (wtd_run rfl rfl (by rfl) rfl) rfl ?_
          refine so_pure (opv_move (by rfl)) (wtd_run rfl rfl (by rfl) rfl) rfl ?_
          refine so_pure (opv_len_sv (by rfl) hsvb Try.underlying25) (wtd_run rfl rfl (by rfl) rfl) rfl ?_
          refine so_pure (opv_cmp (by rfl) (by rfl) (by rfl)) (wtd_run rfl rfl (by rfl) rfl) rfl ?_
          refine so_pure (sv_pick_f (by rfl) rfl (by rfl)) (by rfl) rfl ?_
          refine jo_nil ?_
          refine jk_then ?_
          refine sk_split (x := 44) (by rfl) (fun h18 => ?_) (fun h18 => ?_)
          · first | have p18 := of_decide_eq_true h18 | have p18 := of_decide_eq_false h18 | have p18 := ndT h18 | have p18 := ndF h18 | have p18 := nbT h18 | have p18 := nbF h18 | have p18 := h18
            exfalso; omega
          · first | have p18 := of_decide_eq_true h18 | have p18 := of_decide_eq_false h18 | have p18 := ndT h18 | have p18 := ndF h18 | have p18 := nbT h18 | have p18 := nbF h18 | have p18 := h18
            refine sc_false (by rfl) h18 ?_
            refine jc_skip ?_
            refine jk_then ?_
            refine jc_seq ?_
            refine jc_seq ?_
            refine sc_region ?_
            refine so_pure (opv_assign (by rfl)) (by rfl) rfl ?_
            refine jo_nil ?_
            refine jk_then ?_
            refine jc_block ?_
            refine jc_loop (σ := Nat) (fun i => [(1, .int .i64 m), (5, sva), (6, svb), (7, .int .i64 i)]) (fun i => [own sva 35 9 aa.length (aa.flatMap Hop.cells), own svb 35 9 bb.length (bb.flatMap Hop.cells)]) (fun i => (i ≤ bb.length)) (fun i => bb.length - i) 0 (Nat.zero_le _) ⟨rfl, rfl, rfl, rfl, trivial⟩ (fun w hw => St.sel hw (by repeat (first | exact Pks.nil _ | exact Pk.here _ | apply Pk.there | apply Pks.cons))) ?_
            rintro i hi
            show Jc _ _ [(1, .int .i64 m), (5, sva), (6, svb), (7, .int .i64 i)] [own sva 35 9 aa.length (aa.flatMap Hop.cells), own svb 35 9 bb.length (bb.flatMap Hop.cells)] _
            refine jc_seq ?_
            refine jc_seq ?_
            refine sc_region ?_
            refine so_pure (opv_move (by rfl)) (by rfl) rfl ?_
            refine so_pure (opv_move (by rfl)) (by rfl) rfl ?_
            refine so_pure (opv_len_sv (by rfl) hsvb Try.underlying25) (by rfl) rfl ?_
            refine so_pure (opv_cmp (by rfl) (by rfl) (by rfl)) (by rfl) rfl ?_
            refine jo_nil ?_
            refine jk_then ?_
            refine sk_split (x := 48) (by rfl) (fun h22 => ?_) (fun h22 => ?_)
            · first | have p22 := of_decide_eq_true h22 | have p22 := of_decide_eq_false h22 | have p22 := ndT h22 | have p22 := ndF h22 | have p22 := nbT h22 | have p22 := nbF h22 | have p22 := h22
              refine sc_true (by rfl) h22 ?_
              refine jc_skip ?_
              refine jk_then ?_
              refine jc_seq ?_
              refine jc_block ?_
              refine jc_seq ?_
              refine jc_seq ?_
              have hlt : i < bb.length := by omega
              obtain ⟨b, hb⟩ : ∃ x, bb[i]? = some x := ⟨bb[i], List.getElem?_eq_getElem hlt⟩
              obtain ⟨h1, hiff⟩ := hB i b hb
              refine sc_region ?_
              refine so_pure (opv_move (by rfl)) (by rfl) rfl ?_
              refine so_pure (opv_move (by rfl)) (by rfl) rfl ?_
              refine so_pure (opv_indexAddr_sv (i := i) (by rfl) hsvb (by rfl) Try.underlying25 ti35 (by rfl) (by omega)) (by rfl) rfl ?_
              refine so_pure (opv_fieldAddr (by rfl) fld35_3) (by rfl) rfl ?_
              refine so_pure (opv_load_fld (fo := 7) (xs := bb) Hop.cells_len (by rfl) na3 (by repeat (first | exact Pk.here _ | apply Pk.there)) hb (by rfl)) (by rfl) rfl ?_
              refine so_pure (opv_move (by rfl)) (by rfl) rfl ?_
              refine so_pure (opv_cmp (by rfl) (by rfl) (by rfl)) (by rfl) rfl ?_
              refine so_pure (opv_move (by rfl)) (by rfl) rfl ?_
              refine so_pure (opv_move (by rfl)) (by rfl) rfl ?_
              refine so_pure (opv_len_sv (by rfl) hsva Try.underlying25) (by rfl) rfl ?_
              refine so_pure (opv_cmp (by rfl) (by rfl) (by rfl)) (by rfl) rfl ?_
              refine so_pure (opv_bne (by rfl) (by rfl) Try.underlying4) (by rfl) rfl ?_
              refine jo_nil ?_
              refine jk_then ?_
              refine sk_split (x := 62) (by rfl) (fun h31 => ?_) (fun h31 => ?_)
              · first | have p31 := of_decide_eq_true h31 | have p31 := of_decide_eq_false h31 | have p31 := ndT h31 | have p31 := ndF h31 | have p31 := nbT h31 | have p31 := nbF h31 | have p31 := h31
                exact absurd (by first | (simp only [decide_eq_decide]; omega) | (simp only [decide_eq_false_iff_not]; omega)) p31
              · first | have p31 := of_decide_eq_true h31 | have p31 := of_decide_eq_false h31 | have p31 := ndT h31 | have p31 := ndF h31 | have p31 := nbT h31 | have p31 := nbF h31 | have p31 := h31
                refine sc_false (by rfl) h31 ?_
                refine jc_skip ?_
                refine jk_then ?_
                refine jc_seq ?_
                refine so_draw [] (by kernel_rfl) (by kernel_rfl) (by kernel_rfl) rfl (by rfl) (fun hap htm => ?_)
                refine da_any hap htm (i := 0) (by rfl) (by kernel_rfl) (by rfl) (listed' := #[true, false, false, false, false, false, false, false, false, false, false, false, false, false, false, false, false, false, false, false, false, false, false, false, false, false, false, false, false, false, false, false, false, false, false, false, false, false, false, false, false, false, false, false, false, false, false, false, false, false, false, false, false, false]) (by rfl) (fun _ => (opv_move (by rfl))) (by rfl) rfl ?_
                refine da_any hap htm (i := 1) (by rfl) (by kernel_rfl) (by rfl) (listed' := #[true, true, false, false, false, false, false, false, false, false, false, false, false, false, false, false, false, false, false, false, false, false, false, false, false, false, false, false, false, false, false, false, false, false, false, false, false, false, false, false, false, false, false, false, false, false, false, false, false, false, false, false, false, false]) (by rfl) (fun _ => (opv_move (by rfl))) (by rfl) rfl ?_
                refine da_any hap htm (i := 2) (by rfl) (by kernel_rfl) (by rfl) (listed' := #[true, true, true, false, false, false, false, false, false, false, false, false, false, false, false, false, false, false, false, false, false, false, false, false, false, false, false, false, false, false, false, false, false, false, false, false, false, false, false, false, false, false, false, false, false, false, false, false, false, false, false, false, false, false]) (by rfl) (fun _ => (opv_len_sv (by rfl) hsva Try.underlying25)) (by rfl) rfl ?_
                refine da_any hap htm (i := 3) (by rfl) (by kernel_rfl) (by rfl) (listed' := #[true, true, true, true, false, false, false, false, false, false, false, false, false, false, false, false, false, false, false, false, false, false, false, false, false, false, false, false, false, false, false, false, false, false, false, false, false, false, false, false, false, false, false, false, false, false, false, false, false, false, false, false, false, false]) (by rfl) (fun _ => (opv_cmp (by rfl) (by rfl) (by rfl))) (by rfl) rfl ?_
                refine da_any hap htm (i := 4) (by rfl) (by kernel_rfl) (by rfl) (listed' := #[true, true, true, true, true, false, false, false, false, false, false, false, false, false, false, false, false, false, false, false, false, false, false, false, false, false, false, false, false, false, false, false, false, false, false, false, false, false, false, false, false, false, false, false, false, false, false, false, false, false, false, false, false, false]) (by rfl) (fun _ => (opv_move (by rfl))) (by rfl) rfl ?_
                refine sk_split (x := 67) (by rfl) (fun h34 => ?_) (fun h34 => ?_)
                · first | have p34 := of_decide_eq_true h34 | have p34 := of_decide_eq_false h34 | have p34 := ndT h34 | have p34 := ndF h34 | have p34 := nbT h34 | have p34 := nbF h34 | have p34 := h34
                  have hia : i < aa.length := by omega
                  obtain ⟨a, ha, hat, has, hfin⟩ := h1 hia
                  refine da_any hap htm (i := 5) (by rfl) (by kernel_rfl) (by rfl) (listed' := #[true, true, true, true, true, true, false, false, false, false, false, false, false, false, false, false, false, false, false, false, false, false, false, false, false, false, false, false, false, false, false, false, false, false, false, false, false, false, false, false, false, false, false, false, false, false, false, false, false, false, false, false, false, false]) (by rfl) (fun _ => (opv_move (by rfl))) (wtd_run rfl rfl (by rfl) h34) rfl ?_
                  refine da_any hap htm (i := 6) (by rfl) (by kernel_rfl) (by rfl) (listed' := #[true, true, true, true, true, true, true, false, false, false, false, false, false, false, false, false, false, false, false, false, false, false, false, false, false, false, false, false, false, false, false, false, false, false, false, false, false, false, false, false, false, false, false, false, false, false, false, false, false, false, false, false, false, false]) (by rfl) (fun _ => (opv_move (by rfl))) (wtd_run rfl rfl (by rfl) h34) rfl ?_
                  refine da_any hap htm (i := 7) (by rfl) (by kernel_rfl) (by rfl) (listed' := #[true, true, true, true, true, true, true, true, false, false, false, false, false, false, false, false, false, false, false, false, false, false, false, false, false, false, false, false, false, false, false, false, false, false, false, false, false, false, false, false, false, false, false, false, false, false, false, false, false, false, false, false, false, false]) (by rfl) (fun _ => (opv_indexAddr_sv (i := i) (by rfl) hsva (by rfl) Try.underlying25 ti35 (by rfl) (by omega))) (wtd_run rfl rfl (by rfl) h34) rfl ?_
                  refine da_any hap htm (i := 8) (by rfl) (by kernel_rfl) (by rfl) (listed' := #[true, true, true, true, true, true, true, true, true, false, false, false, false, false, false, false, false, false, false, false, false, false, false, false, false, false, false, false, false, false, false, false, false, false, false, false, false, false, false, false, false, false, false, false, false, false, false, false, false, false, false, false, false, false]) (by rfl) (fun _ => (opv_fieldAddr (by rfl) fld35_0)) (wtd_run rfl rfl (by rfl) h34) rfl ?_
                  refine da_now [15, 16, 17, 18, 19, 20, 21, 22, 23, 24, 25, 26, 27, 28, 29, 30, 31, 32, 33, 34, 35, 36, 37, 38, 39, 40, 41, 42, 43, 44, 45, 46, 47, 48, 49, 50, 51, 52, 53] hap htm (i := 9) (by rfl) (by kernel_rfl) (by rfl) (listed' := #[true, true, true, true, true, true, true, true, true, true, false, false, false, false, false, false, false, false, false, false, false, false, false, false, false, false, false, false, false, false, false, false, false, false, false, false, false, false, false, false, false, false, false, false, false, false, false, false, false, false, false, false, false, false]) (by rfl) (by kernel_rfl) (by kernel_rfl) (opv_load_fld (fo := 0) (xs := aa) Hop.cells_len (by rfl) na3 (by repeat (first | exact Pk.here _ | apply Pk.there)) ha (by rfl)) (wtd_run rfl rfl (by rfl) h34) rfl ?_
                  refine da_any hap htm (i := 10) (by rfl) (by kernel_rfl) (by rfl) (listed' := #[true, true, true, true, true, true, true, true, true, true, true, false, false, false, false, false, false, false, false, false, false, false, false, false, false, false, false, false, false, false, false, false, false, false, false, false, false, false, false, false, false, false, false, false, false, false, false, false, false, false, false, false, false, false]) (by rfl) (fun _ => (opv_move (by rfl))) (wtd_run rfl rfl (by rfl) h34) rfl ?_
                  refine da_any hap htm (i := 11) (by rfl) (by kernel_rfl) (by rfl) (listed' := #[true, true, true, true, true, true, true, true, true, true, true, true, false, false, false, false, false, false, false, false, false, false, false, false, false, false, false, false, false, false, false, false, false, false, false, false, false, false, false, false, false, false, false, false, false, false, false, false, false, false, false, false, false, false]) (by rfl) (fun _ => (opv_move (by rfl))) (wtd_run rfl rfl (by rfl) h34) rfl ?_
                  refine da_any hap htm (i := 12) (by rfl) (by kernel_rfl) (by rfl) (listed' := #[true, true, true, true, true, true, true, true, true, true, true, true, true, false, false, false, false, false, false, false, false, false, false, false, false, false, false, false, false, false, false, false, false, false, false, false, false, false, false, false, false, false, false, false, false, false, false, false, false, false, false, false, false, false]) (by rfl) (fun _ => (opv_indexAddr_sv (i := i) (by rfl) hsvb (by rfl) Try.underlying25 ti35 (by rfl) (by omega))) (wtd_run rfl rfl (by rfl) h34) rfl ?_
                  refine da_any hap htm (i := 13) (by rfl) (by kernel_rfl) (by rfl) (listed' := #[true, true, true, true, true, true, true, true, true, true, true, true, true, true, false, false, false, false, false, false, false, false, false, false, false, false, false, false, false, false, false, false, false, false, false, false, false, false, false, false, false, false, false, false, false, false, false, false, false, false, false, false, false, false]) (by rfl) (fun _ => (opv_fieldAddr (by rfl) fld35_0)) (wtd_run rfl rfl (by rfl) h34) rfl ?_
                  refine da_now [15, 16, 17, 18, 19, 20, 21, 22, 23, 24, 25, 26, 27, 28, 29, 30, 31, 32, 33, 34, 35, 36, 37, 38, 39, 40, 41, 42, 43, 44, 45, 46, 47, 48, 49, 50, 51, 52, 53] hap htm (i := 14) (by rfl) (by kernel_rfl) (by rfl) (listed' := #[true, true, true, true, true, true, true, true, true, true, true, true, true, true, true, false, false, false, false, false, false, false, false, false, false, false, false, false, false, false, false, false, false, false, false, false, false, false, false, false, false, false, false, false, false, false, false, false, false, false, false, false, false, false]) (by rfl) (by kernel_rfl) (by kernel_rfl) (opv_load_fld (fo := 0) (xs := bb) Hop.cells_len (by rfl) na3 (by repeat (first | exact Pk.here _ | apply Pk.there)) hb (by rfl)) (wtd_run rfl rfl (by rfl) h34) rfl ?_
                  refine da_any hap htm (i := 15) (by rfl) (by kernel_rfl) (by rfl) (listed' := #[true, true, true, true, true, true, true, true, true, true, true, true, true, true, true, true, false, false, false, false, false, false, false, false, false, false, false, false, false, false, false, false, false, false, false, false, false, false, false, false, false, false, false, false, false, false, false, false, false, false, false, false, false, false]) (by rfl) (fun _ => (opv_cmp (by rfl) (by rfl) (by rfl))) (wtd_run rfl rfl (by rfl) h34) rfl ?_
                  refine da_any hap htm (i := 16) (by rfl) (by kernel_rfl) (by rfl) (listed' := #[true, true, true, true, true, true, true, true, true, true, true, true, true, true, true, true, true, false, false, false, false, false, false, false, false, false, false, false, false, false, false, false, false, false, false, false, false, false, false, false, false, false, false, false, false, false, false, false, false, false, false, false, false, false]) (by rfl) (fun _ => (opv_move (by rfl))) (wtd_run rfl rfl (by rfl) h34) rfl ?_
                  refine sk_split (x := 79) (by rfl) (fun h43 => ?_) (fun h43 => ?_)
                  · first | have p43 := of_decide_eq_true h43 | have p43 := of_decide_eq_false h43 | have p43 := ndT h43 | have p43 := ndF h43 | have p43 := nbT h43 | have p43 := nbF h43 | have p43 := h43
                    exfalso; omega
                  · first | have p43 := of_decide_eq_true h43 | have p43 := of_decide_eq_false h43 | have p43 := ndT h43 | have p43 := ndF h43 | have p43 := nbT h43 | have p43 := nbF h43 | have p43 := h43
                    refine da_any hap htm (i := 17) (by rfl) (by kernel_rfl) (by rfl) (listed' := #[true, true, true, true, true, true, true, true, true, true, true, true, true, true, true, true, true, true, false, false, false, false, false, false, false, false, false, false, false, false, false, false, false, false, false, false, false, false, false, false, false, false, false, false, false, false, false, false, false, false, false, false, false, false]) (by rfl) (fun _ => (opv_move (by rfl))) (wtd_run rfl rfl (by rfl) h43) rfl ?_
                    refine da_any hap htm (i := 18) (by rfl) (by kernel_rfl) (by rfl) (listed' := #[true, true, true, true, true, true, true, true, true, true, true, true, true, true, true, true, true, true, true, false, false, false, false, false, false, false, false, false, false, false, false, false, false, false, false, false, false, false, false, false, false, false, false, false, false, false, false, false, false, false, false, false, false, false]) (by rfl) (fun _ => (opv_move (by rfl))) (wtd_run rfl rfl (by rfl) h43) rfl ?_
                    refine da_any hap htm (i := 19) (by rfl) (by kernel_rfl) (by rfl) (listed' := #[true, true, true, true, true, true, true, true, true, true, true, true, true, true, true, true, true, true, true, true, false, false, false, false, false, false, false, false, false, false, false, false, false, false, false, false, false, false, false, false, false, false, false, false, false, false, false, false, false, false, false, false, false, false]) (by rfl) (fun _ => (opv_indexAddr_sv (i := i) (by rfl) hsva (by rfl) Try.underlying25 ti35 (by rfl) (by omega))) (wtd_run rfl rfl (by rfl) h43) rfl ?_
                    refine da_any hap htm (i := 20) (by rfl) (by kernel_rfl) (by rfl) (listed' := #[true, true, true, true, true, true, true, true, true, true, true, true, true, true, true, true, true, true, true, true, true, false, false, false, false, false, false, false, false, false, false, false, false, false, false, false, false, false, false, false, false, false, false, false, false, false, false, false, false, false, false, false, false, false]) (by rfl) (fun _ => (opv_fieldAddr (by rfl) fld35_3)) (wtd_run rfl rfl (by rfl) h43) rfl ?_
                    refine da_now [27, 28, 29, 30, 31, 32, 33, 34, 35, 36, 37, 38, 39, 40, 41, 42, 43, 44, 45, 46, 47, 48, 49, 50, 51, 52, 53] hap htm (i := 21) (by rfl) (by kernel_rfl) (by rfl) (listed' := #[true, true, true, true, true, true, true, true, true, true, true, true, true, true, true, true, true, true, true, true, true, true, false, false, false, false, false, false, false, false, false, false, false, false, false, false, false, false, false, false, false, false, false, false, false, false, false, false, false, false, false, false, false, false]) (by rfl) (by kernel_rfl) (by kernel_rfl) (opv_load_fld (fo := 7) (xs := aa) Hop.cells_len (by rfl) na3 (by repeat (first | exact Pk.here _ | apply Pk.there)) ha (by rfl)) (wtd_run rfl rfl (by rfl) h43) rfl ?_
                    refine da_any hap htm (i := 22) (by rfl) (by kernel_rfl) (by rfl) (listed' := #[true, true, true, true, true, true, true, true, true, true, true, true, true, true, true, true, true, true, true, true, true, true, true, false, false, false, false, false, false, false, false, false, false, false, false, false, false, false, false, false, false, false, false, false, false, false, false, false, false, false, false, false, false, false]) (by rfl) (fun _ => (opv_move (by rfl))) (wtd_run rfl rfl (by rfl) h43) rfl ?_
                    refine da_any hap htm (i := 23) (by rfl) (by kernel_rfl) (by rfl) (listed' := #[true, true, true, true, true, true, true, true, true, true, true, true, true, true, true, true, true, true, true, true, true, true, true, true, false, false, false, false, false, false, false, false, false, false, false, false, false, false, false, false, false, false, false, false, false, false, false, false, false, false, false, false, false, false]) (by rfl) (fun _ => (opv_move (by rfl))) (wtd_run rfl rfl (by rfl) h43) rfl ?_
                    refine da_any hap htm (i := 24) (by rfl) (by kernel_rfl) (by rfl) (listed' := #[true, true, true, true, true, true, true, true, true, true, true, true, true, true, true, true, true, true, true, true, true, true, true, true, true, false, false, false, false, false, false, false, false, false, false, false, false, false, false, false, false, false, false, false, false, false, false, false, false, false, false, false, false, false]) (by rfl) (fun _ => (opv_indexAddr_sv (i := i) (by rfl) hsvb (by rfl) Try.underlying25 ti35 (by rfl) (by omega))) (wtd_run rfl rfl (by rfl) h43) rfl ?_
                    refine da_any hap htm (i := 25) (by rfl) (by kernel_rfl) (by rfl) (listed' := #[true, true, true, true, true, true, true, true, true, true, true, true, true, true, true, true, true, true, true, true, true, true, true, true, true, true, false, false, false, false, false, false, false, false, false, false, false, false, false, false, false, false, false, false, false, false, false, false, false, false, false, false, false, false]) (by rfl) (fun _ => (opv_fieldAddr (by rfl) fld35_3)) (wtd_run rfl rfl (by rfl) h43) rfl ?_
                    refine da_now [27, 28, 29, 30, 31, 32, 33, 34, 35, 36, 37, 38, 39, 40, 41, 42, 43, 44, 45, 46, 47, 48, 49, 50, 51, 52, 53] hap htm (i := 26) (by rfl) (by kernel_rfl) (by rfl) (listed' := #[true, true, true, true, true, true, true, true, true, true, true, true, true, true, true, true, true, true, true, true, true, true, true, true, true, true, true, false, false, false, false, false, false, false, false, false, false, false, false, false, false, false, false, false, false, false, false, false, false, false, false, false, false, false]) (by rfl) (by kernel_rfl) (by kernel_rfl) (opv_load_fld (fo := 7) (xs := bb) Hop.cells_len (by rfl) na3 (by repeat (first | exact Pk.here _ | apply Pk.there)) hb (by rfl)) (wtd_run rfl rfl (by rfl) h43) rfl ?_
                    refine da_any hap htm (i := 27) (by rfl) (by kernel_rfl) (by rfl) (listed' := #[true, true, true, true, true, true, true, true, true, true, true, true, true, true, true, true, true, true, true, true, true, true, true, true, true, true, true, true, false, false, false, false, false, false, false, false, false, false, false, false, false, false, false, false, false, false, false, false, false, false, false, false, false, false]) (by rfl) (fun _ => (opv_cmp (by rfl) (by rfl) (by rfl))) (wtd_run rfl rfl (by rfl) h43) rfl ?_
                    refine da_any hap htm (i := 28) (by rfl) (by kernel_rfl) (by rfl) (listed' := #[true, true, true, true, true, true, true, true, true, true, true, true, true, true, true, true, true, true, true, true, true, true, true, true, true, true, true, true, true, false, false, false, false, false, false, false, false, false, false, false, false, false, false, false, false, false, false, false, false, false, false, false, false, false]) (by rfl) (fun _ => (sv_pick_f (by rfl) h43 (by rfl))) (wtd_run rfl rfl (by rfl) h34) rfl ?_
                    refine da_any hap htm (i := 29) (by rfl) (by kernel_rfl) (by rfl) (listed' := #[true, true, true, true, true, true, true, true, true, true, true, true, true, true, true, true, true, true, true, true, true, true, true, true, true, true, true, true, true, true, false, false, false, false, false, false, false, false, false, false, false, false, false, false, false, false, false, false, false, false, false, false, false, false]) (by rfl) (fun _ => (opv_move (by rfl))) (wtd_run rfl rfl (by rfl) h34) rfl ?_
                    refine sk_split (x := 92) (by rfl) (fun h52 => ?_) (fun h52 => ?_)
                    · first | have p52 := of_decide_eq_true h52 | have p52 := of_decide_eq_false h52 | have p52 := ndT h52 | have p52 := ndF h52 | have p52 := nbT h52 | have p52 := nbF h52 | have p52 := h52
                      exfalso; omega
                    · first | have p52 := of_decide_eq_true h52 | have p52 := of_decide_eq_false h52 | have p52 := ndT h52 | have p52 := ndF h52 | have p52 := nbT h52 | have p52 := nbF h52 | have p52 := h52
                      refine da_any hap htm (i := 30) (by rfl) (by kernel_rfl) (by rfl) (listed' := #[true, true, true, true, true, true, true, true, true, true, true, true, true, true, true, true, true, true, true, true, true, true, true, true, true, true, true, true, true, true, true, false, false, false, false, false, false, false, false, false, false, false, false, false, false, false, false, false, false, false, false, false, false, false]) (by rfl) (fun _ => (opv_move (by rfl))) (wtd_run rfl rfl (by rfl) h52) rfl ?_
                      refine da_any hap htm (i := 31) (by rfl) (by kernel_rfl) (by rfl) (listed' := #[true, true, true, true, true, true, true, true, true, true, true, true, true, true, true, true, true, true, true, true, true, true, true, true, true, true, true, true, true, true, true, true, false, false, false, false, false, false, false, false, false, false, false, false, false, false, false, false, false, false, false, false, false, false]) (by rfl) (fun _ => (opv_move (by rfl))) (wtd_run rfl rfl (by rfl) h52) rfl ?_
                      refine da_any hap htm (i := 32) (by rfl) (by kernel_rfl) (by rfl) (listed' := #[true, true, true, true, true, true, true, true, true, true, true, true, true, true, true, true, true, true, true, true, true, true, true, true, true, true, true, true, true, true, true, true, true, false, false, false, false, false, false, false, false, false, false, false, false, false, false, false, false, false, false, false, false, false]) (by rfl) (fun _ => (opv_indexAddr_sv (i := i) (by rfl) hsva (by rfl) Try.underlying25 ti35 (by rfl) (by omega))) (wtd_run rfl rfl (by rfl) h52) rfl ?_
                      refine da_any hap htm (i := 33) (by rfl) (by kernel_rfl) (by rfl) (listed' := #[true, true, true, true, true, true, true, true, true, true, true, true, true, true, true, true, true, true, true, true, true, true, true, true, true, true, true, true, true, true, true, true, true, true, false, false, false, false, false, false, false, false, false, false, false, false, false, false, false, false, false, false, false, false]) (by rfl) (fun _ => (opv_fieldAddr (by rfl) fld35_4)) (wtd_run rfl rfl (by rfl) h52) rfl ?_
                      refine da_now [35, 51, 52, 53] hap htm (i := 34) (by rfl) (by kernel_rfl) (by rfl) (listed' := #[true, true, true, true, true, true, true, true, true, true, true, true, true, true, true, true, true, true, true, true, true, true, true, true, true, true, true, true, true, true, true, true, true, true, true, false, false, false, false, false, false, false, false, false, false, false, false, false, false, false, false, false, false, false]) (by rfl) (by kernel_rfl) (by kernel_rfl) (opv_load_fld (fo := 8) (xs := aa) Hop.cells_len (by rfl) na3 (by repeat (first | exact Pk.here _ | apply Pk.there)) ha (by rfl)) (wtd_run rfl rfl (by rfl) h52) rfl ?_
                      refine da_any hap htm (i := 35) (by rfl) (by kernel_rfl) (by rfl) (listed' := #[true, true, true, true, true, true, true, true, true, true, true, true, true, true, true, true, true, true, true, true, true, true, true, true, true, true, true, true, true, true, true, true, true, true, true, true, false, false, false, false, false, false, false, false, false, false, false, false, false, false, false, false, false, false]) (by rfl) (fun _ => (opv_cmp (by rfl) (by rfl) (by rfl))) (wtd_run rfl rfl (by rfl) h52) rfl ?_
                      refine da_any hap htm (i := 36) (by rfl) (by kernel_rfl) (by rfl) (listed' := #[true, true, true, true, true, true, true, true, true, true, true, true, true, true, true, true, true, true, true, true, true, true, true, true, true, true, true, true, true, true, true, true, true, true, true, true, true, false, false, false, false, false, false, false, false, false, false, false, false, false, false, false, false, false]) (by rfl) (fun _ => (opv_move (by rfl))) (wtd_run rfl rfl (by rfl) h52) rfl ?_
                      refine da_any hap htm (i := 37) (by rfl) (by kernel_rfl) (by rfl) (listed' := #[true, true, true, true, true, true, true, true, true, true, true, true, true, true, true, true, true, true, true, true, true, true, true, true, true, true, true, true, true, true, true, true, true, true, true, true, true, true, false, false, false, false, false, false, false, false, false, false, false, false, false, false, false, false]) (by rfl) (fun _ => (opv_move (by rfl))) (wtd_run rfl rfl (by rfl) h52) rfl ?_
                      refine da_any hap htm (i := 38) (by rfl) (by kernel_rfl) (by rfl) (listed' := #[true, true, true, true, true, true, true, true, true, true, true, true, true, true, true, true, true, true, true, true, true, true, true, true, true, true, true, true, true, true, true, true, true, true, true, true, true, true, true, false, false, false, false, false, false, false, false, false, false, false, false, false, false, false]) (by rfl) (fun _ => (opv_indexAddr_sv (i := i) (by rfl) hsvb (by rfl) Try.underlying25 ti35 (by rfl) (by omega))) (wtd_run rfl rfl (by rfl) h52) rfl ?_
                      refine da_any hap htm (i := 39) (by rfl) (by kernel_rfl) (by rfl) (listed' := #[true, true, true, true, true, true, true, true, true, true, true, true, true, true, true, true, true, true, true, true, true, true, true, true, true, true, true, true, true, true, true, true, true, true, true, true, true, true, true, true, false, false, false, false, false, false, false, false, false, false, false, false, false, false]) (by rfl) (fun _ => (opv_fieldAddr (by rfl) fld35_4)) (wtd_run rfl rfl (by rfl) h52) rfl ?_
                      refine da_now [41, 42, 43, 44, 45, 46, 47, 48, 49, 50, 51, 52, 53] hap htm (i := 40) (by rfl) (by kernel_rfl) (by rfl) (listed' := #[true, true, true, true, true, true, true, true, true, true, true, true, true, true, true, true, true, true, true, true, true, true, true, true, true, true, true, true, true, true, true, true, true, true, true, true, true, true, true, true, true, false, false, false, false, false, false, false, false, false, false, false, false, false]) (by rfl) (by kernel_rfl) (by kernel_rfl) (opv_load_fld (fo := 8) (xs := bb) Hop.cells_len (by rfl) na3 (by repeat (first | exact Pk.here _ | apply Pk.there)) hb (by rfl)) (wtd_run rfl rfl (by rfl) h52) rfl ?_
                      refine da_any hap htm (i := 41) (by rfl) (by kernel_rfl) (by rfl) (listed' := #[true, true, true, true, true, true, true, true, true, true, true, true, true, true, true, true, true, true, true, true, true, true, true, true, true, true, true, true, true, true, true, true, true, true, true, true, true, true, true, true, true, true, false, false, false, false, false, false, false, false, false, false, false, false]) (by rfl) (fun _ => (opv_cmp (by rfl) (by rfl) (by rfl))) (wtd_run rfl rfl (by rfl) h52) rfl ?_
                      refine da_any hap htm (i := 42) (by rfl) (by kernel_rfl) (by rfl) (listed' := #[true, true, true, true, true, true, true, true, true, true, true, true, true, true, true, true, true, true, true, true, true, true, true, true, true, true, true, true, true, true, true, true, true, true, true, true, true, true, true, true, true, true, true, false, false, false, false, false, false, false, false, false, false, false]) (by rfl) (fun _ => (opv_move (by rfl))) (wtd_run rfl rfl (by rfl) h52) rfl ?_
                      refine sk_split (x := 105) (by rfl) (fun h62 => ?_) (fun h62 => ?_)
                      · first | have p62 := of_decide_eq_true h62 | have p62 := of_decide_eq_false h62 | have p62 := ndT h62 | have p62 := ndF h62 | have p62 := nbT h62 | have p62 := nbF h62 | have p62 := h62
                        refine da_any hap htm (i := 43) (by rfl) (by kernel_rfl) (by rfl) (listed' := #[true, true, true, true, true, true, true, true, true, true, true, true, true, true, true, true, true, true, true, true, true, true, true, true, true, true, true, true, true, true, true, true, true, true, true, true, true, true, true, true, true, true, true, true, false, false, false, false, false, false, false, false, false, false]) (by rfl) (fun _ => (opv_move (by rfl))) (wtd_run rfl rfl (by rfl) h62) rfl ?_
                        refine da_any hap htm (i := 44) (by rfl) (by kernel_rfl) (by rfl) (listed' := #[true, true, true, true, true, true, true, true, true, true, true, true, true, true, true, true, true, true, true, true, true, true, true, true, true, true, true, true, true, true, true, true, true, true, true, true, true, true, true, true, true, true, true, true, true, false, false, false, false, false, false, false, false, false]) (by rfl) (fun _ => (opv_move (by rfl))) (wtd_run rfl rfl (by rfl) h62) rfl ?_
                        refine da_any hap htm (i := 45) (by rfl) (by kernel_rfl) (by rfl) (listed' := #[true, true, true, true, true, true, true, true, true, true, true, true, true, true, true, true, true, true, true, true, true, true, true, true, true, true, true, true, true, true, true, true, true, true, true, true, true, true, true, true, true, true, true, true, true, true, false, false, false, false, false, false, false, false]) (by rfl) (fun _ => (opv_indexAddr_sv (i := i) (by rfl) hsvb (by rfl) Try.underlying25 ti35 (by rfl) (by omega))) (wtd_run rfl rfl (by rfl) h62) rfl ?_
                        refine da_any hap htm (i := 46) (by rfl) (by kernel_rfl) (by rfl) (listed' := #[true, true, true, true, true, true, true, true, true, true, true, true, true, true, true, true, true, true, true, true, true, true, true, true, true, true, true, true, true, true, true, true, true, true, true, true, true, true, true, true, true, true, true, true, true, true, true, false, false, false, false, false, false, false]) (by rfl) (fun _ => (opv_fieldAddr (by rfl) fld35_4)) (wtd_run rfl rfl (by rfl) h62) rfl ?_
                        refine da_now [49, 50, 51, 52, 53] hap htm (i := 47) (by rfl) (by kernel_rfl) (by rfl) (listed' := #[true, true, true, true, true, true, true, true, true, true, true, true, true, true, true, true, true, true, true, true, true, true, true, true, true, true, true, true, true, true, true, true, true, true, true, true, true, true, true, true, true, true, true, true, true, true, true, true, false, false, false, false, false, false]) (by rfl) (by kernel_rfl) (by kernel_rfl) (opv_load_fld (fo := 8) (xs := bb) Hop.cells_len (by rfl) na3 (by repeat (first | exact Pk.here _ | apply Pk.there)) hb (by rfl)) (wtd_run rfl rfl (by rfl) h62) rfl ?_
                        refine da_any hap htm (i := 48) (by rfl) (by kernel_rfl) (by rfl) (listed' := #[true, true, true, true, true, true, true, true, true, true, true, true, true, true, true, true, true, true, true, true, true, true, true, true, true, true, true, true, true, true, true, true, true, true, true, true, true, true, true, true, true, true, true, true, true, true, true, true, true, false, false, false, false, false]) (by rfl) (fun _ => (opv_move (by rfl))) (wtd_run rfl rfl (by rfl) h62) rfl ?_
                        refine da_any hap htm (i := 49) (by rfl) (by kernel_rfl) (by rfl) (listed' := #[true, true, true, true, true, true, true, true, true, true, true, true, true, true, true, true, true, true, true, true, true, true, true, true, true, true, true, true, true, true, true, true, true, true, true, true, true, true, true, true, true, true, true, true, true, true, true, true, true, true, false, false, false, false]) (by rfl) (fun _ => (opv_cmp (by rfl) (by rfl) (by rfl))) (wtd_run rfl rfl (by rfl) h62) rfl ?_
                        refine da_any hap htm (i := 50) (by rfl) (by kernel_rfl) (by rfl) (listed' := #[true, true, true, true, true, true, true, true, true, true, true, true, true, true, true, true, true, true, true, true, true, true, true, true, true, true, true, true, true, true, true, true, true, true, true, true, true, true, true, true, true, true, true, true, true, true, true, true, true, true, true, false, false, false]) (by rfl) (fun _ => (sv_pick_t (by rfl) h62 (by rfl))) (wtd_run rfl rfl (by rfl) h52) rfl ?_
                        refine da_any hap htm (i := 51) (by rfl) (by kernel_rfl) (by rfl) (listed' := #[true, true, true, true, true, true, true, true, true, true, true, true, true, true, true, true, true, true, true, true, true, true, true, true, true, true, true, true, true, true, true, true, true, true, true, true, true, true, true, true, true, true, true, true, true, true, true, true, true, true, true, true, false, false]) (by rfl) (fun _ => (opv_bne (by rfl) (by rfl) Try.underlying4)) (wtd_run rfl rfl (by rfl) h52) rfl ?_
                        refine da_any hap htm (i := 52) (by rfl) (by kernel_rfl) (by rfl) (listed' := #[true, true, true, true, true, true, true, true, true, true, true, true, true, true, true, true, true, true, true, true, true, true, true, true, true, true, true, true, true, true, true, true, true, true, true, true, true, true, true, true, true, true, true, true, true, true, true, true, true, true, true, true, true, false]) (by rfl) (fun _ => (sv_pick_f (by rfl) h52 (by rfl))) (wtd_run rfl rfl (by rfl) h34) rfl ?_
                        refine da_any hap htm (i := 53) (by rfl) (by kernel_rfl) (by rfl) (listed' := #[true, true, true, true, true, true, true, true, true, true, true, true, true, true, true, true, true, true, true, true, true, true, true, true, true, true, true, true, true, true, true, true, true, true, true, true, true, true, true, true, true, true, true, true, true, true, true, true, true, true, true, true, true, true]) (by rfl) (fun _ => (sv_pick_t (by rfl) h34 (by rfl))) (by rfl) rfl ?_
                        refine da_done (by kernel_rfl) ?_
                        refine jk_then ?_
                        refine sk_split (x := 116) (by rfl) (fun h68 => ?_) (fun h68 => ?_)
                        · first | have p68 := of_decide_eq_true h68 | have p68 := of_decide_eq_false h68 | have p68 := ndT h68 | have p68 := ndF h68 | have p68 := nbT h68 | have p68 := nbF h68 | have p68 := h68
                          exact absurd (by first | (simp only [decide_eq_decide]; omega) | (simp only [decide_eq_false_iff_not]; omega)) p68
                        · first | have p68 := of_decide_eq_true h68 | have p68 := of_decide_eq_false h68 | have p68 := ndT h68 | have p68 := ndF h68 | have p68 := nbT h68 | have p68 := nbF h68 | have p68 := h68
                          refine sc_false (by rfl) h68 ?_
                          refine jc_skip ?_
                          refine jk_block ?_
                          refine jk_then ?_
                          refine sc_region ?_
                          refine so_pure (opv_move (by rfl)) (by rfl) rfl ?_
                          refine so_pure (opv_add (by rfl) (by rfl) (wrap64_ok (by omega))) (by rfl) rfl ?_
                          refine so_pure (opv_assign (by rfl)) (by rfl) rfl ?_
                          refine jo_nil ?_
                          refine jk_round (i + 1) (by omega) (by show bb.length - (i + 1) < bb.length - i; omega) ⟨rfl, rfl, rfl, rfl, trivial⟩ (fun w hw => ?_)
                          show St _ _ [own sva 35 9 aa.length (aa.flatMap Hop.cells), own svb 35 9 bb.length (bb.flatMap Hop.cells)] _
                          exact St.sel hw (by repeat (first | exact Pks.nil _ | exact Pk.here _ | apply Pk.there | apply Pks.cons))
                      · first | have p62 := of_decide_eq_true h62 | have p62 := of_decide_eq_false h62 | have p62 := ndT h62 | have p62 := ndF h62 | have p62 := nbT h62 | have p62 := nbF h62 | have p62 := h62
                        refine da_skip hap htm (i := 43) (by rfl) (by kernel_rfl) (listed' := #[true, true, true, true, true, true, true, true, true, true, true, true, true, true, true, true, true, true, true, true, true, true, true, true, true, true, true, true, true, true, true, true, true, true, true, true, true, true, true, true, true, true, true, true, false, false, false, false, false, false, false, false, false, false]) (by rfl) (wtd_not rfl rfl (by rfl) h62) rfl ?_
                        refine da_skip hap htm (i := 44) (by rfl) (by kernel_rfl) (listed' := #[true, true, true, true, true, true, true, true, true, true, true, true, true, true, true, true, true, true, true, true, true, true, true, true, true, true, true, true, true, true, true, true, true, true, true, true, true, true, true, true, true, true, true, true, true, false, false, false, false, false, false, false, false, false]) (by rfl) (wtd_not rfl rfl (by rfl) h62) rfl ?_
                        refine da_skip hap htm (i := 45) (by rfl) (by kernel_rfl) (listed' := #[true, true, true, true, true, true, true, true, true, true, true, true, true, true, true, true, true, true, true, true, true, true, true, true, true, true, true, true, true, true, true, true, true, true, true, true, true, true, true, true, true, true, true, true, true, true, false, false, false, false, false, false, false, false]) (by rfl) (wtd_not rfl rfl (by rfl) h62) rfl ?_
                        refine da_skip hap htm (i := 46) (by rfl) (by kernel_rfl) (listed' := #[true, true, true, true, true, true, true, true, true, true, true, true, true, true, true, true, true, true, true, true, true, true, true, true, true, true, true, true, true, true, true, true, true, true, true, true, true, true, true, true, true, true, true, true, true, true, true, false, false, false, false, false, false, false]) (by rfl) (wtd_not rfl rfl (by rfl) h62) rfl ?_
                        refine da_skip hap htm (i := 47) (by rfl) (by kernel_rfl) (listed' := #[true, true, true, true, true, true, true, true, true, true, true, true, true, true, true, true, true, true, true, true, true, true, true, true, true, true, true, true, true, true, true, true, true, true, true, true, true, true, true, true, true, true, true, true, true, true, true, true, false, false, false, false, false, false]) (by rfl) (wtd_not rfl rfl (by rfl) h62) rfl ?_
                        refine da_skip hap htm (i := 48) (by rfl) (by kernel_rfl) (listed' := #[true, true, true, true, true, true, true, true, true, true, true, true, true, true, true, true, true, true, true, true, true, true, true, true, true, true, true, true, true, true, true, true, true, true, true, true, true, true, true, true, true, true, true, true, true, true, true, true, true, false, false, false, false, false]) (by rfl) (wtd_not rfl rfl (by rfl) h62) rfl ?_
                        refine da_skip hap htm (i := 49) (by rfl) (by kernel_rfl) (listed' := #[true, true, true, true, true, true, true, true, true, true, true, true, true, true, true, true, true, true, true, true, true, true, true, true, true, true, true, true, true, true, true, true, true, true, true, true, true, true, true, true, true, true, true, true, true, true, true, true, true, true, false, false, false, false]) (by rfl) (wtd_not rfl rfl (by rfl) h62) rfl ?_
                        refine da_any hap htm (i := 50) (by rfl) (by kernel_rfl) (by rfl) (listed' := #[true, true, true, true, true, true, true, true, true, true, true, true, true, true, true, true, true, true, true, true, true, true, true, true, true, true, true, true, true, true, true, true, true, true, true, true, true, true, true, true, true, true, true, true, true, true, true, true, true, true, true, false, false, false]) (by rfl) (fun _ => (sv_pick_f (by rfl) h62 (by rfl))) (wtd_run rfl rfl (by rfl) h52) rfl ?_
                        refine da_any hap htm (i := 51) (by rfl) (by kernel_rfl) (by rfl) (listed' := #[true, true, true, true, true, true, true, true, true, true, true, true, true, true, true, true, true, true, true, true, true, true, true, true, true, true, true, true, true, true, true, true, true, true, true, true, true, true, true, true, true, true, true, true, true, true, true, true, true, true, true, true, false, false]) (by rfl) (fun _ => (opv_bne (by rfl) (by rfl) Try.underlying4)) (wtd_run rfl rfl (by rfl) h52) rfl ?_
                        refine da_any hap htm (i := 52) (by rfl) (by kernel_rfl) (by rfl) (listed' := #[true, true, true, true, true, true, true, true, true, true, true, true, true, true, true, true, true, true, true, true, true, true, true, true, true, true, true, true, true, true, true, true, true, true, true, true, true, true, true, true, true, true, true, true, true, true, true, true, true, true, true, true, true, false]) (by rfl) (fun _ => (sv_pick_f (by rfl) h52 (by rfl))) (wtd_run rfl rfl (by rfl) h34) rfl ?_
                        refine da_any hap htm (i := 53) (by rfl) (by kernel_rfl) (by rfl) (listed' := #[true, true, true, true, true, true, true, true, true, true, true, true, true, true, true, true, true, true, true, true, true, true, true, true, true, true, true, true, true, true, true, true, true, true, true, true, true, true, true, true, true, true, true, true, true, true, true, true, true, true, true, true, true, true]) (by rfl) (fun _ => (sv_pick_t (by rfl) h34 (by rfl))) (by rfl) rfl ?_
                        refine da_done (by kernel_rfl) ?_
                        refine jk_then ?_
                        refine sk_split (x := 116) (by rfl) (fun h71 => ?_) (fun h71 => ?_)
                        · first | have p71 := of_decide_eq_true h71 | have p71 := of_decide_eq_false h71 | have p71 := ndT h71 | have p71 := ndF h71 | have p71 := nbT h71 | have p71 := nbF h71 | have p71 := h71
                          exact absurd (by first | (simp only [decide_eq_decide]; omega) | (simp only [decide_eq_false_iff_not]; omega)) p71
                        · first | have p71 := of_decide_eq_true h71 | have p71 := of_decide_eq_false h71 | have p71 := ndT h71 | have p71 := ndF h71 | have p71 := nbT h71 | have p71 := nbF h71 | have p71 := h71
                          refine sc_false (by rfl) h71 ?_
                          refine jc_skip ?_
                          refine jk_block ?_
                          refine jk_then ?_
                          refine sc_region ?_
                          refine so_pure (opv_move (by rfl)) (by rfl) rfl ?_
                          refine so_pure (opv_add (by rfl) (by rfl) (wrap64_ok (by omega))) (by rfl) rfl ?_
                          refine so_pure (opv_assign (by rfl)) (by rfl) rfl ?_
                          refine jo_nil ?_
                          refine jk_round (i + 1) (by omega) (by show bb.length - (i + 1) < bb.length - i; omega) ⟨rfl, rfl, rfl, rfl, trivial⟩ (fun w hw => ?_)
                          show St _ _ [own sva 35 9 aa.length (aa.flatMap Hop.cells), own svb 35 9 bb.length (bb.flatMap Hop.cells)] _
                          exact St.sel hw (by repeat (first | exact Pks.nil _ | exact Pk.here _ | apply Pk.there | apply Pks.cons))
                · first | have p34 := of_decide_eq_true h34 | have p34 := of_decide_eq_false h34 | have p34 := ndT h34 | have p34 := ndF h34 | have p34 := nbT h34 | have p34 := nbF h34 | have p34 := h34
                  refine da_skip hap htm (i := 5) (by rfl) (by kernel_rfl) (listed' := #[true, true, true, true, true, true, false, false, false, false, false, false, false, false, false, false, false, false, false, false, false, false, false, false, false, false, false, false, false, false, false, false, false, false, false, false, false, false, false, false, false, false, false, false, false, false, false, false, false, false, false, false, false, false]) (by rfl) (wtd_not rfl rfl (by rfl) h34) rfl ?_
                  refine da_skip hap htm (i := 6) (by rfl) (by kernel_rfl) (listed' := #[true, true, true, true, true, true, true, false, false, false, false, false, false, false, false, false, false, false, false, false, false, false, false, false, false, false, false, false, false, false, false, false, false, false, false, false, false, false, false, false, false, false, false, false, false, false, false, false, false, false, false, false, false, false]) (by rfl) (wtd_not rfl rfl (by rfl) h34) rfl ?_
                  refine da_skip hap htm (i := 7) (by rfl) (by kernel_rfl) (listed' := #[true, true, true, true, true, true, true, true, false, false, false, false, false, false, false, false, false, false, false, false, false, false, false, false, false, false, false, false, false, false, false, false, false, false, false, false, false, false, false, false, false, false, false, false, false, false, false, false, false, false, false, false, false, false]) (by rfl) (wtd_not rfl rfl (by rfl) h34) rfl ?_
                  refine da_skip hap htm (i := 8) (by rfl) (by kernel_rfl) (listed' := #[true, true, true, true, true, true, true, true, true, false, false, false, false, false, false, false, false, false, false, false, false, false, false, false, false, false, false, false, false, false, false, false, false, false, false, false, false, false, false, false, false, false, false, false, false, false, false, false, false, false, false, false, false, false]) (by rfl) (wtd_not rfl rfl (by rfl) h34) rfl ?_
                  refine da_skip hap htm (i := 9) (by rfl) (by kernel_rfl) (listed' := #[true, true, true, true, true, true, true, true, true, true, false, false, false, false, false, false, false, false, false, false, false, false, false, false, false, false, false, false, false, false, false, false, false, false, false, false, false, false, false, false, false, false, false, false, false, false, false, false, false, false, false, false, false, false]) (by rfl) (wtd_not rfl rfl (by rfl) h34) rfl ?_
                  refine da_skip hap htm (i := 10) (by rfl) (by kernel_rfl) (listed' := #[true, true, true, true, true, true, true, true, true, true, true, false, false, false, false, false, false, false, false, false, false, false, false, false, false, false, false, false, false, false, false, false, false, false, false, false, false, false, false, false, false, false, false, false, false, false, false, false, false, false, false, false, false, false]) (by rfl) (wtd_not rfl rfl (by rfl) h34) rfl ?_
                  refine da_skip hap htm (i := 11) (by rfl) (by kernel_rfl) (listed' := #[true, true, true, true, true, true, true, true, true, true, true, true, false, false, false, false, false, false, false, false, false, false, false, false, false, false, false, false, false, false, false, false, false, false, false, false, false, false, false, false, false, false, false, false, false, false, false, false, false, false, false, false, false, false]) (by rfl) (wtd_not rfl rfl (by rfl) h34) rfl ?_
                  refine da_skip hap htm (i := 12) (by rfl) (by kernel_rfl) (listed' := #[true, true, true, true, true, true, true, true, true, true, true, true, true, false, false, false, false, false, false, false, false, false, false, false, false, false, false, false, false, false, false, false, false, false, false, false, false, false, false, false, false, false, false, false, false, false, false, false, false, false, false, false, false, false]) (by rfl) (wtd_not rfl rfl (by rfl) h34) rfl ?_
                  refine da_skip hap htm (i := 13) (by rfl) (by kernel_rfl) (listed' := #[true, true, true, true, true, true, true, true, true, true, true, true, true, true, false, false, false, false, false, false, false, false, false, false, false, false, false, false, false, false, false, false, false, false, false, false, false, false, false, false, false, false, false, false, false, false, false, false, false, false, false, false, false, false]) (by rfl) (wtd_not rfl rfl (by rfl) h34) rfl ?_
                  refine da_skip hap htm (i := 14) (by rfl) (by kernel_rfl) (listed' := #[true, true, true, true, true, true, true, true, true, true, true, true, true, true, true, false, false, false, false, false, false, false, false, false, false, false, false, false, false, false, false, false, false, false, false, false, false, false, false, false, false, false, false, false, false, false, false, false, false, false, false, false, false, false]) (by rfl) (wtd_not rfl rfl (by rfl) h34) rfl ?_
                  refine da_skip hap htm (i := 15) (by rfl) (by kernel_rfl) (listed' := #[true, true, true, true, true, true, true, true, true, true, true, true, true, true, true, true, false, false, false, false, false, false, false, false, false, false, false, false, false, false, false, false, false, false, false, false, false, false, false, false, false, false, false, false, false, false, false, false, false, false, false, false, false, false]) (by rfl) (wtd_not rfl rfl (by rfl) h34) rfl ?_
                  refine da_skip hap htm (i := 16) (by rfl) (by kernel_rfl) (listed' := #[true, true, true, true, true, true, true, true, true, true, true, true, true, true, true, true, true, false, false, false, false, false, false, false, false, false, false, false, false, false, false, false, false, false, false, false, false, false, false, false, false, false, false, false, false, false, false, false, false, false, false, false, false, false]) (by rfl) (wtd_not rfl rfl (by rfl) h34) rfl ?_
                  refine da_skip hap htm (i := 17) (by rfl) (by kernel_rfl) (listed' := #[true, true, true, true, true, true, true, true, true, true, true, true, true, true, true, true, true, true, false, false, false, false, false, false, false, false, false, false, false, false, false, false, false, false, false, false, false, false, false, false, false, false, false, false, false, false, false, false, false, false, false, false, false, false]) (by rfl) (wtd_undef rfl rfl (by rfl)) rfl ?_
                  refine da_skip hap htm (i := 18) (by rfl) (by kernel_rfl) (listed' := #[true, true, true, true, true, true, true, true, true, true, true, true, true, true, true, true, true, true, true, false, false, false, false, false, false, false, false, false, false, false, false, false, false, false, false, false, false, false, false, false, false, false, false, false, false, false, false, false, false, false, false, false, false, false]) (by rfl) (wtd_undef rfl rfl (by rfl)) rfl ?_
                  refine da_skip hap htm (i := 19) (by rfl) (by kernel_rfl) (listed' := #[true, true, true, true, true, true, true, true, true, true, true, true, true, true, true, true, true, true, true, true, false, false, false, false, false, false, false, false, false, false, false, false, false, false, false, false, false, false, false, false, false, false, false, false, false, false, false, false, false, false, false, false, false, false]) (by rfl) (wtd_undef rfl rfl (by rfl)) rfl ?_
                  refine da_skip hap htm (i := 20) (by rfl) (by kernel_rfl) (listed' := #[true, true, true, true, true, true, true, true, true, true, true, true, true, true, true, true, true, true, true, true, true, false, false, false, false, false, false, false, false, false, false, false, false, false, false, false, false, false, false, false, false, false, false, false, false, false, false, false, false, false, false, false, false, false]) (by rfl) (wtd_undef rfl rfl (by rfl)) rfl ?_
                  refine da_skip hap htm (i := 21) (by rfl) (by kernel_rfl) (listed' := #[true, true, true, true, true, true, true, true, true, true, true, true, true, true, true, true, true, true, true, true, true, true, false, false, false, false, false, false, false, false, false, false, false, false, false, false, false, false, false, false, false, false, false, false, false, false, false, false, false, false, false, false, false, false]) (by rfl) (wtd_undef rfl rfl (by rfl)) rfl ?_
                  refine da_skip hap htm (i := 22) (by rfl) (by kernel_rfl) (listed' := #[true, true, true, true, true, true, true, true, true, true, true, true, true, true, true, true, true, true, true, true, true, true, true, false, false, false, false, false, false, false, false, false, false, false, false, false, false, false, false, false, false, false, false, false, false, false, false, false, false, false, false, false, false, false]) (by rfl) (wtd_undef rfl rfl (by rfl)) rfl ?_
                  refine da_skip hap htm (i := 23) (by rfl) (by kernel_rfl) (listed' := #[true, true, true, true, true, true, true, true, true, true, true, true, true, true, true, true, true, true, true, true, true, true, true, true, false, false, false, false, false, false, false, false, false, false, false, false, false, false, false, false, false, false, false, false, false, false, false, false, false, false, false, false, false, false]) (by rfl) (wtd_undef rfl rfl (by rfl)) rfl ?_
                  refine da_skip hap htm (i := 24) (by rfl) (by kernel_rfl) (listed' := #[true, true, true, true, true, true, true, true, true, true, true, true, true, true, true, true, true, true, true, true, true, true, true, true, true, false, false, false, false, false, false, false, false, false, false, false, false, false, false, false, false, false, false, false, false, false, false, false, false, false, false, false, false, false]) (by rfl) (wtd_undef rfl rfl (by rfl)) rfl ?_
                  refine da_skip hap htm (i := 25) (by rfl) (by kernel_rfl) (listed' := #[true, true, true, true, true, true, true, true, true, true, true, true, true, true, true, true, true, true, true, true, true, true, true, true, true, true, false, false, false, false, false, false, false, false, false, false, false, false, false, false, false, false, false, false, false, false, false, false, false, false, false, false, false, false]) (by rfl) (wtd_undef rfl rfl (by rfl)) rfl ?_
                  refine da_skip hap htm (i := 26) (by rfl) (by kernel_rfl) (listed' := #[true, true, true, true, true, true, true, true, true, true, true, true, true, true, true, true, true, true, true, true, true, true, true, true, true, true, true, false, false, false, false, false, false, false, false, false, false, false, false, false, false, false, false, false, false, false, false, false, false, false, false, false, false, false]) (by rfl) (wtd_undef rfl rfl (by rfl)) rfl ?_
                  refine da_skip hap htm (i := 27) (by rfl) (by kernel_rfl) (listed' := #[true, true, true, true, true, true, true, true, true, true, true, true, true, true, true, true, true, true, true, true, true, true, true, true, true, true, true, true, false, false, false, false, false, false, false, false, false, false, false, false, false, false, false, false, false, false, false, false, false, false, false, false, false, false]) (by rfl) (wtd_undef rfl rfl (by rfl)) rfl ?_
                  refine da_skip hap htm (i := 28) (by rfl) (by kernel_rfl) (listed' := #[true, true, true, true, true, true, true, true, true, true, true, true, true, true, true, true, true, true, true, true, true, true, true, true, true, true, true, true, true, false, false, false, false, false, false, false, false, false, false, false, false, false, false, false, false, false, false, false, false, false, false, false, false, false]) (by rfl) (wtd_not rfl rfl (by rfl) h34) rfl ?_
                  refine da_skip hap htm (i := 29) (by rfl) (by kernel_rfl) (listed' := #[true, true, true, true, true, true, true, true, true, true, true, true, true, true, true, true, true, true, true, true, true, true, true, true, true, true, true, true, true, true, false, false, false, false, false, false, false, false, false, false, false, false, false, false, false, false, false, false, false, false, false, false, false, false]) (by rfl) (wtd_not rfl rfl (by rfl) h34) rfl ?_
                  refine da_skip hap htm (i := 30) (by rfl) (by kernel_rfl) (listed' := #[true, true, true, true, true, true, true, true, true, true, true, true, true, true, true, true, true, true, true, true, true, true, true, true, true, true, true, true, true, true, true, false, false, false, false, false, false, false, false, false, false, false, false, false, false, false, false, false, false, false, false, false, false, false]) (by rfl) (wtd_undef rfl rfl (by rfl)) rfl ?_
                  refine da_skip hap htm (i := 31) (by rfl) (by kernel_rfl) (listed' := #[true, true, true, true, true, true, true, true, true, true, true, true, true, true, true, true, true, true, true, true, true, true, true, true, true, true, true, true, true, true, true, true, false, false, false, false, false, false, false, false, false, false, false, false, false, false, false, false, false, false, false, false, false, false]) (by rfl) (wtd_undef rfl rfl (by rfl)) rfl ?_
                  refine da_skip hap htm (i := 32) (by rfl) (by kernel_rfl) (listed' := #[true, true, true, true, true, true, true, true, true, true, true, true, true, true, true, true, true, true, true, true, true, true, true, true, true, true, true, true, true, true, true, true, true, false, false, false, false, false, false, false, false, false, false, false, false, false, false, false, false, false, false, false, false, false]) (by rfl) (wtd_undef rfl rfl (by rfl)) rfl ?_
                  refine da_skip hap htm (i := 33) (by rfl) (by kernel_rfl) (listed' := #[true, true, true, true, true, true, true, true, true, true, true, true, true, true, true, true, true, true, true, true, true, true, true, true, true, true, true, true, true, true, true, true, true, true, false, false, false, false, false, false, false, false, false, false, false, false, false, false, false, false, false, false, false, false]) (by rfl) (wtd_undef rfl rfl (by rfl)) rfl ?_
                  refine da_skip hap htm (i := 34) (by rfl) (by kernel_rfl) (listed' := #[true, true, true, true, true, true, true, true, true, true, true, true, true, true, true, true, true, true, true, true, true, true, true, true, true, true, true, true, true, true, true, true, true, true, true, false, false, false, false, false, false, false, false, false, false, false, false, false, false, false, false, false, false, false]) (by rfl) (wtd_undef rfl rfl (by rfl)) rfl ?_
                  refine da_skip hap htm (i := 35) (by rfl) (by kernel_rfl) (listed' := #[true, true, true, true, true, true, true, true, true, true, true, true, true, true, true, true, true, true, true, true, true, true, true, true, true, true, true, true, true, true, true, true, true, true, true, true, false, false, false, false, false, false, false, false, false, false, false, false, false, false, false, false, false, false]) (by rfl) (wtd_undef rfl rfl (by rfl)) rfl ?_
                  refine da_skip hap htm (i := 36) (by rfl) (by kernel_rfl) (listed' := #[true, true, true, true, true, true, true, true, true, true, true, true, true, true, true, true, true, true, true, true, true, true, true, true, true, true, true, true, true, true, true, true, true, true, true, true, true, false, false, false, false, false, false, false, false, false, false, false, false, false, false, false, false, false]) (by rfl) (wtd_undef rfl rfl (by rfl)) rfl ?_
                  refine da_skip hap htm (i := 37) (by rfl) (by kernel_rfl) (listed' := #[true, true, true, true, true, true, true, true, true, true, true, true, true, true, true, true, true, true, true, true, true, true, true, true, true, true, true, true, true, true, true, true, true, true, true, true, true, true, false, false, false, false, false, false, false, false, false, false, false, false, false, false, false, false]) (by rfl) (wtd_undef rfl rfl (by rfl)) rfl ?_
                  refine da_skip hap htm (i := 38) (by rfl) (by kernel_rfl) (listed' := #[true, true, true, true, true, true, true, true, true, true, true, true, true, true, true, true, true, true, true, true, true, true, true, true, true, true, true, true, true, true, true, true, true, true, true, true, true, true, true, false, false, false, false, false, false, false, false, false, false, false, false, false, false, false]) (by rfl) (wtd_undef rfl rfl (by rfl)) rfl ?_
                  refine da_skip hap htm (i := 39) (by rfl) (by kernel_rfl) (listed' := #[true, true, true, true, true, true, true, true, true, true, true, true, true, true, true, true, true, true, true, true, true, true, true, true, true, true, true, true, true, true, true, true, true, true, true, true, true, true, true, true, false, false, false, false, false, false, false, false, false, false, false, false, false, false]) (by rfl) (wtd_undef rfl rfl (by rfl)) rfl ?_
                  refine da_skip hap htm (i := 40) (by rfl) (by kernel_rfl) (listed' := #[true, true, true, true, true, true, true, true, true, true, true, true, true, true, true, true, true, true, true, true, true, true, true, true, true, true, true, true, true, true, true, true, true, true, true, true, true, true, true, true, true, false, false, false, false, false, false, false, false, false, false, false, false, false]) (by rfl) (wtd_undef rfl rfl (by rfl)) rfl ?_
                  refine da_skip hap htm (i := 41) (by rfl) (by kernel_rfl) (listed' := #[true, true, true, true, true, true, true, true, true, true, true, true, true, true, true, true, true, true, true, true, true, true, true, true, true, true, true, true, true, true, true, true, true, true, true, true, true, true, true, true, true, true, false, false, false, false, false, false, false, false, false, false, false, false]) (by rfl) (wtd_undef rfl rfl (by rfl)) rfl ?_
                  refine da_skip hap htm (i := 42) (by rfl) (by kernel_rfl) (listed' := #[true, true, true, true, true, true, true, true, true, true, true, true, true, true, true, true, true, true, true, true, true, true, true, true, true, true, true, true, true, true, true, true, true, true, true, true, true, true, true, true, true, true, true, false, false, false, false, false, false, false, false, false, false, false]) (by rfl) (wtd_undef rfl rfl (by rfl)) rfl ?_
                  refine da_skip hap htm (i := 43) (by rfl) (by kernel_rfl) (listed' := #[true, true, true, true, true, true, true, true, true, true, true, true, true, true, true, true, true, true, true, true, true, true, true, true, true, true, true, true, true, true, true, true, true, true, true, true, true, true, true, true, true, true, true, true, false, false, false, false, false, false, false, false, false, false]) (by rfl) (wtd_undef rfl rfl (by rfl)) rfl ?_
                  refine da_skip hap htm (i := 44) (by rfl) (by kernel_rfl) (listed' := #[true, true, true, true, true, true, true, true, true, true, true, true, true, true, true, true, true, true, true, true, true, true, true, true, true, true, true, true, true, true, true, true, true, true, true, true, true, true, true, true, true, true, true, true, true, false, false, false, false, false, false, false, false, false]) (by rfl) (wtd_undef rfl rfl (by rfl)) rfl ?_
                  refine da_skip hap htm (i := 45) (by rfl) (by kernel_rfl) (listed' := #[true, true, true, true, true, true, true, true, true, true, true, true, true, true, true, true, true, true, true, true, true, true, true, true, true, true, true, true, true, true, true, true, true, true, true, true, true, true, true, true, true, true, true, true, true, true, false, false, false, false, false, false, false, false]) (by rfl) (wtd_undef rfl rfl (by rfl)) rfl ?_
                  refine da_skip hap htm (i := 46) (by rfl) (by kernel_rfl) (listed' := #[true, true, true, true, true, true, true, true, true, true, true, true, true, true, true, true, true, true, true, true, true, true, true, true, true, true, true, true, true, true, true, true, true, true, true, true, true, true, true, true, true, true, true, true, true, true, true, false, false, false, false, false, false, false]) (by rfl) (wtd_undef rfl rfl (by rfl)) rfl ?_
                  refine da_skip hap htm (i := 47) (by rfl) (by kernel_rfl) (listed' := #[true, true, true, true, true, true, true, true, true, true, true, true, true, true, true, true, true, true, true, true, true, true, true, true, true, true, true, true, true, true, true, true, true, true, true, true, true, true, true, true, true, true, true, true, true, true, true, true, false, false, false, false, false, false]) (by rfl) (wtd_undef rfl rfl (by rfl)) rfl ?_
                  refine da_skip hap htm (i := 48) (by rfl) (by kernel_rfl) (listed' := #[true, true, true, true, true, true, true, true, true, true, true, true, true, true, true, true, true, true, true, true, true, true, true, true, true, true, true, true, true, true, true, true, true, true, true, true, true, true, true, true, true, true, true, true, true, true, true, true, true, false, false, false, false, false]) (by rfl) (wtd_undef rfl rfl (by rfl)) rfl ?_
                  refine da_skip hap htm (i := 49) (by rfl) (by kernel_rfl) (listed' := #[true, true, true, true, true, true, true, true, true, true, true, true, true, true, true, true, true, true, true, true, true, true, true, true, true, true, true, true, true, true, true, true, true, true, true, true, true, true, true, true, true, true, true, true, true, true, true, true, true, true, false, false, false, false]) (by rfl) (wtd_undef rfl rfl (by rfl)) rfl ?_
                  refine da_skip hap htm (i := 50) (by rfl) (by kernel_rfl) (listed' := #[true, true, true, true, true, true, true, true, true, true, true, true, true, true, true, true, true, true, true, true, true, true, true, true, true, true, true, true, true, true, true, true, true, true, true, true, true, true, true, true, true, true, true, true, true, true, true, true, true, true, true, false, false, false]) (by rfl) (wtd_undef rfl rfl (by rfl)) rfl ?_
                  refine da_skip hap htm (i := 51) (by rfl) (by kernel_rfl) (listed' := #[true, true, true, true, true, true, true, true, true, true, true, true, true, true, true, true, true, true, true, true, true, true, true, true, true, true, true, true, true, true, true, true, true, true, true, true, true, true, true, true, true, true, true, true, true, true, true, true, true, true, true, true, false, false]) (by rfl) (wtd_undef rfl rfl (by rfl)) rfl ?_
                  refine da_skip hap htm (i := 52) (by rfl) (by kernel_rfl) (listed' := #[true, true, true, true, true, true, true, true, true, true, true, true, true, true, true, true, true, true, true, true, true, true, true, true, true, true, true, true, true, true, true, true, true, true, true, true, true, true, true, true, true, true, true, true, true, true, true, true, true, true, true, true, true, false]) (by rfl) (wtd_not rfl rfl (by rfl) h34) rfl ?_
                  refine da_any hap htm (i := 53) (by rfl) (by kernel_rfl) (by rfl) (listed' := #[true, true, true, true, true, true, true, true, true, true, true, true, true, true, true, true, true, true, true, true, true, true, true, true, true, true, true, true, true, true, true, true, true, true, true, true, true, true, true, true, true, true, true, true, true, true, true, true, true, true, true, true, true, true]) (by rfl) (fun _ => (sv_pick_f (by rfl) h34 (by rfl))) (by rfl) rfl ?_
                  refine da_done (by kernel_rfl) ?_
                  refine jk_then ?_
                  refine sc_false (by rfl) rfl ?_
                  refine jc_skip ?_
                  refine jk_block ?_
                  refine jk_then ?_
                  refine sc_region ?_
                  refine so_pure (opv_move (by rfl)) (by rfl) rfl ?_
                  refine so_pure (opv_add (by rfl) (by rfl) (wrap64_ok (by omega))) (by rfl) rfl ?_
                  refine so_pure (opv_assign (by rfl)) (by rfl) rfl ?_
                  refine jo_nil ?_
                  refine jk_round (i + 1) (by omega) (by show bb.length - (i + 1) < bb.length - i; omega) ⟨rfl, rfl, rfl, rfl, trivial⟩ (fun w hw => ?_)
                  show St _ _ [own sva 35 9 aa.length (aa.flatMap Hop.cells), own svb 35 9 bb.length (bb.flatMap Hop.cells)] _
                  exact St.sel hw (by repeat (first | exact Pks.nil _ | exact Pk.here _ | apply Pk.there | apply Pks.cons))
            · first | have p22 := of_decide_eq_true h22 | have p22 := of_decide_eq_false h22 | have p22 := ndT h22 | have p22 := ndF h22 | have p22 := nbT h22 | have p22 := nbF h22 | have p22 := h22
              refine sc_false (by rfl) h22 ?_
              refine jc_exit ?_
              refine jk_then_exit ?_
              refine jk_then_exit ?_
              refine jk_block_exit ?_
              refine jk_then ?_
              refine jc_seq ?_
              refine sc_region ?_
              refine so_eff (eff_call0 (G := fun v New => v = .bool true ∧ New = []) (by rfl) (by rfl) tx8 (by exact fun w1 hw1 => (live_spec w1).mono (fun v _ ⟨hv, hst⟩ => ⟨[], ⟨hv, rfl⟩, hst⟩))) (by rfl) rfl ?_
              rintro _ _ ⟨_, ⟨rfl, rfl⟩, rfl⟩
              refine so_pure (opv_assign (by rfl)) (by rfl) rfl ?_
              refine jo_nil ?_
              refine jk_then ?_
              refine jc_ret ?_
              refine jk_fn_ret rfl rfl (by rfl) (fun w hw => ?_)
              exact ⟨rfl, hw.forget⟩
end Go.Hist
