/- A part of a proof for the laws of the seat Ytmhdjmbckgamlaa; it has no conditions of its own. -/
import Derived.Test.YtmhdjmbckgamlaaPlW9
import Derived.Test.YtmhdjmbckgamlaaPlFits
namespace Go.Place
open Go Go.SL Go.Proofs
set_option maxHeartbeats 4000000 in
theorem law_loads (w : World) (A : Option Addr) (n c : Nat) (vs : List Vol) (hs : SlR w 36 4 Vol.cells A n vs) (hok : ∀ v ∈ vs, VolOk w v) (hmn : n ≤ 9223372036854775807) (B : Option Addr) (m c2 : Nat) (xs : List Int) (hx : SlR w 3 1 ic B m xs) (hmm : m ≤ 9223372036854775807) : Does Try.prog 4 #[.slice A n c, .slice B m c2] w (fun v w' => v = .bool true ∧ St w Emp [] w') := by
  obtain ⟨lss, hr⟩ := all2_of hok
  have hl12 : (loadL lss).length = 12 := by unfold loadL; exact (Bd.loads (B := lss.foldr (fun l n => l.length + n) 0) (fun ls hl => le_sum hl)).1
  refine fn_body (fn := Try.f4) Try.func4 rfl [(0, .slice A n c), (1, .slice B m c2)] (by exact ⟨rfl, rfl, trivial⟩) rfl (St.start w) ?_
  refine jc_seq ?_
  refine sc_region ?_
  refine so_pure (opv_assign (by rfl)) (by rfl) rfl ?_
  refine jo_nil ?_
  refine jk_then ?_
  refine jc_seq ?_
  refine jc_seq ?_
  refine sc_region ?_
  refine so_pure (opv_move (by rfl)) (by rfl) rfl ?_
  refine so_pure (opv_len_slice (by rfl) Try.underlying33) (by rfl) rfl ?_
  refine so_pure (opv_cmp (by rfl) (by rfl) (by rfl)) (by rfl) rfl ?_
  refine so_pure (opv_move (by rfl)) (by rfl) rfl ?_
  refine sk_split (x := 15) (by rfl) (fun h4 => ?_) (fun h4 => ?_)
  · first | have p4 := of_decide_eq_true h4 | have p4 := of_decide_eq_false h4 | have p4 := ndT h4 | have p4 := ndF h4 | have p4 := nbT h4 | have p4 := nbF h4 | have p4 := h4
    refine so_skip (wtd_not rfl rfl (by rfl) h4) rfl ?_
    refine so_skip (wtd_not rfl rfl (by rfl) h4) rfl ?_
    refine so_skip (wtd_not rfl rfl (by rfl) h4) rfl ?_
    refine so_pure (sv_pick_t (by rfl) h4 (by rfl)) (by rfl) rfl ?_
    refine jo_nil ?_
    refine jk_then ?_
    refine sc_true (by rfl) rfl ?_
    refine jc_seq ?_
    refine sc_region ?_
    refine so_eff (eff_call0 (G := fun u New => u = .bool true ∧ New = []) (by rfl) (by rfl) tx9 (by exact fun w1 hw1 => (live_spec w1).mono (fun _ _ ⟨hv, hst⟩ => ⟨[], ⟨hv, rfl⟩, hst⟩))) (by rfl) rfl ?_
    rintro _ _ ⟨_, ⟨rfl, rfl⟩, rfl⟩
    refine so_pure (opv_assign (by rfl)) (by rfl) rfl ?_
    refine jo_nil ?_
    refine jk_then ?_
    refine jc_ret ?_
    refine jk_then_ret ?_
    refine jk_fn_ret rfl rfl (by rfl) (fun w hw => ?_)
    exact ⟨rfl, hw.forget⟩
  · first | have p4 := of_decide_eq_true h4 | have p4 := of_decide_eq_false h4 | have p4 := ndT h4 | have p4 := ndF h4 | have p4 := nbT h4 | have p4 := nbF h4 | have p4 := h4
    refine so_pure (opv_move (by rfl)) (wtd_run rfl rfl (by rfl) h4) rfl ?_
    refine so_pure (opv_len_slice (by rfl) Try.underlying22) (wtd_run rfl rfl (by rfl) h4) rfl ?_
    refine so_pure (opv_cmp (by rfl) (by rfl) (by rfl)) (wtd_run rfl rfl (by rfl) h4) rfl ?_
    refine so_pure (sv_pick_f (by rfl) h4 (by rfl)) (by rfl) rfl ?_
    refine jo_nil ?_
    refine jk_then ?_
    refine sk_split (x := 19) (by rfl) (fun h7 => ?_) (fun h7 => ?_)
    · first | have p7 := of_decide_eq_true h7 | have p7 := of_decide_eq_false h7 | have p7 := ndT h7 | have p7 := ndF h7 | have p7 := nbT h7 | have p7 := nbF h7 | have p7 := h7
      refine sc_true (by rfl) h7 ?_
      refine jc_seq ?_
      refine sc_region ?_
      refine so_eff (eff_call0 (G := fun u New => u = .bool true ∧ New = []) (by rfl) (by rfl) tx9 (by exact fun w1 hw1 => (live_spec w1).mono (fun _ _ ⟨hv, hst⟩ => ⟨[], ⟨hv, rfl⟩, hst⟩))) (by rfl) rfl ?_
      rintro _ _ ⟨_, ⟨rfl, rfl⟩, rfl⟩
      refine so_pure (opv_assign (by rfl)) (by rfl) rfl ?_
      refine jo_nil ?_
      refine jk_then ?_
      refine jc_ret ?_
      refine jk_then_ret ?_
      refine jk_fn_ret rfl rfl (by rfl) (fun w hw => ?_)
      exact ⟨rfl, hw.forget⟩
    · first | have p7 := of_decide_eq_true h7 | have p7 := of_decide_eq_false h7 | have p7 := ndT h7 | have p7 := ndF h7 | have p7 := nbT h7 | have p7 := nbF h7 | have p7 := h7
      refine sc_false (by rfl) h7 ?_
      refine jc_skip ?_
      refine jk_then ?_
      refine jc_seq ?_
      refine jc_seq ?_
      refine sc_region ?_
      refine so_pure (opv_assign (by rfl)) (by rfl) rfl ?_
      refine jo_nil ?_
      refine jk_then ?_
      refine jc_block ?_
      refine jc_loop (σ := Nat) (fun k => [(0, .slice A n c), (1, .slice B m c2), (5, .int .i64 k)]) (fun k => []) (fun k => (k ≤ n) ∧ (True)) (fun k => n - k) 0 ⟨Nat.zero_le _, trivial⟩ ⟨rfl, rfl, rfl, trivial⟩ (fun w hw => St.sel hw (by repeat (first | exact Pks.nil _ | exact Pk.here _ | apply Pk.there | apply Pks.cons))) ?_
      rintro k ⟨hk, ht⟩
      show Jc _ _ [(0, .slice A n c), (1, .slice B m c2), (5, .int .i64 k)] [] _
      refine jc_seq ?_
      refine jc_seq ?_
      refine sc_region ?_
      refine so_pure (opv_move (by rfl)) (by rfl) rfl ?_
      refine so_pure (opv_move (by rfl)) (by rfl) rfl ?_
      refine so_pure (opv_len_slice (by rfl) Try.underlying33) (by rfl) rfl ?_
      refine so_pure (opv_cmp (by rfl) (by rfl) (by rfl)) (by rfl) rfl ?_
      refine jo_nil ?_
      refine jk_then ?_
      refine sk_split (x := 24) (by rfl) (fun h12 => ?_) (fun h12 => ?_)
      · first | have p12 := of_decide_eq_true h12 | have p12 := of_decide_eq_false h12 | have p12 := ndT h12 | have p12 := ndF h12 | have p12 := nbT h12 | have p12 := nbF h12 | have p12 := h12
        refine sc_true (by rfl) h12 ?_
        refine jc_skip ?_
        refine jk_then ?_
        refine jc_seq ?_
        refine jc_block ?_
        refine jc_seq ?_
        have hlt : k < n := by omega
        obtain ⟨_, _, _, _, x, _, _, hxx, _⟩ := hs.get hlt
        refine sc_region ?_
        refine so_pure (opv_move (by rfl)) (by rfl) rfl ?_
        refine so_pure (opv_move (by rfl)) (by rfl) rfl ?_
        refine so_pure (opv_indexAddr_slr (i := k) (by rfl) hs (by rfl) Try.underlying33 ti36 rfl hlt) (by rfl) rfl ?_
        refine so_pure (opv_fieldAddr (by rfl) fld36_3) (by rfl) rfl ?_
        refine so_pure (opv_load_slr (enc := Vol.cells) (u := x) (fo := 3) (v := .slice x.lA x.ln x.lc) (by rfl) na34 rfl hs hxx rfl) (by rfl) rfl ?_
        refine so_pure (opv_len_slice (by rfl) Try.underlying34) (by rfl) rfl ?_
        refine so_pure (opv_cmp (by rfl) (by rfl) (by rfl)) (by rfl) rfl ?_
        refine jo_nil ?_
        refine jk_then ?_
        refine sk_split (x := 33) (by rfl) (fun h18 => ?_) (fun h18 => ?_)
        · first | have p18 := of_decide_eq_true h18 | have p18 := of_decide_eq_false h18 | have p18 := ndT h18 | have p18 := ndF h18 | have p18 := nbT h18 | have p18 := nbF h18 | have p18 := h18
          refine sc_true (by rfl) h18 ?_
          refine jc_seq ?_
          refine sc_region ?_
          refine so_eff (eff_call0 (G := fun u New => u = .bool true ∧ New = []) (by rfl) (by rfl) tx9 (by exact fun w1 hw1 => (live_spec w1).mono (fun _ _ ⟨hv, hst⟩ => ⟨[], ⟨hv, rfl⟩, hst⟩))) (by rfl) rfl ?_
          rintro _ _ ⟨_, ⟨rfl, rfl⟩, rfl⟩
          refine so_pure (opv_assign (by rfl)) (by rfl) rfl ?_
          refine jo_nil ?_
          refine jk_then ?_
          refine jc_ret ?_
          refine jk_block_ret ?_
          refine jk_then_ret ?_
          refine jk_then_ret ?_
          refine jk_block_ret ?_
          refine jk_then_ret ?_
          refine jk_fn_ret rfl rfl (by rfl) (fun w hw => ?_)
          exact ⟨rfl, hw.forget⟩
        · first | have p18 := of_decide_eq_true h18 | have p18 := of_decide_eq_false h18 | have p18 := ndT h18 | have p18 := ndF h18 | have p18 := nbT h18 | have p18 := nbF h18 | have p18 := h18
          refine sc_false (by rfl) h18 ?_
          refine jc_skip ?_
          refine jk_block ?_
          refine jk_then ?_
          refine sc_region ?_
          refine so_pure (opv_move (by rfl)) (by rfl) rfl ?_
          refine so_pure (opv_add (by rfl) (by rfl) (wrap64_ok (by omega))) (by rfl) rfl ?_
          refine so_pure (opv_assign (by rfl)) (by rfl) rfl ?_
          refine jo_nil ?_
          refine jk_round (k + 1) ⟨by omega, trivial⟩ (by show n - (k + 1) < n - k; omega) ⟨rfl, rfl, rfl, trivial⟩ (fun w hw => ?_)
          show St _ _ [] _
          exact St.sel hw (by repeat (first | exact Pks.nil _ | exact Pk.here _ | apply Pk.there | apply Pks.cons))
      · first | have p12 := of_decide_eq_true h12 | have p12 := of_decide_eq_false h12 | have p12 := ndT h12 | have p12 := ndF h12 | have p12 := nbT h12 | have p12 := nbF h12 | have p12 := h12
        refine sc_false (by rfl) h12 ?_
        refine jc_exit ?_
        refine jk_then_exit ?_
        refine jk_then_exit ?_
        refine jk_block_exit ?_
        refine jk_then ?_
        refine jc_seq ?_
        refine sc_region ?_
        refine so_pure (opv_move (by rfl)) (by rfl) rfl ?_
        refine so_pure (opv_move (by rfl)) (by rfl) rfl ?_
        refine so_eff (eff_call0 (fl := []) (cl := []) (G := fun v New => v = .tuple #[.int .i64 (evenR (loadL lss) xs).1, .int .i64 (evenR (loadL lss) xs).2.1, .bool (evenR (loadL lss) xs).2.2] ∧ New = []) (by rfl) (by rfl) tx15 (by exact fun w1 hw1 => (even_spec w1 A B n m c c2 vs lss xs (hs.keepSt hw1) (hr.mono (Vr.keep hw1)) (by omega) (hx.keepSt hw1) (by omega)).mono (fun _ _ ⟨hv, hst⟩ => ⟨[], ⟨hv, rfl⟩, hst⟩))) (by rfl) rfl ?_
        rintro _ _ ⟨_, ⟨rfl, rfl⟩, rfl⟩
        refine so_pure (opv_move (by rfl)) (by rfl) rfl ?_
        refine so_pure (opv_extract (by rfl) (by rfl)) (by rfl) rfl ?_
        refine so_pure (opv_extract (by rfl) (by rfl)) (by rfl) rfl ?_
        refine so_pure (opv_extract (by rfl) (by rfl)) (by rfl) rfl ?_
        refine so_pure (opv_assign (by rfl)) (by rfl) rfl ?_
        refine so_pure (opv_assign (by rfl)) (by rfl) rfl ?_
        refine so_pure (opv_assign (by rfl)) (by rfl) rfl ?_
        refine jo_nil ?_
        refine jk_then ?_
        refine jc_seq ?_
        refine sc_region ?_
        refine so_pure (opv_move (by rfl)) (by rfl) rfl ?_
        refine so_pure (opv_move (by rfl)) (by rfl) rfl ?_
        refine so_eff (eff_call0 (fl := []) (cl := []) (G := fun v New => v = .tuple #[.int .i64 (evenR (loadL lss) xs).1, .int .i64 (evenR (loadL lss) xs).2.1, .bool (evenR (loadL lss) xs).2.2] ∧ New = []) (by rfl) (by rfl) tx16 (by exact fun w1 hw1 => (refeven_spec w1 A B n m c c2 vs lss xs (hs.keepSt hw1) (hr.mono (Vr.keep hw1)) (by omega) (hx.keepSt hw1) (by omega)).mono (fun _ _ ⟨hv, hst⟩ => ⟨[], ⟨hv, rfl⟩, hst⟩))) (by rfl) rfl ?_
        rintro _ _ ⟨_, ⟨rfl, rfl⟩, rfl⟩
        refine so_pure (opv_move (by rfl)) (by rfl) rfl ?_
        refine so_pure (opv_extract (by rfl) (by rfl)) (by rfl) rfl ?_
        refine so_pure (opv_extract (by rfl) (by rfl)) (by rfl) rfl ?_
        refine so_pure (opv_extract (by rfl) (by rfl)) (by rfl) rfl ?_
        refine so_pure (opv_assign (by rfl)) (by rfl) rfl ?_
        refine so_pure (opv_assign (by rfl)) (by rfl) rfl ?_
        refine so_pure (opv_assign (by rfl)) (by rfl) rfl ?_
        refine jo_nil ?_
        refine jk_then ?_
        refine jc_seq ?_
        refine sc_region ?_
        refine so_pure (opv_move (by rfl)) (by rfl) rfl ?_
        refine so_eff (eff_call0 (fl := []) (cl := []) (G := fun v New => ∃ lb, v = .slice (some ⟨lb, 0, none⟩) 12 12 ∧ New = [own (.slice (some ⟨lb, 0, none⟩) 12 12) 3 1 12 ((loadL lss).flatMap ic)]) (by rfl) (by rfl) tx17 (by exact fun w1 hw1 => (load_spec w1 A n c vs lss (hs.keepSt hw1) (hr.mono (Vr.keep hw1)) (by omega)).mono (fun _ _ ⟨lb, m, hv, _, _, hst⟩ => ⟨_, ⟨lb, hv, rfl⟩, hst⟩))) (by rfl) rfl ?_
        rintro _ _ ⟨_, ⟨l1, rfl, rfl⟩, rfl⟩
        refine so_pure (opv_move (by rfl)) (by rfl) rfl ?_
        refine so_eff (eff_call0 (fl := []) (cl := []) (G := fun v New => ∃ lb, v = .slice (some ⟨lb, 0, none⟩) 12 12 ∧ New = [own (.slice (some ⟨lb, 0, none⟩) 12 12) 3 1 12 ((loadL lss).flatMap ic)]) (by rfl) (by rfl) tx18 (by exact fun w1 hw1 => (refload_spec w1 A n c vs lss (hs.keepSt hw1) (hr.mono (Vr.keep hw1)) (by omega)).mono (fun _ _ ⟨lb, m, hv, _, _, hst⟩ => ⟨_, ⟨lb, hv, rfl⟩, hst⟩))) (by rfl) rfl ?_
        rintro _ _ ⟨_, ⟨l2, rfl, rfl⟩, rfl⟩
        refine so_eff (eff_call0 (fl := []) (cl := []) (G := fun v New => v = .bool true ∧ New = []) (by rfl) (by rfl) tx14 (by exact fun w1 hw1 => (ints_spec w1 (some ⟨l1, 0, none⟩) (some ⟨l2, 0, none⟩) 12 12 12 12 (loadL lss) (loadL lss) (St.slr ic_len hw1 (by repeat (first | exact Pk.here _ | apply Pk.there)) hl12.symm) (St.slr ic_len hw1 (by repeat (first | exact Pk.here _ | apply Pk.there)) hl12.symm) (by omega)).mono (fun _ _ ⟨hv, hst⟩ => ⟨[], ⟨hv.trans (by simp), rfl⟩, hst⟩))) (by rfl) rfl ?_
        rintro _ _ ⟨_, ⟨rfl, rfl⟩, rfl⟩
        refine so_pure (opv_move (by rfl)) (by rfl) rfl ?_
        refine so_pure (opv_move (by rfl)) (wtd_run rfl rfl (by rfl) rfl) rfl ?_
        refine so_pure (opv_move (by rfl)) (wtd_run rfl rfl (by rfl) rfl) rfl ?_
        refine so_pure (opv_cmp (b := true) (by rfl) (by rfl) (by exact congrArg some (decide_eq_true rfl))) (wtd_run rfl rfl (by rfl) rfl) rfl ?_
        refine so_pure (sv_pick_t (by rfl) rfl (by rfl)) (by rfl) rfl ?_
        refine so_pure (opv_move (by rfl)) (by rfl) rfl ?_
        refine so_pure (opv_move (by rfl)) (wtd_run rfl rfl (by rfl) rfl) rfl ?_
        refine so_pure (opv_move (by rfl)) (wtd_run rfl rfl (by rfl) rfl) rfl ?_
        refine so_pure (opv_cmp (b := true) (by rfl) (by rfl) (by exact congrArg some (decide_eq_true rfl))) (wtd_run rfl rfl (by rfl) rfl) rfl ?_
        refine so_pure (sv_pick_t (by rfl) rfl (by rfl)) (by rfl) rfl ?_
        refine so_pure (opv_move (by rfl)) (by rfl) rfl ?_
        refine so_pure (opv_move (by rfl)) (wtd_run rfl rfl (by rfl) rfl) rfl ?_
        refine so_pure (opv_move (by rfl)) (wtd_run rfl rfl (by rfl) rfl) rfl ?_
        refine so_pure (opv_beq_same (by rfl) (by rfl) Try.underlying4) (wtd_run rfl rfl (by rfl) rfl) rfl ?_
        refine so_pure (sv_pick_t (by rfl) rfl (by rfl)) (by rfl) rfl ?_
        refine so_pure (opv_move (by rfl)) (by rfl) rfl ?_
        refine so_eff (eff_call0 (G := fun u New => u = .bool true ∧ New = []) (by rfl) (by rfl) tx9 (by exact fun w1 hw1 => (live_spec w1).mono (fun _ _ ⟨hv, hst⟩ => ⟨[], ⟨hv, rfl⟩, hst⟩))) (wtd_run rfl rfl (by rfl) rfl) rfl ?_
        rintro _ _ ⟨_, ⟨rfl, rfl⟩, rfl⟩
        refine so_pure (sv_pick_t (by rfl) rfl (by rfl)) (by rfl) rfl ?_
        refine so_pure (opv_assign (by rfl)) (by rfl) rfl ?_
        refine jo_nil ?_
        refine jk_then ?_
        refine jc_ret ?_
        refine jk_fn_ret rfl rfl (by rfl) (fun w hw => ?_)
        exact ⟨rfl, hw.forget⟩
end Go.Place
