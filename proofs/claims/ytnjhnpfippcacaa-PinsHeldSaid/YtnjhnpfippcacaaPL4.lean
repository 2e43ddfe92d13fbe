/- A part of a proof for the laws of the seat Ytnjhnpfippcacaa; it has no conditions of its own. -/
import Derived.Test.YtnjhnpfippcacaaPW15
import Derived.Test.YtnjhnpfippcacaaPPlain
import Derived.Test.YtnjhnpfippcacaaPFits
namespace Go.Pins
open Go Go.SL Go.Proofs
set_option maxHeartbeats 4000000 in
theorem law_held (w : World) (x y : Vol) (many : Int) (hx : VolOk w x) (hy : VolOk w y) : Does Try.prog 4 #[.agg #[.int .i64 x.id, .int .i64 x.gen, .int .i64 x.size, .slice x.lA x.ln x.lc], .int .i64 many, .agg #[.int .i64 y.id, .int .i64 y.gen, .int .i64 y.size, .slice y.lA y.ln y.lc]] w (fun v w' => v = .bool true ∧ St w Emp [] w') := by
  refine fn_body (fn := Try.f4) Try.func4 rfl [(0, .agg #[.int .i64 x.id, .int .i64 x.gen, .int .i64 x.size, .slice x.lA x.ln x.lc]), (1, .int .i64 many), (2, .agg #[.int .i64 y.id, .int .i64 y.gen, .int .i64 y.size, .slice y.lA y.ln y.lc])] (by exact ⟨rfl, rfl, rfl, trivial⟩) rfl (St.start w) ?_
  refine jc_seq ?_
  refine sc_region ?_
  refine so_eff (eff_box (by rfl) rfl) (by rfl) rfl ?_
  rintro _ _ ⟨b3, rfl, rfl⟩
  refine so_eff (eff_box (by rfl) rfl) (by rfl) rfl ?_
  rintro _ _ ⟨b5, rfl, rfl⟩
  refine so_pure (opv_assign (by rfl)) (by rfl) rfl ?_
  refine jo_nil ?_
  refine jk_then ?_
  refine jc_seq ?_
  refine jc_seq ?_
  refine sc_region ?_
  refine so_pure (opv_move (by rfl)) (by rfl) rfl ?_
  refine so_pure (opv_cmp (by rfl) (by rfl) (by rfl)) (by rfl) rfl ?_
  refine so_pure (opv_move (by rfl)) (by rfl) rfl ?_
  refine sk_split (x := 14) (by rfl) (fun h6 => ?_) (fun h6 => ?_)
  · first | have p6 := of_decide_eq_true h6 | have p6 := of_decide_eq_false h6 | have p6 := ndT h6 | have p6 := ndF h6 | have p6 := nbT h6 | have p6 := nbF h6 | have p6 := h6
    refine so_skip (wtd_not rfl rfl (by rfl) h6) rfl ?_
    refine so_skip (wtd_not rfl rfl (by rfl) h6) rfl ?_
    refine so_pure (sv_pick_t (by rfl) h6 (by rfl)) (by rfl) rfl ?_
    refine so_pure (opv_move (by rfl)) (by rfl) rfl ?_
    refine so_skip (wtd_not rfl rfl (by rfl) rfl) rfl ?_
    refine so_skip (wtd_not rfl rfl (by rfl) rfl) rfl ?_
    refine so_skip (wtd_not rfl rfl (by rfl) rfl) rfl ?_
    refine so_skip (wtd_not rfl rfl (by rfl) rfl) rfl ?_
    refine so_pure (sv_pick_t (by rfl) rfl (by rfl)) (by rfl) rfl ?_
    refine so_pure (opv_move (by rfl)) (by rfl) rfl ?_
    refine so_skip (wtd_not rfl rfl (by rfl) rfl) rfl ?_
    refine so_skip (wtd_not rfl rfl (by rfl) rfl) rfl ?_
    refine so_skip (wtd_not rfl rfl (by rfl) rfl) rfl ?_
    refine so_skip (wtd_not rfl rfl (by rfl) rfl) rfl ?_
    refine so_pure (sv_pick_t (by rfl) rfl (by rfl)) (by rfl) rfl ?_
    refine jo_nil ?_
    refine jk_then ?_
    refine sc_true (by rfl) rfl ?_
    refine jc_seq ?_
    refine sc_region ?_
    refine so_eff (eff_call0 (G := fun u New => u = .bool true ∧ New = []) (by rfl) (by rfl) tx8 (by exact fun w1 hw1 => (live_spec w1).mono (fun _ _ ⟨hv, hst⟩ => ⟨[], ⟨hv, rfl⟩, hst⟩))) (by rfl) rfl ?_
    rintro _ _ ⟨_, ⟨rfl, rfl⟩, rfl⟩
    refine so_pure (opv_assign (by rfl)) (by rfl) rfl ?_
    refine jo_nil ?_
    refine jk_then ?_
    refine jc_ret ?_
    refine jk_then_ret ?_
    refine jk_fn_ret rfl rfl (by rfl) (fun w hw => ?_)
    exact ⟨rfl, hw.forget⟩
  · first | have p6 := of_decide_eq_true h6 | have p6 := of_decide_eq_false h6 | have p6 := ndT h6 | have p6 := ndF h6 | have p6 := nbT h6 | have p6 := nbF h6 | have p6 := h6
    refine so_pure (opv_move (by rfl)) (wtd_run rfl rfl (by rfl) h6) rfl ?_
    refine so_pure (opv_cmp (by rfl) (by rfl) (by rfl)) (wtd_run rfl rfl (by rfl) h6) rfl ?_
    refine so_pure (sv_pick_f (by rfl) h6 (by rfl)) (by rfl) rfl ?_
    refine so_pure (opv_move (by rfl)) (by rfl) rfl ?_
    refine sk_split (x := 18) (by rfl) (fun h8 => ?_) (fun h8 => ?_)
    · first | have p8 := of_decide_eq_true h8 | have p8 := of_decide_eq_false h8 | have p8 := ndT h8 | have p8 := ndF h8 | have p8 := nbT h8 | have p8 := nbF h8 | have p8 := h8
      refine so_skip (wtd_not rfl rfl (by rfl) h8) rfl ?_
      refine so_skip (wtd_not rfl rfl (by rfl) h8) rfl ?_
      refine so_skip (wtd_not rfl rfl (by rfl) h8) rfl ?_
      refine so_skip (wtd_not rfl rfl (by rfl) h8) rfl ?_
      refine so_pure (sv_pick_t (by rfl) h8 (by rfl)) (by rfl) rfl ?_
      refine so_pure (opv_move (by rfl)) (by rfl) rfl ?_
      refine so_skip (wtd_not rfl rfl (by rfl) rfl) rfl ?_
      refine so_skip (wtd_not rfl rfl (by rfl) rfl) rfl ?_
      refine so_skip (wtd_not rfl rfl (by rfl) rfl) rfl ?_
      refine so_skip (wtd_not rfl rfl (by rfl) rfl) rfl ?_
      refine so_pure (sv_pick_t (by rfl) rfl (by rfl)) (by rfl) rfl ?_
      refine jo_nil ?_
      refine jk_then ?_
      refine sc_true (by rfl) rfl ?_
      refine jc_seq ?_
      refine sc_region ?_
      refine so_eff (eff_call0 (G := fun u New => u = .bool true ∧ New = []) (by rfl) (by rfl) tx8 (by exact fun w1 hw1 => (live_spec w1).mono (fun _ _ ⟨hv, hst⟩ => ⟨[], ⟨hv, rfl⟩, hst⟩))) (by rfl) rfl ?_
      rintro _ _ ⟨_, ⟨rfl, rfl⟩, rfl⟩
      refine so_pure (opv_assign (by rfl)) (by rfl) rfl ?_
      refine jo_nil ?_
      refine jk_then ?_
      refine jc_ret ?_
      refine jk_then_ret ?_
      refine jk_fn_ret rfl rfl (by rfl) (fun w hw => ?_)
      exact ⟨rfl, hw.forget⟩
    · first | have p8 := of_decide_eq_true h8 | have p8 := of_decide_eq_false h8 | have p8 := ndT h8 | have p8 := ndF h8 | have p8 := nbT h8 | have p8 := nbF h8 | have p8 := h8
      refine so_pure (opv_fieldAddr (by rfl) fld33_3) (wtd_run rfl rfl (by rfl) h8) rfl ?_
      refine so_pure (opv_load (by rfl) na31 (rd_pk (by repeat (first | exact Pk.here _ | apply Pk.there))) (by rfl)) (wtd_run rfl rfl (by rfl) h8) rfl ?_
      refine so_pure (opv_len_slice (by rfl) Try.underlying31) (wtd_run rfl rfl (by rfl) h8) rfl ?_
      refine so_pure (opv_cmp (by rfl) (by rfl) (by rfl)) (wtd_run rfl rfl (by rfl) h8) rfl ?_
      refine so_pure (sv_pick_f (by rfl) h8 (by rfl)) (by rfl) rfl ?_
      refine so_pure (opv_move (by rfl)) (by rfl) rfl ?_
      refine sk_split (x := 24) (by rfl) (fun h13 => ?_) (fun h13 => ?_)
      · first | have p13 := of_decide_eq_true h13 | have p13 := of_decide_eq_false h13 | have p13 := ndT h13 | have p13 := ndF h13 | have p13 := nbT h13 | have p13 := nbF h13 | have p13 := h13
        refine so_skip (wtd_not rfl rfl (by rfl) h13) rfl ?_
        refine so_skip (wtd_not rfl rfl (by rfl) h13) rfl ?_
        refine so_skip (wtd_not rfl rfl (by rfl) h13) rfl ?_
        refine so_skip (wtd_not rfl rfl (by rfl) h13) rfl ?_
        refine so_pure (sv_pick_t (by rfl) h13 (by rfl)) (by rfl) rfl ?_
        refine jo_nil ?_
        refine jk_then ?_
        refine sc_true (by rfl) rfl ?_
        refine jc_seq ?_
        refine sc_region ?_
        refine so_eff (eff_call0 (G := fun u New => u = .bool true ∧ New = []) (by rfl) (by rfl) tx8 (by exact fun w1 hw1 => (live_spec w1).mono (fun _ _ ⟨hv, hst⟩ => ⟨[], ⟨hv, rfl⟩, hst⟩))) (by rfl) rfl ?_
        rintro _ _ ⟨_, ⟨rfl, rfl⟩, rfl⟩
        refine so_pure (opv_assign (by rfl)) (by rfl) rfl ?_
        refine jo_nil ?_
        refine jk_then ?_
        refine jc_ret ?_
        refine jk_then_ret ?_
        refine jk_fn_ret rfl rfl (by rfl) (fun w hw => ?_)
        exact ⟨rfl, hw.forget⟩
      · first | have p13 := of_decide_eq_true h13 | have p13 := of_decide_eq_false h13 | have p13 := ndT h13 | have p13 := ndF h13 | have p13 := nbT h13 | have p13 := nbF h13 | have p13 := h13
        refine so_pure (opv_fieldAddr (by rfl) fld33_3) (wtd_run rfl rfl (by rfl) h13) rfl ?_
        refine so_pure (opv_load (by rfl) na31 (rd_pk (by repeat (first | exact Pk.here _ | apply Pk.there))) (by rfl)) (wtd_run rfl rfl (by rfl) h13) rfl ?_
        refine so_pure (opv_len_slice (by rfl) Try.underlying31) (wtd_run rfl rfl (by rfl) h13) rfl ?_
        refine so_pure (opv_cmp (by rfl) (by rfl) (by rfl)) (wtd_run rfl rfl (by rfl) h13) rfl ?_
        refine so_pure (sv_pick_f (by rfl) h13 (by rfl)) (by rfl) rfl ?_
        refine jo_nil ?_
        refine jk_then ?_
        refine sk_split (x := 29) (by rfl) (fun h18 => ?_) (fun h18 => ?_)
        · first | have p18 := of_decide_eq_true h18 | have p18 := of_decide_eq_false h18 | have p18 := ndT h18 | have p18 := ndF h18 | have p18 := nbT h18 | have p18 := nbF h18 | have p18 := h18
          refine sc_true (by rfl) h18 ?_
          refine jc_seq ?_
          refine sc_region ?_
          refine so_eff (eff_call0 (G := fun u New => u = .bool true ∧ New = []) (by rfl) (by rfl) tx8 (by exact fun w1 hw1 => (live_spec w1).mono (fun _ _ ⟨hv, hst⟩ => ⟨[], ⟨hv, rfl⟩, hst⟩))) (by rfl) rfl ?_
          rintro _ _ ⟨_, ⟨rfl, rfl⟩, rfl⟩
          refine so_pure (opv_assign (by rfl)) (by rfl) rfl ?_
          refine jo_nil ?_
          refine jk_then ?_
          refine jc_ret ?_
          refine jk_then_ret ?_
          refine jk_fn_ret rfl rfl (by rfl) (fun w hw => ?_)
          exact ⟨rfl, hw.forget⟩
        · first | have p18 := of_decide_eq_true h18 | have p18 := of_decide_eq_false h18 | have p18 := ndT h18 | have p18 := ndF h18 | have p18 := nbT h18 | have p18 := nbF h18 | have p18 := h18
          refine sc_false (by rfl) h18 ?_
          refine jc_skip ?_
          refine jk_then ?_
          refine jc_seq ?_
          obtain ⟨m, rfl⟩ : ∃ m : Nat, many = m := ⟨many.toNat, by omega⟩
          obtain ⟨r, hv⟩ := hx.rec (by omega)
          obtain ⟨q, hu⟩ := hy.rec (by omega)
          have ek : (x.id, x.gen) = r.key := (hv []).key
          have ek2 : (y.id, y.gen) = q.key := (hu []).key
          refine sc_region ?_
          refine so_eff (eff_call0 (G := fun v New => ∃ bp mb, v = .pointer (some ⟨bp, 0, none⟩) ∧ New = [bunch [], own (.slice none 0 0) 33 4 ([] : List Vol).length (([] : List Vol).flatMap Vol.cells), blk bp (.cells #[.map (some mb), .slice none 0 0] 48 (0, 0)), mapI kvQ mb (mp [])]) (by rfl) (by rfl) tx9 (by exact fun w1 hw1 => (new_spec w1).mono (fun _ _ ⟨bp, mb, hv, hst⟩ => ⟨_, ⟨bp, mb, hv, rfl⟩, (hst.own_nil 33 4).bunch_nil⟩))) (by rfl) rfl ?_
          rintro _ _ ⟨_, ⟨bp, mb, rfl, rfl⟩, rfl⟩
          refine so_pure (opv_assign (by rfl)) (by rfl) rfl ?_
          refine jo_nil ?_
          refine jk_then ?_
          refine jc_seq ?_
          refine jc_seq ?_
          refine sc_region ?_
          refine so_pure (opv_move (by rfl)) (by rfl) rfl ?_
          refine so_pure (opv_ptr_nil (by rfl) (by rfl) Try.underlying24) (by rfl) rfl ?_
          refine jo_nil ?_
          refine jk_then ?_
          refine sc_false (by rfl) rfl ?_
          refine jc_skip ?_
          refine jk_then ?_
          refine jc_seq ?_
          refine jc_seq ?_
          refine sc_region ?_
          refine so_pure (opv_assign (by rfl)) (by rfl) rfl ?_
          refine jo_nil ?_
          refine jk_then ?_
          refine jc_block ?_
          refine jc_loop (σ := Nat × RD) (fun (i, rd) => [(3, .pointer (some ⟨b3, 0, none⟩)), (5, .pointer (some ⟨b5, 0, none⟩)), (1, .int .i64 (m : Int)), (7, .pointer (some ⟨bp, 0, none⟩)), (8, .int .i64 i)]) (fun (i, rd) => [blk b3 (.cells #[.int .i64 x.id, .int .i64 x.gen, .int .i64 x.size, .slice x.lA x.ln x.lc] 33 (0, 0)), blk b5 (.cells #[.int .i64 y.id, .int .i64 y.gen, .int .i64 y.size, .slice y.lA y.ln y.lc] 33 (0, 0)), bunch [], own (.slice none 0 0) 33 4 ([] : List Vol).length (([] : List Vol).flatMap Vol.cells), blk bp (.cells #[.map (some mb), .slice none 0 0] 48 (0, 0)), mapI kvQ mb (mp rd)]) (fun (i, rd) => (i ≤ m) ∧ (Dk rd) ∧ (cntOf rd r.key = i) ∧ (∀ k, k ≠ r.key → cntOf rd k = 0)) (fun (i, rd) => m - i) (0, []) ⟨Nat.zero_le _, dk_nil, rfl, fun _ _ => rfl⟩ ⟨rfl, rfl, rfl, rfl, rfl, trivial⟩ (fun w hw => St.sel hw (by repeat (first | exact Pks.nil _ | exact Pk.here _ | apply Pk.there | apply Pks.cons))) ?_
          rintro ⟨i, rd⟩ ⟨hi, hd, hc, ho⟩
          show Jc _ _ [(3, .pointer (some ⟨b3, 0, none⟩)), (5, .pointer (some ⟨b5, 0, none⟩)), (1, .int .i64 (m : Int)), (7, .pointer (some ⟨bp, 0, none⟩)), (8, .int .i64 i)] [blk b3 (.cells #[.int .i64 x.id, .int .i64 x.gen, .int .i64 x.size, .slice x.lA x.ln x.lc] 33 (0, 0)), blk b5 (.cells #[.int .i64 y.id, .int .i64 y.gen, .int .i64 y.size, .slice y.lA y.ln y.lc] 33 (0, 0)), bunch [], own (.slice none 0 0) 33 4 ([] : List Vol).length (([] : List Vol).flatMap Vol.cells), blk bp (.cells #[.map (some mb), .slice none 0 0] 48 (0, 0)), mapI kvQ mb (mp rd)] _
          refine jc_seq ?_
          refine jc_seq ?_
          refine sc_region ?_
          refine so_pure (opv_move (by rfl)) (by rfl) rfl ?_
          refine so_pure (opv_move (by rfl)) (by rfl) rfl ?_
          refine so_pure (opv_cmp (by rfl) (by rfl) (by rfl)) (by rfl) rfl ?_
          refine jo_nil ?_
          refine jk_then ?_
          refine sk_split (x := 36) (by rfl) (fun h23 => ?_) (fun h23 => ?_)
          · first | have p23 := of_decide_eq_true h23 | have p23 := of_decide_eq_false h23 | have p23 := ndT h23 | have p23 := ndF h23 | have p23 := nbT h23 | have p23 := nbF h23 | have p23 := h23
            refine sc_true (by rfl) h23 ?_
            refine jc_skip ?_
            refine jk_then ?_
            refine jc_seq ?_
            refine jc_block ?_
            have hci : cntOf rd (x.id, x.gen) = i := by rw [ek]; exact hc
            refine sc_region ?_
            refine so_pure (opv_move (by rfl)) (by rfl) rfl ?_
            refine so_pure (opv_fieldAddr (by rfl) fld33_0) (by rfl) rfl ?_
            refine so_pure (opv_load (by rfl) na3 (rd_pk (by repeat (first | exact Pk.here _ | apply Pk.there))) (by rfl)) (by rfl) rfl ?_
            refine so_pure (opv_fieldAddr (by rfl) fld33_1) (by rfl) rfl ?_
            refine so_pure (opv_load (by rfl) na3 (rd_pk (by repeat (first | exact Pk.here _ | apply Pk.there))) (by rfl)) (by rfl) rfl ?_
            refine so_eff (eff_callF [blk bp (.cells #[.map (some mb), (.slice none 0 0)] 48 (0, 0)), mapI kvQ mb (mp rd)] (fl := []) (cl := []) (G := fun v Is' => v = .int .i64 0 ∧ Is' = [blk bp (.cells #[.map (some mb), (.slice none 0 0)] 48 (0, 0)), mapI kvQ mb (mp (setL rd (x.id, x.gen) (cntOf rd (x.id, x.gen) + 1)))]) (by rfl) (by rfl) tx10 (by repeat (first | exact Pks.nil _ | exact Pk.here _ | apply Pk.there | apply Pks.cons)) (by exact fun w1 hw1 => (pin_spec x.id x.gen hw1 (by rw [hci]; omega)).mono (fun _ _ ⟨hv, hst⟩ => ⟨_, ⟨hv, rfl⟩, hst⟩))) (by rfl) rfl ?_
            rintro _ _ ⟨_, ⟨rfl, rfl⟩, rfl⟩
            refine jo_nil ?_
            refine jk_block ?_
            refine jk_then ?_
            refine sc_region ?_
            refine so_pure (opv_move (by rfl)) (by rfl) rfl ?_
            refine so_pure (opv_add (by rfl) (by rfl) (wrap64_ok (by omega))) (by rfl) rfl ?_
            refine so_pure (opv_assign (by rfl)) (by rfl) rfl ?_
            refine jo_nil ?_
            refine jk_round (i + 1, setL rd (x.id, x.gen) (cntOf rd (x.id, x.gen) + 1)) ⟨by omega, dk_set hd _ _, by rw [cnt_set, ek, if_pos rfl, hc], fun k hk => by rw [cnt_set, ek, if_neg hk]; exact ho k hk⟩ (by show m - (i + 1) < m - i; omega) ⟨rfl, rfl, rfl, rfl, rfl, trivial⟩ (fun w hw => ?_)
            show St _ _ [blk b3 (.cells #[.int .i64 x.id, .int .i64 x.gen, .int .i64 x.size, .slice x.lA x.ln x.lc] 33 (0, 0)), blk b5 (.cells #[.int .i64 y.id, .int .i64 y.gen, .int .i64 y.size, .slice y.lA y.ln y.lc] 33 (0, 0)), bunch [], own (.slice none 0 0) 33 4 ([] : List Vol).length (([] : List Vol).flatMap Vol.cells), blk bp (.cells #[.map (some mb), .slice none 0 0] 48 (0, 0)), mapI kvQ mb (mp (setL rd (x.id, x.gen) (cntOf rd (x.id, x.gen) + 1)))] _
            exact St.sel hw (by repeat (first | exact Pks.nil _ | exact Pk.here _ | apply Pk.there | apply Pks.cons))
          · first | have p23 := of_decide_eq_true h23 | have p23 := of_decide_eq_false h23 | have p23 := ndT h23 | have p23 := ndF h23 | have p23 := nbT h23 | have p23 := nbF h23 | have p23 := h23
            refine sc_false (by rfl) h23 ?_
            refine jc_exit ?_
            refine jk_then_exit ?_
            refine jk_then_exit ?_
            refine jk_block_exit ?_
            refine jk_then ?_
            refine jc_seq ?_
            refine sc_region ?_
            refine so_pure (opv_move (by rfl)) (by rfl) rfl ?_
            refine so_pure (opv_load_agg (vs := x.cells) (by rfl) ag33 ti33 (rd_pk (by repeat (first | exact Pk.here _ | apply Pk.there))) (by exact ⟨rfl, rfl, rfl, rfl, trivial⟩) rfl) (by rfl) rfl ?_
            refine so_eff (eff_callF [blk bp (.cells #[.map (some mb), .slice none 0 0] 48 (0, 0)), own (.slice none 0 0) 33 4 ([] : List Vol).length (([] : List Vol).flatMap Vol.cells), bunch []] (fl := []) (cl := []) (G := fun v Is' => ∃ wv' ws' fs', v = .int .i64 (retE [] r) ∧ (∀ b o, getL [] b = some o → getL fs' b = some o) ∧ All2 (Vf w Emp fs') ws' (retL [] r) ∧ Is' = [blk bp (.cells #[.map (some mb), wv'] 48 (0, 0)), own wv' 33 4 ws'.length (ws'.flatMap Vol.cells), bunch fs']) (by rfl) (by rfl) tx14 (by repeat (first | exact Pks.nil _ | exact Pk.here _ | apply Pk.there | apply Pks.cons)) (by exact fun w1 hw1 => (retire2 x r hw1 (ws := []) (show All2 (Vf w Emp []) [] [] from trivial) (hv _) (by exact Nat.zero_le _)).mono (fun _ _ ⟨wv', ws', fs', h1, h2, h3, hst⟩ => ⟨_, ⟨wv', ws', fs', h1, h2, h3, rfl⟩, hst⟩))) (by rfl) rfl ?_
            rintro _ _ ⟨_, ⟨wv, ws, fs, rfl, hsub, ha, rfl⟩, rfl⟩
            rw [show retL [] r = [r] from rfl] at ha
            refine jo_nil ?_
            refine jk_then ?_
            refine jc_seq ?_
            refine jc_seq ?_
            refine sc_region ?_
            refine so_pure (opv_move (by rfl)) (by rfl) rfl ?_
            refine so_pure (opv_assign (by rfl)) (by rfl) rfl ?_
            refine jo_nil ?_
            refine jk_then ?_
            refine jc_block ?_
            refine jc_loop (σ := Nat × RD × Value × List Vol) (fun (i, rd, wv, ws) => [(3, .pointer (some ⟨b3, 0, none⟩)), (5, .pointer (some ⟨b5, 0, none⟩)), (7, .pointer (some ⟨bp, 0, none⟩)), (9, .int .i64 i)]) (fun (i, rd, wv, ws) => [blk b3 (.cells #[.int .i64 x.id, .int .i64 x.gen, .int .i64 x.size, .slice x.lA x.ln x.lc] 33 (0, 0)), blk b5 (.cells #[.int .i64 y.id, .int .i64 y.gen, .int .i64 y.size, .slice y.lA y.ln y.lc] 33 (0, 0)), bunch fs, blk bp (.cells #[.map (some mb), wv] 48 (0, 0)), own wv 33 4 ws.length (ws.flatMap Vol.cells), mapI kvQ mb (mp rd)]) (fun (i, rd, wv, ws) => (i ≤ m) ∧ (Dk rd) ∧ (cntOf rd r.key = i) ∧ (∀ k, k ≠ r.key → cntOf rd k = 0) ∧ (All2 (Vf w Emp fs) ws [r])) (fun (i, rd, wv, ws) => i) (m, rd, wv, ws) ⟨Nat.le_refl _, hd, by rw [hc]; omega, ho, ha⟩ ⟨rfl, rfl, rfl, rfl, trivial⟩ (fun w hw => St.sel hw (by repeat (first | exact Pks.nil _ | exact Pk.here _ | apply Pk.there | apply Pks.cons))) ?_
            rintro ⟨i, rd, wv, ws⟩ ⟨hi, hd, hc, ho, ha⟩
            show Jc _ _ [(3, .pointer (some ⟨b3, 0, none⟩)), (5, .pointer (some ⟨b5, 0, none⟩)), (7, .pointer (some ⟨bp, 0, none⟩)), (9, .int .i64 i)] [blk b3 (.cells #[.int .i64 x.id, .int .i64 x.gen, .int .i64 x.size, .slice x.lA x.ln x.lc] 33 (0, 0)), blk b5 (.cells #[.int .i64 y.id, .int .i64 y.gen, .int .i64 y.size, .slice y.lA y.ln y.lc] 33 (0, 0)), bunch fs, blk bp (.cells #[.map (some mb), wv] 48 (0, 0)), own wv 33 4 ws.length (ws.flatMap Vol.cells), mapI kvQ mb (mp rd)] _
            refine jc_seq ?_
            refine jc_seq ?_
            refine sc_region ?_
            refine so_pure (opv_move (by rfl)) (by rfl) rfl ?_
            refine so_pure (opv_cmp (by rfl) (by rfl) (by rfl)) (by rfl) rfl ?_
            refine jo_nil ?_
            refine jk_then ?_
            refine sk_split (x := 50) (by rfl) (fun h34 => ?_) (fun h34 => ?_)
            · first | have p34 := of_decide_eq_true h34 | have p34 := of_decide_eq_false h34 | have p34 := ndT h34 | have p34 := ndF h34 | have p34 := nbT h34 | have p34 := nbF h34 | have p34 := h34
              refine sc_true (by rfl) h34 ?_
              refine jc_skip ?_
              refine jk_then ?_
              refine jc_seq ?_
              refine jc_block ?_
              refine jc_seq ?_
              have hci : cntOf rd (x.id, x.gen) = i := by rw [ek]; exact hc
              refine sc_region ?_
              refine so_pure (opv_move (by rfl)) (by rfl) rfl ?_
              refine so_pure (opv_fieldAddr (by rfl) fld33_0) (by rfl) rfl ?_
              refine so_pure (opv_load (by rfl) na3 (rd_pk (by repeat (first | exact Pk.here _ | apply Pk.there))) (by rfl)) (by rfl) rfl ?_
              refine so_pure (opv_fieldAddr (by rfl) fld33_1) (by rfl) rfl ?_
              refine so_pure (opv_load (by rfl) na3 (rd_pk (by repeat (first | exact Pk.here _ | apply Pk.there))) (by rfl)) (by rfl) rfl ?_
              refine so_eff (eff_callF [blk bp (.cells #[.map (some mb), wv] 48 (0, 0)), mapI kvQ mb (mp rd)] (fl := []) (cl := []) (G := fun v Is' => v = .int .i64 (cntOf rd (x.id, x.gen)) ∧ Is' = [blk bp (.cells #[.map (some mb), wv] 48 (0, 0)), mapI kvQ mb (mp rd)]) (by rfl) (by rfl) tx20 (by repeat (first | exact Pks.nil _ | exact Pk.here _ | apply Pk.there | apply Pks.cons)) (by exact fun w1 hw1 => (count_spec x.id x.gen hw1).mono (fun _ _ ⟨hv, hst⟩ => ⟨_, ⟨hv, rfl⟩, hst⟩))) (by rfl) rfl ?_
              rintro _ _ ⟨_, ⟨rfl, rfl⟩, rfl⟩
              refine so_pure (opv_move (by rfl)) (by rfl) rfl ?_
              refine so_pure (opv_cmp (b := false) (by rfl) (by rfl) (by exact congrArg some (by rw [hci]; simp))) (by rfl) rfl ?_
              refine so_pure (opv_move (by rfl)) (by rfl) rfl ?_
              refine so_pure (opv_move (by rfl)) (wtd_run rfl rfl (by rfl) rfl) rfl ?_
              refine so_eff (eff_callF [blk bp (.cells #[.map (some mb), wv] 48 (0, 0)), own wv 33 4 ws.length (ws.flatMap Vol.cells), mapI kvQ mb (mp rd)] (fl := []) (cl := []) (G := fun v Is' => ∃ wv' ws' zs, All2 (Vf w Emp fs) ws' ([r].filter (fun y => !noR rd y)) ∧ All2 (Vf w Emp fs) zs ([r].filter (noR rd)) ∧ Is' = [blk bp (.cells #[.map (some mb), wv'] 48 (0, 0)), own wv' 33 4 ws'.length (ws'.flatMap Vol.cells), mapI kvQ mb (mp rd), own v 33 4 zs.length (zs.flatMap Vol.cells)]) (by rfl) (by rfl) tx17 (by repeat (first | exact Pks.nil _ | exact Pk.here _ | apply Pk.there | apply Pks.cons)) (by exact fun w1 hw1 => (reap2 hw1 ha (by rw [ha.len]; simp)).mono (fun _ _ ⟨wv', ws', zs, h1, h2, hst⟩ => ⟨_, ⟨wv', ws', zs, h1, h2, rfl⟩, hst⟩))) (wtd_run rfl rfl (by rfl) rfl) rfl ?_
              rintro lv _ ⟨_, ⟨wv, ws, l, ha, hl, rfl⟩, rfl⟩
              have hnr : noR rd r = false := decide_eq_false (by rw [hc]; omega)
              rw [show [r].filter (fun y => !noR rd y) = [r] by simp [hnr]] at ha
              rw [show [r].filter (noR rd) = [] by simp [hnr]] at hl
              obtain rfl := hl.nil
              refine so_pure (opv_len_own (by rfl) Try.underlying28 (by repeat (first | exact Pk.here _ | apply Pk.there))) (wtd_run rfl rfl (by rfl) rfl) rfl ?_
              refine so_pure (opv_cmp (b := false) (by rfl) (by rfl) (by rfl)) (wtd_run rfl rfl (by rfl) rfl) rfl ?_
              refine so_pure (sv_pick_f (by rfl) rfl (by rfl)) (by rfl) rfl ?_
              refine so_pure (opv_move (by rfl)) (by rfl) rfl ?_
              refine so_pure (opv_move (by rfl)) (wtd_run rfl rfl (by rfl) rfl) rfl ?_
              refine so_pure (opv_fieldAddr (by rfl) fld33_0) (wtd_run rfl rfl (by rfl) rfl) rfl ?_
              refine so_pure (opv_load (by rfl) na3 (rd_pk (by repeat (first | exact Pk.here _ | apply Pk.there))) (by rfl)) (wtd_run rfl rfl (by rfl) rfl) rfl ?_
              refine so_pure (opv_fieldAddr (by rfl) fld33_1) (wtd_run rfl rfl (by rfl) rfl) rfl ?_
              refine so_pure (opv_load (by rfl) na3 (rd_pk (by repeat (first | exact Pk.here _ | apply Pk.there))) (by rfl)) (wtd_run rfl rfl (by rfl) rfl) rfl ?_
              refine so_eff (eff_callF [blk bp (.cells #[.map (some mb), wv] 48 (0, 0)), mapI kvQ mb (mp rd)] (fl := []) (cl := []) (G := fun v Is' => v = .int .i64 (if cntOf rd (x.id, x.gen) = 0 then 9 else 0) ∧ Is' = [blk bp (.cells #[.map (some mb), wv] 48 (0, 0)), mapI kvQ mb (mp (unp rd (x.id, x.gen)))]) (by rfl) (by rfl) tx12 (by repeat (first | exact Pks.nil _ | exact Pk.here _ | apply Pk.there | apply Pks.cons)) (by exact fun w1 hw1 => (unpin_spec x.id x.gen hw1 (by rw [hci]; omega)).mono (fun _ _ ⟨hv, hst⟩ => ⟨_, ⟨hv, rfl⟩, hst⟩))) (wtd_run rfl rfl (by rfl) rfl) rfl ?_
              rintro _ _ ⟨_, ⟨rfl, rfl⟩, rfl⟩
              refine so_pure (opv_cmp (b := false) (by rfl) (by rfl) (by rw [if_neg (by rw [hci]; omega)]; rfl)) (wtd_run rfl rfl (by rfl) rfl) rfl ?_
              refine so_pure (sv_pick_f (by rfl) rfl (by rfl)) (by rfl) rfl ?_
              refine jo_nil ?_
              refine jk_then ?_
              refine sc_false (by rfl) rfl ?_
              refine jc_skip ?_
              refine jk_block ?_
              refine jk_then ?_
              refine sc_region ?_
              refine so_pure (opv_move (by rfl)) (by rfl) rfl ?_
              refine so_pure (opv_sub (by rfl) (by rfl) (wrap64_ok (by omega))) (by rfl) rfl ?_
              rw [show ((i : Int) - 1) = ((i - 1 : Nat) : Int) by omega]
              refine so_pure (opv_assign (by rfl)) (by rfl) rfl ?_
              refine jo_nil ?_
              refine jk_round (i - 1, unp rd (x.id, x.gen), wv, ws) ⟨by omega, dk_unp hd _, by rw [cnt_unp hd, ek, if_pos rfl, hc], fun k hk => by rw [cnt_unp hd, ek, if_neg hk]; exact ho k hk, ha⟩ (by show (i - 1) < i; omega) ⟨rfl, rfl, rfl, rfl, trivial⟩ (fun w hw => ?_)
              show St _ _ [blk b3 (.cells #[.int .i64 x.id, .int .i64 x.gen, .int .i64 x.size, .slice x.lA x.ln x.lc] 33 (0, 0)), blk b5 (.cells #[.int .i64 y.id, .int .i64 y.gen, .int .i64 y.size, .slice y.lA y.ln y.lc] 33 (0, 0)), bunch fs, blk bp (.cells #[.map (some mb), (wv)] 48 (0, 0)), own (wv) 33 4 (ws).length ((ws).flatMap Vol.cells), mapI kvQ mb (mp (unp rd (x.id, x.gen)))] _
              exact St.sel hw (by repeat (first | exact Pks.nil _ | exact Pk.here _ | apply Pk.there | apply Pks.cons))
            · first | have p34 := of_decide_eq_true h34 | have p34 := of_decide_eq_false h34 | have p34 := ndT h34 | have p34 := ndF h34 | have p34 := nbT h34 | have p34 := nbF h34 | have p34 := h34
              refine sc_false (by rfl) h34 ?_
              refine jc_exit ?_
              refine jk_then_exit ?_
              refine jk_then_exit ?_
              refine jk_block_exit ?_
              refine jk_then ?_
              refine jc_seq ?_
              have hi0 : i = 0 := by omega
              refine sc_region ?_
              refine so_pure (opv_move (by rfl)) (by rfl) rfl ?_
              refine so_pure (opv_load_agg (vs := y.cells) (by rfl) ag33 ti33 (rd_pk (by repeat (first | exact Pk.here _ | apply Pk.there))) (by exact ⟨rfl, rfl, rfl, rfl, trivial⟩) rfl) (by rfl) rfl ?_
              refine so_eff (eff_callF [blk bp (.cells #[.map (some mb), wv] 48 (0, 0)), own wv 33 4 ws.length (ws.flatMap Vol.cells), bunch fs] (fl := []) (cl := []) (G := fun v Is' => ∃ wv' ws' fs', v = .int .i64 (retE [r] q) ∧ (∀ b o, getL fs b = some o → getL fs' b = some o) ∧ All2 (Vf w Emp fs') ws' (retL [r] q) ∧ Is' = [blk bp (.cells #[.map (some mb), wv'] 48 (0, 0)), own wv' 33 4 ws'.length (ws'.flatMap Vol.cells), bunch fs']) (by rfl) (by rfl) tx14 (by repeat (first | exact Pks.nil _ | exact Pk.here _ | apply Pk.there | apply Pks.cons)) (by exact fun w1 hw1 => (retire2 y q hw1 ha (hu _) (by rw [ha.len]; simp)).mono (fun _ _ ⟨wv', ws', fs', h1, h2, h3, hst⟩ => ⟨_, ⟨wv', ws', fs', h1, h2, h3, rfl⟩, hst⟩))) (by rfl) rfl ?_
              rintro _ _ ⟨_, ⟨wv, ws, fs, rfl, hsub, ha, rfl⟩, rfl⟩
              refine jo_nil ?_
              refine jk_then ?_
              refine jc_seq ?_
              refine sc_region ?_
              refine so_pure (opv_move (by rfl)) (by rfl) rfl ?_
              refine so_eff (eff_callF [blk bp (.cells #[.map (some mb), wv] 48 (0, 0)), own wv 33 4 ws.length (ws.flatMap Vol.cells), mapI kvQ mb (mp rd)] (fl := []) (cl := []) (G := fun v Is' => ∃ wv' ws' zs, All2 (Vf w Emp fs) ws' ((retL [r] q).filter (fun y => !noR rd y)) ∧ All2 (Vf w Emp fs) zs ((retL [r] q).filter (noR rd)) ∧ Is' = [blk bp (.cells #[.map (some mb), wv'] 48 (0, 0)), own wv' 33 4 ws'.length (ws'.flatMap Vol.cells), mapI kvQ mb (mp rd), own v 33 4 zs.length (zs.flatMap Vol.cells)]) (by rfl) (by rfl) tx17 (by repeat (first | exact Pks.nil _ | exact Pk.here _ | apply Pk.there | apply Pks.cons)) (by exact fun w1 hw1 => (reap2 hw1 ha (by rw [ha.len]; exact Nat.le_trans (retL_len _ _) (by simp))).mono (fun _ _ ⟨wv', ws', zs, h1, h2, hst⟩ => ⟨_, ⟨wv', ws', zs, h1, h2, rfl⟩, hst⟩))) (by rfl) rfl ?_
              rintro lv _ ⟨_, ⟨wv, ws, l, ha, hl, rfl⟩, rfl⟩
              have hall : ∀ z, noR rd z = true := fun z => decide_eq_true (if hz : z.key = r.key then (by rw [hz, hc]; exact hi0) else ho _ hz)
              rw [show (retL [r] q).filter (fun y => !noR rd y) = [] by simp [hall]] at ha
              rw [show (retL [r] q).filter (noR rd) = retL [r] q from List.filter_eq_self.2 (fun z _ => hall z)] at hl
              have hlen := hl.len
              refine so_pure (opv_assign (by rfl)) (by rfl) rfl ?_
              refine jo_nil ?_
              refine jk_then ?_
              refine jc_seq ?_
              refine sc_region ?_
              refine so_pure (opv_assign (by rfl)) (by rfl) rfl ?_
              refine jo_nil ?_
              refine jk_then ?_
              refine jc_seq ?_
              refine jc_seq ?_
              refine sc_region ?_
              refine so_pure (opv_fieldAddr (by rfl) fld33_0) (by rfl) rfl ?_
              refine so_pure (opv_load (by rfl) na3 (rd_pk (by repeat (first | exact Pk.here _ | apply Pk.there))) (by rfl)) (by rfl) rfl ?_
              refine so_pure (opv_fieldAddr (by rfl) fld33_0) (by rfl) rfl ?_
              refine so_pure (opv_load (by rfl) na3 (rd_pk (by repeat (first | exact Pk.here _ | apply Pk.there))) (by rfl)) (by rfl) rfl ?_
              refine so_pure (opv_cmp (by rfl) (by rfl) (by rfl)) (by rfl) rfl ?_
              refine so_pure (opv_move (by rfl)) (by rfl) rfl ?_
              refine sk_split (x := 86) (by rfl) (fun h58 => ?_) (fun h58 => ?_)
              · first | have p58 := of_decide_eq_true h58 | have p58 := of_decide_eq_false h58 | have p58 := ndT h58 | have p58 := ndF h58 | have p58 := nbT h58 | have p58 := nbF h58 | have p58 := h58
                refine so_pure (opv_fieldAddr (by rfl) fld33_1) (wtd_run rfl rfl (by rfl) h58) rfl ?_
                refine so_pure (opv_load (by rfl) na3 (rd_pk (by repeat (first | exact Pk.here _ | apply Pk.there))) (by rfl)) (wtd_run rfl rfl (by rfl) h58) rfl ?_
                refine so_pure (opv_fieldAddr (by rfl) fld33_1) (wtd_run rfl rfl (by rfl) h58) rfl ?_
                refine so_pure (opv_load (by rfl) na3 (rd_pk (by repeat (first | exact Pk.here _ | apply Pk.there))) (by rfl)) (wtd_run rfl rfl (by rfl) h58) rfl ?_
                refine so_pure (opv_cmp (by rfl) (by rfl) (by rfl)) (wtd_run rfl rfl (by rfl) h58) rfl ?_
                refine so_pure (sv_pick_t (by rfl) h58 (by rfl)) (by rfl) rfl ?_
                refine jo_nil ?_
                refine jk_then ?_
                refine sk_split (x := 92) (by rfl) (fun h63 => ?_) (fun h63 => ?_)
                · first | have p63 := of_decide_eq_true h63 | have p63 := of_decide_eq_false h63 | have p63 := ndT h63 | have p63 := ndF h63 | have p63 := nbT h63 | have p63 := nbF h63 | have p63 := h63
                  refine sc_true (by rfl) h63 ?_
                  refine sc_region ?_
                  refine so_pure (opv_assign (by rfl)) (by rfl) rfl ?_
                  refine jo_nil ?_
                  refine jk_then ?_
                  refine jc_seq ?_
                  refine jk_svc (v := lv) (by repeat (first | exact Pk.here _ | apply Pk.there)) (fun lA lc hlv hlc _ => ?_)
                  subst hlv
                  refine so_draw [] (by kernel_rfl) (by kernel_rfl) (by kernel_rfl) rfl (by rfl) (fun hap htm => ?_)
                  refine da_any hap htm (i := 0) (by rfl) (by kernel_rfl) (by rfl) (listed' := #[true, false, false, false, false, false, false, false, false, false, false, false, false, false, false, false, false, false, false, false, false]) (by rfl) (fun _ => (opv_move (by rfl))) (by rfl) rfl ?_
                  refine da_any hap htm (i := 1) (by rfl) (by kernel_rfl) (by rfl) (listed' := #[true, true, false, false, false, false, false, false, false, false, false, false, false, false, false, false, false, false, false, false, false]) (by rfl) (fun _ => (opv_len_slice (by rfl) Try.underlying28)) (by rfl) rfl ?_
                  refine da_any hap htm (i := 2) (by rfl) (by kernel_rfl) (by rfl) (listed' := #[true, true, true, false, false, false, false, false, false, false, false, false, false, false, false, false, false, false, false, false, false]) (by rfl) (fun _ => (opv_move (by rfl))) (by rfl) rfl ?_
                  refine da_any hap htm (i := 3) (by rfl) (by kernel_rfl) (by rfl) (listed' := #[true, true, true, true, false, false, false, false, false, false, false, false, false, false, false, false, false, false, false, false, false]) (by rfl) (fun _ => (opv_cmp (b := true) (by rfl) (by rfl) (by exact congrArg some (decide_eq_true (by rw [hlen]; exact want_one (by rw [← ek, ← ek2]; exact Prod.ext p58 p63)))))) (by rfl) rfl ?_
                  refine da_any hap htm (i := 4) (by rfl) (by kernel_rfl) (by rfl) (listed' := #[true, true, true, true, true, false, false, false, false, false, false, false, false, false, false, false, false, false, false, false, false]) (by rfl) (fun _ => (opv_move (by rfl))) (by rfl) rfl ?_
                  refine da_any hap htm (i := 5) (by rfl) (by kernel_rfl) (by rfl) (listed' := #[true, true, true, true, true, true, false, false, false, false, false, false, false, false, false, false, false, false, false, false, false]) (by rfl) (fun _ => (opv_move (by rfl))) (wtd_run rfl rfl (by rfl) rfl) rfl ?_
                  refine da_any hap htm (i := 6) (by rfl) (by kernel_rfl) (by rfl) (listed' := #[true, true, true, true, true, true, true, false, false, false, false, false, false, false, false, false, false, false, false, false, false]) (by rfl) (fun _ => (opv_slice (l := 0) (h := 1) (by rfl) Try.underlying28 ti33 (by rfl) (by rfl) (by rfl) (by rfl) (by omega) (by have := retL_pos r q; omega))) (wtd_run rfl rfl (by rfl) rfl) rfl ?_
                  refine da_now [8, 9, 10, 11, 12, 13, 14, 15, 16, 17, 18, 19, 20] hap htm (i := 7) (by rfl) (by kernel_rfl) (by rfl) (listed' := #[true, true, true, true, true, true, true, true, false, false, false, false, false, false, false, false, false, false, false, false, false]) (by rfl) (by kernel_rfl) (by kernel_rfl) (opv_load_agg (vs := x.cells) (by rfl) ag33 ti33 (rd_pk (by repeat (first | exact Pk.here _ | apply Pk.there))) (by exact ⟨rfl, rfl, rfl, rfl, trivial⟩) rfl) (wtd_run rfl rfl (by rfl) rfl) rfl ?_
                  refine da_eff (i := 8) (by rfl) (by kernel_rfl) (by rfl) (listed' := #[true, true, true, true, true, true, true, true, true, false, false, false, false, false, false, false, false, false, false, false, false]) (by rfl) (eff_buildSlice (by rfl) (fun w => by exact bsl28_1_0 ..)) (fun _ _ _ _ hw => cw_nil hw) (wtd_run rfl rfl (by rfl) rfl) rfl ?_
                  rintro _ _ ⟨b101, rfl, rfl⟩
                  refine da_eff (i := 9) (by rfl) (by kernel_rfl) (by rfl) (listed' := #[true, true, true, true, true, true, true, true, true, true, false, false, false, false, false, false, false, false, false, false, false]) (by rfl) (eff_call0 (G := fun v New => v = .bool true ∧ New = []) (by rfl) (by rfl) tx16 (by exact fun w1 hw1 => (same_vols w1 _ _ _ 1 _ 1 (l.take 1) [x] [r] [r] (SlR.take (St.slr Vol.cells_len hw1 (by repeat (first | exact Pk.here _ | apply Pk.there)) rfl) (by rw [hlen]; exact retL_pos r q)) (SlR.of_blk hw1 (Pk.here _) rfl (arr_of_take (n := 1) Vol.cells_len rfl rfl)) (by rw [← take1_retL r q]; exact (hl.take 1).mono (Vf.vr hw1 (by repeat (first | exact Pk.here _ | apply Pk.there)))) ⟨(hv fs).vr hw1 (by repeat (first | exact Pk.here _ | apply Pk.there)), trivial⟩ (fun z hz => by obtain ⟨j, hj⟩ := List.getElem?_of_mem hz; obtain ⟨_, _, hz2⟩ := (hl.take 1).get hj; have := hz2.2.2.2.2; omega) (by omega)).mono (fun _ _ ⟨hv, hst⟩ => ⟨[], ⟨hv.trans (by simp), rfl⟩, hst⟩))) (fun _ _ _ _ hw => cw_nil hw) (wtd_run rfl rfl (by rfl) rfl) rfl ?_
                  rintro _ _ ⟨_, ⟨rfl, rfl⟩, rfl⟩
                  refine da_any hap htm (i := 10) (by rfl) (by kernel_rfl) (by rfl) (listed' := #[true, true, true, true, true, true, true, true, true, true, true, false, false, false, false, false, false, false, false, false, false]) (by rfl) (fun _ => (sv_pick_t (by rfl) rfl (by rfl))) (by rfl) rfl ?_
                  refine da_any hap htm (i := 11) (by rfl) (by kernel_rfl) (by rfl) (listed' := #[true, true, true, true, true, true, true, true, true, true, true, true, false, false, false, false, false, false, false, false, false]) (by rfl) (fun _ => (opv_move (by rfl))) (by rfl) rfl ?_
                  refine da_any hap htm (i := 12) (by rfl) (by kernel_rfl) (by rfl) (listed' := #[true, true, true, true, true, true, true, true, true, true, true, true, true, false, false, false, false, false, false, false, false]) (by rfl) (fun _ => (opv_move (by rfl))) (wtd_run rfl rfl (by rfl) rfl) rfl ?_
                  refine da_eff (i := 13) (by rfl) (by kernel_rfl) (by rfl) (listed' := #[true, true, true, true, true, true, true, true, true, true, true, true, true, true, false, false, false, false, false, false, false]) (by rfl) (eff_callF [blk bp (.cells #[.map (some mb), wv] 48 (0, 0)), own wv 33 4 ws.length (ws.flatMap Vol.cells), mapI kvQ mb (mp rd)] (fl := []) (cl := []) (G := fun v Is' => ∃ wv' ws' zs, All2 (Vf w Emp fs) ws' ([].filter (fun y => !noR rd y)) ∧ All2 (Vf w Emp fs) zs ([].filter (noR rd)) ∧ Is' = [blk bp (.cells #[.map (some mb), wv'] 48 (0, 0)), own wv' 33 4 ws'.length (ws'.flatMap Vol.cells), mapI kvQ mb (mp rd), own v 33 4 zs.length (zs.flatMap Vol.cells)]) (by rfl) (by rfl) tx17 (by repeat (first | exact Pks.nil _ | exact Pk.here _ | apply Pk.there | apply Pks.cons)) (by exact fun w1 hw1 => (reap2 hw1 ha (by rw [ha.len]; decide)).mono (fun _ _ ⟨wv', ws', zs, h1, h2, hst⟩ => ⟨_, ⟨wv', ws', zs, h1, h2, rfl⟩, hst⟩))) (fun _ _ _ _ hw => cw_nil hw) (wtd_run rfl rfl (by rfl) rfl) rfl ?_
                  rintro mmv _ ⟨_, ⟨wv, ws, mm, ha, hmm, rfl⟩, rfl⟩
                  obtain rfl := hmm.nil
                  refine ja_svc (v := mmv) (by repeat (first | exact Pk.here _ | apply Pk.there)) (fun mA mc hmv _ _ => ?_)
                  subst hmv
                  refine da_any hap htm (i := 14) (by rfl) (by kernel_rfl) (by rfl) (listed' := #[true, true, true, true, true, true, true, true, true, true, true, true, true, true, true, false, false, false, false, false, false]) (by rfl) (fun _ => (opv_len_slice (by rfl) Try.underlying28)) (wtd_run rfl rfl (by rfl) rfl) rfl ?_
                  refine da_any hap htm (i := 15) (by rfl) (by kernel_rfl) (by rfl) (listed' := #[true, true, true, true, true, true, true, true, true, true, true, true, true, true, true, true, false, false, false, false, false]) (by rfl) (fun _ => (opv_cmp (by rfl) (by rfl) (by rfl))) (wtd_run rfl rfl (by rfl) rfl) rfl ?_
                  refine da_any hap htm (i := 16) (by rfl) (by kernel_rfl) (by rfl) (listed' := #[true, true, true, true, true, true, true, true, true, true, true, true, true, true, true, true, true, false, false, false, false]) (by rfl) (fun _ => (sv_pick_t (by rfl) rfl (by rfl))) (by rfl) rfl ?_
                  refine da_any hap htm (i := 17) (by rfl) (by kernel_rfl) (by rfl) (listed' := #[true, true, true, true, true, true, true, true, true, true, true, true, true, true, true, true, true, true, false, false, false]) (by rfl) (fun _ => (opv_move (by rfl))) (by rfl) rfl ?_
                  refine da_eff (i := 18) (by rfl) (by kernel_rfl) (by rfl) (listed' := #[true, true, true, true, true, true, true, true, true, true, true, true, true, true, true, true, true, true, true, false, false]) (by rfl) (eff_call0 (G := fun u New => u = .bool true ∧ New = []) (by rfl) (by rfl) tx8 (by exact fun w1 hw1 => (live_spec w1).mono (fun _ _ ⟨hv, hst⟩ => ⟨[], ⟨hv, rfl⟩, hst⟩))) (fun _ _ _ _ hw => cw_nil hw) (wtd_run rfl rfl (by rfl) rfl) rfl ?_
                  rintro _ _ ⟨_, ⟨rfl, rfl⟩, rfl⟩
                  refine da_any hap htm (i := 19) (by rfl) (by kernel_rfl) (by rfl) (listed' := #[true, true, true, true, true, true, true, true, true, true, true, true, true, true, true, true, true, true, true, true, false]) (by rfl) (fun _ => (sv_pick_t (by rfl) rfl (by rfl))) (by rfl) rfl ?_
                  refine da_any hap htm (i := 20) (by rfl) (by kernel_rfl) (by rfl) (listed' := #[true, true, true, true, true, true, true, true, true, true, true, true, true, true, true, true, true, true, true, true, true]) (by rfl) (fun _ => (opv_assign (by rfl))) (by rfl) rfl ?_
                  refine da_done (by kernel_rfl) ?_
                  refine jk_then ?_
                  refine jc_ret ?_
                  refine jk_fn_ret rfl rfl (by rfl) (fun w hw => ?_)
                  exact ⟨rfl, hw.forget⟩
                · first | have p63 := of_decide_eq_true h63 | have p63 := of_decide_eq_false h63 | have p63 := ndT h63 | have p63 := ndF h63 | have p63 := nbT h63 | have p63 := nbF h63 | have p63 := h63
                  refine sc_false (by rfl) h63 ?_
                  refine jc_skip ?_
                  refine jk_then ?_
                  refine jc_seq ?_
                  refine jk_svc (v := lv) (by repeat (first | exact Pk.here _ | apply Pk.there)) (fun lA lc hlv hlc _ => ?_)
                  subst hlv
                  refine so_draw [] (by kernel_rfl) (by kernel_rfl) (by kernel_rfl) rfl (by rfl) (fun hap htm => ?_)
                  refine da_any hap htm (i := 0) (by rfl) (by kernel_rfl) (by rfl) (listed' := #[true, false, false, false, false, false, false, false, false, false, false, false, false, false, false, false, false, false, false, false, false]) (by rfl) (fun _ => (opv_move (by rfl))) (by rfl) rfl ?_
                  refine da_any hap htm (i := 1) (by rfl) (by kernel_rfl) (by rfl) (listed' := #[true, true, false, false, false, false, false, false, false, false, false, false, false, false, false, false, false, false, false, false, false]) (by rfl) (fun _ => (opv_len_slice (by rfl) Try.underlying28)) (by rfl) rfl ?_
                  refine da_any hap htm (i := 2) (by rfl) (by kernel_rfl) (by rfl) (listed' := #[true, true, true, false, false, false, false, false, false, false, false, false, false, false, false, false, false, false, false, false, false]) (by rfl) (fun _ => (opv_move (by rfl))) (by rfl) rfl ?_
                  refine da_any hap htm (i := 3) (by rfl) (by kernel_rfl) (by rfl) (listed' := #[true, true, true, true, false, false, false, false, false, false, false, false, false, false, false, false, false, false, false, false, false]) (by rfl) (fun _ => (opv_cmp (b := true) (by rfl) (by rfl) (by exact congrArg some (decide_eq_true (by rw [hlen]; exact want_two (by rw [← ek, ← ek2]; exact fun h => p63 (congrArg Prod.snd h))))))) (by rfl) rfl ?_
                  refine da_any hap htm (i := 4) (by rfl) (by kernel_rfl) (by rfl) (listed' := #[true, true, true, true, true, false, false, false, false, false, false, false, false, false, false, false, false, false, false, false, false]) (by rfl) (fun _ => (opv_move (by rfl))) (by rfl) rfl ?_
                  refine da_any hap htm (i := 5) (by rfl) (by kernel_rfl) (by rfl) (listed' := #[true, true, true, true, true, true, false, false, false, false, false, false, false, false, false, false, false, false, false, false, false]) (by rfl) (fun _ => (opv_move (by rfl))) (wtd_run rfl rfl (by rfl) rfl) rfl ?_
                  refine da_any hap htm (i := 6) (by rfl) (by kernel_rfl) (by rfl) (listed' := #[true, true, true, true, true, true, true, false, false, false, false, false, false, false, false, false, false, false, false, false, false]) (by rfl) (fun _ => (opv_slice (l := 0) (h := 1) (by rfl) Try.underlying28 ti33 (by rfl) (by rfl) (by rfl) (by rfl) (by omega) (by have := retL_pos r q; omega))) (wtd_run rfl rfl (by rfl) rfl) rfl ?_
                  refine da_now [8, 9, 10, 11, 12, 13, 14, 15, 16, 17, 18, 19, 20] hap htm (i := 7) (by rfl) (by kernel_rfl) (by rfl) (listed' := #[true, true, true, true, true, true, true, true, false, false, false, false, false, false, false, false, false, false, false, false, false]) (by rfl) (by kernel_rfl) (by kernel_rfl) (opv_load_agg (vs := x.cells) (by rfl) ag33 ti33 (rd_pk (by repeat (first | exact Pk.here _ | apply Pk.there))) (by exact ⟨rfl, rfl, rfl, rfl, trivial⟩) rfl) (wtd_run rfl rfl (by rfl) rfl) rfl ?_
                  refine da_eff (i := 8) (by rfl) (by kernel_rfl) (by rfl) (listed' := #[true, true, true, true, true, true, true, true, true, false, false, false, false, false, false, false, false, false, false, false, false]) (by rfl) (eff_buildSlice (by rfl) (fun w => by exact bsl28_1_0 ..)) (fun _ _ _ _ hw => cw_nil hw) (wtd_run rfl rfl (by rfl) rfl) rfl ?_
                  rintro _ _ ⟨b101, rfl, rfl⟩
                  refine da_eff (i := 9) (by rfl) (by kernel_rfl) (by rfl) (listed' := #[true, true, true, true, true, true, true, true, true, true, false, false, false, false, false, false, false, false, false, false, false]) (by rfl) (eff_call0 (G := fun v New => v = .bool true ∧ New = []) (by rfl) (by rfl) tx16 (by exact fun w1 hw1 => (same_vols w1 _ _ _ 1 _ 1 (l.take 1) [x] [r] [r] (SlR.take (St.slr Vol.cells_len hw1 (by repeat (first | exact Pk.here _ | apply Pk.there)) rfl) (by rw [hlen]; exact retL_pos r q)) (SlR.of_blk hw1 (Pk.here _) rfl (arr_of_take (n := 1) Vol.cells_len rfl rfl)) (by rw [← take1_retL r q]; exact (hl.take 1).mono (Vf.vr hw1 (by repeat (first | exact Pk.here _ | apply Pk.there)))) ⟨(hv fs).vr hw1 (by repeat (first | exact Pk.here _ | apply Pk.there)), trivial⟩ (fun z hz => by obtain ⟨j, hj⟩ := List.getElem?_of_mem hz; obtain ⟨_, _, hz2⟩ := (hl.take 1).get hj; have := hz2.2.2.2.2; omega) (by omega)).mono (fun _ _ ⟨hv, hst⟩ => ⟨[], ⟨hv.trans (by simp), rfl⟩, hst⟩))) (fun _ _ _ _ hw => cw_nil hw) (wtd_run rfl rfl (by rfl) rfl) rfl ?_
                  rintro _ _ ⟨_, ⟨rfl, rfl⟩, rfl⟩
                  refine da_any hap htm (i := 10) (by rfl) (by kernel_rfl) (by rfl) (listed' := #[true, true, true, true, true, true, true, true, true, true, true, false, false, false, false, false, false, false, false, false, false]) (by rfl) (fun _ => (sv_pick_t (by rfl) rfl (by rfl))) (by rfl) rfl ?_
                  refine da_any hap htm (i := 11) (by rfl) (by kernel_rfl) (by rfl) (listed' := #[true, true, true, true, true, true, true, true, true, true, true, true, false, false, false, false, false, false, false, false, false]) (by rfl) (fun _ => (opv_move (by rfl))) (by rfl) rfl ?_
                  refine da_any hap htm (i := 12) (by rfl) (by kernel_rfl) (by rfl) (listed' := #[true, true, true, true, true, true, true, true, true, true, true, true, true, false, false, false, false, false, false, false, false]) (by rfl) (fun _ => (opv_move (by rfl))) (wtd_run rfl rfl (by rfl) rfl) rfl ?_
                  refine da_eff (i := 13) (by rfl) (by kernel_rfl) (by rfl) (listed' := #[true, true, true, true, true, true, true, true, true, true, true, true, true, true, false, false, false, false, false, false, false]) (by rfl) (eff_callF [blk bp (.cells #[.map (some mb), wv] 48 (0, 0)), own wv 33 4 ws.length (ws.flatMap Vol.cells), mapI kvQ mb (mp rd)] (fl := []) (cl := []) (G := fun v Is' => ∃ wv' ws' zs, All2 (Vf w Emp fs) ws' ([].filter (fun y => !noR rd y)) ∧ All2 (Vf w Emp fs) zs ([].filter (noR rd)) ∧ Is' = [blk bp (.cells #[.map (some mb), wv'] 48 (0, 0)), own wv' 33 4 ws'.length (ws'.flatMap Vol.cells), mapI kvQ mb (mp rd), own v 33 4 zs.length (zs.flatMap Vol.cells)]) (by rfl) (by rfl) tx17 (by repeat (first | exact Pks.nil _ | exact Pk.here _ | apply Pk.there | apply Pks.cons)) (by exact fun w1 hw1 => (reap2 hw1 ha (by rw [ha.len]; decide)).mono (fun _ _ ⟨wv', ws', zs, h1, h2, hst⟩ => ⟨_, ⟨wv', ws', zs, h1, h2, rfl⟩, hst⟩))) (fun _ _ _ _ hw => cw_nil hw) (wtd_run rfl rfl (by rfl) rfl) rfl ?_
                  rintro mmv _ ⟨_, ⟨wv, ws, mm, ha, hmm, rfl⟩, rfl⟩
                  obtain rfl := hmm.nil
                  refine ja_svc (v := mmv) (by repeat (first | exact Pk.here _ | apply Pk.there)) (fun mA mc hmv _ _ => ?_)
                  subst hmv
                  refine da_any hap htm (i := 14) (by rfl) (by kernel_rfl) (by rfl) (listed' := #[true, true, true, true, true, true, true, true, true, true, true, true, true, true, true, false, false, false, false, false, false]) (by rfl) (fun _ => (opv_len_slice (by rfl) Try.underlying28)) (wtd_run rfl rfl (by rfl) rfl) rfl ?_
                  refine da_any hap htm (i := 15) (by rfl) (by kernel_rfl) (by rfl) (listed' := #[true, true, true, true, true, true, true, true, true, true, true, true, true, true, true, true, false, false, false, false, false]) (by rfl) (fun _ => (opv_cmp (by rfl) (by rfl) (by rfl))) (wtd_run rfl rfl (by rfl) rfl) rfl ?_
                  refine da_any hap htm (i := 16) (by rfl) (by kernel_rfl) (by rfl) (listed' := #[true, true, true, true, true, true, true, true, true, true, true, true, true, true, true, true, true, false, false, false, false]) (by rfl) (fun _ => (sv_pick_t (by rfl) rfl (by rfl))) (by rfl) rfl ?_
                  refine da_any hap htm (i := 17) (by rfl) (by kernel_rfl) (by rfl) (listed' := #[true, true, true, true, true, true, true, true, true, true, true, true, true, true, true, true, true, true, false, false, false]) (by rfl) (fun _ => (opv_move (by rfl))) (by rfl) rfl ?_
                  refine da_eff (i := 18) (by rfl) (by kernel_rfl) (by rfl) (listed' := #[true, true, true, true, true, true, true, true, true, true, true, true, true, true, true, true, true, true, true, false, false]) (by rfl) (eff_call0 (G := fun u New => u = .bool true ∧ New = []) (by rfl) (by rfl) tx8 (by exact fun w1 hw1 => (live_spec w1).mono (fun _ _ ⟨hv, hst⟩ => ⟨[], ⟨hv, rfl⟩, hst⟩))) (fun _ _ _ _ hw => cw_nil hw) (wtd_run rfl rfl (by rfl) rfl) rfl ?_
                  rintro _ _ ⟨_, ⟨rfl, rfl⟩, rfl⟩
                  refine da_any hap htm (i := 19) (by rfl) (by kernel_rfl) (by rfl) (listed' := #[true, true, true, true, true, true, true, true, true, true, true, true, true, true, true, true, true, true, true, true, false]) (by rfl) (fun _ => (sv_pick_t (by rfl) rfl (by rfl))) (by rfl) rfl ?_
                  refine da_any hap htm (i := 20) (by rfl) (by kernel_rfl) (by rfl) (listed' := #[true, true, true, true, true, true, true, true, true, true, true, true, true, true, true, true, true, true, true, true, true]) (by rfl) (fun _ => (opv_assign (by rfl))) (by rfl) rfl ?_
                  refine da_done (by kernel_rfl) ?_
                  refine jk_then ?_
                  refine jc_ret ?_
                  refine jk_fn_ret rfl rfl (by rfl) (fun w hw => ?_)
                  exact ⟨rfl, hw.forget⟩
              · first | have p58 := of_decide_eq_true h58 | have p58 := of_decide_eq_false h58 | have p58 := ndT h58 | have p58 := ndF h58 | have p58 := nbT h58 | have p58 := nbF h58 | have p58 := h58
                refine so_skip (wtd_not rfl rfl (by rfl) h58) rfl ?_
                refine so_skip (wtd_not rfl rfl (by rfl) h58) rfl ?_
                refine so_skip (wtd_not rfl rfl (by rfl) h58) rfl ?_
                refine so_skip (wtd_not rfl rfl (by rfl) h58) rfl ?_
                refine so_skip (wtd_not rfl rfl (by rfl) h58) rfl ?_
                refine so_pure (sv_pick_f (by rfl) h58 (by rfl)) (by rfl) rfl ?_
                refine jo_nil ?_
                refine jk_then ?_
                refine sc_false (by rfl) rfl ?_
                refine jc_skip ?_
                refine jk_then ?_
                refine jc_seq ?_
                refine jk_svc (v := lv) (by repeat (first | exact Pk.here _ | apply Pk.there)) (fun lA lc hlv hlc _ => ?_)
                subst hlv
                refine so_draw [] (by kernel_rfl) (by kernel_rfl) (by kernel_rfl) rfl (by rfl) (fun hap htm => ?_)
                refine da_any hap htm (i := 0) (by rfl) (by kernel_rfl) (by rfl) (listed' := #[true, false, false, false, false, false, false, false, false, false, false, false, false, false, false, false, false, false, false, false, false]) (by rfl) (fun _ => (opv_move (by rfl))) (by rfl) rfl ?_
                refine da_any hap htm (i := 1) (by rfl) (by kernel_rfl) (by rfl) (listed' := #[true, true, false, false, false, false, false, false, false, false, false, false, false, false, false, false, false, false, false, false, false]) (by rfl) (fun _ => (opv_len_slice (by rfl) Try.underlying28)) (by rfl) rfl ?_
                refine da_any hap htm (i := 2) (by rfl) (by kernel_rfl) (by rfl) (listed' := #[true, true, true, false, false, false, false, false, false, false, false, false, false, false, false, false, false, false, false, false, false]) (by rfl) (fun _ => (opv_move (by rfl))) (by rfl) rfl ?_
                refine da_any hap htm (i := 3) (by rfl) (by kernel_rfl) (by rfl) (listed' := #[true, true, true, true, false, false, false, false, false, false, false, false, false, false, false, false, false, false, false, false, false]) (by rfl) (fun _ => (opv_cmp (b := true) (by rfl) (by rfl) (by exact congrArg some (decide_eq_true (by rw [hlen]; exact want_two (by rw [← ek, ← ek2]; exact fun h => p58 (congrArg Prod.fst h))))))) (by rfl) rfl ?_
                refine da_any hap htm (i := 4) (by rfl) (by kernel_rfl) (by rfl) (listed' := #[true, true, true, true, true, false, false, false, false, false, false, false, false, false, false, false, false, false, false, false, false]) (by rfl) (fun _ => (opv_move (by rfl))) (by rfl) rfl ?_
                refine da_any hap htm (i := 5) (by rfl) (by kernel_rfl) (by rfl) (listed' := #[true, true, true, true, true, true, false, false, false, false, false, false, false, false, false, false, false, false, false, false, false]) (by rfl) (fun _ => (opv_move (by rfl))) (wtd_run rfl rfl (by rfl) rfl) rfl ?_
                refine da_any hap htm (i := 6) (by rfl) (by kernel_rfl) (by rfl) (listed' := #[true, true, true, true, true, true, true, false, false, false, false, false, false, false, false, false, false, false, false, false, false]) (by rfl) (fun _ => (opv_slice (l := 0) (h := 1) (by rfl) Try.underlying28 ti33 (by rfl) (by rfl) (by rfl) (by rfl) (by omega) (by have := retL_pos r q; omega))) (wtd_run rfl rfl (by rfl) rfl) rfl ?_
                refine da_now [8, 9, 10, 11, 12, 13, 14, 15, 16, 17, 18, 19, 20] hap htm (i := 7) (by rfl) (by kernel_rfl) (by rfl) (listed' := #[true, true, true, true, true, true, true, true, false, false, false, false, false, false, false, false, false, false, false, false, false]) (by rfl) (by kernel_rfl) (by kernel_rfl) (opv_load_agg (vs := x.cells) (by rfl) ag33 ti33 (rd_pk (by repeat (first | exact Pk.here _ | apply Pk.there))) (by exact ⟨rfl, rfl, rfl, rfl, trivial⟩) rfl) (wtd_run rfl rfl (by rfl) rfl) rfl ?_
                refine da_eff (i := 8) (by rfl) (by kernel_rfl) (by rfl) (listed' := #[true, true, true, true, true, true, true, true, true, false, false, false, false, false, false, false, false, false, false, false, false]) (by rfl) (eff_buildSlice (by rfl) (fun w => by exact bsl28_1_0 ..)) (fun _ _ _ _ hw => cw_nil hw) (wtd_run rfl rfl (by rfl) rfl) rfl ?_
                rintro _ _ ⟨b101, rfl, rfl⟩
                refine da_eff (i := 9) (by rfl) (by kernel_rfl) (by rfl) (listed' := #[true, true, true, true, true, true, true, true, true, true, false, false, false, false, false, false, false, false, false, false, false]) (by rfl) (eff_call0 (G := fun v New => v = .bool true ∧ New = []) (by rfl) (by rfl) tx16 (by exact fun w1 hw1 => (same_vols w1 _ _ _ 1 _ 1 (l.take 1) [x] [r] [r] (SlR.take (St.slr Vol.cells_len hw1 (by repeat (first | exact Pk.here _ | apply Pk.there)) rfl) (by rw [hlen]; exact retL_pos r q)) (SlR.of_blk hw1 (Pk.here _) rfl (arr_of_take (n := 1) Vol.cells_len rfl rfl)) (by rw [← take1_retL r q]; exact (hl.take 1).mono (Vf.vr hw1 (by repeat (first | exact Pk.here _ | apply Pk.there)))) ⟨(hv fs).vr hw1 (by repeat (first | exact Pk.here _ | apply Pk.there)), trivial⟩ (fun z hz => by obtain ⟨j, hj⟩ := List.getElem?_of_mem hz; obtain ⟨_, _, hz2⟩ := (hl.take 1).get hj; have := hz2.2.2.2.2; omega) (by omega)).mono (fun _ _ ⟨hv, hst⟩ => ⟨[], ⟨hv.trans (by simp), rfl⟩, hst⟩))) (fun _ _ _ _ hw => cw_nil hw) (wtd_run rfl rfl (by rfl) rfl) rfl ?_
                rintro _ _ ⟨_, ⟨rfl, rfl⟩, rfl⟩
                refine da_any hap htm (i := 10) (by rfl) (by kernel_rfl) (by rfl) (listed' := #[true, true, true, true, true, true, true, true, true, true, true, false, false, false, false, false, false, false, false, false, false]) (by rfl) (fun _ => (sv_pick_t (by rfl) rfl (by rfl))) (by rfl) rfl ?_
                refine da_any hap htm (i := 11) (by rfl) (by kernel_rfl) (by rfl) (listed' := #[true, true, true, true, true, true, true, true, true, true, true, true, false, false, false, false, false, false, false, false, false]) (by rfl) (fun _ => (opv_move (by rfl))) (by rfl) rfl ?_
                refine da_any hap htm (i := 12) (by rfl) (by kernel_rfl) (by rfl) (listed' := #[true, true, true, true, true, true, true, true, true, true, true, true, true, false, false, false, false, false, false, false, false]) (by rfl) (fun _ => (opv_move (by rfl))) (wtd_run rfl rfl (by rfl) rfl) rfl ?_
                refine da_eff (i := 13) (by rfl) (by kernel_rfl) (by rfl) (listed' := #[true, true, true, true, true, true, true, true, true, true, true, true, true, true, false, false, false, false, false, false, false]) (by rfl) (eff_callF [blk bp (.cells #[.map (some mb), wv] 48 (0, 0)), own wv 33 4 ws.length (ws.flatMap Vol.cells), mapI kvQ mb (mp rd)] (fl := []) (cl := []) (G := fun v Is' => ∃ wv' ws' zs, All2 (Vf w Emp fs) ws' ([].filter (fun y => !noR rd y)) ∧ All2 (Vf w Emp fs) zs ([].filter (noR rd)) ∧ Is' = [blk bp (.cells #[.map (some mb), wv'] 48 (0, 0)), own wv' 33 4 ws'.length (ws'.flatMap Vol.cells), mapI kvQ mb (mp rd), own v 33 4 zs.length (zs.flatMap Vol.cells)]) (by rfl) (by rfl) tx17 (by repeat (first | exact Pks.nil _ | exact Pk.here _ | apply Pk.there | apply Pks.cons)) (by exact fun w1 hw1 => (reap2 hw1 ha (by rw [ha.len]; decide)).mono (fun _ _ ⟨wv', ws', zs, h1, h2, hst⟩ => ⟨_, ⟨wv', ws', zs, h1, h2, rfl⟩, hst⟩))) (fun _ _ _ _ hw => cw_nil hw) (wtd_run rfl rfl (by rfl) rfl) rfl ?_
                rintro mmv _ ⟨_, ⟨wv, ws, mm, ha, hmm, rfl⟩, rfl⟩
                obtain rfl := hmm.nil
                refine ja_svc (v := mmv) (by repeat (first | exact Pk.here _ | apply Pk.there)) (fun mA mc hmv _ _ => ?_)
                subst hmv
                refine da_any hap htm (i := 14) (by rfl) (by kernel_rfl) (by rfl) (listed' := #[true, true, true, true, true, true, true, true, true, true, true, true, true, true, true, false, false, false, false, false, false]) (by rfl) (fun _ => (opv_len_slice (by rfl) Try.underlying28)) (wtd_run rfl rfl (by rfl) rfl) rfl ?_
                refine da_any hap htm (i := 15) (by rfl) (by kernel_rfl) (by rfl) (listed' := #[true, true, true, true, true, true, true, true, true, true, true, true, true, true, true, true, false, false, false, false, false]) (by rfl) (fun _ => (opv_cmp (by rfl) (by rfl) (by rfl))) (wtd_run rfl rfl (by rfl) rfl) rfl ?_
                refine da_any hap htm (i := 16) (by rfl) (by kernel_rfl) (by rfl) (listed' := #[true, true, true, true, true, true, true, true, true, true, true, true, true, true, true, true, true, false, false, false, false]) (by rfl) (fun _ => (sv_pick_t (by rfl) rfl (by rfl))) (by rfl) rfl ?_
                refine da_any hap htm (i := 17) (by rfl) (by kernel_rfl) (by rfl) (listed' := #[true, true, true, true, true, true, true, true, true, true, true, true, true, true, true, true, true, true, false, false, false]) (by rfl) (fun _ => (opv_move (by rfl))) (by rfl) rfl ?_
                refine da_eff (i := 18) (by rfl) (by kernel_rfl) (by rfl) (listed' := #[true, true, true, true, true, true, true, true, true, true, true, true, true, true, true, true, true, true, true, false, false]) (by rfl) (eff_call0 (G := fun u New => u = .bool true ∧ New = []) (by rfl) (by rfl) tx8 (by exact fun w1 hw1 => (live_spec w1).mono (fun _ _ ⟨hv, hst⟩ => ⟨[], ⟨hv, rfl⟩, hst⟩))) (fun _ _ _ _ hw => cw_nil hw) (wtd_run rfl rfl (by rfl) rfl) rfl ?_
                rintro _ _ ⟨_, ⟨rfl, rfl⟩, rfl⟩
                refine da_any hap htm (i := 19) (by rfl) (by kernel_rfl) (by rfl) (listed' := #[true, true, true, true, true, true, true, true, true, true, true, true, true, true, true, true, true, true, true, true, false]) (by rfl) (fun _ => (sv_pick_t (by rfl) rfl (by rfl))) (by rfl) rfl ?_
                refine da_any hap htm (i := 20) (by rfl) (by kernel_rfl) (by rfl) (listed' := #[true, true, true, true, true, true, true, true, true, true, true, true, true, true, true, true, true, true, true, true, true]) (by rfl) (fun _ => (opv_assign (by rfl))) (by rfl) rfl ?_
                refine da_done (by kernel_rfl) ?_
                refine jk_then ?_
                refine jc_ret ?_
                refine jk_fn_ret rfl rfl (by rfl) (fun w hw => ?_)
                exact ⟨rfl, hw.forget⟩
end Go.Pins
