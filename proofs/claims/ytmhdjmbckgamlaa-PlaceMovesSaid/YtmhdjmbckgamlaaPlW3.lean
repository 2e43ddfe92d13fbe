/- A part of a proof for the laws of the seat Ytmhdjmbckgamlaa; it has no conditions of its own. -/
import Derived.Test.YtmhdjmbckgamlaaPlW2
namespace Go.Place
open Go Go.SL Go.Proofs
set_option maxHeartbeats 4000000 in
theorem choose_spec (w : World) (A : Option Addr) (n c : Nat) (xs : List Int) (hs : SlR w 3 1 ic A n xs) (hn : n ≤ 1000000) (id gen : Int) : Does Try.prog 10 #[.int .i64 id, .int .i64 gen, .slice A n c] w (fun v w' => ∃ sl, v = .tuple #[sl, .int .i64 (chooseE id gen xs)] ∧ St w Emp [own sl 3 1 (chooseL id gen xs).length ((chooseL id gen xs).flatMap ic)] w') := by
  refine fn_bodyM (fn := Try.f10) Try.func10 rfl [(0, .int .i64 id), (1, .int .i64 gen), (2, .slice A n c)] (by exact ⟨rfl, rfl, rfl, trivial⟩) rfl (St.start w) ?_
  refine jc_seq ?_
  refine sc_region ?_
  refine so_pure (opv_assign (by rfl)) (by rfl) rfl ?_
  refine so_pure (opv_assign (by rfl)) (by rfl) rfl ?_
  refine jo_nil ?_
  refine jk_then ?_
  refine jc_seq ?_
  refine jc_block ?_
  refine jc_seq ?_
  refine sc_region ?_
  refine so_pure (opv_move (by rfl)) (by rfl) rfl ?_
  refine so_pure (opv_cmp (by rfl) (by rfl) (by rfl)) (by rfl) rfl ?_
  refine so_pure (opv_move (by rfl)) (by rfl) rfl ?_
  refine sk_split (x := 13) (by rfl) (fun h6 => ?_) (fun h6 => ?_)
  · first | have p6 := of_decide_eq_true h6 | have p6 := of_decide_eq_false h6 | have p6 := ndT h6 | have p6 := ndF h6 | have p6 := nbT h6 | have p6 := nbF h6 | have p6 := h6
    refine so_skip (wtd_not rfl rfl (by rfl) h6) rfl ?_
    refine so_skip (wtd_not rfl rfl (by rfl) h6) rfl ?_
    refine so_pure (sv_pick_t (by rfl) h6 (by rfl)) (by rfl) rfl ?_
    refine so_pure (opv_move (by rfl)) (by rfl) rfl ?_
    refine so_skip (wtd_not rfl rfl (by rfl) rfl) rfl ?_
    refine so_skip (wtd_not rfl rfl (by rfl) rfl) rfl ?_
    refine so_pure (sv_pick_t (by rfl) rfl (by rfl)) (by rfl) rfl ?_
    refine so_pure (opv_move (by rfl)) (by rfl) rfl ?_
    refine so_skip (wtd_not rfl rfl (by rfl) rfl) rfl ?_
    refine so_skip (wtd_not rfl rfl (by rfl) rfl) rfl ?_
    refine so_pure (sv_pick_t (by rfl) rfl (by rfl)) (by rfl) rfl ?_
    refine so_pure (opv_move (by rfl)) (by rfl) rfl ?_
    refine so_skip (wtd_not rfl rfl (by rfl) rfl) rfl ?_
    refine so_skip (wtd_not rfl rfl (by rfl) rfl) rfl ?_
    refine so_skip (wtd_not rfl rfl (by rfl) rfl) rfl ?_
    refine so_pure (sv_pick_t (by rfl) rfl (by rfl)) (by rfl) rfl ?_
    refine so_pure (opv_assign (by rfl)) (by rfl) rfl ?_
    refine jo_nil ?_
    refine jk_then ?_
    refine sc_true (by rfl) rfl ?_
    refine jc_seq ?_
    refine sc_region ?_
    refine so_pure (opv_assign (by rfl)) (by rfl) rfl ?_
    refine so_pure (opv_assign (by rfl)) (by rfl) rfl ?_
    refine jo_nil ?_
    refine jk_then ?_
    refine jc_ret ?_
    refine jk_block_ret ?_
    refine jk_then_ret ?_
    refine jk_fnM rfl (res2 rfl (by rfl) (by rfl)) (fun w hw => ?_)
    have hb : badC id gen xs = true := by simp [badC, p6]
    have e1 : chooseE id gen xs = 1 := by unfold chooseE; rw [if_pos hb]
    have e2 : chooseL id gen xs = [] := by unfold chooseL; rw [if_pos hb]
    rw [e1, e2]
    exact ⟨_, rfl, hw.forget.own_nil 3 1⟩
  · first | have p6 := of_decide_eq_true h6 | have p6 := of_decide_eq_false h6 | have p6 := ndT h6 | have p6 := ndF h6 | have p6 := nbT h6 | have p6 := nbF h6 | have p6 := h6
    refine so_pure (opv_move (by rfl)) (wtd_run rfl rfl (by rfl) h6) rfl ?_
    refine so_pure (opv_cmp (by rfl) (by rfl) (by rfl)) (wtd_run rfl rfl (by rfl) h6) rfl ?_
    refine so_pure (sv_pick_f (by rfl) h6 (by rfl)) (by rfl) rfl ?_
    refine so_pure (opv_move (by rfl)) (by rfl) rfl ?_
    refine sk_split (x := 17) (by rfl) (fun h9 => ?_) (fun h9 => ?_)
    · first | have p9 := of_decide_eq_true h9 | have p9 := of_decide_eq_false h9 | have p9 := ndT h9 | have p9 := ndF h9 | have p9 := nbT h9 | have p9 := nbF h9 | have p9 := h9
      refine so_skip (wtd_not rfl rfl (by rfl) h9) rfl ?_
      refine so_skip (wtd_not rfl rfl (by rfl) h9) rfl ?_
      refine so_pure (sv_pick_t (by rfl) h9 (by rfl)) (by rfl) rfl ?_
      refine so_pure (opv_move (by rfl)) (by rfl) rfl ?_
      refine so_skip (wtd_not rfl rfl (by rfl) rfl) rfl ?_
      refine so_skip (wtd_not rfl rfl (by rfl) rfl) rfl ?_
      refine so_pure (sv_pick_t (by rfl) rfl (by rfl)) (by rfl) rfl ?_
      refine so_pure (opv_move (by rfl)) (by rfl) rfl ?_
      refine so_skip (wtd_not rfl rfl (by rfl) rfl) rfl ?_
      refine so_skip (wtd_not rfl rfl (by rfl) rfl) rfl ?_
      refine so_skip (wtd_not rfl rfl (by rfl) rfl) rfl ?_
      refine so_pure (sv_pick_t (by rfl) rfl (by rfl)) (by rfl) rfl ?_
      refine so_pure (opv_assign (by rfl)) (by rfl) rfl ?_
      refine jo_nil ?_
      refine jk_then ?_
      refine sc_true (by rfl) rfl ?_
      refine jc_seq ?_
      refine sc_region ?_
      refine so_pure (opv_assign (by rfl)) (by rfl) rfl ?_
      refine so_pure (opv_assign (by rfl)) (by rfl) rfl ?_
      refine jo_nil ?_
      refine jk_then ?_
      refine jc_ret ?_
      refine jk_block_ret ?_
      refine jk_then_ret ?_
      refine jk_fnM rfl (res2 rfl (by rfl) (by rfl)) (fun w hw => ?_)
      have hb : badC id gen xs = true := by simp [badC, p6, p9]
      have e1 : chooseE id gen xs = 1 := by unfold chooseE; rw [if_pos hb]
      have e2 : chooseL id gen xs = [] := by unfold chooseL; rw [if_pos hb]
      rw [e1, e2]
      exact ⟨_, rfl, hw.forget.own_nil 3 1⟩
    · first | have p9 := of_decide_eq_true h9 | have p9 := of_decide_eq_false h9 | have p9 := ndT h9 | have p9 := ndF h9 | have p9 := nbT h9 | have p9 := nbF h9 | have p9 := h9
      refine so_pure (opv_move (by rfl)) (wtd_run rfl rfl (by rfl) h9) rfl ?_
      refine so_pure (opv_cmp (by rfl) (by rfl) (by rfl)) (wtd_run rfl rfl (by rfl) h9) rfl ?_
      refine so_pure (sv_pick_f (by rfl) h9 (by rfl)) (by rfl) rfl ?_
      refine so_pure (opv_move (by rfl)) (by rfl) rfl ?_
      refine sk_split (x := 21) (by rfl) (fun h12 => ?_) (fun h12 => ?_)
      · first | have p12 := of_decide_eq_true h12 | have p12 := of_decide_eq_false h12 | have p12 := ndT h12 | have p12 := ndF h12 | have p12 := nbT h12 | have p12 := nbF h12 | have p12 := h12
        refine so_skip (wtd_not rfl rfl (by rfl) h12) rfl ?_
        refine so_skip (wtd_not rfl rfl (by rfl) h12) rfl ?_
        refine so_pure (sv_pick_t (by rfl) h12 (by rfl)) (by rfl) rfl ?_
        refine so_pure (opv_move (by rfl)) (by rfl) rfl ?_
        refine so_skip (wtd_not rfl rfl (by rfl) rfl) rfl ?_
        refine so_skip (wtd_not rfl rfl (by rfl) rfl) rfl ?_
        refine so_skip (wtd_not rfl rfl (by rfl) rfl) rfl ?_
        refine so_pure (sv_pick_t (by rfl) rfl (by rfl)) (by rfl) rfl ?_
        refine so_pure (opv_assign (by rfl)) (by rfl) rfl ?_
        refine jo_nil ?_
        refine jk_then ?_
        refine sc_true (by rfl) rfl ?_
        refine jc_seq ?_
        refine sc_region ?_
        refine so_pure (opv_assign (by rfl)) (by rfl) rfl ?_
        refine so_pure (opv_assign (by rfl)) (by rfl) rfl ?_
        refine jo_nil ?_
        refine jk_then ?_
        refine jc_ret ?_
        refine jk_block_ret ?_
        refine jk_then_ret ?_
        refine jk_fnM rfl (res2 rfl (by rfl) (by rfl)) (fun w hw => ?_)
        have hb : badC id gen xs = true := by simp [badC, p6, p9, p12]
        have e1 : chooseE id gen xs = 1 := by unfold chooseE; rw [if_pos hb]
        have e2 : chooseL id gen xs = [] := by unfold chooseL; rw [if_pos hb]
        rw [e1, e2]
        exact ⟨_, rfl, hw.forget.own_nil 3 1⟩
      · first | have p12 := of_decide_eq_true h12 | have p12 := of_decide_eq_false h12 | have p12 := ndT h12 | have p12 := ndF h12 | have p12 := nbT h12 | have p12 := nbF h12 | have p12 := h12
        refine so_pure (opv_move (by rfl)) (wtd_run rfl rfl (by rfl) h12) rfl ?_
        refine so_pure (opv_cmp (by rfl) (by rfl) (by rfl)) (wtd_run rfl rfl (by rfl) h12) rfl ?_
        refine so_pure (sv_pick_f (by rfl) h12 (by rfl)) (by rfl) rfl ?_
        refine so_pure (opv_move (by rfl)) (by rfl) rfl ?_
        refine sk_split (x := 25) (by rfl) (fun h15 => ?_) (fun h15 => ?_)
        · first | have p15 := of_decide_eq_true h15 | have p15 := of_decide_eq_false h15 | have p15 := ndT h15 | have p15 := ndF h15 | have p15 := nbT h15 | have p15 := nbF h15 | have p15 := h15
          refine so_skip (wtd_not rfl rfl (by rfl) h15) rfl ?_
          refine so_skip (wtd_not rfl rfl (by rfl) h15) rfl ?_
          refine so_skip (wtd_not rfl rfl (by rfl) h15) rfl ?_
          refine so_pure (sv_pick_t (by rfl) h15 (by rfl)) (by rfl) rfl ?_
          refine so_pure (opv_assign (by rfl)) (by rfl) rfl ?_
          refine jo_nil ?_
          refine jk_then ?_
          refine sc_true (by rfl) rfl ?_
          refine jc_seq ?_
          refine sc_region ?_
          refine so_pure (opv_assign (by rfl)) (by rfl) rfl ?_
          refine so_pure (opv_assign (by rfl)) (by rfl) rfl ?_
          refine jo_nil ?_
          refine jk_then ?_
          refine jc_ret ?_
          refine jk_block_ret ?_
          refine jk_then_ret ?_
          refine jk_fnM rfl (res2 rfl (by rfl) (by rfl)) (fun w hw => ?_)
          have hb : badC id gen xs = true := by simp [badC, p6, p9, p12, p15]
          have e1 : chooseE id gen xs = 1 := by unfold chooseE; rw [if_pos hb]
          have e2 : chooseL id gen xs = [] := by unfold chooseL; rw [if_pos hb]
          rw [e1, e2]
          exact ⟨_, rfl, hw.forget.own_nil 3 1⟩
        · first | have p15 := of_decide_eq_true h15 | have p15 := of_decide_eq_false h15 | have p15 := ndT h15 | have p15 := ndF h15 | have p15 := nbT h15 | have p15 := nbF h15 | have p15 := h15
          refine so_pure (opv_move (by rfl)) (wtd_run rfl rfl (by rfl) h15) rfl ?_
          refine so_eff (eff_call0 (fl := []) (cl := []) (G := fun v New => v = .bool (areL xs) ∧ New = []) (by rfl) (by rfl) tx20 (by exact fun w1 hw1 => (are_spec w1 A n c xs (hs.keepSt hw1) hn).mono (fun _ _ ⟨hv, hst⟩ => ⟨[], ⟨hv, rfl⟩, hst⟩))) (wtd_run rfl rfl (by rfl) h15) rfl ?_
          rintro _ _ ⟨_, ⟨rfl, rfl⟩, rfl⟩
          refine so_pure (opv_not (by rfl)) (wtd_run rfl rfl (by rfl) h15) rfl ?_
          refine so_pure (sv_pick_f (by rfl) h15 (by rfl)) (by rfl) rfl ?_
          refine so_pure (opv_assign (by rfl)) (by rfl) rfl ?_
          refine jo_nil ?_
          refine jk_then ?_
          refine sk_split (x := 10) (by rfl) (fun h18 => ?_) (fun h18 => ?_)
          · first | have p18 := of_decide_eq_true h18 | have p18 := of_decide_eq_false h18 | have p18 := ndT h18 | have p18 := ndF h18 | have p18 := nbT h18 | have p18 := nbF h18 | have p18 := h18
            refine sc_true (by rfl) (not_t (nbT h18)) ?_
            refine jc_seq ?_
            refine sc_region ?_
            refine so_pure (opv_assign (by rfl)) (by rfl) rfl ?_
            refine so_pure (opv_assign (by rfl)) (by rfl) rfl ?_
            refine jo_nil ?_
            refine jk_then ?_
            refine jc_ret ?_
            refine jk_block_ret ?_
            refine jk_then_ret ?_
            refine jk_fnM rfl (res2 rfl (by rfl) (by rfl)) (fun w hw => ?_)
            have hb : badC id gen xs = true := by simp [badC, p6, p9, p12, p15, p18]
            have e1 : chooseE id gen xs = 1 := by unfold chooseE; rw [if_pos hb]
            have e2 : chooseL id gen xs = [] := by unfold chooseL; rw [if_pos hb]
            rw [e1, e2]
            exact ⟨_, rfl, hw.forget.own_nil 3 1⟩
          · first | have p18 := of_decide_eq_true h18 | have p18 := of_decide_eq_false h18 | have p18 := ndT h18 | have p18 := ndF h18 | have p18 := nbT h18 | have p18 := nbF h18 | have p18 := h18
            refine sc_false (by rfl) (not_f (nbF h18)) ?_
            refine jc_seq ?_
            have hb : badC id gen xs = false := by simp [badC, p6, p9, p12, p15, p18]
            refine sc_region ?_
            refine so_pure (opv_move (by rfl)) (by rfl) rfl ?_
            refine so_pure (opv_len_slice (by rfl) Try.underlying22) (by rfl) rfl ?_
            refine so_pure (opv_cmp (by rfl) (by rfl) (by rfl)) (by rfl) rfl ?_
            refine so_pure (opv_assign (by rfl)) (by rfl) rfl ?_
            refine jo_nil ?_
            refine jk_then ?_
            refine sk_split (x := 30) (by rfl) (fun h22 => ?_) (fun h22 => ?_)
            · first | have p22 := of_decide_eq_true h22 | have p22 := of_decide_eq_false h22 | have p22 := ndT h22 | have p22 := ndF h22 | have p22 := nbT h22 | have p22 := nbF h22 | have p22 := h22
              refine sc_true (by rfl) h22 ?_
              refine jc_seq ?_
              refine sc_region ?_
              refine so_pure (opv_assign (by rfl)) (by rfl) rfl ?_
              refine so_pure (opv_assign (by rfl)) (by rfl) rfl ?_
              refine jo_nil ?_
              refine jk_then ?_
              refine jc_ret ?_
              refine jk_block_ret ?_
              refine jk_then_ret ?_
              refine jk_fnM rfl (res2 rfl (by rfl) (by rfl)) (fun w hw => ?_)
              have e1 : chooseE id gen xs = 2 := by unfold chooseE; rw [if_neg (by rw [hb]; simp), if_pos (by have := hs.1; omega)]
              have e2 : chooseL id gen xs = [] := by unfold chooseL; rw [if_neg (by rw [hb]; simp), if_pos (by have := hs.1; omega)]
              rw [e1, e2]
              exact ⟨_, rfl, hw.forget.own_nil 3 1⟩
            · first | have p22 := of_decide_eq_true h22 | have p22 := of_decide_eq_false h22 | have p22 := ndT h22 | have p22 := ndF h22 | have p22 := nbT h22 | have p22 := nbF h22 | have p22 := h22
              refine sc_false (by rfl) h22 ?_
              refine jc_skip ?_
              refine jk_block ?_
              refine jk_then ?_
              refine jc_seq ?_
              refine sc_region ?_
              refine so_eff (eff_alloc ti22 rfl) (by rfl) rfl ?_
              rintro _ _ ⟨b8, rfl, rfl⟩
              refine jo_nil ?_
              refine jk_then ?_
              refine jc_seq ?_
              refine jc_seq ?_
              obtain ⟨f, hf⟩ : ∃ f : Nat, (f : Int) = 5 * id + 7 * gen := ⟨(5 * id + 7 * gen).toNat, Int.toNat_of_nonneg (by omega)⟩
              refine sc_region ?_
              refine so_pure (opv_move (by rfl)) (by rfl) rfl ?_
              refine so_pure (opv_move (by rfl)) (by rfl) rfl ?_
              refine so_pure (opv_mul (by rfl) (by rfl) (wrap64_ok (by omega))) (by rfl) rfl ?_
              refine so_pure (opv_move (by rfl)) (by rfl) rfl ?_
              refine so_pure (opv_mul (by rfl) (by rfl) (wrap64_ok (by omega))) (by rfl) rfl ?_
              refine so_pure (opv_add (by rfl) (by rfl) (wrap64_ok (by omega))) (by rfl) rfl ?_
              rw [← hf]
              refine so_eff (eff_call0 (G := fun v New => ∃ bl bf, v = .func (.func 29) #[] #[.pointer (some ⟨bl, 0, none⟩), .pointer (some ⟨bf, 0, none⟩)] ∧ New = [blk bl (.cells #[.slice A n c] 22 (0, 0)), blk bf (.cells #[.int .i64 (f : Int)] 3 (0, 0))]) (by rfl) (by rfl) tx21 (by exact fun w1 hw1 => (round_spec w1 A n c (f : Int)).mono (fun _ _ ⟨bl, bf, hv, hst⟩ => ⟨_, ⟨bl, bf, hv, rfl⟩, hst⟩))) (by rfl) rfl ?_
              rintro _ _ ⟨_, ⟨bl, bf, rfl, rfl⟩, rfl⟩
              refine jo_nil ?_
              refine jk_then ?_
              refine jc_block ?_
              refine jc_rangeFunc (gf := 29) (cl := [.pointer (some ⟨bl, 0, none⟩), .pointer (some ⟨bf, 0, none⟩)]) rfl (by rfl) tx29 (by rfl) (fun D pe Is' => (pe = none ∨ pe = some (.exit 1)) ∧ Is' = [blk D (.deferred (some [])), chI b8 (rotL xs f 9)]) (fun D l fn tm hround w1 hw1 => ?_) (fun D pe Is' hG => ?_)
              · refine (round1_spec (w0 := w) A n c xs f hs hn (by omega) (fun i => [blk l (.loop (Rec fn tm _ _ _ D .ready none)), blk D (.deferred (some [])), chI b8 (rotL xs f (min i 9))]) (fun i => [blk l (.loop (Rec fn tm _ _ _ D .done (some (.exit 1)))), blk D (.deferred (some [])), chI b8 (rotL xs f 9)]) (w := w1) (St.sel (ch_mk (xs := rotL xs f 0) ((hw1.own_nil 3 1).pk (.there (.there (.there (.there (.there (.here _)))))))) (by repeat (first | exact Pks.nil _ | exact Pk.here _ | apply Pk.there | apply Pks.cons))) (fun i x hi hx w2 hw2 => ?_)).mono (fun _ w3 hst3 => by
                  rcases hst3 with h | ⟨i, _, h⟩
                  · simp only [show min n 9 = 9 by omega] at h
                    exact ⟨.ready, none, _, by simp, ⟨.inl rfl, rfl⟩, St.sel h (by repeat (first | exact Pks.nil _ | exact Pk.here _ | apply Pk.there | apply Pks.cons))⟩
                  · exact ⟨.done, some (.exit 1), _, by simp, ⟨.inr rfl, rfl⟩, St.sel h (by repeat (first | exact Pks.nil _ | exact Pk.here _ | apply Pk.there | apply Pks.cons))⟩)
                refine hround [.int .i64 x] [blk D (.deferred (some [])), chI b8 (rotL xs f (min i 9)), blk bl (.cells #[.slice A n c] 22 (0, 0)), blk bf (.cells #[.int .i64 (f : Int)] 3 (0, 0))] _ rfl ?_ w2 (St.sel hw2 (by repeat (first | exact Pks.nil _ | exact Pk.here _ | apply Pk.there | apply Pks.cons)))
                show Jc _ _ ((41, .int .i64 x) :: _) _ _
                refine sc_region ?_
                refine so_pure (opv_assign (by rfl)) (by rfl) rfl ?_
                refine jo_nil ?_
                refine jk_begin rfl (by repeat (first | exact Pk.here _ | apply Pk.there)) ?_
                refine jc_block ?_
                refine jc_seq ?_
                refine jc_seq ?_
                refine jk_ch_open (by repeat (first | exact Pk.here _ | apply Pk.there)) (fun sl => ?_)
                refine sc_region ?_
                refine so_pure (opv_load (by rfl) na22 (rd_pk (by repeat (first | exact Pk.here _ | apply Pk.there))) (by rfl)) (by rfl) rfl ?_
                refine so_pure (opv_len_own (by rfl) Try.underlying22 (by repeat (first | exact Pk.here _ | apply Pk.there))) (by rfl) rfl ?_
                refine so_pure (opv_cmp (by rfl) (by rfl) (by rfl)) (by rfl) rfl ?_
                refine jo_nil ?_
                refine jk_then ?_
                refine sk_split (x := 44) (by rfl) (fun h33 => ?_) (fun h33 => ?_)
                · first | have p33 := of_decide_eq_true h33 | have p33 := of_decide_eq_false h33 | have p33 := ndT h33 | have p33 := ndF h33 | have p33 := nbT h33 | have p33 := nbF h33 | have p33 := h33
                  refine sc_true (by rfl) h33 ?_
                  refine jc_exit ?_
                  refine jk_then_exit ?_
                  refine jk_block_other (by rfl) ?_
                  refine jk_round_exit (by repeat (first | exact Pk.here _ | apply Pk.there)) (fun w hw => ?_)
                  have hlen9 : min i 9 = 9 := by rw [rotL_len] at p33; omega
                  rw [hlen9] at hw
                  refine ⟨false, rfl, ?_⟩
                  show St _ _ (blk bl (.cells #[.slice A n c] 22 (0, 0)) :: blk bf (.cells #[.int .i64 (f : Int)] 3 (0, 0)) :: _) _
                  simp only [cond_false]
                  exact St.sel (ch_mk (St.keep (Sb := [blk b8 (.cells #[sl] 22 (0, 0)), own sl 3 1 (rotL xs f 9).length ((rotL xs f 9).flatMap ic)]) hw (by repeat (first | exact Pks.nil _ | exact Pk.here _ | apply Pk.there | apply Pks.cons)) (Tl.here _))) (by repeat (first | exact Pks.nil _ | exact Pk.here _ | apply Pk.there | apply Pks.cons))
                · first | have p33 := of_decide_eq_true h33 | have p33 := of_decide_eq_false h33 | have p33 := ndT h33 | have p33 := ndF h33 | have p33 := nbT h33 | have p33 := nbF h33 | have p33 := h33
                  refine sc_false (by rfl) h33 ?_
                  refine jc_skip ?_
                  refine jk_then ?_
                  refine sc_region ?_
                  refine so_pure (opv_load (by rfl) na22 (rd_pk (by repeat (first | exact Pk.here _ | apply Pk.there))) (by rfl)) (by rfl) rfl ?_
                  refine so_pure (opv_move (by rfl)) (by rfl) rfl ?_
                  refine so_eff (eff_buildSlice (by rfl) (fun w => by exact bsl22_1_0 ..)) (by rfl) rfl ?_
                  rintro _ _ ⟨b47, rfl, rfl⟩
                  refine so_eff (eff_append_lit (by rfl) (by rfl) Try.underlying22 ti3 (by rfl) (by omega) (by repeat (first | exact Pk.here _ | apply Pk.there)) (rd_pk (by repeat (first | exact Pk.here _ | apply Pk.there))) (by rfl) (by rfl) (by rw [rotL_len]; unfold maxLen; omega) (by rw [rotL_len]; omega)) (by rfl) rfl ?_
                  rintro wv2 _ ⟨rfl, _⟩
                  refine jo_sv (by repeat (first | exact Pk.here _ | apply Pk.there)) (fun hsv2 => ?_)
                  obtain ⟨A2, c2, rfl, _⟩ := hsv2
                  refine so_eff0 (eff_store_all (vs := [.slice A2 ((rotL xs f (min i 9)).length + 1) c2]) (by rfl) (by rfl) (by rfl) ti22 (by rfl) (by repeat (first | exact Pk.here _ | apply Pk.there)) (by rfl) (by rfl)) (by rfl) ?_
                  rintro _ _ ⟨rfl, rfl⟩
                  refine jo_nil ?_
                  refine jk_block ?_
                  refine jk_round_next (by repeat (first | exact Pk.here _ | apply Pk.there)) (fun w hw => ?_)
                  have hlen9 : ¬ min i 9 = 9 := by rw [rotL_len] at p33; omega
                  have e1 : min i 9 = i := by omega
                  have e2 : min (i + 1) 9 = i + 1 := by omega
                  have hx3 : xs[(f + i) % xs.length]? = some x := by rw [← hs.1]; exact hx
                  refine ⟨true, rfl, ?_⟩
                  rw [e1] at hw
                  show St _ _ (blk bl (.cells #[.slice A n c] 22 (0, 0)) :: blk bf (.cells #[.int .i64 (f : Int)] 3 (0, 0)) :: _) _
                  simp only [cond_true]
                  rw [e2, rotL_succ hx3]
                  have hz : own (.slice A2 ((rotL xs f i).length + 1) c2) 3 1 ((rotL xs f i).length + 1) ((rotL xs f i).flatMap ic ++ ic x) = own (.slice A2 ((rotL xs f i).length + 1) c2) 3 1 (rotL xs f i ++ [x]).length ((rotL xs f i ++ [x]).flatMap ic) := by rw [List.length_append, List.flatMap_append]; simp
                  have hw2 := (St.keep (Sb := [blk b8 (.cells #[.slice A2 ((rotL xs f i).length + 1) c2] 22 (0, 0)), own (.slice A2 ((rotL xs f i).length + 1) c2) 3 1 ((rotL xs f i).length + 1) ((rotL xs f i).flatMap ic ++ ic x)]) hw (by repeat (first | exact Pks.nil _ | exact Pk.here _ | apply Pk.there | apply Pks.cons)) (Tl.here _))
                  rw [hz] at hw2
                  exact St.sel (ch_mk hw2) (by repeat (first | exact Pks.nil _ | exact Pk.here _ | apply Pk.there | apply Pks.cons))
              · obtain ⟨hp, rfl⟩ := hG
                rcases hp with rfl | rfl
                · show Jk _ _ _ _
                  refine jk_block ?_
                  refine jk_then ?_
                  refine jc_seq ?_
                  refine jk_ch_open (by repeat (first | exact Pk.here _ | apply Pk.there)) (fun sl => ?_)
                  refine sc_region ?_
                  refine so_pure (opv_load (by rfl) na22 (rd_pk (by repeat (first | exact Pk.here _ | apply Pk.there))) (by rfl)) (by rfl) rfl ?_
                  refine so_pure (opv_assign (by rfl)) (by rfl) rfl ?_
                  refine so_pure (opv_assign (by rfl)) (by rfl) rfl ?_
                  refine jo_nil ?_
                  refine jk_then ?_
                  refine jc_ret ?_
                  refine jk_fnM1 (D := D) rfl (res2 rfl (by rfl) (by rfl)) (by repeat (first | exact Pk.here _ | apply Pk.there)) (fun w hw => ?_)
                  have e1 : chooseE id gen xs = 0 := by unfold chooseE; rw [if_neg (by rw [hb]; simp), if_neg (by have := hs.1; omega)]
                  have e2 : chooseL id gen xs = rotL xs f 9 := by unfold chooseL; rw [if_neg (by rw [hb]; simp), if_neg (by have := hs.1; omega)]; congr 1; omega
                  rw [e1, e2]
                  exact ⟨_, rfl, St.sel hw (by repeat (first | exact Pks.nil _ | exact Pk.here _ | apply Pk.there | apply Pks.cons))⟩
                · show Jc _ _ _ _ (.exit 1)
                  refine jc_exit ?_
                  refine jk_block_exit ?_
                  refine jk_then ?_
                  refine jc_seq ?_
                  refine jk_ch_open (by repeat (first | exact Pk.here _ | apply Pk.there)) (fun sl => ?_)
                  refine sc_region ?_
                  refine so_pure (opv_load (by rfl) na22 (rd_pk (by repeat (first | exact Pk.here _ | apply Pk.there))) (by rfl)) (by rfl) rfl ?_
                  refine so_pure (opv_assign (by rfl)) (by rfl) rfl ?_
                  refine so_pure (opv_assign (by rfl)) (by rfl) rfl ?_
                  refine jo_nil ?_
                  refine jk_then ?_
                  refine jc_ret ?_
                  refine jk_fnM1 (D := D) rfl (res2 rfl (by rfl) (by rfl)) (by repeat (first | exact Pk.here _ | apply Pk.there)) (fun w hw => ?_)
                  have e1 : chooseE id gen xs = 0 := by unfold chooseE; rw [if_neg (by rw [hb]; simp), if_neg (by have := hs.1; omega)]
                  have e2 : chooseL id gen xs = rotL xs f 9 := by unfold chooseL; rw [if_neg (by rw [hb]; simp), if_neg (by have := hs.1; omega)]; congr 1; omega
                  rw [e1, e2]
                  exact ⟨_, rfl, St.sel hw (by repeat (first | exact Pks.nil _ | exact Pk.here _ | apply Pk.there | apply Pks.cons))⟩
end Go.Place
