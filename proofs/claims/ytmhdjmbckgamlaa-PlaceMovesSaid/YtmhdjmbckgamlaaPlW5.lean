/- A part of a proof for the laws of the seat Ytmhdjmbckgamlaa; it has no conditions of its own. -/
import Derived.Test.YtmhdjmbckgamlaaPlW4
namespace Go.Place
open Go Go.SL Go.Proofs
set_option maxHeartbeats 4000000 in
theorem instead_spec (w : World) (A B : Option Addr) (n m c c2 : Nat) (us xs : List Int) (hu : SlR w 3 1 ic A n us) (hs : SlR w 3 1 ic B m xs) (hn : n ≤ 1000000) (hm : m ≤ 1000000) (id : Int) : Does Try.prog 12 #[.slice A n c, .slice B m c2, .int .i64 id] w (fun v w' => v = .tuple #[.int .i64 (insteadR us xs id).1, .int .i64 (insteadR us xs id).2] ∧ St w Emp [] w') := by
  refine fn_bodyM (fn := Try.f12) Try.func12 rfl [(0, .slice A n c), (1, .slice B m c2), (2, .int .i64 id)] (by exact ⟨rfl, rfl, rfl, trivial⟩) rfl (St.start w) ?_
  refine jc_seq ?_
  refine sc_region ?_
  refine so_eff (eff_box (by rfl) rfl) (by rfl) rfl ?_
  rintro _ _ ⟨b3, rfl, rfl⟩
  refine so_eff (eff_alloc ti3 rfl) (by rfl) rfl ?_
  rintro _ _ ⟨b6, rfl, rfl⟩
  refine so_eff (eff_alloc ti26 rfl) (by rfl) rfl ?_
  rintro _ _ ⟨b7, rfl, rfl⟩
  refine jo_nil ?_
  refine jk_then ?_
  refine jc_seq ?_
  refine jc_seq ?_
  refine sc_region ?_
  refine so_pure (opv_move (by rfl)) (by rfl) rfl ?_
  refine so_pure (opv_cmp (by rfl) (by rfl) (by rfl)) (by rfl) rfl ?_
  refine so_pure (opv_move (by rfl)) (by rfl) rfl ?_
  refine sk_split (x := 11) (by rfl) (fun h7 => ?_) (fun h7 => ?_)
  · first | have p7 := of_decide_eq_true h7 | have p7 := of_decide_eq_false h7 | have p7 := ndT h7 | have p7 := ndF h7 | have p7 := nbT h7 | have p7 := nbF h7 | have p7 := h7
    refine so_skip (wtd_not rfl rfl (by rfl) h7) rfl ?_
    refine so_skip (wtd_not rfl rfl (by rfl) h7) rfl ?_
    refine so_pure (sv_pick_t (by rfl) h7 (by rfl)) (by rfl) rfl ?_
    refine so_pure (opv_move (by rfl)) (by rfl) rfl ?_
    refine so_skip (wtd_not rfl rfl (by rfl) rfl) rfl ?_
    refine so_skip (wtd_not rfl rfl (by rfl) rfl) rfl ?_
    refine so_skip (wtd_not rfl rfl (by rfl) rfl) rfl ?_
    refine so_pure (sv_pick_t (by rfl) rfl (by rfl)) (by rfl) rfl ?_
    refine jo_nil ?_
    refine jk_then ?_
    refine sc_true (by rfl) rfl ?_
    refine jc_seq ?_
    have hb : badI id xs = true := by simp [badI, p7]
    refine sc_region ?_
    refine so_eff0 (eff_store_all (by rfl) (by rfl) (by rfl) ti3 (by rfl) (by repeat (first | exact Pk.here _ | apply Pk.there)) (by rfl) (by rfl)) (by rfl) ?_
    rintro _ _ ⟨rfl, rfl⟩
    refine so_eff0 (eff_store_all (by rfl) (by rfl) (by rfl) ti26 (by rfl) (by repeat (first | exact Pk.here _ | apply Pk.there)) (by rfl) (by rfl)) (by rfl) ?_
    rintro _ _ ⟨rfl, rfl⟩
    refine jo_nil ?_
    refine jk_then ?_
    refine jc_ret ?_
    refine jk_then_ret ?_
    refine jk_fnMs rfl (resc2 rfl (by rfl) (by rfl) na3 na26 (rd_pk (by repeat (first | exact Pk.here _ | apply Pk.there))) (rd_pk (by repeat (first | exact Pk.here _ | apply Pk.there)))) (fun w hw => ?_)
    have e : insteadR us xs id = (0, 1) := by unfold insteadR; rw [if_pos hb]
    rw [e]
    exact ⟨rfl, hw.forget⟩
  · first | have p7 := of_decide_eq_true h7 | have p7 := of_decide_eq_false h7 | have p7 := ndT h7 | have p7 := ndF h7 | have p7 := nbT h7 | have p7 := nbF h7 | have p7 := h7
    refine so_pure (opv_move (by rfl)) (wtd_run rfl rfl (by rfl) h7) rfl ?_
    refine so_pure (opv_cmp (by rfl) (by rfl) (by rfl)) (wtd_run rfl rfl (by rfl) h7) rfl ?_
    refine so_pure (sv_pick_f (by rfl) h7 (by rfl)) (by rfl) rfl ?_
    refine so_pure (opv_move (by rfl)) (by rfl) rfl ?_
    refine sk_split (x := 15) (by rfl) (fun h8 => ?_) (fun h8 => ?_)
    · first | have p8 := of_decide_eq_true h8 | have p8 := of_decide_eq_false h8 | have p8 := ndT h8 | have p8 := ndF h8 | have p8 := nbT h8 | have p8 := nbF h8 | have p8 := h8
      refine so_skip (wtd_not rfl rfl (by rfl) h8) rfl ?_
      refine so_skip (wtd_not rfl rfl (by rfl) h8) rfl ?_
      refine so_skip (wtd_not rfl rfl (by rfl) h8) rfl ?_
      refine so_pure (sv_pick_t (by rfl) h8 (by rfl)) (by rfl) rfl ?_
      refine jo_nil ?_
      refine jk_then ?_
      refine sc_true (by rfl) rfl ?_
      refine jc_seq ?_
      have hb : badI id xs = true := by simp [badI, p7, p8]
      refine sc_region ?_
      refine so_eff0 (eff_store_all (by rfl) (by rfl) (by rfl) ti3 (by rfl) (by repeat (first | exact Pk.here _ | apply Pk.there)) (by rfl) (by rfl)) (by rfl) ?_
      rintro _ _ ⟨rfl, rfl⟩
      refine so_eff0 (eff_store_all (by rfl) (by rfl) (by rfl) ti26 (by rfl) (by repeat (first | exact Pk.here _ | apply Pk.there)) (by rfl) (by rfl)) (by rfl) ?_
      rintro _ _ ⟨rfl, rfl⟩
      refine jo_nil ?_
      refine jk_then ?_
      refine jc_ret ?_
      refine jk_then_ret ?_
      refine jk_fnMs rfl (resc2 rfl (by rfl) (by rfl) na3 na26 (rd_pk (by repeat (first | exact Pk.here _ | apply Pk.there))) (rd_pk (by repeat (first | exact Pk.here _ | apply Pk.there)))) (fun w hw => ?_)
      have e : insteadR us xs id = (0, 1) := by unfold insteadR; rw [if_pos hb]
      rw [e]
      exact ⟨rfl, hw.forget⟩
    · first | have p8 := of_decide_eq_true h8 | have p8 := of_decide_eq_false h8 | have p8 := ndT h8 | have p8 := ndF h8 | have p8 := nbT h8 | have p8 := nbF h8 | have p8 := h8
      refine so_pure (opv_move (by rfl)) (wtd_run rfl rfl (by rfl) h8) rfl ?_
      refine so_eff (eff_call0 (fl := []) (cl := []) (G := fun v New => v = .bool (areL xs) ∧ New = []) (by rfl) (by rfl) tx20 (by exact fun w1 hw1 => (are_spec w1 B m c2 xs (hs.keepSt hw1) hm).mono (fun _ _ ⟨hv, hst⟩ => ⟨[], ⟨hv, rfl⟩, hst⟩))) (wtd_run rfl rfl (by rfl) h8) rfl ?_
      rintro _ _ ⟨_, ⟨rfl, rfl⟩, rfl⟩
      refine so_pure (opv_not (by rfl)) (wtd_run rfl rfl (by rfl) h8) rfl ?_
      refine so_pure (sv_pick_f (by rfl) h8 (by rfl)) (by rfl) rfl ?_
      refine jo_nil ?_
      refine jk_then ?_
      refine sk_split (x := 19) (by rfl) (fun h9 => ?_) (fun h9 => ?_)
      · first | have p9 := of_decide_eq_true h9 | have p9 := of_decide_eq_false h9 | have p9 := ndT h9 | have p9 := ndF h9 | have p9 := nbT h9 | have p9 := nbF h9 | have p9 := h9
        refine sc_true (by rfl) (not_t (nbT h9)) ?_
        refine jc_seq ?_
        have hb : badI id xs = true := by simp [badI, p7, p8, p9]
        refine sc_region ?_
        refine so_eff0 (eff_store_all (by rfl) (by rfl) (by rfl) ti3 (by rfl) (by repeat (first | exact Pk.here _ | apply Pk.there)) (by rfl) (by rfl)) (by rfl) ?_
        rintro _ _ ⟨rfl, rfl⟩
        refine so_eff0 (eff_store_all (by rfl) (by rfl) (by rfl) ti26 (by rfl) (by repeat (first | exact Pk.here _ | apply Pk.there)) (by rfl) (by rfl)) (by rfl) ?_
        rintro _ _ ⟨rfl, rfl⟩
        refine jo_nil ?_
        refine jk_then ?_
        refine jc_ret ?_
        refine jk_then_ret ?_
        refine jk_fnMs rfl (resc2 rfl (by rfl) (by rfl) na3 na26 (rd_pk (by repeat (first | exact Pk.here _ | apply Pk.there))) (rd_pk (by repeat (first | exact Pk.here _ | apply Pk.there)))) (fun w hw => ?_)
        have e : insteadR us xs id = (0, 1) := by unfold insteadR; rw [if_pos hb]
        rw [e]
        exact ⟨rfl, hw.forget⟩
      · first | have p9 := of_decide_eq_true h9 | have p9 := of_decide_eq_false h9 | have p9 := ndT h9 | have p9 := ndF h9 | have p9 := nbT h9 | have p9 := nbF h9 | have p9 := h9
        refine sc_false (by rfl) (not_f (nbF h9)) ?_
        refine jc_skip ?_
        refine jk_then ?_
        refine jc_seq ?_
        refine jc_seq ?_
        have hb : badI id xs = false := by simp [badI, p7, p8, p9]
        obtain ⟨f, rfl⟩ : ∃ f : Nat, id = f := ⟨id.toNat, by omega⟩
        refine sc_region ?_
        refine so_pure (opv_move (by rfl)) (by rfl) rfl ?_
        refine so_pure (opv_move (by rfl)) (by rfl) rfl ?_
        refine so_eff (eff_call0 (G := fun v New => ∃ bl bf, v = .func (.func 29) #[] #[.pointer (some ⟨bl, 0, none⟩), .pointer (some ⟨bf, 0, none⟩)] ∧ New = [blk bl (.cells #[.slice B m c2] 22 (0, 0)), blk bf (.cells #[.int .i64 (f : Int)] 3 (0, 0))]) (by rfl) (by rfl) tx21 (by exact fun w1 hw1 => (round_spec w1 B m c2 (f : Int)).mono (fun _ _ ⟨bl, bf, hv, hst⟩ => ⟨_, ⟨bl, bf, hv, rfl⟩, hst⟩))) (by rfl) rfl ?_
        rintro _ _ ⟨_, ⟨bl, bf, rfl, rfl⟩, rfl⟩
        refine jo_nil ?_
        refine jk_then ?_
        refine jc_block ?_
        refine jc_rangeFunc (gf := 29) (cl := [.pointer (some ⟨bl, 0, none⟩), .pointer (some ⟨bf, 0, none⟩)]) rfl (by rfl) tx29 (by rfl) (fun D pe Is' => (pe = none ∧ Is' = [blk D (.deferred (some [])), blk b6 (.cells #[.int .i64 0] 3 (0, 0)), blk b7 (.cells #[.int .i64 0] 26 (0, 0)), pu ((rotL xs f m).find? (fun d => !decide (d ∈ us)) = none)]) ∨ (pe = some .ret ∧ Is' = [blk D (.deferred (some [])), blk b7 (.cells #[.int .i64 0] 26 (0, 0)), Any fun d : Int => [blk b6 (.cells #[.int .i64 d] 3 (0, 0)), pu ((rotL xs f m).find? (fun d => !decide (d ∈ us)) = some d)]])) (fun D l fn tm hround w1 hw1 => ?_) (fun D pe Is' hG => ?_)
        · refine (round1_spec (w0 := w) B m c2 xs f hs hm (by omega) (fun i => [blk l (.loop (Rec fn tm _ _ _ D .ready none)), blk D (.deferred (some [])), blk b3 (.cells #[.slice A n c] 22 (0, 0)), blk b6 (.cells #[.int .i64 0] 3 (0, 0)), blk b7 (.cells #[.int .i64 0] 26 (0, 0)), pu ((rotL xs f i).find? (fun d => !decide (d ∈ us)) = none)]) (fun i => [blk l (.loop (Rec fn tm _ _ _ D .done (some .ret))), blk D (.deferred (some [])), blk b7 (.cells #[.int .i64 0] 26 (0, 0)), Any fun d : Int => [blk b6 (.cells #[.int .i64 d] 3 (0, 0)), pu ((rotL xs f m).find? (fun d => !decide (d ∈ us)) = some d)]]) (w := w1) (St.sel (St.pu_mk (p := (rotL xs f 0).find? (fun d => !decide (d ∈ us)) = none) rfl hw1) (by repeat (first | exact Pks.nil _ | exact Pk.here _ | apply Pk.there | apply Pks.cons))) (fun i x hi hx w2 hw2 => ?_)).mono (fun _ w3 hst3 => by
            rcases hst3 with h | ⟨i, _, h⟩
            · exact ⟨.ready, none, _, by simp, .inl ⟨rfl, rfl⟩, St.sel h (by repeat (first | exact Pks.nil _ | exact Pk.here _ | apply Pk.there | apply Pks.cons))⟩
            · exact ⟨.done, some .ret, _, by simp, .inr ⟨rfl, rfl⟩, St.sel h (by repeat (first | exact Pks.nil _ | exact Pk.here _ | apply Pk.there | apply Pks.cons))⟩)
          refine hround [.int .i64 x] [blk D (.deferred (some [])), blk b3 (.cells #[.slice A n c] 22 (0, 0)), blk b6 (.cells #[.int .i64 0] 3 (0, 0)), blk b7 (.cells #[.int .i64 0] 26 (0, 0)), pu ((rotL xs f i).find? (fun d => !decide (d ∈ us)) = none), blk bl (.cells #[.slice B m c2] 22 (0, 0)), blk bf (.cells #[.int .i64 (f : Int)] 3 (0, 0))] _ rfl ?_ w2 (St.sel hw2 (by repeat (first | exact Pks.nil _ | exact Pk.here _ | apply Pk.there | apply Pks.cons)))
          show Jc _ _ ((23, .int .i64 x) :: _) _ _
          refine sc_region ?_
          refine so_pure (opv_assign (by rfl)) (by rfl) rfl ?_
          refine jo_nil ?_
          refine jk_begin rfl (by repeat (first | exact Pk.here _ | apply Pk.there)) ?_
          refine jc_block ?_
          refine jc_seq ?_
          refine jk_pu (by repeat (first | exact Pk.here _ | apply Pk.there)) (fun hfi => ?_)
          refine sc_region ?_
          refine so_pure (opv_load (by rfl) na22 (rd_pk (by repeat (first | exact Pk.here _ | apply Pk.there))) (by rfl)) (by rfl) rfl ?_
          refine so_pure (opv_move (by rfl)) (by rfl) rfl ?_
          refine so_eff (eff_call0 (fl := []) (cl := []) (G := fun v New => v = .bool (decide (x ∈ us)) ∧ New = []) (by rfl) (by rfl) tx24 (by exact fun w1 hw1 => (contains_spec w1 A n c us (hu.keepSt hw1) hn x).mono (fun _ _ ⟨hv, hst⟩ => ⟨[], ⟨hv, rfl⟩, hst⟩))) (by rfl) rfl ?_
          rintro _ _ ⟨_, ⟨rfl, rfl⟩, rfl⟩
          refine so_pure (opv_not (by rfl)) (by rfl) rfl ?_
          refine jo_nil ?_
          refine jk_then ?_
          refine sk_split (x := 27) (by rfl) (fun h13 => ?_) (fun h13 => ?_)
          · first | have p13 := of_decide_eq_true h13 | have p13 := of_decide_eq_false h13 | have p13 := ndT h13 | have p13 := ndF h13 | have p13 := nbT h13 | have p13 := nbF h13 | have p13 := h13
            refine sc_true (by rfl) (not_t (nbT h13)) ?_
            refine jc_seq ?_
            refine sc_region ?_
            refine so_pure (opv_move (by rfl)) (by rfl) rfl ?_
            refine so_eff0 (eff_store_all (by rfl) (by rfl) (by rfl) ti3 (by rfl) (by repeat (first | exact Pk.here _ | apply Pk.there)) (by rfl) (by rfl)) (by rfl) ?_
            rintro _ _ ⟨rfl, rfl⟩
            refine so_eff0 (eff_store_all (by rfl) (by rfl) (by rfl) ti26 (by rfl) (by repeat (first | exact Pk.here _ | apply Pk.there)) (by rfl) (by rfl)) (by rfl) ?_
            rintro _ _ ⟨rfl, rfl⟩
            refine jo_nil ?_
            refine jk_then ?_
            refine jc_ret ?_
            refine jk_block_ret ?_
            refine jk_round_ret (by repeat (first | exact Pk.here _ | apply Pk.there)) (fun w hw => ?_)
            have hx3 : xs[(f + i) % xs.length]? = some x := by rw [← hs.1]; exact hx
            refine ⟨false, rfl, ?_⟩
            show St _ _ (blk bl (.cells #[.slice B m c2] 22 (0, 0)) :: blk bf (.cells #[.int .i64 (f : Int)] 3 (0, 0)) :: _) _
            simp only [cond_false]
            exact St.sel (St.any_mk (F := fun d : Int => [blk b6 (.cells #[.int .i64 d] 3 (0, 0)), pu ((rotL xs f m).find? (fun d => !decide (d ∈ us)) = some d)]) x (St.keep (Sb := [blk b6 (.cells #[.int .i64 x] 3 (0, 0)), pu ((rotL xs f m).find? (fun d => !decide (d ∈ us)) = some x)]) (St.pu_mk (p := (rotL xs f m).find? (fun d => !decide (d ∈ us)) = some x) (find_at hi hx3 hfi (by simpa using p13)) hw) (by repeat (first | exact Pks.nil _ | exact Pk.here _ | apply Pk.there | apply Pks.cons)) (Tl.here _))) (by repeat (first | exact Pks.nil _ | exact Pk.here _ | apply Pk.there | apply Pks.cons))
          · first | have p13 := of_decide_eq_true h13 | have p13 := of_decide_eq_false h13 | have p13 := ndT h13 | have p13 := ndF h13 | have p13 := nbT h13 | have p13 := nbF h13 | have p13 := h13
            refine sc_false (by rfl) (not_f (nbF h13)) ?_
            refine jc_skip ?_
            refine jk_block ?_
            refine jk_round_next (by repeat (first | exact Pk.here _ | apply Pk.there)) (fun w hw => ?_)
            have hx3 : xs[(f + i) % xs.length]? = some x := by rw [← hs.1]; exact hx
            refine ⟨true, rfl, ?_⟩
            show St _ _ (blk bl (.cells #[.slice B m c2] 22 (0, 0)) :: blk bf (.cells #[.int .i64 (f : Int)] 3 (0, 0)) :: _) _
            simp only [cond_true]
            exact St.sel (St.pu_mk (p := (rotL xs f (i + 1)).find? (fun d => !decide (d ∈ us)) = none) (find_step hx3 hfi (by simpa using p13)) hw) (by repeat (first | exact Pks.nil _ | exact Pk.here _ | apply Pk.there | apply Pks.cons))
        · rcases hG with ⟨rfl, rfl⟩ | ⟨rfl, rfl⟩
          · show Jk _ _ _ _
            refine jk_block ?_
            refine jk_then ?_
            refine jc_seq ?_
            refine jk_pu (by repeat (first | exact Pk.here _ | apply Pk.there)) (fun hfind => ?_)
            refine sc_region ?_
            refine so_eff0 (eff_store_all (by rfl) (by rfl) (by rfl) ti3 (by rfl) (by repeat (first | exact Pk.here _ | apply Pk.there)) (by rfl) (by rfl)) (by rfl) ?_
            rintro _ _ ⟨rfl, rfl⟩
            refine so_eff0 (eff_store_all (by rfl) (by rfl) (by rfl) ti26 (by rfl) (by repeat (first | exact Pk.here _ | apply Pk.there)) (by rfl) (by rfl)) (by rfl) ?_
            rintro _ _ ⟨rfl, rfl⟩
            refine jo_nil ?_
            refine jk_then ?_
            refine jc_ret ?_
            refine jk_fnM1s (D := D) rfl (by repeat (first | exact Pk.here _ | apply Pk.there)) (resc2 rfl (by rfl) (by rfl) na3 na26 (rd_pk (by repeat (first | exact Pk.here _ | apply Pk.there))) (rd_pk (by repeat (first | exact Pk.here _ | apply Pk.there)))) (fun w hw => ?_)
            have e : insteadR us xs (f : Int) = (0, 2) := by unfold insteadR; rw [if_neg (by rw [hb]; simp), Int.toNat_natCast, ← hs.1, hfind]
            rw [e]
            exact ⟨rfl, hw.forget⟩
          · show Jc _ _ _ _ .ret
            refine jk_any_open (by repeat (first | exact Pk.here _ | apply Pk.there)) (fun d => ?_)
            refine jk_pu (by repeat (first | exact Pk.here _ | apply Pk.there)) (fun hfind => ?_)
            refine jc_ret ?_
            refine jk_block_ret ?_
            refine jk_then_ret ?_
            refine jk_fnM1s (D := D) rfl (by repeat (first | exact Pk.here _ | apply Pk.there)) (resc2 rfl (by rfl) (by rfl) na3 na26 (rd_pk (by repeat (first | exact Pk.here _ | apply Pk.there))) (rd_pk (by repeat (first | exact Pk.here _ | apply Pk.there)))) (fun w hw => ?_)
            have e : insteadR us xs (f : Int) = (d, 0) := by unfold insteadR; rw [if_neg (by rw [hb]; simp), Int.toNat_natCast, ← hs.1, hfind]
            rw [e]
            exact ⟨rfl, hw.forget⟩
set_option maxHeartbeats 4000000 in
theorem refinstead_spec (w : World) (A B : Option Addr) (n m c c2 : Nat) (us xs : List Int) (hu : SlR w 3 1 ic A n us) (hs : SlR w 3 1 ic B m xs) (hn : n ≤ 1000000) (hm : m ≤ 1000000) (id : Int) : Does Try.prog 13 #[.slice A n c, .slice B m c2, .int .i64 id] w (fun v w' => v = .tuple #[.int .i64 (insteadR us xs id).1, .int .i64 (insteadR us xs id).2] ∧ St w Emp [] w') := by
  refine fn_body (fn := Try.f13) Try.func13 rfl [(0, .slice A n c), (1, .slice B m c2), (2, .int .i64 id)] (by exact ⟨rfl, rfl, rfl, trivial⟩) rfl (St.start w) ?_
  refine jc_seq ?_
  refine sc_region ?_
  refine so_pure (opv_assign (by rfl)) (by rfl) rfl ?_
  refine so_pure (opv_assign (by rfl)) (by rfl) rfl ?_
  refine jo_nil ?_
  refine jk_then ?_
  refine jc_seq ?_
  refine jc_seq ?_
  refine sc_region ?_
  refine so_pure (opv_move (by rfl)) (by rfl) rfl ?_
  refine so_eff (eff_call0 (fl := []) (cl := []) (G := fun v New => v = .bool (decide (0 ≤ id) && decide (id ≤ 1099511627776)) ∧ New = []) (by rfl) (by rfl) tx22 (by exact fun w1 hw1 => (number_spec w1 id).mono (fun _ _ ⟨hv, hst⟩ => ⟨[], ⟨hv, rfl⟩, hst⟩))) (by rfl) rfl ?_
  rintro _ _ ⟨_, ⟨rfl, rfl⟩, rfl⟩
  refine so_pure (opv_not (by rfl)) (by rfl) rfl ?_
  refine so_pure (opv_move (by rfl)) (by rfl) rfl ?_
  refine sk_split (x := 13) (by rfl) (fun h6 => ?_) (fun h6 => ?_)
  · first | have p6 := of_decide_eq_true h6 | have p6 := of_decide_eq_false h6 | have p6 := ndT h6 | have p6 := ndF h6 | have p6 := nbT h6 | have p6 := nbF h6 | have p6 := h6
    refine so_skip (wtd_not rfl rfl (by rfl) (not_t (nbT h6))) rfl ?_
    refine so_skip (wtd_not rfl rfl (by rfl) (not_t (nbT h6))) rfl ?_
    refine so_skip (wtd_not rfl rfl (by rfl) (not_t (nbT h6))) rfl ?_
    refine so_pure (sv_pick_t (by rfl) (not_t (nbT h6)) (by rfl)) (by rfl) rfl ?_
    refine jo_nil ?_
    refine jk_then ?_
    refine sc_true (by rfl) rfl ?_
    refine jc_seq ?_
    have hb : badI id xs = true := by unfold badI; cases hare : areL xs <;> simp_all <;> omega
    refine sc_region ?_
    refine so_pure (opv_assign (by rfl)) (by rfl) rfl ?_
    refine so_pure (opv_assign (by rfl)) (by rfl) rfl ?_
    refine jo_nil ?_
    refine jk_then ?_
    refine jc_ret ?_
    refine jk_then_ret ?_
    refine jk_fn_ret2 rfl rfl (by rfl) (by rfl) (fun w hw => ?_)
    have e : insteadR us xs id = (0, 1) := by unfold insteadR; rw [if_pos hb]
    rw [e]
    exact ⟨rfl, hw.forget⟩
  · first | have p6 := of_decide_eq_true h6 | have p6 := of_decide_eq_false h6 | have p6 := ndT h6 | have p6 := ndF h6 | have p6 := nbT h6 | have p6 := nbF h6 | have p6 := h6
    refine so_pure (opv_move (by rfl)) (wtd_run rfl rfl (by rfl) (not_f (nbF h6))) rfl ?_
    refine so_eff (eff_call0 (fl := []) (cl := []) (G := fun v New => v = .bool (areL xs) ∧ New = []) (by rfl) (by rfl) tx23 (by exact fun w1 hw1 => (reflive_spec w1 B m c2 xs (hs.keepSt hw1) hm).mono (fun _ _ ⟨hv, hst⟩ => ⟨[], ⟨hv, rfl⟩, hst⟩))) (wtd_run rfl rfl (by rfl) (not_f (nbF h6))) rfl ?_
    rintro _ _ ⟨_, ⟨rfl, rfl⟩, rfl⟩
    refine so_pure (opv_not (by rfl)) (wtd_run rfl rfl (by rfl) (not_f (nbF h6))) rfl ?_
    refine so_pure (sv_pick_f (by rfl) (not_f (nbF h6)) (by rfl)) (by rfl) rfl ?_
    refine jo_nil ?_
    refine jk_then ?_
    refine sk_split (x := 17) (by rfl) (fun h9 => ?_) (fun h9 => ?_)
    · first | have p9 := of_decide_eq_true h9 | have p9 := of_decide_eq_false h9 | have p9 := ndT h9 | have p9 := ndF h9 | have p9 := nbT h9 | have p9 := nbF h9 | have p9 := h9
      refine sc_true (by rfl) (not_t (nbT h9)) ?_
      refine jc_seq ?_
      have hb : badI id xs = true := by unfold badI; cases hare : areL xs <;> simp_all <;> omega
      refine sc_region ?_
      refine so_pure (opv_assign (by rfl)) (by rfl) rfl ?_
      refine so_pure (opv_assign (by rfl)) (by rfl) rfl ?_
      refine jo_nil ?_
      refine jk_then ?_
      refine jc_ret ?_
      refine jk_then_ret ?_
      refine jk_fn_ret2 rfl rfl (by rfl) (by rfl) (fun w hw => ?_)
      have e : insteadR us xs id = (0, 1) := by unfold insteadR; rw [if_pos hb]
      rw [e]
      exact ⟨rfl, hw.forget⟩
    · first | have p9 := of_decide_eq_true h9 | have p9 := of_decide_eq_false h9 | have p9 := ndT h9 | have p9 := ndF h9 | have p9 := nbT h9 | have p9 := nbF h9 | have p9 := h9
      refine sc_false (by rfl) (not_f (nbF h9)) ?_
      refine jc_skip ?_
      refine jk_then ?_
      refine jc_seq ?_
      refine jc_seq ?_
      have hb : badI id xs = false := by unfold badI; cases hare : areL xs <;> simp_all <;> omega
      have hb1 : 0 ≤ id ∧ id ≤ 1099511627776 := by simp [badI] at hb; omega
      obtain ⟨f, rfl⟩ : ∃ f : Nat, id = f := ⟨id.toNat, by omega⟩
      refine sc_region ?_
      refine so_pure (opv_assign (by rfl)) (by rfl) rfl ?_
      refine jo_nil ?_
      refine jk_then ?_
      refine jc_block ?_
      refine jc_loop (σ := Nat) (fun i => [(0, .slice A n c), (1, .slice B m c2), (2, .int .i64 (f : Int)), (8, .int .i64 i)]) (fun i => []) (fun i => (i ≤ m) ∧ ((rotL xs f i).find? (fun d => !decide (d ∈ us)) = none)) (fun i => m - i) 0 ⟨Nat.zero_le _, rfl⟩ ⟨rfl, rfl, rfl, rfl, trivial⟩ (fun w hw => St.sel hw (by repeat (first | exact Pks.nil _ | exact Pk.here _ | apply Pk.there | apply Pks.cons))) ?_
      rintro i ⟨hi, hfi⟩
      show Jc _ _ [(0, .slice A n c), (1, .slice B m c2), (2, .int .i64 (f : Int)), (8, .int .i64 i)] [] _
      refine jc_seq ?_
      refine jc_seq ?_
      refine sc_region ?_
      refine so_pure (opv_move (by rfl)) (by rfl) rfl ?_
      refine so_pure (opv_move (by rfl)) (by rfl) rfl ?_
      refine so_pure (opv_len_slice (by rfl) Try.underlying22) (by rfl) rfl ?_
      refine so_pure (opv_cmp (by rfl) (by rfl) (by rfl)) (by rfl) rfl ?_
      refine jo_nil ?_
      refine jk_then ?_
      refine sk_split (x := 21) (by rfl) (fun h15 => ?_) (fun h15 => ?_)
      · first | have p15 := of_decide_eq_true h15 | have p15 := of_decide_eq_false h15 | have p15 := ndT h15 | have p15 := ndF h15 | have p15 := nbT h15 | have p15 := nbF h15 | have p15 := h15
        refine sc_true (by rfl) h15 ?_
        refine jc_skip ?_
        refine jk_then ?_
        refine jc_seq ?_
        refine jc_block ?_
        refine jc_seq ?_
        have hil : (f + i) % m < m := Nat.mod_lt _ (by omega)
        obtain ⟨_, _, _, _, x, _, _, hx, _⟩ := hs.get hil
        have hx3 : xs[(f + i) % xs.length]? = some x := by rw [← hs.1]; exact hx
        refine sc_region ?_
        refine so_pure (opv_move (by rfl)) (by rfl) rfl ?_
        refine so_pure (opv_move (by rfl)) (by rfl) rfl ?_
        refine so_pure (opv_move (by rfl)) (by rfl) rfl ?_
        refine so_pure (opv_add_nat (m := f) (n := i) (by rfl) (by rfl) (by omega)) (by rfl) rfl ?_
        refine so_pure (opv_move (by rfl)) (by rfl) rfl ?_
        refine so_pure (opv_len_slice (by rfl) Try.underlying22) (by rfl) rfl ?_
        refine so_pure (opv_rem_nat (m := f + i) (n := m) (by rfl) (by rfl) (by omega)) (by rfl) rfl ?_
        refine so_pure (opv_indexAddr_slr (i := (f + i) % m) (by rfl) hs (by rfl) Try.underlying22 ti3 rfl hil) (by rfl) rfl ?_
        refine so_pure (opv_load_slr (enc := ic) (u := x) (fo := 0) (v := .int .i64 x) (by rfl) na3 rfl hs hx rfl) (by rfl) rfl ?_
        refine so_pure (opv_assign (by rfl)) (by rfl) rfl ?_
        refine jo_nil ?_
        refine jk_then ?_
        refine jc_seq ?_
        refine sc_region ?_
        refine so_pure (opv_move (by rfl)) (by rfl) rfl ?_
        refine so_pure (opv_move (by rfl)) (by rfl) rfl ?_
        refine so_eff (eff_call0 (fl := []) (cl := []) (G := fun v New => v = .bool (decide (x ∈ us)) ∧ New = []) (by rfl) (by rfl) tx25 (by exact fun w1 hw1 => (has_spec w1 A n c us (hu.keepSt hw1) hn x).mono (fun _ _ ⟨hv, hst⟩ => ⟨[], ⟨hv, rfl⟩, hst⟩))) (by rfl) rfl ?_
        rintro _ _ ⟨_, ⟨rfl, rfl⟩, rfl⟩
        refine so_pure (opv_not (by rfl)) (by rfl) rfl ?_
        refine jo_nil ?_
        refine jk_then ?_
        refine sk_split (x := 36) (by rfl) (fun h22 => ?_) (fun h22 => ?_)
        · first | have p22 := of_decide_eq_true h22 | have p22 := of_decide_eq_false h22 | have p22 := ndT h22 | have p22 := ndF h22 | have p22 := nbT h22 | have p22 := nbF h22 | have p22 := h22
          refine sc_true (by rfl) (not_t (nbT h22)) ?_
          refine jc_seq ?_
          refine sc_region ?_
          refine so_pure (opv_move (by rfl)) (by rfl) rfl ?_
          refine so_pure (opv_assign (by rfl)) (by rfl) rfl ?_
          refine so_pure (opv_assign (by rfl)) (by rfl) rfl ?_
          refine jo_nil ?_
          refine jk_then ?_
          refine jc_ret ?_
          refine jk_block_ret ?_
          refine jk_then_ret ?_
          refine jk_then_ret ?_
          refine jk_block_ret ?_
          refine jk_then_ret ?_
          refine jk_fn_ret2 rfl rfl (by rfl) (by rfl) (fun w hw => ?_)
          have hfind := find_at (n := m) (by omega) hx3 hfi (by simpa using p22)
          have e : insteadR us xs (f : Int) = (x, 0) := by unfold insteadR; rw [if_neg (by rw [hb]; simp), Int.toNat_natCast, ← hs.1, hfind]
          rw [e]
          exact ⟨rfl, hw.forget⟩
        · first | have p22 := of_decide_eq_true h22 | have p22 := of_decide_eq_false h22 | have p22 := ndT h22 | have p22 := ndF h22 | have p22 := nbT h22 | have p22 := nbF h22 | have p22 := h22
          refine sc_false (by rfl) (not_f (nbF h22)) ?_
          refine jc_skip ?_
          refine jk_block ?_
          refine jk_then ?_
          refine sc_region ?_
          refine so_pure (opv_move (by rfl)) (by rfl) rfl ?_
          refine so_pure (opv_add (by rfl) (by rfl) (wrap64_ok (by omega))) (by rfl) rfl ?_
          refine so_pure (opv_assign (by rfl)) (by rfl) rfl ?_
          refine jo_nil ?_
          refine jk_round (i + 1) ⟨by omega, find_step hx3 hfi (by simpa using p22)⟩ (by show m - (i + 1) < m - i; omega) ⟨rfl, rfl, rfl, rfl, trivial⟩ (fun w hw => ?_)
          show St _ _ [] _
          exact St.sel hw (by repeat (first | exact Pks.nil _ | exact Pk.here _ | apply Pk.there | apply Pks.cons))
      · first | have p15 := of_decide_eq_true h15 | have p15 := of_decide_eq_false h15 | have p15 := ndT h15 | have p15 := ndF h15 | have p15 := nbT h15 | have p15 := nbF h15 | have p15 := h15
        refine sc_false (by rfl) h15 ?_
        refine jc_exit ?_
        refine jk_then_exit ?_
        refine jk_then_exit ?_
        refine jk_block_exit ?_
        refine jk_then ?_
        refine jc_seq ?_
        refine sc_region ?_
        refine so_pure (opv_assign (by rfl)) (by rfl) rfl ?_
        refine so_pure (opv_assign (by rfl)) (by rfl) rfl ?_
        refine jo_nil ?_
        refine jk_then ?_
        refine jc_ret ?_
        refine jk_fn_ret2 rfl rfl (by rfl) (by rfl) (fun w hw => ?_)
        have hfind := hfi
        rw [show i = m by omega] at hfind
        have e : insteadR us xs (f : Int) = (0, 2) := by unfold insteadR; rw [if_neg (by rw [hb]; simp), Int.toNat_natCast, ← hs.1, hfind]
        rw [e]
        exact ⟨rfl, hw.forget⟩
end Go.Place
