/- A part of a proof for the laws of the seat Ytcjhahjjeicmoaa; it has no conditions of its own. -/
import Derived.Test.YtcjhahjjeicmoaaHW3
namespace Go.Hist
open Go Go.SL Go.Proofs
set_option maxHeartbeats 4000000 in
theorem small17_spec (w : World) (A : Option Addr) (n cap : Nat) (xs : List Ev) (hs : SlR w 39 8 Ev.cells A n xs) (hn : n ≤ 9223372036854775807) (most : Int) : Does Try.prog 7 #[.slice A n cap, .int .i64 most] w (fun v w' => v = .bool (small xs most) ∧ St w Emp [] w') := by
  refine fn_body (fn := Try.f7) Try.func7 rfl [(0, .slice A n cap), (1, .int .i64 most)] (by exact ⟨rfl, rfl, trivial⟩) rfl (St.start w) ?_
  refine jc_seq ?_
  refine sc_region ?_
  refine so_pure (opv_assign (by rfl)) (by rfl) rfl ?_
  refine jo_nil ?_
  refine jk_then ?_
  refine jc_seq ?_
  refine jc_seq ?_
  refine sc_region ?_
  refine so_pure (opv_assign (by rfl)) (by rfl) rfl ?_
  refine jo_nil ?_
  refine jk_then ?_
  refine jc_block ?_
  refine jc_loop (σ := Nat) (fun k => [(0, .slice A n cap), (1, .int .i64 most), (5, .int .i64 k)]) (fun k => []) (fun k => (k ≤ n) ∧ ((xs.take k).all smallEv = true)) (fun k => n - k) 0 ⟨Nat.zero_le _, rfl⟩ ⟨rfl, rfl, rfl, trivial⟩ (fun w hw => hw) ?_
  rintro k ⟨hk, ha⟩
  show Jc _ _ [(0, .slice A n cap), (1, .int .i64 most), (5, .int .i64 k)] [] _
  refine jc_seq ?_
  refine jc_seq ?_
  refine sc_region ?_
  refine so_pure (opv_move (by rfl)) (by rfl) rfl ?_
  refine so_pure (opv_move (by rfl)) (by rfl) rfl ?_
  refine so_pure (opv_len_slice (by rfl) Try.underlying22) (by rfl) rfl ?_
  refine so_pure (opv_cmp (by rfl) (by rfl) (by rfl)) (by rfl) rfl ?_
  refine jo_nil ?_
  refine jk_then ?_
  refine sk_split (x := 9) (by rfl) (fun h6 => ?_) (fun h6 => ?_)
  · first | have p6 := of_decide_eq_true h6 | have p6 := of_decide_eq_false h6 | have p6 := ndT h6 | have p6 := ndF h6 | have p6 := nbT h6 | have p6 := nbF h6 | have p6 := h6
    refine sc_true (by rfl) h6 ?_
    refine jc_skip ?_
    refine jk_then ?_
    refine jc_seq ?_
    refine jc_block ?_
    refine jc_seq ?_
    refine sc_region ?_
    have hlt : k < n := by omega
    obtain ⟨b, off, c, fz, x, rfl, hb, hx, hc⟩ := hs.get hlt
    refine so_pure (opv_move (by rfl)) (by rfl) rfl ?_
    refine so_pure (opv_move (by rfl)) (by rfl) rfl ?_
    refine so_pure (opv_indexAddr (by rfl) (by rfl) Try.underlying22 ti39 (by first | rfl | omega) (by omega)) (by rfl) rfl ?_
    refine so_pure (opv_fieldAddr (by rfl) fld39_2) (by rfl) rfl ?_
    refine so_pure (opv_load_agg (vs := [.int .i64 x.kind, .string x.key, .string x.value]) (by rfl) ag29 ti29 (rd_old hb (fun h => h)) (hc.sub 2 rfl) (by rfl)) (by rfl) rfl ?_
    refine so_eff (eff_call0 (G := fun v New => v = .bool (smallR x.key x.value) ∧ New = []) (by rfl) (by rfl) tx13 (by exact fun w1 hw1 => (small16_spec x.kind x.key x.value w1).mono (fun _ _ ⟨hv, hst⟩ => ⟨[], ⟨hv, rfl⟩, hst⟩))) (by rfl) rfl ?_
    rintro _ _ ⟨_, ⟨rfl, rfl⟩, rfl⟩
    refine so_pure (opv_not (by rfl)) (by rfl) rfl ?_
    refine so_pure (opv_move (by rfl)) (by rfl) rfl ?_
    refine sk_split (x := 19) (by rfl) (fun h11 => ?_) (fun h11 => ?_)
    · first | have p11 := of_decide_eq_true h11 | have p11 := of_decide_eq_false h11 | have p11 := ndT h11 | have p11 := ndF h11 | have p11 := nbT h11 | have p11 := nbF h11 | have p11 := h11
      refine so_skip (wtd_not rfl rfl (by rfl) (not_t (by simpa using h11))) rfl ?_
      refine so_skip (wtd_not rfl rfl (by rfl) (not_t (by simpa using h11))) rfl ?_
      refine so_skip (wtd_not rfl rfl (by rfl) (not_t (by simpa using h11))) rfl ?_
      refine so_skip (wtd_not rfl rfl (by rfl) (not_t (by simpa using h11))) rfl ?_
      refine so_skip (wtd_not rfl rfl (by rfl) (not_t (by simpa using h11))) rfl ?_
      refine so_skip (wtd_not rfl rfl (by rfl) (not_t (by simpa using h11))) rfl ?_
      refine so_skip (wtd_not rfl rfl (by rfl) (not_t (by simpa using h11))) rfl ?_
      refine so_skip (wtd_not rfl rfl (by rfl) (not_t (by simpa using h11))) rfl ?_
      refine so_pure (sv_pick_t (by rfl) (not_t (by simpa using h11)) (by rfl)) (by rfl) rfl ?_
      refine so_pure (opv_move (by rfl)) (by rfl) rfl ?_
      refine so_skip (wtd_not rfl rfl (by rfl) rfl) rfl ?_
      refine so_skip (wtd_not rfl rfl (by rfl) rfl) rfl ?_
      refine so_skip (wtd_not rfl rfl (by rfl) rfl) rfl ?_
      refine so_skip (wtd_not rfl rfl (by rfl) rfl) rfl ?_
      refine so_skip (wtd_not rfl rfl (by rfl) rfl) rfl ?_
      refine so_skip (wtd_not rfl rfl (by rfl) rfl) rfl ?_
      refine so_skip (wtd_not rfl rfl (by rfl) rfl) rfl ?_
      refine so_skip (wtd_not rfl rfl (by rfl) rfl) rfl ?_
      refine so_pure (sv_pick_t (by rfl) rfl (by rfl)) (by rfl) rfl ?_
      refine jo_nil ?_
      refine jk_then ?_
      refine sc_true (by rfl) rfl ?_
      refine jc_seq ?_
      refine sc_region ?_
      refine so_pure (opv_assign (by rfl)) (by rfl) rfl ?_
      refine jo_nil ?_
      refine jk_then ?_
      refine jc_ret ?_
      refine jk_block_ret ?_
      refine jk_then_ret ?_
      refine jk_then_ret ?_
      refine jk_block_ret ?_
      refine jk_then_ret ?_
      refine jk_fn_ret rfl rfl (by rfl) (fun w hw => ?_)
      exact ⟨by rw [small_not hx (by clear hs hb hc; first | (simp_all [smallEv]; done) | (simp_all [smallEv]; omega))], hw.forget⟩
    · first | have p11 := of_decide_eq_true h11 | have p11 := of_decide_eq_false h11 | have p11 := ndT h11 | have p11 := ndF h11 | have p11 := nbT h11 | have p11 := nbF h11 | have p11 := h11
      refine so_pure (opv_move (by rfl)) (wtd_run rfl rfl (by rfl) (not_f (by simpa using h11))) rfl ?_
      refine so_pure (opv_move (by rfl)) (wtd_run rfl rfl (by rfl) (not_f (by simpa using h11))) rfl ?_
      refine so_pure (opv_indexAddr (by rfl) (by rfl) Try.underlying22 ti39 (by first | rfl | omega) (by omega)) (wtd_run rfl rfl (by rfl) (not_f (by simpa using h11))) rfl ?_
      refine so_pure (opv_fieldAddr (by rfl) fld39_3) (wtd_run rfl rfl (by rfl) (not_f (by simpa using h11))) rfl ?_
      refine so_pure (opv_fieldAddr (by rfl) fld33_1) (wtd_run rfl rfl (by rfl) (not_f (by simpa using h11))) rfl ?_
      refine so_pure (opv_load (by rfl) na9 (rd_old hb (fun h => h)) (by exact hc.get 6 _ rfl)) (wtd_run rfl rfl (by rfl) (not_f (by simpa using h11))) rfl ?_
      refine so_pure (opv_len_string (by rfl) Try.underlying9) (wtd_run rfl rfl (by rfl) (not_f (by simpa using h11))) rfl ?_
      refine so_pure (opv_cmp (by rfl) (by rfl) (by rfl)) (wtd_run rfl rfl (by rfl) (not_f (by simpa using h11))) rfl ?_
      refine so_pure (sv_pick_f (by rfl) (not_f (by simpa using h11)) (by rfl)) (by rfl) rfl ?_
      refine so_pure (opv_move (by rfl)) (by rfl) rfl ?_
      refine sk_split (x := 29) (by rfl) (fun h18 => ?_) (fun h18 => ?_)
      · first | have p18 := of_decide_eq_true h18 | have p18 := of_decide_eq_false h18 | have p18 := ndT h18 | have p18 := ndF h18 | have p18 := nbT h18 | have p18 := nbF h18 | have p18 := h18
        refine so_skip (wtd_not rfl rfl (by rfl) h18) rfl ?_
        refine so_skip (wtd_not rfl rfl (by rfl) h18) rfl ?_
        refine so_skip (wtd_not rfl rfl (by rfl) h18) rfl ?_
        refine so_skip (wtd_not rfl rfl (by rfl) h18) rfl ?_
        refine so_skip (wtd_not rfl rfl (by rfl) h18) rfl ?_
        refine so_skip (wtd_not rfl rfl (by rfl) h18) rfl ?_
        refine so_skip (wtd_not rfl rfl (by rfl) h18) rfl ?_
        refine so_skip (wtd_not rfl rfl (by rfl) h18) rfl ?_
        refine so_pure (sv_pick_t (by rfl) h18 (by rfl)) (by rfl) rfl ?_
        refine jo_nil ?_
        refine jk_then ?_
        refine sc_true (by rfl) rfl ?_
        refine jc_seq ?_
        refine sc_region ?_
        refine so_pure (opv_assign (by rfl)) (by rfl) rfl ?_
        refine jo_nil ?_
        refine jk_then ?_
        refine jc_ret ?_
        refine jk_block_ret ?_
        refine jk_then_ret ?_
        refine jk_then_ret ?_
        refine jk_block_ret ?_
        refine jk_then_ret ?_
        refine jk_fn_ret rfl rfl (by rfl) (fun w hw => ?_)
        exact ⟨by rw [small_not hx (by clear hs hb hc; first | (simp_all [smallEv]; done) | (simp_all [smallEv]; omega))], hw.forget⟩
      · first | have p18 := of_decide_eq_true h18 | have p18 := of_decide_eq_false h18 | have p18 := ndT h18 | have p18 := ndF h18 | have p18 := nbT h18 | have p18 := nbF h18 | have p18 := h18
        refine so_pure (opv_move (by rfl)) (wtd_run rfl rfl (by rfl) h18) rfl ?_
        refine so_pure (opv_move (by rfl)) (wtd_run rfl rfl (by rfl) h18) rfl ?_
        refine so_pure (opv_indexAddr (by rfl) (by rfl) Try.underlying22 ti39 (by first | rfl | omega) (by omega)) (wtd_run rfl rfl (by rfl) h18) rfl ?_
        refine so_pure (opv_fieldAddr (by rfl) fld39_3) (wtd_run rfl rfl (by rfl) h18) rfl ?_
        refine so_pure (opv_fieldAddr (by rfl) fld33_2) (wtd_run rfl rfl (by rfl) h18) rfl ?_
        refine so_pure (opv_load (by rfl) na31 (rd_old hb (fun h => h)) (by exact hc.get 7 _ rfl)) (wtd_run rfl rfl (by rfl) h18) rfl ?_
        refine so_pure (opv_len_slice (by rfl) Try.underlying31) (wtd_run rfl rfl (by rfl) h18) rfl ?_
        refine so_pure (opv_cmp (by rfl) (by rfl) (by rfl)) (wtd_run rfl rfl (by rfl) h18) rfl ?_
        refine so_pure (sv_pick_f (by rfl) h18 (by rfl)) (by rfl) rfl ?_
        refine jo_nil ?_
        refine jk_then ?_
        refine sk_split (x := 38) (by rfl) (fun h25 => ?_) (fun h25 => ?_)
        · first | have p25 := of_decide_eq_true h25 | have p25 := of_decide_eq_false h25 | have p25 := ndT h25 | have p25 := ndF h25 | have p25 := nbT h25 | have p25 := nbF h25 | have p25 := h25
          refine sc_true (by rfl) h25 ?_
          refine jc_seq ?_
          refine sc_region ?_
          refine so_pure (opv_assign (by rfl)) (by rfl) rfl ?_
          refine jo_nil ?_
          refine jk_then ?_
          refine jc_ret ?_
          refine jk_block_ret ?_
          refine jk_then_ret ?_
          refine jk_then_ret ?_
          refine jk_block_ret ?_
          refine jk_then_ret ?_
          refine jk_fn_ret rfl rfl (by rfl) (fun w hw => ?_)
          exact ⟨by rw [small_not hx (by clear hs hb hc; first | (simp_all [smallEv]; done) | (simp_all [smallEv]; omega))], hw.forget⟩
        · first | have p25 := of_decide_eq_true h25 | have p25 := of_decide_eq_false h25 | have p25 := ndT h25 | have p25 := ndF h25 | have p25 := nbT h25 | have p25 := nbF h25 | have p25 := h25
          refine sc_false (by rfl) h25 ?_
          refine jc_skip ?_
          refine jk_block ?_
          refine jk_then ?_
          refine sc_region ?_
          refine so_pure (opv_move (by rfl)) (by rfl) rfl ?_
          refine so_pure (opv_add (by rfl) (by rfl) (wrap64_ok (by omega))) (by rfl) rfl ?_
          refine so_pure (opv_assign (by rfl)) (by rfl) rfl ?_
          refine jo_nil ?_
          refine jk_round (k + 1) ⟨by omega, all_step hx ha (by clear hs hb hc; first | (simp_all [smallEv]; done) | (simp_all [smallEv]; omega))⟩ (by show n - (k + 1) < n - k; omega) ⟨rfl, rfl, rfl, trivial⟩ (fun w hw => ?_)
          show St _ _ [] _
          exact hw.forget
  · first | have p6 := of_decide_eq_true h6 | have p6 := of_decide_eq_false h6 | have p6 := ndT h6 | have p6 := ndF h6 | have p6 := nbT h6 | have p6 := nbF h6 | have p6 := h6
    refine sc_false (by rfl) h6 ?_
    refine jc_exit ?_
    refine jk_then_exit ?_
    refine jk_then_exit ?_
    refine jk_block_exit ?_
    refine jk_then ?_
    refine jc_seq ?_
    refine sc_region ?_
    refine so_pure (opv_move (by rfl)) (by rfl) rfl ?_
    refine so_pure (opv_len_slice (by rfl) Try.underlying22) (by rfl) rfl ?_
    refine so_pure (opv_move (by rfl)) (by rfl) rfl ?_
    refine so_pure (opv_cmp (by rfl) (by rfl) (by rfl)) (by rfl) rfl ?_
    refine so_pure (opv_assign (by rfl)) (by rfl) rfl ?_
    refine jo_nil ?_
    refine jk_then ?_
    refine jc_ret ?_
    refine jk_fn_ret rfl rfl (by rfl) (fun w hw => ?_)
    obtain rfl : k = n := by omega
    rw [hs.1, List.take_length] at ha
    exact ⟨by unfold small; rw [ha, hs.1]; rfl, hw.forget⟩
end Go.Hist
