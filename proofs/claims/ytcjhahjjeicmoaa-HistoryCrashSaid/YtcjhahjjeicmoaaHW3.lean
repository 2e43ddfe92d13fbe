/- A part of a proof for the laws of the seat Ytcjhahjjeicmoaa; it has no conditions of its own. -/
import Derived.Test.YtcjhahjjeicmoaaHW2
namespace Go.Hist
open Go Go.SL Go.Proofs
set_option maxHeartbeats 4000000 in
theorem small16_spec (k : Int) (a b : ByteArray) (w : World) : Does Try.prog 13 #[.agg #[.int .i64 k, .string a, .string b]] w (fun v w' => v = .bool (smallR a b) ∧ St w Emp [] w') := by
  refine fn_body (fn := Try.f13) Try.func13 rfl [(0, .agg #[.int .i64 k, .string a, .string b])] (by exact ⟨rfl, trivial⟩) rfl (St.start w) ?_
  refine jc_seq ?_
  refine sc_region ?_
  refine so_eff (eff_box (by rfl) rfl) (by rfl) rfl ?_
  rintro _ _ ⟨b1, rfl, rfl⟩
  refine so_pure (opv_assign (by rfl)) (by rfl) rfl ?_
  refine jo_nil ?_
  refine jk_then ?_
  refine jc_seq ?_
  refine sc_region ?_
  refine so_pure (opv_fieldAddr (by rfl) fld29_1) (by rfl) rfl ?_
  refine so_pure (opv_load (by rfl) na9 (rd_pk (by repeat (first | exact Pk.here _ | apply Pk.there))) (by rfl)) (by rfl) rfl ?_
  refine so_pure (opv_len_string (by rfl) Try.underlying9) (by rfl) rfl ?_
  refine so_pure (opv_cmp (by rfl) (by rfl) (by rfl)) (by rfl) rfl ?_
  refine so_pure (opv_move (by rfl)) (by rfl) rfl ?_
  refine sk_split (x := 7) (by rfl) (fun h6 => ?_) (fun h6 => ?_)
  · first | have p6 := of_decide_eq_true h6 | have p6 := of_decide_eq_false h6 | have p6 := ndT h6 | have p6 := ndF h6 | have p6 := nbT h6 | have p6 := nbF h6 | have p6 := h6
    refine so_pure (opv_fieldAddr (by rfl) fld29_2) (wtd_run rfl rfl (by rfl) h6) rfl ?_
    refine so_pure (opv_load (by rfl) na9 (rd_pk (by repeat (first | exact Pk.here _ | apply Pk.there))) (by rfl)) (wtd_run rfl rfl (by rfl) h6) rfl ?_
    refine so_pure (opv_len_string (by rfl) Try.underlying9) (wtd_run rfl rfl (by rfl) h6) rfl ?_
    refine so_pure (opv_cmp (by rfl) (by rfl) (by rfl)) (wtd_run rfl rfl (by rfl) h6) rfl ?_
    refine so_pure (sv_pick_t (by rfl) h6 (by rfl)) (by rfl) rfl ?_
    refine so_pure (opv_assign (by rfl)) (by rfl) rfl ?_
    refine jo_nil ?_
    refine jk_then ?_
    refine jc_ret ?_
    refine jk_fn_ret rfl rfl (by rfl) (fun w hw => ?_)
    exact ⟨by simp [smallR, *], hw.forget⟩
  · first | have p6 := of_decide_eq_true h6 | have p6 := of_decide_eq_false h6 | have p6 := ndT h6 | have p6 := ndF h6 | have p6 := nbT h6 | have p6 := nbF h6 | have p6 := h6
    refine so_skip (wtd_not rfl rfl (by rfl) h6) rfl ?_
    refine so_skip (wtd_not rfl rfl (by rfl) h6) rfl ?_
    refine so_skip (wtd_not rfl rfl (by rfl) h6) rfl ?_
    refine so_skip (wtd_not rfl rfl (by rfl) h6) rfl ?_
    refine so_pure (sv_pick_f (by rfl) h6 (by rfl)) (by rfl) rfl ?_
    refine so_pure (opv_assign (by rfl)) (by rfl) rfl ?_
    refine jo_nil ?_
    refine jk_then ?_
    refine jc_ret ?_
    refine jk_fn_ret rfl rfl (by rfl) (fun w hw => ?_)
    exact ⟨by simp [smallR, *], hw.forget⟩
end Go.Hist
