/- A part of a proof for the laws of the seat Ytnjhnpfippcacaa; it has no conditions of its own. -/
import Derived.Test.YtnjhnpfippcacaaPW14
namespace Go.Pins
open Go Go.SL Go.Proofs
set_option maxHeartbeats 4000000 in
theorem law_nil (w : World) (x : Vol) : Does Try.prog 6 #[.agg #[.int .i64 x.id, .int .i64 x.gen, .int .i64 x.size, .slice x.lA x.ln x.lc]] w (fun v w' => v = .bool true ∧ St w Emp [] w') := by
  refine fn_body (fn := Try.f6) Try.func6 rfl [(0, .agg #[.int .i64 x.id, .int .i64 x.gen, .int .i64 x.size, .slice x.lA x.ln x.lc])] (by exact ⟨rfl, trivial⟩) rfl (St.start w) ?_
  refine jc_seq ?_
  refine sc_region ?_
  refine so_eff (eff_box (by rfl) rfl) (by rfl) rfl ?_
  rintro _ _ ⟨b1, rfl, rfl⟩
  refine so_pure (opv_assign (by rfl)) (by rfl) rfl ?_
  refine jo_nil ?_
  refine jk_then ?_
  refine jc_seq ?_
  refine sc_region ?_
  refine so_pure (opv_assign (by rfl)) (by rfl) rfl ?_
  refine jo_nil ?_
  refine jk_then ?_
  refine jc_seq ?_
  refine sc_region ?_
  refine so_pure (opv_move (by rfl)) (by rfl) rfl ?_
  refine so_pure (opv_fieldAddr (by rfl) fld33_0) (by rfl) rfl ?_
  refine so_pure (opv_load (by rfl) na3 (rd_pk (by repeat (first | exact Pk.here _ | apply Pk.there))) (by rfl)) (by rfl) rfl ?_
  refine so_pure (opv_fieldAddr (by rfl) fld33_1) (by rfl) rfl ?_
  refine so_pure (opv_load (by rfl) na3 (rd_pk (by repeat (first | exact Pk.here _ | apply Pk.there))) (by rfl)) (by rfl) rfl ?_
  refine so_eff (eff_call0 (fl := []) (cl := []) (G := fun v New => v = .int .i64 1 ∧ New = []) (by rfl) (by rfl) tx10 (by exact fun w1 _ => (pin_nil w1 x.id x.gen).mono (fun _ _ ⟨hv, hst⟩ => ⟨[], ⟨hv, rfl⟩, hst⟩))) (by rfl) rfl ?_
  rintro _ _ ⟨_, ⟨rfl, rfl⟩, rfl⟩
  refine so_pure (opv_cmp (by rfl) (by rfl) (by rfl)) (by rfl) rfl ?_
  refine so_pure (opv_move (by rfl)) (by rfl) rfl ?_
  refine so_pure (opv_move (by rfl)) (wtd_run rfl rfl (by rfl) rfl) rfl ?_
  refine so_pure (opv_fieldAddr (by rfl) fld33_0) (wtd_run rfl rfl (by rfl) rfl) rfl ?_
  refine so_pure (opv_load (by rfl) na3 (rd_pk (by repeat (first | exact Pk.here _ | apply Pk.there))) (by rfl)) (wtd_run rfl rfl (by rfl) rfl) rfl ?_
  refine so_pure (opv_fieldAddr (by rfl) fld33_1) (wtd_run rfl rfl (by rfl) rfl) rfl ?_
  refine so_pure (opv_load (by rfl) na3 (rd_pk (by repeat (first | exact Pk.here _ | apply Pk.there))) (by rfl)) (wtd_run rfl rfl (by rfl) rfl) rfl ?_
  refine so_eff (eff_call0 (fl := []) (cl := []) (G := fun v New => v = .int .i64 1 ∧ New = []) (by rfl) (by rfl) tx12 (by exact fun w1 _ => (unpin_nil w1 x.id x.gen).mono (fun _ _ ⟨hv, hst⟩ => ⟨[], ⟨hv, rfl⟩, hst⟩))) (wtd_run rfl rfl (by rfl) rfl) rfl ?_
  rintro _ _ ⟨_, ⟨rfl, rfl⟩, rfl⟩
  refine so_pure (opv_cmp (by rfl) (by rfl) (by rfl)) (wtd_run rfl rfl (by rfl) rfl) rfl ?_
  refine so_pure (sv_pick_t (by rfl) rfl (by rfl)) (by rfl) rfl ?_
  refine so_pure (opv_move (by rfl)) (by rfl) rfl ?_
  refine so_pure (opv_move (by rfl)) (wtd_run rfl rfl (by rfl) rfl) rfl ?_
  refine so_pure (opv_load_agg (vs := x.cells) (by rfl) ag33 ti33 (rd_pk (by repeat (first | exact Pk.here _ | apply Pk.there))) (by exact ⟨rfl, rfl, rfl, rfl, trivial⟩) rfl) (wtd_run rfl rfl (by rfl) rfl) rfl ?_
  refine so_eff (eff_call0 (fl := []) (cl := []) (G := fun v New => v = .int .i64 1 ∧ New = []) (by rfl) (by rfl) tx14 (by exact fun w1 _ => (retire_nil w1 x).mono (fun _ _ ⟨hv, hst⟩ => ⟨[], ⟨hv, rfl⟩, hst⟩))) (wtd_run rfl rfl (by rfl) rfl) rfl ?_
  rintro _ _ ⟨_, ⟨rfl, rfl⟩, rfl⟩
  refine so_pure (opv_cmp (by rfl) (by rfl) (by rfl)) (wtd_run rfl rfl (by rfl) rfl) rfl ?_
  refine so_pure (sv_pick_t (by rfl) rfl (by rfl)) (by rfl) rfl ?_
  refine so_pure (opv_move (by rfl)) (by rfl) rfl ?_
  refine so_pure (opv_move (by rfl)) (wtd_run rfl rfl (by rfl) rfl) rfl ?_
  refine so_pure (opv_fieldAddr (by rfl) fld33_0) (wtd_run rfl rfl (by rfl) rfl) rfl ?_
  refine so_pure (opv_load (by rfl) na3 (rd_pk (by repeat (first | exact Pk.here _ | apply Pk.there))) (by rfl)) (wtd_run rfl rfl (by rfl) rfl) rfl ?_
  refine so_pure (opv_fieldAddr (by rfl) fld33_1) (wtd_run rfl rfl (by rfl) rfl) rfl ?_
  refine so_pure (opv_load (by rfl) na3 (rd_pk (by repeat (first | exact Pk.here _ | apply Pk.there))) (by rfl)) (wtd_run rfl rfl (by rfl) rfl) rfl ?_
  refine so_eff (eff_call0 (fl := []) (cl := []) (G := fun v New => v = .int .i64 0 ∧ New = []) (by rfl) (by rfl) tx20 (by exact fun w1 _ => (count_nil w1 x.id x.gen).mono (fun _ _ ⟨hv, hst⟩ => ⟨[], ⟨hv, rfl⟩, hst⟩))) (wtd_run rfl rfl (by rfl) rfl) rfl ?_
  rintro _ _ ⟨_, ⟨rfl, rfl⟩, rfl⟩
  refine so_pure (opv_cmp (by rfl) (by rfl) (by rfl)) (wtd_run rfl rfl (by rfl) rfl) rfl ?_
  refine so_pure (sv_pick_t (by rfl) rfl (by rfl)) (by rfl) rfl ?_
  refine so_pure (opv_move (by rfl)) (by rfl) rfl ?_
  refine so_pure (opv_move (by rfl)) (wtd_run rfl rfl (by rfl) rfl) rfl ?_
  refine so_eff (eff_call0 (fl := []) (cl := []) (G := fun v New => v = .slice none 0 0 ∧ New = []) (by rfl) (by rfl) tx17 (by exact fun w1 _ => (reap_nil w1 ).mono (fun _ _ ⟨hv, hst⟩ => ⟨[], ⟨hv, rfl⟩, hst⟩))) (wtd_run rfl rfl (by rfl) rfl) rfl ?_
  rintro _ _ ⟨_, ⟨rfl, rfl⟩, rfl⟩
  refine so_pure (opv_len_slice (by rfl) Try.underlying28) (wtd_run rfl rfl (by rfl) rfl) rfl ?_
  refine so_pure (opv_cmp (by rfl) (by rfl) (by rfl)) (wtd_run rfl rfl (by rfl) rfl) rfl ?_
  refine so_pure (sv_pick_t (by rfl) rfl (by rfl)) (by rfl) rfl ?_
  refine so_pure (opv_move (by rfl)) (by rfl) rfl ?_
  refine so_pure (opv_move (by rfl)) (wtd_run rfl rfl (by rfl) rfl) rfl ?_
  refine so_eff (eff_call0 (fl := []) (cl := []) (G := fun v New => v = .slice none 0 0 ∧ New = []) (by rfl) (by rfl) tx19 (by exact fun w1 _ => (waits_nil w1 ).mono (fun _ _ ⟨hv, hst⟩ => ⟨[], ⟨hv, rfl⟩, hst⟩))) (wtd_run rfl rfl (by rfl) rfl) rfl ?_
  rintro _ _ ⟨_, ⟨rfl, rfl⟩, rfl⟩
  refine so_pure (opv_len_slice (by rfl) Try.underlying28) (wtd_run rfl rfl (by rfl) rfl) rfl ?_
  refine so_pure (opv_cmp (by rfl) (by rfl) (by rfl)) (wtd_run rfl rfl (by rfl) rfl) rfl ?_
  refine so_pure (sv_pick_t (by rfl) rfl (by rfl)) (by rfl) rfl ?_
  refine so_pure (opv_move (by rfl)) (by rfl) rfl ?_
  refine so_eff (eff_call0 (G := fun u New => u = .bool true ∧ New = []) (by rfl) (by rfl) tx8 (by exact fun w1 hw1 => (live_spec w1).mono (fun _ _ ⟨hv, hst⟩ => ⟨[], ⟨hv, rfl⟩, hst⟩))) (wtd_run rfl rfl (by rfl) rfl) rfl ?_
  rintro _ _ ⟨_, ⟨rfl, rfl⟩, rfl⟩
  refine so_pure (sv_pick_t (by rfl) rfl (by rfl)) (by rfl) rfl ?_
  refine so_pure (opv_assign (by rfl)) (by rfl) rfl ?_
  refine jo_nil ?_
  refine jk_then ?_
  refine jc_ret ?_
  refine jk_fn_ret rfl rfl (by rfl) (fun w hw => ?_)
  exact ⟨rfl, hw.forget⟩
end Go.Pins
