/- A part of a proof for the laws of the seat Ytnjhnpfippcacaa; it has no conditions of its own. -/
import Derived.Test.YtnjhnpfippcacaaPW2
namespace Go.Pins
open Go Go.SL Go.Proofs
set_option maxHeartbeats 4000000 in
theorem of_spec (w : World) (x : Vol) : Does Try.prog 24 #[.agg #[.int .i64 x.id, .int .i64 x.gen, .int .i64 x.size, .slice x.lA x.ln x.lc]] w (fun v w' => v = kvQ x.key ∧ St w Emp [] w') := by
  refine fn_body (fn := Try.f24) Try.func24 rfl [(0, .agg #[.int .i64 x.id, .int .i64 x.gen, .int .i64 x.size, .slice x.lA x.ln x.lc])] (by exact ⟨rfl, trivial⟩) rfl (St.start w) ?_
  refine jc_seq ?_
  refine sc_region ?_
  refine so_eff (eff_box (by rfl) rfl) (by rfl) rfl ?_
  rintro _ _ ⟨b1, rfl, rfl⟩
  refine so_eff (eff_alloc ti50 rfl) (by rfl) rfl ?_
  rintro _ _ ⟨b2, rfl, rfl⟩
  refine jo_nil ?_
  refine jk_then ?_
  refine jc_seq ?_
  refine sc_region ?_
  refine so_pure (opv_fieldAddr (by rfl) fld33_0) (by rfl) rfl ?_
  refine so_pure (opv_load (by rfl) na3 (rd_pk (by repeat (first | exact Pk.here _ | apply Pk.there))) (by rfl)) (by rfl) rfl ?_
  refine so_pure (opv_fieldAddr (by rfl) fld33_1) (by rfl) rfl ?_
  refine so_pure (opv_load (by rfl) na3 (rd_pk (by repeat (first | exact Pk.here _ | apply Pk.there))) (by rfl)) (by rfl) rfl ?_
  refine so_pure (opv_build (by rfl) (fun w => by exact bld50_0_1 ..)) (by rfl) rfl ?_
  refine so_eff0 (eff_store_all (vs := [.int .i64 x.id, .int .i64 x.gen]) (by rfl) (by rfl) (by rfl) ti50 (by rfl) (by repeat (first | exact Pk.here _ | apply Pk.there)) (by rfl) (by rfl)) (by rfl) ?_
  rintro _ _ ⟨rfl, rfl⟩
  refine jo_nil ?_
  refine jk_then ?_
  refine jc_ret ?_
  refine jk_fn_retcell (vs := [.int .i64 x.id, .int .i64 x.gen]) rfl rfl (by rfl) ag50 ti50 (rd_pk (by repeat (first | exact Pk.here _ | apply Pk.there))) (by exact ⟨rfl, rfl, trivial⟩) rfl (fun w hw => ?_)
  exact ⟨rfl, hw.forget⟩
end Go.Pins
