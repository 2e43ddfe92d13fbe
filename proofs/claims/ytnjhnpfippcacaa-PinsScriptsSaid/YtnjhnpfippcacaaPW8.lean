/- A part of a proof for the laws of the seat Ytnjhnpfippcacaa; it has no conditions of its own. -/
import Derived.Test.YtnjhnpfippcacaaPW7
namespace Go.Pins
open Go Go.SL Go.Proofs
set_option maxHeartbeats 4000000 in
theorem retire1_spec (w : World) (x y : Vol) (vb : Nat) (fz : Nat × Nat) (hvb : w.heap[vb]? = some (.cells y.cells.toArray 33 fz)) : Does Try.prog 23 #[.agg #[.int .i64 x.id, .int .i64 x.gen, .int .i64 x.size, .slice x.lA x.ln x.lc], .pointer (some ⟨vb, 0, none⟩)] w (fun v w' => v = .bool (decide (x.key = y.key)) ∧ St w Emp [] w') := by
  refine fn_body (fn := Try.f23) Try.func23 rfl [(0, .agg #[.int .i64 x.id, .int .i64 x.gen, .int .i64 x.size, .slice x.lA x.ln x.lc]), (1, .pointer (some ⟨vb, 0, none⟩))] (by exact ⟨rfl, rfl, trivial⟩) rfl (St.start w) ?_
  refine jc_seq ?_
  refine sc_region ?_
  refine so_eff (eff_box (by rfl) rfl) (by rfl) rfl ?_
  rintro _ _ ⟨b2, rfl, rfl⟩
  refine so_pure (opv_assign (by rfl)) (by rfl) rfl ?_
  refine jo_nil ?_
  refine jk_then ?_
  refine jc_seq ?_
  refine so_draw [] (by kernel_rfl) (by kernel_rfl) (by kernel_rfl) rfl (by rfl) (fun hap htm => ?_)
  refine da_now [1, 3, 4, 5] hap htm (i := 0) (by rfl) (by kernel_rfl) (by rfl) (listed' := #[true, false, false, false, false, false]) (by rfl) (by kernel_rfl) (by kernel_rfl) (opv_load_agg (vs := x.cells) (by rfl) ag33 ti33 (rd_pk (by repeat (first | exact Pk.here _ | apply Pk.there))) (by exact ⟨rfl, rfl, rfl, rfl, trivial⟩) rfl) (by rfl) rfl ?_
  refine da_free hap htm (i := 2) (by rfl) (by kernel_rfl) (by rfl) (listed' := #[true, false, true, false, false, false]) (by rfl) (fun w hw => Pks.cw (by repeat (first | exact Pks.nil _ | exact Pk.here _ | apply Pk.there | apply Pks.cons)) hw) (fun _ => (opv_load_agg (vs := y.cells) (by rfl) ag33 ti33 (rd_old hvb (fun h => h)) (by exact ⟨rfl, rfl, rfl, rfl, trivial⟩) rfl)) (by rfl) rfl ?_
  refine da_eff (i := 1) (by rfl) (by kernel_rfl) (by rfl) (listed' := #[true, true, true, false, false, false]) (by rfl) (eff_call0 (G := fun u New => u = kvQ x.key ∧ New = []) (by rfl) (by rfl) tx24 (by exact fun w1 hw1 => (of_spec w1 x).mono (fun _ _ ⟨hv, hst⟩ => ⟨[], ⟨hv, rfl⟩, hst⟩))) (fun _ _ _ _ hw => cw_nil hw) (by rfl) rfl ?_
  rintro _ _ ⟨_, ⟨rfl, rfl⟩, rfl⟩
  refine da_eff (i := 3) (by rfl) (by kernel_rfl) (by rfl) (listed' := #[true, true, true, true, false, false]) (by rfl) (eff_call0 (G := fun u New => u = kvQ y.key ∧ New = []) (by rfl) (by rfl) tx24 (by exact fun w1 hw1 => (of_spec w1 y).mono (fun _ _ ⟨hv, hst⟩ => ⟨[], ⟨hv, rfl⟩, hst⟩))) (fun _ _ _ _ hw => cw_nil hw) (by rfl) rfl ?_
  rintro _ _ ⟨_, ⟨rfl, rfl⟩, rfl⟩
  refine da_any hap htm (i := 4) (by rfl) (by kernel_rfl) (by rfl) (listed' := #[true, true, true, true, true, false]) (by rfl) (fun _ => (opv_pair_eq (a := x.key) (b := y.key) pair50 guard50 (by rfl) (by rfl))) (by rfl) rfl ?_
  refine da_any hap htm (i := 5) (by rfl) (by kernel_rfl) (by rfl) (listed' := #[true, true, true, true, true, true]) (by rfl) (fun _ => (opv_assign (by rfl))) (by rfl) rfl ?_
  refine da_done (by kernel_rfl) ?_
  refine jk_then ?_
  refine jc_ret ?_
  refine jk_fn_ret rfl rfl (by rfl) (fun w hw => ?_)
  exact ⟨rfl, hw.forget⟩
end Go.Pins
