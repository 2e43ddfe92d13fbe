/- A part of a proof for the laws of the seat Ytnjhnpfippcacaa; it has no conditions of its own. -/
import Derived.Test.YtnjhnpfippcacaaPFacts
namespace Go.Pins
open Go Go.SL Go.Proofs
set_option maxHeartbeats 4000000 in
theorem new_spec (w : World) : Does Try.prog 9 #[] w (fun v w' => ∃ bp mb, v = .pointer (some ⟨bp, 0, none⟩) ∧ St w Emp [blk bp (.cells #[.map (some mb), .slice none 0 0] 48 (0, 0)), mapI kvQ mb (mp [])] w') := by
  refine fn_body (fn := Try.f9) Try.func9 rfl [] (by exact trivial) rfl (St.start w) ?_
  refine jc_seq ?_
  refine sc_region ?_
  refine so_pure (opv_assign (by rfl)) (by rfl) rfl ?_
  refine jo_nil ?_
  refine jk_then ?_
  refine jc_seq ?_
  refine sc_region ?_
  refine so_eff (eff_makeMapI kvQ) (by rfl) rfl ?_
  rintro _ _ ⟨b1, rfl, rfl⟩
  refine so_pure (opv_build (by rfl) (fun w => by exact bld48_0 ..)) (by rfl) rfl ?_
  refine so_eff (eff_box (by rfl) rfl) (by rfl) rfl ?_
  rintro _ _ ⟨b3, rfl, rfl⟩
  refine so_pure (opv_assign (by rfl)) (by rfl) rfl ?_
  refine jo_nil ?_
  refine jk_then ?_
  refine jc_ret ?_
  refine jk_fn_ret rfl rfl (by rfl) (fun w hw => ?_)
  exact ⟨_, b1, rfl, St.sel hw (by repeat (first | exact Pks.nil _ | exact Pk.here _ | apply Pk.there | apply Pks.cons))⟩
set_option maxHeartbeats 4000000 in
theorem pin_spec {w0 w : World} {M : Nat → Prop} {Fr : List Itm} {bp mb : Nat} {wv : Value} {rd : RD} (id gen : Int) (hst : St w0 M (blk bp (.cells #[.map (some mb), wv] 48 (0, 0)) :: mapI kvQ mb (mp rd) :: Fr) w) (hc : cntOf rd (id, gen) ≤ 1000000) :
    Does Try.prog 10 #[.pointer (some ⟨bp, 0, none⟩), .int .i64 id, .int .i64 gen] w (fun v w' => v = .int .i64 0 ∧ St w0 M (blk bp (.cells #[.map (some mb), wv] 48 (0, 0)) :: mapI kvQ mb (mp (setL rd (id, gen) (cntOf rd (id, gen) + 1))) :: Fr) w') := by
  refine fn_bodyX (fn := Try.f10) Try.func10 rfl [(0, .pointer (some ⟨bp, 0, none⟩)), (1, .int .i64 id), (2, .int .i64 gen)] (by exact ⟨rfl, rfl, rfl, trivial⟩) rfl hst ?_
  refine jc_seq ?_
  refine sc_region ?_
  refine so_pure (opv_assign (by rfl)) (by rfl) rfl ?_
  refine jo_nil ?_
  refine jk_then ?_
  refine jc_seq ?_
  refine jc_seq ?_
  refine sc_region ?_
  refine so_pure (opv_move (by rfl)) (by rfl) rfl ?_
  refine so_pure (opv_ptr_nil (by rfl) (by rfl) Try.underlying24) (by rfl) rfl ?_
  refine jo_nil ?_
  refine jk_then ?_
  refine sc_false (by rfl) rfl ?_
  refine jc_skip ?_
  refine jk_then ?_
  refine jc_seq ?_
  refine so_draw [] (by kernel_rfl) (by kernel_rfl) (by kernel_rfl) rfl (by rfl) (fun hap htm => ?_)
  refine da_any hap htm (i := 0) (by rfl) (by kernel_rfl) (by rfl) (listed' := #[true, false, false, false, false, false, false, false, false, false, false, false]) (by rfl) (fun _ => (opv_move (by rfl))) (by rfl) rfl ?_
  refine da_any hap htm (i := 1) (by rfl) (by kernel_rfl) (by rfl) (listed' := #[true, true, false, false, false, false, false, false, false, false, false, false]) (by rfl) (fun _ => (opv_nilCheck (by rfl))) (by rfl) rfl ?_
  refine da_any hap htm (i := 2) (by rfl) (by kernel_rfl) (by rfl) (listed' := #[true, true, true, false, false, false, false, false, false, false, false, false]) (by rfl) (fun _ => (opv_fieldAddr (by rfl) fld48_0)) (by rfl) rfl ?_
  refine da_now [7, 8, 9, 10, 11] hap htm (i := 3) (by rfl) (by kernel_rfl) (by rfl) (listed' := #[true, true, true, true, false, false, false, false, false, false, false, false]) (by rfl) (by kernel_rfl) (by kernel_rfl) (opv_load (by rfl) na46 (rd_pk (by repeat (first | exact Pk.here _ | apply Pk.there))) (by rfl)) (by rfl) rfl ?_
  refine da_any hap htm (i := 4) (by rfl) (by kernel_rfl) (by rfl) (listed' := #[true, true, true, true, true, false, false, false, false, false, false, false]) (by rfl) (fun _ => (opv_move (by rfl))) (by rfl) rfl ?_
  refine da_any hap htm (i := 5) (by rfl) (by kernel_rfl) (by rfl) (listed' := #[true, true, true, true, true, true, false, false, false, false, false, false]) (by rfl) (fun _ => (opv_move (by rfl))) (by rfl) rfl ?_
  refine da_any hap htm (i := 6) (by rfl) (by kernel_rfl) (by rfl) (listed' := #[true, true, true, true, true, true, true, false, false, false, false, false]) (by rfl) (fun _ => (opv_build (by rfl) (fun w => by exact bld50_0_1 ..))) (by rfl) rfl ?_
  refine ja_two (i := 7) (j := 9) (by kernel_rfl) ?_ ?_
  · refine js_pure htm (i := 7) (by rfl) (by rfl) (listed' := #[true, true, true, true, true, true, true, true, false, false, false, false]) (by rfl) (opv_lookup1 (k := (id, gen)) (v := kvN (cntOf rd (id, gen))) (by rfl) (by rfl) (KL.pair pair50) Try.underlying46 ti3 (by repeat (first | exact Pk.here _ | apply Pk.there)) (mp_get rd _)) (by rfl) rfl ?_
    refine da_any hap htm (i := 8) (by rfl) (by kernel_rfl) (by rfl) (listed' := #[true, true, true, true, true, true, true, true, true, false, false, false]) (by rfl) (fun _ => (opv_add (by rfl) (by rfl) (wrap64_ok (by omega)))) (by rfl) rfl ?_
    refine da_eff (i := 9) (by rfl) (by kernel_rfl) (by rfl) (listed' := #[true, true, true, true, true, true, true, true, true, true, false, false]) (by rfl) (eff_mapEntry (k := (id, gen)) (by rfl) (by rfl) (KL.pair pair50) Try.underlying46 ti3 (by repeat (first | exact Pk.here _ | apply Pk.there))) (fun _ _ _ _ hw => cw_nil hw) (by rfl) rfl ?_
    rintro _ _ ⟨s, rfl, rfl⟩
    refine da_any hap htm (i := 10) (by rfl) (by kernel_rfl) (by rfl) (listed' := #[true, true, true, true, true, true, true, true, true, true, true, false]) (by rfl) (fun _ => (opv_extract (by rfl) (by rfl))) (by rfl) rfl ?_
    refine da_eff0 (i := 11) (by rfl) (by kernel_rfl) (by rfl) (listed' := #[true, true, true, true, true, true, true, true, true, true, true, true]) (by rfl) (eff_entryStore (k := (id, gen)) (by rfl) (by rfl) (by rfl) (by repeat (first | exact Pk.here _ | apply Pk.there))) (fun _ _ _ _ hw => cw_nil hw) (by rfl) ?_
    rintro _ _ ⟨rfl, rfl⟩
    refine da_done (by kernel_rfl) ?_
    refine jk_then ?_
    refine jc_seq ?_
    refine sc_region ?_
    refine so_pure (opv_assign (by rfl)) (by rfl) rfl ?_
    refine jo_nil ?_
    refine jk_then ?_
    refine jc_ret ?_
    refine jk_fn_ret rfl rfl (by rfl) (fun w hw => ?_)
    refine ⟨rfl, ?_⟩
    rw [← mp_set, ← setL_setL (mp rd) (id, gen) ((getL (mp rd) (id, gen)).getD (.int .i64 0))]
    exact hw.pk (.there (.here _))
  · refine js_eff (i := 9) (by rfl) (by rfl) (listed' := #[true, true, true, true, true, true, true, false, false, true, false, false]) (by rfl) (eff_mapEntry (k := (id, gen)) (by rfl) (by rfl) (KL.pair pair50) Try.underlying46 ti3 (by repeat (first | exact Pk.here _ | apply Pk.there))) (fun _ _ _ _ hw => cw_nil hw) (by rfl) rfl ?_
    rintro _ _ ⟨s, rfl, rfl⟩
    refine da_now [8, 11] hap htm (i := 7) (by rfl) (by kernel_rfl) (by rfl) (listed' := #[true, true, true, true, true, true, true, true, false, true, false, false]) (by rfl) (by kernel_rfl) (by kernel_rfl) (opv_lookupS (k := (id, gen)) (v := kvN (cntOf rd (id, gen))) (by rfl) (by rfl) (KL.pair pair50) Try.underlying46 ti3 (by repeat (first | exact Pk.here _ | apply Pk.there)) (by rw [getL_setL, if_pos rfl]; exact mp_get rd _)) (by rfl) rfl ?_
    refine da_any hap htm (i := 8) (by rfl) (by kernel_rfl) (by rfl) (listed' := #[true, true, true, true, true, true, true, true, true, true, false, false]) (by rfl) (fun _ => (opv_add (by rfl) (by rfl) (wrap64_ok (by omega)))) (by rfl) rfl ?_
    refine da_any hap htm (i := 10) (by rfl) (by kernel_rfl) (by rfl) (listed' := #[true, true, true, true, true, true, true, true, true, true, true, false]) (by rfl) (fun _ => (opv_extract (by rfl) (by rfl))) (by rfl) rfl ?_
    refine da_eff0 (i := 11) (by rfl) (by kernel_rfl) (by rfl) (listed' := #[true, true, true, true, true, true, true, true, true, true, true, true]) (by rfl) (eff_entryStore (k := (id, gen)) (by rfl) (by rfl) (by rfl) (by repeat (first | exact Pk.here _ | apply Pk.there))) (fun _ _ _ _ hw => cw_nil hw) (by rfl) ?_
    rintro _ _ ⟨rfl, rfl⟩
    refine da_done (by kernel_rfl) ?_
    refine jk_then ?_
    refine jc_seq ?_
    refine sc_region ?_
    refine so_pure (opv_assign (by rfl)) (by rfl) rfl ?_
    refine jo_nil ?_
    refine jk_then ?_
    refine jc_ret ?_
    refine jk_fn_ret rfl rfl (by rfl) (fun w hw => ?_)
    refine ⟨rfl, ?_⟩
    rw [← mp_set, ← setL_setL (mp rd) (id, gen) ((getL (mp rd) (id, gen)).getD (.int .i64 0))]
    exact hw.pk (.there (.here _))
set_option maxHeartbeats 4000000 in
theorem count_spec {w0 w : World} {M : Nat → Prop} {Fr : List Itm} {bp mb : Nat} {wv : Value} {rd : RD} (id gen : Int) (hst : St w0 M (blk bp (.cells #[.map (some mb), wv] 48 (0, 0)) :: mapI kvQ mb (mp rd) :: Fr) w) :
    Does Try.prog 20 #[.pointer (some ⟨bp, 0, none⟩), .int .i64 id, .int .i64 gen] w (fun v w' => v = .int .i64 (cntOf rd (id, gen)) ∧ St w0 M (blk bp (.cells #[.map (some mb), wv] 48 (0, 0)) :: mapI kvQ mb (mp rd) :: Fr) w') := by
  refine fn_bodyX (fn := Try.f20) Try.func20 rfl [(0, .pointer (some ⟨bp, 0, none⟩)), (1, .int .i64 id), (2, .int .i64 gen)] (by exact ⟨rfl, rfl, rfl, trivial⟩) rfl hst ?_
  refine jc_seq ?_
  refine sc_region ?_
  refine so_pure (opv_assign (by rfl)) (by rfl) rfl ?_
  refine jo_nil ?_
  refine jk_then ?_
  refine jc_seq ?_
  refine jc_seq ?_
  refine sc_region ?_
  refine so_pure (opv_move (by rfl)) (by rfl) rfl ?_
  refine so_pure (opv_ptr_nil (by rfl) (by rfl) Try.underlying24) (by rfl) rfl ?_
  refine jo_nil ?_
  refine jk_then ?_
  refine sc_false (by rfl) rfl ?_
  refine jc_skip ?_
  refine jk_then ?_
  refine jc_seq ?_
  refine sc_region ?_
  refine so_pure (opv_move (by rfl)) (by rfl) rfl ?_
  refine so_pure (opv_nilCheck (by rfl)) (by rfl) rfl ?_
  refine so_pure (opv_fieldAddr (by rfl) fld48_0) (by rfl) rfl ?_
  refine so_pure (opv_load (by rfl) na46 (rd_pk (by repeat (first | exact Pk.here _ | apply Pk.there))) (by rfl)) (by rfl) rfl ?_
  refine so_pure (opv_move (by rfl)) (by rfl) rfl ?_
  refine so_pure (opv_move (by rfl)) (by rfl) rfl ?_
  refine so_pure (opv_build (by rfl) (fun w => by exact bld50_0_1 ..)) (by rfl) rfl ?_
  refine so_pure (opv_lookup1 (k := (id, gen)) (v := kvN (cntOf rd (id, gen))) (by rfl) (by rfl) (KL.pair pair50) Try.underlying46 ti3 (by repeat (first | exact Pk.here _ | apply Pk.there)) (mp_get rd _)) (by rfl) rfl ?_
  refine so_pure (opv_assign (by rfl)) (by rfl) rfl ?_
  refine jo_nil ?_
  refine jk_then ?_
  refine jc_ret ?_
  refine jk_fn_ret rfl rfl (by rfl) (fun w hw => ?_)
  exact ⟨rfl, hw⟩
end Go.Pins
