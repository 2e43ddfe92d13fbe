/- A part of a proof for the laws of the seat Ytnjhnpfippcacaa; it has no conditions of its own. -/
import Derived.Test.YtnjhnpfippcacaaPW1
namespace Go.Pins
open Go Go.SL Go.Proofs
set_option maxHeartbeats 4000000 in
theorem unpin_spec {w0 w : World} {M : Nat → Prop} {Fr : List Itm} {bp mb : Nat} {wv : Value} {rd : RD} (id gen : Int) (hst : St w0 M (blk bp (.cells #[.map (some mb), wv] 48 (0, 0)) :: mapI kvQ mb (mp rd) :: Fr) w) (hc : cntOf rd (id, gen) ≤ 1000000) :
    Does Try.prog 12 #[.pointer (some ⟨bp, 0, none⟩), .int .i64 id, .int .i64 gen] w (fun v w' => v = .int .i64 (if cntOf rd (id, gen) = 0 then 9 else 0) ∧ St w0 M (blk bp (.cells #[.map (some mb), wv] 48 (0, 0)) :: mapI kvQ mb (mp (unp rd (id, gen))) :: Fr) w') := by
  refine fn_bodyX (fn := Try.f12) Try.func12 rfl [(0, .pointer (some ⟨bp, 0, none⟩)), (1, .int .i64 id), (2, .int .i64 gen)] (by exact ⟨rfl, rfl, rfl, trivial⟩) rfl hst ?_
  refine jc_seq ?_
  refine sc_region ?_
  refine so_pure (opv_assign (by rfl)) (by rfl) rfl ?_
  refine jo_nil ?_
  refine jk_then ?_
  refine jc_seq ?_
  refine jc_seq ?_
  refine sc_region ?_
  refine so_pure (opv_move (by rfl)) (by rfl) rfl ?_
  refine so_pure (opv_move (by rfl)) (by rfl) rfl ?_
  refine so_pure (opv_build (by rfl) (fun w => by exact bld50_0_1 ..)) (by rfl) rfl ?_
  refine so_eff (eff_alloc ti50 rfl) (by rfl) rfl ?_
  rintro _ _ ⟨b7, rfl, rfl⟩
  refine so_eff0 (eff_store_all (vs := [.int .i64 id, .int .i64 gen]) (by rfl) (by rfl) (by rfl) ti50 (by rfl) (by repeat (first | exact Pk.here _ | apply Pk.there)) (by rfl) (by rfl)) (by rfl) ?_
  rintro _ _ ⟨rfl, rfl⟩
  refine jo_nil ?_
  refine jk_then ?_
  refine jc_block ?_
  refine jc_seq ?_
  refine sc_region ?_
  refine so_pure (opv_move (by rfl)) (by rfl) rfl ?_
  refine so_pure (opv_ptr_nil (by rfl) (by rfl) Try.underlying24) (by rfl) rfl ?_
  refine so_pure (opv_assign (by rfl)) (by rfl) rfl ?_
  refine jo_nil ?_
  refine jk_then ?_
  refine sc_false (by rfl) rfl ?_
  refine jc_seq ?_
  refine so_draw [] (by kernel_rfl) (by kernel_rfl) (by kernel_rfl) rfl (by rfl) (fun hap htm => ?_)
  refine da_any hap htm (i := 0) (by rfl) (by kernel_rfl) (by rfl) (listed' := #[true, false, false, false, false, false, false, false]) (by rfl) (fun _ => (opv_move (by rfl))) (by rfl) rfl ?_
  refine da_any hap htm (i := 1) (by rfl) (by kernel_rfl) (by rfl) (listed' := #[true, true, false, false, false, false, false, false]) (by rfl) (fun _ => (opv_nilCheck (by rfl))) (by rfl) rfl ?_
  refine da_any hap htm (i := 2) (by rfl) (by kernel_rfl) (by rfl) (listed' := #[true, true, true, false, false, false, false, false]) (by rfl) (fun _ => (opv_fieldAddr (by rfl) fld48_0)) (by rfl) rfl ?_
  refine da_now [5, 6, 7] hap htm (i := 3) (by rfl) (by kernel_rfl) (by rfl) (listed' := #[true, true, true, true, false, false, false, false]) (by rfl) (by kernel_rfl) (by kernel_rfl) (opv_load (by rfl) na46 (rd_pk (by repeat (first | exact Pk.here _ | apply Pk.there))) (by rfl)) (by rfl) rfl ?_
  refine da_now [5, 6, 7] hap htm (i := 4) (by rfl) (by kernel_rfl) (by rfl) (listed' := #[true, true, true, true, true, false, false, false]) (by rfl) (by kernel_rfl) (by kernel_rfl) (opv_load_agg (vs := [.int .i64 id, .int .i64 gen]) (by rfl) ag50 ti50 (rd_pk (by repeat (first | exact Pk.here _ | apply Pk.there))) (by exact ⟨rfl, rfl, trivial⟩) rfl) (by rfl) rfl ?_
  refine da_now [6, 7] hap htm (i := 5) (by rfl) (by kernel_rfl) (by rfl) (listed' := #[true, true, true, true, true, true, false, false]) (by rfl) (by kernel_rfl) (by kernel_rfl) (opv_lookup1 (k := (id, gen)) (v := kvN (cntOf rd (id, gen))) (by rfl) (by rfl) (KL.pair pair50) Try.underlying46 ti3 (by repeat (first | exact Pk.here _ | apply Pk.there)) (mp_get rd _)) (by rfl) rfl ?_
  refine da_any hap htm (i := 6) (by rfl) (by kernel_rfl) (by rfl) (listed' := #[true, true, true, true, true, true, true, false]) (by rfl) (fun _ => (opv_cmp (by rfl) (by rfl) (by rfl))) (by rfl) rfl ?_
  refine da_any hap htm (i := 7) (by rfl) (by kernel_rfl) (by rfl) (listed' := #[true, true, true, true, true, true, true, true]) (by rfl) (fun _ => (opv_assign (by rfl))) (by rfl) rfl ?_
  refine da_done (by kernel_rfl) ?_
  refine jk_then ?_
  refine sk_split (x := 23) (by rfl) (fun h12 => ?_) (fun h12 => ?_)
  · first | have p12 := of_decide_eq_true h12 | have p12 := of_decide_eq_false h12 | have p12 := ndT h12 | have p12 := ndF h12 | have p12 := nbT h12 | have p12 := nbF h12 | have p12 := h12
    refine sc_true (by rfl) h12 ?_
    refine jc_seq ?_
    refine sc_region ?_
    refine so_pure (opv_assign (by rfl)) (by rfl) rfl ?_
    refine jo_nil ?_
    refine jk_then ?_
    refine jc_ret ?_
    refine jk_block_ret ?_
    refine jk_then_ret ?_
    refine jk_fn_ret rfl rfl (by rfl) (fun w hw => ?_)
    have h0 : cntOf rd (id, gen) = 0 := by omega
    refine ⟨by rw [if_pos h0], ?_⟩
    unfold unp
    rw [if_pos h0]
    exact hw.drop
  · first | have p12 := of_decide_eq_true h12 | have p12 := of_decide_eq_false h12 | have p12 := ndT h12 | have p12 := ndF h12 | have p12 := nbT h12 | have p12 := nbF h12 | have p12 := h12
    refine sc_false (by rfl) h12 ?_
    refine jc_seq ?_
    refine so_draw [] (by kernel_rfl) (by kernel_rfl) (by kernel_rfl) rfl (by rfl) (fun hap htm => ?_)
    refine da_any hap htm (i := 0) (by rfl) (by kernel_rfl) (by rfl) (listed' := #[true, false, false, false, false, false, false, false]) (by rfl) (fun _ => (opv_move (by rfl))) (by rfl) rfl ?_
    refine da_any hap htm (i := 1) (by rfl) (by kernel_rfl) (by rfl) (listed' := #[true, true, false, false, false, false, false, false]) (by rfl) (fun _ => (opv_nilCheck (by rfl))) (by rfl) rfl ?_
    refine da_any hap htm (i := 2) (by rfl) (by kernel_rfl) (by rfl) (listed' := #[true, true, true, false, false, false, false, false]) (by rfl) (fun _ => (opv_fieldAddr (by rfl) fld48_0)) (by rfl) rfl ?_
    refine da_now [5, 6, 7] hap htm (i := 3) (by rfl) (by kernel_rfl) (by rfl) (listed' := #[true, true, true, true, false, false, false, false]) (by rfl) (by kernel_rfl) (by kernel_rfl) (opv_load (by rfl) na46 (rd_pk (by repeat (first | exact Pk.here _ | apply Pk.there))) (by rfl)) (by rfl) rfl ?_
    refine da_now [5, 6, 7] hap htm (i := 4) (by rfl) (by kernel_rfl) (by rfl) (listed' := #[true, true, true, true, true, false, false, false]) (by rfl) (by kernel_rfl) (by kernel_rfl) (opv_load_agg (vs := [.int .i64 id, .int .i64 gen]) (by rfl) ag50 ti50 (rd_pk (by repeat (first | exact Pk.here _ | apply Pk.there))) (by exact ⟨rfl, rfl, trivial⟩) rfl) (by rfl) rfl ?_
    refine da_now [6, 7] hap htm (i := 5) (by rfl) (by kernel_rfl) (by rfl) (listed' := #[true, true, true, true, true, true, false, false]) (by rfl) (by kernel_rfl) (by kernel_rfl) (opv_lookup1 (k := (id, gen)) (v := kvN (cntOf rd (id, gen))) (by rfl) (by rfl) (KL.pair pair50) Try.underlying46 ti3 (by repeat (first | exact Pk.here _ | apply Pk.there)) (mp_get rd _)) (by rfl) rfl ?_
    refine da_any hap htm (i := 6) (by rfl) (by kernel_rfl) (by rfl) (listed' := #[true, true, true, true, true, true, true, false]) (by rfl) (fun _ => (opv_cmp (by rfl) (by rfl) (by rfl))) (by rfl) rfl ?_
    refine da_any hap htm (i := 7) (by rfl) (by kernel_rfl) (by rfl) (listed' := #[true, true, true, true, true, true, true, true]) (by rfl) (fun _ => (opv_assign (by rfl))) (by rfl) rfl ?_
    refine da_done (by kernel_rfl) ?_
    refine jk_then ?_
    refine sk_split (x := 31) (by rfl) (fun h19 => ?_) (fun h19 => ?_)
    · first | have p19 := of_decide_eq_true h19 | have p19 := of_decide_eq_false h19 | have p19 := ndT h19 | have p19 := ndF h19 | have p19 := nbT h19 | have p19 := nbF h19 | have p19 := h19
      refine sc_true (by rfl) h19 ?_
      refine so_draw [] (by kernel_rfl) (by kernel_rfl) (by kernel_rfl) rfl (by rfl) (fun hap htm => ?_)
      refine da_any hap htm (i := 0) (by rfl) (by kernel_rfl) (by rfl) (listed' := #[true, false, false, false, false, false]) (by rfl) (fun _ => (opv_move (by rfl))) (by rfl) rfl ?_
      refine da_any hap htm (i := 1) (by rfl) (by kernel_rfl) (by rfl) (listed' := #[true, true, false, false, false, false]) (by rfl) (fun _ => (opv_nilCheck (by rfl))) (by rfl) rfl ?_
      refine da_any hap htm (i := 2) (by rfl) (by kernel_rfl) (by rfl) (listed' := #[true, true, true, false, false, false]) (by rfl) (fun _ => (opv_fieldAddr (by rfl) fld48_0)) (by rfl) rfl ?_
      refine da_now [5] hap htm (i := 3) (by rfl) (by kernel_rfl) (by rfl) (listed' := #[true, true, true, true, false, false]) (by rfl) (by kernel_rfl) (by kernel_rfl) (opv_load (by rfl) na46 (rd_pk (by repeat (first | exact Pk.here _ | apply Pk.there))) (by rfl)) (by rfl) rfl ?_
      refine da_now [5] hap htm (i := 4) (by rfl) (by kernel_rfl) (by rfl) (listed' := #[true, true, true, true, true, false]) (by rfl) (by kernel_rfl) (by kernel_rfl) (opv_load_agg (vs := [.int .i64 id, .int .i64 gen]) (by rfl) ag50 ti50 (rd_pk (by repeat (first | exact Pk.here _ | apply Pk.there))) (by exact ⟨rfl, rfl, trivial⟩) rfl) (by rfl) rfl ?_
      refine da_eff0 (i := 5) (by rfl) (by kernel_rfl) (by rfl) (listed' := #[true, true, true, true, true, true]) (by rfl) (eff_delete (k := (id, gen)) (by rfl) (by rfl) (KL.pair pair50) Try.underlying46 (by repeat (first | exact Pk.here _ | apply Pk.there))) (fun _ _ _ _ hw => cw_nil hw) (by rfl) ?_
      rintro _ _ ⟨rfl, rfl⟩
      refine da_done (by kernel_rfl) ?_
      refine jk_block ?_
      refine jk_then ?_
      refine jc_seq ?_
      refine sc_region ?_
      refine so_pure (opv_assign (by rfl)) (by rfl) rfl ?_
      refine jo_nil ?_
      refine jk_then ?_
      refine jc_ret ?_
      refine jk_fn_ret rfl rfl (by rfl) (fun w hw => ?_)
      have h1 : cntOf rd (id, gen) = 1 := by omega
      refine ⟨by rw [if_neg (by omega)], ?_⟩
      unfold unp
      rw [if_neg (by omega), if_pos h1, ← mp_del]
      exact (hw.pk (.there (.here _))).drop.pk (.there (.here _))
    · first | have p19 := of_decide_eq_true h19 | have p19 := of_decide_eq_false h19 | have p19 := ndT h19 | have p19 := ndF h19 | have p19 := nbT h19 | have p19 := nbF h19 | have p19 := h19
      refine sc_false (by rfl) h19 ?_
      refine so_draw [] (by kernel_rfl) (by kernel_rfl) (by kernel_rfl) rfl (by rfl) (fun hap htm => ?_)
      refine da_any hap htm (i := 0) (by rfl) (by kernel_rfl) (by rfl) (listed' := #[true, false, false, false, false, false, false, false, false, false]) (by rfl) (fun _ => (opv_move (by rfl))) (by rfl) rfl ?_
      refine da_any hap htm (i := 1) (by rfl) (by kernel_rfl) (by rfl) (listed' := #[true, true, false, false, false, false, false, false, false, false]) (by rfl) (fun _ => (opv_nilCheck (by rfl))) (by rfl) rfl ?_
      refine da_any hap htm (i := 2) (by rfl) (by kernel_rfl) (by rfl) (listed' := #[true, true, true, false, false, false, false, false, false, false]) (by rfl) (fun _ => (opv_fieldAddr (by rfl) fld48_0)) (by rfl) rfl ?_
      refine da_now [5, 6, 7, 8, 9] hap htm (i := 3) (by rfl) (by kernel_rfl) (by rfl) (listed' := #[true, true, true, true, false, false, false, false, false, false]) (by rfl) (by kernel_rfl) (by kernel_rfl) (opv_load (by rfl) na46 (rd_pk (by repeat (first | exact Pk.here _ | apply Pk.there))) (by rfl)) (by rfl) rfl ?_
      refine da_now [5, 6, 7, 8, 9] hap htm (i := 4) (by rfl) (by kernel_rfl) (by rfl) (listed' := #[true, true, true, true, true, false, false, false, false, false]) (by rfl) (by kernel_rfl) (by kernel_rfl) (opv_load_agg (vs := [.int .i64 id, .int .i64 gen]) (by rfl) ag50 ti50 (rd_pk (by repeat (first | exact Pk.here _ | apply Pk.there))) (by exact ⟨rfl, rfl, trivial⟩) rfl) (by rfl) rfl ?_
      refine ja_two (i := 5) (j := 7) (by kernel_rfl) ?_ ?_
      · refine js_pure htm (i := 5) (by rfl) (by rfl) (listed' := #[true, true, true, true, true, true, false, false, false, false]) (by rfl) (opv_lookup1 (k := (id, gen)) (v := kvN (cntOf rd (id, gen))) (by rfl) (by rfl) (KL.pair pair50) Try.underlying46 ti3 (by repeat (first | exact Pk.here _ | apply Pk.there)) (mp_get rd _)) (by rfl) rfl ?_
        refine da_any hap htm (i := 6) (by rfl) (by kernel_rfl) (by rfl) (listed' := #[true, true, true, true, true, true, true, false, false, false]) (by rfl) (fun _ => (opv_sub (by rfl) (by rfl) (wrap64_ok (by omega)))) (by rfl) rfl ?_
        refine da_eff (i := 7) (by rfl) (by kernel_rfl) (by rfl) (listed' := #[true, true, true, true, true, true, true, true, false, false]) (by rfl) (eff_mapEntry (k := (id, gen)) (by rfl) (by rfl) (KL.pair pair50) Try.underlying46 ti3 (by repeat (first | exact Pk.here _ | apply Pk.there))) (fun _ _ _ _ hw => cw_nil hw) (by rfl) rfl ?_
        rintro _ _ ⟨s, rfl, rfl⟩
        refine da_any hap htm (i := 8) (by rfl) (by kernel_rfl) (by rfl) (listed' := #[true, true, true, true, true, true, true, true, true, false]) (by rfl) (fun _ => (opv_extract (by rfl) (by rfl))) (by rfl) rfl ?_
        refine da_eff0 (i := 9) (by rfl) (by kernel_rfl) (by rfl) (listed' := #[true, true, true, true, true, true, true, true, true, true]) (by rfl) (eff_entryStore (k := (id, gen)) (by rfl) (by rfl) (by rfl) (by repeat (first | exact Pk.here _ | apply Pk.there))) (fun _ _ _ _ hw => cw_nil hw) (by rfl) ?_
        rintro _ _ ⟨rfl, rfl⟩
        refine da_done (by kernel_rfl) ?_
        refine jk_block ?_
        refine jk_then ?_
        refine jc_seq ?_
        refine sc_region ?_
        refine so_pure (opv_assign (by rfl)) (by rfl) rfl ?_
        refine jo_nil ?_
        refine jk_then ?_
        refine jc_ret ?_
        refine jk_fn_ret rfl rfl (by rfl) (fun w hw => ?_)
        have h2 : ¬ cntOf rd (id, gen) = 0 := by omega
        have h3 : ¬ cntOf rd (id, gen) = 1 := by omega
        refine ⟨by rw [if_neg h2], ?_⟩
        unfold unp
        rw [if_neg h2, if_neg h3]
        rw [show ((cntOf rd (id, gen) : Int) - 1) = ((cntOf rd (id, gen) - 1 : Nat) : Int) by omega] at hw
        rw [← mp_set, ← setL_setL (mp rd) (id, gen) ((getL (mp rd) (id, gen)).getD (.int .i64 0))]
        exact (hw.pk (.there (.here _))).drop.pk (.there (.here _))
      · refine js_eff (i := 7) (by rfl) (by rfl) (listed' := #[true, true, true, true, true, false, false, true, false, false]) (by rfl) (eff_mapEntry (k := (id, gen)) (by rfl) (by rfl) (KL.pair pair50) Try.underlying46 ti3 (by repeat (first | exact Pk.here _ | apply Pk.there))) (fun _ _ _ _ hw => cw_nil hw) (by rfl) rfl ?_
        rintro _ _ ⟨s, rfl, rfl⟩
        refine da_now [6, 9] hap htm (i := 5) (by rfl) (by kernel_rfl) (by rfl) (listed' := #[true, true, true, true, true, true, false, true, false, false]) (by rfl) (by kernel_rfl) (by kernel_rfl) (opv_lookupS (k := (id, gen)) (v := kvN (cntOf rd (id, gen))) (by rfl) (by rfl) (KL.pair pair50) Try.underlying46 ti3 (by repeat (first | exact Pk.here _ | apply Pk.there)) (by rw [getL_setL, if_pos rfl]; exact mp_get rd _)) (by rfl) rfl ?_
        refine da_any hap htm (i := 6) (by rfl) (by kernel_rfl) (by rfl) (listed' := #[true, true, true, true, true, true, true, true, false, false]) (by rfl) (fun _ => (opv_sub (by rfl) (by rfl) (wrap64_ok (by omega)))) (by rfl) rfl ?_
        refine da_any hap htm (i := 8) (by rfl) (by kernel_rfl) (by rfl) (listed' := #[true, true, true, true, true, true, true, true, true, false]) (by rfl) (fun _ => (opv_extract (by rfl) (by rfl))) (by rfl) rfl ?_
        refine da_eff0 (i := 9) (by rfl) (by kernel_rfl) (by rfl) (listed' := #[true, true, true, true, true, true, true, true, true, true]) (by rfl) (eff_entryStore (k := (id, gen)) (by rfl) (by rfl) (by rfl) (by repeat (first | exact Pk.here _ | apply Pk.there))) (fun _ _ _ _ hw => cw_nil hw) (by rfl) ?_
        rintro _ _ ⟨rfl, rfl⟩
        refine da_done (by kernel_rfl) ?_
        refine jk_block ?_
        refine jk_then ?_
        refine jc_seq ?_
        refine sc_region ?_
        refine so_pure (opv_assign (by rfl)) (by rfl) rfl ?_
        refine jo_nil ?_
        refine jk_then ?_
        refine jc_ret ?_
        refine jk_fn_ret rfl rfl (by rfl) (fun w hw => ?_)
        have h2 : ¬ cntOf rd (id, gen) = 0 := by omega
        have h3 : ¬ cntOf rd (id, gen) = 1 := by omega
        refine ⟨by rw [if_neg h2], ?_⟩
        unfold unp
        rw [if_neg h2, if_neg h3]
        rw [show ((cntOf rd (id, gen) : Int) - 1) = ((cntOf rd (id, gen) - 1 : Nat) : Int) by omega] at hw
        rw [← mp_set, ← setL_setL (mp rd) (id, gen) ((getL (mp rd) (id, gen)).getD (.int .i64 0))]
        exact (hw.pk (.there (.here _))).drop.pk (.there (.here _))
end Go.Pins
