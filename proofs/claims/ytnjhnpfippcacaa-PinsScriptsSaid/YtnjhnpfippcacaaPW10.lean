/- A part of a proof for the laws of the seat Ytnjhnpfippcacaa; it has no conditions of its own. -/
import Derived.Test.YtnjhnpfippcacaaPW9
namespace Go.Pins
open Go Go.SL Go.Proofs
set_option maxHeartbeats 4000000 in
theorem reap1_spec {w0 w : World} {M : Nat → Prop} {Fr : List Itm} {bx bp mb bf : Nat} {wv : Value} {rd : RD} {zs : List Vol} (x : Vol) (hst : St w0 M (blk bx (.cells #[.pointer (some ⟨bp, 0, none⟩)] 24 (0, 0)) :: blk bp (.cells #[.map (some mb), wv] 48 (0, 0)) :: mapI kvQ mb (mp rd) :: freeI bf zs :: Fr) w) (hn : zs.length ≤ 200000) :
    Does Try.prog 28 #[.agg #[.int .i64 x.id, .int .i64 x.gen, .int .i64 x.size, .slice x.lA x.ln x.lc], .pointer (some ⟨bx, 0, none⟩), .pointer (some ⟨bf, 0, none⟩)] w (fun v w' => v = .bool (noReads rd x) ∧ St w0 M (blk bx (.cells #[.pointer (some ⟨bp, 0, none⟩)] 24 (0, 0)) :: blk bp (.cells #[.map (some mb), wv] 48 (0, 0)) :: mapI kvQ mb (mp rd) :: freeI bf (zs ++ [x].filter (noReads rd)) :: Fr) w') := by
  refine fn_bodyX (fn := Try.f28) Try.func28 rfl [(0, .agg #[.int .i64 x.id, .int .i64 x.gen, .int .i64 x.size, .slice x.lA x.ln x.lc]), (1, .pointer (some ⟨bx, 0, none⟩)), (2, .pointer (some ⟨bf, 0, none⟩))] (by exact ⟨rfl, rfl, rfl, trivial⟩) rfl hst ?_
  refine jc_seq ?_
  refine sc_region ?_
  refine so_eff (eff_box (by rfl) rfl) (by rfl) rfl ?_
  rintro _ _ ⟨b3, rfl, rfl⟩
  refine so_pure (opv_assign (by rfl)) (by rfl) rfl ?_
  refine jo_nil ?_
  refine jk_then ?_
  refine jc_seq ?_
  refine jc_seq ?_
  refine so_draw [blk bx (.cells #[.pointer (some ⟨bp, 0, none⟩)] 24 (0, 0)), blk bp (.cells #[.map (some mb), wv] 48 (0, 0)), blk b3 (.cells x.cells.toArray 33 (0, 0))] (by kernel_rfl) (by kernel_rfl) (by kernel_rfl) rfl (by rfl) (fun hap htm => ?_)
  refine da_free hap htm (i := 0) (by rfl) (by kernel_rfl) (by rfl) (listed' := #[true, false, false, false, false, false, false, false]) (by rfl) (fun w hw => Pks.cw (by repeat (first | exact Pks.nil _ | exact Pk.here _ | apply Pk.there | apply Pks.cons)) hw) (fun _ => (opv_load (by rfl) na24 (rd_pk (by repeat (first | exact Pk.here _ | apply Pk.there))) (by rfl))) (by rfl) rfl ?_
  refine da_any hap htm (i := 1) (by rfl) (by kernel_rfl) (by rfl) (listed' := #[true, true, false, false, false, false, false, false]) (by rfl) (fun _ => (opv_nilCheck (by rfl))) (by rfl) rfl ?_
  refine da_any hap htm (i := 2) (by rfl) (by kernel_rfl) (by rfl) (listed' := #[true, true, true, false, false, false, false, false]) (by rfl) (fun _ => (opv_fieldAddr (by rfl) fld48_0)) (by rfl) rfl ?_
  refine da_free hap htm (i := 3) (by rfl) (by kernel_rfl) (by rfl) (listed' := #[true, true, true, true, false, false, false, false]) (by rfl) (fun w hw => Pks.cw (by repeat (first | exact Pks.nil _ | exact Pk.here _ | apply Pk.there | apply Pks.cons)) hw) (fun _ => (opv_load (by rfl) na46 (rd_pk (by repeat (first | exact Pk.here _ | apply Pk.there))) (by rfl))) (by rfl) rfl ?_
  refine da_now [5, 6, 7] hap htm (i := 4) (by rfl) (by kernel_rfl) (by rfl) (listed' := #[true, true, true, true, true, false, false, false]) (by rfl) (by kernel_rfl) (by kernel_rfl) (opv_load_agg (vs := x.cells) (by rfl) ag33 ti33 (rd_pk (by repeat (first | exact Pk.here _ | apply Pk.there))) (by exact ⟨rfl, rfl, rfl, rfl, trivial⟩) rfl) (by rfl) rfl ?_
  refine da_eff (i := 5) (by rfl) (by kernel_rfl) (by rfl) (listed' := #[true, true, true, true, true, true, false, false]) (by rfl) (eff_call0 (G := fun u New => u = kvQ x.key ∧ New = []) (by rfl) (by rfl) tx24 (by exact fun w1 hw1 => (of_spec w1 x).mono (fun _ _ ⟨hv, hst⟩ => ⟨[], ⟨hv, rfl⟩, hst⟩))) (fun _ _ h w hw => by obtain ⟨_, ⟨_, rfl⟩, rfl⟩ := h; exact Pks.cw (by repeat (first | exact Pks.nil _ | exact Pk.here _ | apply Pk.there | apply Pks.cons)) hw) (by rfl) rfl ?_
  rintro _ _ ⟨_, ⟨rfl, rfl⟩, rfl⟩
  refine da_now [7] hap htm (i := 6) (by rfl) (by kernel_rfl) (by rfl) (listed' := #[true, true, true, true, true, true, true, false]) (by rfl) (by kernel_rfl) (by kernel_rfl) (opv_lookup1 (k := x.key) (v := kvN (cntOf rd x.key)) (by rfl) (by rfl) (KL.pair pair50) Try.underlying46 ti3 (by repeat (first | exact Pk.here _ | apply Pk.there)) (mp_get rd _)) (by rfl) rfl ?_
  refine da_any hap htm (i := 7) (by rfl) (by kernel_rfl) (by rfl) (listed' := #[true, true, true, true, true, true, true, true]) (by rfl) (fun _ => (opv_cmp (by rfl) (by rfl) (by rfl))) (by rfl) rfl ?_
  refine da_done (by kernel_rfl) ?_
  refine jk_then ?_
  refine sk_split (x := 12) (by rfl) (fun h12 => ?_) (fun h12 => ?_)
  · first | have p12 := of_decide_eq_true h12 | have p12 := of_decide_eq_false h12 | have p12 := ndT h12 | have p12 := ndF h12 | have p12 := nbT h12 | have p12 := nbF h12 | have p12 := h12
    refine sc_true (by rfl) h12 ?_
    refine jc_seq ?_
    refine sc_region ?_
    refine so_pure (opv_assign (by rfl)) (by rfl) rfl ?_
    refine jo_nil ?_
    refine jk_then ?_
    refine jc_ret ?_
    refine jk_then_ret ?_
    refine jk_fn_ret rfl rfl (by rfl) (fun w hw => ?_)
    have hq : [x].filter (noReads rd) = [] := by
      have h0 : ¬ cntOf rd x.key = 0 := by omega
      simp [noReads, h0]
    rw [hq, List.append_nil]
    refine ⟨congrArg Value.bool (decide_eq_false (by omega)).symm, ?_⟩
    exact St.keep (Sb := [blk bx (.cells #[.pointer (some ⟨bp, 0, none⟩)] 24 (0, 0)), blk bp (.cells #[.map (some mb), wv] 48 (0, 0)), mapI kvQ mb (mp rd), freeI bf zs]) hw (by repeat (first | exact Pks.nil _ | exact Pk.here _ | apply Pk.there | apply Pks.cons)) (by repeat (first | exact Tl.here _ | apply Tl.there))
  · first | have p12 := of_decide_eq_true h12 | have p12 := of_decide_eq_false h12 | have p12 := ndT h12 | have p12 := ndF h12 | have p12 := nbT h12 | have p12 := nbF h12 | have p12 := h12
    refine sc_false (by rfl) h12 ?_
    refine jc_skip ?_
    refine jk_then ?_
    refine jc_seq ?_
    refine jk_free_open (by repeat (first | exact Pk.here _ | apply Pk.there)) (fun fv => ?_)
    refine sc_region ?_
    refine so_pure (opv_load (by rfl) na28 (rd_pk (by repeat (first | exact Pk.here _ | apply Pk.there))) (by rfl)) (by rfl) rfl ?_
    refine so_pure (opv_load_agg (vs := x.cells) (by rfl) ag33 ti33 (rd_pk (by repeat (first | exact Pk.here _ | apply Pk.there))) (by exact ⟨rfl, rfl, rfl, rfl, trivial⟩) rfl) (by rfl) rfl ?_
    refine so_eff (eff_buildSlice (by rfl) (fun w => by exact bsl28_1_0 ..)) (by rfl) rfl ?_
    rintro _ _ ⟨b15, rfl, rfl⟩
    refine so_eff (eff_append_lit (by rfl) (by rfl) Try.underlying28 ti33 (by rfl) (by omega) (by repeat (first | exact Pk.here _ | apply Pk.there)) (rd_pk (by repeat (first | exact Pk.here _ | apply Pk.there))) (by rfl) (by rfl) (by unfold maxLen; omega) (by omega)) (by rfl) rfl ?_
    rintro wv2 _ ⟨rfl, _⟩
    refine jo_sv (by repeat (first | exact Pk.here _ | apply Pk.there)) (fun hsv2 => ?_)
    obtain ⟨A2, c2, rfl, _⟩ := hsv2
    refine so_eff0 (eff_store (vs := [.slice A2 (zs.length + 1) c2]) (by rfl) (by rfl) (by rfl) ti28 (by rfl) (by repeat (first | exact Pk.here _ | apply Pk.there)) (by exact Nat.le_refl _) (by rfl)) (by rfl) ?_
    rintro _ _ ⟨rfl, rfl⟩
    refine jo_nil ?_
    refine jk_then ?_
    refine jc_seq ?_
    refine sc_region ?_
    refine so_pure (opv_assign (by rfl)) (by rfl) rfl ?_
    refine jo_nil ?_
    refine jk_then ?_
    refine jc_ret ?_
    refine jk_fn_ret rfl rfl (by rfl) (fun w hw => ?_)
    have h0 : cntOf rd x.key = 0 := by omega
    have hq : [x].filter (noReads rd) = [x] := by simp [noReads, h0]
    rw [hq]
    refine ⟨congrArg Value.bool (decide_eq_true h0).symm, ?_⟩
    have hz : own (.slice A2 (zs.length + 1) c2) 33 4 (zs.length + 1) (zs.flatMap Vol.cells ++ x.cells) = own (.slice A2 (zs.length + 1) c2) 33 4 (zs ++ [x]).length ((zs ++ [x]).flatMap Vol.cells) := by
      rw [List.length_append, List.flatMap_append]; simp
    have hw2 : St w0 M (blk bf (.cells #[.slice A2 (zs.length + 1) c2] 28 (0, 0)) :: own (.slice A2 (zs.length + 1) c2) 33 4 (zs.length + 1) (zs.flatMap Vol.cells ++ x.cells) :: blk bx (.cells #[.pointer (some ⟨bp, 0, none⟩)] 24 (0, 0)) :: blk bp (.cells #[.map (some mb), wv] 48 (0, 0)) :: mapI kvQ mb (mp rd) :: Fr) w := St.keep (Sb := [blk bf (.cells #[.slice A2 (zs.length + 1) c2] 28 (0, 0)), own (.slice A2 (zs.length + 1) c2) 33 4 (zs.length + 1) (zs.flatMap Vol.cells ++ x.cells), blk bx (.cells #[.pointer (some ⟨bp, 0, none⟩)] 24 (0, 0)), blk bp (.cells #[.map (some mb), wv] 48 (0, 0)), mapI kvQ mb (mp rd)]) hw (by repeat (first | exact Pks.nil _ | exact Pk.here _ | apply Pk.there | apply Pks.cons)) (by repeat (first | exact Tl.here _ | apply Tl.there))
    rw [hz] at hw2
    exact St.keep (Sb := [blk bx (.cells #[.pointer (some ⟨bp, 0, none⟩)] 24 (0, 0)), blk bp (.cells #[.map (some mb), wv] 48 (0, 0)), mapI kvQ mb (mp rd), freeI bf (zs ++ [x])]) (free_mk hw2) (by repeat (first | exact Pks.nil _ | exact Pk.here _ | apply Pk.there | apply Pks.cons)) (by repeat (first | exact Tl.here _ | apply Tl.there))
end Go.Pins
