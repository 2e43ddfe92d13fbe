/- A part of a proof for the laws of the seat Ythkafociknhgaaa; it has no conditions of its own. -/
import Derived.Test.YthkafociknhgaaaDkR4
namespace Go.Disks
open Go Go.SL Go.Proofs
set_option maxHeartbeats 4000000 in
theorem ragain_spec {w0 w : World} {M : Nat → Prop} {Fr : List Itm} {bk : Nat} {dv : Value} {rps : List Nat} {ds : List DD} (d : Int) (b : Bool) (hst : St w0 M (blk bk (.cells #[dv] 73 (0, 0)) :: own dv 74 1 12 (rps.flatMap pc) :: grp (List.zipWith rdI rps ds) :: Fr) w) (hlp : rps.length = 12) (hld : ds.length = 12) : Does Try.prog 42 #[.pointer (some ⟨bk, 0, none⟩), .int .i64 d, .bool b] w (fun v w' => ∃ rps', rps'.length = 12 ∧ v = .int .i64 (if inR d then 0 else 1) ∧ St w0 M (blk bk (.cells #[dv] 73 (0, 0)) :: own dv 74 1 12 (rps'.flatMap pc) :: grp (List.zipWith rdI rps' (putD ds d (bif b then none else some ⟨[], []⟩))) :: Fr) w') := by
  refine fn_bodyX (fn := Try.f42) Try.func42 rfl [(0, .pointer (some ⟨bk, 0, none⟩)), (1, .int .i64 d), (2, .bool b)] (by exact ⟨rfl, rfl, rfl, trivial⟩) rfl hst ?_
  refine jc_seq ?_
  refine sc_region ?_
  refine so_pure (opv_assign (by rfl)) (by rfl) rfl ?_
  refine jo_nil ?_
  refine jk_then ?_
  refine jc_seq ?_
  refine jc_seq ?_
  refine sc_region ?_
  refine so_pure (opv_move (by rfl)) (by rfl) rfl ?_
  refine so_pure (opv_cmp (by rfl) (by rfl) (by rfl)) (by rfl) rfl ?_
  refine so_pure (opv_move (by rfl)) (by rfl) rfl ?_
  refine sk_split (x := 9) (by rfl) (fun h5 => ?_) (fun h5 => ?_)
  · first | have p5 := of_decide_eq_true h5 | have p5 := of_decide_eq_false h5 | have p5 := ndT h5 | have p5 := ndF h5 | have p5 := nbT h5 | have p5 := nbF h5 | have p5 := h5
    refine so_skip (wtd_not rfl rfl (by rfl) h5) rfl ?_
    refine so_skip (wtd_not rfl rfl (by rfl) h5) rfl ?_
    refine so_pure (sv_pick_t (by rfl) h5 (by rfl)) (by rfl) rfl ?_
    refine jo_nil ?_
    refine jk_then ?_
    refine sc_true (by rfl) rfl ?_
    refine jc_seq ?_
    refine sc_region ?_
    refine so_pure (opv_assign (by rfl)) (by rfl) rfl ?_
    refine jo_nil ?_
    refine jk_then ?_
    refine jc_ret ?_
    refine jk_then_ret ?_
    refine jk_fn_ret rfl rfl (by rfl) (fun w hw => ?_)
    have hn : ¬ inR d := by unfold inR; omega
    refine ⟨rps, hlp, by rw [if_neg hn], ?_⟩
    unfold putD
    rw [if_neg hn]
    exact hw
  · first | have p5 := of_decide_eq_true h5 | have p5 := of_decide_eq_false h5 | have p5 := ndT h5 | have p5 := ndF h5 | have p5 := nbT h5 | have p5 := nbF h5 | have p5 := h5
    refine so_pure (opv_move (by rfl)) (wtd_run rfl rfl (by rfl) h5) rfl ?_
    refine so_pure (opv_cmp (by rfl) (by rfl) (by rfl)) (wtd_run rfl rfl (by rfl) h5) rfl ?_
    refine so_pure (sv_pick_f (by rfl) h5 (by rfl)) (by rfl) rfl ?_
    refine jo_nil ?_
    refine jk_then ?_
    refine sk_split (x := 12) (by rfl) (fun h7 => ?_) (fun h7 => ?_)
    · first | have p7 := of_decide_eq_true h7 | have p7 := of_decide_eq_false h7 | have p7 := ndT h7 | have p7 := ndF h7 | have p7 := nbT h7 | have p7 := nbF h7 | have p7 := h7
      refine sc_true (by rfl) h7 ?_
      refine jc_seq ?_
      refine sc_region ?_
      refine so_pure (opv_assign (by rfl)) (by rfl) rfl ?_
      refine jo_nil ?_
      refine jk_then ?_
      refine jc_ret ?_
      refine jk_then_ret ?_
      refine jk_fn_ret rfl rfl (by rfl) (fun w hw => ?_)
      have hn : ¬ inR d := by unfold inR; omega
      refine ⟨rps, hlp, by rw [if_neg hn], ?_⟩
      unfold putD
      rw [if_neg hn]
      exact hw
    · first | have p7 := of_decide_eq_true h7 | have p7 := of_decide_eq_false h7 | have p7 := ndT h7 | have p7 := ndF h7 | have p7 := nbT h7 | have p7 := nbF h7 | have p7 := h7
      refine sc_false (by rfl) h7 ?_
      refine jc_skip ?_
      refine jk_then ?_
      refine jc_seq ?_
      obtain ⟨k, rfl⟩ : ∃ k : Nat, d = k := ⟨d.toNat, by omega⟩
      have hk12 : k < 12 := by omega
      obtain ⟨rb, hrb⟩ : ∃ rb, rps[k]? = some rb := ⟨rps[k], List.getElem?_eq_getElem (by omega)⟩
      obtain ⟨DQ, hD⟩ : ∃ D, ds[k]? = some D := ⟨ds[k], List.getElem?_eq_getElem (by omega)⟩
      refine jk_sv (v := dv) (by repeat (first | exact Pk.here _ | apply Pk.there)) (fun hdv => ?_)
      refine jk_focus (d := k) (by repeat (first | exact Pk.here _ | apply Pk.there)) (rzip_get hrb hD) ?_
      refine so_draw [blk bk (.cells #[dv] 73 (0, 0))] (by kernel_rfl) (by kernel_rfl) (by kernel_rfl) rfl (by rfl) (fun hap htm => ?_)
      refine da_any hap htm (i := 0) (by rfl) (by kernel_rfl) (by rfl) (listed' := #[true, false, false, false, false, false, false, false, false, false, false]) (by rfl) (fun _ => (opv_move (by rfl))) (by rfl) rfl ?_
      refine da_any hap htm (i := 1) (by rfl) (by kernel_rfl) (by rfl) (listed' := #[true, true, false, false, false, false, false, false, false, false, false]) (by rfl) (fun _ => (opv_nilCheck (by rfl))) (by rfl) rfl ?_
      refine da_any hap htm (i := 2) (by rfl) (by kernel_rfl) (by rfl) (listed' := #[true, true, true, false, false, false, false, false, false, false, false]) (by rfl) (fun _ => (opv_fieldAddr (by rfl) fld73_0)) (by rfl) rfl ?_
      refine da_free hap htm (i := 3) (by rfl) (by kernel_rfl) (by rfl) (listed' := #[true, true, true, true, false, false, false, false, false, false, false]) (by rfl) (fun w hw => Pks.cw (by repeat (first | exact Pks.nil _ | exact Pk.here _ | apply Pk.there | apply Pks.cons)) hw) (fun _ => (opv_load (by rfl) na71 (rd_pk (by repeat (first | exact Pk.here _ | apply Pk.there))) (by rfl))) (by rfl) rfl ?_
      refine da_any hap htm (i := 4) (by rfl) (by kernel_rfl) (by rfl) (listed' := #[true, true, true, true, true, false, false, false, false, false, false]) (by rfl) (fun _ => (opv_move (by rfl))) (by rfl) rfl ?_
      refine da_any hap htm (i := 6) (by rfl) (by kernel_rfl) (by rfl) (listed' := #[true, true, true, true, true, false, true, false, false, false, false]) (by rfl) (fun _ => (opv_move (by rfl))) (by rfl) rfl ?_
      refine da_eff (i := 5) (by rfl) (by kernel_rfl) (by rfl) (listed' := #[true, true, true, true, true, true, true, false, false, false, false]) (by rfl) (eff_makeSlice (n := 112) (by rfl) (by rfl) Try.underlying75 ti9 (by decide) (by decide)) (fun _ _ h w hw => by obtain ⟨_, rfl, rfl⟩ := h; exact Pks.cw (by repeat (first | exact Pks.nil _ | exact Pk.here _ | apply Pk.there | apply Pks.cons)) hw) (by rfl) rfl ?_
      rintro _ _ ⟨lb, rfl, rfl⟩
      refine jk_own_mk (n := 112) (cap := 112) (size := 1) (xs := (lK []).flatMap sc) (by repeat (first | exact Pk.here _ | apply Pk.there)) (Nat.le_refl _) (by decide) (by kernel_rfl) (by kernel_rfl) ?_
      show Ja _ _ _ _ _ _ _ _
      refine da_any hap htm (i := 7) (by rfl) (by kernel_rfl) (by rfl) (listed' := #[true, true, true, true, true, true, true, true, false, false, false]) (by rfl) (fun _ => (opv_build (by rfl) (fun w => by exact bld78_0_2 ..))) (by rfl) rfl ?_
      refine da_eff (i := 8) (by rfl) (by kernel_rfl) (by rfl) (listed' := #[true, true, true, true, true, true, true, true, true, false, false]) (by rfl) (eff_box (by rfl) rfl) (fun _ _ h w hw => by obtain ⟨_, _, rfl⟩ := h; exact Pks.cw (by repeat (first | exact Pks.nil _ | exact Pk.here _ | apply Pk.there | apply Pks.cons)) hw) (by rfl) rfl ?_
      rintro _ _ ⟨b21, rfl, rfl⟩
      refine da_any hap htm (i := 9) (by rfl) (by kernel_rfl) (by rfl) (listed' := #[true, true, true, true, true, true, true, true, true, true, false]) (by rfl) (fun _ => (opv_indexAddr_sv (i := k) (v := dv) (n := 12) (by rfl) hdv (by rfl) Try.underlying71 ti74 rfl (by omega))) (by rfl) rfl ?_
      refine da_eff0 (i := 10) (by rfl) (by kernel_rfl) (by rfl) (listed' := #[true, true, true, true, true, true, true, true, true, true, true]) (by rfl) (eff_store_elem (enc := pc) (v := dv) (i := k) (q := b21) (vs := [.pointer (some ⟨b21, 0, none⟩)]) (fo := 0) pc_len (by rfl) (by rfl) (by rfl) ti74 (by rfl) (by repeat (first | exact Pk.here _ | apply Pk.there)) hlp.symm hrb (by exact Nat.le_refl _) rfl (by rfl)) (fun _ _ h w hw => by obtain ⟨_, rfl⟩ := h; exact Pks.cw (by repeat (first | exact Pks.nil _ | exact Pk.here _ | apply Pk.there | apply Pks.cons)) hw) (by rfl) ?_
      rintro _ _ ⟨rfl, rfl⟩
      refine da_done (by kernel_rfl) ?_
      refine jk_then ?_
      refine jc_seq ?_
      refine sc_region ?_
      refine so_pure (opv_assign (by rfl)) (by rfl) rfl ?_
      refine jo_nil ?_
      refine jk_then ?_
      refine jc_ret ?_
      refine jk_fn_ret rfl rfl (by rfl) (fun w hw => ?_)
      have hn : inR (k : Int) := by unfold inR; omega
      refine ⟨rps.set k b21, by rw [List.length_set]; exact hlp, by rw [if_pos hn], ?_⟩
      unfold putD
      rw [if_pos hn, Int.toNat_natCast]
      have hw1 := St.own_nil hw 81 2
      have hw2 : St w0 M (rdI b21 (bif b then none else some ⟨[], []⟩) :: grp ((List.zipWith rdI rps ds).eraseIdx k) :: blk bk (.cells #[dv] 73 (0, 0)) :: own dv 74 1 12 ((rps.set k b21).flatMap pc) :: Fr) w := by
        cases b
        · exact rd_mk (D := some ⟨[], []⟩) (St.keep (Sb := [blk b21 (.cells #[.slice (some ⟨lb, 0, none⟩) 112 112, .slice none 0 0, .bool false] 78 (0, 0)), own (.slice (some ⟨lb, 0, none⟩) 112 112) 9 1 112 ((lK []).flatMap sc), own (.slice none 0 0) 81 2 0 [], grp ((List.zipWith rdI rps ds).eraseIdx k), blk bk (.cells #[dv] 73 (0, 0)), own dv 74 1 12 ((rps.set k b21).flatMap pc)]) hw1 (by repeat (first | exact Pks.nil _ | exact Pk.here _ | apply Pk.there | apply Pks.cons)) (by repeat (first | exact Tl.here _ | apply Tl.there)))
        · exact rd_mk (D := none) (St.keep (Sb := [blk b21 (.cells #[.slice (some ⟨lb, 0, none⟩) 112 112, .slice none 0 0, .bool true] 78 (0, 0)), own (.slice (some ⟨lb, 0, none⟩) 112 112) 9 1 112 ((lK []).flatMap sc), own (.slice none 0 0) 81 2 0 [], grp ((List.zipWith rdI rps ds).eraseIdx k), blk bk (.cells #[dv] 73 (0, 0)), own dv 74 1 12 ((rps.set k b21).flatMap pc)]) hw1 (by repeat (first | exact Pks.nil _ | exact Pk.here _ | apply Pk.there | apply Pks.cons)) (by repeat (first | exact Tl.here _ | apply Tl.there)))
      have hw3 := rfocus_new (by omega) (by omega) (St.keep (Sb := [rdI b21 (bif b then none else some ⟨[], []⟩), grp ((List.zipWith rdI rps ds).eraseIdx k)]) hw2 (by repeat (first | exact Pks.nil _ | exact Pk.here _ | apply Pk.there | apply Pks.cons)) (Tl.here _))
      exact St.keep (Sb := [blk bk (.cells #[dv] 73 (0, 0)), own dv 74 1 12 ((rps.set k b21).flatMap pc), grp (List.zipWith rdI (rps.set k b21) (ds.set k (bif b then none else some ⟨[], []⟩)))]) hw3 (by repeat (first | exact Pks.nil _ | exact Pk.here _ | apply Pk.there | apply Pks.cons)) (by repeat (first | exact Tl.here _ | apply Tl.there))
set_option maxHeartbeats 4000000 in
theorem rlive_spec {w0 w : World} {M : Nat → Prop} {Fr : List Itm} {bk : Nat} {dv : Value} {rps : List Nat} {ds : List DD} (hst : St w0 M (blk bk (.cells #[dv] 73 (0, 0)) :: own dv 74 1 12 (rps.flatMap pc) :: grp (List.zipWith rdI rps ds) :: Fr) w) (hlp : rps.length = 12) (hld : ds.length = 12) : Does Try.prog 20 #[.pointer (some ⟨bk, 0, none⟩)] w (fun v w' => St w0 M (own v 3 1 (liveK ds 12).length ((liveK ds 12).flatMap ic) :: blk bk (.cells #[dv] 73 (0, 0)) :: own dv 74 1 12 (rps.flatMap pc) :: grp (List.zipWith rdI rps ds) :: Fr) w') := by
  refine fn_bodyX (fn := Try.f20) Try.func20 rfl [(0, .pointer (some ⟨bk, 0, none⟩))] (by exact ⟨rfl, trivial⟩) rfl hst ?_
  refine jc_seq ?_
  refine sc_region ?_
  refine so_pure (opv_assign (by rfl)) (by rfl) rfl ?_
  refine jo_nil ?_
  refine jk_then ?_
  refine jc_seq ?_
  refine sc_region ?_
  refine so_pure (opv_assign (by rfl)) (by rfl) rfl ?_
  refine jo_nil ?_
  refine jk_then ?_
  refine jc_seq ?_
  refine jc_seq ?_
  refine sc_region ?_
  refine so_pure (opv_assign (by rfl)) (by rfl) rfl ?_
  refine jo_nil ?_
  refine jk_then ?_
  refine jc_block ?_
  refine jc_loop (σ := Nat × Value) (fun (k, lo) => [(0, .pointer (some ⟨bk, 0, none⟩)), (3, lo), (4, .int .i64 k)]) (fun (k, lo) => (own lo 3 1 (liveK ds k).length ((liveK ds k).flatMap ic) :: blk bk (.cells #[dv] 73 (0, 0)) :: own dv 74 1 12 (rps.flatMap pc) :: grp (List.zipWith rdI rps ds) :: Fr)) (fun (k, lo) => (k ≤ 12) ∧ (True)) (fun (k, lo) => 12 - k) (0, .slice none 0 0) ⟨Nat.zero_le _, trivial⟩ ⟨rfl, rfl, rfl, trivial⟩ (fun w hw => hw.own_nil 3 1) ?_
  rintro ⟨k, lo⟩ ⟨hk, ht⟩
  show Jc _ _ [(0, .pointer (some ⟨bk, 0, none⟩)), (3, lo), (4, .int .i64 k)] (own lo 3 1 (liveK ds k).length ((liveK ds k).flatMap ic) :: blk bk (.cells #[dv] 73 (0, 0)) :: own dv 74 1 12 (rps.flatMap pc) :: grp (List.zipWith rdI rps ds) :: Fr) _
  refine jc_seq ?_
  refine jc_seq ?_
  refine sc_region ?_
  refine so_pure (opv_move (by rfl)) (by rfl) rfl ?_
  refine so_pure (opv_cmp (by rfl) (by rfl) (by rfl)) (by rfl) rfl ?_
  refine jo_nil ?_
  refine jk_then ?_
  refine sk_split (x := 6) (by rfl) (fun h6 => ?_) (fun h6 => ?_)
  · first | have p6 := of_decide_eq_true h6 | have p6 := of_decide_eq_false h6 | have p6 := ndT h6 | have p6 := ndF h6 | have p6 := nbT h6 | have p6 := nbF h6 | have p6 := h6
    refine sc_true (by rfl) h6 ?_
    refine jc_skip ?_
    refine jk_then ?_
    refine jc_seq ?_
    refine jc_block ?_
    refine jc_seq ?_
    have hk12 : k < 12 := by omega
    have hlk := liveK_len ds k
    obtain ⟨rb, hrb⟩ : ∃ rb, rps[k]? = some rb := ⟨rps[k], List.getElem?_eq_getElem (by omega)⟩
    obtain ⟨DQ, hD⟩ : ∃ D, ds[k]? = some D := ⟨ds[k], List.getElem?_eq_getElem (by omega)⟩
    refine jk_focus (d := k) (by repeat (first | exact Pk.here _ | apply Pk.there)) (rzip_get hrb hD) ?_
    refine jk_rd_open (D := DQ) (by repeat (first | exact Pk.here _ | apply Pk.there)) (fun lv wv => ?_)
    refine jk_sv (v := dv) (by repeat (first | exact Pk.here _ | apply Pk.there)) (fun hdv => ?_)
    refine jk_sv (v := lv) (by repeat (first | exact Pk.here _ | apply Pk.there)) (fun hlv => ?_)
    refine jk_sv (v := wv) (by repeat (first | exact Pk.here _ | apply Pk.there)) (fun hwv => ?_)
    refine sc_region ?_
    refine so_pure (opv_move (by rfl)) (by rfl) rfl ?_
    refine so_pure (opv_nilCheck (by rfl)) (by rfl) rfl ?_
    refine so_pure (opv_fieldAddr (by rfl) fld73_0) (by rfl) rfl ?_
    refine so_pure (opv_load (by rfl) na71 (rd_pk (by repeat (first | exact Pk.here _ | apply Pk.there))) (by rfl)) (by rfl) rfl ?_
    refine so_pure (opv_move (by rfl)) (by rfl) rfl ?_
    refine so_pure (opv_indexAddr_sv (i := k) (v := dv) (n := 12) (by rfl) hdv (by rfl) Try.underlying71 ti74 rfl (by omega)) (by rfl) rfl ?_
    refine so_pure (opv_load_fld (enc := pc) (v := dv) (i := k) (u := rb) (fo := 0) (w := .pointer (some ⟨rb, 0, none⟩)) pc_len (by rfl) na74 (by repeat (first | exact Pk.here _ | apply Pk.there)) hrb rfl) (by rfl) rfl ?_
    refine so_pure (opv_nilCheck (by rfl)) (by rfl) rfl ?_
    refine so_pure (opv_fieldAddr (by rfl) fld78_2) (by rfl) rfl ?_
    refine so_pure (opv_load (v := .bool (lostB DQ)) (by rfl) na4 (rd_pk (by repeat (first | exact Pk.here _ | apply Pk.there))) (by rfl)) (by rfl) rfl ?_
    refine so_pure (opv_not (by rfl)) (by rfl) rfl ?_
    refine jo_nil ?_
    refine jk_then ?_
    refine sk_split (x := 19) (by rfl) (fun h15 => ?_) (fun h15 => ?_)
    · first | have p15 := of_decide_eq_true h15 | have p15 := of_decide_eq_false h15 | have p15 := ndT h15 | have p15 := ndF h15 | have p15 := nbT h15 | have p15 := nbF h15 | have p15 := h15
      refine sc_true (by rfl) (not_t (nbT h15)) ?_
      refine sc_region ?_
      refine so_pure (opv_move (by rfl)) (by rfl) rfl ?_
      refine so_pure (opv_move (by rfl)) (by rfl) rfl ?_
      refine so_eff (eff_buildSlice (by rfl) (fun w => by exact bsl42_1_0 ..)) (by rfl) rfl ?_
      rintro _ _ ⟨b25, rfl, rfl⟩
      refine so_eff (eff_append_lit (by rfl) (by rfl) Try.underlying42 ti3 (by rfl) (by omega) (by repeat (first | exact Pk.here _ | apply Pk.there)) (rd_pk (by repeat (first | exact Pk.here _ | apply Pk.there))) (by rfl) (by rfl) (by unfold maxLen; omega) (by omega)) (by rfl) rfl ?_
      rintro nv _ ⟨rfl, _⟩
      refine so_pure (opv_assign (by rfl)) (by rfl) rfl ?_
      refine jo_nil ?_
      refine jk_block ?_
      refine jk_then ?_
      refine sc_region ?_
      refine so_pure (opv_move (by rfl)) (by rfl) rfl ?_
      refine so_pure (opv_add (by rfl) (by rfl) (wrap64_ok (by omega))) (by rfl) rfl ?_
      refine so_pure (opv_assign (by rfl)) (by rfl) rfl ?_
      refine jo_nil ?_
      obtain ⟨D, rfl⟩ := lost_some p15
      refine jk_round (k + 1, nv) ⟨by omega, trivial⟩ (by show 12 - (k + 1) < 12 - k; omega) ⟨rfl, rfl, rfl, trivial⟩ (fun w hw => ?_)
      show St _ _ (own (nv) 3 1 (liveK ds (k + 1)).length ((liveK ds (k + 1)).flatMap ic) :: blk bk (.cells #[dv] 73 (0, 0)) :: own dv 74 1 12 (rps.flatMap pc) :: grp (List.zipWith rdI rps ds) :: Fr) _
      rw [liveK_yes hD, List.length_append, List.flatMap_append]
      have hw2 := (St.keep (Sb := [blk rb (.cells #[lv, wv, .bool (lostB (some D))] 78 (0, 0)), own lv 9 1 112 ((lK (kpOf (some D))).flatMap sc), own wv 81 2 (wsOf (some D)).length ((wsOf (some D)).flatMap Wr.cells)]) hw (by repeat (first | exact Pks.nil _ | exact Pk.here _ | apply Pk.there | apply Pks.cons)) (Tl.here _))
      have hw3 := rfocus_same hrb hD (St.keep (Sb := [rdI rb (some D), grp ((List.zipWith rdI rps ds).eraseIdx k)]) (rd_mk hw2) (by repeat (first | exact Pks.nil _ | exact Pk.here _ | apply Pk.there | apply Pks.cons)) (Tl.here _))
      exact St.keep (Sb := [own nv 3 1 ((liveK ds k).length + 1) ((liveK ds k).flatMap ic ++ ic (k : Int)), blk bk (.cells #[dv] 73 (0, 0)), own dv 74 1 12 (rps.flatMap pc), grp (List.zipWith rdI rps ds)]) hw3 (by repeat (first | exact Pks.nil _ | exact Pk.here _ | apply Pk.there | apply Pks.cons)) (by repeat (first | exact Tl.here _ | apply Tl.there))
    · first | have p15 := of_decide_eq_true h15 | have p15 := of_decide_eq_false h15 | have p15 := ndT h15 | have p15 := ndF h15 | have p15 := nbT h15 | have p15 := nbF h15 | have p15 := h15
      refine sc_false (by rfl) (not_f (nbF h15)) ?_
      refine jc_skip ?_
      refine jk_block ?_
      refine jk_then ?_
      refine sc_region ?_
      refine so_pure (opv_move (by rfl)) (by rfl) rfl ?_
      refine so_pure (opv_add (by rfl) (by rfl) (wrap64_ok (by omega))) (by rfl) rfl ?_
      refine so_pure (opv_assign (by rfl)) (by rfl) rfl ?_
      refine jo_nil ?_
      obtain rfl := lost_none p15
      refine jk_round (k + 1, lo) ⟨by omega, trivial⟩ (by show 12 - (k + 1) < 12 - k; omega) ⟨rfl, rfl, rfl, trivial⟩ (fun w hw => ?_)
      show St _ _ (own (lo) 3 1 (liveK ds (k + 1)).length ((liveK ds (k + 1)).flatMap ic) :: blk bk (.cells #[dv] 73 (0, 0)) :: own dv 74 1 12 (rps.flatMap pc) :: grp (List.zipWith rdI rps ds) :: Fr) _
      rw [liveK_no hD]
      have hw2 := (St.keep (Sb := [blk rb (.cells #[lv, wv, .bool (lostB none)] 78 (0, 0)), own lv 9 1 112 ((lK (kpOf none)).flatMap sc), own wv 81 2 (wsOf none).length ((wsOf none).flatMap Wr.cells)]) hw (by repeat (first | exact Pks.nil _ | exact Pk.here _ | apply Pk.there | apply Pks.cons)) (Tl.here _))
      have hw3 := rfocus_same hrb hD (St.keep (Sb := [rdI rb none, grp ((List.zipWith rdI rps ds).eraseIdx k)]) (rd_mk hw2) (by repeat (first | exact Pks.nil _ | exact Pk.here _ | apply Pk.there | apply Pks.cons)) (Tl.here _))
      exact St.keep (Sb := [own lo 3 1 (liveK ds k).length ((liveK ds k).flatMap ic), blk bk (.cells #[dv] 73 (0, 0)), own dv 74 1 12 (rps.flatMap pc), grp (List.zipWith rdI rps ds)]) hw3 (by repeat (first | exact Pks.nil _ | exact Pk.here _ | apply Pk.there | apply Pks.cons)) (by repeat (first | exact Tl.here _ | apply Tl.there))
  · first | have p6 := of_decide_eq_true h6 | have p6 := of_decide_eq_false h6 | have p6 := ndT h6 | have p6 := ndF h6 | have p6 := nbT h6 | have p6 := nbF h6 | have p6 := h6
    refine sc_false (by rfl) h6 ?_
    refine jc_exit ?_
    refine jk_then_exit ?_
    refine jk_then_exit ?_
    refine jk_block_exit ?_
    refine jk_then ?_
    refine jc_seq ?_
    refine sc_region ?_
    refine so_pure (opv_move (by rfl)) (by rfl) rfl ?_
    refine so_pure (opv_assign (by rfl)) (by rfl) rfl ?_
    refine jo_nil ?_
    refine jk_then ?_
    refine jc_ret ?_
    refine jk_fn_ret rfl rfl (by rfl) (fun w hw => ?_)
    have ek : k = 12 := by omega
    subst ek
    exact hw
end Go.Disks
