/- A part of a proof for the laws of the seat Ythkafociknhgaaa; it has no conditions of its own. -/
import Derived.Test.YthkafociknhgaaaDkW12
namespace Go.Disks
open Go Go.SL Go.Proofs
set_option maxHeartbeats 4000000 in
theorem copy_spec {w0 w : World} {M : Nat → Prop} {Fr : List Itm} {bb : Nat} {ps : List Nat} {ds : List DD} (hst : St w0 M (blk bb (.cells (ptrs ps).toArray 50 (0, 0)) :: grp (List.zipWith dkI ps ds) :: Fr) w) (hlp : ps.length = 12) (hld : ds.length = 12) {N : Nat} (hwb : WB ds N) (hN : N ≤ 100000) : Does Try.prog 12 #[.pointer (some ⟨bb, 0, none⟩)] w (fun v w' => ∃ b9 qs, qs.length = 12 ∧ v = .pointer (some ⟨b9, 0, none⟩) ∧ St w0 M (blk b9 (.cells (ptrs qs).toArray 50 (0, 0)) :: grp (List.zipWith dkI qs ds) :: blk bb (.cells (ptrs ps).toArray 50 (0, 0)) :: grp (List.zipWith dkI ps ds) :: Fr) w') := by
  refine fn_bodyX (fn := Try.f12) Try.func12 rfl [(0, .pointer (some ⟨bb, 0, none⟩))] (by exact ⟨rfl, trivial⟩) rfl hst ?_
  refine jc_seq ?_
  refine sc_region ?_
  refine so_pure (opv_assign (by rfl)) (by rfl) rfl ?_
  refine jo_nil ?_
  refine jk_then ?_
  refine jc_seq ?_
  refine jc_seq ?_
  refine sc_region ?_
  refine so_pure (opv_move (by rfl)) (by rfl) rfl ?_
  refine so_pure (opv_ptr_nil (by rfl) (by rfl) Try.underlying25) (by rfl) rfl ?_
  refine jo_nil ?_
  refine jk_then ?_
  refine sc_false (by rfl) rfl ?_
  refine jc_skip ?_
  refine jk_then ?_
  refine jc_seq ?_
  refine sc_region ?_
  refine so_pure (opv_build (by rfl) (fun w => by exact bld50_ ..)) (by rfl) rfl ?_
  refine so_eff (eff_box (by rfl) rfl) (by rfl) rfl ?_
  rintro _ _ ⟨b9, rfl, rfl⟩
  refine so_pure (opv_assign (by rfl)) (by rfl) rfl ?_
  refine jo_nil ?_
  refine jk_then ?_
  refine jc_seq ?_
  refine jc_seq ?_
  refine sc_region ?_
  refine so_pure (opv_move (by rfl)) (by rfl) rfl ?_
  refine so_pure (opv_nilCheck (by rfl)) (by rfl) rfl ?_
  refine so_pure (opv_fieldAddr (by rfl) fld50_0) (by rfl) rfl ?_
  refine so_pure (opv_load_agg (vs := ptrs ps) (by rfl) ag48 ti48 (rd_pk (by repeat (first | exact Pk.here _ | apply Pk.there))) (cells_of_get (fun j v h => by simpa using h)) (by unfold ptrs; simp; omega)) (by rfl) rfl ?_
  refine so_pure (opv_move (by rfl)) (by rfl) rfl ?_
  refine jo_nil ?_
  refine jk_then ?_
  refine jc_block ?_
  refine jc_loop (σ := List Nat) (fun qs => [(0, .pointer (some ⟨bb, 0, none⟩)), (3, .pointer (some ⟨b9, 0, none⟩)), (13, .agg (ptrs ps).toArray), (14, .int .i64 qs.length)]) (fun qs => (blk b9 (.cells (ptrs qs ++ List.replicate (12 - qs.length) (Value.pointer none)).toArray 50 (0, 0)) :: grp (List.zipWith dkI qs (ds.take qs.length)) :: blk bb (.cells (ptrs ps).toArray 50 (0, 0)) :: grp (List.zipWith dkI ps ds) :: Fr)) (fun qs => (qs.length ≤ 12) ∧ (True)) (fun qs => 12 - qs.length) ([] : List Nat) ⟨Nat.zero_le _, trivial⟩ ⟨rfl, rfl, rfl, rfl, trivial⟩ (fun w hw => St.keep (Sb := [blk b9 (.cells (ptrs ([] : List Nat) ++ List.replicate (12 - ([] : List Nat).length) (Value.pointer none)).toArray 50 (0, 0)), grp (List.zipWith dkI ([] : List Nat) (ds.take ([] : List Nat).length)), blk bb (.cells (ptrs ps).toArray 50 (0, 0)), grp (List.zipWith dkI ps ds)]) (St.grp_mk (L := []) hw) (by repeat (first | exact Pks.nil _ | exact Pk.here _ | apply Pk.there | apply Pks.cons)) (by repeat (first | exact Tl.here _ | apply Tl.there))) ?_
  rintro qs ⟨hl, ht⟩
  show Jc _ _ [(0, .pointer (some ⟨bb, 0, none⟩)), (3, .pointer (some ⟨b9, 0, none⟩)), (13, .agg (ptrs ps).toArray), (14, .int .i64 qs.length)] (blk b9 (.cells (ptrs qs ++ List.replicate (12 - qs.length) (Value.pointer none)).toArray 50 (0, 0)) :: grp (List.zipWith dkI qs (ds.take qs.length)) :: blk bb (.cells (ptrs ps).toArray 50 (0, 0)) :: grp (List.zipWith dkI ps ds) :: Fr) _
  refine jc_seq ?_
  refine sc_region ?_
  refine so_pure (opv_cmp (by rfl) (by rfl) (by rfl)) (by rfl) rfl ?_
  refine jo_nil ?_
  refine jk_then ?_
  refine jc_seq ?_
  refine sk_split (x := 15) (by rfl) (fun h9 => ?_) (fun h9 => ?_)
  · first | have p9 := of_decide_eq_true h9 | have p9 := of_decide_eq_false h9 | have p9 := ndT h9 | have p9 := ndF h9 | have p9 := nbT h9 | have p9 := nbF h9 | have p9 := h9
    refine sc_true (by rfl) h9 ?_
    refine jc_skip ?_
    refine jk_then ?_
    refine jc_seq ?_
    refine jc_block ?_
    refine jc_seq ?_
    obtain ⟨k, hkq⟩ : ∃ k, k = qs.length := ⟨_, rfl⟩
    have hk : k < 12 := by omega
    obtain ⟨db, hdb⟩ : ∃ db, ps[k]? = some db := ⟨ps[k], List.getElem?_eq_getElem (by omega)⟩
    obtain ⟨DQ, hD⟩ : ∃ D, ds[k]? = some D := ⟨ds[k], List.getElem?_eq_getElem (by omega)⟩
    refine sc_region ?_
    refine so_pure (opv_move (by rfl)) (by rfl) rfl ?_
    refine so_pure (opv_index_arr (i := k) (by rfl) (by rfl) Try.underlying48 ti47 na47 (by rw [hkq]) (by omega) (ptrs_get hdb)) (by rfl) rfl ?_
    refine so_pure (opv_assign (by rfl)) (by rfl) rfl ?_
    refine so_pure (opv_assign (by rfl)) (by rfl) rfl ?_
    refine jo_nil ?_
    refine jk_then ?_
    refine jk_focus (L := List.zipWith dkI ps ds) (d := k) (by repeat (first | exact Pk.here _ | apply Pk.there)) (zip_get hdb hD) ?_
    rcases DQ with _ | D
    · skip
      refine so_draw [blk db (.cells #[.map none, .slice none 0 0, .bool true] 57 (0, 0))] (by kernel_rfl) (by kernel_rfl) (by kernel_rfl) rfl (by rfl) (fun hap htm => ?_)
      refine da_any hap htm (i := 0) (by rfl) (by kernel_rfl) (by rfl) (listed' := #[true, false, false, false, false, false, false, false, false, false, false, false, false, false, false, false, false, false, false, false, false, false]) (by rfl) (fun _ => (opv_move (by rfl))) (by rfl) rfl ?_
      refine da_any hap htm (i := 1) (by rfl) (by kernel_rfl) (by rfl) (listed' := #[true, true, false, false, false, false, false, false, false, false, false, false, false, false, false, false, false, false, false, false, false, false]) (by rfl) (fun _ => (opv_move (by rfl))) (by rfl) rfl ?_
      refine da_any hap htm (i := 2) (by rfl) (by kernel_rfl) (by rfl) (listed' := #[true, true, true, false, false, false, false, false, false, false, false, false, false, false, false, false, false, false, false, false, false, false]) (by rfl) (fun _ => (opv_move (by rfl))) (by rfl) rfl ?_
      refine da_any hap htm (i := 3) (by rfl) (by kernel_rfl) (by rfl) (listed' := #[true, true, true, true, false, false, false, false, false, false, false, false, false, false, false, false, false, false, false, false, false, false]) (by rfl) (fun _ => (opv_nilCheck (by rfl))) (by rfl) rfl ?_
      refine da_any hap htm (i := 4) (by rfl) (by kernel_rfl) (by rfl) (listed' := #[true, true, true, true, true, false, false, false, false, false, false, false, false, false, false, false, false, false, false, false, false, false]) (by rfl) (fun _ => (opv_fieldAddr (by rfl) fld57_0)) (by rfl) rfl ?_
      refine da_now [6, 11, 16, 17, 20, 21] hap htm (i := 5) (by rfl) (by kernel_rfl) (by rfl) (listed' := #[true, true, true, true, true, true, false, false, false, false, false, false, false, false, false, false, false, false, false, false, false, false]) (by rfl) (by kernel_rfl) (by kernel_rfl) (opv_load (v := .map none) (by rfl) na55 (rd_pk (by first | exact Pk.there (Pk.here _) | (show Pk _ _ _; exact Pk.here _) | (repeat (first | exact Pk.here _ | apply Pk.there)))) (by rfl)) (by rfl) rfl ?_
      refine da_any hap htm (i := 7) (by rfl) (by kernel_rfl) (by rfl) (listed' := #[true, true, true, true, true, true, false, true, false, false, false, false, false, false, false, false, false, false, false, false, false, false]) (by rfl) (fun _ => (opv_move (by rfl))) (by rfl) rfl ?_
      refine da_any hap htm (i := 8) (by rfl) (by kernel_rfl) (by rfl) (listed' := #[true, true, true, true, true, true, false, true, true, false, false, false, false, false, false, false, false, false, false, false, false, false]) (by rfl) (fun _ => (opv_nilCheck (by rfl))) (by rfl) rfl ?_
      refine da_any hap htm (i := 9) (by rfl) (by kernel_rfl) (by rfl) (listed' := #[true, true, true, true, true, true, false, true, true, true, false, false, false, false, false, false, false, false, false, false, false, false]) (by rfl) (fun _ => (opv_fieldAddr (by rfl) fld57_1)) (by rfl) rfl ?_
      refine da_free hap htm (i := 10) (by rfl) (by kernel_rfl) (by rfl) (listed' := #[true, true, true, true, true, true, false, true, true, true, true, false, false, false, false, false, false, false, false, false, false, false]) (by rfl) (fun w hw => Pks.cw (by repeat (first | exact Pks.nil _ | exact Pk.here _ | apply Pk.there | apply Pks.cons)) hw) (fun _ => (opv_load (v := .slice none 0 0) (by rfl) na54 (rd_pk (by first | exact Pk.there (Pk.here _) | (show Pk _ _ _; exact Pk.here _) | (repeat (first | exact Pk.here _ | apply Pk.there)))) (by rfl))) (by rfl) rfl ?_
      refine da_any hap htm (i := 12) (by rfl) (by kernel_rfl) (by rfl) (listed' := #[true, true, true, true, true, true, false, true, true, true, true, false, true, false, false, false, false, false, false, false, false, false]) (by rfl) (fun _ => (opv_move (by rfl))) (by rfl) rfl ?_
      refine da_any hap htm (i := 13) (by rfl) (by kernel_rfl) (by rfl) (listed' := #[true, true, true, true, true, true, false, true, true, true, true, false, true, true, false, false, false, false, false, false, false, false]) (by rfl) (fun _ => (opv_nilCheck (by rfl))) (by rfl) rfl ?_
      refine da_any hap htm (i := 14) (by rfl) (by kernel_rfl) (by rfl) (listed' := #[true, true, true, true, true, true, false, true, true, true, true, false, true, true, true, false, false, false, false, false, false, false]) (by rfl) (fun _ => (opv_fieldAddr (by rfl) fld57_2)) (by rfl) rfl ?_
      refine da_free hap htm (i := 15) (by rfl) (by kernel_rfl) (by rfl) (listed' := #[true, true, true, true, true, true, false, true, true, true, true, false, true, true, true, true, false, false, false, false, false, false]) (by rfl) (fun w hw => Pks.cw (by repeat (first | exact Pks.nil _ | exact Pk.here _ | apply Pk.there | apply Pks.cons)) hw) (fun _ => (opv_load (v := .bool true) (by rfl) na4 (rd_pk (by first | exact Pk.there (Pk.here _) | (show Pk _ _ _; exact Pk.here _) | (repeat (first | exact Pk.here _ | apply Pk.there)))) (by rfl))) (by rfl) rfl ?_
      refine da_any hap htm (i := 18) (by rfl) (by kernel_rfl) (by rfl) (listed' := #[true, true, true, true, true, true, false, true, true, true, true, false, true, true, true, true, false, false, true, false, false, false]) (by rfl) (fun _ => (opv_nilCheck (by rfl))) (by rfl) rfl ?_
      refine da_any hap htm (i := 19) (by rfl) (by kernel_rfl) (by rfl) (listed' := #[true, true, true, true, true, true, false, true, true, true, true, false, true, true, true, true, false, false, true, true, false, false]) (by rfl) (fun _ => (opv_fieldAddr (by rfl) fld50_0)) (by rfl) rfl ?_
      refine da_eff (i := 6) (by rfl) (by kernel_rfl) (by rfl) (listed' := #[true, true, true, true, true, true, true, true, true, true, true, false, true, true, true, true, false, false, true, true, false, false]) (by rfl) (eff_call0 (fl := []) (cl := []) (f := 31) (G := fun v New => v = .map none ∧ New = []) (by rfl) (by rfl) tx31 (by exact fun w1 hw1 => (mclone_nil w1).mono (fun _ _ ⟨hv, hst⟩ => ⟨[], ⟨hv, rfl⟩, hst⟩))) (fun _ _ h w hw => by obtain ⟨_, ⟨_, rfl⟩, rfl⟩ := h; exact Pks.cw (by repeat (first | exact Pks.nil _ | exact Pk.here _ | apply Pk.there | apply Pks.cons)) hw) (by rfl) rfl ?_
      rintro _ _ ⟨_, ⟨rfl, rfl⟩, rfl⟩
      refine da_eff (i := 11) (by rfl) (by kernel_rfl) (by rfl) (listed' := #[true, true, true, true, true, true, true, true, true, true, true, true, true, true, true, true, false, false, true, true, false, false]) (by rfl) (eff_call0 (fl := []) (cl := []) (f := 32) (G := fun v New => v = .slice none 0 0 ∧ New = []) (by rfl) (by rfl) tx32 (by exact fun w1 hw1 => (clone_nil w1).mono (fun _ _ ⟨hv, hst⟩ => ⟨[], ⟨hv, rfl⟩, hst⟩))) (fun _ _ h w hw => by obtain ⟨_, ⟨_, rfl⟩, rfl⟩ := h; exact Pks.cw (by repeat (first | exact Pks.nil _ | exact Pk.here _ | apply Pk.there | apply Pks.cons)) hw) (by rfl) rfl ?_
      rintro _ _ ⟨_, ⟨rfl, rfl⟩, rfl⟩
      refine da_any hap htm (i := 16) (by rfl) (by kernel_rfl) (by rfl) (listed' := #[true, true, true, true, true, true, true, true, true, true, true, true, true, true, true, true, true, false, true, true, false, false]) (by rfl) (fun _ => (opv_build (by rfl) (fun w => by exact bld57_0_1_2 ..))) (by rfl) rfl ?_
      refine da_eff (i := 17) (by rfl) (by kernel_rfl) (by rfl) (listed' := #[true, true, true, true, true, true, true, true, true, true, true, true, true, true, true, true, true, true, true, true, false, false]) (by rfl) (eff_box (by rfl) rfl) (fun _ _ h w hw => by obtain ⟨_, _, rfl⟩ := h; exact Pks.cw (by repeat (first | exact Pks.nil _ | exact Pk.here _ | apply Pk.there | apply Pks.cons)) hw) (by rfl) rfl ?_
      rintro _ _ ⟨b12, rfl, rfl⟩
      refine da_any hap htm (i := 20) (by rfl) (by kernel_rfl) (by rfl) (listed' := #[true, true, true, true, true, true, true, true, true, true, true, true, true, true, true, true, true, true, true, true, true, false]) (by rfl) (fun _ => (opv_indexAddr_arr (i := qs.length) (by rfl) (by rfl) Try.underlying48 ti47 rfl (by omega))) (by rfl) rfl ?_
      refine da_eff0 (i := 21) (by rfl) (by kernel_rfl) (by rfl) (listed' := #[true, true, true, true, true, true, true, true, true, true, true, true, true, true, true, true, true, true, true, true, true, true]) (by rfl) (eff_store (off := 0 + qs.length * 1) (vs := [.pointer (some ⟨b12, 0, none⟩)]) (by rfl) (by rfl) (by rfl) ti47 (by rfl) (by repeat (first | exact Pk.here _ | apply Pk.there)) (by unfold ptrs; simp; omega) (by rfl)) (fun _ _ h w hw => by obtain ⟨_, rfl⟩ := h; exact Pks.cw (by repeat (first | exact Pks.nil _ | exact Pk.here _ | apply Pk.there | apply Pks.cons)) hw) (by rfl) ?_
      rintro _ _ ⟨rfl, rfl⟩
      refine da_done (by kernel_rfl) ?_
      refine jk_block ?_
      refine jk_then ?_
      refine sc_region ?_
      refine so_pure (opv_add (by rfl) (by rfl) (wrap64_ok (by omega))) (by rfl) rfl ?_
      refine so_pure (opv_move (by rfl)) (by rfl) rfl ?_
      refine jo_nil ?_
      obtain ⟨m, hm⟩ : ∃ m, 12 - qs.length = m + 1 := ⟨11 - qs.length, by omega⟩
      have e2 : 12 - (qs ++ [b12]).length = m := by simp; omega
      have e3 : (qs ++ [b12]).length = qs.length + 1 := by simp
      refine jk_round (qs ++ [b12]) ⟨by rw [e3]; omega, trivial⟩ (by show 12 - (qs ++ [b12]).length < 12 - qs.length; (rw [e3]; omega)) ⟨rfl, rfl, rfl, by rw [e3]; rfl, trivial⟩ (fun w hw => ?_)
      show St _ _ (blk b9 (.cells (ptrs (qs ++ [b12]) ++ List.replicate (12 - (qs ++ [b12]).length) (Value.pointer none)).toArray 50 (0, 0)) :: grp (List.zipWith dkI (qs ++ [b12]) (ds.take (qs ++ [b12]).length)) :: blk bb (.cells (ptrs ps).toArray 50 (0, 0)) :: grp (List.zipWith dkI ps ds) :: Fr) _
      rw [e2, ← new_cells, e3, take_snoc (by rw [← hkq]; exact hD), zip_snoc (by rw [List.length_take]; omega)]
      rw [hm] at hw
      have hn0 : dkI b12 none = blk b12 (.cells #[.map none, .slice none 0 0, .bool true] 57 (0, 0)) := rfl
      have hwA := focus_same hdb hD (St.keep (Sb := [dkI db none, grp ((List.zipWith dkI ps ds).eraseIdx k)]) hw (by repeat (first | exact Pks.nil _ | exact Pk.here _ | apply Pk.there | apply Pks.cons)) (Tl.here _))
      have hwB := (St.keep (Sb := [dkI b12 none, grp (List.zipWith dkI qs (ds.take qs.length))]) hwA (by repeat (first | exact Pks.nil _ | exact Pk.here _ | apply Pk.there | apply Pks.cons)) (Tl.here _))
      have hwC := grp_snoc hwB
      exact St.keep (Sb := [blk b9 (.cells (putCells ((ptrs qs ++ List.replicate (m + 1) (Value.pointer none)).toArray) (0 + qs.length * 1) [.pointer (some ⟨b12, 0, none⟩)]) 50 (0, 0)), grp (List.zipWith dkI qs (ds.take qs.length) ++ [dkI b12 none]), blk bb (.cells (ptrs ps).toArray 50 (0, 0)), grp (List.zipWith dkI ps ds)]) hwC (by repeat (first | exact Pks.nil _ | exact Pk.here _ | apply Pk.there | apply Pks.cons)) (by repeat (first | exact Tl.here _ | apply Tl.there))
    · have hwn : D.ws.length ≤ 1000000 := Nat.le_trans (hwb k D hD).1 (by omega)
      refine jk_dk_open (D := D) (by repeat (first | exact Pk.here _ | apply Pk.there)) (fun mb wv => ?_)
      refine jk_sv (v := wv) (by repeat (first | exact Pk.here _ | apply Pk.there)) (fun hsv => ?_)
      obtain ⟨AW, cw, rfl, _⟩ := hsv
      refine so_draw [blk db (.cells #[.map (some mb), .slice AW D.ws.length cw, .bool false] 57 (0, 0))] (by kernel_rfl) (by kernel_rfl) (by kernel_rfl) rfl (by rfl) (fun hap htm => ?_)
      refine da_any hap htm (i := 0) (by rfl) (by kernel_rfl) (by rfl) (listed' := #[true, false, false, false, false, false, false, false, false, false, false, false, false, false, false, false, false, false, false, false, false, false]) (by rfl) (fun _ => (opv_move (by rfl))) (by rfl) rfl ?_
      refine da_any hap htm (i := 1) (by rfl) (by kernel_rfl) (by rfl) (listed' := #[true, true, false, false, false, false, false, false, false, false, false, false, false, false, false, false, false, false, false, false, false, false]) (by rfl) (fun _ => (opv_move (by rfl))) (by rfl) rfl ?_
      refine da_any hap htm (i := 2) (by rfl) (by kernel_rfl) (by rfl) (listed' := #[true, true, true, false, false, false, false, false, false, false, false, false, false, false, false, false, false, false, false, false, false, false]) (by rfl) (fun _ => (opv_move (by rfl))) (by rfl) rfl ?_
      refine da_any hap htm (i := 3) (by rfl) (by kernel_rfl) (by rfl) (listed' := #[true, true, true, true, false, false, false, false, false, false, false, false, false, false, false, false, false, false, false, false, false, false]) (by rfl) (fun _ => (opv_nilCheck (by rfl))) (by rfl) rfl ?_
      refine da_any hap htm (i := 4) (by rfl) (by kernel_rfl) (by rfl) (listed' := #[true, true, true, true, true, false, false, false, false, false, false, false, false, false, false, false, false, false, false, false, false, false]) (by rfl) (fun _ => (opv_fieldAddr (by rfl) fld57_0)) (by rfl) rfl ?_
      refine da_now [6, 11, 16, 17, 20, 21] hap htm (i := 5) (by rfl) (by kernel_rfl) (by rfl) (listed' := #[true, true, true, true, true, true, false, false, false, false, false, false, false, false, false, false, false, false, false, false, false, false]) (by rfl) (by kernel_rfl) (by kernel_rfl) (opv_load (v := .map (some mb)) (by rfl) na55 (rd_pk (by first | exact Pk.there (Pk.here _) | (show Pk _ _ _; exact Pk.here _) | (repeat (first | exact Pk.here _ | apply Pk.there)))) (by rfl)) (by rfl) rfl ?_
      refine da_any hap htm (i := 7) (by rfl) (by kernel_rfl) (by rfl) (listed' := #[true, true, true, true, true, true, false, true, false, false, false, false, false, false, false, false, false, false, false, false, false, false]) (by rfl) (fun _ => (opv_move (by rfl))) (by rfl) rfl ?_
      refine da_any hap htm (i := 8) (by rfl) (by kernel_rfl) (by rfl) (listed' := #[true, true, true, true, true, true, false, true, true, false, false, false, false, false, false, false, false, false, false, false, false, false]) (by rfl) (fun _ => (opv_nilCheck (by rfl))) (by rfl) rfl ?_
      refine da_any hap htm (i := 9) (by rfl) (by kernel_rfl) (by rfl) (listed' := #[true, true, true, true, true, true, false, true, true, true, false, false, false, false, false, false, false, false, false, false, false, false]) (by rfl) (fun _ => (opv_fieldAddr (by rfl) fld57_1)) (by rfl) rfl ?_
      refine da_free hap htm (i := 10) (by rfl) (by kernel_rfl) (by rfl) (listed' := #[true, true, true, true, true, true, false, true, true, true, true, false, false, false, false, false, false, false, false, false, false, false]) (by rfl) (fun w hw => Pks.cw (by repeat (first | exact Pks.nil _ | exact Pk.here _ | apply Pk.there | apply Pks.cons)) hw) (fun _ => (opv_load (v := .slice AW D.ws.length cw) (by rfl) na54 (rd_pk (by first | exact Pk.there (Pk.here _) | (show Pk _ _ _; exact Pk.here _) | (repeat (first | exact Pk.here _ | apply Pk.there)))) (by rfl))) (by rfl) rfl ?_
      refine da_any hap htm (i := 12) (by rfl) (by kernel_rfl) (by rfl) (listed' := #[true, true, true, true, true, true, false, true, true, true, true, false, true, false, false, false, false, false, false, false, false, false]) (by rfl) (fun _ => (opv_move (by rfl))) (by rfl) rfl ?_
      refine da_any hap htm (i := 13) (by rfl) (by kernel_rfl) (by rfl) (listed' := #[true, true, true, true, true, true, false, true, true, true, true, false, true, true, false, false, false, false, false, false, false, false]) (by rfl) (fun _ => (opv_nilCheck (by rfl))) (by rfl) rfl ?_
      refine da_any hap htm (i := 14) (by rfl) (by kernel_rfl) (by rfl) (listed' := #[true, true, true, true, true, true, false, true, true, true, true, false, true, true, true, false, false, false, false, false, false, false]) (by rfl) (fun _ => (opv_fieldAddr (by rfl) fld57_2)) (by rfl) rfl ?_
      refine da_free hap htm (i := 15) (by rfl) (by kernel_rfl) (by rfl) (listed' := #[true, true, true, true, true, true, false, true, true, true, true, false, true, true, true, true, false, false, false, false, false, false]) (by rfl) (fun w hw => Pks.cw (by repeat (first | exact Pks.nil _ | exact Pk.here _ | apply Pk.there | apply Pks.cons)) hw) (fun _ => (opv_load (v := .bool false) (by rfl) na4 (rd_pk (by first | exact Pk.there (Pk.here _) | (show Pk _ _ _; exact Pk.here _) | (repeat (first | exact Pk.here _ | apply Pk.there)))) (by rfl))) (by rfl) rfl ?_
      refine da_any hap htm (i := 18) (by rfl) (by kernel_rfl) (by rfl) (listed' := #[true, true, true, true, true, true, false, true, true, true, true, false, true, true, true, true, false, false, true, false, false, false]) (by rfl) (fun _ => (opv_nilCheck (by rfl))) (by rfl) rfl ?_
      refine da_any hap htm (i := 19) (by rfl) (by kernel_rfl) (by rfl) (listed' := #[true, true, true, true, true, true, false, true, true, true, true, false, true, true, true, true, false, false, true, true, false, false]) (by rfl) (fun _ => (opv_fieldAddr (by rfl) fld50_0)) (by rfl) rfl ?_
      refine da_eff (i := 6) (by rfl) (by kernel_rfl) (by rfl) (listed' := #[true, true, true, true, true, true, true, true, true, true, true, false, true, true, true, true, false, false, true, true, false, false]) (by rfl) (eff_callF [mapI kvI mb (mpS D.kp)] (fl := []) (cl := []) (f := 31) (G := fun v Is' => ∃ nb, v = .map (some nb) ∧ Is' = [mapI kvI nb (mpS D.kp), mapI kvI mb (mpS D.kp)]) (by rfl) (by rfl) tx31 (by repeat (first | exact Pks.nil _ | exact Pk.here _ | apply Pk.there | apply Pks.cons)) (by exact fun w1 hw1 => (mclone_spec hw1).mono (fun _ _ ⟨nb, hv, hst⟩ => ⟨_, ⟨nb, hv, rfl⟩, hst⟩))) (fun _ _ h w hw => by obtain ⟨_, ⟨_, _, rfl⟩, rfl⟩ := h; exact Pks.cw (by repeat (first | exact Pks.nil _ | exact Pk.here _ | apply Pk.there | apply Pks.cons)) hw) (by rfl) rfl ?_
      rintro _ _ ⟨_, ⟨nb, rfl, rfl⟩, rfl⟩
      refine da_eff (i := 11) (by rfl) (by kernel_rfl) (by rfl) (listed' := #[true, true, true, true, true, true, true, true, true, true, true, true, true, true, true, true, false, false, true, true, false, false]) (by rfl) (eff_call0 (fl := []) (cl := []) (f := 32) (G := fun v New => New = [own v 59 2 D.ws.length (D.ws.flatMap Wr.cells)]) (by rfl) (by rfl) tx32 (by exact fun w1 hw1 => (clone_spec w1 AW D.ws.length cw D.ws (St.slr Wr.cells_len hw1 (by repeat (first | exact Pk.here _ | apply Pk.there)) rfl) hwn).mono (fun v _ hst => ⟨_, rfl, hst⟩))) (fun _ _ h w hw => by obtain ⟨_, rfl, rfl⟩ := h; exact Pks.cw (by repeat (first | exact Pks.nil _ | exact Pk.here _ | apply Pk.there | apply Pks.cons)) hw) (by rfl) rfl ?_
      rintro lv _ ⟨_, rfl, rfl⟩
      refine ja_sv (v := lv) (by repeat (first | exact Pk.here _ | apply Pk.there)) (fun hsv => ?_)
      obtain ⟨A2, c2, rfl, _⟩ := hsv
      refine da_any hap htm (i := 16) (by rfl) (by kernel_rfl) (by rfl) (listed' := #[true, true, true, true, true, true, true, true, true, true, true, true, true, true, true, true, true, false, true, true, false, false]) (by rfl) (fun _ => (opv_build (by rfl) (fun w => by exact bld57_0_1_2 ..))) (by rfl) rfl ?_
      refine da_eff (i := 17) (by rfl) (by kernel_rfl) (by rfl) (listed' := #[true, true, true, true, true, true, true, true, true, true, true, true, true, true, true, true, true, true, true, true, false, false]) (by rfl) (eff_box (by rfl) rfl) (fun _ _ h w hw => by obtain ⟨_, _, rfl⟩ := h; exact Pks.cw (by repeat (first | exact Pks.nil _ | exact Pk.here _ | apply Pk.there | apply Pks.cons)) hw) (by rfl) rfl ?_
      rintro _ _ ⟨b12, rfl, rfl⟩
      refine da_any hap htm (i := 20) (by rfl) (by kernel_rfl) (by rfl) (listed' := #[true, true, true, true, true, true, true, true, true, true, true, true, true, true, true, true, true, true, true, true, true, false]) (by rfl) (fun _ => (opv_indexAddr_arr (i := qs.length) (by rfl) (by rfl) Try.underlying48 ti47 rfl (by omega))) (by rfl) rfl ?_
      refine da_eff0 (i := 21) (by rfl) (by kernel_rfl) (by rfl) (listed' := #[true, true, true, true, true, true, true, true, true, true, true, true, true, true, true, true, true, true, true, true, true, true]) (by rfl) (eff_store (off := 0 + qs.length * 1) (vs := [.pointer (some ⟨b12, 0, none⟩)]) (by rfl) (by rfl) (by rfl) ti47 (by rfl) (by repeat (first | exact Pk.here _ | apply Pk.there)) (by unfold ptrs; simp; omega) (by rfl)) (fun _ _ h w hw => by obtain ⟨_, rfl⟩ := h; exact Pks.cw (by repeat (first | exact Pks.nil _ | exact Pk.here _ | apply Pk.there | apply Pks.cons)) hw) (by rfl) ?_
      rintro _ _ ⟨rfl, rfl⟩
      refine da_done (by kernel_rfl) ?_
      refine jk_block ?_
      refine jk_then ?_
      refine sc_region ?_
      refine so_pure (opv_add (by rfl) (by rfl) (wrap64_ok (by omega))) (by rfl) rfl ?_
      refine so_pure (opv_move (by rfl)) (by rfl) rfl ?_
      refine jo_nil ?_
      obtain ⟨m, hm⟩ : ∃ m, 12 - qs.length = m + 1 := ⟨11 - qs.length, by omega⟩
      have e2 : 12 - (qs ++ [b12]).length = m := by simp; omega
      have e3 : (qs ++ [b12]).length = qs.length + 1 := by simp
      refine jk_round (qs ++ [b12]) ⟨by rw [e3]; omega, trivial⟩ (by show 12 - (qs ++ [b12]).length < 12 - qs.length; (rw [e3]; omega)) ⟨rfl, rfl, rfl, by rw [e3]; rfl, trivial⟩ (fun w hw => ?_)
      show St _ _ (blk b9 (.cells (ptrs (qs ++ [b12]) ++ List.replicate (12 - (qs ++ [b12]).length) (Value.pointer none)).toArray 50 (0, 0)) :: grp (List.zipWith dkI (qs ++ [b12]) (ds.take (qs ++ [b12]).length)) :: blk bb (.cells (ptrs ps).toArray 50 (0, 0)) :: grp (List.zipWith dkI ps ds) :: Fr) _
      rw [e2, ← new_cells, e3, take_snoc (by rw [← hkq]; exact hD), zip_snoc (by rw [List.length_take]; omega)]
      rw [hm] at hw
      have hwA := focus_same hdb hD (St.keep (Sb := [dkI db (some D), grp ((List.zipWith dkI ps ds).eraseIdx k)]) (dk_mk (St.keep (Sb := [blk db (.cells #[.map (some mb), .slice AW D.ws.length cw, .bool false] 57 (0, 0)), mapI kvI mb (mpS D.kp), own (.slice AW D.ws.length cw) 59 2 D.ws.length (D.ws.flatMap Wr.cells)]) hw (by repeat (first | exact Pks.nil _ | exact Pk.here _ | apply Pk.there | apply Pks.cons)) (Tl.here _))) (by repeat (first | exact Pks.nil _ | exact Pk.here _ | apply Pk.there | apply Pks.cons)) (Tl.here _))
      have hwB := (St.keep (Sb := [dkI b12 (some D), grp (List.zipWith dkI qs (ds.take qs.length))]) (dk_mk (St.keep (Sb := [blk b12 (.cells #[.map (some nb), .slice A2 D.ws.length c2, .bool false] 57 (0, 0)), mapI kvI nb (mpS D.kp), own (.slice A2 D.ws.length c2) 59 2 D.ws.length (D.ws.flatMap Wr.cells)]) hwA (by repeat (first | exact Pks.nil _ | exact Pk.here _ | apply Pk.there | apply Pks.cons)) (Tl.here _))) (by repeat (first | exact Pks.nil _ | exact Pk.here _ | apply Pk.there | apply Pks.cons)) (Tl.here _))
      have hwC := grp_snoc hwB
      exact St.keep (Sb := [blk b9 (.cells (putCells ((ptrs qs ++ List.replicate (m + 1) (Value.pointer none)).toArray) (0 + qs.length * 1) [.pointer (some ⟨b12, 0, none⟩)]) 50 (0, 0)), grp (List.zipWith dkI qs (ds.take qs.length) ++ [dkI b12 (some D)]), blk bb (.cells (ptrs ps).toArray 50 (0, 0)), grp (List.zipWith dkI ps ds)]) hwC (by repeat (first | exact Pks.nil _ | exact Pk.here _ | apply Pk.there | apply Pks.cons)) (by repeat (first | exact Tl.here _ | apply Tl.there))
  · first | have p9 := of_decide_eq_true h9 | have p9 := of_decide_eq_false h9 | have p9 := ndT h9 | have p9 := ndF h9 | have p9 := nbT h9 | have p9 := nbF h9 | have p9 := h9
    refine sc_false (by rfl) h9 ?_
    refine jc_exit ?_
    refine jk_then_exit ?_
    refine jk_then_exit ?_
    refine jk_block_exit ?_
    refine jk_then ?_
    refine jc_seq ?_
    refine sc_region ?_
    refine so_pure (opv_move (by rfl)) (by rfl) rfl ?_
    refine so_pure (opv_assign (by rfl)) (by rfl) rfl ?_
    refine jo_nil ?_
    refine jk_then ?_
    refine jc_ret ?_
    refine jk_fn_ret rfl rfl (by rfl) (fun w hw => ?_)
    have el : qs.length = 12 := by omega
    refine ⟨b9, qs, el, rfl, ?_⟩
    have e1 : ptrs qs ++ List.replicate (12 - qs.length) (Value.pointer none) = ptrs qs := by rw [el]; exact List.append_nil _
    have e2 : ds.take qs.length = ds := List.take_of_length_le (by omega)
    rw [e1, e2] at hw
    exact St.keep (Sb := [blk b9 (.cells (ptrs qs).toArray 50 (0, 0)), grp (List.zipWith dkI qs ds), blk bb (.cells (ptrs ps).toArray 50 (0, 0)), grp (List.zipWith dkI ps ds)]) hw (by repeat (first | exact Pks.nil _ | exact Pk.here _ | apply Pk.there | apply Pks.cons)) (by repeat (first | exact Tl.here _ | apply Tl.there))
end Go.Disks
