/- A part of a proof for the laws of the seat Ytnjhnpfippcacaa; it has no conditions of its own. -/
import Derived.Test.YtnjhnpfippcacaaPW16
namespace Go.Pins
open Go Go.SL Go.Proofs
set_option maxHeartbeats 4000000 in
theorem refretire_spec {w0 w : World} {M : Nat → Prop} {Fr : List Itm} {bk : Nat} {lv uv : Value} {us : List Vol} (y : Vol) (hst : St w0 M (blk bk (.cells #[lv, uv] 30 (0, 0)) :: own uv 33 4 us.length (us.flatMap Vol.cells) :: Fr) w) (hn : us.length ≤ 100000) : Does Try.prog 15 #[.pointer (some ⟨bk, 0, none⟩), .agg #[.int .i64 y.id, .int .i64 y.gen, .int .i64 y.size, .slice y.lA y.ln y.lc]] w (fun v w' => if us.any (fun z => decide (z.key = y.key)) = true then v = .int .i64 13 ∧ St w0 M (blk bk (.cells #[lv, uv] 30 (0, 0)) :: own uv 33 4 us.length (us.flatMap Vol.cells) :: Fr) w' else v = .int .i64 0 ∧ ∃ uv', St w0 M (blk bk (.cells #[lv, uv'] 30 (0, 0)) :: own uv' 33 4 (us ++ [y]).length ((us ++ [y]).flatMap Vol.cells) :: Fr) w') := by
  refine fn_bodyX (fn := Try.f15) Try.func15 rfl [(0, .pointer (some ⟨bk, 0, none⟩)), (1, .agg #[.int .i64 y.id, .int .i64 y.gen, .int .i64 y.size, .slice y.lA y.ln y.lc])] (by exact ⟨rfl, rfl, trivial⟩) rfl hst ?_
  refine jc_seq ?_
  refine sc_region ?_
  refine so_eff (eff_box (by rfl) rfl) (by rfl) rfl ?_
  rintro _ _ ⟨b3, rfl, rfl⟩
  refine so_pure (opv_assign (by rfl)) (by rfl) rfl ?_
  refine jo_nil ?_
  refine jk_then ?_
  refine jc_seq ?_
  refine jc_seq ?_
  refine sc_region ?_
  refine so_pure (opv_assign (by rfl)) (by rfl) rfl ?_
  refine jo_nil ?_
  refine jk_then ?_
  refine jc_block ?_
  refine jk_sv (v := uv) (by repeat (first | exact Pk.here _ | apply Pk.there)) (fun husv => ?_)
  refine jc_loop (σ := Nat) (fun i => [(0, .pointer (some ⟨bk, 0, none⟩)), (3, .pointer (some ⟨b3, 0, none⟩)), (5, .int .i64 i)]) (fun i => (blk b3 (.cells #[.int .i64 y.id, .int .i64 y.gen, .int .i64 y.size, .slice y.lA y.ln y.lc] 33 (0, 0)) :: blk bk (.cells #[lv, uv] 30 (0, 0)) :: own uv 33 4 us.length (us.flatMap Vol.cells) :: Fr)) (fun i => (i ≤ us.length) ∧ ((us.take i).any (fun z => decide (z.key = y.key)) = false)) (fun i => us.length - i) 0 ⟨Nat.zero_le _, by simp⟩ ⟨rfl, rfl, rfl, trivial⟩ (fun w hw => hw) ?_
  rintro i ⟨hi, hno⟩
  show Jc _ _ [(0, .pointer (some ⟨bk, 0, none⟩)), (3, .pointer (some ⟨b3, 0, none⟩)), (5, .int .i64 i)] (blk b3 (.cells #[.int .i64 y.id, .int .i64 y.gen, .int .i64 y.size, .slice y.lA y.ln y.lc] 33 (0, 0)) :: blk bk (.cells #[lv, uv] 30 (0, 0)) :: own uv 33 4 us.length (us.flatMap Vol.cells) :: Fr) _
  refine jc_seq ?_
  refine jc_seq ?_
  refine sc_region ?_
  refine so_pure (opv_move (by rfl)) (by rfl) rfl ?_
  refine so_pure (opv_move (by rfl)) (by rfl) rfl ?_
  refine so_pure (opv_nilCheck (by rfl)) (by rfl) rfl ?_
  refine so_pure (opv_fieldAddr (by rfl) fld30_1) (by rfl) rfl ?_
  refine so_pure (opv_load (by rfl) na28 (rd_pk (by repeat (first | exact Pk.here _ | apply Pk.there))) (by rfl)) (by rfl) rfl ?_
  refine so_pure (opv_len_own (v := uv) (by rfl) Try.underlying28 (by repeat (first | exact Pk.here _ | apply Pk.there))) (by rfl) rfl ?_
  refine so_pure (opv_cmp (by rfl) (by rfl) (by rfl)) (by rfl) rfl ?_
  refine jo_nil ?_
  refine jk_then ?_
  refine sk_split (x := 12) (by rfl) (fun h11 => ?_) (fun h11 => ?_)
  · first | have p11 := of_decide_eq_true h11 | have p11 := of_decide_eq_false h11 | have p11 := ndT h11 | have p11 := ndF h11 | have p11 := nbT h11 | have p11 := nbF h11 | have p11 := h11
    refine sc_true (by rfl) h11 ?_
    refine jc_skip ?_
    refine jk_then ?_
    refine jc_seq ?_
    refine jc_block ?_
    refine jc_seq ?_
    have hlt : i < us.length := by omega
    obtain ⟨x, hx⟩ : ∃ x, us[i]? = some x := ⟨us[i], List.getElem?_eq_getElem hlt⟩
    refine so_draw [] (by kernel_rfl) (by kernel_rfl) (by kernel_rfl) rfl (by rfl) (fun hap htm => ?_)
    refine da_any hap htm (i := 0) (by rfl) (by kernel_rfl) (by rfl) (listed' := #[true, false, false, false, false, false, false, false, false, false, false, false, false, false, false, false, false, false, false, false, false, false, false, false]) (by rfl) (fun _ => (opv_move (by rfl))) (by rfl) rfl ?_
    refine da_any hap htm (i := 1) (by rfl) (by kernel_rfl) (by rfl) (listed' := #[true, true, false, false, false, false, false, false, false, false, false, false, false, false, false, false, false, false, false, false, false, false, false, false]) (by rfl) (fun _ => (opv_nilCheck (by rfl))) (by rfl) rfl ?_
    refine da_any hap htm (i := 2) (by rfl) (by kernel_rfl) (by rfl) (listed' := #[true, true, true, false, false, false, false, false, false, false, false, false, false, false, false, false, false, false, false, false, false, false, false, false]) (by rfl) (fun _ => (opv_fieldAddr (by rfl) fld30_1)) (by rfl) rfl ?_
    refine da_now [5, 6, 7, 10, 11, 12, 13, 14, 15, 16, 17, 18, 19, 20, 21, 22, 23] hap htm (i := 3) (by rfl) (by kernel_rfl) (by rfl) (listed' := #[true, true, true, true, false, false, false, false, false, false, false, false, false, false, false, false, false, false, false, false, false, false, false, false]) (by rfl) (by kernel_rfl) (by kernel_rfl) (opv_load (by rfl) na28 (rd_pk (by repeat (first | exact Pk.here _ | apply Pk.there))) (by rfl)) (by rfl) rfl ?_
    refine da_any hap htm (i := 4) (by rfl) (by kernel_rfl) (by rfl) (listed' := #[true, true, true, true, true, false, false, false, false, false, false, false, false, false, false, false, false, false, false, false, false, false, false, false]) (by rfl) (fun _ => (opv_move (by rfl))) (by rfl) rfl ?_
    refine da_any hap htm (i := 5) (by rfl) (by kernel_rfl) (by rfl) (listed' := #[true, true, true, true, true, true, false, false, false, false, false, false, false, false, false, false, false, false, false, false, false, false, false, false]) (by rfl) (fun _ => (opv_indexAddr_sv (i := i) (v := uv) (n := us.length) (by rfl) husv (by rfl) Try.underlying28 ti33 rfl hlt)) (by rfl) rfl ?_
    refine da_any hap htm (i := 6) (by rfl) (by kernel_rfl) (by rfl) (listed' := #[true, true, true, true, true, true, true, false, false, false, false, false, false, false, false, false, false, false, false, false, false, false, false, false]) (by rfl) (fun _ => (opv_fieldAddr (by rfl) fld33_0)) (by rfl) rfl ?_
    refine da_now [10, 11, 12, 13, 14, 15, 16, 17, 18, 19, 20, 21, 22, 23] hap htm (i := 7) (by rfl) (by kernel_rfl) (by rfl) (listed' := #[true, true, true, true, true, true, true, true, false, false, false, false, false, false, false, false, false, false, false, false, false, false, false, false]) (by rfl) (by kernel_rfl) (by kernel_rfl) (opv_load_fld (enc := Vol.cells) (u := x) (fo := 0) (w := .int .i64 x.id) Vol.cells_len (by rfl) na3 (by repeat (first | exact Pk.here _ | apply Pk.there)) hx rfl) (by rfl) rfl ?_
    refine da_any hap htm (i := 8) (by rfl) (by kernel_rfl) (by rfl) (listed' := #[true, true, true, true, true, true, true, true, true, false, false, false, false, false, false, false, false, false, false, false, false, false, false, false]) (by rfl) (fun _ => (opv_fieldAddr (by rfl) fld33_0)) (by rfl) rfl ?_
    refine da_now [10, 11, 12, 13, 14, 15, 16, 17, 18, 19, 20, 21, 22, 23] hap htm (i := 9) (by rfl) (by kernel_rfl) (by rfl) (listed' := #[true, true, true, true, true, true, true, true, true, true, false, false, false, false, false, false, false, false, false, false, false, false, false, false]) (by rfl) (by kernel_rfl) (by kernel_rfl) (opv_load (by rfl) na3 (rd_pk (by repeat (first | exact Pk.here _ | apply Pk.there))) (by rfl)) (by rfl) rfl ?_
    refine da_any hap htm (i := 10) (by rfl) (by kernel_rfl) (by rfl) (listed' := #[true, true, true, true, true, true, true, true, true, true, true, false, false, false, false, false, false, false, false, false, false, false, false, false]) (by rfl) (fun _ => (opv_cmp (by rfl) (by rfl) (by rfl))) (by rfl) rfl ?_
    refine da_any hap htm (i := 11) (by rfl) (by kernel_rfl) (by rfl) (listed' := #[true, true, true, true, true, true, true, true, true, true, true, true, false, false, false, false, false, false, false, false, false, false, false, false]) (by rfl) (fun _ => (opv_move (by rfl))) (by rfl) rfl ?_
    refine sk_split (x := 26) (by rfl) (fun h21 => ?_) (fun h21 => ?_)
    · first | have p21 := of_decide_eq_true h21 | have p21 := of_decide_eq_false h21 | have p21 := ndT h21 | have p21 := ndF h21 | have p21 := nbT h21 | have p21 := nbF h21 | have p21 := h21
      refine da_any hap htm (i := 12) (by rfl) (by kernel_rfl) (by rfl) (listed' := #[true, true, true, true, true, true, true, true, true, true, true, true, true, false, false, false, false, false, false, false, false, false, false, false]) (by rfl) (fun _ => (opv_move (by rfl))) (wtd_run rfl rfl (by rfl) h21) rfl ?_
      refine da_any hap htm (i := 13) (by rfl) (by kernel_rfl) (by rfl) (listed' := #[true, true, true, true, true, true, true, true, true, true, true, true, true, true, false, false, false, false, false, false, false, false, false, false]) (by rfl) (fun _ => (opv_nilCheck (by rfl))) (wtd_run rfl rfl (by rfl) h21) rfl ?_
      refine da_any hap htm (i := 14) (by rfl) (by kernel_rfl) (by rfl) (listed' := #[true, true, true, true, true, true, true, true, true, true, true, true, true, true, true, false, false, false, false, false, false, false, false, false]) (by rfl) (fun _ => (opv_fieldAddr (by rfl) fld30_1)) (wtd_run rfl rfl (by rfl) h21) rfl ?_
      refine da_now [17, 18, 19, 22, 23] hap htm (i := 15) (by rfl) (by kernel_rfl) (by rfl) (listed' := #[true, true, true, true, true, true, true, true, true, true, true, true, true, true, true, true, false, false, false, false, false, false, false, false]) (by rfl) (by kernel_rfl) (by kernel_rfl) (opv_load (by rfl) na28 (rd_pk (by repeat (first | exact Pk.here _ | apply Pk.there))) (by rfl)) (wtd_run rfl rfl (by rfl) h21) rfl ?_
      refine da_any hap htm (i := 16) (by rfl) (by kernel_rfl) (by rfl) (listed' := #[true, true, true, true, true, true, true, true, true, true, true, true, true, true, true, true, true, false, false, false, false, false, false, false]) (by rfl) (fun _ => (opv_move (by rfl))) (wtd_run rfl rfl (by rfl) h21) rfl ?_
      refine da_any hap htm (i := 17) (by rfl) (by kernel_rfl) (by rfl) (listed' := #[true, true, true, true, true, true, true, true, true, true, true, true, true, true, true, true, true, true, false, false, false, false, false, false]) (by rfl) (fun _ => (opv_indexAddr_sv (i := i) (v := uv) (n := us.length) (by rfl) husv (by rfl) Try.underlying28 ti33 rfl hlt)) (wtd_run rfl rfl (by rfl) h21) rfl ?_
      refine da_any hap htm (i := 18) (by rfl) (by kernel_rfl) (by rfl) (listed' := #[true, true, true, true, true, true, true, true, true, true, true, true, true, true, true, true, true, true, true, false, false, false, false, false]) (by rfl) (fun _ => (opv_fieldAddr (by rfl) fld33_1)) (wtd_run rfl rfl (by rfl) h21) rfl ?_
      refine da_now [22, 23] hap htm (i := 19) (by rfl) (by kernel_rfl) (by rfl) (listed' := #[true, true, true, true, true, true, true, true, true, true, true, true, true, true, true, true, true, true, true, true, false, false, false, false]) (by rfl) (by kernel_rfl) (by kernel_rfl) (opv_load_fld (enc := Vol.cells) (u := x) (fo := 1) (w := .int .i64 x.gen) Vol.cells_len (by rfl) na3 (by repeat (first | exact Pk.here _ | apply Pk.there)) hx rfl) (wtd_run rfl rfl (by rfl) h21) rfl ?_
      refine da_any hap htm (i := 20) (by rfl) (by kernel_rfl) (by rfl) (listed' := #[true, true, true, true, true, true, true, true, true, true, true, true, true, true, true, true, true, true, true, true, true, false, false, false]) (by rfl) (fun _ => (opv_fieldAddr (by rfl) fld33_1)) (wtd_run rfl rfl (by rfl) h21) rfl ?_
      refine da_now [22, 23] hap htm (i := 21) (by rfl) (by kernel_rfl) (by rfl) (listed' := #[true, true, true, true, true, true, true, true, true, true, true, true, true, true, true, true, true, true, true, true, true, true, false, false]) (by rfl) (by kernel_rfl) (by kernel_rfl) (opv_load (by rfl) na3 (rd_pk (by repeat (first | exact Pk.here _ | apply Pk.there))) (by rfl)) (wtd_run rfl rfl (by rfl) h21) rfl ?_
      refine da_any hap htm (i := 22) (by rfl) (by kernel_rfl) (by rfl) (listed' := #[true, true, true, true, true, true, true, true, true, true, true, true, true, true, true, true, true, true, true, true, true, true, true, false]) (by rfl) (fun _ => (opv_cmp (by rfl) (by rfl) (by rfl))) (wtd_run rfl rfl (by rfl) h21) rfl ?_
      refine da_any hap htm (i := 23) (by rfl) (by kernel_rfl) (by rfl) (listed' := #[true, true, true, true, true, true, true, true, true, true, true, true, true, true, true, true, true, true, true, true, true, true, true, true]) (by rfl) (fun _ => (sv_pick_t (by rfl) h21 (by rfl))) (by rfl) rfl ?_
      refine da_done (by kernel_rfl) ?_
      refine jk_then ?_
      refine sk_split (x := 38) (by rfl) (fun h31 => ?_) (fun h31 => ?_)
      · first | have p31 := of_decide_eq_true h31 | have p31 := of_decide_eq_false h31 | have p31 := ndT h31 | have p31 := ndF h31 | have p31 := nbT h31 | have p31 := nbF h31 | have p31 := h31
        refine sc_true (by rfl) h31 ?_
        refine jc_seq ?_
        refine sc_region ?_
        refine so_pure (opv_assign (by rfl)) (by rfl) rfl ?_
        refine jo_nil ?_
        refine jk_then ?_
        refine jc_ret ?_
        refine jk_block_ret ?_
        refine jk_then_ret ?_
        refine jk_then_ret ?_
        refine jk_block_ret ?_
        refine jk_then_ret ?_
        refine jk_fn_ret rfl rfl (by rfl) (fun w hw => ?_)
        have hp : x.key = y.key := Prod.ext p21 p31
        have hany : us.any (fun z => decide (z.key = y.key)) = true := List.any_eq_true.2 ⟨x, List.mem_of_getElem? hx, by simp [hp]⟩
        rw [if_pos hany]
        exact ⟨rfl, hw.drop⟩
      · first | have p31 := of_decide_eq_true h31 | have p31 := of_decide_eq_false h31 | have p31 := ndT h31 | have p31 := ndF h31 | have p31 := nbT h31 | have p31 := nbF h31 | have p31 := h31
        refine sc_false (by rfl) h31 ?_
        refine jc_skip ?_
        refine jk_block ?_
        refine jk_then ?_
        refine sc_region ?_
        refine so_pure (opv_move (by rfl)) (by rfl) rfl ?_
        refine so_pure (opv_add (by rfl) (by rfl) (wrap64_ok (by omega))) (by rfl) rfl ?_
        refine so_pure (opv_assign (by rfl)) (by rfl) rfl ?_
        refine jo_nil ?_
        have hp : ¬ x.key = y.key := fun h => p31 (congrArg Prod.snd h)
        refine jk_round (i + 1) ⟨by omega, by rw [take_snoc hx, List.any_append, hno]; simp [hp]⟩ (by show us.length - (i + 1) < us.length - i; omega) ⟨rfl, rfl, rfl, trivial⟩ (fun w hw => ?_)
        show St _ _ (blk b3 (.cells #[.int .i64 y.id, .int .i64 y.gen, .int .i64 y.size, .slice y.lA y.ln y.lc] 33 (0, 0)) :: blk bk (.cells #[lv, uv] 30 (0, 0)) :: own uv 33 4 us.length (us.flatMap Vol.cells) :: Fr) _
        exact St.keep (Sb := [blk b3 (.cells #[.int .i64 y.id, .int .i64 y.gen, .int .i64 y.size, .slice y.lA y.ln y.lc] 33 (0, 0)), blk bk (.cells #[lv, uv] 30 (0, 0)), own uv 33 4 us.length (us.flatMap Vol.cells)]) hw (by repeat (first | exact Pks.nil _ | exact Pk.here _ | apply Pk.there | apply Pks.cons)) (by repeat (first | exact Tl.here _ | apply Tl.there))
    · first | have p21 := of_decide_eq_true h21 | have p21 := of_decide_eq_false h21 | have p21 := ndT h21 | have p21 := ndF h21 | have p21 := nbT h21 | have p21 := nbF h21 | have p21 := h21
      refine da_skip hap htm (i := 12) (by rfl) (by kernel_rfl) (listed' := #[true, true, true, true, true, true, true, true, true, true, true, true, true, false, false, false, false, false, false, false, false, false, false, false]) (by rfl) (wtd_not rfl rfl (by rfl) h21) rfl ?_
      refine da_skip hap htm (i := 13) (by rfl) (by kernel_rfl) (listed' := #[true, true, true, true, true, true, true, true, true, true, true, true, true, true, false, false, false, false, false, false, false, false, false, false]) (by rfl) (wtd_not rfl rfl (by rfl) h21) rfl ?_
      refine da_skip hap htm (i := 14) (by rfl) (by kernel_rfl) (listed' := #[true, true, true, true, true, true, true, true, true, true, true, true, true, true, true, false, false, false, false, false, false, false, false, false]) (by rfl) (wtd_not rfl rfl (by rfl) h21) rfl ?_
      refine da_skip hap htm (i := 15) (by rfl) (by kernel_rfl) (listed' := #[true, true, true, true, true, true, true, true, true, true, true, true, true, true, true, true, false, false, false, false, false, false, false, false]) (by rfl) (wtd_not rfl rfl (by rfl) h21) rfl ?_
      refine da_skip hap htm (i := 16) (by rfl) (by kernel_rfl) (listed' := #[true, true, true, true, true, true, true, true, true, true, true, true, true, true, true, true, true, false, false, false, false, false, false, false]) (by rfl) (wtd_not rfl rfl (by rfl) h21) rfl ?_
      refine da_skip hap htm (i := 17) (by rfl) (by kernel_rfl) (listed' := #[true, true, true, true, true, true, true, true, true, true, true, true, true, true, true, true, true, true, false, false, false, false, false, false]) (by rfl) (wtd_not rfl rfl (by rfl) h21) rfl ?_
      refine da_skip hap htm (i := 18) (by rfl) (by kernel_rfl) (listed' := #[true, true, true, true, true, true, true, true, true, true, true, true, true, true, true, true, true, true, true, false, false, false, false, false]) (by rfl) (wtd_not rfl rfl (by rfl) h21) rfl ?_
      refine da_skip hap htm (i := 19) (by rfl) (by kernel_rfl) (listed' := #[true, true, true, true, true, true, true, true, true, true, true, true, true, true, true, true, true, true, true, true, false, false, false, false]) (by rfl) (wtd_not rfl rfl (by rfl) h21) rfl ?_
      refine da_skip hap htm (i := 20) (by rfl) (by kernel_rfl) (listed' := #[true, true, true, true, true, true, true, true, true, true, true, true, true, true, true, true, true, true, true, true, true, false, false, false]) (by rfl) (wtd_not rfl rfl (by rfl) h21) rfl ?_
      refine da_skip hap htm (i := 21) (by rfl) (by kernel_rfl) (listed' := #[true, true, true, true, true, true, true, true, true, true, true, true, true, true, true, true, true, true, true, true, true, true, false, false]) (by rfl) (wtd_not rfl rfl (by rfl) h21) rfl ?_
      refine da_skip hap htm (i := 22) (by rfl) (by kernel_rfl) (listed' := #[true, true, true, true, true, true, true, true, true, true, true, true, true, true, true, true, true, true, true, true, true, true, true, false]) (by rfl) (wtd_not rfl rfl (by rfl) h21) rfl ?_
      refine da_any hap htm (i := 23) (by rfl) (by kernel_rfl) (by rfl) (listed' := #[true, true, true, true, true, true, true, true, true, true, true, true, true, true, true, true, true, true, true, true, true, true, true, true]) (by rfl) (fun _ => (sv_pick_f (by rfl) h21 (by rfl))) (by rfl) rfl ?_
      refine da_done (by kernel_rfl) ?_
      refine jk_then ?_
      refine sc_false (by rfl) rfl ?_
      refine jc_skip ?_
      refine jk_block ?_
      refine jk_then ?_
      refine sc_region ?_
      refine so_pure (opv_move (by rfl)) (by rfl) rfl ?_
      refine so_pure (opv_add (by rfl) (by rfl) (wrap64_ok (by omega))) (by rfl) rfl ?_
      refine so_pure (opv_assign (by rfl)) (by rfl) rfl ?_
      refine jo_nil ?_
      have hp : ¬ x.key = y.key := fun h => p21 (congrArg Prod.fst h)
      refine jk_round (i + 1) ⟨by omega, by rw [take_snoc hx, List.any_append, hno]; simp [hp]⟩ (by show us.length - (i + 1) < us.length - i; omega) ⟨rfl, rfl, rfl, trivial⟩ (fun w hw => ?_)
      show St _ _ (blk b3 (.cells #[.int .i64 y.id, .int .i64 y.gen, .int .i64 y.size, .slice y.lA y.ln y.lc] 33 (0, 0)) :: blk bk (.cells #[lv, uv] 30 (0, 0)) :: own uv 33 4 us.length (us.flatMap Vol.cells) :: Fr) _
      exact St.keep (Sb := [blk b3 (.cells #[.int .i64 y.id, .int .i64 y.gen, .int .i64 y.size, .slice y.lA y.ln y.lc] 33 (0, 0)), blk bk (.cells #[lv, uv] 30 (0, 0)), own uv 33 4 us.length (us.flatMap Vol.cells)]) hw (by repeat (first | exact Pks.nil _ | exact Pk.here _ | apply Pk.there | apply Pks.cons)) (by repeat (first | exact Tl.here _ | apply Tl.there))
  · first | have p11 := of_decide_eq_true h11 | have p11 := of_decide_eq_false h11 | have p11 := ndT h11 | have p11 := ndF h11 | have p11 := nbT h11 | have p11 := nbF h11 | have p11 := h11
    refine sc_false (by rfl) h11 ?_
    refine jc_exit ?_
    refine jk_then_exit ?_
    refine jk_then_exit ?_
    refine jk_block_exit ?_
    refine jk_then ?_
    refine jc_seq ?_
    refine so_draw [] (by kernel_rfl) (by kernel_rfl) (by kernel_rfl) rfl (by rfl) (fun hap htm => ?_)
    refine da_any hap htm (i := 0) (by rfl) (by kernel_rfl) (by rfl) (listed' := #[true, false, false, false, false, false, false, false, false, false, false]) (by rfl) (fun _ => (opv_move (by rfl))) (by rfl) rfl ?_
    refine da_any hap htm (i := 1) (by rfl) (by kernel_rfl) (by rfl) (listed' := #[true, true, false, false, false, false, false, false, false, false, false]) (by rfl) (fun _ => (opv_move (by rfl))) (by rfl) rfl ?_
    refine da_any hap htm (i := 2) (by rfl) (by kernel_rfl) (by rfl) (listed' := #[true, true, true, false, false, false, false, false, false, false, false]) (by rfl) (fun _ => (opv_nilCheck (by rfl))) (by rfl) rfl ?_
    refine da_any hap htm (i := 3) (by rfl) (by kernel_rfl) (by rfl) (listed' := #[true, true, true, true, false, false, false, false, false, false, false]) (by rfl) (fun _ => (opv_fieldAddr (by rfl) fld30_1)) (by rfl) rfl ?_
    refine da_now [6, 7, 8, 9, 10] hap htm (i := 5) (by rfl) (by kernel_rfl) (by rfl) (listed' := #[true, true, true, true, false, true, false, false, false, false, false]) (by rfl) (by kernel_rfl) (by kernel_rfl) (opv_load_agg (vs := y.cells) (by rfl) ag33 ti33 (rd_pk (by repeat (first | exact Pk.here _ | apply Pk.there))) (by exact ⟨rfl, rfl, rfl, rfl, trivial⟩) rfl) (by rfl) rfl ?_
    refine ja_two (i := 4) (j := 6) (by kernel_rfl) ?_ ?_
    · refine js_pure htm (i := 4) (by rfl) (by rfl) (listed' := #[true, true, true, true, true, true, false, false, false, false, false]) (by rfl) (opv_load (by rfl) na28 (rd_pk (by repeat (first | exact Pk.here _ | apply Pk.there))) (by rfl)) (by rfl) rfl ?_
      refine da_eff (i := 6) (by rfl) (by kernel_rfl) (by rfl) (listed' := #[true, true, true, true, true, true, true, false, false, false, false]) (by rfl) (eff_buildSlice (by rfl) (fun w => by exact bsl28_1_0 ..)) (fun _ _ _ _ hw => cw_nil hw) (by rfl) rfl ?_
      rintro _ _ ⟨b45, rfl, rfl⟩
      refine da_eff (i := 7) (by rfl) (by kernel_rfl) (by rfl) (listed' := #[true, true, true, true, true, true, true, true, false, false, false]) (by rfl) (eff_append_lit (by rfl) (by rfl) Try.underlying28 ti33 (by rfl) (by omega) (by repeat (first | exact Pk.here _ | apply Pk.there)) (rd_pk (by repeat (first | exact Pk.here _ | apply Pk.there))) (by rfl) (by rfl) (by unfold maxLen; omega) (by omega)) (fun _ _ _ _ hw => cw_nil hw) (by rfl) rfl ?_
      rintro wv2 _ ⟨rfl, _⟩
      refine ja_sv (by repeat (first | exact Pk.here _ | apply Pk.there)) (fun hsv2 => ?_)
      obtain ⟨A2, c2, rfl, _⟩ := hsv2
      refine da_any hap htm (i := 8) (by rfl) (by kernel_rfl) (by rfl) (listed' := #[true, true, true, true, true, true, true, true, true, false, false]) (by rfl) (fun _ => (opv_nilCheck (by rfl))) (by rfl) rfl ?_
      refine da_any hap htm (i := 9) (by rfl) (by kernel_rfl) (by rfl) (listed' := #[true, true, true, true, true, true, true, true, true, true, false]) (by rfl) (fun _ => (opv_fieldAddr (by rfl) fld30_1)) (by rfl) rfl ?_
      refine da_eff0 (i := 10) (by rfl) (by kernel_rfl) (by rfl) (listed' := #[true, true, true, true, true, true, true, true, true, true, true]) (by rfl) (eff_store (vs := [.slice A2 (us.length + 1) c2]) (by rfl) (by rfl) (by rfl) ti28 (by rfl) (by repeat (first | exact Pk.here _ | apply Pk.there)) (by exact Nat.le_of_ble_eq_true rfl) (by rfl)) (fun _ _ _ _ hw => cw_nil hw) (by rfl) ?_
      rintro _ _ ⟨rfl, rfl⟩
      refine da_done (by kernel_rfl) ?_
      refine jk_then ?_
      refine jc_seq ?_
      refine sc_region ?_
      refine so_pure (opv_assign (by rfl)) (by rfl) rfl ?_
      refine jo_nil ?_
      refine jk_then ?_
      refine jc_ret ?_
      refine jk_fn_ret rfl rfl (by rfl) (fun w hw => ?_)
      have ei : i = us.length := by omega
      rw [ei, List.take_length] at hno
      rw [if_neg (by rw [hno]; simp)]
      refine ⟨rfl, .slice A2 (us.length + 1) c2, ?_⟩
      rw [show own (.slice A2 (us.length + 1) c2) 33 4 (us ++ [y]).length ((us ++ [y]).flatMap Vol.cells) = own (.slice A2 (us.length + 1) c2) 33 4 (us.length + 1) (us.flatMap Vol.cells ++ y.cells) by rw [List.length_append, List.flatMap_append]; simp]
      exact St.keep (Sb := [blk bk (.cells #[lv, .slice A2 (us.length + 1) c2] 30 (0, 0)), own (.slice A2 (us.length + 1) c2) 33 4 (us.length + 1) (us.flatMap Vol.cells ++ y.cells)]) hw (by repeat (first | exact Pks.nil _ | exact Pk.here _ | apply Pk.there | apply Pks.cons)) (by repeat (first | exact Tl.here _ | apply Tl.there))
    · refine js_eff (i := 6) (by rfl) (by rfl) (listed' := #[true, true, true, true, false, true, true, false, false, false, false]) (by rfl) (eff_buildSlice (by rfl) (fun w => by exact bsl28_1_0 ..)) (fun _ _ _ _ hw => cw_nil hw) (by rfl) rfl ?_
      rintro _ _ ⟨b45, rfl, rfl⟩
      refine da_now [7, 8, 9, 10] hap htm (i := 4) (by rfl) (by kernel_rfl) (by rfl) (listed' := #[true, true, true, true, true, true, true, false, false, false, false]) (by rfl) (by kernel_rfl) (by kernel_rfl) (opv_load (by rfl) na28 (rd_pk (by repeat (first | exact Pk.here _ | apply Pk.there))) (by rfl)) (by rfl) rfl ?_
      refine da_eff (i := 7) (by rfl) (by kernel_rfl) (by rfl) (listed' := #[true, true, true, true, true, true, true, true, false, false, false]) (by rfl) (eff_append_lit (by rfl) (by rfl) Try.underlying28 ti33 (by rfl) (by omega) (by repeat (first | exact Pk.here _ | apply Pk.there)) (rd_pk (by repeat (first | exact Pk.here _ | apply Pk.there))) (by rfl) (by rfl) (by unfold maxLen; omega) (by omega)) (fun _ _ _ _ hw => cw_nil hw) (by rfl) rfl ?_
      rintro wv2 _ ⟨rfl, _⟩
      refine ja_sv (by repeat (first | exact Pk.here _ | apply Pk.there)) (fun hsv2 => ?_)
      obtain ⟨A2, c2, rfl, _⟩ := hsv2
      refine da_any hap htm (i := 8) (by rfl) (by kernel_rfl) (by rfl) (listed' := #[true, true, true, true, true, true, true, true, true, false, false]) (by rfl) (fun _ => (opv_nilCheck (by rfl))) (by rfl) rfl ?_
      refine da_any hap htm (i := 9) (by rfl) (by kernel_rfl) (by rfl) (listed' := #[true, true, true, true, true, true, true, true, true, true, false]) (by rfl) (fun _ => (opv_fieldAddr (by rfl) fld30_1)) (by rfl) rfl ?_
      refine da_eff0 (i := 10) (by rfl) (by kernel_rfl) (by rfl) (listed' := #[true, true, true, true, true, true, true, true, true, true, true]) (by rfl) (eff_store (vs := [.slice A2 (us.length + 1) c2]) (by rfl) (by rfl) (by rfl) ti28 (by rfl) (by repeat (first | exact Pk.here _ | apply Pk.there)) (by exact Nat.le_of_ble_eq_true rfl) (by rfl)) (fun _ _ _ _ hw => cw_nil hw) (by rfl) ?_
      rintro _ _ ⟨rfl, rfl⟩
      refine da_done (by kernel_rfl) ?_
      refine jk_then ?_
      refine jc_seq ?_
      refine sc_region ?_
      refine so_pure (opv_assign (by rfl)) (by rfl) rfl ?_
      refine jo_nil ?_
      refine jk_then ?_
      refine jc_ret ?_
      refine jk_fn_ret rfl rfl (by rfl) (fun w hw => ?_)
      have ei : i = us.length := by omega
      rw [ei, List.take_length] at hno
      rw [if_neg (by rw [hno]; simp)]
      refine ⟨rfl, .slice A2 (us.length + 1) c2, ?_⟩
      rw [show own (.slice A2 (us.length + 1) c2) 33 4 (us ++ [y]).length ((us ++ [y]).flatMap Vol.cells) = own (.slice A2 (us.length + 1) c2) 33 4 (us.length + 1) (us.flatMap Vol.cells ++ y.cells) by rw [List.length_append, List.flatMap_append]; simp]
      exact St.keep (Sb := [blk bk (.cells #[lv, .slice A2 (us.length + 1) c2] 30 (0, 0)), own (.slice A2 (us.length + 1) c2) 33 4 (us.length + 1) (us.flatMap Vol.cells ++ y.cells)]) hw (by repeat (first | exact Pks.nil _ | exact Pk.here _ | apply Pk.there | apply Pks.cons)) (by repeat (first | exact Tl.here _ | apply Tl.there))
set_option maxHeartbeats 4000000 in
theorem refreap_spec {w0 w : World} {M : Nat → Prop} {Fr : List Itm} {bk : Nat} {lv uv : Value} {ps : List (Int × Int)} {us : List Vol} (hst : St w0 M (blk bk (.cells #[lv, uv] 30 (0, 0)) :: own lv 52 2 ps.length (ps.flatMap kc) :: own uv 33 4 us.length (us.flatMap Vol.cells) :: Fr) w) (hn : us.length ≤ 100000) (hm : ps.length ≤ 100000) : Does Try.prog 18 #[.pointer (some ⟨bk, 0, none⟩)] w (fun v w' => ∃ uv', St w0 M (blk bk (.cells #[lv, uv'] 30 (0, 0)) :: own lv 52 2 ps.length (ps.flatMap kc) :: own uv' 33 4 (us.filter (fun z => !noK ps z)).length ((us.filter (fun z => !noK ps z)).flatMap Vol.cells) :: own v 33 4 (us.filter (noK ps)).length ((us.filter (noK ps)).flatMap Vol.cells) :: Fr) w') := by
  refine fn_bodyX (fn := Try.f18) Try.func18 rfl [(0, .pointer (some ⟨bk, 0, none⟩))] (by exact ⟨rfl, trivial⟩) rfl hst ?_
  refine jc_seq ?_
  refine sc_region ?_
  refine so_pure (opv_assign (by rfl)) (by rfl) rfl ?_
  refine jo_nil ?_
  refine jk_then ?_
  refine jc_seq ?_
  refine sc_region ?_
  refine so_pure (opv_assign (by rfl)) (by rfl) rfl ?_
  refine jo_nil ?_
  refine jk_then ?_
  refine jc_seq ?_
  refine sc_region ?_
  refine so_pure (opv_assign (by rfl)) (by rfl) rfl ?_
  refine jo_nil ?_
  refine jk_then ?_
  refine jc_seq ?_
  refine jc_seq ?_
  refine sc_region ?_
  refine so_pure (opv_assign (by rfl)) (by rfl) rfl ?_
  refine jo_nil ?_
  refine jk_then ?_
  refine jc_block ?_
  refine jc_loop (σ := Nat × Value × Value) (fun (i, ov, fv) => [(0, .pointer (some ⟨bk, 0, none⟩)), (3, ov), (4, fv), (5, .int .i64 i)]) (fun (i, ov, fv) => (own ov 33 4 ((us.take i).filter (noK ps)).length (((us.take i).filter (noK ps)).flatMap Vol.cells) :: own fv 33 4 ((us.take i).filter (fun z => !noK ps z)).length (((us.take i).filter (fun z => !noK ps z)).flatMap Vol.cells) :: blk bk (.cells #[lv, uv] 30 (0, 0)) :: own lv 52 2 ps.length (ps.flatMap kc) :: own uv 33 4 us.length (us.flatMap Vol.cells) :: Fr)) (fun (i, ov, fv) => (i ≤ us.length) ∧ (True)) (fun (i, ov, fv) => us.length - i) (0, .slice none 0 0, .slice none 0 0) ⟨Nat.zero_le _, trivial⟩ ⟨rfl, rfl, rfl, rfl, trivial⟩ (fun w hw => (hw.own_nil 33 4).own_nil 33 4) ?_
  rintro ⟨i, ov, fv⟩ ⟨hi, ht⟩
  show Jc _ _ [(0, .pointer (some ⟨bk, 0, none⟩)), (3, ov), (4, fv), (5, .int .i64 i)] (own ov 33 4 ((us.take i).filter (noK ps)).length (((us.take i).filter (noK ps)).flatMap Vol.cells) :: own fv 33 4 ((us.take i).filter (fun z => !noK ps z)).length (((us.take i).filter (fun z => !noK ps z)).flatMap Vol.cells) :: blk bk (.cells #[lv, uv] 30 (0, 0)) :: own lv 52 2 ps.length (ps.flatMap kc) :: own uv 33 4 us.length (us.flatMap Vol.cells) :: Fr) _
  refine jc_seq ?_
  refine jc_seq ?_
  refine sc_region ?_
  refine so_pure (opv_move (by rfl)) (by rfl) rfl ?_
  refine so_pure (opv_move (by rfl)) (by rfl) rfl ?_
  refine so_pure (opv_nilCheck (by rfl)) (by rfl) rfl ?_
  refine so_pure (opv_fieldAddr (by rfl) fld30_1) (by rfl) rfl ?_
  refine so_pure (opv_load (by rfl) na28 (rd_pk (by repeat (first | exact Pk.here _ | apply Pk.there))) (by rfl)) (by rfl) rfl ?_
  refine so_pure (opv_len_own (v := uv) (by rfl) Try.underlying28 (by repeat (first | exact Pk.here _ | apply Pk.there))) (by rfl) rfl ?_
  refine so_pure (opv_cmp (by rfl) (by rfl) (by rfl)) (by rfl) rfl ?_
  refine jo_nil ?_
  refine jk_then ?_
  refine sk_split (x := 12) (by rfl) (fun h11 => ?_) (fun h11 => ?_)
  · first | have p11 := of_decide_eq_true h11 | have p11 := of_decide_eq_false h11 | have p11 := ndT h11 | have p11 := ndF h11 | have p11 := nbT h11 | have p11 := nbF h11 | have p11 := h11
    refine sc_true (by rfl) h11 ?_
    refine jc_skip ?_
    refine jk_then ?_
    refine jc_seq ?_
    refine jc_block ?_
    refine jc_seq ?_
    have hlt : i < us.length := by omega
    obtain ⟨x, hx⟩ : ∃ x, us[i]? = some x := ⟨us[i], List.getElem?_eq_getElem hlt⟩
    refine jk_sv (v := uv) (by repeat (first | exact Pk.here _ | apply Pk.there)) (fun husv => ?_)
    refine so_draw [] (by kernel_rfl) (by kernel_rfl) (by kernel_rfl) rfl (by rfl) (fun hap htm => ?_)
    refine da_any hap htm (i := 0) (by rfl) (by kernel_rfl) (by rfl) (listed' := #[true, false, false, false, false, false, false, false, false, false, false, false, false, false, false, false, false, false, false]) (by rfl) (fun _ => (opv_move (by rfl))) (by rfl) rfl ?_
    refine da_any hap htm (i := 1) (by rfl) (by kernel_rfl) (by rfl) (listed' := #[true, true, false, false, false, false, false, false, false, false, false, false, false, false, false, false, false, false, false]) (by rfl) (fun _ => (opv_move (by rfl))) (by rfl) rfl ?_
    refine da_any hap htm (i := 2) (by rfl) (by kernel_rfl) (by rfl) (listed' := #[true, true, true, false, false, false, false, false, false, false, false, false, false, false, false, false, false, false, false]) (by rfl) (fun _ => (opv_nilCheck (by rfl))) (by rfl) rfl ?_
    refine da_any hap htm (i := 3) (by rfl) (by kernel_rfl) (by rfl) (listed' := #[true, true, true, true, false, false, false, false, false, false, false, false, false, false, false, false, false, false, false]) (by rfl) (fun _ => (opv_fieldAddr (by rfl) fld30_1)) (by rfl) rfl ?_
    refine da_now [6, 7, 8, 17, 18] hap htm (i := 4) (by rfl) (by kernel_rfl) (by rfl) (listed' := #[true, true, true, true, true, false, false, false, false, false, false, false, false, false, false, false, false, false, false]) (by rfl) (by kernel_rfl) (by kernel_rfl) (opv_load (by rfl) na28 (rd_pk (by repeat (first | exact Pk.here _ | apply Pk.there))) (by rfl)) (by rfl) rfl ?_
    refine da_any hap htm (i := 5) (by rfl) (by kernel_rfl) (by rfl) (listed' := #[true, true, true, true, true, true, false, false, false, false, false, false, false, false, false, false, false, false, false]) (by rfl) (fun _ => (opv_move (by rfl))) (by rfl) rfl ?_
    refine da_any hap htm (i := 6) (by rfl) (by kernel_rfl) (by rfl) (listed' := #[true, true, true, true, true, true, true, false, false, false, false, false, false, false, false, false, false, false, false]) (by rfl) (fun _ => (opv_indexAddr_sv (i := i) (v := uv) (n := us.length) (by rfl) husv (by rfl) Try.underlying28 ti33 rfl hlt)) (by rfl) rfl ?_
    refine da_any hap htm (i := 7) (by rfl) (by kernel_rfl) (by rfl) (listed' := #[true, true, true, true, true, true, true, true, false, false, false, false, false, false, false, false, false, false, false]) (by rfl) (fun _ => (opv_fieldAddr (by rfl) fld33_0)) (by rfl) rfl ?_
    refine da_now [17, 18] hap htm (i := 8) (by rfl) (by kernel_rfl) (by rfl) (listed' := #[true, true, true, true, true, true, true, true, true, false, false, false, false, false, false, false, false, false, false]) (by rfl) (by kernel_rfl) (by kernel_rfl) (opv_load_fld (enc := Vol.cells) (u := x) (fo := 0) (w := .int .i64 x.id) Vol.cells_len (by rfl) na3 (by repeat (first | exact Pk.here _ | apply Pk.there)) hx rfl) (by rfl) rfl ?_
    refine da_any hap htm (i := 9) (by rfl) (by kernel_rfl) (by rfl) (listed' := #[true, true, true, true, true, true, true, true, true, true, false, false, false, false, false, false, false, false, false]) (by rfl) (fun _ => (opv_move (by rfl))) (by rfl) rfl ?_
    refine da_any hap htm (i := 10) (by rfl) (by kernel_rfl) (by rfl) (listed' := #[true, true, true, true, true, true, true, true, true, true, true, false, false, false, false, false, false, false, false]) (by rfl) (fun _ => (opv_nilCheck (by rfl))) (by rfl) rfl ?_
    refine da_any hap htm (i := 11) (by rfl) (by kernel_rfl) (by rfl) (listed' := #[true, true, true, true, true, true, true, true, true, true, true, true, false, false, false, false, false, false, false]) (by rfl) (fun _ => (opv_fieldAddr (by rfl) fld30_1)) (by rfl) rfl ?_
    refine da_now [14, 15, 16, 17, 18] hap htm (i := 12) (by rfl) (by kernel_rfl) (by rfl) (listed' := #[true, true, true, true, true, true, true, true, true, true, true, true, true, false, false, false, false, false, false]) (by rfl) (by kernel_rfl) (by kernel_rfl) (opv_load (by rfl) na28 (rd_pk (by repeat (first | exact Pk.here _ | apply Pk.there))) (by rfl)) (by rfl) rfl ?_
    refine da_any hap htm (i := 13) (by rfl) (by kernel_rfl) (by rfl) (listed' := #[true, true, true, true, true, true, true, true, true, true, true, true, true, true, false, false, false, false, false]) (by rfl) (fun _ => (opv_move (by rfl))) (by rfl) rfl ?_
    refine da_any hap htm (i := 14) (by rfl) (by kernel_rfl) (by rfl) (listed' := #[true, true, true, true, true, true, true, true, true, true, true, true, true, true, true, false, false, false, false]) (by rfl) (fun _ => (opv_indexAddr_sv (i := i) (v := uv) (n := us.length) (by rfl) husv (by rfl) Try.underlying28 ti33 rfl hlt)) (by rfl) rfl ?_
    refine da_any hap htm (i := 15) (by rfl) (by kernel_rfl) (by rfl) (listed' := #[true, true, true, true, true, true, true, true, true, true, true, true, true, true, true, true, false, false, false]) (by rfl) (fun _ => (opv_fieldAddr (by rfl) fld33_1)) (by rfl) rfl ?_
    refine da_now [17, 18] hap htm (i := 16) (by rfl) (by kernel_rfl) (by rfl) (listed' := #[true, true, true, true, true, true, true, true, true, true, true, true, true, true, true, true, true, false, false]) (by rfl) (by kernel_rfl) (by kernel_rfl) (opv_load_fld (enc := Vol.cells) (u := x) (fo := 1) (w := .int .i64 x.gen) Vol.cells_len (by rfl) na3 (by repeat (first | exact Pk.here _ | apply Pk.there)) hx rfl) (by rfl) rfl ?_
    refine da_eff (i := 17) (by rfl) (by kernel_rfl) (by rfl) (listed' := #[true, true, true, true, true, true, true, true, true, true, true, true, true, true, true, true, true, true, false]) (by rfl) (eff_callF [blk bk (.cells #[lv, uv] 30 (0, 0)), own lv 52 2 ps.length (ps.flatMap kc)] (fl := []) (cl := []) (G := fun v Is' => v = .int .i64 (ps.count x.key) ∧ Is' = [blk bk (.cells #[lv, uv] 30 (0, 0)), own lv 52 2 ps.length (ps.flatMap kc)]) (by rfl) (by rfl) tx21 (by repeat (first | exact Pks.nil _ | exact Pk.here _ | apply Pk.there | apply Pks.cons)) (by exact fun w1 hw1 => (refcount_spec x.id x.gen hw1 hm).mono (fun _ _ ⟨hv, hst⟩ => ⟨_, ⟨hv, rfl⟩, hst⟩))) (fun _ _ _ _ hw => cw_nil hw) (by rfl) rfl ?_
    rintro _ _ ⟨_, ⟨rfl, rfl⟩, rfl⟩
    refine da_any hap htm (i := 18) (by rfl) (by kernel_rfl) (by rfl) (listed' := #[true, true, true, true, true, true, true, true, true, true, true, true, true, true, true, true, true, true, true]) (by rfl) (fun _ => (opv_cmp (by rfl) (by rfl) (by rfl))) (by rfl) rfl ?_
    refine da_done (by kernel_rfl) ?_
    refine jk_then ?_
    refine sk_split (x := 33) (by rfl) (fun h27 => ?_) (fun h27 => ?_)
    · first | have p27 := of_decide_eq_true h27 | have p27 := of_decide_eq_false h27 | have p27 := ndT h27 | have p27 := ndF h27 | have p27 := nbT h27 | have p27 := nbF h27 | have p27 := h27
      refine sc_true (by rfl) h27 ?_
      refine sc_region ?_
      refine so_pure (opv_move (by rfl)) (by rfl) rfl ?_
      refine so_pure (opv_move (by rfl)) (by rfl) rfl ?_
      refine so_pure (opv_nilCheck (by rfl)) (by rfl) rfl ?_
      refine so_pure (opv_fieldAddr (by rfl) fld30_1) (by rfl) rfl ?_
      refine so_pure (opv_load (by rfl) na28 (rd_pk (by repeat (first | exact Pk.here _ | apply Pk.there))) (by rfl)) (by rfl) rfl ?_
      refine so_pure (opv_move (by rfl)) (by rfl) rfl ?_
      refine so_pure (opv_indexAddr_own (i := i) (v := uv) (by rfl) (by rfl) Try.underlying28 ti33 (by repeat (first | exact Pk.here _ | apply Pk.there)) rfl hlt) (by rfl) rfl ?_
      refine so_pure (opv_load_elem (u := x) Vol.cells_len (by rfl) ag33 ti33 (by repeat (first | exact Pk.here _ | apply Pk.there)) (by omega) hx) (by rfl) rfl ?_
      refine so_eff (eff_buildSlice (by rfl) (fun w => by exact bsl28_1_0 ..)) (by rfl) rfl ?_
      rintro _ _ ⟨b45, rfl, rfl⟩
      refine so_eff (eff_append_lit (by rfl) (by rfl) Try.underlying28 ti33 (by rfl) (by omega) (by repeat (first | exact Pk.here _ | apply Pk.there)) (rd_pk (by repeat (first | exact Pk.here _ | apply Pk.there))) (by rfl) (by rfl) (by have := List.length_filter_le (noK ps) (us.take i); rw [List.length_take] at this; unfold maxLen; omega) (by have := List.length_filter_le (noK ps) (us.take i); rw [List.length_take] at this; omega)) (by rfl) rfl ?_
      rintro nv _ ⟨rfl, _⟩
      refine so_pure (opv_assign (by rfl)) (by rfl) rfl ?_
      refine jo_nil ?_
      refine jk_block ?_
      refine jk_then ?_
      refine sc_region ?_
      refine so_pure (opv_move (by rfl)) (by rfl) rfl ?_
      refine so_pure (opv_add (by rfl) (by rfl) (wrap64_ok (by omega))) (by rfl) rfl ?_
      refine so_pure (opv_assign (by rfl)) (by rfl) rfl ?_
      refine jo_nil ?_
      have hp : noK ps x = true := decide_eq_true (by omega)
      refine jk_round (i + 1, nv, fv) ⟨by omega, trivial⟩ (by show us.length - (i + 1) < us.length - i; omega) ⟨rfl, rfl, rfl, rfl, trivial⟩ (fun w hw => ?_)
      show St _ _ (own (nv) 33 4 ((us.take (i + 1)).filter (noK ps)).length (((us.take (i + 1)).filter (noK ps)).flatMap Vol.cells) :: own (fv) 33 4 ((us.take (i + 1)).filter (fun z => !noK ps z)).length (((us.take (i + 1)).filter (fun z => !noK ps z)).flatMap Vol.cells) :: blk bk (.cells #[lv, uv] 30 (0, 0)) :: own lv 52 2 ps.length (ps.flatMap kc) :: own uv 33 4 us.length (us.flatMap Vol.cells) :: Fr) _
      rw [take_snoc hx, List.filter_append, List.filter_append, List.length_append, List.flatMap_append]
      simp only [List.filter_cons, hp, if_true, List.filter_nil, Bool.not_true, Bool.false_eq_true, if_false, List.append_nil, List.flatMap_cons, List.flatMap_nil, List.length_cons, List.length_nil]
      exact St.keep (Sb := [own nv 33 4 (((us.take i).filter (noK ps)).length + 1) (((us.take i).filter (noK ps)).flatMap Vol.cells ++ x.cells), own fv 33 4 ((us.take i).filter (fun z => !noK ps z)).length (((us.take i).filter (fun z => !noK ps z)).flatMap Vol.cells), blk bk (.cells #[lv, uv] 30 (0, 0)), own lv 52 2 ps.length (ps.flatMap kc), own uv 33 4 us.length (us.flatMap Vol.cells)]) hw (by repeat (first | exact Pks.nil _ | exact Pk.here _ | apply Pk.there | apply Pks.cons)) (by repeat (first | exact Tl.here _ | apply Tl.there))
    · first | have p27 := of_decide_eq_true h27 | have p27 := of_decide_eq_false h27 | have p27 := ndT h27 | have p27 := ndF h27 | have p27 := nbT h27 | have p27 := nbF h27 | have p27 := h27
      refine sc_false (by rfl) h27 ?_
      refine sc_region ?_
      refine so_pure (opv_move (by rfl)) (by rfl) rfl ?_
      refine so_pure (opv_move (by rfl)) (by rfl) rfl ?_
      refine so_pure (opv_nilCheck (by rfl)) (by rfl) rfl ?_
      refine so_pure (opv_fieldAddr (by rfl) fld30_1) (by rfl) rfl ?_
      refine so_pure (opv_load (by rfl) na28 (rd_pk (by repeat (first | exact Pk.here _ | apply Pk.there))) (by rfl)) (by rfl) rfl ?_
      refine so_pure (opv_move (by rfl)) (by rfl) rfl ?_
      refine so_pure (opv_indexAddr_own (i := i) (v := uv) (by rfl) (by rfl) Try.underlying28 ti33 (by repeat (first | exact Pk.here _ | apply Pk.there)) rfl hlt) (by rfl) rfl ?_
      refine so_pure (opv_load_elem (u := x) Vol.cells_len (by rfl) ag33 ti33 (by repeat (first | exact Pk.here _ | apply Pk.there)) (by omega) hx) (by rfl) rfl ?_
      refine so_eff (eff_buildSlice (by rfl) (fun w => by exact bsl28_1_0 ..)) (by rfl) rfl ?_
      rintro _ _ ⟨b45, rfl, rfl⟩
      refine so_eff (eff_append_lit (by rfl) (by rfl) Try.underlying28 ti33 (by rfl) (by omega) (by repeat (first | exact Pk.here _ | apply Pk.there)) (rd_pk (by repeat (first | exact Pk.here _ | apply Pk.there))) (by rfl) (by rfl) (by have := List.length_filter_le (fun z => !noK ps z) (us.take i); rw [List.length_take] at this; unfold maxLen; omega) (by have := List.length_filter_le (fun z => !noK ps z) (us.take i); rw [List.length_take] at this; omega)) (by rfl) rfl ?_
      rintro nv _ ⟨rfl, _⟩
      refine so_pure (opv_assign (by rfl)) (by rfl) rfl ?_
      refine jo_nil ?_
      refine jk_block ?_
      refine jk_then ?_
      refine sc_region ?_
      refine so_pure (opv_move (by rfl)) (by rfl) rfl ?_
      refine so_pure (opv_add (by rfl) (by rfl) (wrap64_ok (by omega))) (by rfl) rfl ?_
      refine so_pure (opv_assign (by rfl)) (by rfl) rfl ?_
      refine jo_nil ?_
      have hp : noK ps x = false := decide_eq_false (by omega)
      refine jk_round (i + 1, ov, nv) ⟨by omega, trivial⟩ (by show us.length - (i + 1) < us.length - i; omega) ⟨rfl, rfl, rfl, rfl, trivial⟩ (fun w hw => ?_)
      show St _ _ (own (ov) 33 4 ((us.take (i + 1)).filter (noK ps)).length (((us.take (i + 1)).filter (noK ps)).flatMap Vol.cells) :: own (nv) 33 4 ((us.take (i + 1)).filter (fun z => !noK ps z)).length (((us.take (i + 1)).filter (fun z => !noK ps z)).flatMap Vol.cells) :: blk bk (.cells #[lv, uv] 30 (0, 0)) :: own lv 52 2 ps.length (ps.flatMap kc) :: own uv 33 4 us.length (us.flatMap Vol.cells) :: Fr) _
      rw [take_snoc hx, List.filter_append, List.filter_append, List.length_append, List.length_append, List.flatMap_append, List.flatMap_append]
      simp only [List.filter_cons, hp, if_true, List.filter_nil, Bool.not_false, Bool.false_eq_true, if_false, List.append_nil, List.flatMap_cons, List.flatMap_nil, List.length_cons, List.length_nil]
      exact St.keep (Sb := [own ov 33 4 ((us.take i).filter (noK ps)).length (((us.take i).filter (noK ps)).flatMap Vol.cells), own nv 33 4 (((us.take i).filter (fun z => !noK ps z)).length + 1) (((us.take i).filter (fun z => !noK ps z)).flatMap Vol.cells ++ x.cells), blk bk (.cells #[lv, uv] 30 (0, 0)), own lv 52 2 ps.length (ps.flatMap kc), own uv 33 4 us.length (us.flatMap Vol.cells)]) hw (by repeat (first | exact Pks.nil _ | exact Pk.here _ | apply Pk.there | apply Pks.cons)) (by repeat (first | exact Tl.here _ | apply Tl.there))
  · first | have p11 := of_decide_eq_true h11 | have p11 := of_decide_eq_false h11 | have p11 := ndT h11 | have p11 := ndF h11 | have p11 := nbT h11 | have p11 := nbF h11 | have p11 := h11
    refine sc_false (by rfl) h11 ?_
    refine jc_exit ?_
    refine jk_then_exit ?_
    refine jk_then_exit ?_
    refine jk_block_exit ?_
    refine jk_then ?_
    refine jc_seq ?_
    have ei : i = us.length := by omega
    subst ei
    rw [List.take_length]
    refine jk_sv (v := fv) (by repeat (first | exact Pk.here _ | apply Pk.there)) (fun hsv => ?_)
    obtain ⟨A2, c2, rfl, _⟩ := hsv
    refine sc_region ?_
    refine so_pure (opv_move (by rfl)) (by rfl) rfl ?_
    refine so_pure (opv_move (by rfl)) (by rfl) rfl ?_
    refine so_pure (opv_nilCheck (by rfl)) (by rfl) rfl ?_
    refine so_pure (opv_fieldAddr (by rfl) fld30_1) (by rfl) rfl ?_
    refine so_eff0 (eff_store (vs := [.slice A2 (us.filter (fun z => !noK ps z)).length c2]) (by rfl) (by rfl) (by rfl) ti28 (by rfl) (by repeat (first | exact Pk.here _ | apply Pk.there)) (by exact Nat.le_of_ble_eq_true rfl) (by rfl)) (by rfl) ?_
    rintro _ _ ⟨rfl, rfl⟩
    refine jo_nil ?_
    refine jk_then ?_
    refine jc_seq ?_
    refine sc_region ?_
    refine so_pure (opv_move (by rfl)) (by rfl) rfl ?_
    refine so_pure (opv_assign (by rfl)) (by rfl) rfl ?_
    refine jo_nil ?_
    refine jk_then ?_
    refine jc_ret ?_
    refine jk_fn_ret rfl rfl (by rfl) (fun w hw => ?_)
    refine ⟨.slice A2 (us.filter (fun z => !noK ps z)).length c2, ?_⟩
    exact St.keep (Sb := [blk bk (.cells #[lv, .slice A2 (us.filter (fun z => !noK ps z)).length c2] 30 (0, 0)), own lv 52 2 ps.length (ps.flatMap kc), own (.slice A2 (us.filter (fun z => !noK ps z)).length c2) 33 4 (us.filter (fun z => !noK ps z)).length ((us.filter (fun z => !noK ps z)).flatMap Vol.cells), own ov 33 4 (us.filter (noK ps)).length ((us.filter (noK ps)).flatMap Vol.cells)]) hw (by repeat (first | exact Pks.nil _ | exact Pk.here _ | apply Pk.there | apply Pks.cons)) (by repeat (first | exact Tl.here _ | apply Tl.there))
end Go.Pins
