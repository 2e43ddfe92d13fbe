/- A part of a proof for the laws of the seat Ytmhdjmbckgamlaa; it has no conditions of its own. -/
import Derived.Test.YtmhdjmbckgamlaaPlW6
namespace Go.Place
open Go Go.SL Go.Proofs
set_option maxHeartbeats 4000000 in
theorem even1_spec {w0 w : World} {M : Nat → Prop} {Fr : List Itm} {ld : List Int} {N cb lb : Nat} (a b : Nat) (ha : a < 12) (hb2 : b < 12) (hb : Bd ld N) (hN : N ≤ 8796093022208000) (hst : St w0 M (blk cb (.cells #[.slice (some ⟨lb, 0, none⟩) 12 12] 22 (0, 0)) :: own (.slice (some ⟨lb, 0, none⟩) 12 12) 3 1 12 (ld.flatMap ic) :: Fr) w) : Does Try.prog 26 #[.int .i64 (a : Int), .int .i64 (b : Int), .pointer (some ⟨cb, 0, none⟩)] w (fun v w' => v = .int .i64 (at12 ld a - at12 ld b) ∧ St w0 M (blk cb (.cells #[.slice (some ⟨lb, 0, none⟩) 12 12] 22 (0, 0)) :: own (.slice (some ⟨lb, 0, none⟩) 12 12) 3 1 12 (ld.flatMap ic) :: Fr) w') := by
  obtain ⟨x, hx, hx0, hx1⟩ := hb.get ha
  obtain ⟨y, hy, hy0, hy1⟩ := hb.get hb2
  rw [at12_get hx, at12_get hy]
  refine fn_bodyX (fn := Try.f26) Try.func26 rfl [(0, .int .i64 (a : Int)), (1, .int .i64 (b : Int)), (2, .pointer (some ⟨cb, 0, none⟩))] (by exact ⟨rfl, rfl, rfl, trivial⟩) rfl hst ?_
  refine jc_seq ?_
  refine sc_region ?_
  refine so_pure (opv_assign (by rfl)) (by rfl) rfl ?_
  refine jo_nil ?_
  refine jk_then ?_
  refine jc_seq ?_
  refine so_draw [] (by kernel_rfl) (by kernel_rfl) (by kernel_rfl) rfl (by rfl) (fun hap htm => ?_)
  refine da_now [2, 3, 8, 9] hap htm (i := 0) (by rfl) (by kernel_rfl) (by rfl) (listed' := #[true, false, false, false, false, false, false, false, false, false]) (by rfl) (by kernel_rfl) (by kernel_rfl) (opv_load (by rfl) na22 (rd_pk (by repeat (first | exact Pk.here _ | apply Pk.there))) (by rfl)) (by rfl) rfl ?_
  refine da_any hap htm (i := 1) (by rfl) (by kernel_rfl) (by rfl) (listed' := #[true, true, false, false, false, false, false, false, false, false]) (by rfl) (fun _ => (opv_move (by rfl))) (by rfl) rfl ?_
  refine da_any hap htm (i := 2) (by rfl) (by kernel_rfl) (by rfl) (listed' := #[true, true, true, false, false, false, false, false, false, false]) (by rfl) (fun _ => (opv_indexAddr (i := a) (by rfl) (by rfl) Try.underlying22 ti3 rfl (by omega))) (by rfl) rfl ?_
  refine da_now [8, 9] hap htm (i := 3) (by rfl) (by kernel_rfl) (by rfl) (listed' := #[true, true, true, true, false, false, false, false, false, false]) (by rfl) (by kernel_rfl) (by kernel_rfl) (opv_load_fld (enc := ic) (v := .slice (some ⟨lb, 0, none⟩) 12 12) (i := a) (u := x) (fo := 0) (w := .int .i64 x) ic_len (by rfl) na3 (by repeat (first | exact Pk.here _ | apply Pk.there)) hx rfl) (by rfl) rfl ?_
  refine da_now [6, 7, 8, 9] hap htm (i := 4) (by rfl) (by kernel_rfl) (by rfl) (listed' := #[true, true, true, true, true, false, false, false, false, false]) (by rfl) (by kernel_rfl) (by kernel_rfl) (opv_load (by rfl) na22 (rd_pk (by repeat (first | exact Pk.here _ | apply Pk.there))) (by rfl)) (by rfl) rfl ?_
  refine da_any hap htm (i := 5) (by rfl) (by kernel_rfl) (by rfl) (listed' := #[true, true, true, true, true, true, false, false, false, false]) (by rfl) (fun _ => (opv_move (by rfl))) (by rfl) rfl ?_
  refine da_any hap htm (i := 6) (by rfl) (by kernel_rfl) (by rfl) (listed' := #[true, true, true, true, true, true, true, false, false, false]) (by rfl) (fun _ => (opv_indexAddr (i := b) (by rfl) (by rfl) Try.underlying22 ti3 rfl (by omega))) (by rfl) rfl ?_
  refine da_now [8, 9] hap htm (i := 7) (by rfl) (by kernel_rfl) (by rfl) (listed' := #[true, true, true, true, true, true, true, true, false, false]) (by rfl) (by kernel_rfl) (by kernel_rfl) (opv_load_fld (enc := ic) (v := .slice (some ⟨lb, 0, none⟩) 12 12) (i := b) (u := y) (fo := 0) (w := .int .i64 y) ic_len (by rfl) na3 (by repeat (first | exact Pk.here _ | apply Pk.there)) hy rfl) (by rfl) rfl ?_
  refine da_any hap htm (i := 8) (by rfl) (by kernel_rfl) (by rfl) (listed' := #[true, true, true, true, true, true, true, true, true, false]) (by rfl) (fun _ => (opv_sub (by rfl) (by rfl) (wrap64_ok (by omega)))) (by rfl) rfl ?_
  refine da_any hap htm (i := 9) (by rfl) (by kernel_rfl) (by rfl) (listed' := #[true, true, true, true, true, true, true, true, true, true]) (by rfl) (fun _ => (opv_assign (by rfl))) (by rfl) rfl ?_
  refine da_done (by kernel_rfl) ?_
  refine jk_then ?_
  refine jc_ret ?_
  refine jk_fn_ret rfl rfl (by rfl) (fun w hw => ?_)
  exact ⟨rfl, hw⟩
set_option maxHeartbeats 4000000 in
theorem max_spec {w0 w : World} {Fr : List Itm} {ld : List Int} {N cb lb : Nat} (A : Option Addr) (n c : Nat) (xs : List Int) (hs : SlR w0 3 1 ic A n xs) (hn : n ≤ 1000000) (h1n : 1 ≤ n) (hx12 : ∀ (i : Nat) (x : Int), xs[i]? = some x → 0 ≤ x ∧ x < 12) (hb : Bd ld N) (hN : N ≤ 8796093022208000) (hst : St w0 Emp (blk cb (.cells #[.slice (some ⟨lb, 0, none⟩) 12 12] 22 (0, 0)) :: own (.slice (some ⟨lb, 0, none⟩) 12 12) 3 1 12 (ld.flatMap ic) :: Fr) w) : Does Try.prog 27 #[.slice A n c, .func (.func 26) #[] #[.pointer (some ⟨cb, 0, none⟩)]] w (fun v w' => v = .int .i64 (foldK (pickMax ld) xs xs.length) ∧ St w0 Emp (blk cb (.cells #[.slice (some ⟨lb, 0, none⟩) 12 12] 22 (0, 0)) :: own (.slice (some ⟨lb, 0, none⟩) 12 12) 3 1 12 (ld.flatMap ic) :: Fr) w') := by
  refine fn_bodyX (fn := Try.f27) Try.func27 rfl [(0, .slice A n c), (1, .func (.func 26) #[] #[.pointer (some ⟨cb, 0, none⟩)])] (by exact ⟨rfl, rfl, trivial⟩) rfl hst ?_
  refine jc_seq ?_
  refine sc_region ?_
  refine so_pure (opv_assign (by rfl)) (by rfl) rfl ?_
  refine jo_nil ?_
  refine jk_then ?_
  refine jc_seq ?_
  refine jc_seq ?_
  refine sc_region ?_
  refine so_pure (opv_move (by rfl)) (by rfl) rfl ?_
  refine so_pure (opv_len_slice (by rfl) Try.underlying22) (by rfl) rfl ?_
  refine so_pure (opv_cmp (by rfl) (by rfl) (by rfl)) (by rfl) rfl ?_
  refine jo_nil ?_
  refine jk_then ?_
  refine sk_split (x := 9) (by rfl) (fun h5 => ?_) (fun h5 => ?_)
  · first | have p5 := of_decide_eq_true h5 | have p5 := of_decide_eq_false h5 | have p5 := ndT h5 | have p5 := ndF h5 | have p5 := nbT h5 | have p5 := nbF h5 | have p5 := h5
    omega
  · first | have p5 := of_decide_eq_true h5 | have p5 := of_decide_eq_false h5 | have p5 := ndT h5 | have p5 := ndF h5 | have p5 := nbT h5 | have p5 := nbF h5 | have p5 := h5
    refine sc_false (by rfl) h5 ?_
    refine jc_skip ?_
    refine jk_then ?_
    refine jc_seq ?_
    have hlt0 : 0 < n := by omega
    obtain ⟨_, _, _, _, z0, _, _, hx0, _⟩ := hs.get hlt0
    have hzb := hx12 0 z0 hx0
    obtain ⟨x0, hd0⟩ : ∃ d : Nat, z0 = d := ⟨z0.toNat, by omega⟩
    refine sc_region ?_
    refine so_pure (opv_move (by rfl)) (by rfl) rfl ?_
    refine so_pure (opv_indexAddr_slr (i := 0) (by rfl) hs (by rfl) Try.underlying22 ti3 rfl hlt0) (by rfl) rfl ?_
    refine so_pure (opv_load_slr (enc := ic) (u := z0) (fo := 0) (v := .int .i64 (x0 : Int)) (by rfl) na3 rfl hs hx0 (by rw [hd0]; rfl)) (by rfl) rfl ?_
    refine so_pure (opv_assign (by rfl)) (by rfl) rfl ?_
    refine jo_nil ?_
    refine jk_then ?_
    refine jc_seq ?_
    refine jc_seq ?_
    refine sc_region ?_
    refine so_pure (opv_assign (by rfl)) (by rfl) rfl ?_
    refine jo_nil ?_
    refine jk_then ?_
    refine jc_block ?_
    refine jc_loop (σ := Nat × Nat) (fun (k, m) => [(0, .slice A n c), (1, .func (.func 26) #[] #[.pointer (some ⟨cb, 0, none⟩)]), (5, .int .i64 (m : Int)), (6, .int .i64 k)]) (fun (k, m) => (blk cb (.cells #[.slice (some ⟨lb, 0, none⟩) 12 12] 22 (0, 0)) :: own (.slice (some ⟨lb, 0, none⟩) 12 12) 3 1 12 (ld.flatMap ic) :: Fr)) (fun (k, m) => (k ≤ n) ∧ (1 ≤ k) ∧ (foldK (pickMax ld) xs k = (m : Int)) ∧ (m < 12)) (fun (k, m) => n - k) (1, x0) ⟨by omega, Nat.le_refl _, by rw [foldK_one _ _ hx0]; exact hd0, by omega⟩ ⟨rfl, rfl, rfl, rfl, trivial⟩ (fun w hw => hw) ?_
    rintro ⟨k, m⟩ ⟨hk, h1k, hm, hm12⟩
    show Jc _ _ [(0, .slice A n c), (1, .func (.func 26) #[] #[.pointer (some ⟨cb, 0, none⟩)]), (5, .int .i64 (m : Int)), (6, .int .i64 k)] (blk cb (.cells #[.slice (some ⟨lb, 0, none⟩) 12 12] 22 (0, 0)) :: own (.slice (some ⟨lb, 0, none⟩) 12 12) 3 1 12 (ld.flatMap ic) :: Fr) _
    refine jc_seq ?_
    refine jc_seq ?_
    refine sc_region ?_
    refine so_pure (opv_move (by rfl)) (by rfl) rfl ?_
    refine so_pure (opv_move (by rfl)) (by rfl) rfl ?_
    refine so_pure (opv_len_slice (by rfl) Try.underlying22) (by rfl) rfl ?_
    refine so_pure (opv_cmp (by rfl) (by rfl) (by rfl)) (by rfl) rfl ?_
    refine jo_nil ?_
    refine jk_then ?_
    refine sk_split (x := 17) (by rfl) (fun h11 => ?_) (fun h11 => ?_)
    · first | have p11 := of_decide_eq_true h11 | have p11 := of_decide_eq_false h11 | have p11 := ndT h11 | have p11 := ndF h11 | have p11 := nbT h11 | have p11 := nbF h11 | have p11 := h11
      refine sc_true (by rfl) h11 ?_
      refine jc_skip ?_
      refine jk_then ?_
      refine jc_seq ?_
      refine jc_block ?_
      refine jc_seq ?_
      have hlt : k < n := by omega
      obtain ⟨_, _, _, _, x, _, _, hx, _⟩ := hs.get hlt
      have hxb := hx12 k x hx
      obtain ⟨d, hd⟩ : ∃ d : Nat, x = d := ⟨x.toNat, by omega⟩
      refine sc_region ?_
      refine so_pure (opv_move (by rfl)) (by rfl) rfl ?_
      refine so_pure (opv_move (by rfl)) (by rfl) rfl ?_
      refine so_pure (opv_move (by rfl)) (by rfl) rfl ?_
      refine so_pure (opv_indexAddr_slr (i := k) (by rfl) hs (by rfl) Try.underlying22 ti3 rfl hlt) (by rfl) rfl ?_
      refine so_pure (opv_load_slr (enc := ic) (u := x) (fo := 0) (v := .int .i64 (d : Int)) (by rfl) na3 rfl hs hx (by rw [hd]; rfl)) (by rfl) rfl ?_
      refine so_pure (opv_move (by rfl)) (by rfl) rfl ?_
      refine so_eff (eff_callF [blk cb (.cells #[.slice (some ⟨lb, 0, none⟩) 12 12] 22 (0, 0)), own (.slice (some ⟨lb, 0, none⟩) 12 12) 3 1 12 (ld.flatMap ic)] (fl := []) (cl := [.pointer (some ⟨cb, 0, none⟩)]) (G := fun v Is' => v = .int .i64 (at12 ld d - at12 ld m) ∧ Is' = [blk cb (.cells #[.slice (some ⟨lb, 0, none⟩) 12 12] 22 (0, 0)), own (.slice (some ⟨lb, 0, none⟩) 12 12) 3 1 12 (ld.flatMap ic)]) (by rfl) (by rfl) tx26 (by repeat (first | exact Pks.nil _ | exact Pk.here _ | apply Pk.there | apply Pks.cons)) (by exact fun w1 hw1 => (even1_spec d m (by omega) hm12 hb hN hw1).mono (fun _ _ ⟨hv, hst⟩ => ⟨_, ⟨hv, rfl⟩, hst⟩))) (by rfl) rfl ?_
      rintro _ _ ⟨_, ⟨rfl, rfl⟩, rfl⟩
      refine so_pure (opv_cmp (by rfl) (by rfl) (by rfl)) (by rfl) rfl ?_
      refine jo_nil ?_
      refine jk_then ?_
      refine sk_split (x := 27) (by rfl) (fun h17 => ?_) (fun h17 => ?_)
      · first | have p17 := of_decide_eq_true h17 | have p17 := of_decide_eq_false h17 | have p17 := ndT h17 | have p17 := ndF h17 | have p17 := nbT h17 | have p17 := nbF h17 | have p17 := h17
        refine sc_true (by rfl) h17 ?_
        refine sc_region ?_
        refine so_pure (opv_move (by rfl)) (by rfl) rfl ?_
        refine so_pure (opv_move (by rfl)) (by rfl) rfl ?_
        refine so_pure (opv_indexAddr_slr (i := k) (by rfl) hs (by rfl) Try.underlying22 ti3 rfl hlt) (by rfl) rfl ?_
        refine so_pure (opv_load_slr (enc := ic) (u := x) (fo := 0) (v := .int .i64 (d : Int)) (by rfl) na3 rfl hs hx (by rw [hd]; rfl)) (by rfl) rfl ?_
        refine so_pure (opv_assign (by rfl)) (by rfl) rfl ?_
        refine jo_nil ?_
        refine jk_block ?_
        refine jk_then ?_
        refine sc_region ?_
        refine so_pure (opv_move (by rfl)) (by rfl) rfl ?_
        refine so_pure (opv_add (by rfl) (by rfl) (wrap64_ok (by omega))) (by rfl) rfl ?_
        refine so_pure (opv_assign (by rfl)) (by rfl) rfl ?_
        refine jo_nil ?_
        have hstep : foldK (pickMax ld) xs (k + 1) = x := by rw [foldK_step _ h1k hx, hm]; unfold pickMax; rw [if_pos (by rw [hd]; omega)]
        refine jk_round (k + 1, d) ⟨by omega, by omega, by rw [hstep]; exact hd, by omega⟩ (by show n - (k + 1) < n - k; omega) ⟨rfl, rfl, rfl, rfl, trivial⟩ (fun w hw => ?_)
        show St _ _ (blk cb (.cells #[.slice (some ⟨lb, 0, none⟩) 12 12] 22 (0, 0)) :: own (.slice (some ⟨lb, 0, none⟩) 12 12) 3 1 12 (ld.flatMap ic) :: Fr) _
        exact St.keep (Sb := [blk cb (.cells #[.slice (some ⟨lb, 0, none⟩) 12 12] 22 (0, 0)), own (.slice (some ⟨lb, 0, none⟩) 12 12) 3 1 12 (ld.flatMap ic)]) hw (by repeat (first | exact Pks.nil _ | exact Pk.here _ | apply Pk.there | apply Pks.cons)) (by repeat (first | exact Tl.here _ | apply Tl.there))
      · first | have p17 := of_decide_eq_true h17 | have p17 := of_decide_eq_false h17 | have p17 := ndT h17 | have p17 := ndF h17 | have p17 := nbT h17 | have p17 := nbF h17 | have p17 := h17
        refine sc_false (by rfl) h17 ?_
        refine jc_skip ?_
        refine jk_block ?_
        refine jk_then ?_
        refine sc_region ?_
        refine so_pure (opv_move (by rfl)) (by rfl) rfl ?_
        refine so_pure (opv_add (by rfl) (by rfl) (wrap64_ok (by omega))) (by rfl) rfl ?_
        refine so_pure (opv_assign (by rfl)) (by rfl) rfl ?_
        refine jo_nil ?_
        have hstep : foldK (pickMax ld) xs (k + 1) = (m : Int) := by rw [foldK_step _ h1k hx, hm]; unfold pickMax; rw [if_neg (by rw [hd]; omega)]
        refine jk_round (k + 1, m) ⟨by omega, by omega, by rw [hstep], by omega⟩ (by show n - (k + 1) < n - k; omega) ⟨rfl, rfl, rfl, rfl, trivial⟩ (fun w hw => ?_)
        show St _ _ (blk cb (.cells #[.slice (some ⟨lb, 0, none⟩) 12 12] 22 (0, 0)) :: own (.slice (some ⟨lb, 0, none⟩) 12 12) 3 1 12 (ld.flatMap ic) :: Fr) _
        exact St.keep (Sb := [blk cb (.cells #[.slice (some ⟨lb, 0, none⟩) 12 12] 22 (0, 0)), own (.slice (some ⟨lb, 0, none⟩) 12 12) 3 1 12 (ld.flatMap ic)]) hw (by repeat (first | exact Pks.nil _ | exact Pk.here _ | apply Pk.there | apply Pks.cons)) (by repeat (first | exact Tl.here _ | apply Tl.there))
    · first | have p11 := of_decide_eq_true h11 | have p11 := of_decide_eq_false h11 | have p11 := ndT h11 | have p11 := ndF h11 | have p11 := nbT h11 | have p11 := nbF h11 | have p11 := h11
      refine sc_false (by rfl) h11 ?_
      refine jc_exit ?_
      refine jk_then_exit ?_
      refine jk_then_exit ?_
      refine jk_block_exit ?_
      refine jk_then ?_
      refine jc_seq ?_
      refine sc_region ?_
      refine so_pure (opv_move (by rfl)) (by rfl) rfl ?_
      refine so_pure (opv_assign (by rfl)) (by rfl) rfl ?_
      refine jo_nil ?_
      refine jk_then ?_
      refine jc_ret ?_
      refine jk_fn_ret rfl rfl (by rfl) (fun w hw => ?_)
      have ek : k = xs.length := by have := hs.1; omega
      rw [← ek, hm]
      exact ⟨rfl, hw⟩
set_option maxHeartbeats 4000000 in
theorem min_spec {w0 w : World} {Fr : List Itm} {ld : List Int} {N cb lb : Nat} (A : Option Addr) (n c : Nat) (xs : List Int) (hs : SlR w0 3 1 ic A n xs) (hn : n ≤ 1000000) (h1n : 1 ≤ n) (hx12 : ∀ (i : Nat) (x : Int), xs[i]? = some x → 0 ≤ x ∧ x < 12) (hb : Bd ld N) (hN : N ≤ 8796093022208000) (hst : St w0 Emp (blk cb (.cells #[.slice (some ⟨lb, 0, none⟩) 12 12] 22 (0, 0)) :: own (.slice (some ⟨lb, 0, none⟩) 12 12) 3 1 12 (ld.flatMap ic) :: Fr) w) : Does Try.prog 28 #[.slice A n c, .func (.func 26) #[] #[.pointer (some ⟨cb, 0, none⟩)]] w (fun v w' => v = .int .i64 (foldK (pickMin ld) xs xs.length) ∧ St w0 Emp (blk cb (.cells #[.slice (some ⟨lb, 0, none⟩) 12 12] 22 (0, 0)) :: own (.slice (some ⟨lb, 0, none⟩) 12 12) 3 1 12 (ld.flatMap ic) :: Fr) w') := by
  refine fn_bodyX (fn := Try.f28) Try.func28 rfl [(0, .slice A n c), (1, .func (.func 26) #[] #[.pointer (some ⟨cb, 0, none⟩)])] (by exact ⟨rfl, rfl, trivial⟩) rfl hst ?_
  refine jc_seq ?_
  refine sc_region ?_
  refine so_pure (opv_assign (by rfl)) (by rfl) rfl ?_
  refine jo_nil ?_
  refine jk_then ?_
  refine jc_seq ?_
  refine jc_seq ?_
  refine sc_region ?_
  refine so_pure (opv_move (by rfl)) (by rfl) rfl ?_
  refine so_pure (opv_len_slice (by rfl) Try.underlying22) (by rfl) rfl ?_
  refine so_pure (opv_cmp (by rfl) (by rfl) (by rfl)) (by rfl) rfl ?_
  refine jo_nil ?_
  refine jk_then ?_
  refine sk_split (x := 9) (by rfl) (fun h5 => ?_) (fun h5 => ?_)
  · first | have p5 := of_decide_eq_true h5 | have p5 := of_decide_eq_false h5 | have p5 := ndT h5 | have p5 := ndF h5 | have p5 := nbT h5 | have p5 := nbF h5 | have p5 := h5
    omega
  · first | have p5 := of_decide_eq_true h5 | have p5 := of_decide_eq_false h5 | have p5 := ndT h5 | have p5 := ndF h5 | have p5 := nbT h5 | have p5 := nbF h5 | have p5 := h5
    refine sc_false (by rfl) h5 ?_
    refine jc_skip ?_
    refine jk_then ?_
    refine jc_seq ?_
    have hlt0 : 0 < n := by omega
    obtain ⟨_, _, _, _, z0, _, _, hx0, _⟩ := hs.get hlt0
    have hzb := hx12 0 z0 hx0
    obtain ⟨x0, hd0⟩ : ∃ d : Nat, z0 = d := ⟨z0.toNat, by omega⟩
    refine sc_region ?_
    refine so_pure (opv_move (by rfl)) (by rfl) rfl ?_
    refine so_pure (opv_indexAddr_slr (i := 0) (by rfl) hs (by rfl) Try.underlying22 ti3 rfl hlt0) (by rfl) rfl ?_
    refine so_pure (opv_load_slr (enc := ic) (u := z0) (fo := 0) (v := .int .i64 (x0 : Int)) (by rfl) na3 rfl hs hx0 (by rw [hd0]; rfl)) (by rfl) rfl ?_
    refine so_pure (opv_assign (by rfl)) (by rfl) rfl ?_
    refine jo_nil ?_
    refine jk_then ?_
    refine jc_seq ?_
    refine jc_seq ?_
    refine sc_region ?_
    refine so_pure (opv_assign (by rfl)) (by rfl) rfl ?_
    refine jo_nil ?_
    refine jk_then ?_
    refine jc_block ?_
    refine jc_loop (σ := Nat × Nat) (fun (k, m) => [(0, .slice A n c), (1, .func (.func 26) #[] #[.pointer (some ⟨cb, 0, none⟩)]), (5, .int .i64 (m : Int)), (6, .int .i64 k)]) (fun (k, m) => (blk cb (.cells #[.slice (some ⟨lb, 0, none⟩) 12 12] 22 (0, 0)) :: own (.slice (some ⟨lb, 0, none⟩) 12 12) 3 1 12 (ld.flatMap ic) :: Fr)) (fun (k, m) => (k ≤ n) ∧ (1 ≤ k) ∧ (foldK (pickMin ld) xs k = (m : Int)) ∧ (m < 12)) (fun (k, m) => n - k) (1, x0) ⟨by omega, Nat.le_refl _, by rw [foldK_one _ _ hx0]; exact hd0, by omega⟩ ⟨rfl, rfl, rfl, rfl, trivial⟩ (fun w hw => hw) ?_
    rintro ⟨k, m⟩ ⟨hk, h1k, hm, hm12⟩
    show Jc _ _ [(0, .slice A n c), (1, .func (.func 26) #[] #[.pointer (some ⟨cb, 0, none⟩)]), (5, .int .i64 (m : Int)), (6, .int .i64 k)] (blk cb (.cells #[.slice (some ⟨lb, 0, none⟩) 12 12] 22 (0, 0)) :: own (.slice (some ⟨lb, 0, none⟩) 12 12) 3 1 12 (ld.flatMap ic) :: Fr) _
    refine jc_seq ?_
    refine jc_seq ?_
    refine sc_region ?_
    refine so_pure (opv_move (by rfl)) (by rfl) rfl ?_
    refine so_pure (opv_move (by rfl)) (by rfl) rfl ?_
    refine so_pure (opv_len_slice (by rfl) Try.underlying22) (by rfl) rfl ?_
    refine so_pure (opv_cmp (by rfl) (by rfl) (by rfl)) (by rfl) rfl ?_
    refine jo_nil ?_
    refine jk_then ?_
    refine sk_split (x := 17) (by rfl) (fun h11 => ?_) (fun h11 => ?_)
    · first | have p11 := of_decide_eq_true h11 | have p11 := of_decide_eq_false h11 | have p11 := ndT h11 | have p11 := ndF h11 | have p11 := nbT h11 | have p11 := nbF h11 | have p11 := h11
      refine sc_true (by rfl) h11 ?_
      refine jc_skip ?_
      refine jk_then ?_
      refine jc_seq ?_
      refine jc_block ?_
      refine jc_seq ?_
      have hlt : k < n := by omega
      obtain ⟨_, _, _, _, x, _, _, hx, _⟩ := hs.get hlt
      have hxb := hx12 k x hx
      obtain ⟨d, hd⟩ : ∃ d : Nat, x = d := ⟨x.toNat, by omega⟩
      refine sc_region ?_
      refine so_pure (opv_move (by rfl)) (by rfl) rfl ?_
      refine so_pure (opv_move (by rfl)) (by rfl) rfl ?_
      refine so_pure (opv_move (by rfl)) (by rfl) rfl ?_
      refine so_pure (opv_indexAddr_slr (i := k) (by rfl) hs (by rfl) Try.underlying22 ti3 rfl hlt) (by rfl) rfl ?_
      refine so_pure (opv_load_slr (enc := ic) (u := x) (fo := 0) (v := .int .i64 (d : Int)) (by rfl) na3 rfl hs hx (by rw [hd]; rfl)) (by rfl) rfl ?_
      refine so_pure (opv_move (by rfl)) (by rfl) rfl ?_
      refine so_eff (eff_callF [blk cb (.cells #[.slice (some ⟨lb, 0, none⟩) 12 12] 22 (0, 0)), own (.slice (some ⟨lb, 0, none⟩) 12 12) 3 1 12 (ld.flatMap ic)] (fl := []) (cl := [.pointer (some ⟨cb, 0, none⟩)]) (G := fun v Is' => v = .int .i64 (at12 ld d - at12 ld m) ∧ Is' = [blk cb (.cells #[.slice (some ⟨lb, 0, none⟩) 12 12] 22 (0, 0)), own (.slice (some ⟨lb, 0, none⟩) 12 12) 3 1 12 (ld.flatMap ic)]) (by rfl) (by rfl) tx26 (by repeat (first | exact Pks.nil _ | exact Pk.here _ | apply Pk.there | apply Pks.cons)) (by exact fun w1 hw1 => (even1_spec d m (by omega) hm12 hb hN hw1).mono (fun _ _ ⟨hv, hst⟩ => ⟨_, ⟨hv, rfl⟩, hst⟩))) (by rfl) rfl ?_
      rintro _ _ ⟨_, ⟨rfl, rfl⟩, rfl⟩
      refine so_pure (opv_cmp (by rfl) (by rfl) (by rfl)) (by rfl) rfl ?_
      refine jo_nil ?_
      refine jk_then ?_
      refine sk_split (x := 27) (by rfl) (fun h17 => ?_) (fun h17 => ?_)
      · first | have p17 := of_decide_eq_true h17 | have p17 := of_decide_eq_false h17 | have p17 := ndT h17 | have p17 := ndF h17 | have p17 := nbT h17 | have p17 := nbF h17 | have p17 := h17
        refine sc_true (by rfl) h17 ?_
        refine sc_region ?_
        refine so_pure (opv_move (by rfl)) (by rfl) rfl ?_
        refine so_pure (opv_move (by rfl)) (by rfl) rfl ?_
        refine so_pure (opv_indexAddr_slr (i := k) (by rfl) hs (by rfl) Try.underlying22 ti3 rfl hlt) (by rfl) rfl ?_
        refine so_pure (opv_load_slr (enc := ic) (u := x) (fo := 0) (v := .int .i64 (d : Int)) (by rfl) na3 rfl hs hx (by rw [hd]; rfl)) (by rfl) rfl ?_
        refine so_pure (opv_assign (by rfl)) (by rfl) rfl ?_
        refine jo_nil ?_
        refine jk_block ?_
        refine jk_then ?_
        refine sc_region ?_
        refine so_pure (opv_move (by rfl)) (by rfl) rfl ?_
        refine so_pure (opv_add (by rfl) (by rfl) (wrap64_ok (by omega))) (by rfl) rfl ?_
        refine so_pure (opv_assign (by rfl)) (by rfl) rfl ?_
        refine jo_nil ?_
        have hstep : foldK (pickMin ld) xs (k + 1) = x := by rw [foldK_step _ h1k hx, hm]; unfold pickMin; rw [if_pos (by rw [hd]; omega)]
        refine jk_round (k + 1, d) ⟨by omega, by omega, by rw [hstep]; exact hd, by omega⟩ (by show n - (k + 1) < n - k; omega) ⟨rfl, rfl, rfl, rfl, trivial⟩ (fun w hw => ?_)
        show St _ _ (blk cb (.cells #[.slice (some ⟨lb, 0, none⟩) 12 12] 22 (0, 0)) :: own (.slice (some ⟨lb, 0, none⟩) 12 12) 3 1 12 (ld.flatMap ic) :: Fr) _
        exact St.keep (Sb := [blk cb (.cells #[.slice (some ⟨lb, 0, none⟩) 12 12] 22 (0, 0)), own (.slice (some ⟨lb, 0, none⟩) 12 12) 3 1 12 (ld.flatMap ic)]) hw (by repeat (first | exact Pks.nil _ | exact Pk.here _ | apply Pk.there | apply Pks.cons)) (by repeat (first | exact Tl.here _ | apply Tl.there))
      · first | have p17 := of_decide_eq_true h17 | have p17 := of_decide_eq_false h17 | have p17 := ndT h17 | have p17 := ndF h17 | have p17 := nbT h17 | have p17 := nbF h17 | have p17 := h17
        refine sc_false (by rfl) h17 ?_
        refine jc_skip ?_
        refine jk_block ?_
        refine jk_then ?_
        refine sc_region ?_
        refine so_pure (opv_move (by rfl)) (by rfl) rfl ?_
        refine so_pure (opv_add (by rfl) (by rfl) (wrap64_ok (by omega))) (by rfl) rfl ?_
        refine so_pure (opv_assign (by rfl)) (by rfl) rfl ?_
        refine jo_nil ?_
        have hstep : foldK (pickMin ld) xs (k + 1) = (m : Int) := by rw [foldK_step _ h1k hx, hm]; unfold pickMin; rw [if_neg (by rw [hd]; omega)]
        refine jk_round (k + 1, m) ⟨by omega, by omega, by rw [hstep], by omega⟩ (by show n - (k + 1) < n - k; omega) ⟨rfl, rfl, rfl, rfl, trivial⟩ (fun w hw => ?_)
        show St _ _ (blk cb (.cells #[.slice (some ⟨lb, 0, none⟩) 12 12] 22 (0, 0)) :: own (.slice (some ⟨lb, 0, none⟩) 12 12) 3 1 12 (ld.flatMap ic) :: Fr) _
        exact St.keep (Sb := [blk cb (.cells #[.slice (some ⟨lb, 0, none⟩) 12 12] 22 (0, 0)), own (.slice (some ⟨lb, 0, none⟩) 12 12) 3 1 12 (ld.flatMap ic)]) hw (by repeat (first | exact Pks.nil _ | exact Pk.here _ | apply Pk.there | apply Pks.cons)) (by repeat (first | exact Tl.here _ | apply Tl.there))
    · first | have p11 := of_decide_eq_true h11 | have p11 := of_decide_eq_false h11 | have p11 := ndT h11 | have p11 := ndF h11 | have p11 := nbT h11 | have p11 := nbF h11 | have p11 := h11
      refine sc_false (by rfl) h11 ?_
      refine jc_exit ?_
      refine jk_then_exit ?_
      refine jk_then_exit ?_
      refine jk_block_exit ?_
      refine jk_then ?_
      refine jc_seq ?_
      refine sc_region ?_
      refine so_pure (opv_move (by rfl)) (by rfl) rfl ?_
      refine so_pure (opv_assign (by rfl)) (by rfl) rfl ?_
      refine jo_nil ?_
      refine jk_then ?_
      refine jc_ret ?_
      refine jk_fn_ret rfl rfl (by rfl) (fun w hw => ?_)
      have ek : k = xs.length := by have := hs.1; omega
      rw [← ek, hm]
      exact ⟨rfl, hw⟩
end Go.Place
