/- A part of a proof for the laws of the seat Ytmhdjmbckgamlaa; it has no conditions of its own. -/
import Derived.Test.YtmhdjmbckgamlaaPlW1
namespace Go.Place
open Go Go.SL Go.Proofs
set_option maxHeartbeats 4000000 in
theorem round1_spec {w0 w : World} (A : Option Addr) (n c : Nat) (xs : List Int) (f : Nat) (hs : SlR w0 3 1 ic A n xs) (hn : n ≤ 1000000) (hf : f ≤ 1000000000000000) {bl bf l : Nat} (S E : Nat → List Itm) (hst : St w0 Emp (blk bl (.cells #[.slice A n c] 22 (0, 0)) :: blk bf (.cells #[.int .i64 (f : Int)] 3 (0, 0)) :: S 0) w) (hy : ∀ (i : Nat) (x : Int), i < n → xs[(f + i) % n]? = some x → ∀ w, St w0 Emp (blk bl (.cells #[.slice A n c] 22 (0, 0)) :: blk bf (.cells #[.int .i64 (f : Int)] 3 (0, 0)) :: S i) w → Yl Try.prog l [.int .i64 x] w (fun v w' => ∃ b : Bool, v = .bool b ∧ St w0 Emp (blk bl (.cells #[.slice A n c] 22 (0, 0)) :: blk bf (.cells #[.int .i64 (f : Int)] 3 (0, 0)) :: (bif b then S (i + 1) else E i)) w')) :
    Does Try.prog 29 #[.func (.yield l) #[] #[], .pointer (some ⟨bl, 0, none⟩), .pointer (some ⟨bf, 0, none⟩)] w (fun _ w' => St w0 Emp (S n) w' ∨ ∃ i, i < n ∧ St w0 Emp (E i) w') := by
  refine fn_bodyX (fn := Try.f29) Try.func29 rfl [(0, .func (.yield l) #[] #[]), (1, .pointer (some ⟨bl, 0, none⟩)), (2, .pointer (some ⟨bf, 0, none⟩))] (by exact ⟨rfl, rfl, rfl, trivial⟩) rfl hst ?_
  refine jc_seq ?_
  refine sc_region ?_
  refine so_pure (opv_load (by rfl) na22 (rd_pk (by repeat (first | exact Pk.here _ | apply Pk.there))) (by rfl)) (by rfl) rfl ?_
  refine so_pure (opv_len_slice (by rfl) Try.underlying22) (by rfl) rfl ?_
  refine so_pure (opv_move (by rfl)) (by rfl) rfl ?_
  refine jo_nil ?_
  refine jk_then ?_
  refine jc_block ?_
  refine jc_loop (σ := Nat) (fun k => [(0, .func (.yield l) #[] #[]), (1, .pointer (some ⟨bl, 0, none⟩)), (2, .pointer (some ⟨bf, 0, none⟩)), (6, .int .i64 n), (7, .int .i64 k)]) (fun k => (blk bl (.cells #[.slice A n c] 22 (0, 0)) :: blk bf (.cells #[.int .i64 (f : Int)] 3 (0, 0)) :: S k)) (fun k => (k ≤ n) ∧ (True)) (fun k => n - k) 0 ⟨Nat.zero_le _, trivial⟩ ⟨rfl, rfl, rfl, rfl, rfl, trivial⟩ (fun w hw => hw) ?_
  rintro k ⟨hk, ht⟩
  show Jc _ _ [(0, .func (.yield l) #[] #[]), (1, .pointer (some ⟨bl, 0, none⟩)), (2, .pointer (some ⟨bf, 0, none⟩)), (6, .int .i64 n), (7, .int .i64 k)] (blk bl (.cells #[.slice A n c] 22 (0, 0)) :: blk bf (.cells #[.int .i64 (f : Int)] 3 (0, 0)) :: S k) _
  refine jc_seq ?_
  refine sc_region ?_
  refine so_pure (opv_cmp (by rfl) (by rfl) (by rfl)) (by rfl) rfl ?_
  refine jo_nil ?_
  refine jk_then ?_
  refine jc_seq ?_
  refine sk_split (x := 8) (by rfl) (fun h7 => ?_) (fun h7 => ?_)
  · first | have p7 := of_decide_eq_true h7 | have p7 := of_decide_eq_false h7 | have p7 := ndT h7 | have p7 := ndF h7 | have p7 := nbT h7 | have p7 := nbF h7 | have p7 := h7
    refine sc_true (by rfl) h7 ?_
    refine jc_skip ?_
    refine jk_then ?_
    refine jc_seq ?_
    refine jc_block ?_
    refine jc_seq ?_
    refine sc_region ?_
    refine so_pure (opv_move (by rfl)) (by rfl) rfl ?_
    refine so_pure (opv_assign (by rfl)) (by rfl) rfl ?_
    refine jo_nil ?_
    refine jk_then ?_
    refine jc_seq ?_
    have hlt : k < n := by omega
    have hml : f % n < n := Nat.mod_lt _ (by omega)
    have hil : (f % n + k) % n < n := Nat.mod_lt _ (by omega)
    obtain ⟨_, _, _, _, x, _, _, hx, _⟩ := hs.get hil
    have hx2 : xs[(f + k) % n]? = some x := by rw [← Nat.mod_add_mod]; exact hx
    refine so_draw [] (by kernel_rfl) (by kernel_rfl) (by kernel_rfl) rfl (by rfl) (fun hap htm => ?_)
    refine da_any hap htm (i := 0) (by rfl) (by kernel_rfl) (by rfl) (listed' := #[true, false, false, false, false, false, false, false, false, false, false, false, false, false, false]) (by rfl) (fun _ => (opv_move (by rfl))) (by rfl) rfl ?_
    refine da_now [11, 12, 13, 14] hap htm (i := 1) (by rfl) (by kernel_rfl) (by rfl) (listed' := #[true, true, false, false, false, false, false, false, false, false, false, false, false, false, false]) (by rfl) (by kernel_rfl) (by kernel_rfl) (opv_load (by rfl) na22 (rd_pk (by repeat (first | exact Pk.here _ | apply Pk.there))) (by rfl)) (by rfl) rfl ?_
    refine da_now [5, 7, 10, 11, 12, 13, 14] hap htm (i := 2) (by rfl) (by kernel_rfl) (by rfl) (listed' := #[true, true, true, false, false, false, false, false, false, false, false, false, false, false, false]) (by rfl) (by kernel_rfl) (by kernel_rfl) (opv_load (by rfl) na3 (rd_pk (by repeat (first | exact Pk.here _ | apply Pk.there))) (by rfl)) (by rfl) rfl ?_
    refine da_now [4, 5, 7, 10, 11, 12, 13, 14] hap htm (i := 3) (by rfl) (by kernel_rfl) (by rfl) (listed' := #[true, true, true, true, false, false, false, false, false, false, false, false, false, false, false]) (by rfl) (by kernel_rfl) (by kernel_rfl) (opv_load (by rfl) na22 (rd_pk (by repeat (first | exact Pk.here _ | apply Pk.there))) (by rfl)) (by rfl) rfl ?_
    refine da_any hap htm (i := 4) (by rfl) (by kernel_rfl) (by rfl) (listed' := #[true, true, true, true, true, false, false, false, false, false, false, false, false, false, false]) (by rfl) (fun _ => (opv_len_slice (by rfl) Try.underlying22)) (by rfl) rfl ?_
    refine da_any hap htm (i := 5) (by rfl) (by kernel_rfl) (by rfl) (listed' := #[true, true, true, true, true, true, false, false, false, false, false, false, false, false, false]) (by rfl) (fun _ => (opv_rem_nat (m := f) (n := n) (by rfl) (by rfl) (by omega))) (by rfl) rfl ?_
    refine da_any hap htm (i := 6) (by rfl) (by kernel_rfl) (by rfl) (listed' := #[true, true, true, true, true, true, true, false, false, false, false, false, false, false, false]) (by rfl) (fun _ => (opv_move (by rfl))) (by rfl) rfl ?_
    refine da_any hap htm (i := 7) (by rfl) (by kernel_rfl) (by rfl) (listed' := #[true, true, true, true, true, true, true, true, false, false, false, false, false, false, false]) (by rfl) (fun _ => (opv_add_nat (m := f % n) (n := k) (by rfl) (by rfl) (by omega))) (by rfl) rfl ?_
    refine da_now [9, 10, 11, 12, 13, 14] hap htm (i := 8) (by rfl) (by kernel_rfl) (by rfl) (listed' := #[true, true, true, true, true, true, true, true, true, false, false, false, false, false, false]) (by rfl) (by kernel_rfl) (by kernel_rfl) (opv_load (by rfl) na22 (rd_pk (by repeat (first | exact Pk.here _ | apply Pk.there))) (by rfl)) (by rfl) rfl ?_
    refine da_any hap htm (i := 9) (by rfl) (by kernel_rfl) (by rfl) (listed' := #[true, true, true, true, true, true, true, true, true, true, false, false, false, false, false]) (by rfl) (fun _ => (opv_len_slice (by rfl) Try.underlying22)) (by rfl) rfl ?_
    refine da_any hap htm (i := 10) (by rfl) (by kernel_rfl) (by rfl) (listed' := #[true, true, true, true, true, true, true, true, true, true, true, false, false, false, false]) (by rfl) (fun _ => (opv_rem_nat (m := f % n + k) (n := n) (by rfl) (by rfl) (by omega))) (by rfl) rfl ?_
    refine da_any hap htm (i := 11) (by rfl) (by kernel_rfl) (by rfl) (listed' := #[true, true, true, true, true, true, true, true, true, true, true, true, false, false, false]) (by rfl) (fun _ => (opv_indexAddr_slr (i := (f % n + k) % n) (by rfl) hs (by rfl) Try.underlying22 ti3 rfl hil)) (by rfl) rfl ?_
    refine da_now [13, 14] hap htm (i := 12) (by rfl) (by kernel_rfl) (by rfl) (listed' := #[true, true, true, true, true, true, true, true, true, true, true, true, true, false, false]) (by rfl) (by kernel_rfl) (by kernel_rfl) (opv_load_slr (enc := ic) (u := x) (fo := 0) (v := .int .i64 x) (by rfl) na3 rfl hs hx rfl) (by rfl) rfl ?_
    refine da_eff (i := 13) (by rfl) (by kernel_rfl) (by rfl) (listed' := #[true, true, true, true, true, true, true, true, true, true, true, true, true, true, false]) (by rfl) (eff_yield (l := l) (G := fun v Is' => ∃ b : Bool, v = .bool b ∧ Is' = blk bl (.cells #[.slice A n c] 22 (0, 0)) :: blk bf (.cells #[.int .i64 (f : Int)] 3 (0, 0)) :: (bif b then S (k + 1) else E k)) (by rfl) (by rfl) (by exact fun w1 hw1 => (hy k x hlt hx2 w1 hw1).mono (fun _ _ ⟨b, hv, hst⟩ => ⟨_, ⟨b, hv, rfl⟩, hst⟩))) (fun _ _ _ _ hw => cw_nil hw) (by rfl) rfl ?_
    rintro _ _ ⟨b, rfl, rfl⟩
    refine da_any hap htm (i := 14) (by rfl) (by kernel_rfl) (by rfl) (listed' := #[true, true, true, true, true, true, true, true, true, true, true, true, true, true, true]) (by rfl) (fun _ => (opv_not (by rfl))) (by rfl) rfl ?_
    refine da_done (by kernel_rfl) ?_
    refine jk_then ?_
    refine sk_split (x := 24) (by rfl) (fun h20 => ?_) (fun h20 => ?_)
    · first | have p20 := of_decide_eq_true h20 | have p20 := of_decide_eq_false h20 | have p20 := ndT h20 | have p20 := ndF h20 | have p20 := nbT h20 | have p20 := nbF h20 | have p20 := h20
      have hb : b = false := by simpa using h20
      subst hb
      refine sc_true (by rfl) (not_t (nbT h20)) ?_
      refine jc_ret ?_
      refine jk_block_ret ?_
      refine jk_then_ret ?_
      refine jk_then_ret ?_
      refine jk_block_ret ?_
      refine jk_fn_ret0 rfl rfl (fun w hw => ?_)
      exact .inr ⟨k, hlt, hw.drop.drop⟩
    · first | have p20 := of_decide_eq_true h20 | have p20 := of_decide_eq_false h20 | have p20 := ndT h20 | have p20 := ndF h20 | have p20 := nbT h20 | have p20 := nbF h20 | have p20 := h20
      have hb : b = true := by simpa using h20
      subst hb
      refine sc_false (by rfl) (not_f (nbF h20)) ?_
      refine jc_skip ?_
      refine jk_block ?_
      refine jk_then ?_
      refine sc_region ?_
      refine so_pure (opv_add (by rfl) (by rfl) (wrap64_ok (by omega))) (by rfl) rfl ?_
      refine so_pure (opv_move (by rfl)) (by rfl) rfl ?_
      refine jo_nil ?_
      refine jk_round (k + 1) ⟨by omega, trivial⟩ (by show n - (k + 1) < n - k; omega) ⟨rfl, rfl, rfl, rfl, rfl, trivial⟩ (fun w hw => ?_)
      show St _ _ (blk bl (.cells #[.slice A n c] 22 (0, 0)) :: blk bf (.cells #[.int .i64 (f : Int)] 3 (0, 0)) :: S (k + 1)) _
      exact hw
  · first | have p7 := of_decide_eq_true h7 | have p7 := of_decide_eq_false h7 | have p7 := ndT h7 | have p7 := ndF h7 | have p7 := nbT h7 | have p7 := nbF h7 | have p7 := h7
    refine sc_false (by rfl) h7 ?_
    refine jc_exit ?_
    refine jk_then_exit ?_
    refine jk_then_exit ?_
    refine jk_block_exit ?_
    refine jk_fn_end0 rfl rfl (fun w hw => ?_)
    have ek : k = n := by omega
    subst ek
    exact .inl hw.drop.drop
end Go.Place
