/- A part of a proof for the laws of the seat Ythkafociknhgaaa; it has no conditions of its own. -/
import Derived.Test.YthkafociknhgaaaDkW9
namespace Go.Disks
open Go Go.SL Go.Proofs
set_option maxHeartbeats 4000000 in
theorem backward0_spec (w : World) (A : Option Addr) (n c : Nat) : Does Try.prog 36 #[.slice A n c] w (fun v w' => ∃ b1, v = .func (.func 47) #[] #[.pointer (some ⟨b1, 0, none⟩)] ∧ St w Emp [blk b1 (.cells #[.slice A n c] 54 (0, 0))] w') := by
  refine fn_body (fn := Try.f36) Try.func36 rfl [(0, .slice A n c)] (by exact ⟨rfl, trivial⟩) rfl (St.start w) ?_
  refine jc_seq ?_
  refine sc_region ?_
  refine so_eff (eff_box (by rfl) rfl) (by rfl) rfl ?_
  rintro _ _ ⟨b1, rfl, rfl⟩
  refine so_pure (opv_assign (by rfl)) (by rfl) rfl ?_
  refine jo_nil ?_
  refine jk_then ?_
  refine jc_seq ?_
  refine sc_region ?_
  refine so_pure (opv_makeFunc (by rfl) (by rfl)) (by rfl) rfl ?_
  refine so_pure (opv_assign (by rfl)) (by rfl) rfl ?_
  refine jo_nil ?_
  refine jk_then ?_
  refine jc_ret ?_
  refine jk_fn_ret rfl rfl (by rfl) (fun w hw => ?_)
  exact ⟨b1, rfl, St.sel hw (by repeat (first | exact Pks.nil _ | exact Pk.here _ | apply Pk.there | apply Pks.cons))⟩
theorem backward_spec (w : World) (sv : Value) {n : Nat} (h : SV sv n) : Does Try.prog 36 #[sv] w (fun v w' => ∃ b1, v = .func (.func 47) #[] #[.pointer (some ⟨b1, 0, none⟩)] ∧ St w Emp [blk b1 (.cells #[sv] 54 (0, 0))] w') := by
  obtain ⟨A, c, rfl, _⟩ := h
  exact backward0_spec w A n c
set_option maxHeartbeats 4000000 in
theorem back1_spec {w0 w : World} {M : Nat → Prop} {wv : Value} {n b1 l : Nat} {ws : List Wr} (hnx : n = ws.length) (hn : n ≤ 100000) (S E : Nat → List Itm) (hst : St w0 M (blk b1 (.cells #[wv] 54 (0, 0)) :: own wv 59 2 n (ws.flatMap Wr.cells) :: S n) w)
    (hy : ∀ (i : Nat) (x : Wr), i < n → ws[i]? = some x → ∀ w, St w0 M (blk b1 (.cells #[wv] 54 (0, 0)) :: own wv 59 2 n (ws.flatMap Wr.cells) :: S (i + 1)) w → Yl Try.prog l [.int .i64 (i : Int), .agg x.cells.toArray] w (fun v w' => ∃ b : Bool, v = .bool b ∧ St w0 M (blk b1 (.cells #[wv] 54 (0, 0)) :: own wv 59 2 n (ws.flatMap Wr.cells) :: (bif b then S i else E i)) w')) :
    Does Try.prog 47 #[.func (.yield l) #[] #[], .pointer (some ⟨b1, 0, none⟩)] w (fun _ w' => St w0 M (own wv 59 2 n (ws.flatMap Wr.cells) :: S 0) w' ∨ ∃ i, i < n ∧ St w0 M (own wv 59 2 n (ws.flatMap Wr.cells) :: E i) w') := by
  refine fn_bodyX (fn := Try.f47) Try.func47 rfl [(0, .func (.yield l) #[] #[]), (1, .pointer (some ⟨b1, 0, none⟩))] (by exact ⟨rfl, rfl, trivial⟩) rfl hst ?_
  refine jc_seq ?_
  refine sc_region ?_
  refine so_pure (opv_load (by rfl) na54 (rd_pk (by repeat (first | exact Pk.here _ | apply Pk.there))) (by rfl)) (by rfl) rfl ?_
  refine so_pure (opv_len_own (v := wv) (by rfl) Try.underlying54 (by repeat (first | exact Pk.here _ | apply Pk.there))) (by rfl) rfl ?_
  refine so_pure (opv_sub (by rfl) (by rfl) (wrap64_ok (by omega))) (by rfl) rfl ?_
  refine so_pure (opv_assign (by rfl)) (by rfl) rfl ?_
  refine jo_nil ?_
  refine jk_then ?_
  refine jc_block ?_
  refine jc_loop (σ := Nat) (fun k => [(0, .func (.yield l) #[] #[]), (1, .pointer (some ⟨b1, 0, none⟩)), (3, .int .i64 ((k : Int) - 1))]) (fun k => (blk b1 (.cells #[wv] 54 (0, 0)) :: own wv 59 2 n (ws.flatMap Wr.cells) :: S k)) (fun k => (k ≤ n) ∧ (True)) (fun k => k) n ⟨Nat.le_refl _, trivial⟩ ⟨rfl, rfl, rfl, trivial⟩ (fun w hw => hw) ?_
  rintro k ⟨hk, ht⟩
  show Jc _ _ [(0, .func (.yield l) #[] #[]), (1, .pointer (some ⟨b1, 0, none⟩)), (3, .int .i64 ((k : Int) - 1))] (blk b1 (.cells #[wv] 54 (0, 0)) :: own wv 59 2 n (ws.flatMap Wr.cells) :: S k) _
  refine jc_seq ?_
  refine jc_seq ?_
  refine sc_region ?_
  refine so_pure (opv_move (by rfl)) (by rfl) rfl ?_
  refine so_pure (opv_cmp (by rfl) (by rfl) (by rfl)) (by rfl) rfl ?_
  refine jo_nil ?_
  refine jk_then ?_
  refine sk_split (x := 8) (by rfl) (fun h7 => ?_) (fun h7 => ?_)
  · first | have p7 := of_decide_eq_true h7 | have p7 := of_decide_eq_false h7 | have p7 := ndT h7 | have p7 := ndF h7 | have p7 := nbT h7 | have p7 := nbF h7 | have p7 := h7
    refine sc_true (by rfl) h7 ?_
    refine jc_skip ?_
    refine jk_then ?_
    refine jc_seq ?_
    refine jc_block ?_
    refine jc_seq ?_
    obtain ⟨i, rfl⟩ : ∃ i, k = i + 1 := ⟨k - 1, by omega⟩
    rw [show (((i + 1 : Nat) : Int) - 1) = (i : Int) by omega]
    have hlt : i < n := by omega
    obtain ⟨x, hx⟩ : ∃ x, ws[i]? = some x := ⟨ws[i], List.getElem?_eq_getElem (by omega)⟩
    refine sc_region ?_
    refine so_pure (opv_move (by rfl)) (by rfl) rfl ?_
    refine so_pure (opv_move (by rfl)) (by rfl) rfl ?_
    refine so_pure (opv_load (by rfl) na54 (rd_pk (by repeat (first | exact Pk.here _ | apply Pk.there))) (by rfl)) (by rfl) rfl ?_
    refine so_pure (opv_move (by rfl)) (by rfl) rfl ?_
    refine so_pure (opv_indexAddr_own (i := i) (v := wv) (by rfl) (by rfl) Try.underlying54 ti59 (by repeat (first | exact Pk.here _ | apply Pk.there)) rfl hlt) (by rfl) rfl ?_
    refine so_pure (opv_load_elem (u := x) Wr.cells_len (by rfl) ag59 ti59 (by repeat (first | exact Pk.here _ | apply Pk.there)) (by omega) hx) (by rfl) rfl ?_
    refine so_eff (eff_yield (l := l) (G := fun v Is' => ∃ b : Bool, v = .bool b ∧ Is' = blk b1 (.cells #[wv] 54 (0, 0)) :: own wv 59 2 n (ws.flatMap Wr.cells) :: (bif b then S i else E i)) (by rfl) (by rfl) (by exact fun w1 hw1 => (hy i x hlt hx w1 hw1).mono (fun _ _ ⟨b, hv, hst⟩ => ⟨_, ⟨b, hv, rfl⟩, hst⟩))) (by rfl) rfl ?_
    rintro _ _ ⟨b, rfl, rfl⟩
    refine so_pure (opv_not (by rfl)) (by rfl) rfl ?_
    refine jo_nil ?_
    refine jk_then ?_
    refine sk_split (x := 18) (by rfl) (fun h13 => ?_) (fun h13 => ?_)
    · first | have p13 := of_decide_eq_true h13 | have p13 := of_decide_eq_false h13 | have p13 := ndT h13 | have p13 := ndF h13 | have p13 := nbT h13 | have p13 := nbF h13 | have p13 := h13
      have hb : b = false := by simpa using h13
      subst hb
      refine sc_true (by rfl) (not_t (nbT h13)) ?_
      refine jc_ret ?_
      refine jk_block_ret ?_
      refine jk_then_ret ?_
      refine jk_then_ret ?_
      refine jk_block_ret ?_
      refine jk_fn_ret0 rfl rfl (fun w hw => ?_)
      exact .inr ⟨i, hlt, hw.drop⟩
    · first | have p13 := of_decide_eq_true h13 | have p13 := of_decide_eq_false h13 | have p13 := ndT h13 | have p13 := ndF h13 | have p13 := nbT h13 | have p13 := nbF h13 | have p13 := h13
      have hb : b = true := by simpa using h13
      subst hb
      refine sc_false (by rfl) (not_f (nbF h13)) ?_
      refine jc_skip ?_
      refine jk_block ?_
      refine jk_then ?_
      refine sc_region ?_
      refine so_pure (opv_move (by rfl)) (by rfl) rfl ?_
      refine so_pure (opv_sub (by rfl) (by rfl) (wrap64_ok (by omega))) (by rfl) rfl ?_
      refine so_pure (opv_assign (by rfl)) (by rfl) rfl ?_
      refine jo_nil ?_
      refine jk_round (i) ⟨by omega, trivial⟩ (by show (i) < (i + 1); omega) ⟨rfl, rfl, rfl, trivial⟩ (fun w hw => ?_)
      show St _ _ (blk b1 (.cells #[wv] 54 (0, 0)) :: own wv 59 2 n (ws.flatMap Wr.cells) :: S (i)) _
      exact hw
  · first | have p7 := of_decide_eq_true h7 | have p7 := of_decide_eq_false h7 | have p7 := ndT h7 | have p7 := ndF h7 | have p7 := nbT h7 | have p7 := nbF h7 | have p7 := h7
    refine sc_false (by rfl) h7 ?_
    refine jc_exit ?_
    refine jk_then_exit ?_
    refine jk_then_exit ?_
    refine jk_block_exit ?_
    refine jk_fn_end0 rfl rfl (fun w hw => ?_)
    have ek : k = 0 := by omega
    subst ek
    exact .inl hw.drop
end Go.Disks
