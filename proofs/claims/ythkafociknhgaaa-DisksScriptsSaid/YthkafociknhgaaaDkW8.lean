/- A part of a proof for the laws of the seat Ythkafociknhgaaa; it has no conditions of its own. -/
import Derived.Test.YthkafociknhgaaaDkW7
namespace Go.Disks
open Go Go.SL Go.Proofs
set_option maxHeartbeats 4000000 in
theorem crash2_spec (w : World) (i at_ c7 c4 c8 c5 : Nat) (A B : Option Addr) (n m c c2 : Nat) (xs ys : List Bool) (hs : SlR w 4 1 bc A n xs) (ht : SlR w 4 1 bc B m ys) (hb : at_ + i ≤ 1000000000) (hc7 : w.heap[c7]? = some (.cells #[.func (.func 33) #[] #[]] 66 (0, 0))) (hc4 : w.heap[c4]? = some (.cells #[.slice A n c] 23 (0, 0))) (hc8 : w.heap[c8]? = some (.cells #[.int .i64 (at_ : Int)] 3 (0, 0))) (hc5 : w.heap[c5]? = some (.cells #[.slice B m c2] 23 (0, 0))) : Does Try.prog 34 #[.int .i64 (i : Int), .pointer (some ⟨c7, 0, none⟩), .pointer (some ⟨c4, 0, none⟩), .pointer (some ⟨c8, 0, none⟩), .pointer (some ⟨c5, 0, none⟩)] w (fun v w' => v = howV (crashH xs ys (at_ + i)) ∧ St w Emp [] w') := by
  refine fn_body (fn := Try.f34) Try.func34 rfl [(0, .int .i64 (i : Int)), (1, .pointer (some ⟨c7, 0, none⟩)), (2, .pointer (some ⟨c4, 0, none⟩)), (3, .pointer (some ⟨c8, 0, none⟩)), (4, .pointer (some ⟨c5, 0, none⟩))] (by exact ⟨rfl, rfl, rfl, rfl, rfl, trivial⟩) rfl (St.start w) ?_
  refine jc_seq ?_
  refine sc_region ?_
  refine so_pure (opv_assign (by rfl)) (by rfl) rfl ?_
  refine jo_nil ?_
  refine jk_then ?_
  refine jc_seq ?_
  refine jc_block ?_
  refine jc_seq ?_
  refine sc_region ?_
  refine so_pure (opv_load (by rfl) na66 (rd_old hc7 (fun h => h)) (by rfl)) (by rfl) rfl ?_
  refine so_pure (opv_load (by rfl) na23 (rd_old hc4 (fun h => h)) (by rfl)) (by rfl) rfl ?_
  refine so_pure (opv_load (by rfl) na3 (rd_old hc8 (fun h => h)) (by rfl)) (by rfl) rfl ?_
  refine so_pure (opv_move (by rfl)) (by rfl) rfl ?_
  refine so_pure (opv_add_nat (m := at_) (n := i) (by rfl) (by rfl) (by omega)) (by rfl) rfl ?_
  refine so_eff (eff_call0 (fl := []) (cl := []) (f := 33) (G := fun v New => v = .bool (isB xs (at_ + i)) ∧ New = []) (by rfl) (by rfl) tx33 (by exact fun w1 hw1 => (is_spec w1 A n c xs (hs.keepSt hw1) (at_ + i)).mono (fun _ _ ⟨hv, hst⟩ => ⟨[], ⟨hv, rfl⟩, hst⟩))) (by rfl) rfl ?_
  rintro _ _ ⟨_, ⟨rfl, rfl⟩, rfl⟩
  refine so_pure (opv_not (by rfl)) (by rfl) rfl ?_
  refine so_pure (opv_assign (by rfl)) (by rfl) rfl ?_
  refine jo_nil ?_
  refine jk_then ?_
  refine sk_split (x := 7) (by rfl) (fun h11 => ?_) (fun h11 => ?_)
  · first | have p11 := of_decide_eq_true h11 | have p11 := of_decide_eq_false h11 | have p11 := ndT h11 | have p11 := ndF h11 | have p11 := nbT h11 | have p11 := nbF h11 | have p11 := h11
    refine sc_true (by rfl) (not_t (nbT h11)) ?_
    refine jc_seq ?_
    refine sc_region ?_
    refine so_pure (opv_assign (by rfl)) (by rfl) rfl ?_
    refine jo_nil ?_
    refine jk_then ?_
    refine jc_ret ?_
    refine jk_block_ret ?_
    refine jk_then_ret ?_
    refine jk_fn_ret rfl rfl (by rfl) (fun w hw => ?_)
    refine ⟨?_, hw.forget⟩
    unfold crashH
    rw [if_neg (by rw [p11]; simp)]; rfl
  · first | have p11 := of_decide_eq_true h11 | have p11 := of_decide_eq_false h11 | have p11 := ndT h11 | have p11 := ndF h11 | have p11 := nbT h11 | have p11 := nbF h11 | have p11 := h11
    refine sc_false (by rfl) (not_f (nbF h11)) ?_
    refine jc_seq ?_
    refine sc_region ?_
    refine so_pure (opv_load (by rfl) na66 (rd_old hc7 (fun h => h)) (by rfl)) (by rfl) rfl ?_
    refine so_pure (opv_load (by rfl) na23 (rd_old hc5 (fun h => h)) (by rfl)) (by rfl) rfl ?_
    refine so_pure (opv_load (by rfl) na3 (rd_old hc8 (fun h => h)) (by rfl)) (by rfl) rfl ?_
    refine so_pure (opv_move (by rfl)) (by rfl) rfl ?_
    refine so_pure (opv_add_nat (m := at_) (n := i) (by rfl) (by rfl) (by omega)) (by rfl) rfl ?_
    refine so_eff (eff_call0 (fl := []) (cl := []) (f := 33) (G := fun v New => v = .bool (isB ys (at_ + i)) ∧ New = []) (by rfl) (by rfl) tx33 (by exact fun w1 hw1 => (is_spec w1 B m c2 ys (ht.keepSt hw1) (at_ + i)).mono (fun _ _ ⟨hv, hst⟩ => ⟨[], ⟨hv, rfl⟩, hst⟩))) (by rfl) rfl ?_
    rintro _ _ ⟨_, ⟨rfl, rfl⟩, rfl⟩
    refine so_pure (opv_assign (by rfl)) (by rfl) rfl ?_
    refine jo_nil ?_
    refine jk_then ?_
    refine sk_split (x := 15) (by rfl) (fun h17 => ?_) (fun h17 => ?_)
    · first | have p17 := of_decide_eq_true h17 | have p17 := of_decide_eq_false h17 | have p17 := ndT h17 | have p17 := ndF h17 | have p17 := nbT h17 | have p17 := nbF h17 | have p17 := h17
      refine sc_true (by rfl) h17 ?_
      refine jc_seq ?_
      refine sc_region ?_
      refine so_pure (opv_assign (by rfl)) (by rfl) rfl ?_
      refine jo_nil ?_
      refine jk_then ?_
      refine jc_ret ?_
      refine jk_block_ret ?_
      refine jk_then_ret ?_
      refine jk_fn_ret rfl rfl (by rfl) (fun w hw => ?_)
      refine ⟨?_, hw.forget⟩
      unfold crashH
      rw [if_pos p11, p17]; rfl
    · first | have p17 := of_decide_eq_true h17 | have p17 := of_decide_eq_false h17 | have p17 := ndT h17 | have p17 := ndF h17 | have p17 := nbT h17 | have p17 := nbF h17 | have p17 := h17
      refine sc_false (by rfl) h17 ?_
      refine jc_skip ?_
      refine jk_block ?_
      refine jk_then ?_
      refine jc_seq ?_
      refine sc_region ?_
      refine so_pure (opv_assign (by rfl)) (by rfl) rfl ?_
      refine jo_nil ?_
      refine jk_then ?_
      refine jc_ret ?_
      refine jk_fn_ret rfl rfl (by rfl) (fun w hw => ?_)
      refine ⟨?_, hw.forget⟩
      unfold crashH
      rw [if_pos p11, p17]; rfl
set_option maxHeartbeats 4000000 in
theorem settle_lost {w0 w : World} {M : Nat → Prop} {Fr : List Itm} {db : Nat} {hv : Value} (hst : St w0 M (blk db (.cells #[.map none, .slice none 0 0, .bool true] 57 (0, 0)) :: Fr) w) : Does Try.prog 28 #[.pointer (some ⟨db, 0, none⟩), hv] w (fun _ w' => St w0 M (blk db (.cells #[.map none, .slice none 0 0, .bool true] 57 (0, 0)) :: Fr) w') := by
  refine fn_bodyX (fn := Try.f28) Try.func28 rfl [(0, .pointer (some ⟨db, 0, none⟩)), (1, hv)] (by exact ⟨rfl, rfl, trivial⟩) rfl hst ?_
  refine jc_seq ?_
  refine jc_seq ?_
  refine sc_region ?_
  refine so_pure (opv_move (by rfl)) (by rfl) rfl ?_
  refine so_pure (opv_nilCheck (by rfl)) (by rfl) rfl ?_
  refine so_pure (opv_fieldAddr (by rfl) fld57_1) (by rfl) rfl ?_
  refine so_pure (opv_load (by rfl) na54 (rd_pk (by repeat (first | exact Pk.here _ | apply Pk.there))) (by rfl)) (by rfl) rfl ?_
  refine so_pure (opv_len_slice (n := 0) (by rfl) Try.underlying54) (by rfl) rfl ?_
  refine so_pure (opv_move (by rfl)) (by rfl) rfl ?_
  refine jo_nil ?_
  refine jk_then ?_
  refine jc_block ?_
  refine jc_loop (σ := Nat) (fun k => [(0, .pointer (some ⟨db, 0, none⟩)), (11, .int .i64 ((0 : Nat) : Int)), (12, .int .i64 k)]) (fun k => (blk db (.cells #[.map none, .slice none 0 0, .bool true] 57 (0, 0)) :: Fr)) (fun k => (k ≤ 0) ∧ (True)) (fun k => 0 - k) 0 ⟨Nat.zero_le _, trivial⟩ ⟨rfl, rfl, rfl, trivial⟩ (fun w hw => hw) ?_
  rintro k ⟨hk, ht⟩
  show Jc _ _ [(0, .pointer (some ⟨db, 0, none⟩)), (11, .int .i64 ((0 : Nat) : Int)), (12, .int .i64 k)] (blk db (.cells #[.map none, .slice none 0 0, .bool true] 57 (0, 0)) :: Fr) _
  refine jc_seq ?_
  refine sc_region ?_
  refine so_pure (opv_cmp (by rfl) (by rfl) (by rfl)) (by rfl) rfl ?_
  refine jo_nil ?_
  refine jk_then ?_
  refine jc_seq ?_
  refine sk_split (x := 13) (by rfl) (fun h8 => ?_) (fun h8 => ?_)
  · first | have p8 := of_decide_eq_true h8 | have p8 := of_decide_eq_false h8 | have p8 := ndT h8 | have p8 := ndF h8 | have p8 := nbT h8 | have p8 := nbF h8 | have p8 := h8
    omega
  · first | have p8 := of_decide_eq_true h8 | have p8 := of_decide_eq_false h8 | have p8 := ndT h8 | have p8 := ndF h8 | have p8 := nbT h8 | have p8 := nbF h8 | have p8 := h8
    refine sc_false (by rfl) h8 ?_
    refine jc_exit ?_
    refine jk_then_exit ?_
    refine jk_then_exit ?_
    refine jk_block_exit ?_
    refine jk_then ?_
    refine sc_region ?_
    refine so_pure (opv_move (by rfl)) (by rfl) rfl ?_
    refine so_pure (opv_nilCheck (by rfl)) (by rfl) rfl ?_
    refine so_pure (opv_fieldAddr (by rfl) fld57_1) (by rfl) rfl ?_
    refine so_eff0 (eff_store (vs := [.slice none 0 0]) (by rfl) (by rfl) (by rfl) ti54 (by rfl) (by repeat (first | exact Pk.here _ | apply Pk.there)) (by exact Nat.le_of_ble_eq_true rfl) (by rfl)) (by rfl) ?_
    rintro _ _ ⟨rfl, rfl⟩
    refine jo_nil ?_
    refine jk_fn_end0 rfl rfl (fun w hw => ?_)
    exact hw
end Go.Disks
