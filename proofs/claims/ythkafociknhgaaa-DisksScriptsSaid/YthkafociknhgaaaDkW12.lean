/- A part of a proof for the laws of the seat Ythkafociknhgaaa; it has no conditions of its own. -/
import Derived.Test.YthkafociknhgaaaDkW11
namespace Go.Disks
open Go Go.SL Go.Proofs
set_option maxHeartbeats 4000000 in
theorem mclone_spec {w0 w : World} {M : Nat → Prop} {Fr : List Itm} {b : Nat} {l : List (Int × Value)} (hst : St w0 M (mapI kvI b l :: Fr) w) : Does Try.prog 31 #[.map (some b)] w (fun v w' => ∃ n, v = .map (some n) ∧ St w0 M (mapI kvI n l :: mapI kvI b l :: Fr) w') := by
  refine fn_bodyX (fn := Try.f31) Try.func31 rfl [(0, .map (some b))] (by exact ⟨rfl, trivial⟩) rfl hst ?_
  refine jc_seq ?_
  refine sc_region ?_
  refine so_pure (opv_assign (by rfl)) (by rfl) rfl ?_
  refine jo_nil ?_
  refine jk_then ?_
  refine jc_seq ?_
  refine jc_seq ?_
  refine sc_region ?_
  refine so_pure (opv_move (by rfl)) (by rfl) rfl ?_
  refine so_pure (opv_map_nil (by rfl) (by rfl) Try.underlying55) (by rfl) rfl ?_
  refine jo_nil ?_
  refine jk_then ?_
  refine sc_false (by rfl) rfl ?_
  refine jc_skip ?_
  refine jk_then ?_
  refine jc_seq ?_
  refine sc_region ?_
  refine so_pure (opv_move (by rfl)) (by rfl) rfl ?_
  refine so_pure (opv_makeIface (by rfl) Try.underlying55 (by intro ms h; cases h)) (by rfl) rfl ?_
  refine so_eff (eff_mapsClone (kv := kvI) (b := b) (l := l) (by rfl) Try.func46 (by kernel_rfl) (by kernel_rfl) (by kernel_rfl) (by kernel_rfl) (by repeat (first | exact Pk.here _ | apply Pk.there))) (by rfl) rfl ?_
  rintro _ _ ⟨nb, rfl, rfl⟩
  refine so_pure (opv_typeAssert (by rfl) Try.underlying55) (by rfl) rfl ?_
  refine so_pure (opv_assign (by rfl)) (by rfl) rfl ?_
  refine jo_nil ?_
  refine jk_then ?_
  refine jc_ret ?_
  refine jk_fn_ret rfl rfl (by rfl) (fun w hw => ?_)
  exact ⟨nb, rfl, St.keep (Sb := [mapI kvI nb l, mapI kvI b l]) hw (by repeat (first | exact Pks.nil _ | exact Pk.here _ | apply Pk.there | apply Pks.cons)) (by repeat (first | exact Tl.here _ | apply Tl.there))⟩
set_option maxHeartbeats 4000000 in
theorem mclone_nil (w : World) : Does Try.prog 31 #[.map none] w (fun v w' => v = .map none ∧ St w Emp [] w') := by
  refine fn_body (fn := Try.f31) Try.func31 rfl [(0, .map none)] (by exact ⟨rfl, trivial⟩) rfl (St.start w) ?_
  refine jc_seq ?_
  refine sc_region ?_
  refine so_pure (opv_assign (by rfl)) (by rfl) rfl ?_
  refine jo_nil ?_
  refine jk_then ?_
  refine jc_seq ?_
  refine jc_seq ?_
  refine sc_region ?_
  refine so_pure (opv_move (by rfl)) (by rfl) rfl ?_
  refine so_pure (opv_map_nil (by rfl) (by rfl) Try.underlying55) (by rfl) rfl ?_
  refine jo_nil ?_
  refine jk_then ?_
  refine sc_true (by rfl) rfl ?_
  refine jc_seq ?_
  refine sc_region ?_
  refine so_pure (opv_assign (by rfl)) (by rfl) rfl ?_
  refine jo_nil ?_
  refine jk_then ?_
  refine jc_ret ?_
  refine jk_then_ret ?_
  refine jk_fn_ret rfl rfl (by rfl) (fun w hw => ?_)
  exact ⟨rfl, hw.forget⟩
set_option maxHeartbeats 4000000 in
theorem clone_nil (w : World) : Does Try.prog 32 #[.slice none 0 0] w (fun v w' => v = .slice none 0 0 ∧ St w Emp [] w') := by
  refine fn_body (fn := Try.f32) Try.func32 rfl [(0, .slice none 0 0)] (by exact ⟨rfl, trivial⟩) rfl (St.start w) ?_
  refine jc_seq ?_
  refine sc_region ?_
  refine so_pure (opv_assign (by rfl)) (by rfl) rfl ?_
  refine jo_nil ?_
  refine jk_then ?_
  refine jc_seq ?_
  refine jc_seq ?_
  refine sc_region ?_
  refine so_pure (opv_move (by rfl)) (by rfl) rfl ?_
  refine so_pure (opv_slice_nil (by rfl) (by rfl) Try.underlying54) (by rfl) rfl ?_
  refine jo_nil ?_
  refine jk_then ?_
  refine sc_true (by rfl) rfl ?_
  refine jc_seq ?_
  refine sc_region ?_
  refine so_pure (opv_assign (by rfl)) (by rfl) rfl ?_
  refine jo_nil ?_
  refine jk_then ?_
  refine jc_ret ?_
  refine jk_then_ret ?_
  refine jk_fn_ret rfl rfl (by rfl) (fun w hw => ?_)
  exact ⟨rfl, hw.forget⟩
set_option maxHeartbeats 4000000 in
theorem clone_spec (w : World) (A : Option Addr) (n cap : Nat) (xs : List Wr) (hs : SlR w 59 2 Wr.cells A n xs) (hn : n ≤ 1000000) : Does Try.prog 32 #[.slice A n cap] w (fun v w' => St w Emp [own v 59 2 n (xs.flatMap Wr.cells)] w') := by
  refine fn_body (fn := Try.f32) Try.func32 rfl [(0, .slice A n cap)] (by exact ⟨rfl, trivial⟩) rfl (St.start w) ?_
  refine jc_seq ?_
  refine sc_region ?_
  refine so_pure (opv_assign (by rfl)) (by rfl) rfl ?_
  refine jo_nil ?_
  refine jk_then ?_
  refine jc_seq ?_
  refine jc_seq ?_
  refine sc_region ?_
  refine so_pure (opv_move (by rfl)) (by rfl) rfl ?_
  refine so_pure (opv_slice_nil (by rfl) (by rfl) Try.underlying54) (by rfl) rfl ?_
  refine jo_nil ?_
  refine jk_then ?_
  refine sk_split (x := 4) (by rfl) (fun h3 => ?_) (fun h3 => ?_)
  · first | have p3 := of_decide_eq_true h3 | have p3 := of_decide_eq_false h3 | have p3 := ndT h3 | have p3 := ndF h3 | have p3 := nbT h3 | have p3 := nbF h3 | have p3 := h3
    refine sc_true (by rfl) h3 ?_
    refine jc_seq ?_
    refine sc_region ?_
    refine so_pure (opv_assign (by rfl)) (by rfl) rfl ?_
    refine jo_nil ?_
    refine jk_then ?_
    refine jc_ret ?_
    refine jk_then_ret ?_
    refine jk_fn_ret rfl rfl (by rfl) (fun w hw => ?_)
    obtain rfl : A = none := by cases A with
      | none => rfl
      | some _ => simp at h3
    obtain ⟨rfl, rfl⟩ : n = 0 ∧ xs = [] := by
      rcases xs with _ | ⟨x, xs⟩
      · exact ⟨hs.1, rfl⟩
      · obtain ⟨_, _, _, _, h, _⟩ := hs.2 (by simp)
        cases h
    exact hw.own_nil 59 2
  · first | have p3 := of_decide_eq_true h3 | have p3 := of_decide_eq_false h3 | have p3 := ndT h3 | have p3 := ndF h3 | have p3 := nbT h3 | have p3 := nbF h3 | have p3 := h3
    refine sc_false (by rfl) h3 ?_
    refine jc_skip ?_
    refine jk_then ?_
    refine jc_seq ?_
    refine sc_region ?_
    refine so_eff (eff_buildSlice (by rfl) (fun w => by exact bsl54_0_ ..)) (by rfl) rfl ?_
    rintro _ _ ⟨b5, rfl, rfl⟩
    refine jk_own_mk (n := 0) (cap := 0) (size := 2) (xs := []) (by repeat (first | exact Pk.here _ | apply Pk.there)) (Nat.le_refl _) (Nat.zero_le _) rfl rfl ?_
    refine so_pure (opv_move (by rfl)) (by rfl) rfl ?_
    refine so_eff (eff_append_slr (n := 0) (xs := []) Wr.cells_len (by rfl) (by rfl) Try.underlying54 ti59 (by rfl) (by omega) (by repeat (first | exact Pk.here _ | apply Pk.there)) rfl hs (wrs_one xs) (by unfold maxLen; omega) (by omega)) (by rfl) rfl ?_
    rintro v7 _ rfl
    refine so_pure (opv_assign (by rfl)) (by rfl) rfl ?_
    refine jo_nil ?_
    refine jk_then ?_
    refine jc_ret ?_
    refine jk_fn_ret rfl rfl (by rfl) (fun w hw => ?_)
    have := St.sel hw (Sb := [own v7 59 2 (0 + n) ([] ++ xs.flatMap Wr.cells)]) (by repeat (first | exact Pks.nil _ | exact Pk.here _ | apply Pk.there | apply Pks.cons))
    simpa using this
end Go.Disks
