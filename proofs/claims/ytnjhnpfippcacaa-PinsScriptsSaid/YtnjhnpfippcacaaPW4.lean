/- A part of a proof for the laws of the seat Ytnjhnpfippcacaa; it has no conditions of its own. -/
import Derived.Test.YtnjhnpfippcacaaPW3
namespace Go.Pins
open Go Go.SL Go.Proofs
set_option maxHeartbeats 4000000 in
theorem clone_locs (w : World) (A : Option Addr) (n cap : Nat) (xs : List Loc) (hs : SlR w 57 2 Loc.cells A n xs) (hn : Small n) : Does Try.prog 25 #[.slice A n cap] w (fun v w' => St w Emp [own v 57 2 n (xs.flatMap Loc.cells)] w') := by
  have hn0 := hn
  unfold Small at hn
  refine fn_body (fn := Try.f25) Try.func25 rfl [(0, .slice A n cap)] (by exact ⟨rfl, trivial⟩) rfl (St.start w) ?_
  refine jc_seq ?_
  refine sc_region ?_
  refine so_pure (opv_assign (by rfl)) (by rfl) rfl ?_
  refine jo_nil ?_
  refine jk_then ?_
  refine jc_seq ?_
  refine jc_seq ?_
  refine sc_region ?_
  refine so_pure (opv_move (by rfl)) (by rfl) rfl ?_
  refine so_pure (opv_slice_nil (by rfl) (by rfl) Try.underlying31) (by rfl) rfl ?_
  refine jo_nil ?_
  refine jk_then ?_
  refine sk_split (x := 4) (by rfl) (fun h3 => ?_) (fun h3 => ?_)
  · first | have p3 := of_decide_eq_true h3 | have p3 := of_decide_eq_false h3 | have p3 := ndT h3 | have p3 := ndF h3 | have p3 := nbT h3 | have p3 := nbF h3 | have p3 := h3
    refine sc_true (by rfl) h3 ?_
    refine jc_seq ?_
    refine sc_region ?_
    refine so_pure (opv_assign (by rfl)) (by rfl) rfl ?_
    refine jo_nil ?_
    refine jk_then ?_
    refine jc_ret ?_
    refine jk_then_ret ?_
    refine jk_fn_ret rfl rfl (by rfl) (fun w hw => ?_)
    obtain rfl : A = none := by cases A with
      | none => rfl
      | some _ => simp at h3
    obtain ⟨rfl, rfl⟩ : n = 0 ∧ xs = [] := by
      rcases xs with _ | ⟨x, xs⟩
      · exact ⟨hs.1, rfl⟩
      · obtain ⟨_, _, _, _, h, _⟩ := hs.2 (by simp)
        cases h
    exact hw.own_nil 57 2
  · first | have p3 := of_decide_eq_true h3 | have p3 := of_decide_eq_false h3 | have p3 := ndT h3 | have p3 := ndF h3 | have p3 := nbT h3 | have p3 := nbF h3 | have p3 := h3
    refine sc_false (by rfl) h3 ?_
    refine jc_skip ?_
    refine jk_then ?_
    refine jc_seq ?_
    refine sc_region ?_
    refine so_eff (eff_buildSlice (by rfl) (fun w => by exact bsl31_0_ ..)) (by rfl) rfl ?_
    rintro _ _ ⟨b5, rfl, rfl⟩
    refine jk_own_mk (n := 0) (cap := 0) (size := 2) (xs := []) (by repeat (first | exact Pk.here _ | apply Pk.there)) (Nat.le_refl _) (Nat.zero_le _) rfl rfl ?_
    refine so_pure (opv_move (by rfl)) (by rfl) rfl ?_
    refine so_eff (eff_append_slr (n := 0) (xs := []) Loc.cells_len (by rfl) (by rfl) Try.underlying31 ti57 (by rfl) (by omega) (by repeat (first | exact Pk.here _ | apply Pk.there)) rfl hs (locs_one xs) (by unfold maxLen; omega) (by omega)) (by rfl) rfl ?_
    rintro v7 _ rfl
    refine so_pure (opv_assign (by rfl)) (by rfl) rfl ?_
    refine jo_nil ?_
    refine jk_then ?_
    refine jc_ret ?_
    refine jk_fn_ret rfl rfl (by rfl) (fun w hw => ?_)
    have := St.sel hw (Sb := [own v7 57 2 (0 + n) ([] ++ xs.flatMap Loc.cells)]) (by repeat (first | exact Pks.nil _ | exact Pk.here _ | apply Pk.there | apply Pks.cons))
    simpa using this
set_option maxHeartbeats 4000000 in
theorem clone_vols (w : World) (A : Option Addr) (n cap : Nat) (xs : List Vol) (hs : SlR w 33 4 Vol.cells A n xs) (hn : n ≤ 1000000) : Does Try.prog 29 #[.slice A n cap] w (fun v w' => St w Emp [own v 33 4 n (xs.flatMap Vol.cells)] w') := by
  refine fn_body (fn := Try.f29) Try.func29 rfl [(0, .slice A n cap)] (by exact ⟨rfl, trivial⟩) rfl (St.start w) ?_
  refine jc_seq ?_
  refine sc_region ?_
  refine so_pure (opv_assign (by rfl)) (by rfl) rfl ?_
  refine jo_nil ?_
  refine jk_then ?_
  refine jc_seq ?_
  refine jc_seq ?_
  refine sc_region ?_
  refine so_pure (opv_move (by rfl)) (by rfl) rfl ?_
  refine so_pure (opv_slice_nil (by rfl) (by rfl) Try.underlying28) (by rfl) rfl ?_
  refine jo_nil ?_
  refine jk_then ?_
  refine sk_split (x := 4) (by rfl) (fun h3 => ?_) (fun h3 => ?_)
  · first | have p3 := of_decide_eq_true h3 | have p3 := of_decide_eq_false h3 | have p3 := ndT h3 | have p3 := ndF h3 | have p3 := nbT h3 | have p3 := nbF h3 | have p3 := h3
    refine sc_true (by rfl) h3 ?_
    refine jc_seq ?_
    refine sc_region ?_
    refine so_pure (opv_assign (by rfl)) (by rfl) rfl ?_
    refine jo_nil ?_
    refine jk_then ?_
    refine jc_ret ?_
    refine jk_then_ret ?_
    refine jk_fn_ret rfl rfl (by rfl) (fun w hw => ?_)
    obtain rfl : A = none := by cases A with
      | none => rfl
      | some _ => simp at h3
    obtain ⟨rfl, rfl⟩ : n = 0 ∧ xs = [] := by
      rcases xs with _ | ⟨x, xs⟩
      · exact ⟨hs.1, rfl⟩
      · obtain ⟨_, _, _, _, h, _⟩ := hs.2 (by simp)
        cases h
    exact hw.own_nil 33 4
  · first | have p3 := of_decide_eq_true h3 | have p3 := of_decide_eq_false h3 | have p3 := ndT h3 | have p3 := ndF h3 | have p3 := nbT h3 | have p3 := nbF h3 | have p3 := h3
    refine sc_false (by rfl) h3 ?_
    refine jc_skip ?_
    refine jk_then ?_
    refine jc_seq ?_
    refine sc_region ?_
    refine so_eff (eff_buildSlice (by rfl) (fun w => by exact bsl28_0_ ..)) (by rfl) rfl ?_
    rintro _ _ ⟨b5, rfl, rfl⟩
    refine jk_own_mk (n := 0) (cap := 0) (size := 4) (xs := []) (by repeat (first | exact Pk.here _ | apply Pk.there)) (Nat.le_refl _) (Nat.zero_le _) rfl rfl ?_
    refine so_pure (opv_move (by rfl)) (by rfl) rfl ?_
    refine so_eff (eff_append_slr (n := 0) (xs := []) Vol.cells_len (by rfl) (by rfl) Try.underlying28 ti33 (by rfl) (by omega) (by repeat (first | exact Pk.here _ | apply Pk.there)) rfl hs (vols_one xs) (by unfold maxLen; omega) (by omega)) (by rfl) rfl ?_
    rintro v7 _ rfl
    refine so_pure (opv_assign (by rfl)) (by rfl) rfl ?_
    refine jo_nil ?_
    refine jk_then ?_
    refine jc_ret ?_
    refine jk_fn_ret rfl rfl (by rfl) (fun w hw => ?_)
    have := St.sel hw (Sb := [own v7 33 4 (0 + n) ([] ++ xs.flatMap Vol.cells)]) (by repeat (first | exact Pks.nil _ | exact Pk.here _ | apply Pk.there | apply Pks.cons))
    simpa using this
end Go.Pins
