/- A part of a proof for the laws of the seat Ytcjhahjjeicmoaa; it has no conditions of its own. -/
import Derived.Test.YtcjhahjjeicmoaaHW5
namespace Go.Hist
open Go Go.SL Go.Proofs
set_option maxHeartbeats 4000000 in
theorem clone_spec (w : World) (A : Option Addr) (n cap : Nat) (xs : List Ev) (hs : SlR w 39 8 Ev.cells A n xs) (hn : n ≤ 1000000) : Does Try.prog 16 #[.slice A n cap] w (fun v w' => St w Emp [own v 39 8 n (xs.flatMap Ev.cells)] w') := by
  refine fn_body (fn := Try.f16) Try.func16 rfl [(0, .slice A n cap)] (by exact ⟨rfl, trivial⟩) rfl (St.start w) ?_
  refine jc_seq ?_
  refine sc_region ?_
  refine so_pure (opv_assign (by rfl)) (by rfl) rfl ?_
  refine jo_nil ?_
  refine jk_then ?_
  refine jc_seq ?_
  refine jc_seq ?_
  refine sc_region ?_
  refine so_pure (opv_move (by rfl)) (by rfl) rfl ?_
  refine so_pure (opv_slice_nil (by rfl) (by rfl) Try.underlying22) (by rfl) rfl ?_
  refine jo_nil ?_
  refine jk_then ?_
  refine sk_split (x := 4) (by rfl) (fun h3 => ?_) (fun h3 => ?_)
  · first | have p3 := of_decide_eq_true h3 | have p3 := of_decide_eq_false h3 | have p3 := ndT h3 | have p3 := ndF h3 | have p3 := nbT h3 | have p3 := nbF h3 | have p3 := h3
    refine sc_true (by rfl) h3 ?_
    refine jc_seq ?_
    refine sc_region ?_
    refine so_pure (opv_assign (by rfl)) (by rfl) rfl ?_
    refine jo_nil ?_
    refine jk_then ?_
    refine jc_ret ?_
    refine jk_then_ret ?_
    refine jk_fn_ret rfl rfl (by rfl) (fun w hw => ?_)
    obtain rfl : A = none := by cases A with
      | none => rfl
      | some _ => simp at h3
    obtain ⟨rfl, rfl⟩ : n = 0 ∧ xs = [] := by
      rcases xs with _ | ⟨x, xs⟩
      · exact ⟨hs.1, rfl⟩
      · obtain ⟨_, _, _, _, h, _⟩ := hs.2 (by simp)
        cases h
    exact hw.own_nil 39 8
  · first | have p3 := of_decide_eq_true h3 | have p3 := of_decide_eq_false h3 | have p3 := ndT h3 | have p3 := ndF h3 | have p3 := nbT h3 | have p3 := nbF h3 | have p3 := h3
    refine sc_false (by rfl) h3 ?_
    refine jc_skip ?_
    refine jk_then ?_
    refine jc_seq ?_
    refine sc_region ?_
    refine so_eff (eff_buildSlice (by rfl) (fun w => by exact bsl22_0_ ..)) (by rfl) rfl ?_
    rintro _ _ ⟨b5, rfl, rfl⟩
    refine jk_own_mk (n := 0) (cap := 0) (size := 8) (xs := []) (by repeat (first | exact Pk.here _ | apply Pk.there)) (Nat.le_refl _) (Nat.zero_le _) rfl rfl ?_
    refine so_pure (opv_move (by rfl)) (by rfl) rfl ?_
    refine so_eff (eff_append_slr (n := 0) (xs := []) Ev.cells_len (by rfl) (by rfl) Try.underlying22 ti39 (by rfl) (by omega) (by repeat (first | exact Pk.here _ | apply Pk.there)) rfl hs (evs_one xs) (by unfold maxLen; omega) (by omega)) (by rfl) rfl ?_
    rintro v7 _ rfl
    refine so_pure (opv_assign (by rfl)) (by rfl) rfl ?_
    refine jo_nil ?_
    refine jk_then ?_
    refine jc_ret ?_
    refine jk_fn_ret rfl rfl (by rfl) (fun w hw => ?_)
    have := St.sel hw (Sb := [own v7 39 8 (0 + n) ([] ++ xs.flatMap Ev.cells)]) (by repeat (first | exact Pks.nil _ | exact Pk.here _ | apply Pk.there | apply Pks.cons))
    simpa using this
set_option maxHeartbeats 4000000 in
theorem index_spec {w0 w : World} {M : Nat → Prop} {Fr : List Itm} {sv : Value} {n tb : Nat} {xs : List Ev} {p : Ev → Bool} (hst : St w0 M (own sv 39 8 n (xs.flatMap Ev.cells) :: Fr) w) (hnx : n = xs.length) (hn : n ≤ 1000000)
    (hf : ∀ (x : Ev) (Is2 : List Itm) (w : World), St w0 M (Is2 ++ Fr) w → Does Try.prog 18 #[.agg x.cells.toArray, .pointer (some ⟨tb, 0, none⟩)] w fun v w' => v = .bool (p x) ∧ St w Emp [] w') : Does Try.prog 20 #[sv, .func (.func 18) #[] #[.pointer (some ⟨tb, 0, none⟩)]] w (fun v w' => Idx p xs v ∧ St w0 M (own sv 39 8 n (xs.flatMap Ev.cells) :: Fr) w') := by
  refine fn_bodyX (fn := Try.f20) Try.func20 rfl [(0, sv), (1, .func (.func 18) #[] #[.pointer (some ⟨tb, 0, none⟩)])] (by exact ⟨rfl, rfl, trivial⟩) rfl hst ?_
  refine jc_seq ?_
  refine sc_region ?_
  refine so_pure (opv_assign (by rfl)) (by rfl) rfl ?_
  refine jo_nil ?_
  refine jk_then ?_
  refine jc_seq ?_
  refine jc_seq ?_
  refine sc_region ?_
  refine so_pure (opv_move (by rfl)) (by rfl) rfl ?_
  refine so_pure (opv_len_own (by rfl) Try.underlying22 (by repeat (first | exact Pk.here _ | apply Pk.there))) (by rfl) rfl ?_
  refine so_pure (opv_move (by rfl)) (by rfl) rfl ?_
  refine jo_nil ?_
  refine jk_then ?_
  refine jc_block ?_
  refine jc_loop (σ := Nat) (fun k => [(0, sv), (1, .func (.func 18) #[] #[.pointer (some ⟨tb, 0, none⟩)]), (7, .int .i64 n), (8, .int .i64 k)]) (fun k => (own sv 39 8 n (xs.flatMap Ev.cells) :: Fr)) (fun k => (k ≤ n) ∧ ((xs.take k).all (fun y => !p y) = true)) (fun k => n - k) 0 ⟨Nat.zero_le _, rfl⟩ ⟨rfl, rfl, rfl, rfl, trivial⟩ (fun w hw => hw) ?_
  rintro k ⟨hk, ha⟩
  show Jc _ _ [(0, sv), (1, .func (.func 18) #[] #[.pointer (some ⟨tb, 0, none⟩)]), (7, .int .i64 n), (8, .int .i64 k)] (own sv 39 8 n (xs.flatMap Ev.cells) :: Fr) _
  refine jc_seq ?_
  refine sc_region ?_
  refine so_pure (opv_cmp (by rfl) (by rfl) (by rfl)) (by rfl) rfl ?_
  refine jo_nil ?_
  refine jk_then ?_
  refine jc_seq ?_
  refine sk_split (x := 9) (by rfl) (fun h6 => ?_) (fun h6 => ?_)
  · first | have p6 := of_decide_eq_true h6 | have p6 := of_decide_eq_false h6 | have p6 := ndT h6 | have p6 := ndF h6 | have p6 := nbT h6 | have p6 := nbF h6 | have p6 := h6
    refine sc_true (by rfl) h6 ?_
    refine jc_skip ?_
    refine jk_then ?_
    refine jc_seq ?_
    refine jc_block ?_
    refine jc_seq ?_
    refine sc_region ?_
    refine so_pure (opv_move (by rfl)) (by rfl) rfl ?_
    refine so_pure (opv_assign (by rfl)) (by rfl) rfl ?_
    refine jo_nil ?_
    refine jk_then ?_
    refine jc_seq ?_
    refine sc_region ?_
    have hlt : k < n := by omega
    obtain ⟨x, hx⟩ : ∃ x, xs[k]? = some x := ⟨xs[k], List.getElem?_eq_getElem (by omega)⟩
    refine so_pure (opv_move (by rfl)) (by rfl) rfl ?_
    refine so_pure (opv_move (by rfl)) (by rfl) rfl ?_
    refine so_pure (opv_move (by rfl)) (by rfl) rfl ?_
    refine so_pure (opv_indexAddr_own (i := k) (by rfl) (by rfl) Try.underlying22 ti39 (by repeat (first | exact Pk.here _ | apply Pk.there)) rfl hlt) (by rfl) rfl ?_
    refine so_pure (opv_load_elem (u := x) Ev.cells_len (by rfl) ag39 ti39 (by repeat (first | exact Pk.here _ | apply Pk.there)) (by omega) hx) (by rfl) rfl ?_
    refine so_eff (eff_call0 (G := fun v New => v = .bool (p x) ∧ New = []) (by rfl) (by rfl) tx18 (by exact fun w1 hw1 => (hf x [own sv 39 8 n (xs.flatMap Ev.cells)] w1 hw1).mono (fun _ _ ⟨hv, hst⟩ => ⟨[], ⟨hv, rfl⟩, hst⟩))) (by rfl) rfl ?_
    rintro _ _ ⟨_, ⟨rfl, rfl⟩, rfl⟩
    refine jo_nil ?_
    refine jk_then ?_
    refine sk_split (x := 16) (by rfl) (fun h10 => ?_) (fun h10 => ?_)
    · first | have p10 := of_decide_eq_true h10 | have p10 := of_decide_eq_false h10 | have p10 := ndT h10 | have p10 := ndF h10 | have p10 := nbT h10 | have p10 := nbF h10 | have p10 := h10
      refine sc_true (by rfl) h10 ?_
      refine jc_seq ?_
      refine sc_region ?_
      refine so_pure (opv_move (by rfl)) (by rfl) rfl ?_
      refine so_pure (opv_assign (by rfl)) (by rfl) rfl ?_
      refine jo_nil ?_
      refine jk_then ?_
      refine jc_ret ?_
      refine jk_block_ret ?_
      refine jk_then_ret ?_
      refine jk_then_ret ?_
      refine jk_block_ret ?_
      refine jk_then_ret ?_
      refine jk_fn_ret rfl rfl (by rfl) (fun w hw => ?_)
      exact ⟨⟨k, rfl, .inr ⟨k, x, rfl, hx, p10, ha⟩⟩, hw⟩
    · first | have p10 := of_decide_eq_true h10 | have p10 := of_decide_eq_false h10 | have p10 := ndT h10 | have p10 := ndF h10 | have p10 := nbT h10 | have p10 := nbF h10 | have p10 := h10
      refine sc_false (by rfl) h10 ?_
      refine jc_skip ?_
      refine jk_block ?_
      refine jk_then ?_
      refine sc_region ?_
      refine so_pure (opv_add (by rfl) (by rfl) (wrap64_ok (by omega))) (by rfl) rfl ?_
      refine so_pure (opv_move (by rfl)) (by rfl) rfl ?_
      refine jo_nil ?_
      refine jk_round (k + 1) ⟨by omega, all_step' hx ha (by rw [p10]; rfl)⟩ (by show n - (k + 1) < n - k; omega) ⟨rfl, rfl, rfl, rfl, trivial⟩ (fun w hw => ?_)
      show St _ _ (own sv 39 8 n (xs.flatMap Ev.cells) :: Fr) _
      exact hw
  · first | have p6 := of_decide_eq_true h6 | have p6 := of_decide_eq_false h6 | have p6 := ndT h6 | have p6 := ndF h6 | have p6 := nbT h6 | have p6 := nbF h6 | have p6 := h6
    refine sc_false (by rfl) h6 ?_
    refine jc_exit ?_
    refine jk_then_exit ?_
    refine jk_then_exit ?_
    refine jk_block_exit ?_
    refine jk_then ?_
    refine jc_seq ?_
    refine sc_region ?_
    refine so_pure (opv_assign (by rfl)) (by rfl) rfl ?_
    refine jo_nil ?_
    refine jk_then ?_
    refine jc_ret ?_
    refine jk_fn_ret rfl rfl (by rfl) (fun w hw => ?_)
    obtain rfl : k = n := by omega
    rw [hnx, List.take_length] at ha
    exact ⟨⟨-1, rfl, .inl ⟨rfl, ha⟩⟩, hw⟩
set_option maxHeartbeats 4000000 in
theorem delete_spec {w0 w : World} {M : Nat → Prop} {Fr : List Itm} {sv : Value} {n tb : Nat} {xs : List Ev} {p : Ev → Bool} (hst : St w0 M (own sv 39 8 n (xs.flatMap Ev.cells) :: Fr) w) (hnx : n = xs.length) (hn : n ≤ 1000000)
    (hf : ∀ (x : Ev) (Is2 : List Itm) (w : World), St w0 M (Is2 ++ Fr) w → Does Try.prog 18 #[.agg x.cells.toArray, .pointer (some ⟨tb, 0, none⟩)] w fun v w' => v = .bool (p x) ∧ St w Emp [] w') : Does Try.prog 17 #[sv, .func (.func 18) #[] #[.pointer (some ⟨tb, 0, none⟩)]] w (fun v w' => St w0 M (own v 39 8 (xs.filter fun y => !p y).length ((xs.filter fun y => !p y).flatMap Ev.cells) :: Fr) w') := by
  refine fn_bodyX (fn := Try.f17) Try.func17 rfl [(0, sv), (1, .func (.func 18) #[] #[.pointer (some ⟨tb, 0, none⟩)])] (by exact ⟨rfl, rfl, trivial⟩) rfl hst ?_
  refine jc_seq ?_
  refine sc_region ?_
  refine so_pure (opv_assign (by rfl)) (by rfl) rfl ?_
  refine jo_nil ?_
  refine jk_then ?_
  refine jc_seq ?_
  refine sc_region ?_
  refine so_pure (opv_move (by rfl)) (by rfl) rfl ?_
  refine so_pure (opv_move (by rfl)) (by rfl) rfl ?_
  refine so_eff (eff_call (G := fun v Is' => Idx p xs v ∧ Is' = own sv 39 8 n (xs.flatMap Ev.cells) :: Fr) (by rfl) (by rfl) tx20 (by exact fun w1 hw1 => (index_spec hw1 hnx hn hf).mono (fun _ _ ⟨hv, hst⟩ => ⟨_, ⟨hv, rfl⟩, hst⟩))) (by rfl) rfl ?_
  rintro _ _ ⟨⟨i, rfl, hi⟩, rfl⟩
  refine so_pure (opv_assign (by rfl)) (by rfl) rfl ?_
  refine jo_nil ?_
  refine jk_then ?_
  refine jc_seq ?_
  refine jc_seq ?_
  refine sc_region ?_
  refine so_pure (opv_move (by rfl)) (by rfl) rfl ?_
  refine so_pure (opv_cmp (by rfl) (by rfl) (by rfl)) (by rfl) rfl ?_
  refine jo_nil ?_
  refine jk_then ?_
  refine sk_split (x := 12) (by rfl) (fun h5 => ?_) (fun h5 => ?_)
  · first | have p5 := of_decide_eq_true h5 | have p5 := of_decide_eq_false h5 | have p5 := ndT h5 | have p5 := ndF h5 | have p5 := nbT h5 | have p5 := nbF h5 | have p5 := h5
    refine sc_true (by rfl) h5 ?_
    refine jc_seq ?_
    refine sc_region ?_
    refine so_pure (opv_move (by rfl)) (by rfl) rfl ?_
    refine so_pure (opv_assign (by rfl)) (by rfl) rfl ?_
    refine jo_nil ?_
    refine jk_then ?_
    refine jc_ret ?_
    refine jk_then_ret ?_
    refine jk_fn_ret rfl rfl (by rfl) (fun w hw => ?_)
    obtain hall : xs.all (fun y => !p y) = true := by
      rcases hi with ⟨_, h⟩ | ⟨k, x, h, _⟩
      · exact h
      · omega
    rw [filter_all hall, ← hnx]
    exact hw
  · first | have p5 := of_decide_eq_true h5 | have p5 := of_decide_eq_false h5 | have p5 := ndT h5 | have p5 := ndF h5 | have p5 := nbT h5 | have p5 := nbF h5 | have p5 := h5
    refine sc_false (by rfl) h5 ?_
    refine jc_skip ?_
    refine jk_then ?_
    refine jc_seq ?_
    refine jc_seq ?_
    obtain ⟨k0, x0, rfl, hx0, hp0, hall⟩ := hi.resolve_left (fun h => by have := h.1; omega)
    have hk0 := (List.getElem?_eq_some_iff.1 hx0).1
    refine jk_own_open (by repeat (first | exact Pk.here _ | apply Pk.there)) (fun _ _ h0 => by omega) (fun bo cap2 cur hl hv hcap hmax hsz htake => ?_)
    subst hv
    have harr := arr_of_take Ev.cells_len hnx htake
    refine sc_region ?_
    refine so_pure (opv_move (by rfl)) (by rfl) rfl ?_
    refine so_pure (opv_add (by rfl) (by rfl) (wrap64_ok (by omega))) (by rfl) rfl ?_
    refine so_pure (opv_assign (by rfl)) (by rfl) rfl ?_
    refine jo_nil ?_
    refine jk_then ?_
    refine jc_block ?_
    refine jc_loop (σ := Nat × Nat × List Ev × Array Value) (fun (j, i, zs, c) => [(0, .slice (some ⟨bo, 0, none⟩) n cap2), (1, .func (.func 18) #[] #[.pointer (some ⟨tb, 0, none⟩)]), (5, .int .i64 i), (6, .int .i64 j)]) (fun (j, i, zs, c) => (blk bo (.cells c 39 (0, 0)) :: Fr)) (fun (j, i, zs, c) => (j ≤ n) ∧ (i < j) ∧ ((zs).length = xs.length) ∧ ((c).size = cap2 * 8) ∧ (Arr c 0 8 Ev.cells zs) ∧ ((zs).take i = (xs.take j).filter (fun y => !p y)) ∧ ((zs).drop j = xs.drop j)) (fun (j, i, zs, c) => n - j) (k0 + 1, k0, xs, cur) ⟨by omega, by omega, rfl, hsz, harr, del_first hx0 hp0 hall, rfl⟩ ⟨rfl, rfl, rfl, rfl, trivial⟩ (fun w hw => hw) ?_
    rintro ⟨j, i, zs, c⟩ ⟨hj, hij, hlz, hcs, harr, h1, h2⟩
    show Jc _ _ [(0, .slice (some ⟨bo, 0, none⟩) n cap2), (1, .func (.func 18) #[] #[.pointer (some ⟨tb, 0, none⟩)]), (5, .int .i64 i), (6, .int .i64 j)] (blk bo (.cells c 39 (0, 0)) :: Fr) _
    refine jc_seq ?_
    refine jc_seq ?_
    refine sc_region ?_
    refine so_pure (opv_move (by rfl)) (by rfl) rfl ?_
    refine so_pure (opv_move (by rfl)) (by rfl) rfl ?_
    refine so_pure (opv_len_slice (by rfl) Try.underlying22) (by rfl) rfl ?_
    refine so_pure (opv_cmp (by rfl) (by rfl) (by rfl)) (by rfl) rfl ?_
    refine jo_nil ?_
    refine jk_then ?_
    refine sk_split (x := 19) (by rfl) (fun h9 => ?_) (fun h9 => ?_)
    · first | have p9 := of_decide_eq_true h9 | have p9 := of_decide_eq_false h9 | have p9 := ndT h9 | have p9 := ndF h9 | have p9 := nbT h9 | have p9 := nbF h9 | have p9 := h9
      refine sc_true (by rfl) h9 ?_
      refine jc_skip ?_
      refine jk_then ?_
      refine jc_seq ?_
      refine jc_block ?_
      refine jc_seq ?_
      have hlt : j < n := by omega
      obtain ⟨x, hx⟩ : ∃ x, xs[j]? = some x := ⟨xs[j], List.getElem?_eq_getElem (by omega)⟩
      have hzx : zs[j]? = some x := by
        have := congrArg (fun l => l[0]?) h2
        simpa [hx] using this
      refine sc_region ?_
      refine so_pure (opv_move (by rfl)) (by rfl) rfl ?_
      refine so_pure (opv_move (by rfl)) (by rfl) rfl ?_
      refine so_pure (opv_indexAddr (by rfl) (by rfl) Try.underlying22 ti39 (by first | rfl | omega) (by omega)) (by rfl) rfl ?_
      refine so_pure (opv_load_agg (vs := x.cells) (by rfl) ag39 ti39 (rd_pk (by repeat (first | exact Pk.here _ | apply Pk.there))) (harr j x hzx) rfl) (by rfl) rfl ?_
      refine so_eff (eff_alloc ti39 rfl) (by rfl) rfl ?_
      rintro _ _ ⟨b7, rfl, rfl⟩
      refine so_eff0 (eff_store_all (vs := x.cells) (by rfl) (by rfl) (by rfl) ti39 (by rfl) (by repeat (first | exact Pk.here _ | apply Pk.there)) (by rfl) (by rfl)) (by rfl) ?_
      rintro _ _ ⟨rfl, rfl⟩
      refine jo_nil ?_
      refine jk_then ?_
      refine jc_seq ?_
      refine sc_region ?_
      refine so_pure (opv_move (by rfl)) (by rfl) rfl ?_
      refine so_pure (opv_load_agg (vs := x.cells) (by rfl) ag39 ti39 (rd_pk (by repeat (first | exact Pk.here _ | apply Pk.there))) (by exact ⟨rfl, rfl, rfl, rfl, rfl, rfl, rfl, rfl, trivial⟩) rfl) (by rfl) rfl ?_
      refine so_eff (eff_call0 (G := fun v New => v = .bool (p x) ∧ New = []) (by rfl) (by rfl) tx18 (by exact fun w1 hw1 => (hf x [_, _] w1 hw1).mono (fun _ _ ⟨hv, hst⟩ => ⟨[], ⟨hv, rfl⟩, hst⟩))) (by rfl) rfl ?_
      rintro _ _ ⟨_, ⟨rfl, rfl⟩, rfl⟩
      refine so_pure (opv_not (by rfl)) (by rfl) rfl ?_
      refine jo_nil ?_
      refine jk_then ?_
      refine sk_split (x := 29) (by rfl) (fun h15 => ?_) (fun h15 => ?_)
      · first | have p15 := of_decide_eq_true h15 | have p15 := of_decide_eq_false h15 | have p15 := ndT h15 | have p15 := ndF h15 | have p15 := nbT h15 | have p15 := nbF h15 | have p15 := h15
        refine sc_true (by rfl) (not_t (by simpa using h15)) ?_
        refine jc_seq ?_
        refine sc_region ?_
        refine so_pure (opv_move (by rfl)) (by rfl) rfl ?_
        refine so_pure (opv_move (by rfl)) (by rfl) rfl ?_
        refine so_pure (opv_load_agg (vs := x.cells) (by rfl) ag39 ti39 (rd_pk (by repeat (first | exact Pk.here _ | apply Pk.there))) (by exact ⟨rfl, rfl, rfl, rfl, rfl, rfl, rfl, rfl, trivial⟩) rfl) (by rfl) rfl ?_
        refine so_pure (opv_indexAddr (i := i) (by rfl) (by rfl) Try.underlying22 ti39 (by rfl) (by omega)) (by rfl) rfl ?_
        refine so_eff0 (eff_store (vs := x.cells) (by rfl) (by rfl) (by rfl) ti39 (by rfl) (by repeat (first | exact Pk.here _ | apply Pk.there)) (by omega) (by rfl)) (by rfl) ?_
        rintro _ _ ⟨rfl, rfl⟩
        refine jo_nil ?_
        refine jk_then ?_
        refine sc_region ?_
        refine so_pure (opv_move (by rfl)) (by rfl) rfl ?_
        refine so_pure (opv_add (by rfl) (by rfl) (wrap64_ok (by omega))) (by rfl) rfl ?_
        refine so_pure (opv_assign (by rfl)) (by rfl) rfl ?_
        refine jo_nil ?_
        refine jk_block ?_
        refine jk_then ?_
        refine sc_region ?_
        refine so_pure (opv_move (by rfl)) (by rfl) rfl ?_
        refine so_pure (opv_add (by rfl) (by rfl) (wrap64_ok (by omega))) (by rfl) rfl ?_
        refine so_pure (opv_assign (by rfl)) (by rfl) rfl ?_
        refine jo_nil ?_
        have hdel := del_keep (p := p) hx hij hlz h1 h2 (by simpa using p15)
        obtain ⟨y, hy⟩ : ∃ y, zs[i]? = some y := ⟨zs[i], List.getElem?_eq_getElem (by omega)⟩
        have harr2 := harr.put Ev.cells_len (y := x) (vs := x.cells) (fo := 0) hy (by rw [Ev.cells_len]; omega) (by rw [Ev.cells_len]; omega) (fun k v hv => by
          have hk := (List.getElem?_eq_some_iff.1 hv).1
          rw [Ev.cells_len] at hk ⊢
          rw [if_pos (by omega)]; exact hv)
        refine jk_round (j + 1, i + 1, zs.set i x, putCells c (0 + i * 8) x.cells) ⟨by omega, by omega, by rw [List.length_set]; exact hlz, by rw [putCells_size]; exact hcs, harr2, hdel.1, hdel.2⟩ (by show n - (j + 1) < n - j; omega) ⟨rfl, rfl, rfl, rfl, trivial⟩ (fun w hw => ?_)
        show St _ _ (blk bo (.cells (putCells c (0 + i * 8) x.cells) 39 (0, 0)) :: Fr) _
        first | exact hw.drop | exact (hw.pk (.there (.here _))).drop
      · first | have p15 := of_decide_eq_true h15 | have p15 := of_decide_eq_false h15 | have p15 := ndT h15 | have p15 := ndF h15 | have p15 := nbT h15 | have p15 := nbF h15 | have p15 := h15
        refine sc_false (by rfl) (not_f (by simpa using h15)) ?_
        refine jc_skip ?_
        refine jk_block ?_
        refine jk_then ?_
        refine sc_region ?_
        refine so_pure (opv_move (by rfl)) (by rfl) rfl ?_
        refine so_pure (opv_add (by rfl) (by rfl) (wrap64_ok (by omega))) (by rfl) rfl ?_
        refine so_pure (opv_assign (by rfl)) (by rfl) rfl ?_
        refine jo_nil ?_
        have hdel := del_skip (p := p) hx h1 h2 (by simpa using p15)
        refine jk_round (j + 1, i, zs, c) ⟨by omega, by omega, hlz, hcs, harr, hdel.1, hdel.2⟩ (by show n - (j + 1) < n - j; omega) ⟨rfl, rfl, rfl, rfl, trivial⟩ (fun w hw => ?_)
        show St _ _ (blk bo (.cells (c) 39 (0, 0)) :: Fr) _
        first | exact hw.drop | exact (hw.pk (.there (.here _))).drop
    · first | have p9 := of_decide_eq_true h9 | have p9 := of_decide_eq_false h9 | have p9 := ndT h9 | have p9 := ndF h9 | have p9 := nbT h9 | have p9 := nbF h9 | have p9 := h9
      refine sc_false (by rfl) h9 ?_
      refine jc_exit ?_
      refine jk_then_exit ?_
      refine jk_then_exit ?_
      refine jk_block_exit ?_
      refine jk_then ?_
      refine jc_seq ?_
      refine sc_region ?_
      refine so_pure (opv_move (by rfl)) (by rfl) rfl ?_
      refine so_pure (opv_move (by rfl)) (by rfl) rfl ?_
      refine so_pure (opv_slice (l := i) (h := n) (by rfl) Try.underlying22 ti39 (by rfl) (by rfl) (by rfl) (by rfl) (by omega) (by omega)) (by rfl) rfl ?_
      refine so_eff0 (eff_clear (b := bo) (off := 0 + i * 8) (n := n - i) (cap := cap2 - i) (by have hne : ¬ cap2 = i := (by omega); show some (Value.slice (if cap2 = i then some (⟨bo, 0, none⟩ : Addr) else Option.map (fun a : Addr => a.add (i * 8)) (some (⟨bo, 0, none⟩ : Addr))) (n - i) (cap2 - i)) = _; rw [if_neg hne]; simp only [Option.map_some, add_at]) Try.underlying22 ti39 (by repeat (first | exact Pk.here _ | apply Pk.there)) (by simp [Value.cells]; omega) (zero_one (by rfl) _)) (by rfl) ?_
      rintro _ _ ⟨rfl, rfl⟩
      refine jo_nil ?_
      refine jk_then ?_
      refine jc_seq ?_
      refine sc_region ?_
      refine so_pure (opv_move (by rfl)) (by rfl) rfl ?_
      refine so_pure (opv_move (by rfl)) (by rfl) rfl ?_
      refine so_pure (opv_slice (l := 0) (h := i) (by rfl) Try.underlying22 ti39 (by rfl) (by rfl) (by rfl) (by rfl) (by omega) (by omega)) (by rfl) rfl ?_
      refine so_pure (opv_assign (by rfl)) (by rfl) rfl ?_
      refine jo_nil ?_
      refine jk_then ?_
      refine jc_ret ?_
      refine jk_fn_ret rfl rfl (by rfl) (fun w hw => ?_)
      have eF : xs.filter (fun y => !p y) = zs.take i := by rw [h1, show j = n by omega, hnx, List.take_length]
      have eA : (if cap2 = 0 then some (⟨bo, 0, none⟩ : Addr) else Option.map (fun a : Addr => a.add (0 * 8)) (some (⟨bo, 0, none⟩ : Addr))) = some (⟨bo, 0, none⟩ : Addr) := by split <;> simp [Addr.add]
      have hli : (zs.take i).length = i := by rw [List.length_take]; omega
      rw [eF, hli]
      show St _ _ (own (.slice (if cap2 = 0 then some (⟨bo, 0, none⟩ : Addr) else Option.map (fun a : Addr => a.add (0 * 8)) (some (⟨bo, 0, none⟩ : Addr))) i cap2) 39 8 i _ :: Fr) w
      rw [eA]
      refine hw.own_mk (by omega) hmax (by rw [putCells_size]; exact hcs) (arr_ext Ev.cells_len (by omega) hli.symm (by rw [putCells_size]; omega) ((harr.take i).putAfter Ev.cells_len (by rw [hli]; omega) (by rw [Array.length_toList, size_zeroCells]; simp [Value.cells]; omega)))
end Go.Hist
