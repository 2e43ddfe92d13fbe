/- A part of a proof for the laws of the seat Ythkafociknhgaaa; it has no conditions of its own. -/
import Derived.Test.YthkafociknhgaaaDkW14
import Derived.Test.YthkafociknhgaaaDkDel
namespace Go.Disks
open Go Go.SL Go.Proofs
set_option maxHeartbeats 4000000 in
theorem index_spec {w0 w : World} {M : Nat → Prop} {Fr : List Wr → List Itm} {sv : Value} {n fi : Nat} {cl : List Value} {xs ys0 : List Wr} {p : Wr → Bool} (tx : Txt Try.prog fi) (hst : St w0 M (own sv 59 2 n (xs.flatMap Wr.cells) :: Fr ys0) w) (hnx : n = xs.length) (hn : n ≤ 100000) (hy0 : ys0.length ≤ 100000)
    (hf : ∀ (ys : List Wr) (x : Wr) (Is2 : List Itm) (w : World), ys.length ≤ 200000 → St w0 M (Is2 ++ Fr ys) w → Does Try.prog fi ([] ++ [Value.agg x.cells.toArray] ++ cl).toArray w fun v w' => v = .bool (p x) ∧ St w0 M (Is2 ++ Fr (ys ++ [x])) w') : Does Try.prog 50 #[sv, .func (.func fi) #[] cl.toArray] w (fun v w' => ∃ vis, Idx p xs v vis ∧ St w0 M (own sv 59 2 n (xs.flatMap Wr.cells) :: Fr (ys0 ++ vis)) w') := by
  refine fn_bodyX (fn := Try.f50) Try.func50 rfl [(0, sv), (1, .func (.func fi) #[] cl.toArray)] (by exact ⟨rfl, rfl, trivial⟩) rfl hst ?_
  refine jc_seq ?_
  refine sc_region ?_
  refine so_pure (opv_assign (by rfl)) (by rfl) rfl ?_
  refine jo_nil ?_
  refine jk_then ?_
  refine jc_seq ?_
  refine jc_seq ?_
  refine sc_region ?_
  refine so_pure (opv_move (by rfl)) (by rfl) rfl ?_
  refine so_pure (opv_len_own (by rfl) Try.underlying54 (by repeat (first | exact Pk.here _ | apply Pk.there))) (by rfl) rfl ?_
  refine so_pure (opv_move (by rfl)) (by rfl) rfl ?_
  refine jo_nil ?_
  refine jk_then ?_
  refine jc_block ?_
  refine jc_loop (σ := Nat) (fun k => [(0, sv), (1, .func (.func fi) #[] cl.toArray), (7, .int .i64 n), (8, .int .i64 k)]) (fun k => (own sv 59 2 n (xs.flatMap Wr.cells) :: Fr (ys0 ++ xs.take k))) (fun k => (k ≤ n) ∧ ((xs.take k).all (fun y => !p y) = true)) (fun k => n - k) 0 ⟨Nat.zero_le _, rfl⟩ ⟨rfl, rfl, rfl, rfl, trivial⟩ (fun w hw => by rw [List.take_zero, List.append_nil]; exact hw) ?_
  rintro k ⟨hk, ha⟩
  show Jc _ _ [(0, sv), (1, .func (.func fi) #[] cl.toArray), (7, .int .i64 n), (8, .int .i64 k)] (own sv 59 2 n (xs.flatMap Wr.cells) :: Fr (ys0 ++ xs.take k)) _
  refine jc_seq ?_
  refine sc_region ?_
  refine so_pure (opv_cmp (by rfl) (by rfl) (by rfl)) (by rfl) rfl ?_
  refine jo_nil ?_
  refine jk_then ?_
  refine jc_seq ?_
  refine sk_split (x := 9) (by rfl) (fun h6 => ?_) (fun h6 => ?_)
  · first | have p6 := of_decide_eq_true h6 | have p6 := of_decide_eq_false h6 | have p6 := ndT h6 | have p6 := ndF h6 | have p6 := nbT h6 | have p6 := nbF h6 | have p6 := h6
    refine sc_true (by rfl) h6 ?_
    refine jc_skip ?_
    refine jk_then ?_
    refine jc_seq ?_
    refine jc_block ?_
    refine jc_seq ?_
    refine sc_region ?_
    refine so_pure (opv_move (by rfl)) (by rfl) rfl ?_
    refine so_pure (opv_assign (by rfl)) (by rfl) rfl ?_
    refine jo_nil ?_
    refine jk_then ?_
    refine jc_seq ?_
    refine sc_region ?_
    have hlt : k < n := by omega
    obtain ⟨x, hx⟩ : ∃ x, xs[k]? = some x := ⟨xs[k], List.getElem?_eq_getElem (by omega)⟩
    refine so_pure (opv_move (by rfl)) (by rfl) rfl ?_
    refine so_pure (opv_move (by rfl)) (by rfl) rfl ?_
    refine so_pure (opv_move (by rfl)) (by rfl) rfl ?_
    refine so_pure (opv_indexAddr_own (i := k) (by rfl) (by rfl) Try.underlying54 ti59 (by repeat (first | exact Pk.here _ | apply Pk.there)) rfl hlt) (by rfl) rfl ?_
    refine so_pure (opv_load_elem (u := x) Wr.cells_len (by rfl) ag59 ti59 (by repeat (first | exact Pk.here _ | apply Pk.there)) (by omega) hx) (by rfl) rfl ?_
    refine so_eff (eff_call (fl := []) (cl := cl) (G := fun v Is' => v = .bool (p x) ∧ Is' = own sv 59 2 n (xs.flatMap Wr.cells) :: Fr (ys0 ++ xs.take k ++ [x])) (by rfl) (by rfl) tx (by exact fun w1 hw1 => (hf (ys0 ++ xs.take k) x [own sv 59 2 n (xs.flatMap Wr.cells)] w1 (by rw [List.length_append, List.length_take]; omega) hw1).mono (fun _ _ ⟨hv, hst⟩ => ⟨_, ⟨hv, rfl⟩, hst⟩))) (by rfl) rfl ?_
    rintro _ _ ⟨rfl, rfl⟩
    refine jo_nil ?_
    refine jk_then ?_
    refine sk_split (x := 16) (by rfl) (fun h10 => ?_) (fun h10 => ?_)
    · first | have p10 := of_decide_eq_true h10 | have p10 := of_decide_eq_false h10 | have p10 := ndT h10 | have p10 := ndF h10 | have p10 := nbT h10 | have p10 := nbF h10 | have p10 := h10
      refine sc_true (by rfl) h10 ?_
      refine jc_seq ?_
      refine sc_region ?_
      refine so_pure (opv_move (by rfl)) (by rfl) rfl ?_
      refine so_pure (opv_assign (by rfl)) (by rfl) rfl ?_
      refine jo_nil ?_
      refine jk_then ?_
      refine jc_ret ?_
      refine jk_block_ret ?_
      refine jk_then_ret ?_
      refine jk_then_ret ?_
      refine jk_block_ret ?_
      refine jk_then_ret ?_
      refine jk_fn_ret rfl rfl (by rfl) (fun w hw => ?_)
      rw [List.append_assoc, ← take_snoc hx] at hw
      exact ⟨_, ⟨k, rfl, .inr ⟨k, x, rfl, hx, p10, ha, rfl⟩⟩, hw⟩
    · first | have p10 := of_decide_eq_true h10 | have p10 := of_decide_eq_false h10 | have p10 := ndT h10 | have p10 := ndF h10 | have p10 := nbT h10 | have p10 := nbF h10 | have p10 := h10
      refine sc_false (by rfl) h10 ?_
      refine jc_skip ?_
      refine jk_block ?_
      refine jk_then ?_
      refine sc_region ?_
      refine so_pure (opv_add (by rfl) (by rfl) (wrap64_ok (by omega))) (by rfl) rfl ?_
      refine so_pure (opv_move (by rfl)) (by rfl) rfl ?_
      refine jo_nil ?_
      refine jk_round (k + 1) ⟨by omega, all_step hx ha (by rw [p10]; rfl)⟩ (by show n - (k + 1) < n - k; omega) ⟨rfl, rfl, rfl, rfl, trivial⟩ (fun w hw => ?_)
      show St _ _ (own sv 59 2 n (xs.flatMap Wr.cells) :: Fr (ys0 ++ xs.take (k + 1))) _
      rw [take_snoc hx, ← List.append_assoc]; exact hw
  · first | have p6 := of_decide_eq_true h6 | have p6 := of_decide_eq_false h6 | have p6 := ndT h6 | have p6 := ndF h6 | have p6 := nbT h6 | have p6 := nbF h6 | have p6 := h6
    refine sc_false (by rfl) h6 ?_
    refine jc_exit ?_
    refine jk_then_exit ?_
    refine jk_then_exit ?_
    refine jk_block_exit ?_
    refine jk_then ?_
    refine jc_seq ?_
    refine sc_region ?_
    refine so_pure (opv_assign (by rfl)) (by rfl) rfl ?_
    refine jo_nil ?_
    refine jk_then ?_
    refine jc_ret ?_
    refine jk_fn_ret rfl rfl (by rfl) (fun w hw => ?_)
    obtain rfl : k = n := by omega
    rw [hnx, List.take_length] at ha
    rw [hnx, List.take_length] at hw
    rw [← hnx] at hw
    exact ⟨_, ⟨-1, rfl, .inl ⟨rfl, ha, rfl⟩⟩, hw⟩
set_option maxHeartbeats 4000000 in
theorem delete_spec {w0 w : World} {M : Nat → Prop} {Fr : List Wr → List Itm} {sv : Value} {n fi : Nat} {cl : List Value} {xs ys0 : List Wr} {p : Wr → Bool} (tx : Txt Try.prog fi) (hst : St w0 M (own sv 59 2 n (xs.flatMap Wr.cells) :: Fr ys0) w) (hnx : n = xs.length) (hn : n ≤ 100000) (hy0 : ys0.length ≤ 100000)
    (hf : ∀ (ys : List Wr) (x : Wr) (Is2 : List Itm) (w : World), ys.length ≤ 200000 → St w0 M (Is2 ++ Fr ys) w → Does Try.prog fi ([] ++ [Value.agg x.cells.toArray] ++ cl).toArray w fun v w' => v = .bool (p x) ∧ St w0 M (Is2 ++ Fr (ys ++ [x])) w') : Does Try.prog 44 #[sv, .func (.func fi) #[] cl.toArray] w (fun v w' => St w0 M (own v 59 2 (xs.filter fun y => !p y).length ((xs.filter fun y => !p y).flatMap Wr.cells) :: Fr (ys0 ++ xs)) w') := by
  refine fn_bodyX (fn := Try.f44) Try.func44 rfl [(0, sv), (1, .func (.func fi) #[] cl.toArray)] (by exact ⟨rfl, rfl, trivial⟩) rfl hst ?_
  refine jc_seq ?_
  refine sc_region ?_
  refine so_pure (opv_assign (by rfl)) (by rfl) rfl ?_
  refine jo_nil ?_
  refine jk_then ?_
  refine jc_seq ?_
  refine sc_region ?_
  refine so_pure (opv_move (by rfl)) (by rfl) rfl ?_
  refine so_pure (opv_move (by rfl)) (by rfl) rfl ?_
  refine so_eff (eff_call (fl := []) (cl := []) (G := fun v Is' => ∃ vis, Idx p xs v vis ∧ Is' = own sv 59 2 n (xs.flatMap Wr.cells) :: Fr (ys0 ++ vis)) (by rfl) (by rfl) tx50 (by exact fun w1 hw1 => (index_spec tx hw1 hnx hn hy0 hf).mono (fun _ _ ⟨vis, hv, hst⟩ => ⟨_, ⟨vis, hv, rfl⟩, hst⟩))) (by rfl) rfl ?_
  rintro _ _ ⟨vis, ⟨i, rfl, hi⟩, rfl⟩
  refine so_pure (opv_assign (by rfl)) (by rfl) rfl ?_
  refine jo_nil ?_
  refine jk_then ?_
  refine jc_seq ?_
  refine jc_seq ?_
  refine sc_region ?_
  refine so_pure (opv_move (by rfl)) (by rfl) rfl ?_
  refine so_pure (opv_cmp (by rfl) (by rfl) (by rfl)) (by rfl) rfl ?_
  refine jo_nil ?_
  refine jk_then ?_
  refine sk_split (x := 12) (by rfl) (fun h5 => ?_) (fun h5 => ?_)
  · first | have p5 := of_decide_eq_true h5 | have p5 := of_decide_eq_false h5 | have p5 := ndT h5 | have p5 := ndF h5 | have p5 := nbT h5 | have p5 := nbF h5 | have p5 := h5
    refine sc_true (by rfl) h5 ?_
    refine jc_seq ?_
    refine sc_region ?_
    refine so_pure (opv_move (by rfl)) (by rfl) rfl ?_
    refine so_pure (opv_assign (by rfl)) (by rfl) rfl ?_
    refine jo_nil ?_
    refine jk_then ?_
    refine jc_ret ?_
    refine jk_then_ret ?_
    refine jk_fn_ret rfl rfl (by rfl) (fun w hw => ?_)
    obtain ⟨hall, rfl⟩ : xs.all (fun y => !p y) = true ∧ vis = xs := by
      rcases hi with ⟨_, h⟩ | ⟨k, x, h, _⟩
      · exact h
      · omega
    rw [filter_all hall, ← hnx]
    exact hw
  · first | have p5 := of_decide_eq_true h5 | have p5 := of_decide_eq_false h5 | have p5 := ndT h5 | have p5 := ndF h5 | have p5 := nbT h5 | have p5 := nbF h5 | have p5 := h5
    refine sc_false (by rfl) h5 ?_
    refine jc_skip ?_
    refine jk_then ?_
    refine jc_seq ?_
    refine jc_seq ?_
    obtain ⟨k0, x0, rfl, hx0, hp0, hall, rfl⟩ := hi.resolve_left (fun h => by have := h.1; omega)
    have hk0 := (List.getElem?_eq_some_iff.1 hx0).1
    refine jk_own_open (by repeat (first | exact Pk.here _ | apply Pk.there)) (fun _ _ h0 => by omega) (fun bo cap2 cur hl hv hcap hmax hsz htake => ?_)
    subst hv
    have harr := arr_of_take Wr.cells_len hnx htake
    refine sc_region ?_
    refine so_pure (opv_move (by rfl)) (by rfl) rfl ?_
    refine so_pure (opv_add (by rfl) (by rfl) (wrap64_ok (by omega))) (by rfl) rfl ?_
    refine so_pure (opv_assign (by rfl)) (by rfl) rfl ?_
    refine jo_nil ?_
    refine jk_then ?_
    refine jc_block ?_
    refine jc_loop (σ := Nat × Nat × List Wr × Array Value) (fun (j, i, zs, c) => [(0, .slice (some ⟨bo, 0, none⟩) n cap2), (1, .func (.func fi) #[] cl.toArray), (5, .int .i64 i), (6, .int .i64 j)]) (fun (j, i, zs, c) => (blk bo (.cells c 59 (0, 0)) :: Fr (ys0 ++ xs.take j))) (fun (j, i, zs, c) => (j ≤ n) ∧ (i < j) ∧ ((zs).length = xs.length) ∧ ((c).size = cap2 * 2) ∧ (Arr c 0 2 Wr.cells zs) ∧ ((zs).take i = (xs.take j).filter (fun y => !p y)) ∧ ((zs).drop j = xs.drop j)) (fun (j, i, zs, c) => n - j) (k0 + 1, k0, xs, cur) ⟨by omega, by omega, rfl, hsz, harr, del_first hx0 hp0 hall, rfl⟩ ⟨rfl, rfl, rfl, rfl, trivial⟩ (fun w hw => hw) ?_
    rintro ⟨j, i, zs, c⟩ ⟨hj, hij, hlz, hcs, harr, h1, h2⟩
    show Jc _ _ [(0, .slice (some ⟨bo, 0, none⟩) n cap2), (1, .func (.func fi) #[] cl.toArray), (5, .int .i64 i), (6, .int .i64 j)] (blk bo (.cells c 59 (0, 0)) :: Fr (ys0 ++ xs.take j)) _
    refine jc_seq ?_
    refine jc_seq ?_
    refine sc_region ?_
    refine so_pure (opv_move (by rfl)) (by rfl) rfl ?_
    refine so_pure (opv_move (by rfl)) (by rfl) rfl ?_
    refine so_pure (opv_len_slice (by rfl) Try.underlying54) (by rfl) rfl ?_
    refine so_pure (opv_cmp (by rfl) (by rfl) (by rfl)) (by rfl) rfl ?_
    refine jo_nil ?_
    refine jk_then ?_
    refine sk_split (x := 19) (by rfl) (fun h9 => ?_) (fun h9 => ?_)
    · first | have p9 := of_decide_eq_true h9 | have p9 := of_decide_eq_false h9 | have p9 := ndT h9 | have p9 := ndF h9 | have p9 := nbT h9 | have p9 := nbF h9 | have p9 := h9
      refine sc_true (by rfl) h9 ?_
      refine jc_skip ?_
      refine jk_then ?_
      refine jc_seq ?_
      refine jc_block ?_
      refine jc_seq ?_
      have hlt : j < n := by omega
      obtain ⟨x, hx⟩ : ∃ x, xs[j]? = some x := ⟨xs[j], List.getElem?_eq_getElem (by omega)⟩
      have hzx : zs[j]? = some x := by
        have := congrArg (fun l => l[0]?) h2
        simpa [hx] using this
      refine sc_region ?_
      refine so_pure (opv_move (by rfl)) (by rfl) rfl ?_
      refine so_pure (opv_move (by rfl)) (by rfl) rfl ?_
      refine so_pure (opv_indexAddr (by rfl) (by rfl) Try.underlying54 ti59 (by first | rfl | omega) (by omega)) (by rfl) rfl ?_
      refine so_pure (opv_load_agg (vs := x.cells) (by rfl) ag59 ti59 (rd_pk (by repeat (first | exact Pk.here _ | apply Pk.there))) (harr j x hzx) rfl) (by rfl) rfl ?_
      refine so_eff (eff_alloc ti59 rfl) (by rfl) rfl ?_
      rintro _ _ ⟨b7, rfl, rfl⟩
      refine so_eff0 (eff_store_all (vs := x.cells) (by rfl) (by rfl) (by rfl) ti59 (by rfl) (by repeat (first | exact Pk.here _ | apply Pk.there)) (by rfl) (by rfl)) (by rfl) ?_
      rintro _ _ ⟨rfl, rfl⟩
      refine jo_nil ?_
      refine jk_then ?_
      refine jc_seq ?_
      refine sc_region ?_
      refine so_pure (opv_move (by rfl)) (by rfl) rfl ?_
      refine so_pure (opv_load_agg (vs := x.cells) (by rfl) ag59 ti59 (rd_pk (by repeat (first | exact Pk.here _ | apply Pk.there))) (by exact ⟨rfl, rfl, trivial⟩) rfl) (by rfl) rfl ?_
      refine so_eff (eff_call (fl := []) (cl := cl) (G := fun v Is' => v = .bool (p x) ∧ Is' = blk b7 (.cells x.cells.toArray 59 (0, 0)) :: blk bo (.cells c 59 (0, 0)) :: Fr (ys0 ++ xs.take j ++ [x])) (by rfl) (by rfl) tx (by exact fun w1 hw1 => (hf (ys0 ++ xs.take j) x [_, _] w1 (by rw [List.length_append, List.length_take]; omega) hw1).mono (fun _ _ ⟨hv, hst⟩ => ⟨_, ⟨hv, rfl⟩, hst⟩))) (by rfl) rfl ?_
      rintro _ _ ⟨rfl, rfl⟩
      refine so_pure (opv_not (by rfl)) (by rfl) rfl ?_
      refine jo_nil ?_
      refine jk_then ?_
      refine sk_split (x := 29) (by rfl) (fun h15 => ?_) (fun h15 => ?_)
      · first | have p15 := of_decide_eq_true h15 | have p15 := of_decide_eq_false h15 | have p15 := ndT h15 | have p15 := ndF h15 | have p15 := nbT h15 | have p15 := nbF h15 | have p15 := h15
        refine sc_true (by rfl) (not_t (nbT h15)) ?_
        refine jc_seq ?_
        refine sc_region ?_
        refine so_pure (opv_move (by rfl)) (by rfl) rfl ?_
        refine so_pure (opv_move (by rfl)) (by rfl) rfl ?_
        refine so_pure (opv_load_agg (vs := x.cells) (by rfl) ag59 ti59 (rd_pk (by repeat (first | exact Pk.here _ | apply Pk.there))) (by exact ⟨rfl, rfl, trivial⟩) rfl) (by rfl) rfl ?_
        refine so_pure (opv_indexAddr (i := i) (by rfl) (by rfl) Try.underlying54 ti59 (by rfl) (by omega)) (by rfl) rfl ?_
        refine so_eff0 (eff_store (vs := x.cells) (by rfl) (by rfl) (by rfl) ti59 (by rfl) (by repeat (first | exact Pk.here _ | apply Pk.there)) (by omega) (by rfl)) (by rfl) ?_
        rintro _ _ ⟨rfl, rfl⟩
        refine jo_nil ?_
        refine jk_then ?_
        refine sc_region ?_
        refine so_pure (opv_move (by rfl)) (by rfl) rfl ?_
        refine so_pure (opv_add (by rfl) (by rfl) (wrap64_ok (by omega))) (by rfl) rfl ?_
        refine so_pure (opv_assign (by rfl)) (by rfl) rfl ?_
        refine jo_nil ?_
        refine jk_block ?_
        refine jk_then ?_
        refine sc_region ?_
        refine so_pure (opv_move (by rfl)) (by rfl) rfl ?_
        refine so_pure (opv_add (by rfl) (by rfl) (wrap64_ok (by omega))) (by rfl) rfl ?_
        refine so_pure (opv_assign (by rfl)) (by rfl) rfl ?_
        refine jo_nil ?_
        have hdel := del_keep (p := p) hx hij hlz h1 h2 (by simpa using p15)
        obtain ⟨y, hy⟩ : ∃ y, zs[i]? = some y := ⟨zs[i], List.getElem?_eq_getElem (by omega)⟩
        have harr2 := harr.put Wr.cells_len (y := x) (vs := x.cells) (fo := 0) hy (by rw [Wr.cells_len]; omega) (by rw [Wr.cells_len]; omega) (fun k v hv => by
          have hk := (List.getElem?_eq_some_iff.1 hv).1
          rw [Wr.cells_len] at hk ⊢
          rw [if_pos (by omega)]; exact hv)
        refine jk_round (j + 1, i + 1, zs.set i x, putCells c (0 + i * 2) x.cells) ⟨by omega, by omega, by rw [List.length_set]; exact hlz, by rw [putCells_size]; exact hcs, harr2, hdel.1, hdel.2⟩ (by show n - (j + 1) < n - j; omega) ⟨rfl, rfl, rfl, rfl, trivial⟩ (fun w hw => ?_)
        show St _ _ (blk bo (.cells (putCells c (0 + i * 2) x.cells) 59 (0, 0)) :: Fr (ys0 ++ xs.take (j + 1))) _
        rw [take_snoc hx, ← List.append_assoc]
        first | exact hw.drop | exact (hw.pk (.there (.here _))).drop
      · first | have p15 := of_decide_eq_true h15 | have p15 := of_decide_eq_false h15 | have p15 := ndT h15 | have p15 := ndF h15 | have p15 := nbT h15 | have p15 := nbF h15 | have p15 := h15
        refine sc_false (by rfl) (not_f (nbF h15)) ?_
        refine jc_skip ?_
        refine jk_block ?_
        refine jk_then ?_
        refine sc_region ?_
        refine so_pure (opv_move (by rfl)) (by rfl) rfl ?_
        refine so_pure (opv_add (by rfl) (by rfl) (wrap64_ok (by omega))) (by rfl) rfl ?_
        refine so_pure (opv_assign (by rfl)) (by rfl) rfl ?_
        refine jo_nil ?_
        have hdel := del_skip (p := p) hx h1 h2 (by simpa using p15)
        refine jk_round (j + 1, i, zs, c) ⟨by omega, by omega, hlz, hcs, harr, hdel.1, hdel.2⟩ (by show n - (j + 1) < n - j; omega) ⟨rfl, rfl, rfl, rfl, trivial⟩ (fun w hw => ?_)
        show St _ _ (blk bo (.cells (c) 59 (0, 0)) :: Fr (ys0 ++ xs.take (j + 1))) _
        rw [take_snoc hx, ← List.append_assoc]
        first | exact hw.drop | exact (hw.pk (.there (.here _))).drop
    · first | have p9 := of_decide_eq_true h9 | have p9 := of_decide_eq_false h9 | have p9 := ndT h9 | have p9 := ndF h9 | have p9 := nbT h9 | have p9 := nbF h9 | have p9 := h9
      refine sc_false (by rfl) h9 ?_
      refine jc_exit ?_
      refine jk_then_exit ?_
      refine jk_then_exit ?_
      refine jk_block_exit ?_
      refine jk_then ?_
      refine jc_seq ?_
      refine sc_region ?_
      refine so_pure (opv_move (by rfl)) (by rfl) rfl ?_
      refine so_pure (opv_move (by rfl)) (by rfl) rfl ?_
      refine so_pure (opv_slice (l := i) (h := n) (by rfl) Try.underlying54 ti59 (by rfl) (by rfl) (by rfl) (by rfl) (by omega) (by omega)) (by rfl) rfl ?_
      refine so_eff0 (eff_clear (b := bo) (off := 0 + i * 2) (n := n - i) (cap := cap2 - i) (by have hne : ¬ cap2 = i := (by omega); show some (Value.slice (if cap2 = i then some (⟨bo, 0, none⟩ : Addr) else Option.map (fun a : Addr => a.add (i * 2)) (some (⟨bo, 0, none⟩ : Addr))) (n - i) (cap2 - i)) = _; rw [if_neg hne]; simp only [Option.map_some, add_at]) Try.underlying54 ti59 (by repeat (first | exact Pk.here _ | apply Pk.there)) (by simp [Value.cells]; omega) (zero_one (by rfl) _)) (by rfl) ?_
      rintro _ _ ⟨rfl, rfl⟩
      refine jo_nil ?_
      refine jk_then ?_
      refine jc_seq ?_
      refine sc_region ?_
      refine so_pure (opv_move (by rfl)) (by rfl) rfl ?_
      refine so_pure (opv_move (by rfl)) (by rfl) rfl ?_
      refine so_pure (opv_slice (l := 0) (h := i) (by rfl) Try.underlying54 ti59 (by rfl) (by rfl) (by rfl) (by rfl) (by omega) (by omega)) (by rfl) rfl ?_
      refine so_pure (opv_assign (by rfl)) (by rfl) rfl ?_
      refine jo_nil ?_
      refine jk_then ?_
      refine jc_ret ?_
      refine jk_fn_ret rfl rfl (by rfl) (fun w hw => ?_)
      have ej : j = n := by omega
      rw [ej, hnx, List.take_length] at hw
      rw [← hnx] at hw
      have eF : xs.filter (fun y => !p y) = zs.take i := by rw [h1, ej, hnx, List.take_length]
      have eA : (if cap2 = 0 then some (⟨bo, 0, none⟩ : Addr) else Option.map (fun a : Addr => a.add (0 * 2)) (some (⟨bo, 0, none⟩ : Addr))) = some (⟨bo, 0, none⟩ : Addr) := by split <;> simp [Addr.add]
      have hli : (zs.take i).length = i := by rw [List.length_take]; omega
      rw [eF, hli]
      show St _ _ (own (.slice (if cap2 = 0 then some (⟨bo, 0, none⟩ : Addr) else Option.map (fun a : Addr => a.add (0 * 2)) (some (⟨bo, 0, none⟩ : Addr))) i cap2) 59 2 i _ :: Fr (ys0 ++ xs)) w
      rw [eA]
      refine hw.own_mk (by omega) hmax (by rw [putCells_size]; exact hcs) (arr_ext Wr.cells_len (by omega) hli.symm (by rw [putCells_size]; omega) ((harr.take i).putAfter Wr.cells_len (by rw [hli]; omega) (by rw [Array.length_toList, size_zeroCells]; simp [Value.cells]; omega)))
set_option maxHeartbeats 4000000 in
theorem spoil1_spec (w : World) (x : Wr) (n : Int) (vb : Nat) (fz : Nat × Nat) (hvb : w.heap[vb]? = some (.cells #[.int .i64 n] 3 fz)) : Does Try.prog 45 #[.agg #[.int .i64 x.n, .string x.s], .pointer (some ⟨vb, 0, none⟩)] w (fun v w' => v = .bool (decide (x.n = n)) ∧ St w Emp [] w') := by
  refine fn_body (fn := Try.f45) Try.func45 rfl [(0, .agg #[.int .i64 x.n, .string x.s]), (1, .pointer (some ⟨vb, 0, none⟩))] (by exact ⟨rfl, rfl, trivial⟩) rfl (St.start w) ?_
  refine jc_seq ?_
  refine sc_region ?_
  refine so_eff (eff_box (by rfl) rfl) (by rfl) rfl ?_
  rintro _ _ ⟨b2, rfl, rfl⟩
  refine so_pure (opv_assign (by rfl)) (by rfl) rfl ?_
  refine jo_nil ?_
  refine jk_then ?_
  refine jc_seq ?_
  refine sc_region ?_
  refine so_pure (opv_fieldAddr (by rfl) fld59_0) (by rfl) rfl ?_
  refine so_pure (opv_load (by rfl) na3 (rd_pk (by repeat (first | exact Pk.here _ | apply Pk.there))) (by rfl)) (by rfl) rfl ?_
  refine so_pure (opv_load (v := .int .i64 n) (by rfl) na3 (rd_old hvb (fun h => h)) (by rfl)) (by rfl) rfl ?_
  refine so_pure (opv_cmp (by rfl) (by rfl) (by rfl)) (by rfl) rfl ?_
  refine so_pure (opv_assign (by rfl)) (by rfl) rfl ?_
  refine jo_nil ?_
  refine jk_then ?_
  refine jc_ret ?_
  refine jk_fn_ret rfl rfl (by rfl) (fun w hw => ?_)
  exact ⟨rfl, hw.forget⟩
end Go.Disks
