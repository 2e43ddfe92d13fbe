/- A part of a proof for the laws of the seat Ytnjhnpfippcacaa; it has no conditions of its own. -/
import Derived.Test.YtnjhnpfippcacaaPW5
namespace Go.Pins
open Go Go.SL Go.Proofs
set_option maxHeartbeats 4000000 in
theorem delete_spec {w0 w : World} {M : Nat → Prop} {Fr : List Vol → List Itm} {sv : Value} {n fi : Nat} {cl : List Value} {xs ys0 : List Vol} {p : Vol → Bool} (tx : Txt Try.prog fi) (hst : St w0 M (own sv 33 4 n (xs.flatMap Vol.cells) :: Fr ys0) w) (hnx : n = xs.length) (hn : n ≤ 100000) (hy0 : ys0.length ≤ 100000)
    (hf : ∀ (ys : List Vol) (x : Vol) (Is2 : List Itm) (w : World), ys.length ≤ 200000 → St w0 M (Is2 ++ Fr ys) w → Does Try.prog fi ([] ++ [Value.agg x.cells.toArray] ++ cl).toArray w fun v w' => v = .bool (p x) ∧ St w0 M (Is2 ++ Fr (ys ++ [x])) w') : Does Try.prog 27 #[sv, .func (.func fi) #[] cl.toArray] w (fun v w' => St w0 M (own v 33 4 (xs.filter fun y => !p y).length ((xs.filter fun y => !p y).flatMap Vol.cells) :: Fr (ys0 ++ xs)) w') := by
  refine fn_bodyX (fn := Try.f27) Try.func27 rfl [(0, sv), (1, .func (.func fi) #[] cl.toArray)] (by exact ⟨rfl, rfl, trivial⟩) rfl hst ?_
  refine jc_seq ?_
  refine sc_region ?_
  refine so_pure (opv_assign (by rfl)) (by rfl) rfl ?_
  refine jo_nil ?_
  refine jk_then ?_
  refine jc_seq ?_
  refine sc_region ?_
  refine so_pure (opv_move (by rfl)) (by rfl) rfl ?_
  refine so_pure (opv_move (by rfl)) (by rfl) rfl ?_
  refine so_eff (eff_call (fl := []) (cl := []) (G := fun v Is' => ∃ vis, Idx p xs v vis ∧ Is' = own sv 33 4 n (xs.flatMap Vol.cells) :: Fr (ys0 ++ vis)) (by rfl) (by rfl) tx30 (by exact fun w1 hw1 => (index_spec tx hw1 hnx hn hy0 hf).mono (fun _ _ ⟨vis, hv, hst⟩ => ⟨_, ⟨vis, hv, rfl⟩, hst⟩))) (by rfl) rfl ?_
  rintro _ _ ⟨vis, ⟨i, rfl, hi⟩, rfl⟩
  refine so_pure (opv_assign (by rfl)) (by rfl) rfl ?_
  refine jo_nil ?_
  refine jk_then ?_
  refine jc_seq ?_
  refine jc_seq ?_
  refine sc_region ?_
  refine so_pure (opv_move (by rfl)) (by rfl) rfl ?_
  refine so_pure (opv_cmp (by rfl) (by rfl) (by rfl)) (by rfl) rfl ?_
  refine jo_nil ?_
  refine jk_then ?_
  refine sk_split (x := 12) (by rfl) (fun h5 => ?_) (fun h5 => ?_)
  · first | have p5 := of_decide_eq_true h5 | have p5 := of_decide_eq_false h5 | have p5 := ndT h5 | have p5 := ndF h5 | have p5 := nbT h5 | have p5 := nbF h5 | have p5 := h5
    refine sc_true (by rfl) h5 ?_
    refine jc_seq ?_
    refine sc_region ?_
    refine so_pure (opv_move (by rfl)) (by rfl) rfl ?_
    refine so_pure (opv_assign (by rfl)) (by rfl) rfl ?_
    refine jo_nil ?_
    refine jk_then ?_
    refine jc_ret ?_
    refine jk_then_ret ?_
    refine jk_fn_ret rfl rfl (by rfl) (fun w hw => ?_)
    obtain ⟨hall, rfl⟩ : xs.all (fun y => !p y) = true ∧ vis = xs := by
      rcases hi with ⟨_, h⟩ | ⟨k, x, h, _⟩
      · exact h
      · omega
    rw [filter_all hall, ← hnx]
    exact hw
  · first | have p5 := of_decide_eq_true h5 | have p5 := of_decide_eq_false h5 | have p5 := ndT h5 | have p5 := ndF h5 | have p5 := nbT h5 | have p5 := nbF h5 | have p5 := h5
    refine sc_false (by rfl) h5 ?_
    refine jc_skip ?_
    refine jk_then ?_
    refine jc_seq ?_
    refine jc_seq ?_
    obtain ⟨k0, x0, rfl, hx0, hp0, hall, rfl⟩ := hi.resolve_left (fun h => by have := h.1; omega)
    have hk0 := (List.getElem?_eq_some_iff.1 hx0).1
    refine jk_own_open (by repeat (first | exact Pk.here _ | apply Pk.there)) (fun _ _ h0 => by omega) (fun bo cap2 cur hl hv hcap hmax hsz htake => ?_)
    subst hv
    have harr := arr_of_take Vol.cells_len hnx htake
    refine sc_region ?_
    refine so_pure (opv_move (by rfl)) (by rfl) rfl ?_
    refine so_pure (opv_add (by rfl) (by rfl) (wrap64_ok (by omega))) (by rfl) rfl ?_
    refine so_pure (opv_assign (by rfl)) (by rfl) rfl ?_
    refine jo_nil ?_
    refine jk_then ?_
    refine jc_block ?_
    refine jc_loop (σ := Nat × Nat × List Vol × Array Value) (fun (j, i, zs, c) => [(0, .slice (some ⟨bo, 0, none⟩) n cap2), (1, .func (.func fi) #[] cl.toArray), (5, .int .i64 i), (6, .int .i64 j)]) (fun (j, i, zs, c) => (blk bo (.cells c 33 (0, 0)) :: Fr (ys0 ++ xs.take j))) (fun (j, i, zs, c) => (j ≤ n) ∧ (i < j) ∧ ((zs).length = xs.length) ∧ ((c).size = cap2 * 4) ∧ (Arr c 0 4 Vol.cells zs) ∧ ((zs).take i = (xs.take j).filter (fun y => !p y)) ∧ ((zs).drop j = xs.drop j)) (fun (j, i, zs, c) => n - j) (k0 + 1, k0, xs, cur) ⟨by omega, by omega, rfl, hsz, harr, del_first hx0 hp0 hall, rfl⟩ ⟨rfl, rfl, rfl, rfl, trivial⟩ (fun w hw => hw) ?_
    rintro ⟨j, i, zs, c⟩ ⟨hj, hij, hlz, hcs, harr, h1, h2⟩
    show Jc _ _ [(0, .slice (some ⟨bo, 0, none⟩) n cap2), (1, .func (.func fi) #[] cl.toArray), (5, .int .i64 i), (6, .int .i64 j)] (blk bo (.cells c 33 (0, 0)) :: Fr (ys0 ++ xs.take j)) _
    refine jc_seq ?_
    refine jc_seq ?_
    refine sc_region ?_
    refine so_pure (opv_move (by rfl)) (by rfl) rfl ?_
    refine so_pure (opv_move (by rfl)) (by rfl) rfl ?_
    refine so_pure (opv_len_slice (by rfl) Try.underlying28) (by rfl) rfl ?_
    refine so_pure (opv_cmp (by rfl) (by rfl) (by rfl)) (by rfl) rfl ?_
    refine jo_nil ?_
    refine jk_then ?_
    refine sk_split (x := 19) (by rfl) (fun h9 => ?_) (fun h9 => ?_)
    · first | have p9 := of_decide_eq_true h9 | have p9 := of_decide_eq_false h9 | have p9 := ndT h9 | have p9 := ndF h9 | have p9 := nbT h9 | have p9 := nbF h9 | have p9 := h9
      refine sc_true (by rfl) h9 ?_
      refine jc_skip ?_
      refine jk_then ?_
      refine jc_seq ?_
      refine jc_block ?_
      refine jc_seq ?_
      have hlt : j < n := by omega
      obtain ⟨x, hx⟩ : ∃ x, xs[j]? = some x := ⟨xs[j], List.getElem?_eq_getElem (by omega)⟩
      have hzx : zs[j]? = some x := by
        have := congrArg (fun l => l[0]?) h2
        simpa [hx] using this
      refine sc_region ?_
      refine so_pure (opv_move (by rfl)) (by rfl) rfl ?_
      refine so_pure (opv_move (by rfl)) (by rfl) rfl ?_
      refine so_pure (opv_indexAddr (by rfl) (by rfl) Try.underlying28 ti33 (by first | rfl | omega) (by omega)) (by rfl) rfl ?_
      refine so_pure (opv_load_agg (vs := x.cells) (by rfl) ag33 ti33 (rd_pk (by repeat (first | exact Pk.here _ | apply Pk.there))) (harr j x hzx) rfl) (by rfl) rfl ?_
      refine so_eff (eff_alloc ti33 rfl) (by rfl) rfl ?_
      rintro _ _ ⟨b7, rfl, rfl⟩
      refine so_eff0 (eff_store_all (vs := x.cells) (by rfl) (by rfl) (by rfl) ti33 (by rfl) (by repeat (first | exact Pk.here _ | apply Pk.there)) (by rfl) (by rfl)) (by rfl) ?_
      rintro _ _ ⟨rfl, rfl⟩
      refine jo_nil ?_
      refine jk_then ?_
      refine jc_seq ?_
      refine sc_region ?_
      refine so_pure (opv_move (by rfl)) (by rfl) rfl ?_
      refine so_pure (opv_load_agg (vs := x.cells) (by rfl) ag33 ti33 (rd_pk (by repeat (first | exact Pk.here _ | apply Pk.there))) (by exact ⟨rfl, rfl, rfl, rfl, trivial⟩) rfl) (by rfl) rfl ?_
      refine so_eff (eff_call (fl := []) (cl := cl) (G := fun v Is' => v = .bool (p x) ∧ Is' = blk b7 (.cells x.cells.toArray 33 (0, 0)) :: blk bo (.cells c 33 (0, 0)) :: Fr (ys0 ++ xs.take j ++ [x])) (by rfl) (by rfl) tx (by exact fun w1 hw1 => (hf (ys0 ++ xs.take j) x [_, _] w1 (by rw [List.length_append, List.length_take]; omega) hw1).mono (fun _ _ ⟨hv, hst⟩ => ⟨_, ⟨hv, rfl⟩, hst⟩))) (by rfl) rfl ?_
      rintro _ _ ⟨rfl, rfl⟩
      refine so_pure (opv_not (by rfl)) (by rfl) rfl ?_
      refine jo_nil ?_
      refine jk_then ?_
      refine sk_split (x := 29) (by rfl) (fun h15 => ?_) (fun h15 => ?_)
      · first | have p15 := of_decide_eq_true h15 | have p15 := of_decide_eq_false h15 | have p15 := ndT h15 | have p15 := ndF h15 | have p15 := nbT h15 | have p15 := nbF h15 | have p15 := h15
        refine sc_true (by rfl) (not_t (by simpa using h15)) ?_
        refine jc_seq ?_
        refine sc_region ?_
        refine so_pure (opv_move (by rfl)) (by rfl) rfl ?_
        refine so_pure (opv_move (by rfl)) (by rfl) rfl ?_
        refine so_pure (opv_load_agg (vs := x.cells) (by rfl) ag33 ti33 (rd_pk (by repeat (first | exact Pk.here _ | apply Pk.there))) (by exact ⟨rfl, rfl, rfl, rfl, trivial⟩) rfl) (by rfl) rfl ?_
        refine so_pure (opv_indexAddr (i := i) (by rfl) (by rfl) Try.underlying28 ti33 (by rfl) (by omega)) (by rfl) rfl ?_
        refine so_eff0 (eff_store (vs := x.cells) (by rfl) (by rfl) (by rfl) ti33 (by rfl) (by repeat (first | exact Pk.here _ | apply Pk.there)) (by omega) (by rfl)) (by rfl) ?_
        rintro _ _ ⟨rfl, rfl⟩
        refine jo_nil ?_
        refine jk_then ?_
        refine sc_region ?_
        refine so_pure (opv_move (by rfl)) (by rfl) rfl ?_
        refine so_pure (opv_add (by rfl) (by rfl) (wrap64_ok (by omega))) (by rfl) rfl ?_
        refine so_pure (opv_assign (by rfl)) (by rfl) rfl ?_
        refine jo_nil ?_
        refine jk_block ?_
        refine jk_then ?_
        refine sc_region ?_
        refine so_pure (opv_move (by rfl)) (by rfl) rfl ?_
        refine so_pure (opv_add (by rfl) (by rfl) (wrap64_ok (by omega))) (by rfl) rfl ?_
        refine so_pure (opv_assign (by rfl)) (by rfl) rfl ?_
        refine jo_nil ?_
        have hdel := del_keep (p := p) hx hij hlz h1 h2 (by simpa using p15)
        obtain ⟨y, hy⟩ : ∃ y, zs[i]? = some y := ⟨zs[i], List.getElem?_eq_getElem (by omega)⟩
        have harr2 := harr.put Vol.cells_len (y := x) (vs := x.cells) (fo := 0) hy (by rw [Vol.cells_len]; omega) (by rw [Vol.cells_len]; omega) (fun k v hv => by
          have hk := (List.getElem?_eq_some_iff.1 hv).1
          rw [Vol.cells_len] at hk ⊢
          rw [if_pos (by omega)]; exact hv)
        refine jk_round (j + 1, i + 1, zs.set i x, putCells c (0 + i * 4) x.cells) ⟨by omega, by omega, by rw [List.length_set]; exact hlz, by rw [putCells_size]; exact hcs, harr2, hdel.1, hdel.2⟩ (by show n - (j + 1) < n - j; omega) ⟨rfl, rfl, rfl, rfl, trivial⟩ (fun w hw => ?_)
        show St _ _ (blk bo (.cells (putCells c (0 + i * 4) x.cells) 33 (0, 0)) :: Fr (ys0 ++ xs.take (j + 1))) _
        rw [take_snoc hx, ← List.append_assoc]
        first | exact hw.drop | exact (hw.pk (.there (.here _))).drop
      · first | have p15 := of_decide_eq_true h15 | have p15 := of_decide_eq_false h15 | have p15 := ndT h15 | have p15 := ndF h15 | have p15 := nbT h15 | have p15 := nbF h15 | have p15 := h15
        refine sc_false (by rfl) (not_f (by simpa using h15)) ?_
        refine jc_skip ?_
        refine jk_block ?_
        refine jk_then ?_
        refine sc_region ?_
        refine so_pure (opv_move (by rfl)) (by rfl) rfl ?_
        refine so_pure (opv_add (by rfl) (by rfl) (wrap64_ok (by omega))) (by rfl) rfl ?_
        refine so_pure (opv_assign (by rfl)) (by rfl) rfl ?_
        refine jo_nil ?_
        have hdel := del_skip (p := p) hx h1 h2 (by simpa using p15)
        refine jk_round (j + 1, i, zs, c) ⟨by omega, by omega, hlz, hcs, harr, hdel.1, hdel.2⟩ (by show n - (j + 1) < n - j; omega) ⟨rfl, rfl, rfl, rfl, trivial⟩ (fun w hw => ?_)
        show St _ _ (blk bo (.cells (c) 33 (0, 0)) :: Fr (ys0 ++ xs.take (j + 1))) _
        rw [take_snoc hx, ← List.append_assoc]
        first | exact hw.drop | exact (hw.pk (.there (.here _))).drop
    · first | have p9 := of_decide_eq_true h9 | have p9 := of_decide_eq_false h9 | have p9 := ndT h9 | have p9 := ndF h9 | have p9 := nbT h9 | have p9 := nbF h9 | have p9 := h9
      refine sc_false (by rfl) h9 ?_
      refine jc_exit ?_
      refine jk_then_exit ?_
      refine jk_then_exit ?_
      refine jk_block_exit ?_
      refine jk_then ?_
      refine jc_seq ?_
      refine sc_region ?_
      refine so_pure (opv_move (by rfl)) (by rfl) rfl ?_
      refine so_pure (opv_move (by rfl)) (by rfl) rfl ?_
      refine so_pure (opv_slice (l := i) (h := n) (by rfl) Try.underlying28 ti33 (by rfl) (by rfl) (by rfl) (by rfl) (by omega) (by omega)) (by rfl) rfl ?_
      refine so_eff0 (eff_clear (b := bo) (off := 0 + i * 4) (n := n - i) (cap := cap2 - i) (by have hne : ¬ cap2 = i := (by omega); show some (Value.slice (if cap2 = i then some (⟨bo, 0, none⟩ : Addr) else Option.map (fun a : Addr => a.add (i * 4)) (some (⟨bo, 0, none⟩ : Addr))) (n - i) (cap2 - i)) = _; rw [if_neg hne]; simp only [Option.map_some, add_at]) Try.underlying28 ti33 (by repeat (first | exact Pk.here _ | apply Pk.there)) (by simp [Value.cells]; omega) (zero_one (by rfl) _)) (by rfl) ?_
      rintro _ _ ⟨rfl, rfl⟩
      refine jo_nil ?_
      refine jk_then ?_
      refine jc_seq ?_
      refine sc_region ?_
      refine so_pure (opv_move (by rfl)) (by rfl) rfl ?_
      refine so_pure (opv_move (by rfl)) (by rfl) rfl ?_
      refine so_pure (opv_slice (l := 0) (h := i) (by rfl) Try.underlying28 ti33 (by rfl) (by rfl) (by rfl) (by rfl) (by omega) (by omega)) (by rfl) rfl ?_
      refine so_pure (opv_assign (by rfl)) (by rfl) rfl ?_
      refine jo_nil ?_
      refine jk_then ?_
      refine jc_ret ?_
      refine jk_fn_ret rfl rfl (by rfl) (fun w hw => ?_)
      have ej : j = n := by omega
      rw [ej, hnx, List.take_length] at hw
      rw [← hnx] at hw
      have eF : xs.filter (fun y => !p y) = zs.take i := by rw [h1, ej, hnx, List.take_length]
      have eA : (if cap2 = 0 then some (⟨bo, 0, none⟩ : Addr) else Option.map (fun a : Addr => a.add (0 * 4)) (some (⟨bo, 0, none⟩ : Addr))) = some (⟨bo, 0, none⟩ : Addr) := by split <;> simp [Addr.add]
      have hli : (zs.take i).length = i := by rw [List.length_take]; omega
      rw [eF, hli]
      show St _ _ (own (.slice (if cap2 = 0 then some (⟨bo, 0, none⟩ : Addr) else Option.map (fun a : Addr => a.add (0 * 4)) (some (⟨bo, 0, none⟩ : Addr))) i cap2) 33 4 i _ :: Fr (ys0 ++ xs)) w
      rw [eA]
      refine hw.own_mk (by omega) hmax (by rw [putCells_size]; exact hcs) (arr_ext Vol.cells_len (by omega) hli.symm (by rw [putCells_size]; omega) ((harr.take i).putAfter Vol.cells_len (by rw [hli]; omega) (by rw [Array.length_toList, size_zeroCells]; simp [Value.cells]; omega)))
end Go.Pins
