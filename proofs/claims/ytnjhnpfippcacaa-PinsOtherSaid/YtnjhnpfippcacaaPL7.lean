/- A part of a proof for the laws of the seat Ytnjhnpfippcacaa; it has no conditions of its own. -/
import Derived.Test.YtnjhnpfippcacaaPL6
import Derived.Test.YtnjhnpfippcacaaPPlain
import Derived.Test.YtnjhnpfippcacaaPFits
namespace Go.Pins
open Go Go.SL Go.Proofs
set_option maxHeartbeats 4000000 in
theorem law_other (w : World) (A : Option Addr) (n cap : Nat) (xs : List Vol) (hs : SlR w 33 4 Vol.cells A n xs) (hok : ∀ x ∈ xs, VolOk w x) (hmax : n ≤ 9223372036854775807) (id gen : Int) : Does Try.prog 7 #[.slice A n cap, .int .i64 id, .int .i64 gen] w (fun v w' => v = .bool true ∧ St w Emp [] w') := by
  refine fn_body (fn := Try.f7) Try.func7 rfl [(0, .slice A n cap), (1, .int .i64 id), (2, .int .i64 gen)] (by exact ⟨rfl, rfl, rfl, trivial⟩) rfl (St.start w) ?_
  refine jc_seq ?_
  refine sc_region ?_
  refine so_pure (opv_assign (by rfl)) (by rfl) rfl ?_
  refine jo_nil ?_
  refine jk_then ?_
  refine jc_seq ?_
  refine jc_seq ?_
  refine sc_region ?_
  refine so_pure (opv_move (by rfl)) (by rfl) rfl ?_
  refine so_pure (opv_len_slice (by rfl) Try.underlying28) (by rfl) rfl ?_
  refine so_pure (opv_cmp (by rfl) (by rfl) (by rfl)) (by rfl) rfl ?_
  refine jo_nil ?_
  refine jk_then ?_
  refine sk_split (x := 15) (by rfl) (fun h5 => ?_) (fun h5 => ?_)
  · first | have p5 := of_decide_eq_true h5 | have p5 := of_decide_eq_false h5 | have p5 := ndT h5 | have p5 := ndF h5 | have p5 := nbT h5 | have p5 := nbF h5 | have p5 := h5
    refine sc_true (by rfl) h5 ?_
    refine jc_seq ?_
    refine sc_region ?_
    refine so_eff (eff_call0 (G := fun u New => u = .bool true ∧ New = []) (by rfl) (by rfl) tx8 (by exact fun w1 hw1 => (live_spec w1).mono (fun _ _ ⟨hv, hst⟩ => ⟨[], ⟨hv, rfl⟩, hst⟩))) (by rfl) rfl ?_
    rintro _ _ ⟨_, ⟨rfl, rfl⟩, rfl⟩
    refine so_pure (opv_assign (by rfl)) (by rfl) rfl ?_
    refine jo_nil ?_
    refine jk_then ?_
    refine jc_ret ?_
    refine jk_then_ret ?_
    refine jk_fn_ret rfl rfl (by rfl) (fun w hw => ?_)
    exact ⟨rfl, hw.forget⟩
  · first | have p5 := of_decide_eq_true h5 | have p5 := of_decide_eq_false h5 | have p5 := ndT h5 | have p5 := ndF h5 | have p5 := nbT h5 | have p5 := nbF h5 | have p5 := h5
    refine sc_false (by rfl) h5 ?_
    refine jc_skip ?_
    refine jk_then ?_
    refine jc_seq ?_
    refine sc_region ?_
    refine so_eff (eff_call0 (G := fun v New => ∃ bp mb, v = .pointer (some ⟨bp, 0, none⟩) ∧ New = [bunch [], own (.slice none 0 0) 33 4 ([] : List Vol).length (([] : List Vol).flatMap Vol.cells), blk bp (.cells #[.map (some mb), .slice none 0 0] 48 (0, 0)), mapI kvQ mb (mp [])]) (by rfl) (by rfl) tx9 (by exact fun w1 hw1 => (new_spec w1).mono (fun _ _ ⟨bp, mb, hv, hst⟩ => ⟨_, ⟨bp, mb, hv, rfl⟩, (hst.own_nil 33 4).bunch_nil⟩))) (by rfl) rfl ?_
    rintro _ _ ⟨_, ⟨bp, mb, rfl, rfl⟩, rfl⟩
    refine so_pure (opv_assign (by rfl)) (by rfl) rfl ?_
    refine jo_nil ?_
    refine jk_then ?_
    refine jc_seq ?_
    refine jc_seq ?_
    refine sc_region ?_
    refine so_pure (opv_move (by rfl)) (by rfl) rfl ?_
    refine so_pure (opv_ptr_nil (by rfl) (by rfl) Try.underlying24) (by rfl) rfl ?_
    refine jo_nil ?_
    refine jk_then ?_
    refine sc_false (by rfl) rfl ?_
    refine jc_skip ?_
    refine jk_then ?_
    refine jc_seq ?_
    refine sc_region ?_
    refine so_pure (opv_move (by rfl)) (by rfl) rfl ?_
    refine so_pure (opv_move (by rfl)) (by rfl) rfl ?_
    refine so_pure (opv_move (by rfl)) (by rfl) rfl ?_
    refine so_eff (eff_callF [blk bp (.cells #[.map (some mb), (.slice none 0 0)] 48 (0, 0)), mapI kvQ mb (mp ([] : RD))] (fl := []) (cl := []) (G := fun v Is' => v = .int .i64 0 ∧ Is' = [blk bp (.cells #[.map (some mb), (.slice none 0 0)] 48 (0, 0)), mapI kvQ mb (mp (setL ([] : RD) (id, gen) (cntOf ([] : RD) (id, gen) + 1)))]) (by rfl) (by rfl) tx10 (by repeat (first | exact Pks.nil _ | exact Pk.here _ | apply Pk.there | apply Pks.cons)) (by exact fun w1 hw1 => (pin_spec id gen hw1 (by exact Nat.zero_le 1000000)).mono (fun _ _ ⟨hv, hst⟩ => ⟨_, ⟨hv, rfl⟩, hst⟩))) (by rfl) rfl ?_
    rintro _ _ ⟨_, ⟨rfl, rfl⟩, rfl⟩
    refine jo_nil ?_
    refine jk_then ?_
    refine jc_seq ?_
    refine sc_region ?_
    refine so_pure (opv_assign (by rfl)) (by rfl) rfl ?_
    refine jo_nil ?_
    refine jk_then ?_
    refine jc_seq ?_
    refine jc_seq ?_
    refine sc_region ?_
    refine so_pure (opv_assign (by rfl)) (by rfl) rfl ?_
    refine jo_nil ?_
    refine jk_then ?_
    refine jc_block ?_
    refine jc_loop (σ := Nat × Value × List Vol × List (Nat × Obj) × List Rec × Nat) (fun (k, wv, ws, fs, rs, held) => [(0, .slice A n cap), (1, .int .i64 id), (2, .int .i64 gen), (7, .pointer (some ⟨bp, 0, none⟩)), (8, .int .i64 held), (9, .int .i64 k)]) (fun (k, wv, ws, fs, rs, held) => [blk bp (.cells #[.map (some mb), wv] 48 (0, 0)), own wv 33 4 ws.length (ws.flatMap Vol.cells), bunch fs, mapI kvQ mb (mp (one (id, gen)))]) (fun (k, wv, ws, fs, rs, held) => (k ≤ n) ∧ (All2 (Vf w Emp fs) ws rs) ∧ (rs.length ≤ k) ∧ (heldOf rs (id, gen) = held) ∧ (held ≤ 1)) (fun (k, wv, ws, fs, rs, held) => n - k) (0, .slice none 0 0, [], [], [], 0) ⟨Nat.zero_le _, trivial, Nat.le_refl _, rfl, by omega⟩ ⟨rfl, rfl, rfl, rfl, rfl, rfl, trivial⟩ (fun w hw => St.sel hw (by repeat (first | exact Pks.nil _ | exact Pk.here _ | apply Pk.there | apply Pks.cons))) ?_
    rintro ⟨k, wv, ws, fs, rs, held⟩ ⟨hk, ha, hl, hh, h1⟩
    show Jc _ _ [(0, .slice A n cap), (1, .int .i64 id), (2, .int .i64 gen), (7, .pointer (some ⟨bp, 0, none⟩)), (8, .int .i64 held), (9, .int .i64 k)] [blk bp (.cells #[.map (some mb), wv] 48 (0, 0)), own wv 33 4 ws.length (ws.flatMap Vol.cells), bunch fs, mapI kvQ mb (mp (one (id, gen)))] _
    refine jc_seq ?_
    refine jc_seq ?_
    refine sc_region ?_
    refine so_pure (opv_move (by rfl)) (by rfl) rfl ?_
    refine so_pure (opv_move (by rfl)) (by rfl) rfl ?_
    refine so_pure (opv_len_slice (by rfl) Try.underlying28) (by rfl) rfl ?_
    refine so_pure (opv_cmp (by rfl) (by rfl) (by rfl)) (by rfl) rfl ?_
    refine jo_nil ?_
    refine jk_then ?_
    refine sk_split (x := 27) (by rfl) (fun h13 => ?_) (fun h13 => ?_)
    · first | have p13 := of_decide_eq_true h13 | have p13 := of_decide_eq_false h13 | have p13 := ndT h13 | have p13 := ndF h13 | have p13 := nbT h13 | have p13 := nbF h13 | have p13 := h13
      refine sc_true (by rfl) h13 ?_
      refine jc_skip ?_
      refine jk_then ?_
      refine jc_seq ?_
      refine jc_block ?_
      refine jc_seq ?_
      refine jc_seq ?_
      have hlt : k < n := by omega
      obtain ⟨_, _, _, _, x, _, _, hx, _⟩ := hs.get hlt
      have hvo := hok x (List.mem_of_getElem? hx)
      refine sc_region ?_
      refine so_pure (opv_move (by rfl)) (by rfl) rfl ?_
      refine so_pure (opv_move (by rfl)) (by rfl) rfl ?_
      refine so_pure (opv_indexAddr_slr (i := k) (by rfl) hs (by rfl) Try.underlying28 ti33 rfl hlt) (by rfl) rfl ?_
      refine so_pure (opv_fieldAddr (by rfl) fld33_3) (by rfl) rfl ?_
      refine so_pure (opv_load_slr (u := x) (fo := 3) (v := .slice x.lA x.ln x.lc) (by rfl) na31 rfl hs hx rfl) (by rfl) rfl ?_
      refine so_pure (opv_len_slice (by rfl) Try.underlying31) (by rfl) rfl ?_
      refine so_pure (opv_cmp (by rfl) (by rfl) (by rfl)) (by rfl) rfl ?_
      refine jo_nil ?_
      refine jk_then ?_
      refine sk_split (x := 36) (by rfl) (fun h19 => ?_) (fun h19 => ?_)
      · first | have p19 := of_decide_eq_true h19 | have p19 := of_decide_eq_false h19 | have p19 := ndT h19 | have p19 := ndF h19 | have p19 := nbT h19 | have p19 := nbF h19 | have p19 := h19
        refine sc_true (by rfl) h19 ?_
        refine jc_seq ?_
        refine sc_region ?_
        refine so_eff (eff_call0 (G := fun u New => u = .bool true ∧ New = []) (by rfl) (by rfl) tx8 (by exact fun w1 hw1 => (live_spec w1).mono (fun _ _ ⟨hv, hst⟩ => ⟨[], ⟨hv, rfl⟩, hst⟩))) (by rfl) rfl ?_
        rintro _ _ ⟨_, ⟨rfl, rfl⟩, rfl⟩
        refine so_pure (opv_assign (by rfl)) (by rfl) rfl ?_
        refine jo_nil ?_
        refine jk_then ?_
        refine jc_ret ?_
        refine jk_then_ret ?_
        refine jk_block_ret ?_
        refine jk_then_ret ?_
        refine jk_then_ret ?_
        refine jk_block_ret ?_
        refine jk_then_ret ?_
        refine jk_fn_ret rfl rfl (by rfl) (fun w hw => ?_)
        exact ⟨rfl, hw.forget⟩
      · first | have p19 := of_decide_eq_true h19 | have p19 := of_decide_eq_false h19 | have p19 := ndT h19 | have p19 := ndF h19 | have p19 := nbT h19 | have p19 := nbF h19 | have p19 := h19
        refine sc_false (by rfl) h19 ?_
        refine jc_skip ?_
        refine jk_then ?_
        refine jc_seq ?_
        obtain ⟨r, hv⟩ := hvo.vf (by omega) fs
        refine sc_region ?_
        refine so_pure (opv_move (by rfl)) (by rfl) rfl ?_
        refine so_pure (opv_move (by rfl)) (by rfl) rfl ?_
        refine so_pure (opv_move (by rfl)) (by rfl) rfl ?_
        refine so_pure (opv_indexAddr_slr (i := k) (by rfl) hs (by rfl) Try.underlying28 ti33 rfl hlt) (by rfl) rfl ?_
        refine so_pure (opv_load_agg_slr (u := x) Vol.cells_len (by rfl) ag33 ti33 rfl hs hx) (by rfl) rfl ?_
        refine so_eff (eff_callF [blk bp (.cells #[.map (some mb), wv] 48 (0, 0)), own wv 33 4 ws.length (ws.flatMap Vol.cells), bunch fs] (fl := []) (cl := []) (G := fun v Is' => ∃ wv' ws' fs', v = .int .i64 (retE rs r) ∧ (∀ b o, getL fs b = some o → getL fs' b = some o) ∧ All2 (Vf w Emp fs') ws' (retL rs r) ∧ Is' = [blk bp (.cells #[.map (some mb), wv'] 48 (0, 0)), own wv' 33 4 ws'.length (ws'.flatMap Vol.cells), bunch fs']) (by rfl) (by rfl) tx14 (by repeat (first | exact Pks.nil _ | exact Pk.here _ | apply Pk.there | apply Pks.cons)) (by exact fun w1 hw1 => (retire2 x r hw1 ha hv (by rw [ha.len]; omega)).mono (fun _ _ ⟨wv', ws', fs', h1, h2, h3, hst⟩ => ⟨_, ⟨wv', ws', fs', h1, h2, h3, rfl⟩, hst⟩))) (by rfl) rfl ?_
        rintro _ _ ⟨_, ⟨wv, ws, fs, rfl, hsub, ha, rfl⟩, rfl⟩
        refine so_pure (opv_cmp (by rfl) (by rfl) (by rfl)) (by rfl) rfl ?_
        refine so_pure (opv_move (by rfl)) (by rfl) rfl ?_
        refine sk_split (x := 45) (by rfl) (fun h25 => ?_) (fun h25 => ?_)
        · first | have p25 := of_decide_eq_true h25 | have p25 := of_decide_eq_false h25 | have p25 := ndT h25 | have p25 := ndF h25 | have p25 := nbT h25 | have p25 := nbF h25 | have p25 := h25
          refine so_pure (opv_move (by rfl)) (wtd_run rfl rfl (by rfl) h25) rfl ?_
          refine so_pure (opv_move (by rfl)) (wtd_run rfl rfl (by rfl) h25) rfl ?_
          refine so_pure (opv_indexAddr_slr (i := k) (by rfl) hs (by rfl) Try.underlying28 ti33 rfl hlt) (wtd_run rfl rfl (by rfl) h25) rfl ?_
          refine so_pure (opv_fieldAddr (by rfl) fld33_0) (wtd_run rfl rfl (by rfl) h25) rfl ?_
          refine so_pure (opv_load_slr (u := x) (fo := 0) (v := .int .i64 x.id) (by rfl) na3 rfl hs hx rfl) (wtd_run rfl rfl (by rfl) h25) rfl ?_
          refine so_pure (opv_move (by rfl)) (wtd_run rfl rfl (by rfl) h25) rfl ?_
          refine so_pure (opv_cmp (by rfl) (by rfl) (by rfl)) (wtd_run rfl rfl (by rfl) h25) rfl ?_
          refine so_pure (sv_pick_t (by rfl) h25 (by rfl)) (by rfl) rfl ?_
          refine so_pure (opv_move (by rfl)) (by rfl) rfl ?_
          refine sk_split (x := 54) (by rfl) (fun h30 => ?_) (fun h30 => ?_)
          · first | have p30 := of_decide_eq_true h30 | have p30 := of_decide_eq_false h30 | have p30 := ndT h30 | have p30 := ndF h30 | have p30 := nbT h30 | have p30 := nbF h30 | have p30 := h30
            refine so_pure (opv_move (by rfl)) (wtd_run rfl rfl (by rfl) h30) rfl ?_
            refine so_pure (opv_move (by rfl)) (wtd_run rfl rfl (by rfl) h30) rfl ?_
            refine so_pure (opv_indexAddr_slr (i := k) (by rfl) hs (by rfl) Try.underlying28 ti33 rfl hlt) (wtd_run rfl rfl (by rfl) h30) rfl ?_
            refine so_pure (opv_fieldAddr (by rfl) fld33_1) (wtd_run rfl rfl (by rfl) h30) rfl ?_
            refine so_pure (opv_load_slr (u := x) (fo := 1) (v := .int .i64 x.gen) (by rfl) na3 rfl hs hx rfl) (wtd_run rfl rfl (by rfl) h30) rfl ?_
            refine so_pure (opv_move (by rfl)) (wtd_run rfl rfl (by rfl) h30) rfl ?_
            refine so_pure (opv_cmp (by rfl) (by rfl) (by rfl)) (wtd_run rfl rfl (by rfl) h30) rfl ?_
            refine so_pure (sv_pick_t (by rfl) h30 (by rfl)) (by rfl) rfl ?_
            refine jo_nil ?_
            refine jk_then ?_
            refine sk_split (x := 62) (by rfl) (fun h35 => ?_) (fun h35 => ?_)
            · first | have p35 := of_decide_eq_true h35 | have p35 := of_decide_eq_false h35 | have p35 := ndT h35 | have p35 := ndF h35 | have p35 := nbT h35 | have p35 := nbF h35 | have p35 := h35
              refine sc_true (by rfl) h35 ?_
              refine sc_region ?_
              refine so_pure (opv_move (by rfl)) (by rfl) rfl ?_
              refine so_pure (opv_add (by rfl) (by rfl) (wrap64_ok (by omega))) (by rfl) rfl ?_
              refine so_pure (opv_assign (by rfl)) (by rfl) rfl ?_
              refine jo_nil ?_
              refine jk_block ?_
              refine jk_then ?_
              refine sc_region ?_
              refine so_pure (opv_move (by rfl)) (by rfl) rfl ?_
              refine so_pure (opv_add (by rfl) (by rfl) (wrap64_ok (by omega))) (by rfl) rfl ?_
              refine so_pure (opv_assign (by rfl)) (by rfl) rfl ?_
              refine jo_nil ?_
              have hst := held_step (r := r) hh h1 p25 (by rw [← hv.key]; exact Prod.ext p30 p35)
              refine jk_round (k + 1, wv, ws, fs, retL rs r, held + 1) ⟨by omega, ha, Nat.le_trans (retL_len _ _) (by omega), hst.1, hst.2⟩ (by show n - (k + 1) < n - k; omega) ⟨rfl, rfl, rfl, rfl, rfl, rfl, trivial⟩ (fun w hw => ?_)
              show St _ _ [blk bp (.cells #[.map (some mb), (wv)] 48 (0, 0)), own (wv) 33 4 (ws).length ((ws).flatMap Vol.cells), bunch (fs), mapI kvQ mb (mp (one (id, gen)))] _
              exact St.sel hw (by repeat (first | exact Pks.nil _ | exact Pk.here _ | apply Pk.there | apply Pks.cons))
            · first | have p35 := of_decide_eq_true h35 | have p35 := of_decide_eq_false h35 | have p35 := ndT h35 | have p35 := ndF h35 | have p35 := nbT h35 | have p35 := nbF h35 | have p35 := h35
              refine sc_false (by rfl) h35 ?_
              refine jc_skip ?_
              refine jk_block ?_
              refine jk_then ?_
              refine sc_region ?_
              refine so_pure (opv_move (by rfl)) (by rfl) rfl ?_
              refine so_pure (opv_add (by rfl) (by rfl) (wrap64_ok (by omega))) (by rfl) rfl ?_
              refine so_pure (opv_assign (by rfl)) (by rfl) rfl ?_
              refine jo_nil ?_
              have hst := held_same (r := r) hh (fun h => p35 (by have := congrArg Prod.snd h.2; rw [← hv.key] at this; exact this))
              refine jk_round (k + 1, wv, ws, fs, retL rs r, held) ⟨by omega, ha, Nat.le_trans (retL_len _ _) (by omega), hst, h1⟩ (by show n - (k + 1) < n - k; omega) ⟨rfl, rfl, rfl, rfl, rfl, rfl, trivial⟩ (fun w hw => ?_)
              show St _ _ [blk bp (.cells #[.map (some mb), (wv)] 48 (0, 0)), own (wv) 33 4 (ws).length ((ws).flatMap Vol.cells), bunch (fs), mapI kvQ mb (mp (one (id, gen)))] _
              exact St.sel hw (by repeat (first | exact Pks.nil _ | exact Pk.here _ | apply Pk.there | apply Pks.cons))
          · first | have p30 := of_decide_eq_true h30 | have p30 := of_decide_eq_false h30 | have p30 := ndT h30 | have p30 := ndF h30 | have p30 := nbT h30 | have p30 := nbF h30 | have p30 := h30
            refine so_skip (wtd_not rfl rfl (by rfl) h30) rfl ?_
            refine so_skip (wtd_not rfl rfl (by rfl) h30) rfl ?_
            refine so_skip (wtd_not rfl rfl (by rfl) h30) rfl ?_
            refine so_skip (wtd_not rfl rfl (by rfl) h30) rfl ?_
            refine so_skip (wtd_not rfl rfl (by rfl) h30) rfl ?_
            refine so_skip (wtd_not rfl rfl (by rfl) h30) rfl ?_
            refine so_skip (wtd_not rfl rfl (by rfl) h30) rfl ?_
            refine so_pure (sv_pick_f (by rfl) h30 (by rfl)) (by rfl) rfl ?_
            refine jo_nil ?_
            refine jk_then ?_
            refine sc_false (by rfl) rfl ?_
            refine jc_skip ?_
            refine jk_block ?_
            refine jk_then ?_
            refine sc_region ?_
            refine so_pure (opv_move (by rfl)) (by rfl) rfl ?_
            refine so_pure (opv_add (by rfl) (by rfl) (wrap64_ok (by omega))) (by rfl) rfl ?_
            refine so_pure (opv_assign (by rfl)) (by rfl) rfl ?_
            refine jo_nil ?_
            have hst := held_same (r := r) hh (fun h => p30 (by have := congrArg Prod.fst h.2; rw [← hv.key] at this; exact this))
            refine jk_round (k + 1, wv, ws, fs, retL rs r, held) ⟨by omega, ha, Nat.le_trans (retL_len _ _) (by omega), hst, h1⟩ (by show n - (k + 1) < n - k; omega) ⟨rfl, rfl, rfl, rfl, rfl, rfl, trivial⟩ (fun w hw => ?_)
            show St _ _ [blk bp (.cells #[.map (some mb), (wv)] 48 (0, 0)), own (wv) 33 4 (ws).length ((ws).flatMap Vol.cells), bunch (fs), mapI kvQ mb (mp (one (id, gen)))] _
            exact St.sel hw (by repeat (first | exact Pks.nil _ | exact Pk.here _ | apply Pk.there | apply Pks.cons))
        · first | have p25 := of_decide_eq_true h25 | have p25 := of_decide_eq_false h25 | have p25 := ndT h25 | have p25 := ndF h25 | have p25 := nbT h25 | have p25 := nbF h25 | have p25 := h25
          refine so_skip (wtd_not rfl rfl (by rfl) h25) rfl ?_
          refine so_skip (wtd_not rfl rfl (by rfl) h25) rfl ?_
          refine so_skip (wtd_not rfl rfl (by rfl) h25) rfl ?_
          refine so_skip (wtd_not rfl rfl (by rfl) h25) rfl ?_
          refine so_skip (wtd_not rfl rfl (by rfl) h25) rfl ?_
          refine so_skip (wtd_not rfl rfl (by rfl) h25) rfl ?_
          refine so_skip (wtd_not rfl rfl (by rfl) h25) rfl ?_
          refine so_pure (sv_pick_f (by rfl) h25 (by rfl)) (by rfl) rfl ?_
          refine so_pure (opv_move (by rfl)) (by rfl) rfl ?_
          refine so_skip (wtd_not rfl rfl (by rfl) rfl) rfl ?_
          refine so_skip (wtd_not rfl rfl (by rfl) rfl) rfl ?_
          refine so_skip (wtd_not rfl rfl (by rfl) rfl) rfl ?_
          refine so_skip (wtd_not rfl rfl (by rfl) rfl) rfl ?_
          refine so_skip (wtd_not rfl rfl (by rfl) rfl) rfl ?_
          refine so_skip (wtd_not rfl rfl (by rfl) rfl) rfl ?_
          refine so_skip (wtd_not rfl rfl (by rfl) rfl) rfl ?_
          refine so_pure (sv_pick_f (by rfl) rfl (by rfl)) (by rfl) rfl ?_
          refine jo_nil ?_
          refine jk_then ?_
          refine sc_false (by rfl) rfl ?_
          refine jc_skip ?_
          refine jk_block ?_
          refine jk_then ?_
          refine sc_region ?_
          refine so_pure (opv_move (by rfl)) (by rfl) rfl ?_
          refine so_pure (opv_add (by rfl) (by rfl) (wrap64_ok (by omega))) (by rfl) rfl ?_
          refine so_pure (opv_assign (by rfl)) (by rfl) rfl ?_
          refine jo_nil ?_
          have hst := held_same (r := r) hh (fun h => p25 h.1)
          refine jk_round (k + 1, wv, ws, fs, retL rs r, held) ⟨by omega, ha, Nat.le_trans (retL_len _ _) (by omega), hst, h1⟩ (by show n - (k + 1) < n - k; omega) ⟨rfl, rfl, rfl, rfl, rfl, rfl, trivial⟩ (fun w hw => ?_)
          show St _ _ [blk bp (.cells #[.map (some mb), (wv)] 48 (0, 0)), own (wv) 33 4 (ws).length ((ws).flatMap Vol.cells), bunch (fs), mapI kvQ mb (mp (one (id, gen)))] _
          exact St.sel hw (by repeat (first | exact Pks.nil _ | exact Pk.here _ | apply Pk.there | apply Pks.cons))
    · first | have p13 := of_decide_eq_true h13 | have p13 := of_decide_eq_false h13 | have p13 := ndT h13 | have p13 := ndF h13 | have p13 := nbT h13 | have p13 := nbF h13 | have p13 := h13
      refine sc_false (by rfl) h13 ?_
      refine jc_exit ?_
      refine jk_then_exit ?_
      refine jk_then_exit ?_
      refine jk_block_exit ?_
      refine jk_then ?_
      refine jc_seq ?_
      refine sc_region ?_
      refine so_pure (opv_move (by rfl)) (by rfl) rfl ?_
      refine so_eff (eff_callF [blk bp (.cells #[.map (some mb), wv] 48 (0, 0)), own wv 33 4 ws.length (ws.flatMap Vol.cells), bunch fs] (fl := []) (cl := []) (G := fun v Is' => ∃ fs' zs, (∀ b o, getL fs b = some o → getL fs' b = some o) ∧ All2 (Vf w Emp fs') zs rs ∧ Is' = [blk bp (.cells #[.map (some mb), wv] 48 (0, 0)), own wv 33 4 ws.length (ws.flatMap Vol.cells), bunch fs', own v 33 4 ws.length (zs.flatMap Vol.cells)]) (by rfl) (by rfl) tx19 (by repeat (first | exact Pks.nil _ | exact Pk.here _ | apply Pk.there | apply Pks.cons)) (by exact fun w1 hw1 => (waits_spec hw1 ha (by rw [ha.len]; omega)).mono (fun _ _ ⟨fs', zs, h1, h2, hst⟩ => ⟨_, ⟨fs', zs, h1, h2, rfl⟩, hst⟩))) (by rfl) rfl ?_
      rintro qv _ ⟨_, ⟨fs, q, hsub, hq, rfl⟩, rfl⟩
      replace ha := ha.mono (Vf.more hsub)
      obtain ⟨nn, hnn⟩ : ∃ nn : Nat, nn = ws.length := ⟨_, rfl⟩
      refine so_pure (show Opv _ _ _ _ (.int .i64 nn) from by rw [hnn]; exact (opv_len_own (by rfl) Try.underlying28 (by repeat (first | exact Pk.here _ | apply Pk.there)))) (by rfl) rfl ?_
      refine so_pure (opv_assign (by rfl)) (by rfl) rfl ?_
      refine jo_nil ?_
      have hnr : nn = rs.length := by rw [hnn, ha.len]
      refine jk_then ?_
      refine jc_seq ?_
      refine sc_region ?_
      refine so_pure (opv_move (by rfl)) (by rfl) rfl ?_
      refine so_eff (eff_callF [blk bp (.cells #[.map (some mb), wv] 48 (0, 0)), own wv 33 4 ws.length (ws.flatMap Vol.cells), mapI kvQ mb (mp (one (id, gen)))] (fl := []) (cl := []) (G := fun v Is' => ∃ wv' ws' zs, All2 (Vf w Emp fs) ws' (rs.filter (fun y => !noR (one (id, gen)) y)) ∧ All2 (Vf w Emp fs) zs (rs.filter (noR (one (id, gen)))) ∧ Is' = [blk bp (.cells #[.map (some mb), wv'] 48 (0, 0)), own wv' 33 4 ws'.length (ws'.flatMap Vol.cells), mapI kvQ mb (mp (one (id, gen))), own v 33 4 zs.length (zs.flatMap Vol.cells)]) (by rfl) (by rfl) tx17 (by repeat (first | exact Pks.nil _ | exact Pk.here _ | apply Pk.there | apply Pks.cons)) (by exact fun w1 hw1 => (reap2 hw1 ha (by rw [ha.len]; omega)).mono (fun _ _ ⟨wv', ws', zs, h1, h2, hst⟩ => ⟨_, ⟨wv', ws', zs, h1, h2, rfl⟩, hst⟩))) (by rfl) rfl ?_
      rintro lv _ ⟨_, ⟨wv, ws, l, ha, hl, rfl⟩, rfl⟩
      refine so_pure (opv_assign (by rfl)) (by rfl) rfl ?_
      refine jo_nil ?_
      have hl2 := hl
      clear hl
      have hll := hl2.len
      have hlle : l.length ≤ rs.length := by rw [hll]; exact List.length_filter_le _ _
      refine jk_then ?_
      refine jc_seq ?_
      refine jc_seq ?_
      refine sc_region ?_
      refine so_pure (opv_assign (by rfl)) (by rfl) rfl ?_
      refine jo_nil ?_
      refine jk_then ?_
      refine jc_block ?_
      refine jc_loop (σ := Nat) (fun j => [(1, .int .i64 id), (2, .int .i64 gen), (7, .pointer (some ⟨bp, 0, none⟩)), (8, .int .i64 held), (10, .int .i64 nn), (11, lv), (12, .int .i64 j)]) (fun j => [blk bp (.cells #[.map (some mb), wv] 48 (0, 0)), own wv 33 4 ws.length (ws.flatMap Vol.cells), bunch fs, mapI kvQ mb (mp (one (id, gen))), own lv 33 4 l.length (l.flatMap Vol.cells)]) (fun j => (j ≤ l.length) ∧ (True)) (fun j => l.length - j) 0 ⟨Nat.zero_le _, trivial⟩ ⟨rfl, rfl, rfl, rfl, rfl, rfl, rfl, trivial⟩ (fun w hw => St.sel hw (by repeat (first | exact Pks.nil _ | exact Pk.here _ | apply Pk.there | apply Pks.cons))) ?_
      rintro j ⟨hj, ht⟩
      show Jc _ _ [(1, .int .i64 id), (2, .int .i64 gen), (7, .pointer (some ⟨bp, 0, none⟩)), (8, .int .i64 held), (10, .int .i64 nn), (11, lv), (12, .int .i64 j)] [blk bp (.cells #[.map (some mb), wv] 48 (0, 0)), own wv 33 4 ws.length (ws.flatMap Vol.cells), bunch fs, mapI kvQ mb (mp (one (id, gen))), own lv 33 4 l.length (l.flatMap Vol.cells)] _
      refine jc_seq ?_
      refine jc_seq ?_
      refine sc_region ?_
      refine so_pure (opv_move (by rfl)) (by rfl) rfl ?_
      refine so_pure (opv_move (by rfl)) (by rfl) rfl ?_
      refine so_pure (opv_len_own (by rfl) Try.underlying28 (by repeat (first | exact Pk.here _ | apply Pk.there))) (by rfl) rfl ?_
      refine so_pure (opv_cmp (by rfl) (by rfl) (by rfl)) (by rfl) rfl ?_
      refine jo_nil ?_
      refine jk_then ?_
      refine sk_split (x := 73) (by rfl) (fun h52 => ?_) (fun h52 => ?_)
      · first | have p52 := of_decide_eq_true h52 | have p52 := of_decide_eq_false h52 | have p52 := ndT h52 | have p52 := ndF h52 | have p52 := nbT h52 | have p52 := nbF h52 | have p52 := h52
        refine sc_true (by rfl) h52 ?_
        refine jc_skip ?_
        refine jk_then ?_
        refine jc_seq ?_
        refine jc_block ?_
        refine jc_seq ?_
        have hjl : j < l.length := by omega
        obtain ⟨z, hz⟩ : ∃ z, l[j]? = some z := ⟨l[j], List.getElem?_eq_getElem hjl⟩
        obtain ⟨q, hq, hzq⟩ := hl2.get hz
        have hne := out_key (List.mem_of_getElem? hq)
        refine sc_region ?_
        refine so_pure (opv_move (by rfl)) (by rfl) rfl ?_
        refine so_pure (opv_move (by rfl)) (by rfl) rfl ?_
        refine so_pure (opv_indexAddr_own (i := j) (by rfl) (by rfl) Try.underlying28 ti33 (by repeat (first | exact Pk.here _ | apply Pk.there)) rfl hjl) (by rfl) rfl ?_
        refine so_pure (opv_fieldAddr (by rfl) fld33_0) (by rfl) rfl ?_
        refine so_pure (opv_load_fld (u := z) (fo := 0) (w := .int .i64 z.id) Vol.cells_len (by rfl) na3 (by repeat (first | exact Pk.here _ | apply Pk.there)) hz rfl) (by rfl) rfl ?_
        refine so_pure (opv_move (by rfl)) (by rfl) rfl ?_
        refine so_pure (opv_cmp (by rfl) (by rfl) (by rfl)) (by rfl) rfl ?_
        refine so_pure (opv_move (by rfl)) (by rfl) rfl ?_
        refine sk_split (x := 83) (by rfl) (fun h57 => ?_) (fun h57 => ?_)
        · first | have p57 := of_decide_eq_true h57 | have p57 := of_decide_eq_false h57 | have p57 := ndT h57 | have p57 := ndF h57 | have p57 := nbT h57 | have p57 := nbF h57 | have p57 := h57
          refine so_pure (opv_move (by rfl)) (wtd_run rfl rfl (by rfl) h57) rfl ?_
          refine so_pure (opv_move (by rfl)) (wtd_run rfl rfl (by rfl) h57) rfl ?_
          refine so_pure (opv_indexAddr_own (i := j) (by rfl) (by rfl) Try.underlying28 ti33 (by repeat (first | exact Pk.here _ | apply Pk.there)) rfl hjl) (wtd_run rfl rfl (by rfl) h57) rfl ?_
          refine so_pure (opv_fieldAddr (by rfl) fld33_1) (wtd_run rfl rfl (by rfl) h57) rfl ?_
          refine so_pure (opv_load_fld (u := z) (fo := 1) (w := .int .i64 z.gen) Vol.cells_len (by rfl) na3 (by repeat (first | exact Pk.here _ | apply Pk.there)) hz rfl) (wtd_run rfl rfl (by rfl) h57) rfl ?_
          refine so_pure (opv_move (by rfl)) (wtd_run rfl rfl (by rfl) h57) rfl ?_
          refine so_pure (opv_cmp (by rfl) (by rfl) (by rfl)) (wtd_run rfl rfl (by rfl) h57) rfl ?_
          refine so_pure (sv_pick_t (by rfl) h57 (by rfl)) (by rfl) rfl ?_
          refine jo_nil ?_
          refine jk_then ?_
          refine sk_split (x := 91) (by rfl) (fun h62 => ?_) (fun h62 => ?_)
          · first | have p62 := of_decide_eq_true h62 | have p62 := of_decide_eq_false h62 | have p62 := ndT h62 | have p62 := ndF h62 | have p62 := nbT h62 | have p62 := nbF h62 | have p62 := h62
            exact absurd (show q.key = (id, gen) by rw [← hzq.key]; exact Prod.ext p57 p62) hne
          · first | have p62 := of_decide_eq_true h62 | have p62 := of_decide_eq_false h62 | have p62 := ndT h62 | have p62 := ndF h62 | have p62 := nbT h62 | have p62 := nbF h62 | have p62 := h62
            refine sc_false (by rfl) h62 ?_
            refine jc_skip ?_
            refine jk_block ?_
            refine jk_then ?_
            refine sc_region ?_
            refine so_pure (opv_move (by rfl)) (by rfl) rfl ?_
            refine so_pure (opv_add (by rfl) (by rfl) (wrap64_ok (by omega))) (by rfl) rfl ?_
            refine so_pure (opv_assign (by rfl)) (by rfl) rfl ?_
            refine jo_nil ?_
            refine jk_round (j + 1) ⟨by omega, trivial⟩ (by show l.length - (j + 1) < l.length - j; omega) ⟨rfl, rfl, rfl, rfl, rfl, rfl, rfl, trivial⟩ (fun w hw => ?_)
            show St _ _ [blk bp (.cells #[.map (some mb), wv] 48 (0, 0)), own wv 33 4 ws.length (ws.flatMap Vol.cells), bunch fs, mapI kvQ mb (mp (one (id, gen))), own lv 33 4 l.length (l.flatMap Vol.cells)] _
            exact St.sel hw (by repeat (first | exact Pks.nil _ | exact Pk.here _ | apply Pk.there | apply Pks.cons))
        · first | have p57 := of_decide_eq_true h57 | have p57 := of_decide_eq_false h57 | have p57 := ndT h57 | have p57 := ndF h57 | have p57 := nbT h57 | have p57 := nbF h57 | have p57 := h57
          refine so_skip (wtd_not rfl rfl (by rfl) h57) rfl ?_
          refine so_skip (wtd_not rfl rfl (by rfl) h57) rfl ?_
          refine so_skip (wtd_not rfl rfl (by rfl) h57) rfl ?_
          refine so_skip (wtd_not rfl rfl (by rfl) h57) rfl ?_
          refine so_skip (wtd_not rfl rfl (by rfl) h57) rfl ?_
          refine so_skip (wtd_not rfl rfl (by rfl) h57) rfl ?_
          refine so_skip (wtd_not rfl rfl (by rfl) h57) rfl ?_
          refine so_pure (sv_pick_f (by rfl) h57 (by rfl)) (by rfl) rfl ?_
          refine jo_nil ?_
          refine jk_then ?_
          refine sc_false (by rfl) rfl ?_
          refine jc_skip ?_
          refine jk_block ?_
          refine jk_then ?_
          refine sc_region ?_
          refine so_pure (opv_move (by rfl)) (by rfl) rfl ?_
          refine so_pure (opv_add (by rfl) (by rfl) (wrap64_ok (by omega))) (by rfl) rfl ?_
          refine so_pure (opv_assign (by rfl)) (by rfl) rfl ?_
          refine jo_nil ?_
          refine jk_round (j + 1) ⟨by omega, trivial⟩ (by show l.length - (j + 1) < l.length - j; omega) ⟨rfl, rfl, rfl, rfl, rfl, rfl, rfl, trivial⟩ (fun w hw => ?_)
          show St _ _ [blk bp (.cells #[.map (some mb), wv] 48 (0, 0)), own wv 33 4 ws.length (ws.flatMap Vol.cells), bunch fs, mapI kvQ mb (mp (one (id, gen))), own lv 33 4 l.length (l.flatMap Vol.cells)] _
          exact St.sel hw (by repeat (first | exact Pks.nil _ | exact Pk.here _ | apply Pk.there | apply Pks.cons))
      · first | have p52 := of_decide_eq_true h52 | have p52 := of_decide_eq_false h52 | have p52 := ndT h52 | have p52 := ndF h52 | have p52 := nbT h52 | have p52 := nbF h52 | have p52 := h52
        refine sc_false (by rfl) h52 ?_
        refine jc_exit ?_
        refine jk_then_exit ?_
        refine jk_then_exit ?_
        refine jk_block_exit ?_
        refine jk_then ?_
        refine jc_seq ?_
        refine sc_region ?_
        refine so_pure (opv_move (by rfl)) (by rfl) rfl ?_
        refine so_pure (opv_cmp (b := true) (by rfl) (by rfl) (by exact congrArg some (decide_eq_true (by omega)))) (by rfl) rfl ?_
        refine so_pure (opv_move (by rfl)) (by rfl) rfl ?_
        refine so_pure (opv_move (by rfl)) (wtd_run rfl rfl (by rfl) rfl) rfl ?_
        refine so_pure (opv_len_own (by rfl) Try.underlying28 (by repeat (first | exact Pk.here _ | apply Pk.there))) (wtd_run rfl rfl (by rfl) rfl) rfl ?_
        refine so_pure (opv_move (by rfl)) (wtd_run rfl rfl (by rfl) rfl) rfl ?_
        refine so_pure (opv_move (by rfl)) (wtd_run rfl rfl (by rfl) rfl) rfl ?_
        refine so_pure (opv_sub (by rfl) (by rfl) (wrap64_ok (by omega))) (wtd_run rfl rfl (by rfl) rfl) rfl ?_
        refine so_pure (opv_cmp (b := true) (by rfl) (by rfl) (by exact congrArg some (decide_eq_true (by have := heldOf_out rs (id, gen); omega)))) (wtd_run rfl rfl (by rfl) rfl) rfl ?_
        refine so_pure (sv_pick_t (by rfl) rfl (by rfl)) (by rfl) rfl ?_
        refine so_pure (opv_move (by rfl)) (by rfl) rfl ?_
        refine so_pure (opv_move (by rfl)) (wtd_run rfl rfl (by rfl) rfl) rfl ?_
        refine so_eff (eff_callF [blk bp (.cells #[.map (some mb), wv] 48 (0, 0)), own wv 33 4 ws.length (ws.flatMap Vol.cells), bunch fs] (fl := []) (cl := []) (G := fun v Is' => ∃ fs' zs, (∀ b o, getL fs b = some o → getL fs' b = some o) ∧ All2 (Vf w Emp fs') zs (rs.filter (fun y => !noR (one (id, gen)) y)) ∧ Is' = [blk bp (.cells #[.map (some mb), wv] 48 (0, 0)), own wv 33 4 ws.length (ws.flatMap Vol.cells), bunch fs', own v 33 4 ws.length (zs.flatMap Vol.cells)]) (by rfl) (by rfl) tx19 (by repeat (first | exact Pks.nil _ | exact Pk.here _ | apply Pk.there | apply Pks.cons)) (by exact fun w1 hw1 => (waits_spec hw1 ha (by rw [ha.len]; exact Nat.le_trans (List.length_filter_le _ _) (by omega))).mono (fun _ _ ⟨fs', zs, h1, h2, hst⟩ => ⟨_, ⟨fs', zs, h1, h2, rfl⟩, hst⟩))) (wtd_run rfl rfl (by rfl) rfl) rfl ?_
        rintro q2v _ ⟨_, ⟨fs, q2, hsub, hq2, rfl⟩, rfl⟩
        replace ha := ha.mono (Vf.more hsub)
        refine so_pure (opv_len_own (by rfl) Try.underlying28 (by repeat (first | exact Pk.here _ | apply Pk.there))) (wtd_run rfl rfl (by rfl) rfl) rfl ?_
        refine so_pure (opv_move (by rfl)) (wtd_run rfl rfl (by rfl) rfl) rfl ?_
        refine so_pure (opv_cmp (b := true) (by rfl) (by rfl) (by exact congrArg some (decide_eq_true (by rw [ha.len, heldOf_kept, hh])))) (wtd_run rfl rfl (by rfl) rfl) rfl ?_
        refine so_pure (sv_pick_t (by rfl) rfl (by rfl)) (by rfl) rfl ?_
        refine so_pure (opv_move (by rfl)) (by rfl) rfl ?_
        refine so_eff (eff_call0 (G := fun u New => u = .bool true ∧ New = []) (by rfl) (by rfl) tx8 (by exact fun w1 hw1 => (live_spec w1).mono (fun _ _ ⟨hv, hst⟩ => ⟨[], ⟨hv, rfl⟩, hst⟩))) (wtd_run rfl rfl (by rfl) rfl) rfl ?_
        rintro _ _ ⟨_, ⟨rfl, rfl⟩, rfl⟩
        refine so_pure (sv_pick_t (by rfl) rfl (by rfl)) (by rfl) rfl ?_
        refine so_pure (opv_assign (by rfl)) (by rfl) rfl ?_
        refine jo_nil ?_
        refine jk_then ?_
        refine jc_ret ?_
        refine jk_fn_ret rfl rfl (by rfl) (fun w hw => ?_)
        exact ⟨rfl, hw.forget⟩
end Go.Pins
