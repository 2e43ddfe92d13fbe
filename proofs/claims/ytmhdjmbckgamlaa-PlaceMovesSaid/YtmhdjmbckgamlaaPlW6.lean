/- A part of a proof for the laws of the seat Ytmhdjmbckgamlaa; it has no conditions of its own. -/
import Derived.Test.YtmhdjmbckgamlaaPlW5
namespace Go.Place
open Go Go.SL Go.Proofs
set_option maxHeartbeats 4000000 in
theorem load_spec (w : World) (A : Option Addr) (n c : Nat) (vs : List Vol) (lss : List (List Loc)) (hs : SlR w 36 4 Vol.cells A n vs) (hr : All2 (Vr w) vs lss) (hn : n ≤ 1000) : Does Try.prog 17 #[.slice A n c] w (fun v w' => ∃ lb m, v = .slice (some ⟨lb, 0, none⟩) 12 12 ∧ m ≤ 8796093022208000 ∧ Bd (loadL lss) m ∧ St w Emp [own (.slice (some ⟨lb, 0, none⟩) 12 12) 3 1 12 ((loadL lss).flatMap ic)] w') := by
  refine fn_body (fn := Try.f17) Try.func17 rfl [(0, .slice A n c)] (by exact ⟨rfl, trivial⟩) rfl (St.start w) ?_
  refine jc_seq ?_
  refine sc_region ?_
  refine so_pure (opv_assign (by rfl)) (by rfl) rfl ?_
  refine jo_nil ?_
  refine jk_then ?_
  refine jc_seq ?_
  refine sc_region ?_
  refine so_eff (eff_makeSlice (n := 12) (by rfl) (by rfl) Try.underlying22 ti3 (by decide) (by decide)) (by rfl) rfl ?_
  rintro _ _ ⟨lb, rfl, rfl⟩
  refine jo_ownmk (n := 12) (cap := 12) (size := 1) (xs := zero12.flatMap ic) (by repeat (first | exact Pk.here _ | apply Pk.there)) (Nat.le_refl _) (by decide) (by kernel_rfl) (by kernel_rfl) ?_
  refine so_pure (opv_assign (by rfl)) (by rfl) rfl ?_
  refine jo_nil ?_
  refine jk_then ?_
  refine jc_seq ?_
  refine jc_seq ?_
  refine sc_region ?_
  refine so_pure (opv_move (by rfl)) (by rfl) rfl ?_
  refine so_pure (opv_len_slice (by rfl) Try.underlying33) (by rfl) rfl ?_
  refine so_pure (opv_move (by rfl)) (by rfl) rfl ?_
  refine jo_nil ?_
  refine jk_then ?_
  refine jc_block ?_
  refine jc_loop (σ := Nat × Nat) (fun (k, m) => [(0, .slice A n c), (3, .slice (some ⟨lb, 0, none⟩) 12 12), (9, .slice A n c), (10, .int .i64 n), (11, .int .i64 k)]) (fun (k, m) => [own (.slice (some ⟨lb, 0, none⟩) 12 12) 3 1 12 ((loadL (lss.take k)).flatMap ic)]) (fun (k, m) => (k ≤ n) ∧ (m ≤ k * 8796093022208) ∧ (Bd (loadL (lss.take k)) m)) (fun (k, m) => n - k) (0, 0) ⟨Nat.zero_le _, Nat.zero_le _, Bd.zero⟩ ⟨rfl, rfl, rfl, rfl, rfl, trivial⟩ (fun w hw => St.sel hw (by repeat (first | exact Pks.nil _ | exact Pk.here _ | apply Pk.there | apply Pks.cons))) ?_
  rintro ⟨k, m⟩ ⟨hk, hm, hb⟩
  show Jc _ _ [(0, .slice A n c), (3, .slice (some ⟨lb, 0, none⟩) 12 12), (9, .slice A n c), (10, .int .i64 n), (11, .int .i64 k)] [own (.slice (some ⟨lb, 0, none⟩) 12 12) 3 1 12 ((loadL (lss.take k)).flatMap ic)] _
  refine jc_seq ?_
  refine sc_region ?_
  refine so_pure (opv_cmp (by rfl) (by rfl) (by rfl)) (by rfl) rfl ?_
  refine jo_nil ?_
  refine jk_then ?_
  refine jc_seq ?_
  refine sk_split (x := 12) (by rfl) (fun h6 => ?_) (fun h6 => ?_)
  · first | have p6 := of_decide_eq_true h6 | have p6 := of_decide_eq_false h6 | have p6 := ndT h6 | have p6 := ndF h6 | have p6 := nbT h6 | have p6 := nbF h6 | have p6 := h6
    refine sc_true (by rfl) h6 ?_
    refine jc_skip ?_
    refine jk_then ?_
    refine jc_seq ?_
    refine jc_block ?_
    refine jc_seq ?_
    have hlt : k < n := by omega
    obtain ⟨_, _, _, _, x, _, _, hx, _⟩ := hs.get hlt
    obtain ⟨ls, hls, hv⟩ := hr.get hx
    have hsm := hv.2
    unfold Small at hsm
    refine sc_region ?_
    refine so_pure (opv_indexAddr_slr (i := k) (by rfl) hs (by rfl) Try.underlying33 ti36 rfl hlt) (by rfl) rfl ?_
    refine so_pure (opv_load_agg_slr (u := x) Vol.cells_len (by rfl) ag36 ti36 rfl hs hx) (by rfl) rfl ?_
    refine so_eff (eff_alloc ti36 rfl) (by rfl) rfl ?_
    rintro _ _ ⟨b5, rfl, rfl⟩
    refine so_eff0 (eff_store_all (vs := x.cells) (by rfl) (by rfl) (by rfl) ti36 (by rfl) (by repeat (first | exact Pk.here _ | apply Pk.there)) (by rfl) (by rfl)) (by rfl) ?_
    rintro _ _ ⟨rfl, rfl⟩
    refine jo_nil ?_
    refine jk_then ?_
    refine jc_seq ?_
    refine sc_region ?_
    refine so_pure (opv_fieldAddr (by rfl) fld36_3) (by rfl) rfl ?_
    refine so_pure (opv_load (by rfl) na34 (rd_pk (by repeat (first | exact Pk.here _ | apply Pk.there))) (by rfl)) (by rfl) rfl ?_
    refine so_pure (opv_len_slice (by rfl) Try.underlying34) (by rfl) rfl ?_
    refine so_pure (opv_move (by rfl)) (by rfl) rfl ?_
    refine jo_nil ?_
    refine jk_then ?_
    refine jc_block ?_
    refine jc_loop (σ := Nat) (fun j => [(0, .slice A n c), (3, .slice (some ⟨lb, 0, none⟩) 12 12), (9, .slice A n c), (10, .int .i64 n), (11, .int .i64 k), (16, .slice x.lA x.ln x.lc), (17, .int .i64 x.ln), (18, .int .i64 j)]) (fun j => [own (.slice (some ⟨lb, 0, none⟩) 12 12) 3 1 12 ((bumps (loadL (lss.take k)) (ls.take j)).flatMap ic)]) (fun j => (j ≤ x.ln) ∧ (Bd (bumps (loadL (lss.take k)) (ls.take j)) (m + j))) (fun j => x.ln - j) 0 ⟨Nat.zero_le _, hb⟩ ⟨rfl, rfl, rfl, rfl, rfl, rfl, rfl, rfl, trivial⟩ (fun w hw => St.sel hw (by repeat (first | exact Pks.nil _ | exact Pk.here _ | apply Pk.there | apply Pks.cons))) ?_
    rintro j ⟨hj, hbj⟩
    show Jc _ _ [(0, .slice A n c), (3, .slice (some ⟨lb, 0, none⟩) 12 12), (9, .slice A n c), (10, .int .i64 n), (11, .int .i64 k), (16, .slice x.lA x.ln x.lc), (17, .int .i64 x.ln), (18, .int .i64 j)] [own (.slice (some ⟨lb, 0, none⟩) 12 12) 3 1 12 ((bumps (loadL (lss.take k)) (ls.take j)).flatMap ic)] _
    refine jc_seq ?_
    refine sc_region ?_
    refine so_pure (opv_cmp (by rfl) (by rfl) (by rfl)) (by rfl) rfl ?_
    refine jo_nil ?_
    refine jk_then ?_
    refine jc_seq ?_
    refine sk_split (x := 19) (by rfl) (fun h14 => ?_) (fun h14 => ?_)
    · first | have p14 := of_decide_eq_true h14 | have p14 := of_decide_eq_false h14 | have p14 := ndT h14 | have p14 := ndF h14 | have p14 := nbT h14 | have p14 := nbF h14 | have p14 := h14
      refine sc_true (by rfl) h14 ?_
      refine jc_skip ?_
      refine jk_then ?_
      refine jc_seq ?_
      refine jc_block ?_
      refine jc_seq ?_
      have hltj : j < x.ln := by omega
      obtain ⟨_, _, _, _, y, _, _, hy, _⟩ := hv.1.get hltj
      have hbn := hbj.bump y.disk
      rw [← bumps_snoc hy] at hbn
      refine sc_region ?_
      refine so_pure (opv_indexAddr_slr (i := j) (by rfl) hv.1 (by rfl) Try.underlying34 ti45 rfl hltj) (by rfl) rfl ?_
      refine so_pure (opv_load_agg_slr (u := y) Loc.cells_len (by rfl) ag45 ti45 rfl hv.1 hy) (by rfl) rfl ?_
      refine so_eff (eff_alloc ti45 rfl) (by rfl) rfl ?_
      rintro _ _ ⟨b7, rfl, rfl⟩
      refine so_eff0 (eff_store_all (vs := y.cells) (by rfl) (by rfl) (by rfl) ti45 (by rfl) (by repeat (first | exact Pk.here _ | apply Pk.there)) (by rfl) (by rfl)) (by rfl) ?_
      rintro _ _ ⟨rfl, rfl⟩
      refine jo_nil ?_
      refine jk_then ?_
      refine jc_seq ?_
      refine sc_region ?_
      refine so_pure (opv_fieldAddr (by rfl) fld45_0) (by rfl) rfl ?_
      refine so_pure (opv_load (by rfl) na3 (rd_pk (by repeat (first | exact Pk.here _ | apply Pk.there))) (by rfl)) (by rfl) rfl ?_
      refine so_pure (opv_cmp (by rfl) (by rfl) (by rfl)) (by rfl) rfl ?_
      refine so_pure (opv_move (by rfl)) (by rfl) rfl ?_
      refine sk_split (x := 25) (by rfl) (fun h20 => ?_) (fun h20 => ?_)
      · first | have p20 := of_decide_eq_true h20 | have p20 := of_decide_eq_false h20 | have p20 := ndT h20 | have p20 := ndF h20 | have p20 := nbT h20 | have p20 := nbF h20 | have p20 := h20
        refine so_pure (opv_fieldAddr (by rfl) fld45_0) (wtd_run rfl rfl (by rfl) h20) rfl ?_
        refine so_pure (opv_load (by rfl) na3 (rd_pk (by repeat (first | exact Pk.here _ | apply Pk.there))) (by rfl)) (wtd_run rfl rfl (by rfl) h20) rfl ?_
        refine so_pure (opv_cmp (by rfl) (by rfl) (by rfl)) (wtd_run rfl rfl (by rfl) h20) rfl ?_
        refine so_pure (sv_pick_t (by rfl) h20 (by rfl)) (by rfl) rfl ?_
        refine jo_nil ?_
        refine jk_then ?_
        refine sk_split (x := 29) (by rfl) (fun h23 => ?_) (fun h23 => ?_)
        · first | have p23 := of_decide_eq_true h23 | have p23 := of_decide_eq_false h23 | have p23 := ndT h23 | have p23 := ndF h23 | have p23 := nbT h23 | have p23 := nbF h23 | have p23 := h23
          refine sc_true (by rfl) h23 ?_
          obtain ⟨d, hd⟩ : ∃ d : Nat, y.disk = d := ⟨y.disk.toNat, by omega⟩
          obtain ⟨cc, hcc, hc0, hc1⟩ := hbj.get (i := d) (by omega)
          have hlen12 := hbj.1
          have hbi := bump_in (ld := (bumps (loadL (lss.take k)) (ls.take j))) (d := y.disk) (y := cc) (by omega) (by rw [hd, Int.toNat_natCast]; exact hcc)
          rw [hd, Int.toNat_natCast] at hbi
          rw [hd]
          refine sc_region ?_
          refine so_pure (opv_move (by rfl)) (by rfl) rfl ?_
          refine so_pure (opv_fieldAddr (by rfl) fld45_0) (by rfl) rfl ?_
          refine so_pure (opv_load (v := .int .i64 (d : Int)) (by rfl) na3 (rd_pk (by repeat (first | exact Pk.here _ | apply Pk.there))) (by exact congrArg (fun z => some (Value.int .i64 z)) hd)) (by rfl) rfl ?_
          refine so_pure (opv_indexAddr (i := d) (by rfl) (by first | exact congrArg (fun z => some (Value.int .i64 z)) hd | rfl) Try.underlying22 ti3 rfl (by omega)) (by rfl) rfl ?_
          refine so_pure (opv_load_fld (enc := ic) (v := .slice (some ⟨lb, 0, none⟩) 12 12) (i := d) (u := cc) (fo := 0) (w := .int .i64 cc) ic_len (by rfl) na3 (by repeat (first | exact Pk.here _ | apply Pk.there)) hcc rfl) (by rfl) rfl ?_
          refine so_pure (opv_add (by rfl) (by rfl) (wrap64_ok (by omega))) (by rfl) rfl ?_
          refine so_pure (opv_indexAddr (i := d) (by rfl) (by first | exact congrArg (fun z => some (Value.int .i64 z)) hd | rfl) Try.underlying22 ti3 rfl (by omega)) (by rfl) rfl ?_
          refine so_eff0 (eff_store_elem (enc := ic) (v := .slice (some ⟨lb, 0, none⟩) 12 12) (i := d) (p := cc) (q := cc + 1) (vs := [.int .i64 (cc + 1)]) (fo := 0) ic_len (by rfl) (by rfl) (by rfl) ti3 (by rfl) (by repeat (first | exact Pk.here _ | apply Pk.there)) (by omega) hcc (by exact Nat.le_refl _) rfl (by rfl)) (by rfl) ?_
          rintro _ _ ⟨rfl, rfl⟩
          refine jo_nil ?_
          refine jk_block ?_
          refine jk_then ?_
          refine sc_region ?_
          refine so_pure (opv_add (by rfl) (by rfl) (wrap64_ok (by omega))) (by rfl) rfl ?_
          refine so_pure (opv_move (by rfl)) (by rfl) rfl ?_
          refine jo_nil ?_
          refine jk_round (j + 1) ⟨by omega, hbn⟩ (by show x.ln - (j + 1) < x.ln - j; omega) ⟨rfl, rfl, rfl, rfl, rfl, rfl, rfl, rfl, trivial⟩ (fun w hw => ?_)
          show St _ _ [own (.slice (some ⟨lb, 0, none⟩) 12 12) 3 1 12 ((bumps (loadL (lss.take k)) (ls.take (j + 1))).flatMap ic)] _
          rw [bumps_snoc hy, hd, hbi]
          exact St.sel (Sb := [own (.slice (some ⟨lb, 0, none⟩) 12 12) 3 1 12 (((bumps (loadL (lss.take k)) (ls.take j)).set d (cc + 1)).flatMap ic)]) hw (by repeat (first | exact Pks.nil _ | exact Pk.here _ | apply Pk.there | apply Pks.cons))
        · first | have p23 := of_decide_eq_true h23 | have p23 := of_decide_eq_false h23 | have p23 := ndT h23 | have p23 := ndF h23 | have p23 := nbT h23 | have p23 := nbF h23 | have p23 := h23
          refine sc_false (by rfl) h23 ?_
          refine jc_skip ?_
          refine jk_block ?_
          refine jk_then ?_
          refine sc_region ?_
          refine so_pure (opv_add (by rfl) (by rfl) (wrap64_ok (by omega))) (by rfl) rfl ?_
          refine so_pure (opv_move (by rfl)) (by rfl) rfl ?_
          refine jo_nil ?_
          refine jk_round (j + 1) ⟨by omega, hbn⟩ (by show x.ln - (j + 1) < x.ln - j; omega) ⟨rfl, rfl, rfl, rfl, rfl, rfl, rfl, rfl, trivial⟩ (fun w hw => ?_)
          show St _ _ [own (.slice (some ⟨lb, 0, none⟩) 12 12) 3 1 12 ((bumps (loadL (lss.take k)) (ls.take (j + 1))).flatMap ic)] _
          rw [bumps_snoc hy, bump_out (by omega)]
          exact St.sel hw (by repeat (first | exact Pks.nil _ | exact Pk.here _ | apply Pk.there | apply Pks.cons))
      · first | have p20 := of_decide_eq_true h20 | have p20 := of_decide_eq_false h20 | have p20 := ndT h20 | have p20 := ndF h20 | have p20 := nbT h20 | have p20 := nbF h20 | have p20 := h20
        refine so_skip (wtd_not rfl rfl (by rfl) h20) rfl ?_
        refine so_skip (wtd_not rfl rfl (by rfl) h20) rfl ?_
        refine so_skip (wtd_not rfl rfl (by rfl) h20) rfl ?_
        refine so_pure (sv_pick_f (by rfl) h20 (by rfl)) (by rfl) rfl ?_
        refine jo_nil ?_
        refine jk_then ?_
        refine sc_false (by rfl) rfl ?_
        refine jc_skip ?_
        refine jk_block ?_
        refine jk_then ?_
        refine sc_region ?_
        refine so_pure (opv_add (by rfl) (by rfl) (wrap64_ok (by omega))) (by rfl) rfl ?_
        refine so_pure (opv_move (by rfl)) (by rfl) rfl ?_
        refine jo_nil ?_
        refine jk_round (j + 1) ⟨by omega, hbn⟩ (by show x.ln - (j + 1) < x.ln - j; omega) ⟨rfl, rfl, rfl, rfl, rfl, rfl, rfl, rfl, trivial⟩ (fun w hw => ?_)
        show St _ _ [own (.slice (some ⟨lb, 0, none⟩) 12 12) 3 1 12 ((bumps (loadL (lss.take k)) (ls.take (j + 1))).flatMap ic)] _
        rw [bumps_snoc hy, bump_out (by omega)]
        exact St.sel hw (by repeat (first | exact Pks.nil _ | exact Pk.here _ | apply Pk.there | apply Pks.cons))
    · first | have p14 := of_decide_eq_true h14 | have p14 := of_decide_eq_false h14 | have p14 := ndT h14 | have p14 := ndF h14 | have p14 := nbT h14 | have p14 := nbF h14 | have p14 := h14
      refine sc_false (by rfl) h14 ?_
      refine jc_exit ?_
      refine jk_then_exit ?_
      refine jk_then_exit ?_
      refine jk_block_exit ?_
      refine jk_block ?_
      refine jk_then ?_
      refine sc_region ?_
      refine so_pure (opv_add (by rfl) (by rfl) (wrap64_ok (by omega))) (by rfl) rfl ?_
      refine so_pure (opv_move (by rfl)) (by rfl) rfl ?_
      refine jo_nil ?_
      have hlsn := hv.1.1
      have hxl : x.ln = ls.length := hlsn
      have ejl : ls.take j = ls := List.take_of_length_le (by omega)
      refine jk_round (k + 1, m + j) ⟨by omega, by omega, by rw [loads_snoc hls, ← ejl]; exact hbj⟩ (by show n - (k + 1) < n - k; omega) ⟨rfl, rfl, rfl, rfl, rfl, trivial⟩ (fun w hw => ?_)
      show St _ _ [own (.slice (some ⟨lb, 0, none⟩) 12 12) 3 1 12 ((loadL (lss.take (k + 1))).flatMap ic)] _
      rw [loads_snoc hls]
      rw [ejl] at hw
      exact St.sel hw (by repeat (first | exact Pks.nil _ | exact Pk.here _ | apply Pk.there | apply Pks.cons))
  · first | have p6 := of_decide_eq_true h6 | have p6 := of_decide_eq_false h6 | have p6 := ndT h6 | have p6 := ndF h6 | have p6 := nbT h6 | have p6 := nbF h6 | have p6 := h6
    refine sc_false (by rfl) h6 ?_
    refine jc_exit ?_
    refine jk_then_exit ?_
    refine jk_then_exit ?_
    refine jk_block_exit ?_
    refine jk_then ?_
    refine jc_seq ?_
    refine sc_region ?_
    refine so_pure (opv_move (by rfl)) (by rfl) rfl ?_
    refine so_pure (opv_assign (by rfl)) (by rfl) rfl ?_
    refine jo_nil ?_
    refine jk_then ?_
    refine jc_ret ?_
    refine jk_fn_ret rfl rfl (by rfl) (fun w hw => ?_)
    have ek : k = n := by omega
    rw [ek, List.take_of_length_le (by rw [← hr.len, ← hs.1]; exact Nat.le_refl _)] at hw hb
    exact ⟨lb, m, rfl, by omega, hb, St.sel hw (by repeat (first | exact Pks.nil _ | exact Pk.here _ | apply Pk.there | apply Pks.cons))⟩
set_option maxHeartbeats 4000000 in
theorem refload_spec (w : World) (A : Option Addr) (n c : Nat) (vs : List Vol) (lss : List (List Loc)) (hs : SlR w 36 4 Vol.cells A n vs) (hr : All2 (Vr w) vs lss) (hn : n ≤ 1000) : Does Try.prog 18 #[.slice A n c] w (fun v w' => ∃ lb m, v = .slice (some ⟨lb, 0, none⟩) 12 12 ∧ m ≤ 8796093022208000 ∧ Bd (loadL lss) m ∧ St w Emp [own (.slice (some ⟨lb, 0, none⟩) 12 12) 3 1 12 ((loadL lss).flatMap ic)] w') := by
  refine fn_body (fn := Try.f18) Try.func18 rfl [(0, .slice A n c)] (by exact ⟨rfl, trivial⟩) rfl (St.start w) ?_
  refine jc_seq ?_
  refine sc_region ?_
  refine so_pure (opv_assign (by rfl)) (by rfl) rfl ?_
  refine jo_nil ?_
  refine jk_then ?_
  refine jc_seq ?_
  refine sc_region ?_
  refine so_eff (eff_makeSlice (n := 12) (by rfl) (by rfl) Try.underlying22 ti3 (by decide) (by decide)) (by rfl) rfl ?_
  rintro _ _ ⟨lb, rfl, rfl⟩
  refine jo_ownmk (n := 12) (cap := 12) (size := 1) (xs := zero12.flatMap ic) (by repeat (first | exact Pk.here _ | apply Pk.there)) (Nat.le_refl _) (by decide) (by kernel_rfl) (by kernel_rfl) ?_
  refine so_pure (opv_assign (by rfl)) (by rfl) rfl ?_
  refine jo_nil ?_
  refine jk_then ?_
  refine jc_seq ?_
  refine jc_seq ?_
  refine sc_region ?_
  refine so_pure (opv_assign (by rfl)) (by rfl) rfl ?_
  refine jo_nil ?_
  refine jk_then ?_
  refine jc_block ?_
  refine jc_loop (σ := Nat × Nat) (fun (k, m) => [(0, .slice A n c), (3, .slice (some ⟨lb, 0, none⟩) 12 12), (4, .int .i64 k)]) (fun (k, m) => [own (.slice (some ⟨lb, 0, none⟩) 12 12) 3 1 12 ((loadL (lss.take k)).flatMap ic)]) (fun (k, m) => (k ≤ n) ∧ (m ≤ k * 8796093022208) ∧ (Bd (loadL (lss.take k)) m)) (fun (k, m) => n - k) (0, 0) ⟨Nat.zero_le _, Nat.zero_le _, Bd.zero⟩ ⟨rfl, rfl, rfl, trivial⟩ (fun w hw => St.sel hw (by repeat (first | exact Pks.nil _ | exact Pk.here _ | apply Pk.there | apply Pks.cons))) ?_
  rintro ⟨k, m⟩ ⟨hk, hm, hb⟩
  show Jc _ _ [(0, .slice A n c), (3, .slice (some ⟨lb, 0, none⟩) 12 12), (4, .int .i64 k)] [own (.slice (some ⟨lb, 0, none⟩) 12 12) 3 1 12 ((loadL (lss.take k)).flatMap ic)] _
  refine jc_seq ?_
  refine jc_seq ?_
  refine sc_region ?_
  refine so_pure (opv_move (by rfl)) (by rfl) rfl ?_
  refine so_pure (opv_move (by rfl)) (by rfl) rfl ?_
  refine so_pure (opv_len_slice (by rfl) Try.underlying33) (by rfl) rfl ?_
  refine so_pure (opv_cmp (by rfl) (by rfl) (by rfl)) (by rfl) rfl ?_
  refine jo_nil ?_
  refine jk_then ?_
  refine sk_split (x := 11) (by rfl) (fun h7 => ?_) (fun h7 => ?_)
  · first | have p7 := of_decide_eq_true h7 | have p7 := of_decide_eq_false h7 | have p7 := ndT h7 | have p7 := ndF h7 | have p7 := nbT h7 | have p7 := nbF h7 | have p7 := h7
    refine sc_true (by rfl) h7 ?_
    refine jc_skip ?_
    refine jk_then ?_
    refine jc_seq ?_
    refine jc_block ?_
    refine jc_seq ?_
    have hlt : k < n := by omega
    obtain ⟨_, _, _, _, x, _, _, hx, _⟩ := hs.get hlt
    obtain ⟨ls, hls, hv⟩ := hr.get hx
    have hsm := hv.2
    unfold Small at hsm
    refine sc_region ?_
    refine so_pure (opv_assign (by rfl)) (by rfl) rfl ?_
    refine jo_nil ?_
    refine jk_then ?_
    refine jc_block ?_
    refine jc_loop (σ := Nat) (fun j => [(0, .slice A n c), (3, .slice (some ⟨lb, 0, none⟩) 12 12), (4, .int .i64 k), (5, .int .i64 j)]) (fun j => [own (.slice (some ⟨lb, 0, none⟩) 12 12) 3 1 12 ((bumps (loadL (lss.take k)) (ls.take j)).flatMap ic)]) (fun j => (j ≤ x.ln) ∧ (Bd (bumps (loadL (lss.take k)) (ls.take j)) (m + j))) (fun j => x.ln - j) 0 ⟨Nat.zero_le _, hb⟩ ⟨rfl, rfl, rfl, rfl, trivial⟩ (fun w hw => St.sel hw (by repeat (first | exact Pks.nil _ | exact Pk.here _ | apply Pk.there | apply Pks.cons))) ?_
    rintro j ⟨hj, hbj⟩
    show Jc _ _ [(0, .slice A n c), (3, .slice (some ⟨lb, 0, none⟩) 12 12), (4, .int .i64 k), (5, .int .i64 j)] [own (.slice (some ⟨lb, 0, none⟩) 12 12) 3 1 12 ((bumps (loadL (lss.take k)) (ls.take j)).flatMap ic)] _
    refine jc_seq ?_
    refine jc_seq ?_
    refine sc_region ?_
    refine so_pure (opv_move (by rfl)) (by rfl) rfl ?_
    refine so_pure (opv_move (by rfl)) (by rfl) rfl ?_
    refine so_pure (opv_move (by rfl)) (by rfl) rfl ?_
    refine so_pure (opv_indexAddr_slr (i := k) (by rfl) hs (by rfl) Try.underlying33 ti36 rfl hlt) (by rfl) rfl ?_
    refine so_pure (opv_fieldAddr (by rfl) fld36_3) (by rfl) rfl ?_
    refine so_pure (opv_load_slr (enc := Vol.cells) (u := x) (fo := 3) (v := .slice x.lA x.ln x.lc) (by rfl) na34 rfl hs hx rfl) (by rfl) rfl ?_
    refine so_pure (opv_len_slice (by rfl) Try.underlying34) (by rfl) rfl ?_
    refine so_pure (opv_cmp (by rfl) (by rfl) (by rfl)) (by rfl) rfl ?_
    refine jo_nil ?_
    refine jk_then ?_
    refine sk_split (x := 21) (by rfl) (fun h15 => ?_) (fun h15 => ?_)
    · first | have p15 := of_decide_eq_true h15 | have p15 := of_decide_eq_false h15 | have p15 := ndT h15 | have p15 := ndF h15 | have p15 := nbT h15 | have p15 := nbF h15 | have p15 := h15
      refine sc_true (by rfl) h15 ?_
      refine jc_skip ?_
      refine jk_then ?_
      refine jc_seq ?_
      refine jc_block ?_
      refine jc_seq ?_
      have hltj : j < x.ln := by omega
      obtain ⟨_, _, _, _, y, _, _, hy, _⟩ := hv.1.get hltj
      have hbn := hbj.bump y.disk
      rw [← bumps_snoc hy] at hbn
      refine sc_region ?_
      refine so_pure (opv_move (by rfl)) (by rfl) rfl ?_
      refine so_pure (opv_move (by rfl)) (by rfl) rfl ?_
      refine so_pure (opv_indexAddr_slr (i := k) (by rfl) hs (by rfl) Try.underlying33 ti36 rfl hlt) (by rfl) rfl ?_
      refine so_pure (opv_fieldAddr (by rfl) fld36_3) (by rfl) rfl ?_
      refine so_pure (opv_load_slr (enc := Vol.cells) (u := x) (fo := 3) (v := .slice x.lA x.ln x.lc) (by rfl) na34 rfl hs hx rfl) (by rfl) rfl ?_
      refine so_pure (opv_move (by rfl)) (by rfl) rfl ?_
      refine so_pure (opv_indexAddr_slr (i := j) (by rfl) hv.1 (by rfl) Try.underlying34 ti45 rfl hltj) (by rfl) rfl ?_
      refine so_pure (opv_fieldAddr (by rfl) fld45_0) (by rfl) rfl ?_
      refine so_pure (opv_load_slr (enc := Loc.cells) (u := y) (fo := 0) (v := .int .i64 y.disk) (by rfl) na3 rfl hv.1 hy rfl) (by rfl) rfl ?_
      refine so_pure (opv_assign (by rfl)) (by rfl) rfl ?_
      refine jo_nil ?_
      refine jk_then ?_
      refine jc_seq ?_
      refine sc_region ?_
      refine so_pure (opv_move (by rfl)) (by rfl) rfl ?_
      refine so_pure (opv_cmp (by rfl) (by rfl) (by rfl)) (by rfl) rfl ?_
      refine so_pure (opv_move (by rfl)) (by rfl) rfl ?_
      refine sk_split (x := 35) (by rfl) (fun h24 => ?_) (fun h24 => ?_)
      · first | have p24 := of_decide_eq_true h24 | have p24 := of_decide_eq_false h24 | have p24 := ndT h24 | have p24 := ndF h24 | have p24 := nbT h24 | have p24 := nbF h24 | have p24 := h24
        refine so_pure (opv_move (by rfl)) (wtd_run rfl rfl (by rfl) h24) rfl ?_
        refine so_pure (opv_cmp (by rfl) (by rfl) (by rfl)) (wtd_run rfl rfl (by rfl) h24) rfl ?_
        refine so_pure (sv_pick_t (by rfl) h24 (by rfl)) (by rfl) rfl ?_
        refine jo_nil ?_
        refine jk_then ?_
        refine sk_split (x := 38) (by rfl) (fun h25 => ?_) (fun h25 => ?_)
        · first | have p25 := of_decide_eq_true h25 | have p25 := of_decide_eq_false h25 | have p25 := ndT h25 | have p25 := ndF h25 | have p25 := nbT h25 | have p25 := nbF h25 | have p25 := h25
          refine sc_true (by rfl) h25 ?_
          obtain ⟨d, hd⟩ : ∃ d : Nat, y.disk = d := ⟨y.disk.toNat, by omega⟩
          obtain ⟨cc, hcc, hc0, hc1⟩ := hbj.get (i := d) (by omega)
          have hlen12 := hbj.1
          have hbi := bump_in (ld := (bumps (loadL (lss.take k)) (ls.take j))) (d := y.disk) (y := cc) (by omega) (by rw [hd, Int.toNat_natCast]; exact hcc)
          rw [hd, Int.toNat_natCast] at hbi
          rw [hd]
          refine sc_region ?_
          refine so_pure (opv_move (by rfl)) (by rfl) rfl ?_
          refine so_pure (opv_move (by rfl)) (by rfl) rfl ?_
          refine so_pure (opv_indexAddr (i := d) (by rfl) (by first | exact congrArg (fun z => some (Value.int .i64 z)) hd | rfl) Try.underlying22 ti3 rfl (by omega)) (by rfl) rfl ?_
          refine so_pure (opv_load_fld (enc := ic) (v := .slice (some ⟨lb, 0, none⟩) 12 12) (i := d) (u := cc) (fo := 0) (w := .int .i64 cc) ic_len (by rfl) na3 (by repeat (first | exact Pk.here _ | apply Pk.there)) hcc rfl) (by rfl) rfl ?_
          refine so_pure (opv_add (by rfl) (by rfl) (wrap64_ok (by omega))) (by rfl) rfl ?_
          refine so_pure (opv_indexAddr (i := d) (by rfl) (by first | exact congrArg (fun z => some (Value.int .i64 z)) hd | rfl) Try.underlying22 ti3 rfl (by omega)) (by rfl) rfl ?_
          refine so_eff0 (eff_store_elem (enc := ic) (v := .slice (some ⟨lb, 0, none⟩) 12 12) (i := d) (p := cc) (q := cc + 1) (vs := [.int .i64 (cc + 1)]) (fo := 0) ic_len (by rfl) (by rfl) (by rfl) ti3 (by rfl) (by repeat (first | exact Pk.here _ | apply Pk.there)) (by omega) hcc (by exact Nat.le_refl _) rfl (by rfl)) (by rfl) ?_
          rintro _ _ ⟨rfl, rfl⟩
          refine jo_nil ?_
          refine jk_block ?_
          refine jk_then ?_
          refine sc_region ?_
          refine so_pure (opv_move (by rfl)) (by rfl) rfl ?_
          refine so_pure (opv_add (by rfl) (by rfl) (wrap64_ok (by omega))) (by rfl) rfl ?_
          refine so_pure (opv_assign (by rfl)) (by rfl) rfl ?_
          refine jo_nil ?_
          refine jk_round (j + 1) ⟨by omega, hbn⟩ (by show x.ln - (j + 1) < x.ln - j; omega) ⟨rfl, rfl, rfl, rfl, trivial⟩ (fun w hw => ?_)
          show St _ _ [own (.slice (some ⟨lb, 0, none⟩) 12 12) 3 1 12 ((bumps (loadL (lss.take k)) (ls.take (j + 1))).flatMap ic)] _
          rw [bumps_snoc hy, hd, hbi]
          exact St.sel (Sb := [own (.slice (some ⟨lb, 0, none⟩) 12 12) 3 1 12 (((bumps (loadL (lss.take k)) (ls.take j)).set d (cc + 1)).flatMap ic)]) hw (by repeat (first | exact Pks.nil _ | exact Pk.here _ | apply Pk.there | apply Pks.cons))
        · first | have p25 := of_decide_eq_true h25 | have p25 := of_decide_eq_false h25 | have p25 := ndT h25 | have p25 := ndF h25 | have p25 := nbT h25 | have p25 := nbF h25 | have p25 := h25
          refine sc_false (by rfl) h25 ?_
          refine jc_skip ?_
          refine jk_block ?_
          refine jk_then ?_
          refine sc_region ?_
          refine so_pure (opv_move (by rfl)) (by rfl) rfl ?_
          refine so_pure (opv_add (by rfl) (by rfl) (wrap64_ok (by omega))) (by rfl) rfl ?_
          refine so_pure (opv_assign (by rfl)) (by rfl) rfl ?_
          refine jo_nil ?_
          refine jk_round (j + 1) ⟨by omega, hbn⟩ (by show x.ln - (j + 1) < x.ln - j; omega) ⟨rfl, rfl, rfl, rfl, trivial⟩ (fun w hw => ?_)
          show St _ _ [own (.slice (some ⟨lb, 0, none⟩) 12 12) 3 1 12 ((bumps (loadL (lss.take k)) (ls.take (j + 1))).flatMap ic)] _
          rw [bumps_snoc hy, bump_out (by omega)]
          exact St.sel hw (by repeat (first | exact Pks.nil _ | exact Pk.here _ | apply Pk.there | apply Pks.cons))
      · first | have p24 := of_decide_eq_true h24 | have p24 := of_decide_eq_false h24 | have p24 := ndT h24 | have p24 := ndF h24 | have p24 := nbT h24 | have p24 := nbF h24 | have p24 := h24
        refine so_skip (wtd_not rfl rfl (by rfl) h24) rfl ?_
        refine so_skip (wtd_not rfl rfl (by rfl) h24) rfl ?_
        refine so_pure (sv_pick_f (by rfl) h24 (by rfl)) (by rfl) rfl ?_
        refine jo_nil ?_
        refine jk_then ?_
        refine sc_false (by rfl) rfl ?_
        refine jc_skip ?_
        refine jk_block ?_
        refine jk_then ?_
        refine sc_region ?_
        refine so_pure (opv_move (by rfl)) (by rfl) rfl ?_
        refine so_pure (opv_add (by rfl) (by rfl) (wrap64_ok (by omega))) (by rfl) rfl ?_
        refine so_pure (opv_assign (by rfl)) (by rfl) rfl ?_
        refine jo_nil ?_
        refine jk_round (j + 1) ⟨by omega, hbn⟩ (by show x.ln - (j + 1) < x.ln - j; omega) ⟨rfl, rfl, rfl, rfl, trivial⟩ (fun w hw => ?_)
        show St _ _ [own (.slice (some ⟨lb, 0, none⟩) 12 12) 3 1 12 ((bumps (loadL (lss.take k)) (ls.take (j + 1))).flatMap ic)] _
        rw [bumps_snoc hy, bump_out (by omega)]
        exact St.sel hw (by repeat (first | exact Pks.nil _ | exact Pk.here _ | apply Pk.there | apply Pks.cons))
    · first | have p15 := of_decide_eq_true h15 | have p15 := of_decide_eq_false h15 | have p15 := ndT h15 | have p15 := ndF h15 | have p15 := nbT h15 | have p15 := nbF h15 | have p15 := h15
      refine sc_false (by rfl) h15 ?_
      refine jc_exit ?_
      refine jk_then_exit ?_
      refine jk_then_exit ?_
      refine jk_block_exit ?_
      refine jk_block ?_
      refine jk_then ?_
      refine sc_region ?_
      refine so_pure (opv_move (by rfl)) (by rfl) rfl ?_
      refine so_pure (opv_add (by rfl) (by rfl) (wrap64_ok (by omega))) (by rfl) rfl ?_
      refine so_pure (opv_assign (by rfl)) (by rfl) rfl ?_
      refine jo_nil ?_
      have hlsn := hv.1.1
      have hxl : x.ln = ls.length := hlsn
      have ejl : ls.take j = ls := List.take_of_length_le (by omega)
      refine jk_round (k + 1, m + j) ⟨by omega, by omega, by rw [loads_snoc hls, ← ejl]; exact hbj⟩ (by show n - (k + 1) < n - k; omega) ⟨rfl, rfl, rfl, trivial⟩ (fun w hw => ?_)
      show St _ _ [own (.slice (some ⟨lb, 0, none⟩) 12 12) 3 1 12 ((loadL (lss.take (k + 1))).flatMap ic)] _
      rw [loads_snoc hls]
      rw [ejl] at hw
      exact St.sel hw (by repeat (first | exact Pks.nil _ | exact Pk.here _ | apply Pk.there | apply Pks.cons))
  · first | have p7 := of_decide_eq_true h7 | have p7 := of_decide_eq_false h7 | have p7 := ndT h7 | have p7 := ndF h7 | have p7 := nbT h7 | have p7 := nbF h7 | have p7 := h7
    refine sc_false (by rfl) h7 ?_
    refine jc_exit ?_
    refine jk_then_exit ?_
    refine jk_then_exit ?_
    refine jk_block_exit ?_
    refine jk_then ?_
    refine jc_seq ?_
    refine sc_region ?_
    refine so_pure (opv_move (by rfl)) (by rfl) rfl ?_
    refine so_pure (opv_assign (by rfl)) (by rfl) rfl ?_
    refine jo_nil ?_
    refine jk_then ?_
    refine jc_ret ?_
    refine jk_fn_ret rfl rfl (by rfl) (fun w hw => ?_)
    have ek : k = n := by omega
    rw [ek, List.take_of_length_le (by rw [← hr.len, ← hs.1]; exact Nat.le_refl _)] at hw hb
    exact ⟨lb, m, rfl, by omega, hb, St.sel hw (by repeat (first | exact Pks.nil _ | exact Pk.here _ | apply Pk.there | apply Pks.cons))⟩
end Go.Place
