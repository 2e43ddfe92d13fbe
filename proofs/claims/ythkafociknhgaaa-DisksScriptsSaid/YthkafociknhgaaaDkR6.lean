/- A part of a proof for the laws of the seat Ythkafociknhgaaa; it has no conditions of its own. -/
import Derived.Test.YthkafociknhgaaaDkR5
namespace Go.Disks
open Go Go.SL Go.Proofs
set_option maxHeartbeats 4000000 in
theorem place_spec (w : World) (A : Option Addr) (n c : Nat) (xs : List Bool) (hs : SlR w 4 1 bc A n xs) (i : Nat) : Does Try.prog 48 #[.slice A n c, .int .i64 (i : Int)] w (fun v w' => v = .bool (isB xs i) ∧ St w Emp [] w') := by
  refine fn_body (fn := Try.f48) Try.func48 rfl [(0, .slice A n c), (1, .int .i64 (i : Int))] (by exact ⟨rfl, rfl, trivial⟩) rfl (St.start w) ?_
  refine jc_seq ?_
  refine sc_region ?_
  refine so_pure (opv_assign (by rfl)) (by rfl) rfl ?_
  refine jo_nil ?_
  refine jk_then ?_
  refine jc_seq ?_
  refine sc_region ?_
  refine so_pure (opv_move (by rfl)) (by rfl) rfl ?_
  refine so_pure (opv_move (by rfl)) (by rfl) rfl ?_
  refine so_pure (opv_len_slice (by rfl) Try.underlying23) (by rfl) rfl ?_
  refine so_pure (opv_cmp (by rfl) (by rfl) (by rfl)) (by rfl) rfl ?_
  refine so_pure (opv_move (by rfl)) (by rfl) rfl ?_
  refine sk_split (x := 9) (by rfl) (fun h4 => ?_) (fun h4 => ?_)
  · first | have p4 := of_decide_eq_true h4 | have p4 := of_decide_eq_false h4 | have p4 := ndT h4 | have p4 := ndF h4 | have p4 := nbT h4 | have p4 := nbF h4 | have p4 := h4
    refine so_pure (opv_move (by rfl)) (wtd_run rfl rfl (by rfl) h4) rfl ?_
    refine so_pure (opv_move (by rfl)) (wtd_run rfl rfl (by rfl) h4) rfl ?_
    have hlt : i < n := by omega
    obtain ⟨_, _, _, _, x, _, _, hx, _⟩ := hs.get hlt
    refine so_pure (opv_indexAddr_slr (i := i) (by rfl) hs (by rfl) Try.underlying23 ti4 rfl hlt) (wtd_run rfl rfl (by rfl) h4) rfl ?_
    refine so_pure (opv_load_slr (enc := bc) (u := x) (fo := 0) (v := .bool x) (by rfl) na4 rfl hs hx rfl) (wtd_run rfl rfl (by rfl) h4) rfl ?_
    refine so_pure (sv_pick_t (by rfl) h4 (by rfl)) (by rfl) rfl ?_
    refine so_pure (opv_assign (by rfl)) (by rfl) rfl ?_
    refine jo_nil ?_
    refine jk_then ?_
    refine jc_ret ?_
    refine jk_fn_ret rfl rfl (by rfl) (fun w hw => ?_)
    refine ⟨?_, hw.forget⟩
    unfold isB
    rw [hx]; rfl
  · first | have p4 := of_decide_eq_true h4 | have p4 := of_decide_eq_false h4 | have p4 := ndT h4 | have p4 := ndF h4 | have p4 := nbT h4 | have p4 := nbF h4 | have p4 := h4
    refine so_skip (wtd_not rfl rfl (by rfl) h4) rfl ?_
    refine so_skip (wtd_not rfl rfl (by rfl) h4) rfl ?_
    refine so_skip (wtd_not rfl rfl (by rfl) h4) rfl ?_
    refine so_skip (wtd_not rfl rfl (by rfl) h4) rfl ?_
    refine so_pure (sv_pick_f (by rfl) h4 (by rfl)) (by rfl) rfl ?_
    refine so_pure (opv_assign (by rfl)) (by rfl) rfl ?_
    refine jo_nil ?_
    refine jk_then ?_
    refine jc_ret ?_
    refine jk_fn_ret rfl rfl (by rfl) (fun w hw => ?_)
    refine ⟨?_, hw.forget⟩
    unfold isB
    rw [List.getElem?_eq_none (by have := hs.1; omega)]; rfl
set_option maxHeartbeats 4000000 in
theorem half_spec (w : World) (s : ByteArray) (hsz : s.size ≤ 1000000) : Does Try.prog 49 #[.string s] w (fun v w' => v = .string (half s) ∧ St w Emp [] w') := by
  refine fn_body (fn := Try.f49) Try.func49 rfl [(0, .string s)] (by exact ⟨rfl, trivial⟩) rfl (St.start w) ?_
  refine jc_seq ?_
  refine sc_region ?_
  refine so_pure (opv_assign (by rfl)) (by rfl) rfl ?_
  refine jo_nil ?_
  refine jk_then ?_
  refine jc_seq ?_
  refine sc_region ?_
  refine so_pure (opv_move (by rfl)) (by rfl) rfl ?_
  refine so_pure (opv_move (by rfl)) (by rfl) rfl ?_
  refine so_pure (opv_len_string (by rfl) Try.underlying9) (by rfl) rfl ?_
  refine so_pure (opv_quo (m := (s.size : Int)) (n := 2) (by rfl) (by rfl) (by omega) (by omega) (wrap64_ok (by omega))) (by rfl) rfl ?_
  refine so_pure (opv_slice_string (l := 0) (h := s.size / 2) (by rfl) Try.underlying9 (by rfl) (by rfl) (by show ((s.size : Int) / 2) = ((s.size / 2 : Nat) : Int); omega) (by rfl) (by omega) (by omega)) (by rfl) rfl ?_
  refine so_pure (opv_assign (by rfl)) (by rfl) rfl ?_
  refine jo_nil ?_
  refine jk_then ?_
  refine jc_ret ?_
  refine jk_fn_ret rfl rfl (by rfl) (fun w hw => ?_)
  exact ⟨rfl, hw.forget⟩
set_option maxHeartbeats 4000000 in
theorem rcrash_spec {w0 w : World} {M : Nat → Prop} {Fr : List Itm} {bk : Nat} {dv : Value} {rps : List Nat} {ds : List DD} (A B : Option Addr) (n m2 c c2 : Nat) (xs ys : List Bool) (hst : St w0 M (blk bk (.cells #[dv] 73 (0, 0)) :: own dv 74 1 12 (rps.flatMap pc) :: grp (List.zipWith rdI rps ds) :: Fr) w) (hlp : rps.length = 12) (hld : ds.length = 12) {N : Nat} (hwb : WB ds N) (hN : N ≤ 100000) (hwn : WN ds) (hkeep : ∀ w1, St w0 M Fr w1 → SlR w1 4 1 bc A n xs) (htorn : ∀ w1, St w0 M Fr w1 → SlR w1 4 1 bc B m2 ys) : Does Try.prog 40 #[.pointer (some ⟨bk, 0, none⟩), .slice A n c, .slice B m2 c2] w (fun v w' => v = .int .i64 0 ∧ St w0 M (blk bk (.cells #[dv] 73 (0, 0)) :: own dv 74 1 12 (rps.flatMap pc) :: grp (List.zipWith rdI rps (crashK xs ys ds 12)) :: Fr) w') := by
  refine fn_bodyX (fn := Try.f40) Try.func40 rfl [(0, .pointer (some ⟨bk, 0, none⟩)), (1, .slice A n c), (2, .slice B m2 c2)] (by exact ⟨rfl, rfl, rfl, trivial⟩) rfl hst ?_
  refine jc_seq ?_
  refine sc_region ?_
  refine so_pure (opv_assign (by rfl)) (by rfl) rfl ?_
  refine jo_nil ?_
  refine jk_then ?_
  refine jc_seq ?_
  refine sc_region ?_
  refine so_pure (opv_assign (by rfl)) (by rfl) rfl ?_
  refine jo_nil ?_
  refine jk_then ?_
  refine jc_seq ?_
  refine jc_seq ?_
  refine sc_region ?_
  refine so_pure (opv_assign (by rfl)) (by rfl) rfl ?_
  refine jo_nil ?_
  refine jk_then ?_
  refine jc_block ?_
  refine jc_loop (σ := Nat) (fun k => [(0, .pointer (some ⟨bk, 0, none⟩)), (1, .slice A n c), (2, .slice B m2 c2), (7, .int .i64 ((atK ds k : Nat) : Int)), (8, .int .i64 k)]) (fun k => (blk bk (.cells #[dv] 73 (0, 0)) :: own dv 74 1 12 (rps.flatMap pc) :: grp (List.zipWith rdI rps (crashK xs ys ds k)) :: Fr)) (fun k => (k ≤ 12) ∧ (True)) (fun k => 12 - k) 0 ⟨Nat.zero_le _, trivial⟩ ⟨rfl, rfl, rfl, rfl, rfl, trivial⟩ (fun w hw => hw) ?_
  rintro k ⟨hk, ht⟩
  show Jc _ _ [(0, .pointer (some ⟨bk, 0, none⟩)), (1, .slice A n c), (2, .slice B m2 c2), (7, .int .i64 ((atK ds k : Nat) : Int)), (8, .int .i64 k)] (blk bk (.cells #[dv] 73 (0, 0)) :: own dv 74 1 12 (rps.flatMap pc) :: grp (List.zipWith rdI rps (crashK xs ys ds k)) :: Fr) _
  refine jc_seq ?_
  refine jc_seq ?_
  refine sc_region ?_
  refine so_pure (opv_move (by rfl)) (by rfl) rfl ?_
  refine so_pure (opv_cmp (by rfl) (by rfl) (by rfl)) (by rfl) rfl ?_
  refine jo_nil ?_
  refine jk_then ?_
  refine sk_split (x := 13) (by rfl) (fun h8 => ?_) (fun h8 => ?_)
  · first | have p8 := of_decide_eq_true h8 | have p8 := of_decide_eq_false h8 | have p8 := ndT h8 | have p8 := ndF h8 | have p8 := nbT h8 | have p8 := nbF h8 | have p8 := h8
    refine sc_true (by rfl) h8 ?_
    refine jc_skip ?_
    refine jk_then ?_
    refine jc_seq ?_
    refine jc_block ?_
    refine jc_seq ?_
    have hk12 : k < 12 := by omega
    obtain ⟨rb, hrb⟩ : ∃ rb, rps[k]? = some rb := ⟨rps[k], List.getElem?_eq_getElem (by omega)⟩
    obtain ⟨DQ, hDs⟩ : ∃ D, ds[k]? = some D := ⟨ds[k], List.getElem?_eq_getElem (by omega)⟩
    have hD : (crashK xs ys ds k)[k]? = some DQ := by rw [crashK_get _ _ _ _ _ (Nat.le_refl _)]; exact hDs
    have hat : atK ds k ≤ 1200000 := Nat.le_trans (atK_le hwb k (by omega)) (Nat.le_trans (Nat.mul_le_mul (by omega : k ≤ 12) hN) (Nat.le_refl _))
    have hwq := wb_ws hwb hDs
    have hnq := wn_ws hwn hDs
    refine jk_focus (L := List.zipWith rdI rps (crashK xs ys ds k)) (d := k) (by repeat (first | exact Pk.here _ | apply Pk.there)) (rzip_get hrb hD) ?_
    refine jk_rd_open (D := DQ) (by repeat (first | exact Pk.here _ | apply Pk.there)) (fun lv wv => ?_)
    refine jk_sv (v := dv) (by repeat (first | exact Pk.here _ | apply Pk.there)) (fun hdv => ?_)
    refine jk_sv (v := lv) (by repeat (first | exact Pk.here _ | apply Pk.there)) (fun hlv => ?_)
    refine jk_sv (v := wv) (by repeat (first | exact Pk.here _ | apply Pk.there)) (fun hwv => ?_)
    refine sc_region ?_
    refine so_pure (opv_move (by rfl)) (by rfl) rfl ?_
    refine so_pure (opv_nilCheck (by rfl)) (by rfl) rfl ?_
    refine so_pure (opv_fieldAddr (by rfl) fld73_0) (by rfl) rfl ?_
    refine so_pure (opv_load (by rfl) na71 (rd_pk (by repeat (first | exact Pk.here _ | apply Pk.there))) (by rfl)) (by rfl) rfl ?_
    refine so_pure (opv_move (by rfl)) (by rfl) rfl ?_
    refine so_pure (opv_indexAddr_sv (i := k) (v := dv) (n := 12) (by rfl) hdv (by rfl) Try.underlying71 ti74 rfl (by omega)) (by rfl) rfl ?_
    refine so_pure (opv_load_fld (enc := pc) (v := dv) (i := k) (u := rb) (fo := 0) (w := .pointer (some ⟨rb, 0, none⟩)) pc_len (by rfl) na74 (by repeat (first | exact Pk.here _ | apply Pk.there)) hrb rfl) (by rfl) rfl ?_
    refine so_pure (opv_assign (by rfl)) (by rfl) rfl ?_
    refine jo_nil ?_
    refine jk_then ?_
    refine jc_seq ?_
    refine jc_seq ?_
    refine sc_region ?_
    refine so_pure (opv_assign (by rfl)) (by rfl) rfl ?_
    refine jo_nil ?_
    refine jk_then ?_
    refine jc_block ?_
    refine jc_loop (σ := Nat) (fun j => [(0, .pointer (some ⟨bk, 0, none⟩)), (1, .slice A n c), (2, .slice B m2 c2), (7, .int .i64 ((atK ds k + j : Nat) : Int)), (8, .int .i64 (k : Int)), (9, .pointer (some ⟨rb, 0, none⟩)), (10, .int .i64 j)]) (fun j => (blk rb (.cells #[lv, wv, .bool (lostB DQ)] 78 (0, 0)) :: own lv 9 1 112 ((lK (settleK (fun i => crashH xs ys (atK ds k + i)) (kpOf DQ) (wsOf DQ) j)).flatMap sc) :: own wv 81 2 (wsOf DQ).length ((wsOf DQ).flatMap Wr.cells) :: grp ((List.zipWith rdI rps (crashK xs ys ds k)).eraseIdx k) :: blk bk (.cells #[dv] 73 (0, 0)) :: own dv 74 1 12 (rps.flatMap pc) :: Fr)) (fun j => (j ≤ (wsOf DQ).length) ∧ (True)) (fun j => (wsOf DQ).length - j) 0 ⟨Nat.zero_le _, trivial⟩ ⟨rfl, rfl, rfl, rfl, rfl, rfl, rfl, trivial⟩ (fun w hw => hw) ?_
    rintro j ⟨hj, ht2⟩
    show Jc _ _ [(0, .pointer (some ⟨bk, 0, none⟩)), (1, .slice A n c), (2, .slice B m2 c2), (7, .int .i64 ((atK ds k + j : Nat) : Int)), (8, .int .i64 (k : Int)), (9, .pointer (some ⟨rb, 0, none⟩)), (10, .int .i64 j)] (blk rb (.cells #[lv, wv, .bool (lostB DQ)] 78 (0, 0)) :: own lv 9 1 112 ((lK (settleK (fun i => crashH xs ys (atK ds k + i)) (kpOf DQ) (wsOf DQ) j)).flatMap sc) :: own wv 81 2 (wsOf DQ).length ((wsOf DQ).flatMap Wr.cells) :: grp ((List.zipWith rdI rps (crashK xs ys ds k)).eraseIdx k) :: blk bk (.cells #[dv] 73 (0, 0)) :: own dv 74 1 12 (rps.flatMap pc) :: Fr) _
    refine jc_seq ?_
    refine jc_seq ?_
    refine sc_region ?_
    refine so_pure (opv_move (by rfl)) (by rfl) rfl ?_
    refine so_pure (opv_move (by rfl)) (by rfl) rfl ?_
    refine so_pure (opv_nilCheck (by rfl)) (by rfl) rfl ?_
    refine so_pure (opv_fieldAddr (by rfl) fld78_1) (by rfl) rfl ?_
    refine so_pure (opv_load (by rfl) na76 (rd_pk (by repeat (first | exact Pk.here _ | apply Pk.there))) (by rfl)) (by rfl) rfl ?_
    refine so_pure (opv_len_sv (v := wv) (n := (wsOf DQ).length) (by rfl) hwv Try.underlying76) (by rfl) rfl ?_
    refine so_pure (opv_cmp (by rfl) (by rfl) (by rfl)) (by rfl) rfl ?_
    refine jo_nil ?_
    refine jk_then ?_
    refine sk_split (x := 29) (by rfl) (fun h21 => ?_) (fun h21 => ?_)
    · first | have p21 := of_decide_eq_true h21 | have p21 := of_decide_eq_false h21 | have p21 := ndT h21 | have p21 := ndF h21 | have p21 := nbT h21 | have p21 := nbF h21 | have p21 := h21
      refine sc_true (by rfl) h21 ?_
      refine jc_skip ?_
      refine jk_then ?_
      refine jc_seq ?_
      refine jc_block ?_
      refine jc_seq ?_
      have hlt : j < (wsOf DQ).length := by omega
      obtain ⟨x, hx⟩ : ∃ x, (wsOf DQ)[j]? = some x := ⟨(wsOf DQ)[j], List.getElem?_eq_getElem hlt⟩
      have hxr := hnq x (List.mem_of_getElem? hx)
      have hxs := hwq.2 x (List.mem_of_getElem? hx)
      obtain ⟨m, hm⟩ : ∃ m : Nat, x.n = m := ⟨x.n.toNat, by omega⟩
      have hm112 : m < 112 := by omega
      refine sc_region ?_
      refine so_pure (opv_move (by rfl)) (by rfl) rfl ?_
      refine so_pure (opv_nilCheck (by rfl)) (by rfl) rfl ?_
      refine so_pure (opv_fieldAddr (by rfl) fld78_1) (by rfl) rfl ?_
      refine so_pure (opv_load (by rfl) na76 (rd_pk (by repeat (first | exact Pk.here _ | apply Pk.there))) (by rfl)) (by rfl) rfl ?_
      refine so_pure (opv_move (by rfl)) (by rfl) rfl ?_
      refine so_pure (opv_indexAddr_sv (i := j) (v := wv) (n := (wsOf DQ).length) (by rfl) hwv (by rfl) Try.underlying76 ti81 rfl hlt) (by rfl) rfl ?_
      refine so_pure (opv_load_elem (u := x) Wr.cells_len (by rfl) ag81 ti81 (by repeat (first | exact Pk.here _ | apply Pk.there)) (by omega) hx) (by rfl) rfl ?_
      refine so_eff (eff_alloc ti81 rfl) (by rfl) rfl ?_
      rintro _ _ ⟨b11, rfl, rfl⟩
      refine so_eff0 (eff_store_all (vs := x.cells) (by rfl) (by rfl) (by rfl) ti81 (by rfl) (by repeat (first | exact Pk.here _ | apply Pk.there)) (by rfl) (by rfl)) (by rfl) ?_
      rintro _ _ ⟨rfl, rfl⟩
      refine jo_nil ?_
      refine jk_then ?_
      refine jc_seq ?_
      refine jc_seq ?_
      refine sc_region ?_
      refine so_pure (opv_move (by rfl)) (by rfl) rfl ?_
      refine so_pure (opv_move (by rfl)) (by rfl) rfl ?_
      refine so_eff (eff_call0 (fl := []) (cl := []) (G := fun v New => v = .bool (isB xs (atK ds k + j)) ∧ New = []) (by rfl) (by rfl) tx48 (by exact fun w1 hw1 => (place_spec w1 A n c xs (hkeep w1 (St.keep (Sb := []) hw1 (Pks.nil _) (by repeat (first | exact Tl.here _ | apply Tl.there)))) (atK ds k + j)).mono (fun _ _ ⟨hv, hst⟩ => ⟨[], ⟨hv, rfl⟩, hst⟩))) (by rfl) rfl ?_
      rintro _ _ ⟨_, ⟨rfl, rfl⟩, rfl⟩
      refine jo_nil ?_
      refine jk_then ?_
      refine sk_split (x := 41) (by rfl) (fun h30 => ?_) (fun h30 => ?_)
      · first | have p30 := of_decide_eq_true h30 | have p30 := of_decide_eq_false h30 | have p30 := ndT h30 | have p30 := ndF h30 | have p30 := nbT h30 | have p30 := nbF h30 | have p30 := h30
        refine sc_true (by rfl) h30 ?_
        refine jc_seq ?_
        refine sc_region ?_
        refine so_pure (opv_move (by rfl)) (by rfl) rfl ?_
        refine so_pure (opv_move (by rfl)) (by rfl) rfl ?_
        refine so_eff (eff_call0 (fl := []) (cl := []) (G := fun v New => v = .bool (isB ys (atK ds k + j)) ∧ New = []) (by rfl) (by rfl) tx48 (by exact fun w1 hw1 => (place_spec w1 B m2 c2 ys (htorn w1 (St.keep (Sb := []) hw1 (Pks.nil _) (by repeat (first | exact Tl.here _ | apply Tl.there)))) (atK ds k + j)).mono (fun _ _ ⟨hv, hst⟩ => ⟨[], ⟨hv, rfl⟩, hst⟩))) (by rfl) rfl ?_
        rintro _ _ ⟨_, ⟨rfl, rfl⟩, rfl⟩
        refine jo_nil ?_
        refine jk_then ?_
        refine sk_split (x := 44) (by rfl) (fun h32 => ?_) (fun h32 => ?_)
        · first | have p32 := of_decide_eq_true h32 | have p32 := of_decide_eq_false h32 | have p32 := ndT h32 | have p32 := ndF h32 | have p32 := nbT h32 | have p32 := nbF h32 | have p32 := h32
          refine sc_true (by rfl) h32 ?_
          refine so_draw [blk rb (.cells #[lv, wv, .bool (lostB DQ)] 78 (0, 0)), blk b11 (.cells #[.int .i64 x.n, .string x.s] 81 (0, 0))] (by kernel_rfl) (by kernel_rfl) (by kernel_rfl) rfl (by rfl) (fun hap htm => ?_)
          refine da_any hap htm (i := 0) (by rfl) (by kernel_rfl) (by rfl) (listed' := #[true, false, false, false, false, false, false, false, false, false, false]) (by rfl) (fun _ => (opv_move (by rfl))) (by rfl) rfl ?_
          refine da_any hap htm (i := 1) (by rfl) (by kernel_rfl) (by rfl) (listed' := #[true, true, false, false, false, false, false, false, false, false, false]) (by rfl) (fun _ => (opv_nilCheck (by rfl))) (by rfl) rfl ?_
          refine da_any hap htm (i := 2) (by rfl) (by kernel_rfl) (by rfl) (listed' := #[true, true, true, false, false, false, false, false, false, false, false]) (by rfl) (fun _ => (opv_fieldAddr (by rfl) fld78_0)) (by rfl) rfl ?_
          refine da_free hap htm (i := 3) (by rfl) (by kernel_rfl) (by rfl) (listed' := #[true, true, true, true, false, false, false, false, false, false, false]) (by rfl) (fun w hw => Pks.cw (by repeat (first | exact Pks.nil _ | exact Pk.here _ | apply Pk.there | apply Pks.cons)) hw) (fun _ => (opv_load (by rfl) na75 (rd_pk (by repeat (first | exact Pk.here _ | apply Pk.there))) (by rfl))) (by rfl) rfl ?_
          refine da_any hap htm (i := 4) (by rfl) (by kernel_rfl) (by rfl) (listed' := #[true, true, true, true, true, false, false, false, false, false, false]) (by rfl) (fun _ => (opv_fieldAddr (by rfl) fld81_0)) (by rfl) rfl ?_
          refine da_free hap htm (i := 5) (by rfl) (by kernel_rfl) (by rfl) (listed' := #[true, true, true, true, true, true, false, false, false, false, false]) (by rfl) (fun w hw => Pks.cw (by repeat (first | exact Pks.nil _ | exact Pk.here _ | apply Pk.there | apply Pks.cons)) hw) (fun _ => (opv_load (by rfl) na3 (rd_pk (by repeat (first | exact Pk.here _ | apply Pk.there))) (by rfl))) (by rfl) rfl ?_
          refine da_any hap htm (i := 6) (by rfl) (by kernel_rfl) (by rfl) (listed' := #[true, true, true, true, true, true, true, false, false, false, false]) (by rfl) (fun _ => (opv_fieldAddr (by rfl) fld81_1)) (by rfl) rfl ?_
          refine da_now [8, 9, 10] hap htm (i := 7) (by rfl) (by kernel_rfl) (by rfl) (listed' := #[true, true, true, true, true, true, true, true, false, false, false]) (by rfl) (by kernel_rfl) (by kernel_rfl) (opv_load (by rfl) na9 (rd_pk (by repeat (first | exact Pk.here _ | apply Pk.there))) (by rfl)) (by rfl) rfl ?_
          refine da_eff (i := 8) (by rfl) (by kernel_rfl) (by rfl) (listed' := #[true, true, true, true, true, true, true, true, true, false, false]) (by rfl) (eff_call0 (fl := []) (cl := []) (G := fun v New => v = .string (half x.s) ∧ New = []) (by rfl) (by rfl) tx49 (by exact fun w1 hw1 => (half_spec w1 x.s hxs).mono (fun _ _ ⟨hv, hst⟩ => ⟨[], ⟨hv, rfl⟩, hst⟩))) (fun _ _ h w hw => by obtain ⟨_, ⟨_, rfl⟩, rfl⟩ := h; exact Pks.cw (by repeat (first | exact Pks.nil _ | exact Pk.here _ | apply Pk.there | apply Pks.cons)) hw) (by rfl) rfl ?_
          rintro _ _ ⟨_, ⟨rfl, rfl⟩, rfl⟩
          refine da_any hap htm (i := 9) (by rfl) (by kernel_rfl) (by rfl) (listed' := #[true, true, true, true, true, true, true, true, true, true, false]) (by rfl) (fun _ => (opv_indexAddr_sv (i := m) (v := lv) (n := 112) (by rfl) hlv (by rfl) Try.underlying75 ti9 hm hm112)) (by rfl) rfl ?_
          refine da_eff0 (i := 10) (by rfl) (by kernel_rfl) (by rfl) (listed' := #[true, true, true, true, true, true, true, true, true, true, true]) (by rfl) (eff_store_elem (enc := sc) (v := lv) (i := m) (q := (half x.s)) (vs := [.string (half x.s)]) (fo := 0) sc_len (by rfl) (by rfl) (by rfl) ti9 (by rfl) (by repeat (first | exact Pk.here _ | apply Pk.there)) (lK_len _).symm (lK_get hm112) (by exact Nat.le_refl _) rfl (by rfl)) (fun _ _ h w hw => by obtain ⟨_, rfl⟩ := h; exact Pks.cw (by repeat (first | exact Pks.nil _ | exact Pk.here _ | apply Pk.there | apply Pks.cons)) hw) (by rfl) ?_
          rintro _ _ ⟨rfl, rfl⟩
          refine da_done (by kernel_rfl) ?_
          refine jk_then ?_
          refine sc_region ?_
          refine so_pure (opv_move (by rfl)) (by rfl) rfl ?_
          refine so_pure (opv_add (by rfl) (by rfl) (wrap64_ok (by omega))) (by rfl) rfl ?_
          refine so_pure (opv_assign (by rfl)) (by rfl) rfl ?_
          refine jo_nil ?_
          refine jk_block ?_
          refine jk_then ?_
          refine sc_region ?_
          refine so_pure (opv_move (by rfl)) (by rfl) rfl ?_
          refine so_pure (opv_add (by rfl) (by rfl) (wrap64_ok (by omega))) (by rfl) rfl ?_
          refine so_pure (opv_assign (by rfl)) (by rfl) rfl ?_
          refine jo_nil ?_
          have e1 : (settleK (fun i => crashH xs ys (atK ds k + i)) (kpOf DQ) (wsOf DQ) (j + 1)) = setL (settleK (fun i => crashH xs ys (atK ds k + i)) (kpOf DQ) (wsOf DQ) j) (m : Int) (half x.s) := by rw [settleK_succ hx]; show applyW (crashH xs ys (atK ds k + j)) _ x = _; unfold crashH; rw [if_pos p30, p32]; show setL _ x.n _ = _; rw [hm]
          refine jk_round (j + 1) ⟨by omega, trivial⟩ (by show (wsOf DQ).length - (j + 1) < (wsOf DQ).length - j; omega) ⟨rfl, rfl, rfl, rfl, rfl, rfl, rfl, trivial⟩ (fun w hw => ?_)
          show St _ _ (blk rb (.cells #[lv, wv, .bool (lostB DQ)] 78 (0, 0)) :: own lv 9 1 112 ((lK (settleK (fun i => crashH xs ys (atK ds k + i)) (kpOf DQ) (wsOf DQ) (j + 1))).flatMap sc) :: own wv 81 2 (wsOf DQ).length ((wsOf DQ).flatMap Wr.cells) :: grp ((List.zipWith rdI rps (crashK xs ys ds k)).eraseIdx k) :: blk bk (.cells #[dv] 73 (0, 0)) :: own dv 74 1 12 (rps.flatMap pc) :: Fr) _
          rw [e1, ← lK_set _ hm112]
          exact St.keep (Sb := [blk rb (.cells #[lv, wv, .bool (lostB DQ)] 78 (0, 0)), own lv 9 1 112 (((lK (settleK (fun i => crashH xs ys (atK ds k + i)) (kpOf DQ) (wsOf DQ) j)).set m (half x.s)).flatMap sc), own wv 81 2 (wsOf DQ).length ((wsOf DQ).flatMap Wr.cells), grp ((List.zipWith rdI rps (crashK xs ys ds k)).eraseIdx k), blk bk (.cells #[dv] 73 (0, 0)), own dv 74 1 12 (rps.flatMap pc)]) hw (by repeat (first | exact Pks.nil _ | exact Pk.here _ | apply Pk.there | apply Pks.cons)) (by repeat (first | exact Tl.here _ | apply Tl.there))
        · first | have p32 := of_decide_eq_true h32 | have p32 := of_decide_eq_false h32 | have p32 := ndT h32 | have p32 := ndF h32 | have p32 := nbT h32 | have p32 := nbF h32 | have p32 := h32
          refine sc_false (by rfl) h32 ?_
          refine so_draw [] (by kernel_rfl) (by kernel_rfl) (by kernel_rfl) rfl (by rfl) (fun hap htm => ?_)
          refine da_any hap htm (i := 0) (by rfl) (by kernel_rfl) (by rfl) (listed' := #[true, false, false, false, false, false, false, false, false, false]) (by rfl) (fun _ => (opv_move (by rfl))) (by rfl) rfl ?_
          refine da_any hap htm (i := 1) (by rfl) (by kernel_rfl) (by rfl) (listed' := #[true, true, false, false, false, false, false, false, false, false]) (by rfl) (fun _ => (opv_nilCheck (by rfl))) (by rfl) rfl ?_
          refine da_any hap htm (i := 2) (by rfl) (by kernel_rfl) (by rfl) (listed' := #[true, true, true, false, false, false, false, false, false, false]) (by rfl) (fun _ => (opv_fieldAddr (by rfl) fld78_0)) (by rfl) rfl ?_
          refine da_now [8, 9] hap htm (i := 3) (by rfl) (by kernel_rfl) (by rfl) (listed' := #[true, true, true, true, false, false, false, false, false, false]) (by rfl) (by kernel_rfl) (by kernel_rfl) (opv_load (by rfl) na75 (rd_pk (by repeat (first | exact Pk.here _ | apply Pk.there))) (by rfl)) (by rfl) rfl ?_
          refine da_any hap htm (i := 4) (by rfl) (by kernel_rfl) (by rfl) (listed' := #[true, true, true, true, true, false, false, false, false, false]) (by rfl) (fun _ => (opv_fieldAddr (by rfl) fld81_0)) (by rfl) rfl ?_
          refine da_now [8, 9] hap htm (i := 5) (by rfl) (by kernel_rfl) (by rfl) (listed' := #[true, true, true, true, true, true, false, false, false, false]) (by rfl) (by kernel_rfl) (by kernel_rfl) (opv_load (by rfl) na3 (rd_pk (by repeat (first | exact Pk.here _ | apply Pk.there))) (by rfl)) (by rfl) rfl ?_
          refine da_any hap htm (i := 6) (by rfl) (by kernel_rfl) (by rfl) (listed' := #[true, true, true, true, true, true, true, false, false, false]) (by rfl) (fun _ => (opv_fieldAddr (by rfl) fld81_1)) (by rfl) rfl ?_
          refine da_now [8, 9] hap htm (i := 7) (by rfl) (by kernel_rfl) (by rfl) (listed' := #[true, true, true, true, true, true, true, true, false, false]) (by rfl) (by kernel_rfl) (by kernel_rfl) (opv_load (by rfl) na9 (rd_pk (by repeat (first | exact Pk.here _ | apply Pk.there))) (by rfl)) (by rfl) rfl ?_
          refine da_any hap htm (i := 8) (by rfl) (by kernel_rfl) (by rfl) (listed' := #[true, true, true, true, true, true, true, true, true, false]) (by rfl) (fun _ => (opv_indexAddr_sv (i := m) (v := lv) (n := 112) (by rfl) hlv (by rfl) Try.underlying75 ti9 hm hm112)) (by rfl) rfl ?_
          refine da_eff0 (i := 9) (by rfl) (by kernel_rfl) (by rfl) (listed' := #[true, true, true, true, true, true, true, true, true, true]) (by rfl) (eff_store_elem (enc := sc) (v := lv) (i := m) (q := x.s) (vs := [.string x.s]) (fo := 0) sc_len (by rfl) (by rfl) (by rfl) ti9 (by rfl) (by repeat (first | exact Pk.here _ | apply Pk.there)) (lK_len _).symm (lK_get hm112) (by exact Nat.le_refl _) rfl (by rfl)) (fun _ _ _ _ hw => cw_nil hw) (by rfl) ?_
          rintro _ _ ⟨rfl, rfl⟩
          refine da_done (by kernel_rfl) ?_
          refine jk_then ?_
          refine sc_region ?_
          refine so_pure (opv_move (by rfl)) (by rfl) rfl ?_
          refine so_pure (opv_add (by rfl) (by rfl) (wrap64_ok (by omega))) (by rfl) rfl ?_
          refine so_pure (opv_assign (by rfl)) (by rfl) rfl ?_
          refine jo_nil ?_
          refine jk_block ?_
          refine jk_then ?_
          refine sc_region ?_
          refine so_pure (opv_move (by rfl)) (by rfl) rfl ?_
          refine so_pure (opv_add (by rfl) (by rfl) (wrap64_ok (by omega))) (by rfl) rfl ?_
          refine so_pure (opv_assign (by rfl)) (by rfl) rfl ?_
          refine jo_nil ?_
          have e1 : (settleK (fun i => crashH xs ys (atK ds k + i)) (kpOf DQ) (wsOf DQ) (j + 1)) = setL (settleK (fun i => crashH xs ys (atK ds k + i)) (kpOf DQ) (wsOf DQ) j) (m : Int) x.s := by rw [settleK_succ hx]; show applyW (crashH xs ys (atK ds k + j)) _ x = _; unfold crashH; rw [if_pos p30, p32]; show setL _ x.n _ = _; rw [hm]
          refine jk_round (j + 1) ⟨by omega, trivial⟩ (by show (wsOf DQ).length - (j + 1) < (wsOf DQ).length - j; omega) ⟨rfl, rfl, rfl, rfl, rfl, rfl, rfl, trivial⟩ (fun w hw => ?_)
          show St _ _ (blk rb (.cells #[lv, wv, .bool (lostB DQ)] 78 (0, 0)) :: own lv 9 1 112 ((lK (settleK (fun i => crashH xs ys (atK ds k + i)) (kpOf DQ) (wsOf DQ) (j + 1))).flatMap sc) :: own wv 81 2 (wsOf DQ).length ((wsOf DQ).flatMap Wr.cells) :: grp ((List.zipWith rdI rps (crashK xs ys ds k)).eraseIdx k) :: blk bk (.cells #[dv] 73 (0, 0)) :: own dv 74 1 12 (rps.flatMap pc) :: Fr) _
          rw [e1, ← lK_set _ hm112]
          exact St.keep (Sb := [blk rb (.cells #[lv, wv, .bool (lostB DQ)] 78 (0, 0)), own lv 9 1 112 (((lK (settleK (fun i => crashH xs ys (atK ds k + i)) (kpOf DQ) (wsOf DQ) j)).set m x.s).flatMap sc), own wv 81 2 (wsOf DQ).length ((wsOf DQ).flatMap Wr.cells), grp ((List.zipWith rdI rps (crashK xs ys ds k)).eraseIdx k), blk bk (.cells #[dv] 73 (0, 0)), own dv 74 1 12 (rps.flatMap pc)]) hw (by repeat (first | exact Pks.nil _ | exact Pk.here _ | apply Pk.there | apply Pks.cons)) (by repeat (first | exact Tl.here _ | apply Tl.there))
      · first | have p30 := of_decide_eq_true h30 | have p30 := of_decide_eq_false h30 | have p30 := ndT h30 | have p30 := ndF h30 | have p30 := nbT h30 | have p30 := nbF h30 | have p30 := h30
        refine sc_false (by rfl) h30 ?_
        refine jc_skip ?_
        refine jk_then ?_
        refine sc_region ?_
        refine so_pure (opv_move (by rfl)) (by rfl) rfl ?_
        refine so_pure (opv_add (by rfl) (by rfl) (wrap64_ok (by omega))) (by rfl) rfl ?_
        refine so_pure (opv_assign (by rfl)) (by rfl) rfl ?_
        refine jo_nil ?_
        refine jk_block ?_
        refine jk_then ?_
        refine sc_region ?_
        refine so_pure (opv_move (by rfl)) (by rfl) rfl ?_
        refine so_pure (opv_add (by rfl) (by rfl) (wrap64_ok (by omega))) (by rfl) rfl ?_
        refine so_pure (opv_assign (by rfl)) (by rfl) rfl ?_
        refine jo_nil ?_
        have e1 : (settleK (fun i => crashH xs ys (atK ds k + i)) (kpOf DQ) (wsOf DQ) (j + 1)) = (settleK (fun i => crashH xs ys (atK ds k + i)) (kpOf DQ) (wsOf DQ) j) := by rw [settleK_succ hx]; show applyW (crashH xs ys (atK ds k + j)) _ x = _; unfold crashH; rw [if_neg (by rw [p30]; decide)]; rfl
        refine jk_round (j + 1) ⟨by omega, trivial⟩ (by show (wsOf DQ).length - (j + 1) < (wsOf DQ).length - j; omega) ⟨rfl, rfl, rfl, rfl, rfl, rfl, rfl, trivial⟩ (fun w hw => ?_)
        show St _ _ (blk rb (.cells #[lv, wv, .bool (lostB DQ)] 78 (0, 0)) :: own lv 9 1 112 ((lK (settleK (fun i => crashH xs ys (atK ds k + i)) (kpOf DQ) (wsOf DQ) (j + 1))).flatMap sc) :: own wv 81 2 (wsOf DQ).length ((wsOf DQ).flatMap Wr.cells) :: grp ((List.zipWith rdI rps (crashK xs ys ds k)).eraseIdx k) :: blk bk (.cells #[dv] 73 (0, 0)) :: own dv 74 1 12 (rps.flatMap pc) :: Fr) _
        rw [e1]
        exact St.keep (Sb := [blk rb (.cells #[lv, wv, .bool (lostB DQ)] 78 (0, 0)), own lv 9 1 112 ((lK (settleK (fun i => crashH xs ys (atK ds k + i)) (kpOf DQ) (wsOf DQ) j)).flatMap sc), own wv 81 2 (wsOf DQ).length ((wsOf DQ).flatMap Wr.cells), grp ((List.zipWith rdI rps (crashK xs ys ds k)).eraseIdx k), blk bk (.cells #[dv] 73 (0, 0)), own dv 74 1 12 (rps.flatMap pc)]) hw (by repeat (first | exact Pks.nil _ | exact Pk.here _ | apply Pk.there | apply Pks.cons)) (by repeat (first | exact Tl.here _ | apply Tl.there))
    · first | have p21 := of_decide_eq_true h21 | have p21 := of_decide_eq_false h21 | have p21 := ndT h21 | have p21 := ndF h21 | have p21 := nbT h21 | have p21 := nbF h21 | have p21 := h21
      refine sc_false (by rfl) h21 ?_
      refine jc_exit ?_
      refine jk_then_exit ?_
      refine jk_then_exit ?_
      refine jk_block_exit ?_
      refine jk_then ?_
      refine sc_region ?_
      refine so_pure (opv_move (by rfl)) (by rfl) rfl ?_
      refine so_pure (opv_nilCheck (by rfl)) (by rfl) rfl ?_
      refine so_pure (opv_fieldAddr (by rfl) fld78_1) (by rfl) rfl ?_
      refine so_eff0 (eff_store (vs := [.slice none 0 0]) (by rfl) (by rfl) (by rfl) ti76 (by rfl) (by repeat (first | exact Pk.here _ | apply Pk.there)) (by exact Nat.le_of_ble_eq_true rfl) (by rfl)) (by rfl) ?_
      rintro _ _ ⟨rfl, rfl⟩
      refine jo_nil ?_
      refine jk_block ?_
      refine jk_then ?_
      refine sc_region ?_
      refine so_pure (opv_move (by rfl)) (by rfl) rfl ?_
      refine so_pure (opv_add (by rfl) (by rfl) (wrap64_ok (by omega))) (by rfl) rfl ?_
      refine so_pure (opv_assign (by rfl)) (by rfl) rfl ?_
      refine jo_nil ?_
      have ej : j = (wsOf DQ).length := by omega
      have hA : atK ds (k + 1) = atK ds k + j := by rw [atK_succ hDs, wlen_ws, ej]
      refine jk_round (k + 1) ⟨by omega, trivial⟩ (by show 12 - (k + 1) < 12 - k; omega) ⟨rfl, rfl, rfl, by rw [hA]; rfl, rfl, trivial⟩ (fun w hw => ?_)
      show St _ _ (blk bk (.cells #[dv] 73 (0, 0)) :: own dv 74 1 12 (rps.flatMap pc) :: grp (List.zipWith rdI rps (crashK xs ys ds (k + 1))) :: Fr) _
      rw [crashK_succ hDs]
      rw [ej] at hw
      have hw2 := rd_crash (St.keep (Sb := [blk rb (.cells #[lv, .slice none 0 0, .bool (lostB DQ)] 78 (0, 0)), own lv 9 1 112 ((lK (settleK (fun i => crashH xs ys (atK ds k + i)) (kpOf DQ) (wsOf DQ) (wsOf DQ).length)).flatMap sc)]) hw (by repeat (first | exact Pks.nil _ | exact Pk.here _ | apply Pk.there | apply Pks.cons)) (Tl.here _))
      have hw3 := rfocus_back hrb (by rw [crashK_len]; omega) (St.keep (Sb := [rdI rb (crash1 xs ys (atK ds k) DQ), grp ((List.zipWith rdI rps (crashK xs ys ds k)).eraseIdx k)]) hw2 (by repeat (first | exact Pks.nil _ | exact Pk.here _ | apply Pk.there | apply Pks.cons)) (Tl.here _))
      exact St.keep (Sb := [blk bk (.cells #[dv] 73 (0, 0)), own dv 74 1 12 (rps.flatMap pc), grp (List.zipWith rdI rps ((crashK xs ys ds k).set k (crash1 xs ys (atK ds k) DQ)))]) hw3 (by repeat (first | exact Pks.nil _ | exact Pk.here _ | apply Pk.there | apply Pks.cons)) (by repeat (first | exact Tl.here _ | apply Tl.there))
  · first | have p8 := of_decide_eq_true h8 | have p8 := of_decide_eq_false h8 | have p8 := ndT h8 | have p8 := ndF h8 | have p8 := nbT h8 | have p8 := nbF h8 | have p8 := h8
    refine sc_false (by rfl) h8 ?_
    refine jc_exit ?_
    refine jk_then_exit ?_
    refine jk_then_exit ?_
    refine jk_block_exit ?_
    refine jk_then ?_
    refine jc_seq ?_
    refine sc_region ?_
    refine so_pure (opv_assign (by rfl)) (by rfl) rfl ?_
    refine jo_nil ?_
    refine jk_then ?_
    refine jc_ret ?_
    refine jk_fn_ret rfl rfl (by rfl) (fun w hw => ?_)
    have ek : k = 12 := by omega
    subst ek
    exact ⟨rfl, hw⟩
end Go.Disks
