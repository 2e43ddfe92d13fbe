/- A part of a proof for the laws of the seat Ytnjhnpfippcacaa; it has no conditions of its own. -/
import Derived.Test.YtnjhnpfippcacaaPW14
import Derived.Test.YtnjhnpfippcacaaPPlain
import Derived.Test.YtnjhnpfippcacaaPFits
namespace Go.Pins
open Go Go.SL Go.Proofs
set_option maxHeartbeats 4000000 in
theorem law_each (w : World) (A : Option Addr) (n cap : Nat) (xs : List OpP) (hs : SlR w 35 7 OpP.cells A n xs) (hok : ∀ o ∈ xs, VolOk w o.v) (hmax : n ≤ 9223372036854775807) : Does Try.prog 5 #[.slice A n cap] w (fun v w' => v = .bool true ∧ St w Emp [] w') := by
  refine fn_body (fn := Try.f5) Try.func5 rfl [(0, .slice A n cap)] (by exact ⟨rfl, trivial⟩) rfl (St.start w) ?_
  refine jc_seq ?_
  refine sc_region ?_
  refine so_pure (opv_assign (by rfl)) (by rfl) rfl ?_
  refine jo_nil ?_
  refine jk_then ?_
  refine jc_seq ?_
  refine jc_seq ?_
  refine sc_region ?_
  refine so_pure (opv_move (by rfl)) (by rfl) rfl ?_
  refine so_pure (opv_len_slice (by rfl) Try.underlying22) (by rfl) rfl ?_
  refine so_pure (opv_cmp (by rfl) (by rfl) (by rfl)) (by rfl) rfl ?_
  refine jo_nil ?_
  refine jk_then ?_
  refine sk_split (x := 11) (by rfl) (fun h3 => ?_) (fun h3 => ?_)
  · first | have p3 := of_decide_eq_true h3 | have p3 := of_decide_eq_false h3 | have p3 := ndT h3 | have p3 := ndF h3 | have p3 := nbT h3 | have p3 := nbF h3 | have p3 := h3
    refine sc_true (by rfl) h3 ?_
    refine jc_seq ?_
    refine sc_region ?_
    refine so_eff (eff_call0 (G := fun u New => u = .bool true ∧ New = []) (by rfl) (by rfl) tx8 (by exact fun w1 hw1 => (live_spec w1).mono (fun _ _ ⟨hv, hst⟩ => ⟨[], ⟨hv, rfl⟩, hst⟩))) (by rfl) rfl ?_
    rintro _ _ ⟨_, ⟨rfl, rfl⟩, rfl⟩
    refine so_pure (opv_assign (by rfl)) (by rfl) rfl ?_
    refine jo_nil ?_
    refine jk_then ?_
    refine jc_ret ?_
    refine jk_then_ret ?_
    refine jk_fn_ret rfl rfl (by rfl) (fun w hw => ?_)
    exact ⟨rfl, hw.forget⟩
  · first | have p3 := of_decide_eq_true h3 | have p3 := of_decide_eq_false h3 | have p3 := ndT h3 | have p3 := ndF h3 | have p3 := nbT h3 | have p3 := nbF h3 | have p3 := h3
    refine sc_false (by rfl) h3 ?_
    refine jc_skip ?_
    refine jk_then ?_
    refine jc_seq ?_
    refine sc_region ?_
    refine so_eff (eff_call0 (G := fun v New => ∃ bp mb, v = .pointer (some ⟨bp, 0, none⟩) ∧ New = [bunch [], own (.slice none 0 0) 33 4 ([] : List Vol).length (([] : List Vol).flatMap Vol.cells), blk bp (.cells #[.map (some mb), .slice none 0 0] 48 (0, 0)), mapI kvQ mb (mp [])]) (by rfl) (by rfl) tx9 (by exact fun w1 hw1 => (new_spec w1).mono (fun _ _ ⟨bp, mb, hv, hst⟩ => ⟨_, ⟨bp, mb, hv, rfl⟩, (hst.own_nil 33 4).bunch_nil⟩))) (by rfl) rfl ?_
    rintro _ _ ⟨_, ⟨bp, mb, rfl, rfl⟩, rfl⟩
    refine so_pure (opv_assign (by rfl)) (by rfl) rfl ?_
    refine jo_nil ?_
    refine jk_then ?_
    refine jc_seq ?_
    refine jc_seq ?_
    refine sc_region ?_
    refine so_pure (opv_move (by rfl)) (by rfl) rfl ?_
    refine so_pure (opv_ptr_nil (by rfl) (by rfl) Try.underlying24) (by rfl) rfl ?_
    refine jo_nil ?_
    refine jk_then ?_
    refine sc_false (by rfl) rfl ?_
    refine jc_skip ?_
    refine jk_then ?_
    refine jc_seq ?_
    refine sc_region ?_
    refine so_pure (opv_assign (by rfl)) (by rfl) rfl ?_
    refine jo_nil ?_
    refine jk_then ?_
    refine jc_seq ?_
    refine sc_region ?_
    refine so_pure (opv_assign (by rfl)) (by rfl) rfl ?_
    refine jo_nil ?_
    refine jk_then ?_
    refine jc_seq ?_
    refine jc_seq ?_
    refine sc_region ?_
    refine so_pure (opv_assign (by rfl)) (by rfl) rfl ?_
    refine jo_nil ?_
    refine jk_then ?_
    refine jc_block ?_
    refine jc_loop (σ := Nat × RD × Value × List Vol × List (Nat × Obj) × List Rec × Nat × Nat) (fun (k, rd, wv, ws, fs, rs, retired, reaped) => [(0, .slice A n cap), (3, .pointer (some ⟨bp, 0, none⟩)), (4, .int .i64 retired), (5, .int .i64 reaped), (6, .int .i64 k)]) (fun (k, rd, wv, ws, fs, rs, retired, reaped) => [blk bp (.cells #[.map (some mb), wv] 48 (0, 0)), own wv 33 4 ws.length (ws.flatMap Vol.cells), bunch fs, mapI kvQ mb (mp rd)]) (fun (k, rd, wv, ws, fs, rs, retired, reaped) => (k ≤ n) ∧ (All2 (Vf w Emp fs) ws rs) ∧ (Dk rd) ∧ (∀ q, cntOf rd q ≤ k) ∧ (∀ q, cntOf rd q ≠ 0 → ∃ (j : Nat) (o : OpP), xs[j]? = some o ∧ o.key = q) ∧ (rs.length ≤ k) ∧ (reaped + rs.length = retired) ∧ (retired ≤ k)) (fun (k, rd, wv, ws, fs, rs, retired, reaped) => n - k) (0, [], .slice none 0 0, [], [], [], 0, 0) ⟨Nat.zero_le _, trivial, dk_nil, fun _ => Nat.le_refl _, fun _ h => absurd rfl h, Nat.le_refl _, rfl, Nat.le_refl _⟩ ⟨rfl, rfl, rfl, rfl, rfl, trivial⟩ (fun w hw => St.sel hw (by repeat (first | exact Pks.nil _ | exact Pk.here _ | apply Pk.there | apply Pks.cons))) ?_
    rintro ⟨k, rd, wv, ws, fs, rs, retired, reaped⟩ ⟨hk, ha, hd, hcnt, hin, hlen, hsum, hret⟩
    show Jc _ _ [(0, .slice A n cap), (3, .pointer (some ⟨bp, 0, none⟩)), (4, .int .i64 retired), (5, .int .i64 reaped), (6, .int .i64 k)] [blk bp (.cells #[.map (some mb), wv] 48 (0, 0)), own wv 33 4 ws.length (ws.flatMap Vol.cells), bunch fs, mapI kvQ mb (mp rd)] _
    refine jc_seq ?_
    refine jc_seq ?_
    refine sc_region ?_
    refine so_pure (opv_move (by rfl)) (by rfl) rfl ?_
    refine so_pure (opv_move (by rfl)) (by rfl) rfl ?_
    refine so_pure (opv_len_slice (by rfl) Try.underlying22) (by rfl) rfl ?_
    refine so_pure (opv_cmp (by rfl) (by rfl) (by rfl)) (by rfl) rfl ?_
    refine jo_nil ?_
    refine jk_then ?_
    refine sk_split (x := 19) (by rfl) (fun h11 => ?_) (fun h11 => ?_)
    · first | have p11 := of_decide_eq_true h11 | have p11 := of_decide_eq_false h11 | have p11 := ndT h11 | have p11 := ndF h11 | have p11 := nbT h11 | have p11 := nbF h11 | have p11 := h11
      refine sc_true (by rfl) h11 ?_
      refine jc_skip ?_
      refine jk_then ?_
      refine jc_seq ?_
      refine jc_block ?_
      refine jc_seq ?_
      have hlt : k < n := by omega
      obtain ⟨_, _, _, _, o, _, _, hx, _⟩ := hs.get hlt
      obtain ⟨r, hv⟩ := (hok o (List.mem_of_getElem? hx)).rec
      refine sc_region ?_
      refine so_pure (opv_move (by rfl)) (by rfl) rfl ?_
      refine so_pure (opv_move (by rfl)) (by rfl) rfl ?_
      refine so_pure (opv_indexAddr_slr (i := k) (by rfl) hs (by rfl) Try.underlying22 ti35 rfl hlt) (by rfl) rfl ?_
      refine so_pure (opv_load_agg_slr (u := o) OpP.cells_len (by rfl) ag35 ti35 rfl hs hx) (by rfl) rfl ?_
      refine so_eff (eff_alloc ti35 rfl) (by rfl) rfl ?_
      rintro _ _ ⟨b7, rfl, rfl⟩
      refine so_eff0 (eff_store_all (vs := o.cells) (by rfl) (by rfl) (by rfl) ti35 (by rfl) (by repeat (first | exact Pk.here _ | apply Pk.there)) (by rfl) (by rfl)) (by rfl) ?_
      rintro _ _ ⟨rfl, rfl⟩
      refine jo_nil ?_
      refine jk_then ?_
      refine jc_seq ?_
      refine sc_region ?_
      refine so_pure (opv_fieldAddr (by rfl) fld35_0) (by rfl) rfl ?_
      refine so_pure (opv_load (by rfl) na3 (rd_pk (by repeat (first | exact Pk.here _ | apply Pk.there))) (by rfl)) (by rfl) rfl ?_
      refine jo_nil ?_
      refine jk_then ?_
      refine jc_block ?_
      refine jc_seq ?_
      refine sc_region ?_
      refine so_pure (opv_cmp (by rfl) (by rfl) (by rfl)) (by rfl) rfl ?_
      refine so_pure (opv_assign (by rfl)) (by rfl) rfl ?_
      refine jo_nil ?_
      refine jk_then ?_
      refine sk_split (x := 33) (by rfl) (fun h18 => ?_) (fun h18 => ?_)
      · first | have p18 := of_decide_eq_true h18 | have p18 := of_decide_eq_false h18 | have p18 := ndT h18 | have p18 := ndF h18 | have p18 := nbT h18 | have p18 := nbF h18 | have p18 := h18
        refine sc_true (by rfl) h18 ?_
        refine sc_region ?_
        refine so_pure (opv_move (by rfl)) (by rfl) rfl ?_
        refine so_pure (opv_fieldAddr (by rfl) fld35_1) (by rfl) rfl ?_
        refine so_pure (opv_load (by rfl) na3 (rd_pk (by repeat (first | exact Pk.here _ | apply Pk.there))) (by rfl)) (by rfl) rfl ?_
        refine so_pure (opv_fieldAddr (by rfl) fld35_2) (by rfl) rfl ?_
        refine so_pure (opv_load (by rfl) na3 (rd_pk (by repeat (first | exact Pk.here _ | apply Pk.there))) (by rfl)) (by rfl) rfl ?_
        refine so_eff (eff_callF [blk bp (.cells #[.map (some mb), wv] 48 (0, 0)), mapI kvQ mb (mp rd)] (fl := []) (cl := []) (G := fun v Is' => v = .int .i64 0 ∧ Is' = [blk bp (.cells #[.map (some mb), wv] 48 (0, 0)), mapI kvQ mb (mp (setL rd (o.id, o.gen) (cntOf rd (o.id, o.gen) + 1)))]) (by rfl) (by rfl) tx10 (by repeat (first | exact Pks.nil _ | exact Pk.here _ | apply Pk.there | apply Pks.cons)) (by exact fun w1 hw1 => (pin_spec o.id o.gen hw1 (Nat.le_trans (hcnt _) (by omega))).mono (fun _ _ ⟨hv, hst⟩ => ⟨_, ⟨hv, rfl⟩, hst⟩))) (by rfl) rfl ?_
        rintro _ _ ⟨_, ⟨rfl, rfl⟩, rfl⟩
        refine jo_nil ?_
        refine jk_block ?_
        refine jk_block ?_
        refine jk_then ?_
        refine sc_region ?_
        refine so_pure (opv_move (by rfl)) (by rfl) rfl ?_
        refine so_pure (opv_add (by rfl) (by rfl) (wrap64_ok (by omega))) (by rfl) rfl ?_
        refine so_pure (opv_assign (by rfl)) (by rfl) rfl ?_
        refine jo_nil ?_
        refine jk_round (k + 1, setL rd (o.id, o.gen) (cntOf rd (o.id, o.gen) + 1), wv, ws, fs, rs, retired, reaped) ⟨by omega, ha, dk_set hd _ _, fun q => by rw [cnt_set]; split <;> have := hcnt q <;> have := hcnt (o.id, o.gen) <;> omega, fun q hq => by
          rw [cnt_set] at hq
          by_cases e : q = (o.id, o.gen)
          · exact ⟨k, o, hx, e.symm⟩
          · rw [if_neg e] at hq; exact hin q hq, by omega, hsum, by omega⟩ (by show n - (k + 1) < n - k; omega) ⟨rfl, rfl, rfl, rfl, rfl, trivial⟩ (fun w hw => ?_)
        show St _ _ [blk bp (.cells #[.map (some mb), (wv)] 48 (0, 0)), own (wv) 33 4 (ws).length ((ws).flatMap Vol.cells), bunch (fs), mapI kvQ mb (mp (setL rd (o.id, o.gen) (cntOf rd (o.id, o.gen) + 1)))] _
        exact St.sel hw (by repeat (first | exact Pks.nil _ | exact Pk.here _ | apply Pk.there | apply Pks.cons))
      · first | have p18 := of_decide_eq_true h18 | have p18 := of_decide_eq_false h18 | have p18 := ndT h18 | have p18 := ndF h18 | have p18 := nbT h18 | have p18 := nbF h18 | have p18 := h18
        refine sc_false (by rfl) h18 ?_
        refine jc_seq ?_
        refine sc_region ?_
        refine so_pure (opv_cmp (by rfl) (by rfl) (by rfl)) (by rfl) rfl ?_
        refine so_pure (opv_assign (by rfl)) (by rfl) rfl ?_
        refine jo_nil ?_
        refine jk_then ?_
        refine sk_split (x := 41) (by rfl) (fun h26 => ?_) (fun h26 => ?_)
        · first | have p26 := of_decide_eq_true h26 | have p26 := of_decide_eq_false h26 | have p26 := ndT h26 | have p26 := ndF h26 | have p26 := nbT h26 | have p26 := nbF h26 | have p26 := h26
          refine sc_true (by rfl) h26 ?_
          refine sc_region ?_
          refine so_pure (opv_move (by rfl)) (by rfl) rfl ?_
          refine so_pure (opv_fieldAddr (by rfl) fld35_1) (by rfl) rfl ?_
          refine so_pure (opv_load (by rfl) na3 (rd_pk (by repeat (first | exact Pk.here _ | apply Pk.there))) (by rfl)) (by rfl) rfl ?_
          refine so_pure (opv_fieldAddr (by rfl) fld35_2) (by rfl) rfl ?_
          refine so_pure (opv_load (by rfl) na3 (rd_pk (by repeat (first | exact Pk.here _ | apply Pk.there))) (by rfl)) (by rfl) rfl ?_
          refine so_eff (eff_callF [blk bp (.cells #[.map (some mb), wv] 48 (0, 0)), mapI kvQ mb (mp rd)] (fl := []) (cl := []) (G := fun v Is' => v = .int .i64 (if cntOf rd (o.id, o.gen) = 0 then 9 else 0) ∧ Is' = [blk bp (.cells #[.map (some mb), wv] 48 (0, 0)), mapI kvQ mb (mp (unp rd (o.id, o.gen)))]) (by rfl) (by rfl) tx12 (by repeat (first | exact Pks.nil _ | exact Pk.here _ | apply Pk.there | apply Pks.cons)) (by exact fun w1 hw1 => (unpin_spec o.id o.gen hw1 (Nat.le_trans (hcnt _) (by omega))).mono (fun _ _ ⟨hv, hst⟩ => ⟨_, ⟨hv, rfl⟩, hst⟩))) (by rfl) rfl ?_
          rintro _ _ ⟨_, ⟨rfl, rfl⟩, rfl⟩
          refine jo_nil ?_
          refine jk_block ?_
          refine jk_block ?_
          refine jk_then ?_
          refine sc_region ?_
          refine so_pure (opv_move (by rfl)) (by rfl) rfl ?_
          refine so_pure (opv_add (by rfl) (by rfl) (wrap64_ok (by omega))) (by rfl) rfl ?_
          refine so_pure (opv_assign (by rfl)) (by rfl) rfl ?_
          refine jo_nil ?_
          refine jk_round (k + 1, unp rd (o.id, o.gen), wv, ws, fs, rs, retired, reaped) ⟨by omega, ha, dk_unp hd _, fun q => by rw [cnt_unp hd]; split <;> have := hcnt q <;> have := hcnt (o.id, o.gen) <;> omega, fun q hq => by
            rw [cnt_unp hd] at hq
            by_cases e : q = (o.id, o.gen)
            · exact ⟨k, o, hx, e.symm⟩
            · rw [if_neg e] at hq; exact hin q hq, by omega, hsum, by omega⟩ (by show n - (k + 1) < n - k; omega) ⟨rfl, rfl, rfl, rfl, rfl, trivial⟩ (fun w hw => ?_)
          show St _ _ [blk bp (.cells #[.map (some mb), (wv)] 48 (0, 0)), own (wv) 33 4 (ws).length ((ws).flatMap Vol.cells), bunch (fs), mapI kvQ mb (mp (unp rd (o.id, o.gen)))] _
          exact St.sel hw (by repeat (first | exact Pks.nil _ | exact Pk.here _ | apply Pk.there | apply Pks.cons))
        · first | have p26 := of_decide_eq_true h26 | have p26 := of_decide_eq_false h26 | have p26 := ndT h26 | have p26 := ndF h26 | have p26 := nbT h26 | have p26 := nbF h26 | have p26 := h26
          refine sc_false (by rfl) h26 ?_
          refine jc_seq ?_
          refine sc_region ?_
          refine so_pure (opv_cmp (by rfl) (by rfl) (by rfl)) (by rfl) rfl ?_
          refine so_pure (opv_assign (by rfl)) (by rfl) rfl ?_
          refine jo_nil ?_
          refine jk_then ?_
          refine sk_split (x := 49) (by rfl) (fun h34 => ?_) (fun h34 => ?_)
          · first | have p34 := of_decide_eq_true h34 | have p34 := of_decide_eq_false h34 | have p34 := ndT h34 | have p34 := ndF h34 | have p34 := nbT h34 | have p34 := nbF h34 | have p34 := h34
            refine sc_true (by rfl) h34 ?_
            refine jc_seq ?_
            refine sc_region ?_
            refine so_pure (opv_move (by rfl)) (by rfl) rfl ?_
            refine so_pure (opv_fieldAddr (by rfl) fld35_3) (by rfl) rfl ?_
            refine so_pure (opv_load_agg (vs := o.v.cells) (by rfl) ag33 ti33 (rd_pk (by repeat (first | exact Pk.here _ | apply Pk.there))) (by exact ⟨rfl, rfl, rfl, rfl, trivial⟩) rfl) (by rfl) rfl ?_
            refine so_eff (eff_callF [blk bp (.cells #[.map (some mb), wv] 48 (0, 0)), own wv 33 4 ws.length (ws.flatMap Vol.cells), bunch fs] (fl := []) (cl := []) (G := fun v Is' => ∃ wv' ws' fs', v = .int .i64 (retE rs r) ∧ (∀ b o, getL fs b = some o → getL fs' b = some o) ∧ All2 (Vf w Emp fs') ws' (retL rs r) ∧ Is' = [blk bp (.cells #[.map (some mb), wv'] 48 (0, 0)), own wv' 33 4 ws'.length (ws'.flatMap Vol.cells), bunch fs']) (by rfl) (by rfl) tx14 (by repeat (first | exact Pks.nil _ | exact Pk.here _ | apply Pk.there | apply Pks.cons)) (by exact fun w1 hw1 => (retire2 o.v r hw1 ha (hv fs) (by rw [ha.len]; omega)).mono (fun _ _ ⟨wv', ws', fs', h1, h2, h3, hst⟩ => ⟨_, ⟨wv', ws', fs', h1, h2, h3, rfl⟩, hst⟩))) (by rfl) rfl ?_
            rintro _ _ ⟨_, ⟨wv, ws, fs, rfl, hsub, ha, rfl⟩, rfl⟩
            refine so_pure (opv_cmp (by rfl) (by rfl) (by rfl)) (by rfl) rfl ?_
            refine jo_nil ?_
            refine jk_then ?_
            refine sk_split (x := 55) (by rfl) (fun h38 => ?_) (fun h38 => ?_)
            · first | have p38 := of_decide_eq_true h38 | have p38 := of_decide_eq_false h38 | have p38 := ndT h38 | have p38 := ndF h38 | have p38 := nbT h38 | have p38 := nbF h38 | have p38 := h38
              refine sc_true (by rfl) h38 ?_
              refine sc_region ?_
              refine so_pure (opv_move (by rfl)) (by rfl) rfl ?_
              refine so_pure (opv_add (by rfl) (by rfl) (wrap64_ok (by omega))) (by rfl) rfl ?_
              refine so_pure (opv_assign (by rfl)) (by rfl) rfl ?_
              refine jo_nil ?_
              refine jk_block ?_
              refine jk_block ?_
              refine jk_then ?_
              refine sc_region ?_
              refine so_pure (opv_move (by rfl)) (by rfl) rfl ?_
              refine so_pure (opv_add (by rfl) (by rfl) (wrap64_ok (by omega))) (by rfl) rfl ?_
              refine so_pure (opv_assign (by rfl)) (by rfl) rfl ?_
              refine jo_nil ?_
              have hq := retL_len0 p38
              refine jk_round (k + 1, rd, wv, ws, fs, retL rs r, retired + 1, reaped) ⟨by omega, ha, hd, fun q => by have := hcnt q; omega, hin, by omega, by omega, by omega⟩ (by show n - (k + 1) < n - k; omega) ⟨rfl, rfl, rfl, rfl, rfl, trivial⟩ (fun w hw => ?_)
              show St _ _ [blk bp (.cells #[.map (some mb), (wv)] 48 (0, 0)), own (wv) 33 4 (ws).length ((ws).flatMap Vol.cells), bunch (fs), mapI kvQ mb (mp (rd))] _
              exact St.sel hw (by repeat (first | exact Pks.nil _ | exact Pk.here _ | apply Pk.there | apply Pks.cons))
            · first | have p38 := of_decide_eq_true h38 | have p38 := of_decide_eq_false h38 | have p38 := ndT h38 | have p38 := ndF h38 | have p38 := nbT h38 | have p38 := nbF h38 | have p38 := h38
              refine sc_false (by rfl) h38 ?_
              refine jc_skip ?_
              refine jk_block ?_
              refine jk_block ?_
              refine jk_then ?_
              refine sc_region ?_
              refine so_pure (opv_move (by rfl)) (by rfl) rfl ?_
              refine so_pure (opv_add (by rfl) (by rfl) (wrap64_ok (by omega))) (by rfl) rfl ?_
              refine so_pure (opv_assign (by rfl)) (by rfl) rfl ?_
              refine jo_nil ?_
              have hq := retL_len1 p38
              refine jk_round (k + 1, rd, wv, ws, fs, retL rs r, retired, reaped) ⟨by omega, ha, hd, fun q => by have := hcnt q; omega, hin, by omega, by omega, by omega⟩ (by show n - (k + 1) < n - k; omega) ⟨rfl, rfl, rfl, rfl, rfl, trivial⟩ (fun w hw => ?_)
              show St _ _ [blk bp (.cells #[.map (some mb), (wv)] 48 (0, 0)), own (wv) 33 4 (ws).length ((ws).flatMap Vol.cells), bunch (fs), mapI kvQ mb (mp (rd))] _
              exact St.sel hw (by repeat (first | exact Pks.nil _ | exact Pk.here _ | apply Pk.there | apply Pks.cons))
          · first | have p34 := of_decide_eq_true h34 | have p34 := of_decide_eq_false h34 | have p34 := ndT h34 | have p34 := ndF h34 | have p34 := nbT h34 | have p34 := nbF h34 | have p34 := h34
            refine sc_false (by rfl) h34 ?_
            refine sc_region ?_
            refine so_pure (opv_move (by rfl)) (by rfl) rfl ?_
            refine so_pure (opv_move (by rfl)) (by rfl) rfl ?_
            refine so_eff (eff_callF [blk bp (.cells #[.map (some mb), wv] 48 (0, 0)), own wv 33 4 ws.length (ws.flatMap Vol.cells), mapI kvQ mb (mp rd)] (fl := []) (cl := []) (G := fun v Is' => ∃ wv' ws' zs, All2 (Vf w Emp fs) ws' (rs.filter (fun y => !noR rd y)) ∧ All2 (Vf w Emp fs) zs (rs.filter (noR rd)) ∧ Is' = [blk bp (.cells #[.map (some mb), wv'] 48 (0, 0)), own wv' 33 4 ws'.length (ws'.flatMap Vol.cells), mapI kvQ mb (mp rd), own v 33 4 zs.length (zs.flatMap Vol.cells)]) (by rfl) (by rfl) tx17 (by repeat (first | exact Pks.nil _ | exact Pk.here _ | apply Pk.there | apply Pks.cons)) (by exact fun w1 hw1 => (reap2 hw1 ha (by rw [ha.len]; omega)).mono (fun _ _ ⟨wv', ws', zs, h1, h2, hst⟩ => ⟨_, ⟨wv', ws', zs, h1, h2, rfl⟩, hst⟩))) (by rfl) rfl ?_
            rintro lv _ ⟨_, ⟨wv, ws, l, ha, hl, rfl⟩, rfl⟩
            have hll := hl.len
            have hpa := len_parts rs (noR rd)
            refine so_pure (opv_len_own (by rfl) Try.underlying28 (by repeat (first | exact Pk.here _ | apply Pk.there))) (by rfl) rfl ?_
            refine so_pure (opv_add (by rfl) (by rfl) (wrap64_ok (by omega))) (by rfl) rfl ?_
            refine so_pure (opv_assign (by rfl)) (by rfl) rfl ?_
            refine jo_nil ?_
            refine jk_block ?_
            refine jk_block ?_
            refine jk_then ?_
            refine sc_region ?_
            refine so_pure (opv_move (by rfl)) (by rfl) rfl ?_
            refine so_pure (opv_add (by rfl) (by rfl) (wrap64_ok (by omega))) (by rfl) rfl ?_
            refine so_pure (opv_assign (by rfl)) (by rfl) rfl ?_
            refine jo_nil ?_
            refine jk_round (k + 1, rd, wv, ws, fs, rs.filter (fun y => !noR rd y), retired, reaped + l.length) ⟨by omega, ha, hd, fun q => by have := hcnt q; omega, hin, by omega, by omega, by omega⟩ (by show n - (k + 1) < n - k; omega) ⟨rfl, rfl, rfl, rfl, rfl, trivial⟩ (fun w hw => ?_)
            show St _ _ [blk bp (.cells #[.map (some mb), (wv)] 48 (0, 0)), own (wv) 33 4 (ws).length ((ws).flatMap Vol.cells), bunch (fs), mapI kvQ mb (mp (rd))] _
            exact St.sel hw (by repeat (first | exact Pks.nil _ | exact Pk.here _ | apply Pk.there | apply Pks.cons))
    · first | have p11 := of_decide_eq_true h11 | have p11 := of_decide_eq_false h11 | have p11 := ndT h11 | have p11 := ndF h11 | have p11 := nbT h11 | have p11 := nbF h11 | have p11 := h11
      refine sc_false (by rfl) h11 ?_
      refine jc_exit ?_
      refine jk_then_exit ?_
      refine jk_then_exit ?_
      refine jk_block_exit ?_
      refine jk_then ?_
      refine jc_seq ?_
      refine jc_seq ?_
      refine sc_region ?_
      refine so_pure (opv_assign (by rfl)) (by rfl) rfl ?_
      refine jo_nil ?_
      refine jk_then ?_
      refine jc_block ?_
      refine jc_loop (σ := Nat × RD) (fun (j, rd) => [(0, .slice A n cap), (3, .pointer (some ⟨bp, 0, none⟩)), (4, .int .i64 retired), (5, .int .i64 reaped), (8, .int .i64 j)]) (fun (j, rd) => [blk bp (.cells #[.map (some mb), wv] 48 (0, 0)), own wv 33 4 ws.length (ws.flatMap Vol.cells), bunch fs, mapI kvQ mb (mp rd)]) (fun (j, rd) => (j ≤ n) ∧ (Dk rd) ∧ (∀ q, cntOf rd q ≤ 40) ∧ (∀ q, cntOf rd q ≠ 0 → ∃ (j' : Nat) (o : OpP), j ≤ j' ∧ xs[j']? = some o ∧ o.key = q)) (fun (j, rd) => n - j) (0, rd) ⟨Nat.zero_le _, hd, fun q => by have := hcnt q; omega, fun q hq => by obtain ⟨j', o, h1, h2⟩ := hin q hq; exact ⟨j', o, Nat.zero_le _, h1, h2⟩⟩ ⟨rfl, rfl, rfl, rfl, rfl, trivial⟩ (fun w hw => St.sel hw (by repeat (first | exact Pks.nil _ | exact Pk.here _ | apply Pk.there | apply Pks.cons))) ?_
      rintro ⟨j, rd⟩ ⟨hj, hd, hcnt, hin⟩
      show Jc _ _ [(0, .slice A n cap), (3, .pointer (some ⟨bp, 0, none⟩)), (4, .int .i64 retired), (5, .int .i64 reaped), (8, .int .i64 j)] [blk bp (.cells #[.map (some mb), wv] 48 (0, 0)), own wv 33 4 ws.length (ws.flatMap Vol.cells), bunch fs, mapI kvQ mb (mp rd)] _
      refine jc_seq ?_
      refine jc_seq ?_
      refine sc_region ?_
      refine so_pure (opv_move (by rfl)) (by rfl) rfl ?_
      refine so_pure (opv_move (by rfl)) (by rfl) rfl ?_
      refine so_pure (opv_len_slice (by rfl) Try.underlying22) (by rfl) rfl ?_
      refine so_pure (opv_cmp (by rfl) (by rfl) (by rfl)) (by rfl) rfl ?_
      refine jo_nil ?_
      refine jk_then ?_
      refine sk_split (x := 61) (by rfl) (fun h54 => ?_) (fun h54 => ?_)
      · first | have p54 := of_decide_eq_true h54 | have p54 := of_decide_eq_false h54 | have p54 := ndT h54 | have p54 := ndF h54 | have p54 := nbT h54 | have p54 := nbF h54 | have p54 := h54
        refine sc_true (by rfl) h54 ?_
        refine jc_skip ?_
        refine jk_then ?_
        refine jc_seq ?_
        refine jc_block ?_
        refine jc_block ?_
        have hlt : j < n := by omega
        obtain ⟨_, _, _, _, o, _, _, hx, _⟩ := hs.get hlt
        refine jc_loop (σ := RD) (fun rd => [(0, .slice A n cap), (3, .pointer (some ⟨bp, 0, none⟩)), (4, .int .i64 retired), (5, .int .i64 reaped), (8, .int .i64 j)]) (fun rd => [blk bp (.cells #[.map (some mb), wv] 48 (0, 0)), own wv 33 4 ws.length (ws.flatMap Vol.cells), bunch fs, mapI kvQ mb (mp rd)]) (fun rd => (Dk rd) ∧ (∀ q, cntOf rd q ≤ 40) ∧ (∀ q, cntOf rd q ≠ 0 → ∃ (j' : Nat) (o : OpP), j ≤ j' ∧ xs[j']? = some o ∧ o.key = q)) (fun rd => cntOf rd (o.id, o.gen)) rd ⟨hd, hcnt, hin⟩ ⟨rfl, rfl, rfl, rfl, rfl, trivial⟩ (fun w hw => St.sel hw (by repeat (first | exact Pks.nil _ | exact Pk.here _ | apply Pk.there | apply Pks.cons))) ?_
        rintro rd ⟨hd, hcnt, hin⟩
        show Jc _ _ [(0, .slice A n cap), (3, .pointer (some ⟨bp, 0, none⟩)), (4, .int .i64 retired), (5, .int .i64 reaped), (8, .int .i64 j)] [blk bp (.cells #[.map (some mb), wv] 48 (0, 0)), own wv 33 4 ws.length (ws.flatMap Vol.cells), bunch fs, mapI kvQ mb (mp rd)] _
        refine jc_seq ?_
        refine jc_seq ?_
        refine so_draw [] (by kernel_rfl) (by kernel_rfl) (by kernel_rfl) rfl (by rfl) (fun hap htm => ?_)
        refine da_any hap htm (i := 0) (by rfl) (by kernel_rfl) (by rfl) (listed' := #[true, false, false, false, false, false, false, false, false, false, false, false, false]) (by rfl) (fun _ => (opv_move (by rfl))) (by rfl) rfl ?_
        refine da_any hap htm (i := 1) (by rfl) (by kernel_rfl) (by rfl) (listed' := #[true, true, false, false, false, false, false, false, false, false, false, false, false]) (by rfl) (fun _ => (opv_move (by rfl))) (by rfl) rfl ?_
        refine da_any hap htm (i := 2) (by rfl) (by kernel_rfl) (by rfl) (listed' := #[true, true, true, false, false, false, false, false, false, false, false, false, false]) (by rfl) (fun _ => (opv_move (by rfl))) (by rfl) rfl ?_
        refine da_any hap htm (i := 3) (by rfl) (by kernel_rfl) (by rfl) (listed' := #[true, true, true, true, false, false, false, false, false, false, false, false, false]) (by rfl) (fun _ => (opv_indexAddr_slr (i := j) (by rfl) hs (by rfl) Try.underlying22 ti35 rfl hlt)) (by rfl) rfl ?_
        refine da_any hap htm (i := 4) (by rfl) (by kernel_rfl) (by rfl) (listed' := #[true, true, true, true, true, false, false, false, false, false, false, false, false]) (by rfl) (fun _ => (opv_fieldAddr (by rfl) fld35_1)) (by rfl) rfl ?_
        refine da_now [11, 12] hap htm (i := 5) (by rfl) (by kernel_rfl) (by rfl) (listed' := #[true, true, true, true, true, true, false, false, false, false, false, false, false]) (by rfl) (by kernel_rfl) (by kernel_rfl) (opv_load_slr (u := o) (fo := 1) (v := .int .i64 o.id) (by rfl) na3 rfl hs hx rfl) (by rfl) rfl ?_
        refine da_any hap htm (i := 6) (by rfl) (by kernel_rfl) (by rfl) (listed' := #[true, true, true, true, true, true, true, false, false, false, false, false, false]) (by rfl) (fun _ => (opv_move (by rfl))) (by rfl) rfl ?_
        refine da_any hap htm (i := 7) (by rfl) (by kernel_rfl) (by rfl) (listed' := #[true, true, true, true, true, true, true, true, false, false, false, false, false]) (by rfl) (fun _ => (opv_move (by rfl))) (by rfl) rfl ?_
        refine da_any hap htm (i := 8) (by rfl) (by kernel_rfl) (by rfl) (listed' := #[true, true, true, true, true, true, true, true, true, false, false, false, false]) (by rfl) (fun _ => (opv_indexAddr_slr (i := j) (by rfl) hs (by rfl) Try.underlying22 ti35 rfl hlt)) (by rfl) rfl ?_
        refine da_any hap htm (i := 9) (by rfl) (by kernel_rfl) (by rfl) (listed' := #[true, true, true, true, true, true, true, true, true, true, false, false, false]) (by rfl) (fun _ => (opv_fieldAddr (by rfl) fld35_2)) (by rfl) rfl ?_
        refine da_now [11, 12] hap htm (i := 10) (by rfl) (by kernel_rfl) (by rfl) (listed' := #[true, true, true, true, true, true, true, true, true, true, true, false, false]) (by rfl) (by kernel_rfl) (by kernel_rfl) (opv_load_slr (u := o) (fo := 2) (v := .int .i64 o.gen) (by rfl) na3 rfl hs hx rfl) (by rfl) rfl ?_
        refine da_eff (i := 11) (by rfl) (by kernel_rfl) (by rfl) (listed' := #[true, true, true, true, true, true, true, true, true, true, true, true, false]) (by rfl) (eff_callF [blk bp (.cells #[.map (some mb), wv] 48 (0, 0)), mapI kvQ mb (mp rd)] (fl := []) (cl := []) (G := fun v Is' => v = .int .i64 (if cntOf rd (o.id, o.gen) = 0 then 9 else 0) ∧ Is' = [blk bp (.cells #[.map (some mb), wv] 48 (0, 0)), mapI kvQ mb (mp (unp rd (o.id, o.gen)))]) (by rfl) (by rfl) tx12 (by repeat (first | exact Pks.nil _ | exact Pk.here _ | apply Pk.there | apply Pks.cons)) (by exact fun w1 hw1 => (unpin_spec o.id o.gen hw1 (Nat.le_trans (hcnt _) (by omega))).mono (fun _ _ ⟨hv, hst⟩ => ⟨_, ⟨hv, rfl⟩, hst⟩))) (fun _ _ _ _ hw => cw_nil hw) (by rfl) rfl ?_
        rintro _ _ ⟨_, ⟨rfl, rfl⟩, rfl⟩
        refine da_any hap htm (i := 12) (by rfl) (by kernel_rfl) (by rfl) (listed' := #[true, true, true, true, true, true, true, true, true, true, true, true, true]) (by rfl) (fun _ => (opv_cmp (by rfl) (by rfl) (by rfl))) (by rfl) rfl ?_
        refine da_done (by kernel_rfl) ?_
        refine jk_then ?_
        refine sk_split (x := 76) (by rfl) (fun h64 => ?_) (fun h64 => ?_)
        · first | have p64 := of_decide_eq_true h64 | have p64 := of_decide_eq_false h64 | have p64 := ndT h64 | have p64 := ndF h64 | have p64 := nbT h64 | have p64 := nbF h64 | have p64 := h64
          refine sc_true (by rfl) h64 ?_
          refine jc_skip ?_
          refine jk_then ?_
          refine jc_block ?_
          refine jc_skip ?_
          refine jk_block ?_
          have hc0 := unp_ok p64
          refine jk_round (unp rd (o.id, o.gen)) ⟨dk_unp hd _, fun q => by rw [cnt_unp hd]; split <;> have := hcnt q <;> have := hcnt (o.id, o.gen) <;> omega, fun q hq => by
            rw [cnt_unp hd] at hq
            refine hin q ?_
            split at hq
            · rename_i e; rw [e]; omega
            · exact hq⟩ (by show cntOf (unp rd (o.id, o.gen)) (o.id, o.gen) < cntOf rd (o.id, o.gen); (rw [cnt_unp hd, if_pos rfl]; omega)) ⟨rfl, rfl, rfl, rfl, rfl, trivial⟩ (fun w hw => ?_)
          show St _ _ [blk bp (.cells #[.map (some mb), wv] 48 (0, 0)), own wv 33 4 ws.length (ws.flatMap Vol.cells), bunch fs, mapI kvQ mb (mp (unp rd (o.id, o.gen)))] _
          exact St.sel hw (by repeat (first | exact Pks.nil _ | exact Pk.here _ | apply Pk.there | apply Pks.cons))
        · first | have p64 := of_decide_eq_true h64 | have p64 := of_decide_eq_false h64 | have p64 := ndT h64 | have p64 := ndF h64 | have p64 := nbT h64 | have p64 := nbF h64 | have p64 := h64
          refine sc_false (by rfl) h64 ?_
          refine jc_exit ?_
          refine jk_then_exit ?_
          refine jk_then_exit ?_
          refine jk_block_exit ?_
          refine jk_block ?_
          refine jk_then ?_
          refine sc_region ?_
          refine so_pure (opv_move (by rfl)) (by rfl) rfl ?_
          refine so_pure (opv_add (by rfl) (by rfl) (wrap64_ok (by omega))) (by rfl) rfl ?_
          refine so_pure (opv_assign (by rfl)) (by rfl) rfl ?_
          refine jo_nil ?_
          have hc0 := unp_no p64
          refine jk_round (j + 1, unp rd (o.id, o.gen)) ⟨by omega, dk_unp hd _, fun q => by rw [cnt_unp hd]; split <;> have := hcnt q <;> omega, fun q hq => by
            rw [cnt_unp hd] at hq
            by_cases e : q = (o.id, o.gen)
            · rw [if_pos e, hc0] at hq; exact absurd rfl hq
            · rw [if_neg e] at hq
              obtain ⟨j', o2, h1, h2, h3⟩ := hin q hq
              refine ⟨j', o2, ?_, h2, h3⟩
              rcases Nat.lt_or_ge j j' with h4 | h4
              · omega
              · obtain rfl : j' = j := by omega
                rw [hx] at h2; obtain rfl := Option.some.inj h2
                exact absurd h3.symm e⟩ (by show n - (j + 1) < n - j; omega) ⟨rfl, rfl, rfl, rfl, rfl, trivial⟩ (fun w hw => ?_)
          show St _ _ [blk bp (.cells #[.map (some mb), wv] 48 (0, 0)), own wv 33 4 ws.length (ws.flatMap Vol.cells), bunch fs, mapI kvQ mb (mp (unp rd (o.id, o.gen)))] _
          exact St.sel hw (by repeat (first | exact Pks.nil _ | exact Pk.here _ | apply Pk.there | apply Pks.cons))
      · first | have p54 := of_decide_eq_true h54 | have p54 := of_decide_eq_false h54 | have p54 := ndT h54 | have p54 := ndF h54 | have p54 := nbT h54 | have p54 := nbF h54 | have p54 := h54
        refine sc_false (by rfl) h54 ?_
        refine jc_exit ?_
        refine jk_then_exit ?_
        refine jk_then_exit ?_
        refine jk_block_exit ?_
        refine jk_then ?_
        refine jc_seq ?_
        have hz0 : ∀ q, cntOf rd q = 0 := fun q => Decidable.byContradiction fun hq => by
          obtain ⟨j', o, h1, h2, _⟩ := hin q hq
          have := (List.getElem?_eq_some_iff.1 h2).1
          have := hs.1
          omega
        refine sc_region ?_
        refine so_pure (opv_move (by rfl)) (by rfl) rfl ?_
        refine so_pure (opv_move (by rfl)) (by rfl) rfl ?_
        refine so_eff (eff_callF [blk bp (.cells #[.map (some mb), wv] 48 (0, 0)), own wv 33 4 ws.length (ws.flatMap Vol.cells), mapI kvQ mb (mp rd)] (fl := []) (cl := []) (G := fun v Is' => ∃ wv' ws' zs, All2 (Vf w Emp fs) ws' (rs.filter (fun y => !noR rd y)) ∧ All2 (Vf w Emp fs) zs (rs.filter (noR rd)) ∧ Is' = [blk bp (.cells #[.map (some mb), wv'] 48 (0, 0)), own wv' 33 4 ws'.length (ws'.flatMap Vol.cells), mapI kvQ mb (mp rd), own v 33 4 zs.length (zs.flatMap Vol.cells)]) (by rfl) (by rfl) tx17 (by repeat (first | exact Pks.nil _ | exact Pk.here _ | apply Pk.there | apply Pks.cons)) (by exact fun w1 hw1 => (reap2 hw1 ha (by rw [ha.len]; omega)).mono (fun _ _ ⟨wv', ws', zs, h1, h2, hst⟩ => ⟨_, ⟨wv', ws', zs, h1, h2, rfl⟩, hst⟩))) (by rfl) rfl ?_
        rintro lv _ ⟨_, ⟨wv, ws, l, ha, hl, rfl⟩, rfl⟩
        have hll := hl.len
        have hpa := len_parts rs (noR rd)
        rw [show rs.filter (noR rd) = rs from List.filter_eq_self.2 (fun z _ => all_noR hz0 z)] at hll hpa
        have hk0 : rs.filter (fun y => !noR rd y) = [] := List.eq_nil_of_length_eq_zero (by omega)
        rw [hk0] at ha
        refine so_pure (opv_len_own (by rfl) Try.underlying28 (by repeat (first | exact Pk.here _ | apply Pk.there))) (by rfl) rfl ?_
        refine so_pure (opv_add (by rfl) (by rfl) (wrap64_ok (by omega))) (by rfl) rfl ?_
        refine so_pure (opv_assign (by rfl)) (by rfl) rfl ?_
        refine jo_nil ?_
        refine jk_then ?_
        refine jc_seq ?_
        refine sc_region ?_
        refine so_pure (opv_move (by rfl)) (by rfl) rfl ?_
        refine so_pure (opv_move (by rfl)) (by rfl) rfl ?_
        refine so_pure (opv_cmp (b := true) (by rfl) (by rfl) (by exact congrArg some (decide_eq_true (by omega)))) (by rfl) rfl ?_
        refine so_pure (opv_move (by rfl)) (by rfl) rfl ?_
        refine so_pure (opv_move (by rfl)) (wtd_run rfl rfl (by rfl) rfl) rfl ?_
        refine so_eff (eff_callF [blk bp (.cells #[.map (some mb), wv] 48 (0, 0)), own wv 33 4 ws.length (ws.flatMap Vol.cells), bunch fs] (fl := []) (cl := []) (G := fun v Is' => ∃ fs' zs, (∀ b o, getL fs b = some o → getL fs' b = some o) ∧ All2 (Vf w Emp fs') zs [] ∧ Is' = [blk bp (.cells #[.map (some mb), wv] 48 (0, 0)), own wv 33 4 ws.length (ws.flatMap Vol.cells), bunch fs', own v 33 4 ws.length (zs.flatMap Vol.cells)]) (by rfl) (by rfl) tx19 (by repeat (first | exact Pks.nil _ | exact Pk.here _ | apply Pk.there | apply Pks.cons)) (by exact fun w1 hw1 => (waits_spec hw1 ha (by rw [ha.len]; simp)).mono (fun _ _ ⟨fs', zs, h1, h2, hst⟩ => ⟨_, ⟨fs', zs, h1, h2, rfl⟩, hst⟩))) (wtd_run rfl rfl (by rfl) rfl) rfl ?_
        rintro qv _ ⟨_, ⟨fs, q, hsub, hq, rfl⟩, rfl⟩
        replace ha := ha.mono (Vf.more hsub)
        refine so_pure (opv_len_own (by rfl) Try.underlying28 (by repeat (first | exact Pk.here _ | apply Pk.there))) (wtd_run rfl rfl (by rfl) rfl) rfl ?_
        refine so_pure (opv_cmp (b := true) (by rfl) (by rfl) (by rw [ha.len]; rfl)) (wtd_run rfl rfl (by rfl) rfl) rfl ?_
        refine so_pure (sv_pick_t (by rfl) rfl (by rfl)) (by rfl) rfl ?_
        refine so_pure (opv_move (by rfl)) (by rfl) rfl ?_
        refine so_eff (eff_call0 (G := fun u New => u = .bool true ∧ New = []) (by rfl) (by rfl) tx8 (by exact fun w1 hw1 => (live_spec w1).mono (fun _ _ ⟨hv, hst⟩ => ⟨[], ⟨hv, rfl⟩, hst⟩))) (wtd_run rfl rfl (by rfl) rfl) rfl ?_
        rintro _ _ ⟨_, ⟨rfl, rfl⟩, rfl⟩
        refine so_pure (sv_pick_t (by rfl) rfl (by rfl)) (by rfl) rfl ?_
        refine so_pure (opv_assign (by rfl)) (by rfl) rfl ?_
        refine jo_nil ?_
        refine jk_then ?_
        refine jc_ret ?_
        refine jk_fn_ret rfl rfl (by rfl) (fun w hw => ?_)
        exact ⟨rfl, hw.forget⟩
end Go.Pins
