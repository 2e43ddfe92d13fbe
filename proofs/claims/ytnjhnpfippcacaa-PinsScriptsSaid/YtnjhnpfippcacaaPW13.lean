/- A part of a proof for the laws of the seat Ytnjhnpfippcacaa; it has no conditions of its own. -/
import Derived.Test.YtnjhnpfippcacaaPW12
import Derived.Test.YtnjhnpfippcacaaPCons
namespace Go.Pins
open Go Go.SL Go.Proofs
set_option maxHeartbeats 4000000 in
theorem live_spec (w : World) : Does Try.prog 8 #[] w (fun v w' => v = .bool true ∧ St w Emp [] w') := by
  refine fn_body (fn := Try.f8) Try.func8 rfl [] (by exact trivial) rfl (St.start w) ?_
  refine jc_seq ?_
  refine sc_region ?_
  refine so_pure (opv_assign (by rfl)) (by rfl) rfl ?_
  refine jo_nil ?_
  refine jk_then ?_
  refine jc_seq ?_
  refine sc_region ?_
  refine so_eff (eff_call0 (G := fun v New => ∃ bp mb, v = .pointer (some ⟨bp, 0, none⟩) ∧ New = [bunch [], own (.slice none 0 0) 33 4 ([] : List Vol).length (([] : List Vol).flatMap Vol.cells), blk bp (.cells #[.map (some mb), .slice none 0 0] 48 (0, 0)), mapI kvQ mb (mp [])]) (by rfl) (by rfl) tx9 (by exact fun w1 hw1 => (new_spec w1).mono (fun _ _ ⟨bp, mb, hv, hst⟩ => ⟨_, ⟨bp, mb, hv, rfl⟩, (hst.own_nil 33 4).bunch_nil⟩))) (by rfl) rfl ?_
  rintro _ _ ⟨_, ⟨bp, mb, rfl, rfl⟩, rfl⟩
  refine so_pure (opv_assign (by rfl)) (by rfl) rfl ?_
  refine jo_nil ?_
  obtain ⟨wv, hwv⟩ : ∃ wv : Value, wv = .slice none 0 0 := ⟨_, rfl⟩
  obtain ⟨ws, hws⟩ : ∃ ws : List Vol, ws = [] := ⟨_, rfl⟩
  obtain ⟨fs, hfs⟩ : ∃ fs : List (Nat × Obj), fs = [] := ⟨_, rfl⟩
  rw [← hwv, ← hws, ← hfs]
  have ha : All2 (Vf w Emp fs) ws [] := by subst hws; trivial
  refine jk_then ?_
  refine jc_seq ?_
  refine jc_seq ?_
  refine sc_region ?_
  refine so_pure (opv_move (by rfl)) (by rfl) rfl ?_
  refine so_pure (opv_ptr_nil (by rfl) (by rfl) Try.underlying24) (by rfl) rfl ?_
  refine jo_nil ?_
  refine jk_then ?_
  refine sc_false (by rfl) rfl ?_
  refine jc_skip ?_
  refine jk_then ?_
  refine jc_seq ?_
  refine sc_region ?_
  refine so_pure (opv_move (by rfl)) (by rfl) rfl ?_
  refine so_eff (eff_callF [blk bp (.cells #[.map (some mb), wv] 48 (0, 0)), mapI kvQ mb (mp ([] : RD))] (fl := []) (cl := []) (G := fun v Is' => v = .int .i64 0 ∧ Is' = [blk bp (.cells #[.map (some mb), wv] 48 (0, 0)), mapI kvQ mb (mp (setL ([] : RD) (1, 2) (cntOf ([] : RD) (1, 2) + 1)))]) (by rfl) (by rfl) tx10 (by repeat (first | exact Pks.nil _ | exact Pk.here _ | apply Pk.there | apply Pks.cons)) (by exact fun w1 hw1 => (pin_spec 1 2 hw1 (by decide)).mono (fun _ _ ⟨hv, hst⟩ => ⟨_, ⟨hv, rfl⟩, hst⟩))) (by rfl) rfl ?_
  rintro _ _ ⟨_, ⟨rfl, rfl⟩, rfl⟩
  refine so_pure (opv_assign (by rfl)) (by rfl) rfl ?_
  refine jo_nil ?_
  refine jk_then ?_
  refine jc_seq ?_
  refine sc_region ?_
  refine so_pure (opv_move (by rfl)) (by rfl) rfl ?_
  refine so_pure (opv_build (by rfl) (fun w => by exact bld33_0_1_2 ..)) (by rfl) rfl ?_
  refine so_eff (eff_callF [blk bp (.cells #[.map (some mb), wv] 48 (0, 0)), own wv 33 4 ws.length (ws.flatMap Vol.cells), bunch fs] (fl := []) (cl := []) (G := fun v Is' => ∃ wv' ws' fs', v = .int .i64 (retE [] (⟨1, 2, 9, []⟩ : Rec)) ∧ (∀ b o, getL fs b = some o → getL fs' b = some o) ∧ All2 (Vf w Emp fs') ws' (retL [] (⟨1, 2, 9, []⟩ : Rec)) ∧ Is' = [blk bp (.cells #[.map (some mb), wv'] 48 (0, 0)), own wv' 33 4 ws'.length (ws'.flatMap Vol.cells), bunch fs']) (by rfl) (by rfl) tx14 (by repeat (first | exact Pks.nil _ | exact Pk.here _ | apply Pk.there | apply Pks.cons)) (by exact fun w1 hw1 => (retire2 ⟨1, 2, 9, none, 0, 0⟩ (⟨1, 2, 9, []⟩ : Rec) hw1 ha ⟨rfl, rfl, rfl, ⟨rfl, fun h => absurd rfl h⟩, by unfold Small; decide⟩ (by rw [ha.len]; decide)).mono (fun _ _ ⟨wv', ws', fs', h1, h2, h3, hst⟩ => ⟨_, ⟨wv', ws', fs', h1, h2, h3, rfl⟩, hst⟩))) (by rfl) rfl ?_
  rintro _ _ ⟨_, ⟨wv, ws, fs, rfl, hsub, ha, rfl⟩, rfl⟩
  rw [show retL [] (⟨1, 2, 9, []⟩ : Rec) = [(⟨1, 2, 9, []⟩ : Rec)] by decide] at ha
  refine so_pure (opv_assign (by rfl)) (by rfl) rfl ?_
  refine jo_nil ?_
  refine jk_then ?_
  refine jc_seq ?_
  refine sc_region ?_
  refine so_pure (opv_move (by rfl)) (by rfl) rfl ?_
  refine so_pure (opv_build (by rfl) (fun w => by exact bld33_0_1 ..)) (by rfl) rfl ?_
  refine so_eff (eff_callF [blk bp (.cells #[.map (some mb), wv] 48 (0, 0)), own wv 33 4 ws.length (ws.flatMap Vol.cells), bunch fs] (fl := []) (cl := []) (G := fun v Is' => ∃ wv' ws' fs', v = .int .i64 (retE [(⟨1, 2, 9, []⟩ : Rec)] (⟨1, 2, 0, []⟩ : Rec)) ∧ (∀ b o, getL fs b = some o → getL fs' b = some o) ∧ All2 (Vf w Emp fs') ws' (retL [(⟨1, 2, 9, []⟩ : Rec)] (⟨1, 2, 0, []⟩ : Rec)) ∧ Is' = [blk bp (.cells #[.map (some mb), wv'] 48 (0, 0)), own wv' 33 4 ws'.length (ws'.flatMap Vol.cells), bunch fs']) (by rfl) (by rfl) tx14 (by repeat (first | exact Pks.nil _ | exact Pk.here _ | apply Pk.there | apply Pks.cons)) (by exact fun w1 hw1 => (retire2 ⟨1, 2, 0, none, 0, 0⟩ (⟨1, 2, 0, []⟩ : Rec) hw1 ha ⟨rfl, rfl, rfl, ⟨rfl, fun h => absurd rfl h⟩, by unfold Small; decide⟩ (by rw [ha.len]; decide)).mono (fun _ _ ⟨wv', ws', fs', h1, h2, h3, hst⟩ => ⟨_, ⟨wv', ws', fs', h1, h2, h3, rfl⟩, hst⟩))) (by rfl) rfl ?_
  rintro _ _ ⟨_, ⟨wv, ws, fs, rfl, hsub, ha, rfl⟩, rfl⟩
  rw [show retL [(⟨1, 2, 9, []⟩ : Rec)] (⟨1, 2, 0, []⟩ : Rec) = [(⟨1, 2, 9, []⟩ : Rec)] by decide] at ha
  refine so_pure (opv_assign (by rfl)) (by rfl) rfl ?_
  refine jo_nil ?_
  refine jk_then ?_
  refine jc_seq ?_
  refine sc_region ?_
  refine so_pure (opv_move (by rfl)) (by rfl) rfl ?_
  refine so_pure (opv_build (by rfl) (fun w => by exact bld33_0_1 ..)) (by rfl) rfl ?_
  refine so_eff (eff_callF [blk bp (.cells #[.map (some mb), wv] 48 (0, 0)), own wv 33 4 ws.length (ws.flatMap Vol.cells), bunch fs] (fl := []) (cl := []) (G := fun v Is' => ∃ wv' ws' fs', v = .int .i64 (retE [(⟨1, 2, 9, []⟩ : Rec)] (⟨1, 3, 0, []⟩ : Rec)) ∧ (∀ b o, getL fs b = some o → getL fs' b = some o) ∧ All2 (Vf w Emp fs') ws' (retL [(⟨1, 2, 9, []⟩ : Rec)] (⟨1, 3, 0, []⟩ : Rec)) ∧ Is' = [blk bp (.cells #[.map (some mb), wv'] 48 (0, 0)), own wv' 33 4 ws'.length (ws'.flatMap Vol.cells), bunch fs']) (by rfl) (by rfl) tx14 (by repeat (first | exact Pks.nil _ | exact Pk.here _ | apply Pk.there | apply Pks.cons)) (by exact fun w1 hw1 => (retire2 ⟨1, 3, 0, none, 0, 0⟩ (⟨1, 3, 0, []⟩ : Rec) hw1 ha ⟨rfl, rfl, rfl, ⟨rfl, fun h => absurd rfl h⟩, by unfold Small; decide⟩ (by rw [ha.len]; decide)).mono (fun _ _ ⟨wv', ws', fs', h1, h2, h3, hst⟩ => ⟨_, ⟨wv', ws', fs', h1, h2, h3, rfl⟩, hst⟩))) (by rfl) rfl ?_
  rintro _ _ ⟨_, ⟨wv, ws, fs, rfl, hsub, ha, rfl⟩, rfl⟩
  rw [show retL [(⟨1, 2, 9, []⟩ : Rec)] (⟨1, 3, 0, []⟩ : Rec) = [(⟨1, 2, 9, []⟩ : Rec), (⟨1, 3, 0, []⟩ : Rec)] by decide] at ha
  refine so_pure (opv_assign (by rfl)) (by rfl) rfl ?_
  refine jo_nil ?_
  refine jk_then ?_
  refine jc_seq ?_
  refine sc_region ?_
  refine so_pure (opv_move (by rfl)) (by rfl) rfl ?_
  refine so_eff (eff_callF [blk bp (.cells #[.map (some mb), wv] 48 (0, 0)), own wv 33 4 ws.length (ws.flatMap Vol.cells), mapI kvQ mb (mp (setL ([] : RD) (1, 2) (cntOf ([] : RD) (1, 2) + 1)))] (fl := []) (cl := []) (G := fun v Is' => ∃ wv' ws' zs, All2 (Vf w Emp fs) ws' ([(⟨1, 2, 9, []⟩ : Rec), (⟨1, 3, 0, []⟩ : Rec)].filter (fun y => !noR (setL ([] : RD) (1, 2) (cntOf ([] : RD) (1, 2) + 1)) y)) ∧ All2 (Vf w Emp fs) zs ([(⟨1, 2, 9, []⟩ : Rec), (⟨1, 3, 0, []⟩ : Rec)].filter (noR (setL ([] : RD) (1, 2) (cntOf ([] : RD) (1, 2) + 1)))) ∧ Is' = [blk bp (.cells #[.map (some mb), wv'] 48 (0, 0)), own wv' 33 4 ws'.length (ws'.flatMap Vol.cells), mapI kvQ mb (mp (setL ([] : RD) (1, 2) (cntOf ([] : RD) (1, 2) + 1))), own v 33 4 zs.length (zs.flatMap Vol.cells)]) (by rfl) (by rfl) tx17 (by repeat (first | exact Pks.nil _ | exact Pk.here _ | apply Pk.there | apply Pks.cons)) (by exact fun w1 hw1 => (reap2 hw1 ha (by rw [ha.len]; decide)).mono (fun _ _ ⟨wv', ws', zs, h1, h2, hst⟩ => ⟨_, ⟨wv', ws', zs, h1, h2, rfl⟩, hst⟩))) (by rfl) rfl ?_
  rintro lv _ ⟨_, ⟨wv, ws, l, ha, hl, rfl⟩, rfl⟩
  rw [show [(⟨1, 2, 9, []⟩ : Rec), (⟨1, 3, 0, []⟩ : Rec)].filter (fun y => !noR (setL ([] : RD) (1, 2) (cntOf ([] : RD) (1, 2) + 1)) y) = [(⟨1, 2, 9, []⟩ : Rec)] by decide] at ha
  rw [show [(⟨1, 2, 9, []⟩ : Rec), (⟨1, 3, 0, []⟩ : Rec)].filter (noR (setL ([] : RD) (1, 2) (cntOf ([] : RD) (1, 2) + 1))) = [(⟨1, 3, 0, []⟩ : Rec)] by decide] at hl
  obtain ⟨z, rfl, hz⟩ := hl.single
  refine so_pure (opv_assign (by rfl)) (by rfl) rfl ?_
  refine jo_nil ?_
  refine jk_then ?_
  refine jc_seq ?_
  refine sc_region ?_
  refine so_pure (opv_move (by rfl)) (by rfl) rfl ?_
  refine so_eff (eff_callF [blk bp (.cells #[.map (some mb), wv] 48 (0, 0)), mapI kvQ mb (mp (setL ([] : RD) (1, 2) (cntOf ([] : RD) (1, 2) + 1)))] (fl := []) (cl := []) (G := fun v Is' => v = .int .i64 (if cntOf (setL ([] : RD) (1, 2) (cntOf ([] : RD) (1, 2) + 1)) (1, 2) = 0 then 9 else 0) ∧ Is' = [blk bp (.cells #[.map (some mb), wv] 48 (0, 0)), mapI kvQ mb (mp (unp (setL ([] : RD) (1, 2) (cntOf ([] : RD) (1, 2) + 1)) (1, 2)))]) (by rfl) (by rfl) tx12 (by repeat (first | exact Pks.nil _ | exact Pk.here _ | apply Pk.there | apply Pks.cons)) (by exact fun w1 hw1 => (unpin_spec 1 2 hw1 (by decide)).mono (fun _ _ ⟨hv, hst⟩ => ⟨_, ⟨hv, rfl⟩, hst⟩))) (by rfl) rfl ?_
  rintro _ _ ⟨_, ⟨rfl, rfl⟩, rfl⟩
  refine so_pure (opv_assign (by rfl)) (by rfl) rfl ?_
  refine jo_nil ?_
  refine jk_then ?_
  refine jc_seq ?_
  refine sc_region ?_
  refine so_pure (opv_move (by rfl)) (by rfl) rfl ?_
  refine so_eff (eff_callF [blk bp (.cells #[.map (some mb), wv] 48 (0, 0)), mapI kvQ mb (mp (unp (setL ([] : RD) (1, 2) (cntOf ([] : RD) (1, 2) + 1)) (1, 2)))] (fl := []) (cl := []) (G := fun v Is' => v = .int .i64 (if cntOf (unp (setL ([] : RD) (1, 2) (cntOf ([] : RD) (1, 2) + 1)) (1, 2)) (1, 2) = 0 then 9 else 0) ∧ Is' = [blk bp (.cells #[.map (some mb), wv] 48 (0, 0)), mapI kvQ mb (mp (unp (unp (setL ([] : RD) (1, 2) (cntOf ([] : RD) (1, 2) + 1)) (1, 2)) (1, 2)))]) (by rfl) (by rfl) tx12 (by repeat (first | exact Pks.nil _ | exact Pk.here _ | apply Pk.there | apply Pks.cons)) (by exact fun w1 hw1 => (unpin_spec 1 2 hw1 (by decide)).mono (fun _ _ ⟨hv, hst⟩ => ⟨_, ⟨hv, rfl⟩, hst⟩))) (by rfl) rfl ?_
  rintro _ _ ⟨_, ⟨rfl, rfl⟩, rfl⟩
  refine so_pure (opv_assign (by rfl)) (by rfl) rfl ?_
  refine jo_nil ?_
  refine jk_then ?_
  refine jc_seq ?_
  refine sc_region ?_
  refine so_pure (opv_move (by rfl)) (by rfl) rfl ?_
  refine so_eff (eff_callF [blk bp (.cells #[.map (some mb), wv] 48 (0, 0)), own wv 33 4 ws.length (ws.flatMap Vol.cells), mapI kvQ mb (mp (unp (unp (setL ([] : RD) (1, 2) (cntOf ([] : RD) (1, 2) + 1)) (1, 2)) (1, 2)))] (fl := []) (cl := []) (G := fun v Is' => ∃ wv' ws' zs, All2 (Vf w Emp fs) ws' ([(⟨1, 2, 9, []⟩ : Rec)].filter (fun y => !noR (unp (unp (setL ([] : RD) (1, 2) (cntOf ([] : RD) (1, 2) + 1)) (1, 2)) (1, 2)) y)) ∧ All2 (Vf w Emp fs) zs ([(⟨1, 2, 9, []⟩ : Rec)].filter (noR (unp (unp (setL ([] : RD) (1, 2) (cntOf ([] : RD) (1, 2) + 1)) (1, 2)) (1, 2)))) ∧ Is' = [blk bp (.cells #[.map (some mb), wv'] 48 (0, 0)), own wv' 33 4 ws'.length (ws'.flatMap Vol.cells), mapI kvQ mb (mp (unp (unp (setL ([] : RD) (1, 2) (cntOf ([] : RD) (1, 2) + 1)) (1, 2)) (1, 2))), own v 33 4 zs.length (zs.flatMap Vol.cells)]) (by rfl) (by rfl) tx17 (by repeat (first | exact Pks.nil _ | exact Pk.here _ | apply Pk.there | apply Pks.cons)) (by exact fun w1 hw1 => (reap2 hw1 ha (by rw [ha.len]; decide)).mono (fun _ _ ⟨wv', ws', zs, h1, h2, hst⟩ => ⟨_, ⟨wv', ws', zs, h1, h2, rfl⟩, hst⟩))) (by rfl) rfl ?_
  rintro mv _ ⟨_, ⟨wv, ws, m, ha, hm, rfl⟩, rfl⟩
  rw [show [(⟨1, 2, 9, []⟩ : Rec)].filter (fun y => !noR (unp (unp (setL ([] : RD) (1, 2) (cntOf ([] : RD) (1, 2) + 1)) (1, 2)) (1, 2)) y) = [] by decide] at ha
  rw [show [(⟨1, 2, 9, []⟩ : Rec)].filter (noR (unp (unp (setL ([] : RD) (1, 2) (cntOf ([] : RD) (1, 2) + 1)) (1, 2)) (1, 2))) = [(⟨1, 2, 9, []⟩ : Rec)] by decide] at hm
  obtain ⟨y, rfl, hy⟩ := hm.single
  refine so_pure (opv_assign (by rfl)) (by rfl) rfl ?_
  refine jo_nil ?_
  refine jk_then ?_
  refine jc_seq ?_
  refine sc_region ?_
  refine so_pure (opv_move (by rfl)) (by rfl) rfl ?_
  refine so_pure (opv_cmp (by rfl) (by rfl) (by rfl)) (by rfl) rfl ?_
  refine so_pure (opv_move (by rfl)) (by rfl) rfl ?_
  refine so_pure (opv_move (by rfl)) (wtd_run rfl rfl (by rfl) rfl) rfl ?_
  refine so_pure (opv_cmp (by rfl) (by rfl) (by rfl)) (wtd_run rfl rfl (by rfl) rfl) rfl ?_
  refine so_pure (sv_pick_t (by rfl) rfl (by rfl)) (by rfl) rfl ?_
  refine so_pure (opv_move (by rfl)) (by rfl) rfl ?_
  refine so_pure (opv_move (by rfl)) (wtd_run rfl rfl (by rfl) rfl) rfl ?_
  refine so_pure (opv_cmp (by rfl) (by rfl) (by rfl)) (wtd_run rfl rfl (by rfl) rfl) rfl ?_
  refine so_pure (sv_pick_t (by rfl) rfl (by rfl)) (by rfl) rfl ?_
  refine so_pure (opv_move (by rfl)) (by rfl) rfl ?_
  refine so_pure (opv_move (by rfl)) (wtd_run rfl rfl (by rfl) rfl) rfl ?_
  refine so_pure (opv_cmp (by rfl) (by rfl) (by rfl)) (wtd_run rfl rfl (by rfl) rfl) rfl ?_
  refine so_pure (sv_pick_t (by rfl) rfl (by rfl)) (by rfl) rfl ?_
  refine so_pure (opv_move (by rfl)) (by rfl) rfl ?_
  refine so_pure (opv_move (by rfl)) (wtd_run rfl rfl (by rfl) rfl) rfl ?_
  refine so_pure (opv_len_own (by rfl) Try.underlying28 (by repeat (first | exact Pk.here _ | apply Pk.there))) (wtd_run rfl rfl (by rfl) rfl) rfl ?_
  refine so_pure (opv_cmp (by rfl) (by rfl) (by rfl)) (wtd_run rfl rfl (by rfl) rfl) rfl ?_
  refine so_pure (sv_pick_t (by rfl) rfl (by rfl)) (by rfl) rfl ?_
  refine so_pure (opv_move (by rfl)) (by rfl) rfl ?_
  refine so_pure (opv_move (by rfl)) (wtd_run rfl rfl (by rfl) rfl) rfl ?_
  refine so_pure (opv_indexAddr_own (i := 0) (n := [z].length) (v := lv) (by rfl) (by rfl) Try.underlying28 ti33 (by repeat (first | exact Pk.here _ | apply Pk.there)) rfl Nat.zero_lt_one) (wtd_run rfl rfl (by rfl) rfl) rfl ?_
  refine so_pure (opv_fieldAddr (by rfl) fld33_1) (wtd_run rfl rfl (by rfl) rfl) rfl ?_
  refine so_pure (opv_load_fld (xs := [z]) (i := 0) (u := z) (fo := 1) (w := .int .i64 z.gen) Vol.cells_len (by rfl) na3 (by repeat (first | exact Pk.here _ | apply Pk.there)) rfl rfl) (wtd_run rfl rfl (by rfl) rfl) rfl ?_
  refine so_pure (opv_cmp (b := true) (by rfl) (by rfl) (by rw [hz.2.1]; rfl)) (wtd_run rfl rfl (by rfl) rfl) rfl ?_
  refine so_pure (sv_pick_t (by rfl) rfl (by rfl)) (by rfl) rfl ?_
  refine so_pure (opv_move (by rfl)) (by rfl) rfl ?_
  refine so_pure (opv_move (by rfl)) (wtd_run rfl rfl (by rfl) rfl) rfl ?_
  refine so_pure (opv_cmp (by rfl) (by rfl) (by rfl)) (wtd_run rfl rfl (by rfl) rfl) rfl ?_
  refine so_pure (sv_pick_t (by rfl) rfl (by rfl)) (by rfl) rfl ?_
  refine so_pure (opv_move (by rfl)) (by rfl) rfl ?_
  refine so_pure (opv_move (by rfl)) (wtd_run rfl rfl (by rfl) rfl) rfl ?_
  refine so_pure (opv_cmp (by rfl) (by rfl) (by rfl)) (wtd_run rfl rfl (by rfl) rfl) rfl ?_
  refine so_pure (sv_pick_t (by rfl) rfl (by rfl)) (by rfl) rfl ?_
  refine so_pure (opv_move (by rfl)) (by rfl) rfl ?_
  refine so_pure (opv_move (by rfl)) (wtd_run rfl rfl (by rfl) rfl) rfl ?_
  refine so_pure (opv_len_own (by rfl) Try.underlying28 (by repeat (first | exact Pk.here _ | apply Pk.there))) (wtd_run rfl rfl (by rfl) rfl) rfl ?_
  refine so_pure (opv_cmp (by rfl) (by rfl) (by rfl)) (wtd_run rfl rfl (by rfl) rfl) rfl ?_
  refine so_pure (sv_pick_t (by rfl) rfl (by rfl)) (by rfl) rfl ?_
  refine so_pure (opv_move (by rfl)) (by rfl) rfl ?_
  refine so_pure (opv_move (by rfl)) (wtd_run rfl rfl (by rfl) rfl) rfl ?_
  refine so_pure (opv_indexAddr_own (i := 0) (n := [y].length) (v := mv) (by rfl) (by rfl) Try.underlying28 ti33 (by repeat (first | exact Pk.here _ | apply Pk.there)) rfl Nat.zero_lt_one) (wtd_run rfl rfl (by rfl) rfl) rfl ?_
  refine so_pure (opv_fieldAddr (by rfl) fld33_2) (wtd_run rfl rfl (by rfl) rfl) rfl ?_
  refine so_pure (opv_load_fld (xs := [y]) (i := 0) (u := y) (fo := 2) (w := .int .i64 y.size) Vol.cells_len (by rfl) na3 (by repeat (first | exact Pk.here _ | apply Pk.there)) rfl rfl) (wtd_run rfl rfl (by rfl) rfl) rfl ?_
  refine so_pure (opv_cmp (b := true) (by rfl) (by rfl) (by rw [hy.2.2.1]; rfl)) (wtd_run rfl rfl (by rfl) rfl) rfl ?_
  refine so_pure (sv_pick_t (by rfl) rfl (by rfl)) (by rfl) rfl ?_
  refine so_pure (opv_move (by rfl)) (by rfl) rfl ?_
  refine so_pure (opv_move (by rfl)) (wtd_run rfl rfl (by rfl) rfl) rfl ?_
  refine so_eff (eff_callF [blk bp (.cells #[.map (some mb), wv] 48 (0, 0)), own wv 33 4 ws.length (ws.flatMap Vol.cells), bunch fs] (fl := []) (cl := []) (G := fun v Is' => ∃ fs' zs, (∀ b o, getL fs b = some o → getL fs' b = some o) ∧ All2 (Vf w Emp fs') zs [] ∧ Is' = [blk bp (.cells #[.map (some mb), wv] 48 (0, 0)), own wv 33 4 ws.length (ws.flatMap Vol.cells), bunch fs', own v 33 4 ws.length (zs.flatMap Vol.cells)]) (by rfl) (by rfl) tx19 (by repeat (first | exact Pks.nil _ | exact Pk.here _ | apply Pk.there | apply Pks.cons)) (by exact fun w1 hw1 => (waits_spec hw1 ha (by rw [ha.len]; decide)).mono (fun _ _ ⟨fs', zs, h1, h2, hst⟩ => ⟨_, ⟨fs', zs, h1, h2, rfl⟩, hst⟩))) (wtd_run rfl rfl (by rfl) rfl) rfl ?_
  rintro qv _ ⟨_, ⟨fs, q, hsub, hq, rfl⟩, rfl⟩
  replace ha := ha.mono (Vf.more hsub)
  refine so_pure (opv_len_own (by rfl) Try.underlying28 (by repeat (first | exact Pk.here _ | apply Pk.there))) (wtd_run rfl rfl (by rfl) rfl) rfl ?_
  refine so_pure (opv_cmp (b := true) (by rfl) (by rfl) (by rw [ha.len]; rfl)) (wtd_run rfl rfl (by rfl) rfl) rfl ?_
  refine so_pure (sv_pick_t (by rfl) rfl (by rfl)) (by rfl) rfl ?_
  refine so_pure (opv_move (by rfl)) (by rfl) rfl ?_
  refine so_pure (opv_move (by rfl)) (wtd_run rfl rfl (by rfl) rfl) rfl ?_
  refine so_eff (eff_callF [blk bp (.cells #[.map (some mb), wv] 48 (0, 0)), mapI kvQ mb (mp (unp (unp (setL ([] : RD) (1, 2) (cntOf ([] : RD) (1, 2) + 1)) (1, 2)) (1, 2)))] (fl := []) (cl := []) (G := fun v Is' => v = .int .i64 (cntOf (unp (unp (setL ([] : RD) (1, 2) (cntOf ([] : RD) (1, 2) + 1)) (1, 2)) (1, 2)) (1, 2)) ∧ Is' = [blk bp (.cells #[.map (some mb), wv] 48 (0, 0)), mapI kvQ mb (mp (unp (unp (setL ([] : RD) (1, 2) (cntOf ([] : RD) (1, 2) + 1)) (1, 2)) (1, 2)))]) (by rfl) (by rfl) tx20 (by repeat (first | exact Pks.nil _ | exact Pk.here _ | apply Pk.there | apply Pks.cons)) (by exact fun w1 hw1 => (count_spec 1 2 hw1).mono (fun _ _ ⟨hv, hst⟩ => ⟨_, ⟨hv, rfl⟩, hst⟩))) (wtd_run rfl rfl (by rfl) rfl) rfl ?_
  rintro _ _ ⟨_, ⟨rfl, rfl⟩, rfl⟩
  refine so_pure (opv_cmp (by rfl) (by rfl) (by rfl)) (wtd_run rfl rfl (by rfl) rfl) rfl ?_
  refine so_pure (sv_pick_t (by rfl) rfl (by rfl)) (by rfl) rfl ?_
  refine so_pure (opv_assign (by rfl)) (by rfl) rfl ?_
  refine jo_nil ?_
  refine jk_then ?_
  refine jc_ret ?_
  refine jk_fn_ret rfl rfl (by rfl) (fun w hw => ?_)
  exact ⟨rfl, hw.forget⟩
end Go.Pins
