/- A part of a proof for the laws of the seat Ytnjhnpfippcacaa; it has no conditions of its own. -/
import Derived.Test.YtnjhnpfippcacaaPW10
namespace Go.Pins
open Go Go.SL Go.Proofs
set_option maxHeartbeats 4000000 in
theorem reap_spec {w0 w : World} {M : Nat → Prop} {Fr : List Itm} {bp mb : Nat} {wv : Value} {rd : RD} {ws : List Vol} (hst : St w0 M (blk bp (.cells #[.map (some mb), wv] 48 (0, 0)) :: own wv 33 4 ws.length (ws.flatMap Vol.cells) :: mapI kvQ mb (mp rd) :: Fr) w) (hn : ws.length ≤ 100000) :
    Does Try.prog 17 #[.pointer (some ⟨bp, 0, none⟩)] w (fun v w' => ∃ wv', St w0 M (blk bp (.cells #[.map (some mb), wv'] 48 (0, 0)) :: own wv' 33 4 (ws.filter (fun y => !noReads rd y)).length ((ws.filter (fun y => !noReads rd y)).flatMap Vol.cells) :: mapI kvQ mb (mp rd) :: own v 33 4 (ws.filter (noReads rd)).length ((ws.filter (noReads rd)).flatMap Vol.cells) :: Fr) w') := by
  refine fn_bodyX (fn := Try.f17) Try.func17 rfl [(0, .pointer (some ⟨bp, 0, none⟩))] (by exact ⟨rfl, trivial⟩) rfl hst ?_
  refine jc_seq ?_
  refine sc_region ?_
  refine so_eff (eff_box (by rfl) rfl) (by rfl) rfl ?_
  rintro _ _ ⟨b1, rfl, rfl⟩
  refine so_pure (opv_assign (by rfl)) (by rfl) rfl ?_
  refine jo_nil ?_
  refine jk_then ?_
  refine jc_seq ?_
  refine jc_seq ?_
  refine sc_region ?_
  refine so_pure (opv_load (by rfl) na24 (rd_pk (by repeat (first | exact Pk.here _ | apply Pk.there))) (by rfl)) (by rfl) rfl ?_
  refine so_pure (opv_ptr_nil (by rfl) (by rfl) Try.underlying24) (by rfl) rfl ?_
  refine jo_nil ?_
  refine jk_then ?_
  refine sc_false (by rfl) rfl ?_
  refine jc_skip ?_
  refine jk_then ?_
  refine jc_seq ?_
  refine sc_region ?_
  refine so_eff (eff_alloc ti28 rfl) (by rfl) rfl ?_
  rintro _ _ ⟨b3, rfl, rfl⟩
  refine jo_nil ?_
  refine jk_then ?_
  refine jc_seq ?_
  refine so_draw [blk b1 (.cells #[.pointer (some ⟨bp, 0, none⟩)] 24 (0, 0))] (by kernel_rfl) (by kernel_rfl) (by kernel_rfl) rfl (by rfl) (fun hap htm => ?_)
  refine da_free hap htm (i := 0) (by rfl) (by kernel_rfl) (by rfl) (listed' := #[true, false, false, false, false, false, false, false, false, false]) (by rfl) (fun w hw => Pks.cw (by repeat (first | exact Pks.nil _ | exact Pk.here _ | apply Pk.there | apply Pks.cons)) hw) (fun _ => (opv_load (by rfl) na24 (rd_pk (by repeat (first | exact Pk.here _ | apply Pk.there))) (by rfl))) (by rfl) rfl ?_
  refine da_now [2, 3, 4, 6, 7, 8, 9] hap htm (i := 1) (by rfl) (by kernel_rfl) (by rfl) (listed' := #[true, true, false, false, false, false, false, false, false, false]) (by rfl) (by kernel_rfl) (by kernel_rfl) (opv_load (by rfl) na24 (rd_pk (by repeat (first | exact Pk.here _ | apply Pk.there))) (by rfl)) (by rfl) rfl ?_
  refine da_any hap htm (i := 2) (by rfl) (by kernel_rfl) (by rfl) (listed' := #[true, true, true, false, false, false, false, false, false, false]) (by rfl) (fun _ => (opv_nilCheck (by rfl))) (by rfl) rfl ?_
  refine da_any hap htm (i := 3) (by rfl) (by kernel_rfl) (by rfl) (listed' := #[true, true, true, true, false, false, false, false, false, false]) (by rfl) (fun _ => (opv_fieldAddr (by rfl) fld48_1)) (by rfl) rfl ?_
  refine da_now [6, 7, 8, 9] hap htm (i := 4) (by rfl) (by kernel_rfl) (by rfl) (listed' := #[true, true, true, true, true, false, false, false, false, false]) (by rfl) (by kernel_rfl) (by kernel_rfl) (opv_load (by rfl) na28 (rd_pk (by repeat (first | exact Pk.here _ | apply Pk.there))) (by rfl)) (by rfl) rfl ?_
  refine da_any hap htm (i := 5) (by rfl) (by kernel_rfl) (by rfl) (listed' := #[true, true, true, true, true, true, false, false, false, false]) (by rfl) (fun _ => (opv_makeFunc (by rfl) (by rfl))) (by rfl) rfl ?_
  refine da_eff (i := 6) (by rfl) (by kernel_rfl) (by rfl) (listed' := #[true, true, true, true, true, true, true, false, false, false]) (by rfl) (eff_call (fl := []) (cl := []) (G := fun v Is' => Is' = own v 33 4 (ws.filter (fun y => !noReads rd y)).length ((ws.filter (fun y => !noReads rd y)).flatMap Vol.cells) :: blk b1 (.cells #[.pointer (some ⟨bp, 0, none⟩)] 24 (0, 0)) :: blk bp (.cells #[.map (some mb), wv] 48 (0, 0)) :: mapI kvQ mb (mp rd) :: freeI b3 (ws.filter (noReads rd)) :: Fr) (by rfl) (by rfl) tx27 (by exact fun w1 hw1 => (delete_spec (fi := 28) (cl := [.pointer (some ⟨b1, 0, none⟩), .pointer (some ⟨b3, 0, none⟩)]) (Fr := fun ys => blk b1 (.cells #[.pointer (some ⟨bp, 0, none⟩)] 24 (0, 0)) :: blk bp (.cells #[.map (some mb), wv] 48 (0, 0)) :: mapI kvQ mb (mp rd) :: freeI b3 (ys.filter (noReads rd)) :: Fr) (ys0 := []) (xs := ws) (n := ws.length) (p := noReads rd) tx28 (St.keep (Sb := [own wv 33 4 ws.length (ws.flatMap Vol.cells), blk b1 (.cells #[.pointer (some ⟨bp, 0, none⟩)] 24 (0, 0)), blk bp (.cells #[.map (some mb), wv] 48 (0, 0)), mapI kvQ mb (mp rd), freeI b3 []]) (free_mk (zs := []) ((hw1.own_nil 33 4).pk (.there (.here _)))) (by repeat (first | exact Pks.nil _ | exact Pk.here _ | apply Pk.there | apply Pks.cons)) (by repeat (first | exact Tl.here _ | apply Tl.there))) rfl hn (Nat.zero_le _) (fun ys y Is2 w2 hys hw2 => (reap1_spec (Fr := Fr ++ Is2) y (St.comm hw2) (Nat.le_trans (List.length_filter_le _ _) hys)).mono (fun _ _ ⟨hv, hs⟩ => ⟨hv, by rw [List.filter_append]; exact St.comm (A := blk b1 (.cells #[.pointer (some ⟨bp, 0, none⟩)] 24 (0, 0)) :: blk bp (.cells #[.map (some mb), wv] 48 (0, 0)) :: mapI kvQ mb (mp rd) :: freeI b3 (ys.filter (noReads rd) ++ [y].filter (noReads rd)) :: Fr) hs⟩))).mono (fun _ _ hst => ⟨_, rfl, hst⟩))) (fun _ _ h w hw => by obtain rfl := h; exact Pks.cw (by repeat (first | exact Pks.nil _ | exact Pk.here _ | apply Pk.there | apply Pks.cons)) hw) (by rfl) rfl ?_
  rintro wv2 _ rfl
  refine ja_sv (by repeat (first | exact Pk.here _ | apply Pk.there)) (fun hsv2 => ?_)
  obtain ⟨A2, c2, rfl, _⟩ := hsv2
  refine da_any hap htm (i := 7) (by rfl) (by kernel_rfl) (by rfl) (listed' := #[true, true, true, true, true, true, true, true, false, false]) (by rfl) (fun _ => (opv_nilCheck (by rfl))) (by rfl) rfl ?_
  refine da_any hap htm (i := 8) (by rfl) (by kernel_rfl) (by rfl) (listed' := #[true, true, true, true, true, true, true, true, true, false]) (by rfl) (fun _ => (opv_fieldAddr (by rfl) fld48_1)) (by rfl) rfl ?_
  refine da_eff0 (i := 9) (by rfl) (by kernel_rfl) (by rfl) (listed' := #[true, true, true, true, true, true, true, true, true, true]) (by rfl) (eff_store (vs := [.slice A2 (ws.filter (fun y => !noReads rd y)).length c2]) (by rfl) (by rfl) (by rfl) ti28 (by rfl) (by repeat (first | exact Pk.here _ | apply Pk.there)) (by exact Nat.le_refl _) (by rfl)) (fun _ _ h w hw => by obtain ⟨rfl, rfl⟩ := h; exact Pks.cw (by repeat (first | exact Pks.nil _ | exact Pk.here _ | apply Pk.there | apply Pks.cons)) hw) (by rfl) ?_
  rintro _ _ ⟨rfl, rfl⟩
  refine da_done (by kernel_rfl) ?_
  refine jk_then ?_
  refine jc_seq ?_
  refine jk_free_open (by repeat (first | exact Pk.here _ | apply Pk.there)) (fun fv => ?_)
  refine sc_region ?_
  refine so_pure (opv_load (by rfl) na28 (rd_pk (by repeat (first | exact Pk.here _ | apply Pk.there))) (by rfl)) (by rfl) rfl ?_
  refine so_pure (opv_assign (by rfl)) (by rfl) rfl ?_
  refine jo_nil ?_
  refine jk_then ?_
  refine jc_ret ?_
  refine jk_fn_ret rfl rfl (by rfl) (fun w hw => ?_)
  refine ⟨.slice A2 (ws.filter (fun y => !noReads rd y)).length c2, ?_⟩
  exact St.keep (Sb := [blk bp (.cells #[.map (some mb), .slice A2 (ws.filter (fun y => !noReads rd y)).length c2] 48 (0, 0)), own (.slice A2 (ws.filter (fun y => !noReads rd y)).length c2) 33 4 (ws.filter (fun y => !noReads rd y)).length ((ws.filter (fun y => !noReads rd y)).flatMap Vol.cells), mapI kvQ mb (mp rd), own fv 33 4 (ws.filter (noReads rd)).length ((ws.filter (noReads rd)).flatMap Vol.cells)]) hw (by repeat (first | exact Pks.nil _ | exact Pk.here _ | apply Pk.there | apply Pks.cons)) (by repeat (first | exact Tl.here _ | apply Tl.there))
end Go.Pins
