/- A part of a proof for the laws of the seat Ythkafociknhgaaa; it has no conditions of its own. -/
import Derived.Test.YthkafociknhgaaaDkW4
namespace Go.Disks
open Go Go.SL Go.Proofs
set_option maxHeartbeats 4000000 in
theorem whole_spec {w0 w : World} {M : Nat → Prop} {Fr : List Itm} {db mb : Nat} {wv : Value} {kp : Kp} (x : Wr) (hsz : x.s.size ≤ 1000000) (hst : St w0 M (blk db (.cells #[.map (some mb), wv, .bool false] 57 (0, 0)) :: mapI kvI mb (mpS kp) :: Fr) w) : Does Try.prog 30 #[.pointer (some ⟨db, 0, none⟩), .agg #[.int .i64 x.n, .string x.s]] w (fun _ w' => St w0 M (blk db (.cells #[.map (some mb), wv, .bool false] 57 (0, 0)) :: mapI kvI mb (mpS (setL kp x.n x.s)) :: Fr) w') := by
  refine fn_bodyX (fn := Try.f30) Try.func30 rfl [(0, .pointer (some ⟨db, 0, none⟩)), (1, .agg #[.int .i64 x.n, .string x.s])] (by exact ⟨rfl, rfl, trivial⟩) rfl hst ?_
  refine jc_seq ?_
  refine sc_region ?_
  refine so_eff (eff_box (by rfl) rfl) (by rfl) rfl ?_
  rintro _ _ ⟨b3, rfl, rfl⟩
  refine jo_nil ?_
  refine jk_then ?_
  refine so_draw [] (by kernel_rfl) (by kernel_rfl) (by kernel_rfl) rfl (by rfl) (fun hap htm => ?_)
  refine da_any hap htm (i := 0) (by rfl) (by kernel_rfl) (by rfl) (listed' := #[true, false, false, false, false, false, false, false, false]) (by rfl) (fun _ => (opv_move (by rfl))) (by rfl) rfl ?_
  refine da_any hap htm (i := 1) (by rfl) (by kernel_rfl) (by rfl) (listed' := #[true, true, false, false, false, false, false, false, false]) (by rfl) (fun _ => (opv_nilCheck (by rfl))) (by rfl) rfl ?_
  refine da_any hap htm (i := 2) (by rfl) (by kernel_rfl) (by rfl) (listed' := #[true, true, true, false, false, false, false, false, false]) (by rfl) (fun _ => (opv_fieldAddr (by rfl) fld57_0)) (by rfl) rfl ?_
  refine da_now [8] hap htm (i := 3) (by rfl) (by kernel_rfl) (by rfl) (listed' := #[true, true, true, true, false, false, false, false, false]) (by rfl) (by kernel_rfl) (by kernel_rfl) (opv_load (by rfl) na55 (rd_pk (by repeat (first | exact Pk.here _ | apply Pk.there))) (by rfl)) (by rfl) rfl ?_
  refine da_any hap htm (i := 4) (by rfl) (by kernel_rfl) (by rfl) (listed' := #[true, true, true, true, true, false, false, false, false]) (by rfl) (fun _ => (opv_fieldAddr (by rfl) fld59_0)) (by rfl) rfl ?_
  refine da_now [8] hap htm (i := 5) (by rfl) (by kernel_rfl) (by rfl) (listed' := #[true, true, true, true, true, true, false, false, false]) (by rfl) (by kernel_rfl) (by kernel_rfl) (opv_load (by rfl) na3 (rd_pk (by repeat (first | exact Pk.here _ | apply Pk.there))) (by rfl)) (by rfl) rfl ?_
  refine da_any hap htm (i := 6) (by rfl) (by kernel_rfl) (by rfl) (listed' := #[true, true, true, true, true, true, true, false, false]) (by rfl) (fun _ => (opv_fieldAddr (by rfl) fld59_1)) (by rfl) rfl ?_
  refine da_now [8] hap htm (i := 7) (by rfl) (by kernel_rfl) (by rfl) (listed' := #[true, true, true, true, true, true, true, true, false]) (by rfl) (by kernel_rfl) (by kernel_rfl) (opv_load (by rfl) na9 (rd_pk (by repeat (first | exact Pk.here _ | apply Pk.there))) (by rfl)) (by rfl) rfl ?_
  refine da_eff0 (i := 8) (by rfl) (by kernel_rfl) (by rfl) (listed' := #[true, true, true, true, true, true, true, true, true]) (by rfl) (eff_mapUpdate (kv := kvI) (k := x.n) (v := .string x.s) (by rfl) (by rfl) (by rfl) (KL.int Try.underlying3) Try.underlying55 (by repeat (first | exact Pk.here _ | apply Pk.there))) (fun _ _ _ _ hw => cw_nil hw) (by rfl) ?_
  rintro _ _ ⟨rfl, rfl⟩
  refine da_done (by kernel_rfl) ?_
  refine jk_fn_end0 rfl rfl (fun w hw => ?_)
  rw [mpS_set] at hw
  exact St.keep (Sb := [blk db (.cells #[.map (some mb), wv, .bool false] 57 (0, 0)), mapI kvI mb (mpS (setL kp x.n x.s))]) hw (by repeat (first | exact Pks.nil _ | exact Pk.here _ | apply Pk.there | apply Pks.cons)) (by repeat (first | exact Tl.here _ | apply Tl.there))
set_option maxHeartbeats 4000000 in
theorem torn_spec {w0 w : World} {M : Nat → Prop} {Fr : List Itm} {db mb : Nat} {wv : Value} {kp : Kp} (x : Wr) (hsz : x.s.size ≤ 1000000) (hst : St w0 M (blk db (.cells #[.map (some mb), wv, .bool false] 57 (0, 0)) :: mapI kvI mb (mpS kp) :: Fr) w) : Does Try.prog 35 #[.pointer (some ⟨db, 0, none⟩), .agg #[.int .i64 x.n, .string x.s]] w (fun _ w' => St w0 M (blk db (.cells #[.map (some mb), wv, .bool false] 57 (0, 0)) :: mapI kvI mb (mpS (setL kp x.n (half x.s))) :: Fr) w') := by
  refine fn_bodyX (fn := Try.f35) Try.func35 rfl [(0, .pointer (some ⟨db, 0, none⟩)), (1, .agg #[.int .i64 x.n, .string x.s])] (by exact ⟨rfl, rfl, trivial⟩) rfl hst ?_
  refine jc_seq ?_
  refine sc_region ?_
  refine so_eff (eff_box (by rfl) rfl) (by rfl) rfl ?_
  rintro _ _ ⟨b3, rfl, rfl⟩
  refine jo_nil ?_
  refine jk_then ?_
  refine so_draw [] (by kernel_rfl) (by kernel_rfl) (by kernel_rfl) rfl (by rfl) (fun hap htm => ?_)
  refine da_any hap htm (i := 0) (by rfl) (by kernel_rfl) (by rfl) (listed' := #[true, false, false, false, false, false, false, false, false, false, false, false, false, false]) (by rfl) (fun _ => (opv_move (by rfl))) (by rfl) rfl ?_
  refine da_any hap htm (i := 1) (by rfl) (by kernel_rfl) (by rfl) (listed' := #[true, true, false, false, false, false, false, false, false, false, false, false, false, false]) (by rfl) (fun _ => (opv_nilCheck (by rfl))) (by rfl) rfl ?_
  refine da_any hap htm (i := 2) (by rfl) (by kernel_rfl) (by rfl) (listed' := #[true, true, true, false, false, false, false, false, false, false, false, false, false, false]) (by rfl) (fun _ => (opv_fieldAddr (by rfl) fld57_0)) (by rfl) rfl ?_
  refine da_now [13] hap htm (i := 3) (by rfl) (by kernel_rfl) (by rfl) (listed' := #[true, true, true, true, false, false, false, false, false, false, false, false, false, false]) (by rfl) (by kernel_rfl) (by kernel_rfl) (opv_load (by rfl) na55 (rd_pk (by repeat (first | exact Pk.here _ | apply Pk.there))) (by rfl)) (by rfl) rfl ?_
  refine da_any hap htm (i := 4) (by rfl) (by kernel_rfl) (by rfl) (listed' := #[true, true, true, true, true, false, false, false, false, false, false, false, false, false]) (by rfl) (fun _ => (opv_fieldAddr (by rfl) fld59_0)) (by rfl) rfl ?_
  refine da_now [13] hap htm (i := 5) (by rfl) (by kernel_rfl) (by rfl) (listed' := #[true, true, true, true, true, true, false, false, false, false, false, false, false, false]) (by rfl) (by kernel_rfl) (by kernel_rfl) (opv_load (by rfl) na3 (rd_pk (by repeat (first | exact Pk.here _ | apply Pk.there))) (by rfl)) (by rfl) rfl ?_
  refine da_any hap htm (i := 6) (by rfl) (by kernel_rfl) (by rfl) (listed' := #[true, true, true, true, true, true, true, false, false, false, false, false, false, false]) (by rfl) (fun _ => (opv_fieldAddr (by rfl) fld59_1)) (by rfl) rfl ?_
  refine da_now [12, 13] hap htm (i := 7) (by rfl) (by kernel_rfl) (by rfl) (listed' := #[true, true, true, true, true, true, true, true, false, false, false, false, false, false]) (by rfl) (by kernel_rfl) (by kernel_rfl) (opv_load (by rfl) na9 (rd_pk (by repeat (first | exact Pk.here _ | apply Pk.there))) (by rfl)) (by rfl) rfl ?_
  refine da_any hap htm (i := 8) (by rfl) (by kernel_rfl) (by rfl) (listed' := #[true, true, true, true, true, true, true, true, true, false, false, false, false, false]) (by rfl) (fun _ => (opv_fieldAddr (by rfl) fld59_1)) (by rfl) rfl ?_
  refine da_now [10, 11, 12, 13] hap htm (i := 9) (by rfl) (by kernel_rfl) (by rfl) (listed' := #[true, true, true, true, true, true, true, true, true, true, false, false, false, false]) (by rfl) (by kernel_rfl) (by kernel_rfl) (opv_load (by rfl) na9 (rd_pk (by repeat (first | exact Pk.here _ | apply Pk.there))) (by rfl)) (by rfl) rfl ?_
  refine da_any hap htm (i := 10) (by rfl) (by kernel_rfl) (by rfl) (listed' := #[true, true, true, true, true, true, true, true, true, true, true, false, false, false]) (by rfl) (fun _ => (opv_len_string (by rfl) Try.underlying9)) (by rfl) rfl ?_
  refine da_any hap htm (i := 11) (by rfl) (by kernel_rfl) (by rfl) (listed' := #[true, true, true, true, true, true, true, true, true, true, true, true, false, false]) (by rfl) (fun _ => (opv_quo (m := (x.s.size : Int)) (n := 2) (by rfl) (by rfl) (by omega) (by omega) (wrap64_ok (by omega)))) (by rfl) rfl ?_
  refine da_any hap htm (i := 12) (by rfl) (by kernel_rfl) (by rfl) (listed' := #[true, true, true, true, true, true, true, true, true, true, true, true, true, false]) (by rfl) (fun _ => (opv_slice_string (l := 0) (h := x.s.size / 2) (by rfl) Try.underlying9 (by rfl) (by rfl) (by show ((x.s.size : Int) / 2) = ((x.s.size / 2 : Nat) : Int); omega) (by rfl) (by omega) (by omega))) (by rfl) rfl ?_
  refine da_eff0 (i := 13) (by rfl) (by kernel_rfl) (by rfl) (listed' := #[true, true, true, true, true, true, true, true, true, true, true, true, true, true]) (by rfl) (eff_mapUpdate (kv := kvI) (k := x.n) (v := .string (half x.s)) (by rfl) (by rfl) (by rfl) (KL.int Try.underlying3) Try.underlying55 (by repeat (first | exact Pk.here _ | apply Pk.there))) (fun _ _ _ _ hw => cw_nil hw) (by rfl) ?_
  rintro _ _ ⟨rfl, rfl⟩
  refine da_done (by kernel_rfl) ?_
  refine jk_fn_end0 rfl rfl (fun w hw => ?_)
  rw [mpS_set] at hw
  exact St.keep (Sb := [blk db (.cells #[.map (some mb), wv, .bool false] 57 (0, 0)), mapI kvI mb (mpS (setL kp x.n (half x.s)))]) hw (by repeat (first | exact Pks.nil _ | exact Pk.here _ | apply Pk.there | apply Pks.cons)) (by repeat (first | exact Tl.here _ | apply Tl.there))
end Go.Disks
