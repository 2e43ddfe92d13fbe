/- Behind a crash that tears nothing each sector is as it was flushed, or as one of the writes that waited for it: DisksCrash answers true for every two lists of calls and every list of truths. No conditions. -/
import Derived.Test.YthkafociknhgaaaRows
import Derived.Test.YthkafociknhgaaaDkL3
import Derived.Test.YthkafociknhgaaaDkFits
import Derived.WalkKit
import Derived.ProofKit
import Derived.SizedLaws
import Derived.OpenShut
import Derived.ShutString
import Derived.ChangeOld
import Derived.Below
namespace Go.Proofs.Ythkafociknhgaaa.disksCrash
open Go.ChangeShapes Go.WideShapes Go.ChangeAt Go.RowKit Go.SL Go.Disks
set_option linter.unusedVariables false
theorem own0 : ownKnob Try.prog.godebug = none := by kernel_rfl
theorem laidOut : laidOutB Try.prog = true := by kernel_rfl
set_option maxRecDepth 100000 in
theorem lifted (os : Os) (started : os.Started) (H : Type) (enc : TypeId × Value → H) :
    ReturnsInHanded {} Try.checked os 3 .any (Rows.disksCrashSpec.pre6 enc Try.prog Try.f3 Rows.disksCrashRow.domain false) (Rows.disksCrashSpec.post enc Try.prog Try.f3 false true false false) := by
  refine returnsInHanded_of_change_sized (C := Try.checked) own0 started (by kernel_rfl) Try.func3
    (ChangeSpec.witness6 (enc := enc) (C := Try.checked) false ⟨#[], #[.slice none 0 0, .slice none 0 0, .slice none 0 0], []⟩ 8 (by kernel_rfl) (by kernel_rfl) (by kernel_rfl) (by kernel_rfl)) ?_
  intro W base args ds gs before hval0 hW hcnd hsz0 _
  have hval : ∀ (j : Nat) t v, Try.f3.params[j]? = some t → args[j]? = some v → Value.okWide Try.prog W .any base t v := hval0
  have hW' := hW
  obtain ⟨p, q, hA0, hV, rfl, hfz, hnd⟩ := hW
  have hA : DataW.TrodAll enc Try.prog W 0 (fun _ => true) true Try.f3.params.toList args.toList ds p := hA0
  rw [Try.params3] at hA hval
  obtain ⟨v0, vs0, d0, ds0, p0, q0, hargs, rfl, rfl, h0, r0⟩ := trodAll_cons hA
  obtain ⟨v1, vs1, d1, ds1, p1, q1, rfl, rfl, rfl, h1, r1⟩ := trodAll_cons r0
  obtain ⟨v2, vs2, d2, ds2, p2, q2, rfl, rfl, rfl, h2, r2⟩ := trodAll_cons r1
  obtain ⟨rfl, rfl, rfl⟩ := trodAll_nil r2
  obtain rfl : args = #[v0, v1, v2] := by cases args; simp_all
  obtain ⟨rfl, rfl⟩ := trodVars_none hV
  have hsz : (DataW.weightsEach Try.prog (Try.f3.params.toList ++ Rows.disksCrashSpec.plain.varTypes Try.prog) ([d0, d1, d2] ++ [])).all (· ≤ reachBytes) = true := hsz0
  rw [Try.params3] at hsz
  have wt0 : ∀ n ∈ d0.weights Try.prog 22, n ≤ reachBytes := fun n hn => by have := List.all_eq_true.1 hsz _ (DataW.weights_mem_each (j := 0) rfl rfl n hn); simpa using this
  have wt1 : ∀ n ∈ d1.weights Try.prog 22, n ≤ reachBytes := fun n hn => by have := List.all_eq_true.1 hsz _ (DataW.weights_mem_each (j := 1) rfl rfl n hn); simpa using this
  have wt2 : ∀ n ∈ d2.weights Try.prog 23, n ≤ reachBytes := fun n hn => by have := List.all_eq_true.1 hsz _ (DataW.weights_mem_each (j := 2) rfl rfl n hn); simpa using this
  obtain ⟨a0, len0, cap0, rfl⟩ := okWide_slice Try.underlying22 (hval 0 22 v0 rfl rfl)
  have lt0 : ∀ x ∈ p0, x.block < W.heap.size := by obtain ⟨m, hm⟩ := h0; exact DataW.trod_lt m _ _ _ hm
  obtain ⟨⟨xs0, s0, e0⟩, hl0, hm0, hb0⟩ := slr_of_trodW Try.underlying22 (by kernel_rfl) (by omega) OpD.cells_len OpD.of_trod (by obtain ⟨m, hm⟩ := h0; exact ⟨m, _, hm, wt0⟩)
  have hm0' : len0 ≤ 9223372036854775807 := by have h := Nat.le_trans hl0 hm0; unfold maxLen at h; exact h
  obtain ⟨a1, len1, cap1, rfl⟩ := okWide_slice Try.underlying22 (hval 1 22 v1 rfl rfl)
  have lt1 : ∀ x ∈ p1, x.block < W.heap.size := by obtain ⟨m, hm⟩ := h1; exact DataW.trod_lt m _ _ _ hm
  obtain ⟨⟨xs1, s1, e1⟩, hl1, hm1, hb1⟩ := slr_of_trodW Try.underlying22 (by kernel_rfl) (by omega) OpD.cells_len OpD.of_trod (by obtain ⟨m, hm⟩ := h1; exact ⟨m, _, hm, wt1⟩)
  have hm1' : len1 ≤ 9223372036854775807 := by have h := Nat.le_trans hl1 hm1; unfold maxLen at h; exact h
  obtain ⟨a2, len2, cap2, rfl⟩ := okWide_slice Try.underlying23 (hval 2 23 v2 rfl rfl)
  have lt2 : ∀ x ∈ p2, x.block < W.heap.size := by obtain ⟨m, hm⟩ := h2; exact DataW.trod_lt m _ _ _ hm
  obtain ⟨⟨xs2, s2, e2⟩, hl2, hm2, hb2⟩ := slr_of_trodW Try.underlying23 (by kernel_rfl) (by omega) bc_len bc_of_trod (by obtain ⟨m, hm⟩ := h2; exact ⟨m, _, hm, wt2⟩)
  have hm2' : len2 ≤ 9223372036854775807 := by have h := Nat.le_trans hl2 hm2; unfold maxLen at h; exact h
  clear hA0 hval0
  refine ((law_crash W a0 len0 cap0 xs0 s0 e0 hm0' a1 len1 cap1 xs1 s1 e1 hm1' a2 len2 cap2 xs2 s2 hm2').calls).mono fun e W' ⟨v, he, hv, hst⟩ => ?_
  subst he; subst hv
  have bel := hst.below
  exact ⟨_, rfl, _, _, _, [], _, [], hW', trodAll_mk1 (shut_bool Try.underlying4 _), (trodAll_cons_mk (Below.trod laidOut (by kernel_rfl) (of_decide_eq_true (by kernel_rfl)) h0 bel lt0) (trodAll_cons_mk (Below.trod laidOut (by kernel_rfl) (of_decide_eq_true (by kernel_rfl)) h1 bel lt1) (trodAll_cons_mk (Below.trod laidOut (by kernel_rfl) (of_decide_eq_true (by kernel_rfl)) h2 bel lt2) trodAll_mk0))), rfl, bel.frame _, fun h => by cases h⟩
theorem over : Rows.disksCrashRow.holds Try.pinned (OpenSpec.ofChange Rows.disksCrashSpec) :=
  OpenClaim.holds_of_wide 3 Try.f3 rfl rfl rfl rfl rfl rfl rfl ⟨rfl, rfl, rfl, rfl, rfl⟩ rfl rfl rfl rfl rfl (by kernel_rfl) Try.func3 (by kernel_rfl)
    (of_decide_eq_true (by kernel_rfl)) (by unfold Func.isWrapper; first | (rw [if_pos (by decide +kernel)]; kernel_rfl) | (rw [if_neg (by decide +kernel)]; exact ⟨rfl, rfl⟩))
    (fun os started H enc _ => lifted os started H enc)
end Go.Proofs.Ythkafociknhgaaa.disksCrash
namespace Go.Proofs.Ythkafociknhgaaa
theorem disksCrash_holds : Rows.DisksCrashSaid := disksCrash.over
end Go.Proofs.Ythkafociknhgaaa
