/- A part of a proof for the laws of the seat Ytnjhnpfippcacaa; it has no conditions of its own. -/
import Derived.Test.YtnjhnpfippcacaaProg
import Derived.Test.YtnjhnpfippcacaaPDefs
namespace Go.Pins
open Go Go.SL Go.Proofs
theorem na3 : NoAgg Try.prog 3 := by unfold NoAgg; kernel_rfl
theorem pair50 : PairT Try.prog 50 3 .i64 := ⟨Try.underlying50, Try.underlying3, info_some Try.underlying3, by kernel_rfl, na3⟩
theorem bld48_0 : ∀ (x0 : Option Nat) (w : World), (Instr.build 48 #[(0, .map x0)]).run Try.prog w = .ok (.agg #[.map x0, .slice none 0 0]) w := by intros; kernel_rfl
theorem na46 : NoAgg Try.prog 46 := by unfold NoAgg; kernel_rfl
theorem ti3 : Ti Try.prog 3 (.int .i64 0) 1 8 := by unfold Ti; kernel_rfl
theorem ti48 : Ti Try.prog 48 (.agg #[.map none, .slice none 0 0]) 2 32 := by unfold Ti; kernel_rfl
theorem ti33 : Ti Try.prog 33 (.agg #[.int .i64 0, .int .i64 0, .int .i64 0, .slice none 0 0]) 4 48 := by unfold Ti; kernel_rfl
theorem ti46 : Ti Try.prog 46 (.map none) 1 8 := by unfold Ti; kernel_rfl
theorem fld48_0 : Fld Try.prog 48 0 0 := ⟨_, _, Try.underlying48, rfl, rfl, by kernel_rfl⟩
theorem bld50_0_1 : ∀ (x0 : Int) (x1 : Int) (w : World), (Instr.build 50 #[(0, .int .i64 x0), (1, .int .i64 x1)]).run Try.prog w = .ok (.agg #[.int .i64 x0, .int .i64 x1]) w := by intros; kernel_rfl
theorem ti50 : Ti Try.prog 50 (.agg #[.int .i64 0, .int .i64 0]) 2 16 := by unfold Ti; kernel_rfl
theorem ag50 : IsAgg Try.prog 50 := by unfold IsAgg; kernel_rfl
theorem fld33_0 : Fld Try.prog 33 0 0 := ⟨_, _, Try.underlying33, rfl, rfl, by kernel_rfl⟩
theorem fld33_1 : Fld Try.prog 33 1 1 := ⟨_, _, Try.underlying33, rfl, rfl, by kernel_rfl⟩
theorem ti57 : Ti Try.prog 57 (.agg #[.int .i64 0, .int .i64 0]) 2 16 := by unfold Ti; kernel_rfl
theorem bsl31_0_ : ∀  (w : World), (Instr.buildSlice 31 0 #[]).run Try.prog w = .ok (.slice (some ⟨w.heap.size, 0, none⟩) 0 0) { w with heap := w.heap.push (.cells #[] 57) } := by intros; kernel_rfl
theorem bsl28_0_ : ∀  (w : World), (Instr.buildSlice 28 0 #[]).run Try.prog w = .ok (.slice (some ⟨w.heap.size, 0, none⟩) 0 0) { w with heap := w.heap.push (.cells #[] 33) } := by intros; kernel_rfl
theorem ag33 : IsAgg Try.prog 33 := by unfold IsAgg; kernel_rfl
theorem tx30 : Txt Try.prog 30 := by unfold Txt; kernel_rfl
theorem guard50 : Try.prog.eqGuardType Try.prog.depth 50 = false := by kernel_rfl
theorem tx24 : Txt Try.prog 24 := by unfold Txt; kernel_rfl
theorem tx23 : Txt Try.prog 23 := by unfold Txt; kernel_rfl
theorem ti31 : Ti Try.prog 31 (.slice none 0 0) 1 24 := by unfold Ti; kernel_rfl
theorem bsl28_1_0 : ∀ (x0 : Int) (x1 : Int) (x2 : Int) (x3 : Option Addr) (x3l x3c : Nat) (w : World), (Instr.buildSlice 28 1 #[(0, .agg #[.int .i64 x0, .int .i64 x1, .int .i64 x2, .slice x3 x3l x3c])]).run Try.prog w = .ok (.slice (some ⟨w.heap.size, 0, none⟩) 1 1) { w with heap := w.heap.push (.cells #[.int .i64 x0, .int .i64 x1, .int .i64 x2, .slice x3 x3l x3c] 33) } := by intros; kernel_rfl
theorem ti28 : Ti Try.prog 28 (.slice none 0 0) 1 24 := by unfold Ti; kernel_rfl
theorem fld48_1 : Fld Try.prog 48 1 1 := ⟨_, _, Try.underlying48, rfl, rfl, by kernel_rfl⟩
theorem na28 : NoAgg Try.prog 28 := by unfold NoAgg; kernel_rfl
theorem tx22 : Txt Try.prog 22 := by unfold Txt; kernel_rfl
theorem fld33_3 : Fld Try.prog 33 3 3 := ⟨_, _, Try.underlying33, rfl, rfl, by kernel_rfl⟩
theorem na31 : NoAgg Try.prog 31 := by unfold NoAgg; kernel_rfl
theorem tx25 : Txt Try.prog 25 := by unfold Txt; kernel_rfl
theorem na24 : NoAgg Try.prog 24 := by unfold NoAgg; kernel_rfl
theorem tx28 : Txt Try.prog 28 := by unfold Txt; kernel_rfl
theorem tx27 : Txt Try.prog 27 := by unfold Txt; kernel_rfl
theorem tx29 : Txt Try.prog 29 := by unfold Txt; kernel_rfl
theorem tx9 : Txt Try.prog 9 := by unfold Txt; kernel_rfl
theorem tx10 : Txt Try.prog 10 := by unfold Txt; kernel_rfl
theorem bld33_0_1_2 : ∀ (x0 : Int) (x1 : Int) (x2 : Int) (w : World), (Instr.build 33 #[(0, .int .i64 x0), (1, .int .i64 x1), (2, .int .i64 x2)]).run Try.prog w = .ok (.agg #[.int .i64 x0, .int .i64 x1, .int .i64 x2, .slice none 0 0]) w := by intros; kernel_rfl
theorem tx14 : Txt Try.prog 14 := by unfold Txt; kernel_rfl
theorem bld33_0_1 : ∀ (x0 : Int) (x1 : Int) (w : World), (Instr.build 33 #[(0, .int .i64 x0), (1, .int .i64 x1)]).run Try.prog w = .ok (.agg #[.int .i64 x0, .int .i64 x1, .int .i64 0, .slice none 0 0]) w := by intros; kernel_rfl
theorem tx17 : Txt Try.prog 17 := by unfold Txt; kernel_rfl
theorem tx12 : Txt Try.prog 12 := by unfold Txt; kernel_rfl
theorem fld33_2 : Fld Try.prog 33 2 2 := ⟨_, _, Try.underlying33, rfl, rfl, by kernel_rfl⟩
theorem tx19 : Txt Try.prog 19 := by unfold Txt; kernel_rfl
theorem tx20 : Txt Try.prog 20 := by unfold Txt; kernel_rfl
theorem tx8 : Txt Try.prog 8 := by unfold Txt; kernel_rfl
theorem guard57 : Try.prog.eqGuardType Try.prog.depth 57 = false := by kernel_rfl
theorem two57 : TwoI Try.prog 57 .i64 := ⟨_, _, Try.underlying57, by decide, by decide, Try.underlying3, Try.underlying3, na3, na3, rfl, rfl, by kernel_rfl⟩
theorem ag57 : IsAgg Try.prog 57 := by unfold IsAgg; kernel_rfl
theorem tx31 : Txt Try.prog 31 := by unfold Txt; kernel_rfl
theorem tx26 : Txt Try.prog 26 := by unfold Txt; kernel_rfl
theorem tx16 : Txt Try.prog 16 := by unfold Txt; kernel_rfl
theorem ag35 : IsAgg Try.prog 35 := by unfold IsAgg; kernel_rfl
theorem ti35 : Ti Try.prog 35 (.agg #[.int .i64 0, .int .i64 0, .int .i64 0, .int .i64 0, .int .i64 0, .int .i64 0, .slice none 0 0]) 7 72 := by unfold Ti; kernel_rfl
theorem fld35_0 : Fld Try.prog 35 0 0 := ⟨_, _, Try.underlying35, rfl, rfl, by kernel_rfl⟩
theorem fld35_1 : Fld Try.prog 35 1 1 := ⟨_, _, Try.underlying35, rfl, rfl, by kernel_rfl⟩
theorem fld35_2 : Fld Try.prog 35 2 2 := ⟨_, _, Try.underlying35, rfl, rfl, by kernel_rfl⟩
theorem fld35_3 : Fld Try.prog 35 3 3 := ⟨_, _, Try.underlying35, rfl, rfl, by kernel_rfl⟩
theorem ti52 : Ti Try.prog 52 (.agg #[.int .i64 0, .int .i64 0]) 2 16 := by unfold Ti; kernel_rfl
theorem ag52 : IsAgg Try.prog 52 := by unfold IsAgg; kernel_rfl
theorem ti27 : Ti Try.prog 27 (.slice none 0 0) 1 24 := by unfold Ti; kernel_rfl
theorem na27 : NoAgg Try.prog 27 := by unfold NoAgg; kernel_rfl
theorem bsl27_1_0 : ∀ (x0 : Int) (x1 : Int) (w : World), (Instr.buildSlice 27 1 #[(0, .agg #[.int .i64 x0, .int .i64 x1])]).run Try.prog w = .ok (.slice (some ⟨w.heap.size, 0, none⟩) 1 1) { w with heap := w.heap.push (.cells #[.int .i64 x0, .int .i64 x1] 52) } := by intros; kernel_rfl
theorem fld30_0 : Fld Try.prog 30 0 0 := ⟨_, _, Try.underlying30, rfl, rfl, by kernel_rfl⟩
theorem bld52_0_1 : ∀ (x0 : Int) (x1 : Int) (w : World), (Instr.build 52 #[(0, .int .i64 x0), (1, .int .i64 x1)]).run Try.prog w = .ok (.agg #[.int .i64 x0, .int .i64 x1]) w := by intros; kernel_rfl
theorem fld52_0 : Fld Try.prog 52 0 0 := ⟨_, _, Try.underlying52, rfl, rfl, by kernel_rfl⟩
theorem fld52_1 : Fld Try.prog 52 1 1 := ⟨_, _, Try.underlying52, rfl, rfl, by kernel_rfl⟩
theorem fld30_1 : Fld Try.prog 30 1 1 := ⟨_, _, Try.underlying30, rfl, rfl, by kernel_rfl⟩
theorem tx21 : Txt Try.prog 21 := by unfold Txt; kernel_rfl
theorem bld30_ : ∀  (w : World), (Instr.build 30 #[]).run Try.prog w = .ok (.agg #[.slice none 0 0, .slice none 0 0]) w := by intros; kernel_rfl
theorem tx11 : Txt Try.prog 11 := by unfold Txt; kernel_rfl
theorem tx13 : Txt Try.prog 13 := by unfold Txt; kernel_rfl
theorem tx15 : Txt Try.prog 15 := by unfold Txt; kernel_rfl
theorem tx18 : Txt Try.prog 18 := by unfold Txt; kernel_rfl
end Go.Pins
