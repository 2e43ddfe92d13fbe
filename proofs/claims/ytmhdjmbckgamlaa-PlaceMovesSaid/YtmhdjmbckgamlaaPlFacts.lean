/- A part of a proof for the laws of the seat Ytmhdjmbckgamlaa; it has no conditions of its own. -/
import Derived.Test.YtmhdjmbckgamlaaProg
import Derived.Test.YtmhdjmbckgamlaaPlDefs
namespace Go.Place
open Go Go.SL Go.Proofs
theorem ti3 : Ti Try.prog 3 (.int .i64 0) 1 8 := by unfold Ti; kernel_rfl
theorem na3 : NoAgg Try.prog 3 := by unfold NoAgg; kernel_rfl
theorem ti22 : Ti Try.prog 22 (.slice none 0 0) 1 24 := by unfold Ti; kernel_rfl
theorem na22 : NoAgg Try.prog 22 := by unfold NoAgg; kernel_rfl
theorem tx30 : Txt Try.prog 30 := by unfold Txt; kernel_rfl
theorem bsl22_12_0_1_2_3_4_5_6_7_8_9_10_11 : ∀ (x0 : Int) (x1 : Int) (x2 : Int) (x3 : Int) (x4 : Int) (x5 : Int) (x6 : Int) (x7 : Int) (x8 : Int) (x9 : Int) (x10 : Int) (x11 : Int) (w : World), (Instr.buildSlice 22 12 #[(0, .int .i64 x0), (1, .int .i64 x1), (2, .int .i64 x2), (3, .int .i64 x3), (4, .int .i64 x4), (5, .int .i64 x5), (6, .int .i64 x6), (7, .int .i64 x7), (8, .int .i64 x8), (9, .int .i64 x9), (10, .int .i64 x10), (11, .int .i64 x11)]).run Try.prog w = .ok (.slice (some ⟨w.heap.size, 0, none⟩) 12 12) { w with heap := w.heap.push (.cells #[.int .i64 x0, .int .i64 x1, .int .i64 x2, .int .i64 x3, .int .i64 x4, .int .i64 x5, .int .i64 x6, .int .i64 x7, .int .i64 x8, .int .i64 x9, .int .i64 x10, .int .i64 x11] 3) } := by intros; kernel_rfl
theorem bsl22_1_0 : ∀ (x0 : Int) (w : World), (Instr.buildSlice 22 1 #[(0, .int .i64 x0)]).run Try.prog w = .ok (.slice (some ⟨w.heap.size, 0, none⟩) 1 1) { w with heap := w.heap.push (.cells #[.int .i64 x0] 3) } := by intros; kernel_rfl
theorem tx29 : Txt Try.prog 29 := by unfold Txt; kernel_rfl
theorem tx20 : Txt Try.prog 20 := by unfold Txt; kernel_rfl
theorem tx21 : Txt Try.prog 21 := by unfold Txt; kernel_rfl
theorem tx22 : Txt Try.prog 22 := by unfold Txt; kernel_rfl
theorem tx23 : Txt Try.prog 23 := by unfold Txt; kernel_rfl
theorem na26 : NoAgg Try.prog 26 := by unfold NoAgg; kernel_rfl
theorem ti26 : Ti Try.prog 26 (.int .i64 0) 1 8 := by unfold Ti; kernel_rfl
theorem tx24 : Txt Try.prog 24 := by unfold Txt; kernel_rfl
theorem tx25 : Txt Try.prog 25 := by unfold Txt; kernel_rfl
theorem ag36 : IsAgg Try.prog 36 := by unfold IsAgg; kernel_rfl
theorem ti36 : Ti Try.prog 36 (.agg #[.int .i64 0, .int .i64 0, .int .i64 0, .slice none 0 0]) 4 48 := by unfold Ti; kernel_rfl
theorem ag45 : IsAgg Try.prog 45 := by unfold IsAgg; kernel_rfl
theorem ti45 : Ti Try.prog 45 (.agg #[.int .i64 0, .int .i64 0]) 2 16 := by unfold Ti; kernel_rfl
theorem na34 : NoAgg Try.prog 34 := by unfold NoAgg; kernel_rfl
theorem ti34 : Ti Try.prog 34 (.slice none 0 0) 1 24 := by unfold Ti; kernel_rfl
theorem fld36_3 : Fld Try.prog 36 3 3 := ⟨_, _, Try.underlying36, rfl, rfl, by kernel_rfl⟩
theorem fld45_0 : Fld Try.prog 45 0 0 := ⟨_, _, Try.underlying45, rfl, rfl, by kernel_rfl⟩
theorem tx26 : Txt Try.prog 26 := by unfold Txt; kernel_rfl
theorem tx17 : Txt Try.prog 17 := by unfold Txt; kernel_rfl
theorem tx27 : Txt Try.prog 27 := by unfold Txt; kernel_rfl
theorem tx28 : Txt Try.prog 28 := by unfold Txt; kernel_rfl
theorem tx18 : Txt Try.prog 18 := by unfold Txt; kernel_rfl
theorem tx19 : Txt Try.prog 19 := by unfold Txt; kernel_rfl
theorem tx10 : Txt Try.prog 10 := by unfold Txt; kernel_rfl
theorem bsl22_2_0_1 : ∀ (x0 : Int) (x1 : Int) (w : World), (Instr.buildSlice 22 2 #[(0, .int .i64 x0), (1, .int .i64 x1)]).run Try.prog w = .ok (.slice (some ⟨w.heap.size, 0, none⟩) 2 2) { w with heap := w.heap.push (.cells #[.int .i64 x0, .int .i64 x1] 3) } := by intros; kernel_rfl
theorem bsl22_3_0_1_2 : ∀ (x0 : Int) (x1 : Int) (x2 : Int) (w : World), (Instr.buildSlice 22 3 #[(0, .int .i64 x0), (1, .int .i64 x1), (2, .int .i64 x2)]).run Try.prog w = .ok (.slice (some ⟨w.heap.size, 0, none⟩) 3 3) { w with heap := w.heap.push (.cells #[.int .i64 x0, .int .i64 x1, .int .i64 x2] 3) } := by intros; kernel_rfl
theorem tx12 : Txt Try.prog 12 := by unfold Txt; kernel_rfl
theorem bld45_0 : ∀ (x0 : Int) (w : World), (Instr.build 45 #[(0, .int .i64 x0)]).run Try.prog w = .ok (.agg #[.int .i64 x0, .int .i64 0]) w := by intros; kernel_rfl
theorem bld45_0_1 : ∀ (x0 : Int) (x1 : Int) (w : World), (Instr.build 45 #[(0, .int .i64 x0), (1, .int .i64 x1)]).run Try.prog w = .ok (.agg #[.int .i64 x0, .int .i64 x1]) w := by intros; kernel_rfl
theorem bsl34_3_0_1_2 : ∀ (x0 : Int) (x1 : Int) (x2 : Int) (x3 : Int) (x4 : Int) (x5 : Int) (w : World), (Instr.buildSlice 34 3 #[(0, .agg #[.int .i64 x0, .int .i64 x1]), (1, .agg #[.int .i64 x2, .int .i64 x3]), (2, .agg #[.int .i64 x4, .int .i64 x5])]).run Try.prog w = .ok (.slice (some ⟨w.heap.size, 0, none⟩) 3 3) { w with heap := w.heap.push (.cells #[.int .i64 x0, .int .i64 x1, .int .i64 x2, .int .i64 x3, .int .i64 x4, .int .i64 x5] 45) } := by intros; kernel_rfl
theorem bld36_3 : ∀ (x0 : Option Addr) (x0l x0c : Nat) (w : World), (Instr.build 36 #[(3, .slice x0 x0l x0c)]).run Try.prog w = .ok (.agg #[.int .i64 0, .int .i64 0, .int .i64 0, .slice x0 x0l x0c]) w := by intros; kernel_rfl
theorem bsl33_1_0 : ∀ (x0 : Int) (x1 : Int) (x2 : Int) (x3 : Option Addr) (x3l x3c : Nat) (w : World), (Instr.buildSlice 33 1 #[(0, .agg #[.int .i64 x0, .int .i64 x1, .int .i64 x2, .slice x3 x3l x3c])]).run Try.prog w = .ok (.slice (some ⟨w.heap.size, 0, none⟩) 1 1) { w with heap := w.heap.push (.cells #[.int .i64 x0, .int .i64 x1, .int .i64 x2, .slice x3 x3l x3c] 36) } := by intros; kernel_rfl
theorem bsl34_2_0_1 : ∀ (x0 : Int) (x1 : Int) (x2 : Int) (x3 : Int) (w : World), (Instr.buildSlice 34 2 #[(0, .agg #[.int .i64 x0, .int .i64 x1]), (1, .agg #[.int .i64 x2, .int .i64 x3])]).run Try.prog w = .ok (.slice (some ⟨w.heap.size, 0, none⟩) 2 2) { w with heap := w.heap.push (.cells #[.int .i64 x0, .int .i64 x1, .int .i64 x2, .int .i64 x3] 45) } := by intros; kernel_rfl
theorem tx15 : Txt Try.prog 15 := by unfold Txt; kernel_rfl
theorem bsl22_9_0_1_2_3_4_5_6_7_8 : ∀ (x0 : Int) (x1 : Int) (x2 : Int) (x3 : Int) (x4 : Int) (x5 : Int) (x6 : Int) (x7 : Int) (x8 : Int) (w : World), (Instr.buildSlice 22 9 #[(0, .int .i64 x0), (1, .int .i64 x1), (2, .int .i64 x2), (3, .int .i64 x3), (4, .int .i64 x4), (5, .int .i64 x5), (6, .int .i64 x6), (7, .int .i64 x7), (8, .int .i64 x8)]).run Try.prog w = .ok (.slice (some ⟨w.heap.size, 0, none⟩) 9 9) { w with heap := w.heap.push (.cells #[.int .i64 x0, .int .i64 x1, .int .i64 x2, .int .i64 x3, .int .i64 x4, .int .i64 x5, .int .i64 x6, .int .i64 x7, .int .i64 x8] 3) } := by intros; kernel_rfl
theorem tx14 : Txt Try.prog 14 := by unfold Txt; kernel_rfl
theorem fld24_0 : Fld Try.prog 24 0 0 := ⟨_, _, Try.underlying24, rfl, rfl, by kernel_rfl⟩
theorem fld24_1 : Fld Try.prog 24 1 1 := ⟨_, _, Try.underlying24, rfl, rfl, by kernel_rfl⟩
theorem fld24_2 : Fld Try.prog 24 2 2 := ⟨_, _, Try.underlying24, rfl, rfl, by kernel_rfl⟩
theorem fld24_3 : Fld Try.prog 24 3 3 := ⟨_, _, Try.underlying24, rfl, rfl, by kernel_rfl⟩
theorem tx9 : Txt Try.prog 9 := by unfold Txt; kernel_rfl
theorem tx11 : Txt Try.prog 11 := by unfold Txt; kernel_rfl
theorem tx13 : Txt Try.prog 13 := by unfold Txt; kernel_rfl
theorem tx16 : Txt Try.prog 16 := by unfold Txt; kernel_rfl
theorem bsl34_1_0 : ∀ (x0 : Int) (x1 : Int) (w : World), (Instr.buildSlice 34 1 #[(0, .agg #[.int .i64 x0, .int .i64 x1])]).run Try.prog w = .ok (.slice (some ⟨w.heap.size, 0, none⟩) 1 1) { w with heap := w.heap.push (.cells #[.int .i64 x0, .int .i64 x1] 45) } := by intros; kernel_rfl
theorem bld36_0 : ∀ (x0 : Int) (w : World), (Instr.build 36 #[(0, .int .i64 x0)]).run Try.prog w = .ok (.agg #[.int .i64 x0, .int .i64 0, .int .i64 0, .slice none 0 0]) w := by intros; kernel_rfl
end Go.Place
