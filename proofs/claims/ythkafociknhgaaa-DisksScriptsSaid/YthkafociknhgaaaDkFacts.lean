/- A part of a proof for the laws of the seat Ythkafociknhgaaa; it has no conditions of its own. -/
import Derived.Test.YthkafociknhgaaaProg
import Derived.Test.YthkafociknhgaaaDkDefs
namespace Go.Disks
open Go Go.SL Go.Proofs
theorem ti3 : Ti Try.prog 3 (.int .i64 0) 1 8 := by unfold Ti; kernel_rfl
theorem na3 : NoAgg Try.prog 3 := by unfold NoAgg; kernel_rfl
theorem ti4 : Ti Try.prog 4 (.bool false) 1 1 := by unfold Ti; kernel_rfl
theorem na4 : NoAgg Try.prog 4 := by unfold NoAgg; kernel_rfl
theorem ti9 : Ti Try.prog 9 (.string ⟨#[]⟩) 1 16 := by unfold Ti; kernel_rfl
theorem na9 : NoAgg Try.prog 9 := by unfold NoAgg; kernel_rfl
theorem ti27 : Ti Try.prog 27 (.int .i64 0) 1 8 := by unfold Ti; kernel_rfl
theorem na27 : NoAgg Try.prog 27 := by unfold NoAgg; kernel_rfl
theorem ti47 : Ti Try.prog 47 (.pointer none) 1 8 := by unfold Ti; kernel_rfl
theorem na47 : NoAgg Try.prog 47 := by unfold NoAgg; kernel_rfl
theorem ti54 : Ti Try.prog 54 (.slice none 0 0) 1 24 := by unfold Ti; kernel_rfl
theorem na54 : NoAgg Try.prog 54 := by unfold NoAgg; kernel_rfl
theorem ti55 : Ti Try.prog 55 (.map none) 1 8 := by unfold Ti; kernel_rfl
theorem na55 : NoAgg Try.prog 55 := by unfold NoAgg; kernel_rfl
theorem ti48 : Ti Try.prog 48 (.agg #[.pointer none, .pointer none, .pointer none, .pointer none, .pointer none, .pointer none, .pointer none, .pointer none, .pointer none, .pointer none, .pointer none, .pointer none]) 12 96 := by unfold Ti; kernel_rfl
theorem ag48 : IsAgg Try.prog 48 := by unfold IsAgg; kernel_rfl
theorem ti50 : Ti Try.prog 50 (.agg #[.pointer none, .pointer none, .pointer none, .pointer none, .pointer none, .pointer none, .pointer none, .pointer none, .pointer none, .pointer none, .pointer none, .pointer none]) 12 96 := by unfold Ti; kernel_rfl
theorem ag50 : IsAgg Try.prog 50 := by unfold IsAgg; kernel_rfl
theorem ti57 : Ti Try.prog 57 (.agg #[.map none, .slice none 0 0, .bool false]) 3 40 := by unfold Ti; kernel_rfl
theorem ag57 : IsAgg Try.prog 57 := by unfold IsAgg; kernel_rfl
theorem ti59 : Ti Try.prog 59 (.agg #[.int .i64 0, .string ⟨#[]⟩]) 2 24 := by unfold Ti; kernel_rfl
theorem ag59 : IsAgg Try.prog 59 := by unfold IsAgg; kernel_rfl
theorem bld57_0 : ∀ (x0 : Option Nat) (w : World), (Instr.build 57 #[(0, .map x0)]).run Try.prog w = .ok (.agg #[.map x0, .slice none 0 0, .bool false]) w := by intros; kernel_rfl
theorem tx37 : Txt Try.prog 37 := by unfold Txt; kernel_rfl
theorem fld50_0 : Fld Try.prog 50 0 0 := ⟨_, _, Try.underlying50, rfl, rfl, by kernel_rfl⟩
theorem fld57_2 : Fld Try.prog 57 2 2 := ⟨_, _, Try.underlying57, rfl, rfl, by kernel_rfl⟩
theorem bsl54_1_0 : ∀ (x0 : Int) (x1 : ByteArray) (w : World), (Instr.buildSlice 54 1 #[(0, .agg #[.int .i64 x0, .string x1])]).run Try.prog w = .ok (.slice (some ⟨w.heap.size, 0, none⟩) 1 1) { w with heap := w.heap.push (.cells #[.int .i64 x0, .string x1] 59) } := by intros; kernel_rfl
theorem tx27 : Txt Try.prog 27 := by unfold Txt; kernel_rfl
theorem fld57_1 : Fld Try.prog 57 1 1 := ⟨_, _, Try.underlying57, rfl, rfl, by kernel_rfl⟩
theorem bld59_0_1 : ∀ (x0 : Int) (x1 : ByteArray) (w : World), (Instr.build 59 #[(0, .int .i64 x0), (1, .string x1)]).run Try.prog w = .ok (.agg #[.int .i64 x0, .string x1]) w := by intros; kernel_rfl
theorem bld57_2 : ∀ (x0 : Bool) (w : World), (Instr.build 57 #[(2, .bool x0)]).run Try.prog w = .ok (.agg #[.map none, .slice none 0 0, .bool x0]) w := by intros; kernel_rfl
theorem tx26 : Txt Try.prog 26 := by unfold Txt; kernel_rfl
theorem ti42 : Ti Try.prog 42 (.slice none 0 0) 1 24 := by unfold Ti; kernel_rfl
theorem na42 : NoAgg Try.prog 42 := by unfold NoAgg; kernel_rfl
theorem bsl42_1_0 : ∀ (x0 : Int) (w : World), (Instr.buildSlice 42 1 #[(0, .int .i64 x0)]).run Try.prog w = .ok (.slice (some ⟨w.heap.size, 0, none⟩) 1 1) { w with heap := w.heap.push (.cells #[.int .i64 x0] 3) } := by intros; kernel_rfl
theorem bld50_ : ∀  (w : World), (Instr.build 50 #[]).run Try.prog w = .ok (.agg #[.pointer none, .pointer none, .pointer none, .pointer none, .pointer none, .pointer none, .pointer none, .pointer none, .pointer none, .pointer none, .pointer none, .pointer none]) w := by intros; kernel_rfl
theorem fld57_0 : Fld Try.prog 57 0 0 := ⟨_, _, Try.underlying57, rfl, rfl, by kernel_rfl⟩
theorem fld59_0 : Fld Try.prog 59 0 0 := ⟨_, _, Try.underlying59, rfl, rfl, by kernel_rfl⟩
theorem fld59_1 : Fld Try.prog 59 1 1 := ⟨_, _, Try.underlying59, rfl, rfl, by kernel_rfl⟩
theorem tx30 : Txt Try.prog 30 := by unfold Txt; kernel_rfl
theorem tx35 : Txt Try.prog 35 := by unfold Txt; kernel_rfl
theorem tx28 : Txt Try.prog 28 := by unfold Txt; kernel_rfl
theorem tx29 : Txt Try.prog 29 := by unfold Txt; kernel_rfl
theorem na66 : NoAgg Try.prog 66 := by unfold NoAgg; kernel_rfl
theorem na23 : NoAgg Try.prog 23 := by unfold NoAgg; kernel_rfl
theorem tx33 : Txt Try.prog 33 := by unfold Txt; kernel_rfl
theorem ti66 : Ti Try.prog 66 (.nilFunc) 1 8 := by unfold Ti; kernel_rfl
theorem tx34 : Txt Try.prog 34 := by unfold Txt; kernel_rfl
theorem tx47 : Txt Try.prog 47 := by unfold Txt; kernel_rfl
theorem tx36 : Txt Try.prog 36 := by unfold Txt; kernel_rfl
theorem bsl54_0_ : ∀  (w : World), (Instr.buildSlice 54 0 #[]).run Try.prog w = .ok (.slice (some ⟨w.heap.size, 0, none⟩) 0 0) { w with heap := w.heap.push (.cells #[] 59) } := by intros; kernel_rfl
theorem tx31 : Txt Try.prog 31 := by unfold Txt; kernel_rfl
theorem tx32 : Txt Try.prog 32 := by unfold Txt; kernel_rfl
theorem bld57_0_1_2 : ∀ (x0 : Option Nat) (x1 : Option Addr) (x1l x1c : Nat) (x2 : Bool) (w : World), (Instr.build 57 #[(0, .map x0), (1, .slice x1 x1l x1c), (2, .bool x2)]).run Try.prog w = .ok (.agg #[.map x0, .slice x1 x1l x1c, .bool x2]) w := by intros; kernel_rfl
theorem tx9 : Txt Try.prog 9 := by unfold Txt; kernel_rfl
theorem tx10 : Txt Try.prog 10 := by unfold Txt; kernel_rfl
theorem tx11 : Txt Try.prog 11 := by unfold Txt; kernel_rfl
theorem tx15 : Txt Try.prog 15 := by unfold Txt; kernel_rfl
theorem tx12 : Txt Try.prog 12 := by unfold Txt; kernel_rfl
theorem bsl23_1_0 : ∀ (x0 : Bool) (w : World), (Instr.buildSlice 23 1 #[(0, .bool x0)]).run Try.prog w = .ok (.slice (some ⟨w.heap.size, 0, none⟩) 1 1) { w with heap := w.heap.push (.cells #[.bool x0] 4) } := by intros; kernel_rfl
theorem tx13 : Txt Try.prog 13 := by unfold Txt; kernel_rfl
theorem tx14 : Txt Try.prog 14 := by unfold Txt; kernel_rfl
theorem tx24 : Txt Try.prog 24 := by unfold Txt; kernel_rfl
theorem tx25 : Txt Try.prog 25 := by unfold Txt; kernel_rfl
theorem tx19 : Txt Try.prog 19 := by unfold Txt; kernel_rfl
theorem tx23 : Txt Try.prog 23 := by unfold Txt; kernel_rfl
theorem tx8 : Txt Try.prog 8 := by unfold Txt; kernel_rfl
theorem ti22 : Ti Try.prog 22 (.slice none 0 0) 1 24 := by unfold Ti; kernel_rfl
theorem ti23 : Ti Try.prog 23 (.slice none 0 0) 1 24 := by unfold Ti; kernel_rfl
theorem ti30 : Ti Try.prog 30 (.agg #[.int .i64 0, .int .i64 0, .int .i64 0, .string ⟨#[]⟩, .slice none 0 0, .slice none 0 0]) 6 88 := by unfold Ti; kernel_rfl
theorem fld30_1 : Fld Try.prog 30 1 1 := ⟨_, _, Try.underlying30, rfl, rfl, by kernel_rfl⟩
theorem fld30_2 : Fld Try.prog 30 2 2 := ⟨_, _, Try.underlying30, rfl, rfl, by kernel_rfl⟩
theorem fld30_3 : Fld Try.prog 30 3 3 := ⟨_, _, Try.underlying30, rfl, rfl, by kernel_rfl⟩
theorem ag30 : IsAgg Try.prog 30 := by unfold IsAgg; kernel_rfl
theorem tx50 : Txt Try.prog 50 := by unfold Txt; kernel_rfl
theorem tx45 : Txt Try.prog 45 := by unfold Txt; kernel_rfl
theorem tx44 : Txt Try.prog 44 := by unfold Txt; kernel_rfl
theorem fld30_0 : Fld Try.prog 30 0 0 := ⟨_, _, Try.underlying30, rfl, rfl, by kernel_rfl⟩
theorem ti71 : Ti Try.prog 71 (.slice none 0 0) 1 24 := by unfold Ti; kernel_rfl
theorem na71 : NoAgg Try.prog 71 := by unfold NoAgg; kernel_rfl
theorem ti74 : Ti Try.prog 74 (.pointer none) 1 8 := by unfold Ti; kernel_rfl
theorem na74 : NoAgg Try.prog 74 := by unfold NoAgg; kernel_rfl
theorem ti75 : Ti Try.prog 75 (.slice none 0 0) 1 24 := by unfold Ti; kernel_rfl
theorem na75 : NoAgg Try.prog 75 := by unfold NoAgg; kernel_rfl
theorem ti76 : Ti Try.prog 76 (.slice none 0 0) 1 24 := by unfold Ti; kernel_rfl
theorem na76 : NoAgg Try.prog 76 := by unfold NoAgg; kernel_rfl
theorem ti81 : Ti Try.prog 81 (.agg #[.int .i64 0, .string ⟨#[]⟩]) 2 24 := by unfold Ti; kernel_rfl
theorem ag81 : IsAgg Try.prog 81 := by unfold IsAgg; kernel_rfl
theorem ti78 : Ti Try.prog 78 (.agg #[.slice none 0 0, .slice none 0 0, .bool false]) 3 56 := by unfold Ti; kernel_rfl
theorem ag78 : IsAgg Try.prog 78 := by unfold IsAgg; kernel_rfl
theorem fld73_0 : Fld Try.prog 73 0 0 := ⟨_, _, Try.underlying73, rfl, rfl, by kernel_rfl⟩
theorem fld78_2 : Fld Try.prog 78 2 2 := ⟨_, _, Try.underlying78, rfl, rfl, by kernel_rfl⟩
theorem tx43 : Txt Try.prog 43 := by unfold Txt; kernel_rfl
theorem fld78_0 : Fld Try.prog 78 0 0 := ⟨_, _, Try.underlying78, rfl, rfl, by kernel_rfl⟩
theorem fld78_1 : Fld Try.prog 78 1 1 := ⟨_, _, Try.underlying78, rfl, rfl, by kernel_rfl⟩
theorem fld81_0 : Fld Try.prog 81 0 0 := ⟨_, _, Try.underlying81, rfl, rfl, by kernel_rfl⟩
theorem fld81_1 : Fld Try.prog 81 1 1 := ⟨_, _, Try.underlying81, rfl, rfl, by kernel_rfl⟩
theorem bsl76_1_0 : ∀ (x0 : Int) (x1 : ByteArray) (w : World), (Instr.buildSlice 76 1 #[(0, .agg #[.int .i64 x0, .string x1])]).run Try.prog w = .ok (.slice (some ⟨w.heap.size, 0, none⟩) 1 1) { w with heap := w.heap.push (.cells #[.int .i64 x0, .string x1] 81) } := by intros; kernel_rfl
theorem bld81_0_1 : ∀ (x0 : Int) (x1 : ByteArray) (w : World), (Instr.build 81 #[(0, .int .i64 x0), (1, .string x1)]).run Try.prog w = .ok (.agg #[.int .i64 x0, .string x1]) w := by intros; kernel_rfl
theorem bld78_0_2 : ∀ (x0 : Option Addr) (x0l x0c : Nat) (x1 : Bool) (w : World), (Instr.build 78 #[(0, .slice x0 x0l x0c), (2, .bool x1)]).run Try.prog w = .ok (.agg #[.slice x0 x0l x0c, .slice none 0 0, .bool x1]) w := by intros; kernel_rfl
theorem tx48 : Txt Try.prog 48 := by unfold Txt; kernel_rfl
theorem tx49 : Txt Try.prog 49 := by unfold Txt; kernel_rfl
theorem bsl71_1_0 : ∀ (x0 : Option Addr) (w : World), (Instr.buildSlice 71 1 #[(0, .pointer x0)]).run Try.prog w = .ok (.slice (some ⟨w.heap.size, 0, none⟩) 1 1) { w with heap := w.heap.push (.cells #[.pointer x0] 74) } := by intros; kernel_rfl
theorem bld73_ : ∀  (w : World), (Instr.build 73 #[]).run Try.prog w = .ok (.agg #[.slice none 0 0]) w := by intros; kernel_rfl
theorem bld78_0 : ∀ (x0 : Option Addr) (x0l x0c : Nat) (w : World), (Instr.build 78 #[(0, .slice x0 x0l x0c)]).run Try.prog w = .ok (.agg #[.slice x0 x0l x0c, .slice none 0 0, .bool false]) w := by intros; kernel_rfl
theorem tx38 : Txt Try.prog 38 := by unfold Txt; kernel_rfl
theorem tx21 : Txt Try.prog 21 := by unfold Txt; kernel_rfl
theorem tx39 : Txt Try.prog 39 := by unfold Txt; kernel_rfl
theorem fld30_4 : Fld Try.prog 30 4 4 := ⟨_, _, Try.underlying30, rfl, rfl, by kernel_rfl⟩
theorem fld30_5 : Fld Try.prog 30 5 5 := ⟨_, _, Try.underlying30, rfl, rfl, by kernel_rfl⟩
theorem tx40 : Txt Try.prog 40 := by unfold Txt; kernel_rfl
theorem tx41 : Txt Try.prog 41 := by unfold Txt; kernel_rfl
theorem tx42 : Txt Try.prog 42 := by unfold Txt; kernel_rfl
theorem tx16 : Txt Try.prog 16 := by unfold Txt; kernel_rfl
theorem tx17 : Txt Try.prog 17 := by unfold Txt; kernel_rfl
theorem tx20 : Txt Try.prog 20 := by unfold Txt; kernel_rfl
theorem tx18 : Txt Try.prog 18 := by unfold Txt; kernel_rfl
theorem tx22 : Txt Try.prog 22 := by unfold Txt; kernel_rfl
end Go.Disks
