/- A part of a proof for the laws of the seat Ytcjhahjjeicmoaa; it has no conditions of its own. -/
import Derived.Test.YtcjhahjjeicmoaaProg
import Derived.Test.YtcjhahjjeicmoaaHDefs
namespace Go.Hist
open Go Go.SL Go.Proofs
theorem fld35_4 : Fld Try.prog 35 4 8 := ⟨_, _, Try.underlying35, rfl, rfl, by kernel_rfl⟩
theorem na3 : NoAgg Try.prog 3 := by unfold NoAgg; kernel_rfl
theorem fld35_3 : Fld Try.prog 35 3 7 := ⟨_, _, Try.underlying35, rfl, rfl, by kernel_rfl⟩
theorem ti39 : Ti Try.prog 39 (.agg #[.int .i64 0, .bool false, .int .i64 0, .string ⟨#[]⟩, .string ⟨#[]⟩, .int .i64 0, .string ⟨#[]⟩, .slice none 0 0]) 8 104 := by unfold Ti; kernel_rfl
theorem ag39 : IsAgg Try.prog 39 := by unfold IsAgg; kernel_rfl
theorem fld39_0 : Fld Try.prog 39 0 0 := ⟨_, _, Try.underlying39, rfl, rfl, by kernel_rfl⟩
theorem fld39_1 : Fld Try.prog 39 1 1 := ⟨_, _, Try.underlying39, rfl, rfl, by kernel_rfl⟩
theorem na4 : NoAgg Try.prog 4 := by unfold NoAgg; kernel_rfl
theorem fld39_2 : Fld Try.prog 39 2 2 := ⟨_, _, Try.underlying39, rfl, rfl, by kernel_rfl⟩
theorem ag29 : IsAgg Try.prog 29 := by unfold IsAgg; kernel_rfl
theorem ti29 : Ti Try.prog 29 (.agg #[.int .i64 0, .string ⟨#[]⟩, .string ⟨#[]⟩]) 3 40 := by unfold Ti; kernel_rfl
theorem bld35_0_1_3_4 : ∀ (x0 : Int) (x1 : Int) (x2 : ByteArray) (x3 : ByteArray) (x4 : Int) (x5 : Int) (w : World), (Instr.build 35 #[(0, .int .i64 x0), (1, .agg #[.int .i64 x1, .string x2, .string x3]), (3, .int .i64 x4), (4, .int .i64 x5)]).run Try.prog w = .ok (.agg #[.int .i64 x0, .int .i64 x1, .string x2, .string x3, .int .i64 0, .string ⟨#[]⟩, .slice none 0 0, .int .i64 x4, .int .i64 x5]) w := by intros; kernel_rfl
theorem bsl25_1_0 : ∀ (x0 : Int) (x1 : Int) (x2 : ByteArray) (x3 : ByteArray) (x4 : Int) (x5 : ByteArray) (x6 : Option Addr) (x6l x6c : Nat) (x7 : Int) (x8 : Int) (w : World), (Instr.buildSlice 25 1 #[(0, .agg #[.int .i64 x0, .int .i64 x1, .string x2, .string x3, .int .i64 x4, .string x5, .slice x6 x6l x6c, .int .i64 x7, .int .i64 x8])]).run Try.prog w = .ok (.slice (some ⟨w.heap.size, 0, none⟩) 1 1) { w with heap := w.heap.push (.cells #[.int .i64 x0, .int .i64 x1, .string x2, .string x3, .int .i64 x4, .string x5, .slice x6 x6l x6c, .int .i64 x7, .int .i64 x8] 35) } := by intros; kernel_rfl
theorem ti35 : Ti Try.prog 35 (.agg #[.int .i64 0, .int .i64 0, .string ⟨#[]⟩, .string ⟨#[]⟩, .int .i64 0, .string ⟨#[]⟩, .slice none 0 0, .int .i64 0, .int .i64 0]) 9 112 := by unfold Ti; kernel_rfl
theorem fld39_3 : Fld Try.prog 39 3 5 := ⟨_, _, Try.underlying39, rfl, rfl, by kernel_rfl⟩
theorem ag33 : IsAgg Try.prog 33 := by unfold IsAgg; kernel_rfl
theorem ti33 : Ti Try.prog 33 (.agg #[.int .i64 0, .string ⟨#[]⟩, .slice none 0 0]) 3 48 := by unfold Ti; kernel_rfl
theorem ti3 : Ti Try.prog 3 (.int .i64 0) 1 8 := by unfold Ti; kernel_rfl
theorem fld35_2 : Fld Try.prog 35 2 4 := ⟨_, _, Try.underlying35, rfl, rfl, by kernel_rfl⟩
theorem tx14 : Txt Try.prog 14 := by unfold Txt; kernel_rfl
theorem fld29_1 : Fld Try.prog 29 1 1 := ⟨_, _, Try.underlying29, rfl, rfl, by kernel_rfl⟩
theorem na9 : NoAgg Try.prog 9 := by unfold NoAgg; kernel_rfl
theorem fld29_2 : Fld Try.prog 29 2 2 := ⟨_, _, Try.underlying29, rfl, rfl, by kernel_rfl⟩
theorem tx13 : Txt Try.prog 13 := by unfold Txt; kernel_rfl
theorem fld33_1 : Fld Try.prog 33 1 1 := ⟨_, _, Try.underlying33, rfl, rfl, by kernel_rfl⟩
theorem fld33_2 : Fld Try.prog 33 2 2 := ⟨_, _, Try.underlying33, rfl, rfl, by kernel_rfl⟩
theorem na31 : NoAgg Try.prog 31 := by unfold NoAgg; kernel_rfl
theorem na22 : NoAgg Try.prog 22 := by unfold NoAgg; kernel_rfl
theorem bsl22_0_ : ∀  (w : World), (Instr.buildSlice 22 0 #[]).run Try.prog w = .ok (.slice (some ⟨w.heap.size, 0, none⟩) 0 0) { w with heap := w.heap.push (.cells #[] 39) } := by intros; kernel_rfl
theorem tx18 : Txt Try.prog 18 := by unfold Txt; kernel_rfl
theorem tx20 : Txt Try.prog 20 := by unfold Txt; kernel_rfl
theorem na43 : NoAgg Try.prog 43 := by unfold NoAgg; kernel_rfl
theorem tx19 : Txt Try.prog 19 := by unfold Txt; kernel_rfl
theorem ti43 : Ti Try.prog 43 (.map none) 1 8 := by unfold Ti; kernel_rfl
theorem tx15 : Txt Try.prog 15 := by unfold Txt; kernel_rfl
theorem tx16 : Txt Try.prog 16 := by unfold Txt; kernel_rfl
theorem tx17 : Txt Try.prog 17 := by unfold Txt; kernel_rfl
theorem ag35 : IsAgg Try.prog 35 := by unfold IsAgg; kernel_rfl
theorem na30 : NoAgg Try.prog 30 := by unfold NoAgg; kernel_rfl
theorem bld29_0_1 : ∀ (x0 : Int) (x1 : ByteArray) (w : World), (Instr.build 29 #[(0, .int .i64 x0), (1, .string x1)]).run Try.prog w = .ok (.agg #[.int .i64 x0, .string x1, .string ⟨#[]⟩]) w := by intros; kernel_rfl
theorem bld39_0_1_2 : ∀ (x0 : Int) (x1 : Bool) (x2 : Int) (x3 : ByteArray) (x4 : ByteArray) (w : World), (Instr.build 39 #[(0, .int .i64 x0), (1, .bool x1), (2, .agg #[.int .i64 x2, .string x3, .string x4])]).run Try.prog w = .ok (.agg #[.int .i64 x0, .bool x1, .int .i64 x2, .string x3, .string x4, .int .i64 0, .string ⟨#[]⟩, .slice none 0 0]) w := by intros; kernel_rfl
theorem bld39_0_1 : ∀ (x0 : Int) (x1 : Bool) (w : World), (Instr.build 39 #[(0, .int .i64 x0), (1, .bool x1)]).run Try.prog w = .ok (.agg #[.int .i64 x0, .bool x1, .int .i64 0, .string ⟨#[]⟩, .string ⟨#[]⟩, .int .i64 0, .string ⟨#[]⟩, .slice none 0 0]) w := by intros; kernel_rfl
theorem bld33_0 : ∀ (x0 : Int) (w : World), (Instr.build 33 #[(0, .int .i64 x0)]).run Try.prog w = .ok (.agg #[.int .i64 x0, .string ⟨#[]⟩, .slice none 0 0]) w := by intros; kernel_rfl
theorem bld39_0_3 : ∀ (x0 : Int) (x1 : Int) (x2 : ByteArray) (x3 : Option Addr) (x3l x3c : Nat) (w : World), (Instr.build 39 #[(0, .int .i64 x0), (3, .agg #[.int .i64 x1, .string x2, .slice x3 x3l x3c])]).run Try.prog w = .ok (.agg #[.int .i64 x0, .bool false, .int .i64 0, .string ⟨#[]⟩, .string ⟨#[]⟩, .int .i64 x1, .string x2, .slice x3 x3l x3c]) w := by intros; kernel_rfl
theorem bsl22_3_0_1_2 : ∀ (x0 : Int) (x1 : Bool) (x2 : Int) (x3 : ByteArray) (x4 : ByteArray) (x5 : Int) (x6 : ByteArray) (x7 : Option Addr) (x7l x7c : Nat) (x8 : Int) (x9 : Bool) (x10 : Int) (x11 : ByteArray) (x12 : ByteArray) (x13 : Int) (x14 : ByteArray) (x15 : Option Addr) (x15l x15c : Nat) (x16 : Int) (x17 : Bool) (x18 : Int) (x19 : ByteArray) (x20 : ByteArray) (x21 : Int) (x22 : ByteArray) (x23 : Option Addr) (x23l x23c : Nat) (w : World), (Instr.buildSlice 22 3 #[(0, .agg #[.int .i64 x0, .bool x1, .int .i64 x2, .string x3, .string x4, .int .i64 x5, .string x6, .slice x7 x7l x7c]), (1, .agg #[.int .i64 x8, .bool x9, .int .i64 x10, .string x11, .string x12, .int .i64 x13, .string x14, .slice x15 x15l x15c]), (2, .agg #[.int .i64 x16, .bool x17, .int .i64 x18, .string x19, .string x20, .int .i64 x21, .string x22, .slice x23 x23l x23c])]).run Try.prog w = .ok (.slice (some ⟨w.heap.size, 0, none⟩) 3 3) { w with heap := w.heap.push (.cells #[.int .i64 x0, .bool x1, .int .i64 x2, .string x3, .string x4, .int .i64 x5, .string x6, .slice x7 x7l x7c, .int .i64 x8, .bool x9, .int .i64 x10, .string x11, .string x12, .int .i64 x13, .string x14, .slice x15 x15l x15c, .int .i64 x16, .bool x17, .int .i64 x18, .string x19, .string x20, .int .i64 x21, .string x22, .slice x23 x23l x23c] 39) } := by intros; kernel_rfl
theorem tx9 : Txt Try.prog 9 := by unfold Txt; kernel_rfl
theorem fld33_0 : Fld Try.prog 33 0 0 := ⟨_, _, Try.underlying33, rfl, rfl, by kernel_rfl⟩
theorem bsl22_2_0_1 : ∀ (x0 : Int) (x1 : Bool) (x2 : Int) (x3 : ByteArray) (x4 : ByteArray) (x5 : Int) (x6 : ByteArray) (x7 : Option Addr) (x7l x7c : Nat) (x8 : Int) (x9 : Bool) (x10 : Int) (x11 : ByteArray) (x12 : ByteArray) (x13 : Int) (x14 : ByteArray) (x15 : Option Addr) (x15l x15c : Nat) (w : World), (Instr.buildSlice 22 2 #[(0, .agg #[.int .i64 x0, .bool x1, .int .i64 x2, .string x3, .string x4, .int .i64 x5, .string x6, .slice x7 x7l x7c]), (1, .agg #[.int .i64 x8, .bool x9, .int .i64 x10, .string x11, .string x12, .int .i64 x13, .string x14, .slice x15 x15l x15c])]).run Try.prog w = .ok (.slice (some ⟨w.heap.size, 0, none⟩) 2 2) { w with heap := w.heap.push (.cells #[.int .i64 x0, .bool x1, .int .i64 x2, .string x3, .string x4, .int .i64 x5, .string x6, .slice x7 x7l x7c, .int .i64 x8, .bool x9, .int .i64 x10, .string x11, .string x12, .int .i64 x13, .string x14, .slice x15 x15l x15c] 39) } := by intros; kernel_rfl
theorem tx11 : Txt Try.prog 11 := by unfold Txt; kernel_rfl
theorem tx10 : Txt Try.prog 10 := by unfold Txt; kernel_rfl
theorem bld35_4 : ∀ (x0 : Int) (w : World), (Instr.build 35 #[(4, .int .i64 x0)]).run Try.prog w = .ok (.agg #[.int .i64 0, .int .i64 0, .string ⟨#[]⟩, .string ⟨#[]⟩, .int .i64 0, .string ⟨#[]⟩, .slice none 0 0, .int .i64 0, .int .i64 x0]) w := by intros; kernel_rfl
theorem bld35_3 : ∀ (x0 : Int) (w : World), (Instr.build 35 #[(3, .int .i64 x0)]).run Try.prog w = .ok (.agg #[.int .i64 0, .int .i64 0, .string ⟨#[]⟩, .string ⟨#[]⟩, .int .i64 0, .string ⟨#[]⟩, .slice none 0 0, .int .i64 x0, .int .i64 0]) w := by intros; kernel_rfl
theorem tx12 : Txt Try.prog 12 := by unfold Txt; kernel_rfl
theorem tx7 : Txt Try.prog 7 := by unfold Txt; kernel_rfl
theorem tx8 : Txt Try.prog 8 := by unfold Txt; kernel_rfl
theorem fld35_0 : Fld Try.prog 35 0 0 := ⟨_, _, Try.underlying35, rfl, rfl, by kernel_rfl⟩
end Go.Hist
