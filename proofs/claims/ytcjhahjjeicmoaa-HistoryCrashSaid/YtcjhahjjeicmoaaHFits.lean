/- The cells of an argument's events. -/
import Derived.Test.YtcjhahjjeicmoaaSLRow
import Derived.Test.YtcjhahjjeicmoaaHDefs
import Derived.Test.YtcjhahjjeicmoaaProg
namespace Go.Hist
open Go Go.SL Go.Proofs
theorem Ev.shape : shapeOf Try.prog 5 39 = some [.int .i64, .bool, .int .i64, .string, .string, .int .i64, .string, .slice] := by kernel_rfl
theorem Ev.of_fits (cs : List Value) (hl : cs.length = 8) (h : FitsP [.int .i64, .bool, .int .i64, .string, .string, .int .i64, .string, .slice] cs) : ∃ x : Ev, cs = x.cells := by
  match cs, hl, h with
  | [a1, a2, a3, a4, a5, a6, a7, a8], _, ⟨⟨x1, h1⟩, ⟨x2, h2⟩, ⟨x3, h3⟩, ⟨x4, h4⟩, ⟨x5, h5⟩, ⟨x6, h6⟩, ⟨x7, h7⟩, ⟨x8, n8, c8, h8⟩, _⟩ =>
    exact ⟨⟨x1, x2, x3, x4, x5, x6, x7, x8, n8, c8⟩, by rw [h1, h2, h3, h4, h5, h6, h7, h8]; rfl⟩
end Go.Hist
