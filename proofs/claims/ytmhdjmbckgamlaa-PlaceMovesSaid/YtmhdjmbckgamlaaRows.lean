/-
  No cell of these rows narrows 'for every input' (looked for: loops, veiled, ifaces, maps, wideKeys, modest, calm, conditions, laid).
  DERIVED. THE GIVEN ROWS OF THIS SEAT. 6 by the template 'for every input the law returns true; each argument reads behind the call as it read before'; 0 by the template 'total and deterministic' (their statements: YtmhdjmbckgamlaaTotals.lean).
  GIVEN WITH THE SEED: the statements are not yours to turn. If you find one false, say at which input.
  Laid BY PROGRAM, IN A SANDBOX (cutbox-rows.mjs): the forced cells as the released guide's own fill.sh prints them over the translation d5f9312a20d38717… (all of the seat's roots in one cut). By AI agents, Wed Nov 11 2026. No macro, syntax, notation, axiom, sorry.
-/
import Derived.Test.YtmhdjmbckgamlaaChecked
import GoSem.Claim
import GoSem.ClaimJoined
import GoSem.ClaimMapViews
import Derived.JoinedTies
import Derived.KernelRfl
namespace Go.Proofs.Ytmhdjmbckgamlaa
/- THE CELL 'sum', in the pinned program and in every row, IS THE sha256 OF THE DUMP (.gsa) THAT YtmhdjmbckgamlaaProg.lean LOADS. Nothing in Lean hashes anything: it is a label: what it is worth is what the hold of that sum in a sandbox is worth. -/
noncomputable def Try.pinned : Pinned := { name := "ytmhdjmbckgamlaa", sum := "d5f9312a20d38717b0daca8f5cf80c5dff9ba8d92b2c905dbcce43acd76dcbae", checked := Try.checked }
namespace Rows
def none {H : Type} : Left H := { results := [], args := [] }

/-- 'sluicegatelaw09.PlaceChooses': WHATEVER THE INPUT: true; the input reads as it did. -/
def placeChoosesSpec : ChangeSpec := { name := "placeChooses", fn := fun _ => fun
  | [d] => { results := [.lit (.bool true)], args := [d] }
  | _ => none }
def placeChoosesRow : OpenClaim := { program := "ytmhdjmbckgamlaa", sum := "d5f9312a20d38717b0daca8f5cf80c5dff9ba8d92b2c905dbcce43acd76dcbae", func := "sluicegate/sluicegatelaw09.PlaceChooses", spec := "placeChooses", unfollowed := true, recurses := true, apart := false }
def PlaceChoosesSaid : Prop := placeChoosesRow.holds Try.pinned (OpenSpec.ofChange placeChoosesSpec)

/-- ITS FALSE NEIGHBOUR: 'it returns false'. Refute it at one input. -/
def placeChoosesWrong : ChangeSpec := { name := "placeChooses", fn := fun _ => fun
  | [d] => { results := [.lit (.bool false)], args := [d] }
  | _ => none }
def PlaceChoosesWrongFalsely : Prop := placeChoosesRow.holds Try.pinned (OpenSpec.ofChange placeChoosesWrong)

/-- 'sluicegatelaw09.PlaceLoads': WHATEVER THE INPUT: true; the input reads as it did. -/
def placeLoadsSpec : ChangeSpec := { name := "placeLoads", fn := fun _ => fun
  | [d1, d2] => { results := [.lit (.bool true)], args := [d1, d2] }
  | _ => none }
def placeLoadsRow : OpenClaim := { program := "ytmhdjmbckgamlaa", sum := "d5f9312a20d38717b0daca8f5cf80c5dff9ba8d92b2c905dbcce43acd76dcbae", func := "sluicegate/sluicegatelaw09.PlaceLoads", spec := "placeLoads", unfollowed := true, recurses := true, apart := false }
def PlaceLoadsSaid : Prop := placeLoadsRow.holds Try.pinned (OpenSpec.ofChange placeLoadsSpec)

/-- ITS FALSE NEIGHBOUR: 'it returns false'. Refute it at one input. -/
def placeLoadsWrong : ChangeSpec := { name := "placeLoads", fn := fun _ => fun
  | [d1, d2] => { results := [.lit (.bool false)], args := [d1, d2] }
  | _ => none }
def PlaceLoadsWrongFalsely : Prop := placeLoadsRow.holds Try.pinned (OpenSpec.ofChange placeLoadsWrong)

/-- 'sluicegatelaw09.PlaceApart': WHATEVER THE INPUT: true; the input reads as it did. -/
def placeApartSpec : ChangeSpec := { name := "placeApart", fn := fun _ => fun
  | [d1, d2, d3] => { results := [.lit (.bool true)], args := [d1, d2, d3] }
  | _ => none }
def placeApartRow : OpenClaim := { program := "ytmhdjmbckgamlaa", sum := "d5f9312a20d38717b0daca8f5cf80c5dff9ba8d92b2c905dbcce43acd76dcbae", func := "sluicegate/sluicegatelaw09.PlaceApart", spec := "placeApart", unfollowed := true, recurses := true, apart := false }
def PlaceApartSaid : Prop := placeApartRow.holds Try.pinned (OpenSpec.ofChange placeApartSpec)

/-- ITS FALSE NEIGHBOUR: 'it returns false'. Refute it at one input. -/
def placeApartWrong : ChangeSpec := { name := "placeApart", fn := fun _ => fun
  | [d1, d2, d3] => { results := [.lit (.bool false)], args := [d1, d2, d3] }
  | _ => none }
def PlaceApartWrongFalsely : Prop := placeApartRow.holds Try.pinned (OpenSpec.ofChange placeApartWrong)

/-- 'sluicegatelaw09.PlaceRound': WHATEVER THE INPUT: true; the input reads as it did. -/
def placeRoundSpec : ChangeSpec := { name := "placeRound", fn := fun _ => fun
  | [d] => { results := [.lit (.bool true)], args := [d] }
  | _ => none }
def placeRoundRow : OpenClaim := { program := "ytmhdjmbckgamlaa", sum := "d5f9312a20d38717b0daca8f5cf80c5dff9ba8d92b2c905dbcce43acd76dcbae", func := "sluicegate/sluicegatelaw09.PlaceRound", spec := "placeRound", unfollowed := true, recurses := true, apart := false }
def PlaceRoundSaid : Prop := placeRoundRow.holds Try.pinned (OpenSpec.ofChange placeRoundSpec)

/-- ITS FALSE NEIGHBOUR: 'it returns false'. Refute it at one input. -/
def placeRoundWrong : ChangeSpec := { name := "placeRound", fn := fun _ => fun
  | [d] => { results := [.lit (.bool false)], args := [d] }
  | _ => none }
def PlaceRoundWrongFalsely : Prop := placeRoundRow.holds Try.pinned (OpenSpec.ofChange placeRoundWrong)

/-- 'sluicegatelaw09.PlaceMoves': WHATEVER THE INPUT: true; the input reads as it did. -/
def placeMovesSpec : ChangeSpec := { name := "placeMoves", fn := fun _ => fun
  | [d1, d2] => { results := [.lit (.bool true)], args := [d1, d2] }
  | _ => none }
def placeMovesRow : OpenClaim := { program := "ytmhdjmbckgamlaa", sum := "d5f9312a20d38717b0daca8f5cf80c5dff9ba8d92b2c905dbcce43acd76dcbae", func := "sluicegate/sluicegatelaw09.PlaceMoves", spec := "placeMoves", unfollowed := true, recurses := true, apart := false }
def PlaceMovesSaid : Prop := placeMovesRow.holds Try.pinned (OpenSpec.ofChange placeMovesSpec)

/-- ITS FALSE NEIGHBOUR: 'it returns false'. Refute it at one input. -/
def placeMovesWrong : ChangeSpec := { name := "placeMoves", fn := fun _ => fun
  | [d1, d2] => { results := [.lit (.bool false)], args := [d1, d2] }
  | _ => none }
def PlaceMovesWrongFalsely : Prop := placeMovesRow.holds Try.pinned (OpenSpec.ofChange placeMovesWrong)

/-- 'sluicegatelaw09.PlaceEven': WHATEVER THE INPUT: true; the input reads as it did. -/
def placeEvenSpec : ChangeSpec := { name := "placeEven", fn := fun _ => fun
  | [d] => { results := [.lit (.bool true)], args := [d] }
  | _ => none }
def placeEvenRow : OpenClaim := { program := "ytmhdjmbckgamlaa", sum := "d5f9312a20d38717b0daca8f5cf80c5dff9ba8d92b2c905dbcce43acd76dcbae", func := "sluicegate/sluicegatelaw09.PlaceEven", spec := "placeEven", unfollowed := true, recurses := true, apart := false }
def PlaceEvenSaid : Prop := placeEvenRow.holds Try.pinned (OpenSpec.ofChange placeEvenSpec)

/-- ITS FALSE NEIGHBOUR: 'it returns false'. Refute it at one input. -/
def placeEvenWrong : ChangeSpec := { name := "placeEven", fn := fun _ => fun
  | [d] => { results := [.lit (.bool false)], args := [d] }
  | _ => none }
def PlaceEvenWrongFalsely : Prop := placeEvenRow.holds Try.pinned (OpenSpec.ofChange placeEvenWrong)

/- THE SECOND FORM. 'bulk': how many values and letters a reading holds, each counted each time it is reached (what is shared counts as often as it is met; a slice's spare places count too). A statement '..UptoSaid' is the law's where the arguments, and the package variables that the reading takes, are together of bulk at most 1048576: NARROWER than '..Said'. Prove '..Said' where nothing that the law and all that it calls make is longer than what came in: it says more and counts as full. Else prove '..UptoSaid'. A law counts once. -/
mutual
def uptoBulk {H : Type} : DataW H → Nat
  | .lit (.string bytes) => bytes.length + 1
  | .lit _ => 1
  | .nil => 1
  | .ptr d => uptoBulk d + 1
  | .slice elems spare => uptoBulkAll elems + uptoBulkAll spare + 1
  | .agg parts => uptoBulkAll parts + 1
  | .iface _ d => uptoBulk d + 1
  | .map entries => uptoBulkEntries entries + 1
  | .held _ => 1
def uptoBulkAll {H : Type} : List (DataW H) → Nat
  | [] => 0
  | d :: r => uptoBulk d + uptoBulkAll r
def uptoBulkEntries {H : Type} : List (Lit × DataW H) → Nat
  | [] => 0
  | x :: r => uptoBulkEntry x + uptoBulkEntries r
def uptoBulkEntry {H : Type} : Lit × DataW H → Nat
  | (.string bytes, d) => bytes.length + uptoBulk d + 1
  | (_, d) => uptoBulk d + 1
 end
def uptoSmall : (H : Type) → List (DataW H) → Bool := fun _ ds => decide (uptoBulkAll ds ≤ 1048576)
def OpenSpec.upto (s : _root_.Go.ChangeSpec) : _root_.Go.OpenSpec := { _root_.Go.OpenSpec.ofChange s with cond := some uptoSmall }

/-- 'sluicegatelaw09.PlaceChooses', WHERE WHAT IT READS IS OF BULK AT MOST 1048576: true; the input reads as it did. -/
def placeChoosesUptoRow : OpenClaim := { program := "ytmhdjmbckgamlaa", sum := "d5f9312a20d38717b0daca8f5cf80c5dff9ba8d92b2c905dbcce43acd76dcbae", func := "sluicegate/sluicegatelaw09.PlaceChooses", spec := "placeChooses", unfollowed := true, recurses := true, apart := false, narrowed := true }
def PlaceChoosesUptoSaid : Prop := placeChoosesUptoRow.holds Try.pinned (OpenSpec.upto placeChoosesSpec)

/-- 'sluicegatelaw09.PlaceLoads', WHERE WHAT IT READS IS OF BULK AT MOST 1048576: true; the input reads as it did. -/
def placeLoadsUptoRow : OpenClaim := { program := "ytmhdjmbckgamlaa", sum := "d5f9312a20d38717b0daca8f5cf80c5dff9ba8d92b2c905dbcce43acd76dcbae", func := "sluicegate/sluicegatelaw09.PlaceLoads", spec := "placeLoads", unfollowed := true, recurses := true, apart := false, narrowed := true }
def PlaceLoadsUptoSaid : Prop := placeLoadsUptoRow.holds Try.pinned (OpenSpec.upto placeLoadsSpec)

/-- 'sluicegatelaw09.PlaceApart', WHERE WHAT IT READS IS OF BULK AT MOST 1048576: true; the input reads as it did. -/
def placeApartUptoRow : OpenClaim := { program := "ytmhdjmbckgamlaa", sum := "d5f9312a20d38717b0daca8f5cf80c5dff9ba8d92b2c905dbcce43acd76dcbae", func := "sluicegate/sluicegatelaw09.PlaceApart", spec := "placeApart", unfollowed := true, recurses := true, apart := false, narrowed := true }
def PlaceApartUptoSaid : Prop := placeApartUptoRow.holds Try.pinned (OpenSpec.upto placeApartSpec)

/-- 'sluicegatelaw09.PlaceRound', WHERE WHAT IT READS IS OF BULK AT MOST 1048576: true; the input reads as it did. -/
def placeRoundUptoRow : OpenClaim := { program := "ytmhdjmbckgamlaa", sum := "d5f9312a20d38717b0daca8f5cf80c5dff9ba8d92b2c905dbcce43acd76dcbae", func := "sluicegate/sluicegatelaw09.PlaceRound", spec := "placeRound", unfollowed := true, recurses := true, apart := false, narrowed := true }
def PlaceRoundUptoSaid : Prop := placeRoundUptoRow.holds Try.pinned (OpenSpec.upto placeRoundSpec)

/-- 'sluicegatelaw09.PlaceMoves', WHERE WHAT IT READS IS OF BULK AT MOST 1048576: true; the input reads as it did. -/
def placeMovesUptoRow : OpenClaim := { program := "ytmhdjmbckgamlaa", sum := "d5f9312a20d38717b0daca8f5cf80c5dff9ba8d92b2c905dbcce43acd76dcbae", func := "sluicegate/sluicegatelaw09.PlaceMoves", spec := "placeMoves", unfollowed := true, recurses := true, apart := false, narrowed := true }
def PlaceMovesUptoSaid : Prop := placeMovesUptoRow.holds Try.pinned (OpenSpec.upto placeMovesSpec)

/-- 'sluicegatelaw09.PlaceEven', WHERE WHAT IT READS IS OF BULK AT MOST 1048576: true; the input reads as it did. -/
def placeEvenUptoRow : OpenClaim := { program := "ytmhdjmbckgamlaa", sum := "d5f9312a20d38717b0daca8f5cf80c5dff9ba8d92b2c905dbcce43acd76dcbae", func := "sluicegate/sluicegatelaw09.PlaceEven", spec := "placeEven", unfollowed := true, recurses := true, apart := false, narrowed := true }
def PlaceEvenUptoSaid : Prop := placeEvenUptoRow.holds Try.pinned (OpenSpec.upto placeEvenSpec)

end Rows
end Go.Proofs.Ytmhdjmbckgamlaa
