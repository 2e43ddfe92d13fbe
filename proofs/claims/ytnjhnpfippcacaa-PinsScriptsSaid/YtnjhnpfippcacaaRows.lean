/-
  No cell of these rows narrows 'for every input' (looked for: loops, veiled, ifaces, maps, wideKeys, modest, calm, conditions, laid).
  DERIVED. THE GIVEN ROWS OF THIS SEAT. 5 by the template 'for every input the law returns true; each argument reads behind the call as it read before'; 0 by the template 'total and deterministic' (their statements: YtnjhnpfippcacaaTotals.lean).
  GIVEN WITH THE SEED: the statements are not yours to turn. If you find one false, say at which input.
  Laid BY PROGRAM, IN A SANDBOX (cutbox-rows.mjs): the forced cells as the released guide's own fill.sh prints them over the translation 132a65d02d9ed689… (all of the seat's roots in one cut). By AI agents, Wed Nov 11 2026. No macro, syntax, notation, axiom, sorry.
-/
import Derived.Test.YtnjhnpfippcacaaChecked
import GoSem.Claim
import GoSem.ClaimJoined
import GoSem.ClaimMapViews
import Derived.JoinedTies
import Derived.KernelRfl
namespace Go.Proofs.Ytnjhnpfippcacaa
/- THE CELL 'sum', in the pinned program and in every row, IS THE sha256 OF THE DUMP (.gsa) THAT YtnjhnpfippcacaaProg.lean LOADS. Nothing in Lean hashes anything: it is a label: what it is worth is what the hold of that sum in a sandbox is worth. -/
noncomputable def Try.pinned : Pinned := { name := "ytnjhnpfippcacaa", sum := "132a65d02d9ed6894f362a75fb29185902ba522cc7bb6341c16b5a8214fff09d", checked := Try.checked }
namespace Rows
def none {H : Type} : Left H := { results := [], args := [] }

/-- 'sluicegatelaw14.PinsScripts': WHATEVER THE INPUT: true; the input reads as it did. -/
def pinsScriptsSpec : ChangeSpec := { name := "pinsScripts", fn := fun _ => fun
  | [d] => { results := [.lit (.bool true)], args := [d] }
  | _ => none }
def pinsScriptsRow : OpenClaim := { program := "ytnjhnpfippcacaa", sum := "132a65d02d9ed6894f362a75fb29185902ba522cc7bb6341c16b5a8214fff09d", func := "sluicegate/sluicegatelaw14.PinsScripts", spec := "pinsScripts", unfollowed := true, recurses := true, plainKeys := false, apart := false }
def PinsScriptsSaid : Prop := pinsScriptsRow.holds Try.pinned (OpenSpec.ofChange pinsScriptsSpec)

/-- ITS FALSE NEIGHBOUR: 'it returns false'. Refute it at one input. -/
def pinsScriptsWrong : ChangeSpec := { name := "pinsScripts", fn := fun _ => fun
  | [d] => { results := [.lit (.bool false)], args := [d] }
  | _ => none }
def PinsScriptsWrongFalsely : Prop := pinsScriptsRow.holds Try.pinned (OpenSpec.ofChange pinsScriptsWrong)

/-- 'sluicegatelaw14.PinsHeld': WHATEVER THE INPUT: true; the input reads as it did. -/
def pinsHeldSpec : ChangeSpec := { name := "pinsHeld", fn := fun _ => fun
  | [d1, d2, d3] => { results := [.lit (.bool true)], args := [d1, d2, d3] }
  | _ => none }
def pinsHeldRow : OpenClaim := { program := "ytnjhnpfippcacaa", sum := "132a65d02d9ed6894f362a75fb29185902ba522cc7bb6341c16b5a8214fff09d", func := "sluicegate/sluicegatelaw14.PinsHeld", spec := "pinsHeld", unfollowed := true, recurses := true, plainKeys := false, apart := false }
def PinsHeldSaid : Prop := pinsHeldRow.holds Try.pinned (OpenSpec.ofChange pinsHeldSpec)

/-- ITS FALSE NEIGHBOUR: 'it returns false'. Refute it at one input. -/
def pinsHeldWrong : ChangeSpec := { name := "pinsHeld", fn := fun _ => fun
  | [d1, d2, d3] => { results := [.lit (.bool false)], args := [d1, d2, d3] }
  | _ => none }
def PinsHeldWrongFalsely : Prop := pinsHeldRow.holds Try.pinned (OpenSpec.ofChange pinsHeldWrong)

/-- 'sluicegatelaw14.PinsEach': WHATEVER THE INPUT: true; the input reads as it did. -/
def pinsEachSpec : ChangeSpec := { name := "pinsEach", fn := fun _ => fun
  | [d] => { results := [.lit (.bool true)], args := [d] }
  | _ => none }
def pinsEachRow : OpenClaim := { program := "ytnjhnpfippcacaa", sum := "132a65d02d9ed6894f362a75fb29185902ba522cc7bb6341c16b5a8214fff09d", func := "sluicegate/sluicegatelaw14.PinsEach", spec := "pinsEach", unfollowed := true, recurses := true, plainKeys := false, apart := false }
def PinsEachSaid : Prop := pinsEachRow.holds Try.pinned (OpenSpec.ofChange pinsEachSpec)

/-- ITS FALSE NEIGHBOUR: 'it returns false'. Refute it at one input. -/
def pinsEachWrong : ChangeSpec := { name := "pinsEach", fn := fun _ => fun
  | [d] => { results := [.lit (.bool false)], args := [d] }
  | _ => none }
def PinsEachWrongFalsely : Prop := pinsEachRow.holds Try.pinned (OpenSpec.ofChange pinsEachWrong)

/-- 'sluicegatelaw14.PinsNil': WHATEVER THE INPUT: true; the input reads as it did. -/
def pinsNilSpec : ChangeSpec := { name := "pinsNil", fn := fun _ => fun
  | [d] => { results := [.lit (.bool true)], args := [d] }
  | _ => none }
def pinsNilRow : OpenClaim := { program := "ytnjhnpfippcacaa", sum := "132a65d02d9ed6894f362a75fb29185902ba522cc7bb6341c16b5a8214fff09d", func := "sluicegate/sluicegatelaw14.PinsNil", spec := "pinsNil", unfollowed := true, recurses := true, plainKeys := false, apart := false }
def PinsNilSaid : Prop := pinsNilRow.holds Try.pinned (OpenSpec.ofChange pinsNilSpec)

/-- ITS FALSE NEIGHBOUR: 'it returns false'. Refute it at one input. -/
def pinsNilWrong : ChangeSpec := { name := "pinsNil", fn := fun _ => fun
  | [d] => { results := [.lit (.bool false)], args := [d] }
  | _ => none }
def PinsNilWrongFalsely : Prop := pinsNilRow.holds Try.pinned (OpenSpec.ofChange pinsNilWrong)

/-- 'sluicegatelaw14.PinsOther': WHATEVER THE INPUT: true; the input reads as it did. -/
def pinsOtherSpec : ChangeSpec := { name := "pinsOther", fn := fun _ => fun
  | [d1, d2, d3] => { results := [.lit (.bool true)], args := [d1, d2, d3] }
  | _ => none }
def pinsOtherRow : OpenClaim := { program := "ytnjhnpfippcacaa", sum := "132a65d02d9ed6894f362a75fb29185902ba522cc7bb6341c16b5a8214fff09d", func := "sluicegate/sluicegatelaw14.PinsOther", spec := "pinsOther", unfollowed := true, recurses := true, plainKeys := false, apart := false }
def PinsOtherSaid : Prop := pinsOtherRow.holds Try.pinned (OpenSpec.ofChange pinsOtherSpec)

/-- ITS FALSE NEIGHBOUR: 'it returns false'. Refute it at one input. -/
def pinsOtherWrong : ChangeSpec := { name := "pinsOther", fn := fun _ => fun
  | [d1, d2, d3] => { results := [.lit (.bool false)], args := [d1, d2, d3] }
  | _ => none }
def PinsOtherWrongFalsely : Prop := pinsOtherRow.holds Try.pinned (OpenSpec.ofChange pinsOtherWrong)

/- THE SECOND FORM. 'bulk': how many values and letters a reading holds, each counted each time it is reached (what is shared counts as often as it is met; a slice's spare places count too). A statement '..UptoSaid' is the law's where the arguments, and the package variables that the reading takes, are together of bulk at most 1048576: NARROWER than '..Said'. Prove '..Said' where nothing that the law and all that it calls make is longer than what came in: it says more and counts as full. Else prove '..UptoSaid'. A law counts once. -/
mutual
def uptoBulk {H : Type} : DataW H → Nat
  | .lit (.string bytes) => bytes.length + 1
  | .lit _ => 1
  | .nil => 1
  | .ptr d => uptoBulk d + 1
  | .slice elems spare => uptoBulkAll elems + uptoBulkAll spare + 1
  | .agg parts => uptoBulkAll parts + 1
  | .iface _ d => uptoBulk d + 1
  | .map entries => uptoBulkEntries entries + 1
  | .held _ => 1
def uptoBulkAll {H : Type} : List (DataW H) → Nat
  | [] => 0
  | d :: r => uptoBulk d + uptoBulkAll r
def uptoBulkEntries {H : Type} : List (Lit × DataW H) → Nat
  | [] => 0
  | x :: r => uptoBulkEntry x + uptoBulkEntries r
def uptoBulkEntry {H : Type} : Lit × DataW H → Nat
  | (.string bytes, d) => bytes.length + uptoBulk d + 1
  | (_, d) => uptoBulk d + 1
 end
def uptoSmall : (H : Type) → List (DataW H) → Bool := fun _ ds => decide (uptoBulkAll ds ≤ 1048576)
def OpenSpec.upto (s : _root_.Go.ChangeSpec) : _root_.Go.OpenSpec := { _root_.Go.OpenSpec.ofChange s with cond := some uptoSmall }

/-- 'sluicegatelaw14.PinsScripts', WHERE WHAT IT READS IS OF BULK AT MOST 1048576: true; the input reads as it did. -/
def pinsScriptsUptoRow : OpenClaim := { program := "ytnjhnpfippcacaa", sum := "132a65d02d9ed6894f362a75fb29185902ba522cc7bb6341c16b5a8214fff09d", func := "sluicegate/sluicegatelaw14.PinsScripts", spec := "pinsScripts", unfollowed := true, recurses := true, plainKeys := false, apart := false, narrowed := true }
def PinsScriptsUptoSaid : Prop := pinsScriptsUptoRow.holds Try.pinned (OpenSpec.upto pinsScriptsSpec)

/-- 'sluicegatelaw14.PinsHeld', WHERE WHAT IT READS IS OF BULK AT MOST 1048576: true; the input reads as it did. -/
def pinsHeldUptoRow : OpenClaim := { program := "ytnjhnpfippcacaa", sum := "132a65d02d9ed6894f362a75fb29185902ba522cc7bb6341c16b5a8214fff09d", func := "sluicegate/sluicegatelaw14.PinsHeld", spec := "pinsHeld", unfollowed := true, recurses := true, plainKeys := false, apart := false, narrowed := true }
def PinsHeldUptoSaid : Prop := pinsHeldUptoRow.holds Try.pinned (OpenSpec.upto pinsHeldSpec)

/-- 'sluicegatelaw14.PinsEach', WHERE WHAT IT READS IS OF BULK AT MOST 1048576: true; the input reads as it did. -/
def pinsEachUptoRow : OpenClaim := { program := "ytnjhnpfippcacaa", sum := "132a65d02d9ed6894f362a75fb29185902ba522cc7bb6341c16b5a8214fff09d", func := "sluicegate/sluicegatelaw14.PinsEach", spec := "pinsEach", unfollowed := true, recurses := true, plainKeys := false, apart := false, narrowed := true }
def PinsEachUptoSaid : Prop := pinsEachUptoRow.holds Try.pinned (OpenSpec.upto pinsEachSpec)

/-- 'sluicegatelaw14.PinsNil', WHERE WHAT IT READS IS OF BULK AT MOST 1048576: true; the input reads as it did. -/
def pinsNilUptoRow : OpenClaim := { program := "ytnjhnpfippcacaa", sum := "132a65d02d9ed6894f362a75fb29185902ba522cc7bb6341c16b5a8214fff09d", func := "sluicegate/sluicegatelaw14.PinsNil", spec := "pinsNil", unfollowed := true, recurses := true, plainKeys := false, apart := false, narrowed := true }
def PinsNilUptoSaid : Prop := pinsNilUptoRow.holds Try.pinned (OpenSpec.upto pinsNilSpec)

/-- 'sluicegatelaw14.PinsOther', WHERE WHAT IT READS IS OF BULK AT MOST 1048576: true; the input reads as it did. -/
def pinsOtherUptoRow : OpenClaim := { program := "ytnjhnpfippcacaa", sum := "132a65d02d9ed6894f362a75fb29185902ba522cc7bb6341c16b5a8214fff09d", func := "sluicegate/sluicegatelaw14.PinsOther", spec := "pinsOther", unfollowed := true, recurses := true, plainKeys := false, apart := false, narrowed := true }
def PinsOtherUptoSaid : Prop := pinsOtherUptoRow.holds Try.pinned (OpenSpec.upto pinsOtherSpec)

end Rows
end Go.Proofs.Ytnjhnpfippcacaa
