/-
  No cell of these rows narrows 'for every input' (looked for: loops, veiled, ifaces, maps, wideKeys, modest, calm, conditions, laid).
  DERIVED. THE GIVEN ROWS OF THIS SEAT. 5 by the template 'for every input the law returns true; each argument reads behind the call as it read before'; 0 by the template 'total and deterministic' (their statements: YthkafociknhgaaaTotals.lean).
  GIVEN WITH THE SEED: the statements are not yours to turn. If you find one false, say at which input.
  Laid BY PROGRAM, IN A SANDBOX (cutbox-rows.mjs): the forced cells as the released guide's own fill.sh prints them over the translation 2017e43445348be8… (all of the seat's roots in one cut). By AI agents, Wed Nov 11 2026. No macro, syntax, notation, axiom, sorry.
-/
import Derived.Test.YthkafociknhgaaaChecked
import GoSem.Claim
import GoSem.ClaimJoined
import GoSem.ClaimMapViews
import Derived.JoinedTies
import Derived.KernelRfl
namespace Go.Proofs.Ythkafociknhgaaa
/- THE CELL 'sum', in the pinned program and in every row, IS THE sha256 OF THE DUMP (.gsa) THAT YthkafociknhgaaaProg.lean LOADS. Nothing in Lean hashes anything: it is a label: what it is worth is what the hold of that sum in a sandbox is worth. -/
noncomputable def Try.pinned : Pinned := { name := "ythkafociknhgaaa", sum := "2017e43445348be872f2ce29605d9b0f8fd6f482ba5fdb518aaedb735cc83808", checked := Try.checked }
namespace Rows
def none {H : Type} : Left H := { results := [], args := [] }

/-- 'sluicegatelaw06.DisksCrash': WHATEVER THE INPUT: true; the input reads as it did. -/
def disksCrashSpec : ChangeSpec := { name := "disksCrash", fn := fun _ => fun
  | [d1, d2, d3] => { results := [.lit (.bool true)], args := [d1, d2, d3] }
  | _ => none }
def disksCrashRow : OpenClaim := { program := "ythkafociknhgaaa", sum := "2017e43445348be872f2ce29605d9b0f8fd6f482ba5fdb518aaedb735cc83808", func := "sluicegate/sluicegatelaw06.DisksCrash", spec := "disksCrash", inPlace := ["maps.clone"], unfollowed := true, recurses := true, apart := false }
def DisksCrashSaid : Prop := disksCrashRow.holds Try.pinned (OpenSpec.ofChange disksCrashSpec)

/-- ITS FALSE NEIGHBOUR: 'it returns false'. Refute it at one input. -/
def disksCrashWrong : ChangeSpec := { name := "disksCrash", fn := fun _ => fun
  | [d1, d2, d3] => { results := [.lit (.bool false)], args := [d1, d2, d3] }
  | _ => none }
def DisksCrashWrongFalsely : Prop := disksCrashRow.holds Try.pinned (OpenSpec.ofChange disksCrashWrong)

/-- 'sluicegatelaw06.DisksFlush': WHATEVER THE INPUT: true; the input reads as it did. -/
def disksFlushSpec : ChangeSpec := { name := "disksFlush", fn := fun _ => fun
  | [d1, d2, d3] => { results := [.lit (.bool true)], args := [d1, d2, d3] }
  | _ => none }
def disksFlushRow : OpenClaim := { program := "ythkafociknhgaaa", sum := "2017e43445348be872f2ce29605d9b0f8fd6f482ba5fdb518aaedb735cc83808", func := "sluicegate/sluicegatelaw06.DisksFlush", spec := "disksFlush", inPlace := ["maps.clone"], unfollowed := true, recurses := true, apart := false }
def DisksFlushSaid : Prop := disksFlushRow.holds Try.pinned (OpenSpec.ofChange disksFlushSpec)

/-- ITS FALSE NEIGHBOUR: 'it returns false'. Refute it at one input. -/
def disksFlushWrong : ChangeSpec := { name := "disksFlush", fn := fun _ => fun
  | [d1, d2, d3] => { results := [.lit (.bool false)], args := [d1, d2, d3] }
  | _ => none }
def DisksFlushWrongFalsely : Prop := disksFlushRow.holds Try.pinned (OpenSpec.ofChange disksFlushWrong)

/-- 'sluicegatelaw06.DisksScripts': WHATEVER THE INPUT: true; the input reads as it did. -/
def disksScriptsSpec : ChangeSpec := { name := "disksScripts", fn := fun _ => fun
  | [d] => { results := [.lit (.bool true)], args := [d] }
  | _ => none }
def disksScriptsRow : OpenClaim := { program := "ythkafociknhgaaa", sum := "2017e43445348be872f2ce29605d9b0f8fd6f482ba5fdb518aaedb735cc83808", func := "sluicegate/sluicegatelaw06.DisksScripts", spec := "disksScripts", inPlace := ["maps.clone"], unfollowed := true, recurses := true, apart := false }
def DisksScriptsSaid : Prop := disksScriptsRow.holds Try.pinned (OpenSpec.ofChange disksScriptsSpec)

/-- ITS FALSE NEIGHBOUR: 'it returns false'. Refute it at one input. -/
def disksScriptsWrong : ChangeSpec := { name := "disksScripts", fn := fun _ => fun
  | [d] => { results := [.lit (.bool false)], args := [d] }
  | _ => none }
def DisksScriptsWrongFalsely : Prop := disksScriptsRow.holds Try.pinned (OpenSpec.ofChange disksScriptsWrong)

/-- 'sluicegatelaw06.DisksAlone': WHATEVER THE INPUT: true; the input reads as it did. -/
def disksAloneSpec : ChangeSpec := { name := "disksAlone", fn := fun _ => fun
  | [d1, d2] => { results := [.lit (.bool true)], args := [d1, d2] }
  | _ => none }
def disksAloneRow : OpenClaim := { program := "ythkafociknhgaaa", sum := "2017e43445348be872f2ce29605d9b0f8fd6f482ba5fdb518aaedb735cc83808", func := "sluicegate/sluicegatelaw06.DisksAlone", spec := "disksAlone", inPlace := ["maps.clone"], unfollowed := true, recurses := true, apart := false }
def DisksAloneSaid : Prop := disksAloneRow.holds Try.pinned (OpenSpec.ofChange disksAloneSpec)

/-- ITS FALSE NEIGHBOUR: 'it returns false'. Refute it at one input. -/
def disksAloneWrong : ChangeSpec := { name := "disksAlone", fn := fun _ => fun
  | [d1, d2] => { results := [.lit (.bool false)], args := [d1, d2] }
  | _ => none }
def DisksAloneWrongFalsely : Prop := disksAloneRow.holds Try.pinned (OpenSpec.ofChange disksAloneWrong)

/-- 'sluicegatelaw06.DisksNil': WHATEVER THE INPUT: true; the input reads as it did. -/
def disksNilSpec : ChangeSpec := { name := "disksNil", fn := fun _ => fun
  | [d1, d2, d3] => { results := [.lit (.bool true)], args := [d1, d2, d3] }
  | _ => none }
def disksNilRow : OpenClaim := { program := "ythkafociknhgaaa", sum := "2017e43445348be872f2ce29605d9b0f8fd6f482ba5fdb518aaedb735cc83808", func := "sluicegate/sluicegatelaw06.DisksNil", spec := "disksNil", inPlace := ["maps.clone"], unfollowed := true, recurses := true, apart := false }
def DisksNilSaid : Prop := disksNilRow.holds Try.pinned (OpenSpec.ofChange disksNilSpec)

/-- ITS FALSE NEIGHBOUR: 'it returns false'. Refute it at one input. -/
def disksNilWrong : ChangeSpec := { name := "disksNil", fn := fun _ => fun
  | [d1, d2, d3] => { results := [.lit (.bool false)], args := [d1, d2, d3] }
  | _ => none }
def DisksNilWrongFalsely : Prop := disksNilRow.holds Try.pinned (OpenSpec.ofChange disksNilWrong)

/- THE SECOND FORM. 'bulk': how many values and letters a reading holds, each counted each time it is reached (what is shared counts as often as it is met; a slice's spare places count too). A statement '..UptoSaid' is the law's where the arguments, and the package variables that the reading takes, are together of bulk at most 1048576: NARROWER than '..Said'. Prove '..Said' where nothing that the law and all that it calls make is longer than what came in: it says more and counts as full. Else prove '..UptoSaid'. A law counts once. -/
mutual
def uptoBulk {H : Type} : DataW H → Nat
  | .lit (.string bytes) => bytes.length + 1
  | .lit _ => 1
  | .nil => 1
  | .ptr d => uptoBulk d + 1
  | .slice elems spare => uptoBulkAll elems + uptoBulkAll spare + 1
  | .agg parts => uptoBulkAll parts + 1
  | .iface _ d => uptoBulk d + 1
  | .map entries => uptoBulkEntries entries + 1
  | .held _ => 1
def uptoBulkAll {H : Type} : List (DataW H) → Nat
  | [] => 0
  | d :: r => uptoBulk d + uptoBulkAll r
def uptoBulkEntries {H : Type} : List (Lit × DataW H) → Nat
  | [] => 0
  | x :: r => uptoBulkEntry x + uptoBulkEntries r
def uptoBulkEntry {H : Type} : Lit × DataW H → Nat
  | (.string bytes, d) => bytes.length + uptoBulk d + 1
  | (_, d) => uptoBulk d + 1
 end
def uptoSmall : (H : Type) → List (DataW H) → Bool := fun _ ds => decide (uptoBulkAll ds ≤ 1048576)
def OpenSpec.upto (s : _root_.Go.ChangeSpec) : _root_.Go.OpenSpec := { _root_.Go.OpenSpec.ofChange s with cond := some uptoSmall }

/-- 'sluicegatelaw06.DisksCrash', WHERE WHAT IT READS IS OF BULK AT MOST 1048576: true; the input reads as it did. -/
def disksCrashUptoRow : OpenClaim := { program := "ythkafociknhgaaa", sum := "2017e43445348be872f2ce29605d9b0f8fd6f482ba5fdb518aaedb735cc83808", func := "sluicegate/sluicegatelaw06.DisksCrash", spec := "disksCrash", inPlace := ["maps.clone"], unfollowed := true, recurses := true, apart := false, narrowed := true }
def DisksCrashUptoSaid : Prop := disksCrashUptoRow.holds Try.pinned (OpenSpec.upto disksCrashSpec)

/-- 'sluicegatelaw06.DisksFlush', WHERE WHAT IT READS IS OF BULK AT MOST 1048576: true; the input reads as it did. -/
def disksFlushUptoRow : OpenClaim := { program := "ythkafociknhgaaa", sum := "2017e43445348be872f2ce29605d9b0f8fd6f482ba5fdb518aaedb735cc83808", func := "sluicegate/sluicegatelaw06.DisksFlush", spec := "disksFlush", inPlace := ["maps.clone"], unfollowed := true, recurses := true, apart := false, narrowed := true }
def DisksFlushUptoSaid : Prop := disksFlushUptoRow.holds Try.pinned (OpenSpec.upto disksFlushSpec)

/-- 'sluicegatelaw06.DisksScripts', WHERE WHAT IT READS IS OF BULK AT MOST 1048576: true; the input reads as it did. -/
def disksScriptsUptoRow : OpenClaim := { program := "ythkafociknhgaaa", sum := "2017e43445348be872f2ce29605d9b0f8fd6f482ba5fdb518aaedb735cc83808", func := "sluicegate/sluicegatelaw06.DisksScripts", spec := "disksScripts", inPlace := ["maps.clone"], unfollowed := true, recurses := true, apart := false, narrowed := true }
def DisksScriptsUptoSaid : Prop := disksScriptsUptoRow.holds Try.pinned (OpenSpec.upto disksScriptsSpec)

/-- 'sluicegatelaw06.DisksAlone', WHERE WHAT IT READS IS OF BULK AT MOST 1048576: true; the input reads as it did. -/
def disksAloneUptoRow : OpenClaim := { program := "ythkafociknhgaaa", sum := "2017e43445348be872f2ce29605d9b0f8fd6f482ba5fdb518aaedb735cc83808", func := "sluicegate/sluicegatelaw06.DisksAlone", spec := "disksAlone", inPlace := ["maps.clone"], unfollowed := true, recurses := true, apart := false, narrowed := true }
def DisksAloneUptoSaid : Prop := disksAloneUptoRow.holds Try.pinned (OpenSpec.upto disksAloneSpec)

/-- 'sluicegatelaw06.DisksNil', WHERE WHAT IT READS IS OF BULK AT MOST 1048576: true; the input reads as it did. -/
def disksNilUptoRow : OpenClaim := { program := "ythkafociknhgaaa", sum := "2017e43445348be872f2ce29605d9b0f8fd6f482ba5fdb518aaedb735cc83808", func := "sluicegate/sluicegatelaw06.DisksNil", spec := "disksNil", inPlace := ["maps.clone"], unfollowed := true, recurses := true, apart := false, narrowed := true }
def DisksNilUptoSaid : Prop := disksNilUptoRow.holds Try.pinned (OpenSpec.upto disksNilSpec)

end Rows
end Go.Proofs.Ythkafociknhgaaa
