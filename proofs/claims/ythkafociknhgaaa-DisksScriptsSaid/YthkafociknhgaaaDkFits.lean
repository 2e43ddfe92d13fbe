/- The cells of the arguments of the laws on disks. -/
import Derived.Test.YthkafociknhgaaaSLRow2
import Derived.Test.YthkafociknhgaaaDkDefs
import Derived.Test.YthkafociknhgaaaProg
namespace Go.Disks
open Go Go.SL Go.Proofs
structure OpD where
  op : Int
  d : Int
  n : Int
  s : ByteArray
  kA : Option Addr
  kn : Nat
  kc : Nat
  tA : Option Addr
  tn : Nat
  tc : Nat
def OpD.cells (x : OpD) : List Value := [.int .i64 x.op, .int .i64 x.d, .int .i64 x.n, .string x.s, .slice x.kA x.kn x.kc, .slice x.tA x.tn x.tc]
theorem OpD.cells_len (x : OpD) : x.cells.length = 6 := rfl
def OpOk (w : World) (x : OpD) : Prop := (∃ xs, SlR w 4 1 bc x.kA x.kn xs) ∧ (∃ us, SlR w 4 1 bc x.tA x.tn us) ∧ x.kn ≤ 9223372036854775807 ∧ x.tn ≤ 9223372036854775807 ∧ x.s.size ≤ 9223372036854775807
section
variable {H : Type} {enc : TypeId × Value → H} {w : World} {base : Nat} {spare : Nat → Bool} {held : Bool}
theorem bc_of_trod (cs : List Value) (hl : cs.length = 1) (h : TrodW enc Try.prog w base spare held 4 cs) : ∃ x : Bool, cs = bc x ∧ True := by
  obtain ⟨n, h⟩ := trodW_bool Try.underlying4 h
  exact ⟨n, h, trivial⟩
theorem OpD.of_trod (cs : List Value) (hl : cs.length = 6) (h : TrodW enc Try.prog w base spare held 30 cs) : ∃ x : OpD, cs = x.cells ∧ OpOk w x := by
  match cs, hl, h with
  | [a1, a2, a3, a4, a5, a6], _, h =>
    obtain ⟨n1, h1⟩ := trodW_int Try.underlying3 (trodW_fld Try.underlying30 h (i := 0) rfl)
    obtain ⟨n2, h2⟩ := trodW_int Try.underlying3 (trodW_fld Try.underlying30 h (i := 1) rfl)
    obtain ⟨n3, h3⟩ := trodW_int Try.underlying3 (trodW_fld Try.underlying30 h (i := 2) rfl)
    obtain ⟨s, h4, hsz⟩ := trodW_string Try.underlying9 (trodW_fld Try.underlying30 h (i := 3) rfl)
    have hs := trodW_fld Try.underlying30 h (i := 4) rfl
    have hu := trodW_fld Try.underlying30 h (i := 5) rfl
    obtain ⟨A, n, c, h5⟩ := trodW_slice Try.underlying23 hs
    obtain ⟨B, m, c2, h6⟩ := trodW_slice Try.underlying23 hu
    obtain rfl : a1 = .int .i64 n1 := by have h1' : [a1] = [Value.int .i64 n1] := h1; simpa using h1'
    obtain rfl : a2 = .int .i64 n2 := by have h2' : [a2] = [Value.int .i64 n2] := h2; simpa using h2'
    obtain rfl : a3 = .int .i64 n3 := by have h3' : [a3] = [Value.int .i64 n3] := h3; simpa using h3'
    obtain rfl : a4 = .string s := by have h4' : [a4] = [Value.string s] := h4; simpa using h4'
    obtain rfl : a5 = .slice A n c := by have h5' : [a5] = [Value.slice A n c] := h5; simpa using h5'
    obtain rfl : a6 = .slice B m c2 := by have h6' : [a6] = [Value.slice B m c2] := h6; simpa using h6'
    obtain ⟨⟨xs, hx, _⟩, h7, h8, _⟩ := slr_of_trodW (Q := fun _ => True) Try.underlying23 (by kernel_rfl) (by omega) bc_len bc_of_trod (a := A) (len := n) (cap := c) hs
    obtain ⟨⟨us, hy, _⟩, h9, h10, _⟩ := slr_of_trodW (Q := fun _ => True) Try.underlying23 (by kernel_rfl) (by omega) bc_len bc_of_trod (a := B) (len := m) (cap := c2) hu
    unfold maxLen at h8 h10 hsz
    exact ⟨⟨n1, n2, n3, s, A, n, c, B, m, c2⟩, rfl, ⟨xs, hx⟩, ⟨us, hy⟩, Nat.le_trans h7 h8, Nat.le_trans h9 h10, hsz⟩
end
end Go.Disks
