/- The cells of the arguments of the laws on places. -/
import Derived.Test.YtmhdjmbckgamlaaSLRow2
import Derived.Test.YtmhdjmbckgamlaaPlDefs
import Derived.Test.YtmhdjmbckgamlaaProg
namespace Go.Place
open Go Go.SL Go.Proofs
def VolOk (w : World) (x : Vol) : Prop := ∃ ls : List Loc, Vr w x ls
structure Case where
  id : Int
  gen : Int
  lA : Option Addr
  ln : Nat
  lc : Nat
  uA : Option Addr
  un : Nat
  uc : Nat
def Case.cells (x : Case) : List Value := [.int .i64 x.id, .int .i64 x.gen, .slice x.lA x.ln x.lc, .slice x.uA x.un x.uc]
def CaseOk (w : World) (x : Case) : Prop := (∃ xs, SlR w 3 1 ic x.lA x.ln xs) ∧ (∃ us, SlR w 3 1 ic x.uA x.un us) ∧ x.ln ≤ 9223372036854775807 ∧ x.un ≤ 9223372036854775807
section
variable {H : Type} {enc : TypeId × Value → H} {w : World} {base : Nat} {spare : Nat → Bool} {held : Bool}
theorem ic_of_trod (cs : List Value) (hl : cs.length = 1) (h : TrodW enc Try.prog w base spare held 3 cs) : ∃ x : Int, cs = ic x ∧ True := by
  obtain ⟨n, h⟩ := trodW_int Try.underlying3 h
  exact ⟨n, h, trivial⟩
theorem Loc.of_trod (cs : List Value) (hl : cs.length = 2) (h : TrodW enc Try.prog w base spare held 45 cs) : ∃ x : Loc, cs = x.cells ∧ True := by
  match cs, hl, h with
  | [a1, a2], _, h =>
    obtain ⟨n1, h1⟩ := trodW_int Try.underlying3 (trodW_fld Try.underlying45 h (i := 0) rfl)
    obtain ⟨n2, h2⟩ := trodW_int Try.underlying3 (trodW_fld Try.underlying45 h (i := 1) rfl)
    refine ⟨⟨n1, n2⟩, ?_, trivial⟩
    obtain rfl : a1 = .int .i64 n1 := by have h1' : [a1] = [Value.int .i64 n1] := h1; simpa using h1'
    obtain rfl : a2 = .int .i64 n2 := by have h2' : [a2] = [Value.int .i64 n2] := h2; simpa using h2'
    rfl
theorem Vol.of_trod (cs : List Value) (hl : cs.length = 4) (h : TrodW enc Try.prog w base spare held 36 cs) : ∃ x : Vol, cs = x.cells ∧ VolOk w x := by
  match cs, hl, h with
  | [a1, a2, a3, a4], _, h =>
    obtain ⟨n1, h1⟩ := trodW_int Try.underlying3 (trodW_fld Try.underlying36 h (i := 0) rfl)
    obtain ⟨n2, h2⟩ := trodW_int Try.underlying3 (trodW_fld Try.underlying36 h (i := 1) rfl)
    obtain ⟨n3, h3⟩ := trodW_int Try.underlying3 (trodW_fld Try.underlying36 h (i := 2) rfl)
    have hs := trodW_fld Try.underlying36 h (i := 3) rfl
    obtain ⟨A, n, c, h4⟩ := trodW_slice Try.underlying34 hs
    obtain rfl : a1 = .int .i64 n1 := by have h1' : [a1] = [Value.int .i64 n1] := h1; simpa using h1'
    obtain rfl : a2 = .int .i64 n2 := by have h2' : [a2] = [Value.int .i64 n2] := h2; simpa using h2'
    obtain rfl : a3 = .int .i64 n3 := by have h3' : [a3] = [Value.int .i64 n3] := h3; simpa using h3'
    obtain rfl : a4 = .slice A n c := by have h4' : [a4] = [Value.slice A n c] := h4; simpa using h4'
    obtain ⟨⟨xs, hx, _⟩, h5, h6, h7⟩ := slr_of_trodW (Q := fun _ => True) Try.underlying34 (by kernel_rfl) (by omega) Loc.cells_len Loc.of_trod (a := A) (len := n) (cap := c) hs
    refine ⟨⟨n1, n2, n3, A, n, c⟩, rfl, xs, hx, ?_⟩
    rw [show Try.prog.bytesOf 45 = 16 by kernel_rfl] at h7
    have := reachBytes_lt
    show n * 16 ≤ 140737488355328
    omega
theorem Case.of_trod (cs : List Value) (hl : cs.length = 4) (h : TrodW enc Try.prog w base spare held 24 cs) : ∃ x : Case, cs = x.cells ∧ CaseOk w x := by
  match cs, hl, h with
  | [a1, a2, a3, a4], _, h =>
    obtain ⟨n1, h1⟩ := trodW_int Try.underlying3 (trodW_fld Try.underlying24 h (i := 0) rfl)
    obtain ⟨n2, h2⟩ := trodW_int Try.underlying3 (trodW_fld Try.underlying24 h (i := 1) rfl)
    have hs := trodW_fld Try.underlying24 h (i := 2) rfl
    have hu := trodW_fld Try.underlying24 h (i := 3) rfl
    obtain ⟨A, n, c, h3⟩ := trodW_slice Try.underlying22 hs
    obtain ⟨B, m, c2, h4⟩ := trodW_slice Try.underlying22 hu
    obtain rfl : a1 = .int .i64 n1 := by have h1' : [a1] = [Value.int .i64 n1] := h1; simpa using h1'
    obtain rfl : a2 = .int .i64 n2 := by have h2' : [a2] = [Value.int .i64 n2] := h2; simpa using h2'
    obtain rfl : a3 = .slice A n c := by have h3' : [a3] = [Value.slice A n c] := h3; simpa using h3'
    obtain rfl : a4 = .slice B m c2 := by have h4' : [a4] = [Value.slice B m c2] := h4; simpa using h4'
    obtain ⟨⟨xs, hx, _⟩, h5, h6, _⟩ := slr_of_trodW (Q := fun _ => True) Try.underlying22 (by kernel_rfl) (by omega) ic_len ic_of_trod (a := A) (len := n) (cap := c) hs
    obtain ⟨⟨us, hy, _⟩, h7, h8, _⟩ := slr_of_trodW (Q := fun _ => True) Try.underlying22 (by kernel_rfl) (by omega) ic_len ic_of_trod (a := B) (len := m) (cap := c2) hu
    unfold maxLen at h6 h8
    exact ⟨⟨n1, n2, A, n, c, B, m, c2⟩, rfl, ⟨xs, hx⟩, ⟨us, hy⟩, Nat.le_trans h5 h6, Nat.le_trans h7 h8⟩
end
theorem all2_of {α β : Type} {R : α → β → Prop} : ∀ {xs : List α}, (∀ x ∈ xs, ∃ y, R x y) → ∃ ys, All2 R xs ys
  | [], _ => ⟨[], trivial⟩
  | x :: xs, h => by
    obtain ⟨y, hy⟩ := h x (by simp)
    obtain ⟨ys, hys⟩ := all2_of (xs := xs) (fun z hz => h z (List.mem_cons_of_mem _ hz))
    exact ⟨y :: ys, hy, hys⟩
end Go.Place
