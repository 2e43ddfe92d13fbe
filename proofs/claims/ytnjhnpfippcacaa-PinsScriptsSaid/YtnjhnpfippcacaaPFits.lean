/- The cells of the arguments' volumes and ops. -/
import Derived.Test.YtnjhnpfippcacaaSLRow2
import Derived.Test.YtnjhnpfippcacaaPDefs
import Derived.Test.YtnjhnpfippcacaaProg
namespace Go.Pins
open Go Go.SL Go.Proofs
def VolOk (w : World) (x : Vol) : Prop := (∃ locs : List Loc, SlR w 57 2 Loc.cells x.lA x.ln locs) ∧ x.ln ≤ x.lc ∧ x.lc ≤ maxLen ∧ Small x.ln
section
variable {H : Type} {enc : TypeId × Value → H} {w : World} {base : Nat} {spare : Nat → Bool} {held : Bool}
theorem Loc.of_trod (cs : List Value) (hl : cs.length = 2) (h : TrodW enc Try.prog w base spare held 57 cs) : ∃ x : Loc, cs = x.cells ∧ True := by
  match cs, hl, h with
  | [a1, a2], _, h =>
    obtain ⟨n1, h1⟩ := trodW_int Try.underlying3 (trodW_fld Try.underlying57 h (i := 0) rfl)
    obtain ⟨n2, h2⟩ := trodW_int Try.underlying3 (trodW_fld Try.underlying57 h (i := 1) rfl)
    refine ⟨⟨n1, n2⟩, ?_, trivial⟩
    obtain rfl : a1 = .int .i64 n1 := by have h1' : [a1] = [Value.int .i64 n1] := h1; simpa using h1'
    obtain rfl : a2 = .int .i64 n2 := by have h2' : [a2] = [Value.int .i64 n2] := h2; simpa using h2'
    rfl
theorem Vol.of_trod (cs : List Value) (hl : cs.length = 4) (h : TrodW enc Try.prog w base spare held 33 cs) : ∃ x : Vol, cs = x.cells ∧ VolOk w x := by
  match cs, hl, h with
  | [a1, a2, a3, a4], _, h =>
    obtain ⟨n1, h1⟩ := trodW_int Try.underlying3 (trodW_fld Try.underlying33 h (i := 0) rfl)
    obtain ⟨n2, h2⟩ := trodW_int Try.underlying3 (trodW_fld Try.underlying33 h (i := 1) rfl)
    obtain ⟨n3, h3⟩ := trodW_int Try.underlying3 (trodW_fld Try.underlying33 h (i := 2) rfl)
    have hs := trodW_fld Try.underlying33 h (i := 3) rfl
    obtain ⟨A, n, c, h4⟩ := trodW_slice Try.underlying31 hs
    obtain rfl : a1 = .int .i64 n1 := by have h1' : [a1] = [Value.int .i64 n1] := h1; simpa using h1'
    obtain rfl : a2 = .int .i64 n2 := by have h2' : [a2] = [Value.int .i64 n2] := h2; simpa using h2'
    obtain rfl : a3 = .int .i64 n3 := by have h3' : [a3] = [Value.int .i64 n3] := h3; simpa using h3'
    obtain rfl : a4 = .slice A n c := by have h4' : [a4] = [Value.slice A n c] := h4; simpa using h4'
    obtain ⟨⟨xs, hx, _⟩, h5, h6, h7⟩ := slr_of_trodW (Q := fun _ => True) Try.underlying31 (by kernel_rfl) (by omega) Loc.cells_len Loc.of_trod (a := A) (len := n) (cap := c) hs
    exact ⟨⟨n1, n2, n3, A, n, c⟩, rfl, ⟨xs, hx⟩, h5, h6, by
      rw [show Try.prog.bytesOf 57 = 16 by kernel_rfl] at h7
      have := reachBytes_lt
      show n * 16 ≤ 140737488355328
      omega⟩
theorem OpP.of_trod (cs : List Value) (hl : cs.length = 7) (h : TrodW enc Try.prog w base spare held 35 cs) : ∃ x : OpP, cs = x.cells ∧ VolOk w x.v := by
  match cs, hl, h with
  | [a1, a2, a3, a4, a5, a6, a7], _, h =>
    obtain ⟨n1, h1⟩ := trodW_int Try.underlying3 (trodW_fld Try.underlying35 h (i := 0) rfl)
    obtain ⟨n2, h2⟩ := trodW_int Try.underlying3 (trodW_fld Try.underlying35 h (i := 1) rfl)
    obtain ⟨n3, h3⟩ := trodW_int Try.underlying3 (trodW_fld Try.underlying35 h (i := 2) rfl)
    have hs := trodW_fld Try.underlying35 h (i := 3) rfl
    obtain ⟨v, hv, hok⟩ := Vol.of_trod [a4, a5, a6, a7] rfl hs
    obtain rfl : a1 = .int .i64 n1 := by have h1' : [a1] = [Value.int .i64 n1] := h1; simpa using h1'
    obtain rfl : a2 = .int .i64 n2 := by have h2' : [a2] = [Value.int .i64 n2] := h2; simpa using h2'
    obtain rfl : a3 = .int .i64 n3 := by have h3' : [a3] = [Value.int .i64 n3] := h3; simpa using h3'
    refine ⟨⟨n1, n2, n3, v⟩, ?_, hok⟩
    simp only [Vol.cells, List.cons.injEq] at hv
    obtain ⟨rfl, rfl, rfl, rfl, _⟩ := hv
    rfl
end
theorem VolOk.vf {w : World} {x : Vol} (h : VolOk w x) (fs : List (Nat × Obj)) : ∃ r : Rec, Vf w Emp fs x r := by
  obtain ⟨⟨locs, hl, hs⟩, _, _, hn⟩ := h
  refine ⟨⟨x.id, x.gen, x.size, locs⟩, rfl, rfl, rfl, ⟨hl, fun hne => ?_⟩, hn⟩
  obtain ⟨b, off, c, fz, h1, h2, h3⟩ := hs hne
  exact ⟨b, off, c, fz, h1, .inl ⟨h2, fun h => h⟩, h3⟩
theorem VolOk.rec {w : World} {x : Vol} (h : VolOk w x) : ∃ r : Rec, ∀ fs, Vf w Emp fs x r := by
  obtain ⟨⟨locs, hl, hs⟩, _, _, hn⟩ := h
  refine ⟨⟨x.id, x.gen, x.size, locs⟩, fun fs => ⟨rfl, rfl, rfl, ⟨hl, fun hne => ?_⟩, hn⟩⟩
  obtain ⟨b, off, c, fz, h1, h2, h3⟩ := hs hne
  exact ⟨b, off, c, fz, h1, .inl ⟨h2, fun h => h⟩, h3⟩
end Go.Pins
