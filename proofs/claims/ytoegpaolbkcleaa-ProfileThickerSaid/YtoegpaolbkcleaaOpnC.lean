/-
  A change (five integers by value), as an argument.
-/
import Derived.Test.YtoegpaolbkcleaaOpn
namespace Go.Proofs.Ytoegpaolbkcleaa
open Go.ChangeShapes Go.WideShapes Go.ChangeAt Go.RowKit
set_option linter.unusedVariables false
set_option linter.unusedSimpArgs false
section
variable {H : Type} {enc : TypeId × Value → H} {W : World} {r : Reach} {b0 base0 : Nat} {held : Bool} {v : Value} {d : DataW H} {p : List MemPlace}
theorem array5 {α : Type} {cs : Array α} (h : cs.size = 5) : ∃ c0 c1 c2 c3 c4, cs = #[c0, c1, c2, c3, c4] := by
  obtain ⟨l⟩ := cs
  match l, h with
  | [c0, c1, c2, c3, c4], _ => exact ⟨c0, c1, c2, c3, c4, rfl⟩
set_option maxRecDepth 100000 in
/-- five integers by value -/
theorem open_change (hv : Value.okWide Try.prog W r b0 42 v) (h : DataW.Trod enc Try.prog W base0 (fun _ => true) held 42 v d p) :
    ∃ a0 a1 a2 a3 a4 : Int, v = .agg #[.int .i64 a0, .int .i64 a1, .int .i64 a2, .int .i64 a3, .int .i64 a4] := by
  obtain ⟨cs, rfl, hsz⟩ := okWide_struct Try.underlying42 hv
  have hC : Try.prog.cellsOf 42 = 5 := by kernel_rfl
  rw [hC] at hsz
  obtain ⟨c0, c1, c2, c3, c4, rfl⟩ := array5 hsz
  obtain ⟨fuel, hf⟩ := h
  have k : Try.prog.cellsOf 3 = 1 := by kernel_rfl
  obtain ⟨xs, n, _, hx, hl, hlen, hg⟩ := DataW.trod_struct Try.underlying42 hf
  match xs, hlen with
  | [y0, y1, y2, y3, y4], _ =>
    have h0 : DataW.trod enc Try.prog W base0 (fun _ => true) held n 3 [c0] = some y0 := by simpa [Value.cells, k] using hg 0 _ rfl
    have h1 : DataW.trod enc Try.prog W base0 (fun _ => true) held n 3 [c1] = some y1 := by simpa [Value.cells, k] using hg 1 _ rfl
    have h2 : DataW.trod enc Try.prog W base0 (fun _ => true) held n 3 [c2] = some y2 := by simpa [Value.cells, k] using hg 2 _ rfl
    have h3 : DataW.trod enc Try.prog W base0 (fun _ => true) held n 3 [c3] = some y3 := by simpa [Value.cells, k] using hg 3 _ rfl
    have h4 : DataW.trod enc Try.prog W base0 (fun _ => true) held n 3 [c4] = some y4 := by simpa [Value.cells, k] using hg 4 _ rfl
    obtain ⟨z0, e0, _, _⟩ := DataW.trod_int Try.underlying3 h0
    obtain ⟨z1, e1, _, _⟩ := DataW.trod_int Try.underlying3 h1
    obtain ⟨z2, e2, _, _⟩ := DataW.trod_int Try.underlying3 h2
    obtain ⟨z3, e3, _, _⟩ := DataW.trod_int Try.underlying3 h3
    obtain ⟨z4, e4, _, _⟩ := DataW.trod_int Try.underlying3 h4
    simp only [List.cons.injEq, and_true] at e0 e1 e2 e3 e4
    subst e0 e1 e2 e3 e4
    exact ⟨z0, z1, z2, z3, z4, rfl⟩
end
end Go.Proofs.Ytoegpaolbkcleaa
