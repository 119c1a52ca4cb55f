/-
  Chapter 2: two numbers as an argument, opened.
-/
import Derived.Test.YtppghnbabnhnbaaDoorEOpR
namespace Go.Proofs.YtppghnbabnhnbaaDoor
open Go.ChangeShapes Go.WideShapes Go.ChangeAt Go.RowKit
set_option linter.unusedVariables false
set_option linter.unusedSimpArgs false
section
variable {H : Type} {enc : TypeId × Value → H} {W : World} {r : Reach} {b0 base0 : Nat} {held : Bool} {v : Value} {d : DataW H} {p : List MemPlace}
set_option maxRecDepth 100000 in
theorem open_twoArg (hv : Value.okWide Tryd.prog W r b0 70 v) (h : DataW.Trod enc Tryd.prog W base0 (fun _ => true) held 70 v d p) : ∃ a b : Int, v = .agg #[.int .i64 a, .int .i64 b] := by
  obtain ⟨cs, rfl, hsz⟩ := okWide_arr Tryd.underlying70 hv
  have hC : Tryd.prog.cellsOf 70 = 2 := by kernel_rfl
  have hI : Tryd.prog.cellsOf 3 = 1 := by kernel_rfl
  rw [hC] at hsz
  obtain ⟨c0, c1, rfl⟩ := arr2 hsz
  obtain ⟨fuel, hf⟩ := h
  have hf' : DataW.trod enc Tryd.prog W base0 (fun _ => true) held fuel 70 [c0, c1] = some (d, p) := hf
  obtain ⟨xs, m, _, hx, hl, hlen, hg⟩ := DataW.trod_array Tryd.underlying70 hf'
  match xs, hlen with
  | [u0, u1], _ =>
    have h0 : DataW.trod enc Tryd.prog W base0 (fun _ => true) held m 3 [c0] = some u0 := by simpa [hI] using hg 0 (by decide)
    have h1 : DataW.trod enc Tryd.prog W base0 (fun _ => true) held m 3 [c1] = some u1 := by simpa [hI] using hg 1 (by decide)
    obtain ⟨z0, e0, _, _⟩ := DataW.trod_int Tryd.underlying3 h0
    obtain ⟨z1, e1, _, _⟩ := DataW.trod_int Tryd.underlying3 h1
    simp only [List.cons.injEq, and_true] at e0 e1
    subst e0
    subst e1
    exact ⟨z0, z1, rfl⟩
end
end Go.Proofs.YtppghnbabnhnbaaDoor
