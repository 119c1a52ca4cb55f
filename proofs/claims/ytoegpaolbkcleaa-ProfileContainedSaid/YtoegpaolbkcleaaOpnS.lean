/-
  A sample by value (three slices of integers, four integers), as an argument.
-/
import Derived.Test.YtoegpaolbkcleaaOpnI
namespace Go.Proofs.Ytoegpaolbkcleaa
open Go.ChangeShapes Go.WideShapes Go.ChangeAt Go.RowKit
set_option linter.unusedVariables false
set_option linter.unusedSimpArgs false
section
variable {H : Type} {enc : TypeId × Value → H} {W : World} {r : Reach} {b0 base0 : Nat} {held : Bool} {v : Value} {d : DataW H} {p : List MemPlace}
theorem array7 {α : Type} {cs : Array α} (h : cs.size = 7) : ∃ c0 c1 c2 c3 c4 c5 c6, cs = #[c0, c1, c2, c3, c4, c5, c6] := by
  obtain ⟨l⟩ := cs
  match l, h with
  | [c0, c1, c2, c3, c4, c5, c6], _ => exact ⟨c0, c1, c2, c3, c4, c5, c6, rfl⟩
set_option maxRecDepth 100000 in
theorem open_sample (hv : Value.okWide Try.prog W r b0 71 v) (h : DataW.Trod enc Try.prog W base0 (fun _ => true) held 71 v d p) :
    ∃ (A : Option Addr) (fs : List Int) (ca : Nat) (B : Option Addr) (ths : List Int) (cb : Nat) (C : Option Addr) (wds : List Int) (cc : Nat) (a3 a4 a5 a6 : Int), v = .agg #[.slice A fs.length ca, .slice B ths.length cb, .slice C wds.length cc, .int .i64 a3, .int .i64 a4, .int .i64 a5, .int .i64 a6] ∧ IntsAt W A fs ∧ IntsAt W B ths ∧ IntsAt W C wds := by
  obtain ⟨cs, rfl, hsz⟩ := okWide_struct Try.underlying71 hv
  have hC : Try.prog.cellsOf 71 = 7 := by kernel_rfl
  rw [hC] at hsz
  obtain ⟨c0, c1, c2, c3, c4, c5, c6, rfl⟩ := array7 hsz
  obtain ⟨fuel, hf⟩ := h
  have k : Try.prog.cellsOf 3 = 1 := by kernel_rfl
  have k2 : Try.prog.cellsOf 69 = 1 := by kernel_rfl
  obtain ⟨xs, n, _, hx, hl, hlen, hg⟩ := DataW.trod_struct Try.underlying71 hf
  match xs, hlen with
  | [y0, y1, y2, y3, y4, y5, y6], _ =>
    have h0 : DataW.trod enc Try.prog W base0 (fun _ => true) held n 69 [c0] = some y0 := by simpa [Value.cells, k, k2] using hg 0 _ rfl
    have h1 : DataW.trod enc Try.prog W base0 (fun _ => true) held n 69 [c1] = some y1 := by simpa [Value.cells, k, k2] using hg 1 _ rfl
    have h2 : DataW.trod enc Try.prog W base0 (fun _ => true) held n 69 [c2] = some y2 := by simpa [Value.cells, k, k2] using hg 2 _ rfl
    have h3 : DataW.trod enc Try.prog W base0 (fun _ => true) held n 3 [c3] = some y3 := by simpa [Value.cells, k, k2] using hg 3 _ rfl
    have h4 : DataW.trod enc Try.prog W base0 (fun _ => true) held n 3 [c4] = some y4 := by simpa [Value.cells, k, k2] using hg 4 _ rfl
    have h5 : DataW.trod enc Try.prog W base0 (fun _ => true) held n 3 [c5] = some y5 := by simpa [Value.cells, k, k2] using hg 5 _ rfl
    have h6 : DataW.trod enc Try.prog W base0 (fun _ => true) held n 3 [c6] = some y6 := by simpa [Value.cells, k, k2] using hg 6 _ rfl
    obtain ⟨A, fs, ca, e0, _, i0⟩ := open_intList h0
    obtain ⟨B, ths, cb, e1, _, i1⟩ := open_intList h1
    obtain ⟨C, wds, cc, e2, _, i2⟩ := open_intList h2
    obtain ⟨z3, e3, _, _⟩ := DataW.trod_int Try.underlying3 h3
    obtain ⟨z4, e4, _, _⟩ := DataW.trod_int Try.underlying3 h4
    obtain ⟨z5, e5, _, _⟩ := DataW.trod_int Try.underlying3 h5
    obtain ⟨z6, e6, _, _⟩ := DataW.trod_int Try.underlying3 h6
    simp only [List.cons.injEq, and_true] at e0 e1 e2 e3 e4 e5 e6
    subst e0 e1 e2 e3 e4 e5 e6
    exact ⟨A, fs, ca, B, ths, cb, C, wds, cc, z3, z4, z5, z6, rfl, i0, i1, i2⟩
end
end Go.Proofs.Ytoegpaolbkcleaa
