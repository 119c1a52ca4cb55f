/-
  Chapter 2: two samples of two antennas as an argument, opened.
-/
import Derived.Test.YtppghnbabnhnbaaDoorEOpR
import Derived.Test.YtppghnbabnhnbaaDoorESdW
namespace Go.Proofs.YtppghnbabnhnbaaDoor
open Go.ChangeShapes Go.WideShapes Go.ChangeAt Go.RowKit
set_option linter.unusedVariables false
set_option linter.unusedSimpArgs false
section
variable {H : Type} {enc : TypeId × Value → H} {W : World} {r : Reach} {b0 base0 : Nat} {held : Bool} {v : Value} {d : DataW H} {p : List MemPlace}
set_option maxRecDepth 100000 in
theorem trod_pair {fuel : Nat} {c0 c1 c2 c3 : Value} {x : DataW H × List MemPlace} (ht : DataW.trod enc Tryd.prog W base0 (fun _ => true) held fuel 57 [c0, c1, c2, c3] = some x) : ∃ a b : Gs, c0 = .int .i64 a.re ∧ c1 = .int .i64 a.im ∧ c2 = .int .i64 b.re ∧ c3 = .int .i64 b.im := by
  have hG : Tryd.prog.cellsOf 24 = 2 := by kernel_rfl
  obtain ⟨xs, m, _, hx, hl, hlen, hg⟩ := DataW.trod_array Tryd.underlying57 ht
  match xs, hlen with
  | [u0, u1], _ =>
    have h0 : DataW.trod enc Tryd.prog W base0 (fun _ => true) held m 24 [c0, c1] = some u0 := by simpa [hG] using hg 0 (by decide)
    have h1 : DataW.trod enc Tryd.prog W base0 (fun _ => true) held m 24 [c2, c3] = some u1 := by simpa [hG] using hg 1 (by decide)
    obtain ⟨z0, z1, rfl, rfl⟩ := trod_gs h0
    obtain ⟨z2, z3, rfl, rfl⟩ := trod_gs h1
    exact ⟨⟨z0, z1⟩, ⟨z2, z3⟩, rfl, rfl, rfl, rfl⟩
set_option maxRecDepth 100000 in
theorem open_bothArg (hv : Value.okWide Tryd.prog W r b0 118 v) (h : DataW.Trod enc Tryd.prog W base0 (fun _ => true) held 118 v d p) : ∃ a b c e : Gs, v = gv22 a b c e := by
  obtain ⟨cs, rfl, hsz⟩ := okWide_arr Tryd.underlying118 hv
  have hC : Tryd.prog.cellsOf 118 = 8 := by kernel_rfl
  have hP : Tryd.prog.cellsOf 57 = 4 := by kernel_rfl
  rw [hC] at hsz
  obtain ⟨c0, c1, c2, c3, c4, c5, c6, c7, rfl⟩ := arr8 hsz
  obtain ⟨fuel, hf⟩ := h
  have hf' : DataW.trod enc Tryd.prog W base0 (fun _ => true) held fuel 118 [c0, c1, c2, c3, c4, c5, c6, c7] = some (d, p) := hf
  obtain ⟨xs, m, _, hx, hl, hlen, hg⟩ := DataW.trod_array Tryd.underlying118 hf'
  match xs, hlen with
  | [u0, u1], _ =>
    have h0 : DataW.trod enc Tryd.prog W base0 (fun _ => true) held m 57 [c0, c1, c2, c3] = some u0 := by simpa [hP] using hg 0 (by decide)
    have h1 : DataW.trod enc Tryd.prog W base0 (fun _ => true) held m 57 [c4, c5, c6, c7] = some u1 := by simpa [hP] using hg 1 (by decide)
    obtain ⟨a, b, rfl, rfl, rfl, rfl⟩ := trod_pair h0
    obtain ⟨c, e, rfl, rfl, rfl, rfl⟩ := trod_pair h1
    exact ⟨a, b, c, e, rfl⟩
end
end Go.Proofs.YtppghnbabnhnbaaDoor
