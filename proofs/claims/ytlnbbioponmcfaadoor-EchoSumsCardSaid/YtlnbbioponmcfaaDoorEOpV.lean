/-
  Chapter 2: further arguments of the statements, opened: values without slices.
-/
import Derived.Test.YtlnbbioponmcfaaDoorEOpn
import Derived.Test.YtlnbbioponmcfaaDoorEEch
namespace Go.Proofs.YtlnbbioponmcfaaDoor
open Go.ChangeShapes Go.WideShapes Go.ChangeAt Go.RowKit
set_option linter.unusedVariables false
set_option linter.unusedSimpArgs false
theorem okWide_arr {P : Program} {w : World} {r : Reach} {base : Nat} {t e : TypeId} {v : Value} {n : Nat} (ht : P.underlying t = some (.array n e)) (h : Value.okWide P w r base t v) : ∃ cs, v = .agg cs ∧ cs.size = P.cellsOf t := by
  simp only [Value.okWide, ht] at h
  obtain ⟨cs, h1, h2, _⟩ := h
  exact ⟨cs, h1, h2⟩
theorem arr2 {α : Type} {cs : Array α} (h : cs.size = 2) : ∃ c0 c1, cs = #[c0, c1] := by
  obtain ⟨l⟩ := cs
  match l, h with
  | [c0, c1], _ => exact ⟨c0, c1, rfl⟩
theorem arr3 {α : Type} {cs : Array α} (h : cs.size = 3) : ∃ c0 c1 c2, cs = #[c0, c1, c2] := by
  obtain ⟨l⟩ := cs
  match l, h with
  | [c0, c1, c2], _ => exact ⟨c0, c1, c2, rfl⟩
theorem arr4 {α : Type} {cs : Array α} (h : cs.size = 4) : ∃ c0 c1 c2 c3, cs = #[c0, c1, c2, c3] := by
  obtain ⟨l⟩ := cs
  match l, h with
  | [c0, c1, c2, c3], _ => exact ⟨c0, c1, c2, c3, rfl⟩
section
variable {H : Type} {enc : TypeId × Value → H} {W : World} {r : Reach} {b0 base0 : Nat} {held : Bool} {v : Value} {d : DataW H} {p : List MemPlace}
set_option maxRecDepth 100000 in
theorem open_readingArg (hv : Value.okWide Tryd.prog W r b0 89 v) (h : DataW.Trod enc Tryd.prog W base0 (fun _ => true) held 89 v d p) : ∃ x : Rd, v = rv x := by
  obtain ⟨cs, rfl, hsz⟩ := okWide_struct Tryd.underlying89 hv
  have hC : Tryd.prog.cellsOf 89 = 3 := by kernel_rfl
  rw [hC] at hsz
  obtain ⟨c0, c1, c2, rfl⟩ := arr3 hsz
  obtain ⟨fuel, hf⟩ := h
  have hf' : DataW.trod enc Tryd.prog W base0 (fun _ => true) held fuel 89 [c0, c1, c2] = some (d, p) := hf
  obtain ⟨z0, z1, z2, rfl, rfl, rfl⟩ := trod_rd hf'
  exact ⟨⟨z0, z1, z2⟩, rfl⟩
set_option maxRecDepth 100000 in
theorem trod_gs {fuel : Nat} {c0 c1 : Value} {x : DataW H × List MemPlace} (ht : DataW.trod enc Tryd.prog W base0 (fun _ => true) held fuel 30 [c0, c1] = some x) : ∃ z0 z1 : Int, c0 = .int .i64 z0 ∧ c1 = .int .i64 z1 := by
  have k : Tryd.prog.cellsOf 3 = 1 := by kernel_rfl
  obtain ⟨xs, n, _, hx, hl, hlen, hg⟩ := DataW.trod_struct Tryd.underlying30 ht
  match xs, hlen with
  | [y0, y1], _ =>
    have h0 : DataW.trod enc Tryd.prog W base0 (fun _ => true) held n 3 [c0] = some y0 := by simpa [Value.cells, k] using hg 0 _ rfl
    have h1 : DataW.trod enc Tryd.prog W base0 (fun _ => true) held n 3 [c1] = some y1 := by simpa [Value.cells, k] using hg 1 _ rfl
    obtain ⟨z0, e0, _, _⟩ := DataW.trod_int Tryd.underlying3 h0
    obtain ⟨z1, e1, _, _⟩ := DataW.trod_int Tryd.underlying3 h1
    simp only [List.cons.injEq, and_true] at e0 e1
    exact ⟨z0, z1, e0, e1⟩
set_option maxRecDepth 100000 in
theorem open_gaussArg (hv : Value.okWide Tryd.prog W r b0 30 v) (h : DataW.Trod enc Tryd.prog W base0 (fun _ => true) held 30 v d p) : ∃ x : Gs, v = gv x := by
  obtain ⟨cs, rfl, hsz⟩ := okWide_struct Tryd.underlying30 hv
  have hC : Tryd.prog.cellsOf 30 = 2 := by kernel_rfl
  rw [hC] at hsz
  obtain ⟨c0, c1, rfl⟩ := arr2 hsz
  obtain ⟨fuel, hf⟩ := h
  have hf' : DataW.trod enc Tryd.prog W base0 (fun _ => true) held fuel 30 [c0, c1] = some (d, p) := hf
  obtain ⟨z0, z1, rfl, rfl⟩ := trod_gs hf'
  exact ⟨⟨z0, z1⟩, rfl⟩
set_option maxRecDepth 100000 in
theorem open_pairArg (hv : Value.okWide Tryd.prog W r b0 60 v) (h : DataW.Trod enc Tryd.prog W base0 (fun _ => true) held 60 v d p) : ∃ x y : Gs, v = gv2 x y := by
  obtain ⟨cs, rfl, hsz⟩ := okWide_arr Tryd.underlying60 hv
  have hC : Tryd.prog.cellsOf 60 = 4 := by kernel_rfl
  have hG : Tryd.prog.cellsOf 30 = 2 := by kernel_rfl
  rw [hC] at hsz
  obtain ⟨c0, c1, c2, c3, rfl⟩ := arr4 hsz
  obtain ⟨fuel, hf⟩ := h
  have hf' : DataW.trod enc Tryd.prog W base0 (fun _ => true) held fuel 60 [c0, c1, c2, c3] = some (d, p) := hf
  obtain ⟨xs, m, _, hx, hl, hlen, hg⟩ := DataW.trod_array Tryd.underlying60 hf'
  match xs, hlen with
  | [u0, u1], _ =>
    have h0 : DataW.trod enc Tryd.prog W base0 (fun _ => true) held m 30 [c0, c1] = some u0 := by simpa [hG] using hg 0 (by decide)
    have h1 : DataW.trod enc Tryd.prog W base0 (fun _ => true) held m 30 [c2, c3] = some u1 := by simpa [hG] using hg 1 (by decide)
    obtain ⟨z0, z1, rfl, rfl⟩ := trod_gs h0
    obtain ⟨z2, z3, rfl, rfl⟩ := trod_gs h1
    exact ⟨⟨z0, z1⟩, ⟨z2, z3⟩, rfl⟩
end
end Go.Proofs.YtlnbbioponmcfaaDoor
