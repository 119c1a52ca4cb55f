/-
  Chapter 2: further arguments of the statements, opened: modes, splits, rules, samples.
-/
import Derived.Test.YtlnbbioponmcfaaDoorEOpV
import Derived.Test.YtlnbbioponmcfaaDoorETag
import Derived.Test.YtlnbbioponmcfaaDoorEDvW
namespace Go.Proofs.YtlnbbioponmcfaaDoor
open Go.ChangeShapes Go.WideShapes Go.ChangeAt Go.RowKit
set_option linter.unusedVariables false
set_option linter.unusedSimpArgs false

theorem arr5 {α : Type} {cs : Array α} (h : cs.size = 5) : ∃ c0 c1 c2 c3 c4, cs = #[c0, c1, c2, c3, c4] := by
  obtain ⟨l⟩ := cs
  match l, h with
  | [c0, c1, c2, c3, c4], _ => exact ⟨c0, c1, c2, c3, c4, rfl⟩
theorem arr8 {α : Type} {cs : Array α} (h : cs.size = 8) : ∃ c0 c1 c2 c3 c4 c5 c6 c7, cs = #[c0, c1, c2, c3, c4, c5, c6, c7] := by
  obtain ⟨l⟩ := cs
  match l, h with
  | [c0, c1, c2, c3, c4, c5, c6, c7], _ => exact ⟨c0, c1, c2, c3, c4, c5, c6, c7, rfl⟩
theorem arr10 {α : Type} {cs : Array α} (h : cs.size = 10) : ∃ c0 c1 c2 c3 c4 c5 c6 c7 c8 c9, cs = #[c0, c1, c2, c3, c4, c5, c6, c7, c8, c9] := by
  obtain ⟨l⟩ := cs
  match l, h with
  | [c0, c1, c2, c3, c4, c5, c6, c7, c8, c9], _ => exact ⟨c0, c1, c2, c3, c4, c5, c6, c7, c8, c9, rfl⟩
section
variable {H : Type} {enc : TypeId × Value → H} {W : World} {r : Reach} {b0 base0 : Nat} {held : Bool} {v : Value} {d : DataW H} {p : List MemPlace}
set_option maxRecDepth 100000 in
theorem trod_modes {fuel : Nat} {c0 c1 c2 c3 : Value} {x : DataW H × List MemPlace} (ht : DataW.trod enc Tryd.prog W base0 (fun _ => true) held fuel 56 [c0, c1, c2, c3] = some x) : ∃ z0 z1 : Gs, c0 = .int .i64 z0.re ∧ c1 = .int .i64 z0.im ∧ c2 = .int .i64 z1.re ∧ c3 = .int .i64 z1.im := by
  have k : Tryd.prog.cellsOf 30 = 2 := by kernel_rfl
  obtain ⟨xs, n, _, hx, hl, hlen, hg⟩ := DataW.trod_struct Tryd.underlying56 ht
  match xs, hlen with
  | [y0, y1], _ =>
    have h0 : DataW.trod enc Tryd.prog W base0 (fun _ => true) held n 30 [c0, c1] = some y0 := by simpa [Value.cells, k] using hg 0 _ rfl
    have h1 : DataW.trod enc Tryd.prog W base0 (fun _ => true) held n 30 [c2, c3] = some y1 := by simpa [Value.cells, k] using hg 1 _ rfl
    obtain ⟨a0, a1, rfl, rfl⟩ := trod_gs h0
    obtain ⟨a2, a3, rfl, rfl⟩ := trod_gs h1
    exact ⟨⟨a0, a1⟩, ⟨a2, a3⟩, rfl, rfl, rfl, rfl⟩
set_option maxRecDepth 100000 in
theorem open_modesArg (hv : Value.okWide Tryd.prog W r b0 56 v) (h : DataW.Trod enc Tryd.prog W base0 (fun _ => true) held 56 v d p) : ∃ x y : Gs, v = gv2 x y := by
  obtain ⟨cs, rfl, hsz⟩ := okWide_struct Tryd.underlying56 hv
  have hC : Tryd.prog.cellsOf 56 = 4 := by kernel_rfl
  rw [hC] at hsz
  obtain ⟨c0, c1, c2, c3, rfl⟩ := arr4 hsz
  obtain ⟨fuel, hf⟩ := h
  have hf' : DataW.trod enc Tryd.prog W base0 (fun _ => true) held fuel 56 [c0, c1, c2, c3] = some (d, p) := hf
  obtain ⟨z0, z1, rfl, rfl, rfl, rfl⟩ := trod_modes hf'
  exact ⟨z0, z1, rfl⟩
set_option maxRecDepth 100000 in
theorem trod_gsR {fuel : Nat} {c0 c1 : Value} {x : DataW H × List MemPlace} (ht : DataW.trod enc Tryd.prog W base0 (fun _ => true) held fuel 30 [c0, c1] = some x) : ∃ z0 z1 : Int, c0 = .int .i64 z0 ∧ c1 = .int .i64 z1 ∧ N64 z0 ∧ N64 z1 := by
  have k : Tryd.prog.cellsOf 3 = 1 := by kernel_rfl
  obtain ⟨xs, n, _, hx, hl, hlen, hg⟩ := DataW.trod_struct Tryd.underlying30 ht
  match xs, hlen with
  | [y0, y1], _ =>
    have h0 : DataW.trod enc Tryd.prog W base0 (fun _ => true) held n 3 [c0] = some y0 := by simpa [Value.cells, k] using hg 0 _ rfl
    have h1 : DataW.trod enc Tryd.prog W base0 (fun _ => true) held n 3 [c1] = some y1 := by simpa [Value.cells, k] using hg 1 _ rfl
    obtain ⟨z0, e0, _, r0⟩ := DataW.trod_int Tryd.underlying3 h0
    obtain ⟨z1, e1, _, r1⟩ := DataW.trod_int Tryd.underlying3 h1
    simp only [List.cons.injEq, and_true] at e0 e1
    exact ⟨z0, z1, e0, e1, n64_wf r0, n64_wf r1⟩
set_option maxRecDepth 100000 in
theorem open_splitArg (hv : Value.okWide Tryd.prog W r b0 52 v) (h : DataW.Trod enc Tryd.prog W base0 (fun _ => true) held 52 v d p) : ∃ s : Spl, v = spv s ∧ SplR s := by
  obtain ⟨cs, rfl, hsz⟩ := okWide_struct Tryd.underlying52 hv
  have hC : Tryd.prog.cellsOf 52 = 5 := by kernel_rfl
  have hG : Tryd.prog.cellsOf 30 = 2 := by kernel_rfl
  have hI : Tryd.prog.cellsOf 3 = 1 := by kernel_rfl
  rw [hC] at hsz
  obtain ⟨c0, c1, c2, c3, c4, rfl⟩ := arr5 hsz
  obtain ⟨fuel, hf⟩ := h
  have hf' : DataW.trod enc Tryd.prog W base0 (fun _ => true) held fuel 52 [c0, c1, c2, c3, c4] = some (d, p) := hf
  obtain ⟨xs, n, _, hx, hl, hlen, hg⟩ := DataW.trod_struct Tryd.underlying52 hf'
  match xs, hlen with
  | [y0, y1, y2], _ =>
    have h0 : DataW.trod enc Tryd.prog W base0 (fun _ => true) held n 30 [c0, c1] = some y0 := by simpa [Value.cells, hG] using hg 0 _ rfl
    have h1 : DataW.trod enc Tryd.prog W base0 (fun _ => true) held n 30 [c2, c3] = some y1 := by simpa [Value.cells, hG] using hg 1 _ rfl
    have h2 : DataW.trod enc Tryd.prog W base0 (fun _ => true) held n 3 [c4] = some y2 := by simpa [Value.cells, hI] using hg 2 _ rfl
    obtain ⟨a0, a1, rfl, rfl, r0, r1⟩ := trod_gsR h0
    obtain ⟨a2, a3, rfl, rfl, r2, r3⟩ := trod_gsR h1
    obtain ⟨a4, e4, _, r4⟩ := DataW.trod_int Tryd.underlying3 h2
    simp only [List.cons.injEq, and_true] at e4
    subst e4
    exact ⟨⟨⟨a0, a1⟩, ⟨a2, a3⟩, a4⟩, rfl, r0, r1, r2, r3, n64_wf r4⟩
set_option maxRecDepth 100000 in
theorem open_rulesArg (hv : Value.okWide Tryd.prog W r b0 58 v) (h : DataW.Trod enc Tryd.prog W base0 (fun _ => true) held 58 v d p) : ∃ x : Ru, v = ruv x := by
  obtain ⟨cs, rfl, hsz⟩ := okWide_struct Tryd.underlying58 hv
  have hC : Tryd.prog.cellsOf 58 = 10 := by kernel_rfl
  have hM : Tryd.prog.cellsOf 56 = 4 := by kernel_rfl
  have hI : Tryd.prog.cellsOf 3 = 1 := by kernel_rfl
  rw [hC] at hsz
  obtain ⟨c0, c1, c2, c3, c4, c5, c6, c7, c8, c9, rfl⟩ := arr10 hsz
  obtain ⟨fuel, hf⟩ := h
  have hf' : DataW.trod enc Tryd.prog W base0 (fun _ => true) held fuel 58 [c0, c1, c2, c3, c4, c5, c6, c7, c8, c9] = some (d, p) := hf
  obtain ⟨xs, n, _, hx, hl, hlen, hg⟩ := DataW.trod_struct Tryd.underlying58 hf'
  match xs, hlen with
  | [y0, y1, y2, y3, y4, y5, y6], _ =>
    have h0 : DataW.trod enc Tryd.prog W base0 (fun _ => true) held n 56 [c0, c1, c2, c3] = some y0 := by simpa [Value.cells, hM] using hg 0 _ rfl
    obtain ⟨m0, m1, rfl, rfl, rfl, rfl⟩ := trod_modes h0
    have h1 : DataW.trod enc Tryd.prog W base0 (fun _ => true) held n 3 [c4] = some y1 := by simpa [Value.cells, hI] using hg 1 _ rfl
    obtain ⟨a1, e1, _, _⟩ := DataW.trod_int Tryd.underlying3 h1
    simp only [List.cons.injEq, and_true] at e1
    subst e1
    have h2 : DataW.trod enc Tryd.prog W base0 (fun _ => true) held n 3 [c5] = some y2 := by simpa [Value.cells, hI] using hg 2 _ rfl
    obtain ⟨a2, e2, _, _⟩ := DataW.trod_int Tryd.underlying3 h2
    simp only [List.cons.injEq, and_true] at e2
    subst e2
    have h3 : DataW.trod enc Tryd.prog W base0 (fun _ => true) held n 3 [c6] = some y3 := by simpa [Value.cells, hI] using hg 3 _ rfl
    obtain ⟨a3, e3, _, _⟩ := DataW.trod_int Tryd.underlying3 h3
    simp only [List.cons.injEq, and_true] at e3
    subst e3
    have h4 : DataW.trod enc Tryd.prog W base0 (fun _ => true) held n 3 [c7] = some y4 := by simpa [Value.cells, hI] using hg 4 _ rfl
    obtain ⟨a4, e4, _, _⟩ := DataW.trod_int Tryd.underlying3 h4
    simp only [List.cons.injEq, and_true] at e4
    subst e4
    have h5 : DataW.trod enc Tryd.prog W base0 (fun _ => true) held n 3 [c8] = some y5 := by simpa [Value.cells, hI] using hg 5 _ rfl
    obtain ⟨a5, e5, _, _⟩ := DataW.trod_int Tryd.underlying3 h5
    simp only [List.cons.injEq, and_true] at e5
    subst e5
    have h6 : DataW.trod enc Tryd.prog W base0 (fun _ => true) held n 3 [c9] = some y6 := by simpa [Value.cells, hI] using hg 6 _ rfl
    obtain ⟨a6, e6, _, _⟩ := DataW.trod_int Tryd.underlying3 h6
    simp only [List.cons.injEq, and_true] at e6
    subst e6
    exact ⟨⟨m0, m1, a1, a2, a3, a4, a5, a6⟩, rfl⟩
theorem open_gausses {fuel : Nat} {cs : List Value} {x : DataW H × List MemPlace} (h : DataW.trod enc Tryd.prog W base0 (fun _ => true) held fuel 28 cs = some x) :
    ∃ (A : Option Addr) (l : List Gs) (cap : Nat), cs = [.slice A l.length cap] ∧ l.length ≤ cap ∧ GsAt W A l := by
  have hC : Tryd.prog.cellsOf 30 = 2 := by kernel_rfl
  rcases Go.Deep.open_slice Tryd.underlying28 h with ⟨rfl, _⟩ | ⟨a, len, cap, m, n, D, Pl, rfl, hb, hl, hm, hmm, hx, hi⟩
  · exact ⟨none, [], 0, rfl, Nat.le_refl _, RowsAt.nil⟩
  · simp only [if_true] at hmm
    rw [hC] at hi
    obtain ⟨l, hlen, hq⟩ := exists_list len (Q := fun i (y : Gs) => W.cell? (a.add (i * 2)) = some (.int .i64 y.re) ∧ W.cell? (a.add (i * 2 + 1)) = some (.int .i64 y.im)) fun i hil => by
      obtain ⟨cs', hc, ht⟩ := hi i (by omega)
      obtain ⟨_, hcl, hat⟩ := World.cells?_some hc
      obtain ⟨c0, c1, rfl⟩ : ∃ c0 c1, cs' = [c0, c1] := by
        match cs', hcl with
        | [c0, c1], _ => exact ⟨c0, c1, rfl⟩
      obtain ⟨z0, z1, rfl, rfl⟩ := trod_gs ht
      refine ⟨⟨z0, z1⟩, ?_, ?_⟩
      · have := hat 0 (by omega)
        simpa [Go.Deep.add_add] using this
      · have := hat 1 (by omega)
        simpa [Go.Deep.add_add] using this
    refine ⟨some a, l, cap, by rw [hlen], by omega, rows_of (by decide) fun i hil j hj => ?_⟩
    match j, hj with
    | 0, _ => exact (hq i hil).1
    | 1, _ => exact (hq i hil).2
set_option maxRecDepth 100000 in
theorem open_gaussesArg (hv : Value.okWide Tryd.prog W r b0 28 v) (h : DataW.Trod enc Tryd.prog W base0 (fun _ => true) held 28 v d p) :
    ∃ (A : Option Addr) (l : List Gs) (cap : Nat), v = .slice A l.length cap ∧ l.length ≤ cap ∧ GsAt W A l := by
  obtain ⟨a, len, cap, rfl⟩ := okWide_slice Tryd.underlying28 hv
  obtain ⟨fuel, hf⟩ := h
  obtain ⟨A, l, cap', e, h1, h2⟩ := open_gausses hf
  have e2 : Value.slice a len cap = .slice A l.length cap' := by simpa [Value.cells] using e
  exact ⟨A, l, cap', e2, h1, h2⟩
set_option maxRecDepth 100000 in
theorem open_four {T : TypeId} {m : Nat} (hT : Tryd.prog.underlying T = some (.array m 30)) (hm : m = 4) (hC : Tryd.prog.cellsOf T = 8) (hv : Value.okWide Tryd.prog W r b0 T v) (h : DataW.Trod enc Tryd.prog W base0 (fun _ => true) held T v d p) : ∃ g : Nat → Gs, v = .agg #[.int .i64 (g 0).re, .int .i64 (g 0).im, .int .i64 (g 1).re, .int .i64 (g 1).im, .int .i64 (g 2).re, .int .i64 (g 2).im, .int .i64 (g 3).re, .int .i64 (g 3).im] := by
  subst hm
  obtain ⟨cs, rfl, hsz⟩ := okWide_arr hT hv
  have hG : Tryd.prog.cellsOf 30 = 2 := by kernel_rfl
  rw [hC] at hsz
  obtain ⟨c0, c1, c2, c3, c4, c5, c6, c7, rfl⟩ := arr8 hsz
  obtain ⟨fuel, hf⟩ := h
  have hf' : DataW.trod enc Tryd.prog W base0 (fun _ => true) held fuel T [c0, c1, c2, c3, c4, c5, c6, c7] = some (d, p) := hf
  obtain ⟨xs, m, _, hx, hl, hlen, hg⟩ := DataW.trod_array hT hf'
  match xs, hlen with
  | [u0, u1, u2, u3], _ =>
    have h0 : DataW.trod enc Tryd.prog W base0 (fun _ => true) held m 30 [c0, c1] = some u0 := by simpa [hG] using hg 0 (by decide)
    have h1 : DataW.trod enc Tryd.prog W base0 (fun _ => true) held m 30 [c2, c3] = some u1 := by simpa [hG] using hg 1 (by decide)
    have h2 : DataW.trod enc Tryd.prog W base0 (fun _ => true) held m 30 [c4, c5] = some u2 := by simpa [hG] using hg 2 (by decide)
    have h3 : DataW.trod enc Tryd.prog W base0 (fun _ => true) held m 30 [c6, c7] = some u3 := by simpa [hG] using hg 3 (by decide)
    obtain ⟨z0, z1, rfl, rfl⟩ := trod_gs h0
    obtain ⟨z2, z3, rfl, rfl⟩ := trod_gs h1
    obtain ⟨z4, z5, rfl, rfl⟩ := trod_gs h2
    obtain ⟨z6, z7, rfl, rfl⟩ := trod_gs h3
    exact ⟨fun j => match j with
      | 0 => ⟨z0, z1⟩
      | 1 => ⟨z2, z3⟩
      | 2 => ⟨z4, z5⟩
      | _ => ⟨z6, z7⟩, rfl⟩
end
end Go.Proofs.YtlnbbioponmcfaaDoor
