/-
  Chapter 2: frames, and sums of frames, as arguments, opened.
-/
import Derived.Test.YtlnbbioponmcfaaDoorEOpR
import Derived.Test.YtlnbbioponmcfaaDoorEFrP
namespace Go.Proofs.YtlnbbioponmcfaaDoor
open Go.ChangeShapes Go.WideShapes Go.ChangeAt Go.RowKit
set_option linter.unusedVariables false
set_option linter.unusedSimpArgs false
section
variable {H : Type} {enc : TypeId × Value → H} {W : World} {r : Reach} {b0 base0 : Nat} {held : Bool} {v : Value} {d : DataW H} {p : List MemPlace}
theorem open_frames {fuel : Nat} {cs : List Value} {x : DataW H × List MemPlace} (h : DataW.trod enc Tryd.prog W base0 (fun _ => true) held fuel 22 cs = some x) :
    ∃ (A : Option Addr) (fs : List Frw) (cap : Nat), cs = [.slice A fs.length cap] ∧ fs.length ≤ cap ∧ FrsAt W A fs := by
  have hC : Tryd.prog.cellsOf 28 = 1 := by kernel_rfl
  rcases Go.Deep.open_slice Tryd.underlying22 h with ⟨rfl, _⟩ | ⟨a, len, cap, m, n, D, Pl, rfl, hb, hl, hm, hmm, hx, hi⟩
  · exact ⟨none, [], 0, rfl, Nat.le_refl _, RowsAt.nil, fun x hx => by cases hx⟩
  · simp only [if_true] at hmm
    rw [hC] at hi
    obtain ⟨l, hlen, hq⟩ := exists_list len (Q := fun i (y : Frw) => W.cell? (a.add (i * 1)) = some (.slice y.a y.l.length y.c) ∧ GsAt W y.a y.l) fun i hil => by
      obtain ⟨cs', hc, ht⟩ := hi i (by omega)
      obtain ⟨_, hcl, hat⟩ := World.cells?_some hc
      obtain ⟨A', l', cap', rfl, h1, h2⟩ := open_gausses ht
      refine ⟨⟨A', l', cap'⟩, ?_, h2⟩
      have := hat 0 (by omega)
      simpa [Go.Deep.add_add] using this
    refine ⟨some a, l, cap, by rw [hlen], by omega, rows_of (by decide) fun i hil j hj => ?_, fun y hy => ?_⟩
    · match j, hj with
      | 0, _ => exact (hq i hil).1
    · obtain ⟨i, hil, rfl⟩ := List.getElem_of_mem hy
      exact (hq i hil).2
set_option maxRecDepth 100000 in
theorem open_frameArg (hv : Value.okWide Tryd.prog W r b0 65 v) (h : DataW.Trod enc Tryd.prog W base0 (fun _ => true) held 65 v d p) :
    ∃ (A : Option Addr) (f : List Gs) (ca : Nat) (B : Option Addr) (s : List Gs) (cb : Nat), v = .agg #[.slice A f.length ca, .slice B s.length cb] ∧ GsAt W A f ∧ GsAt W B s := by
  obtain ⟨cs, rfl, hsz⟩ := okWide_struct Tryd.underlying65 hv
  have hC : Tryd.prog.cellsOf 65 = 2 := by kernel_rfl
  have hG : Tryd.prog.cellsOf 28 = 1 := by kernel_rfl
  rw [hC] at hsz
  obtain ⟨c0, c1, rfl⟩ := arr2 hsz
  obtain ⟨fuel, hf⟩ := h
  have hf' : DataW.trod enc Tryd.prog W base0 (fun _ => true) held fuel 65 [c0, c1] = some (d, p) := hf
  obtain ⟨xs, n, _, hx, hl, hlen, hg⟩ := DataW.trod_struct Tryd.underlying65 hf'
  match xs, hlen with
  | [y0, y1], _ =>
    have h0 : DataW.trod enc Tryd.prog W base0 (fun _ => true) held n 28 [c0] = some y0 := by simpa [Value.cells, hG] using hg 0 _ rfl
    have h1 : DataW.trod enc Tryd.prog W base0 (fun _ => true) held n 28 [c1] = some y1 := by simpa [Value.cells, hG] using hg 1 _ rfl
    obtain ⟨A, f, ca, e0, _, q0⟩ := open_gausses h0
    obtain ⟨B, s, cb, e1, _, q1⟩ := open_gausses h1
    simp only [List.cons.injEq, and_true] at e0 e1
    subst e0 e1
    exact ⟨A, f, ca, B, s, cb, rfl, q0, q1⟩
set_option maxRecDepth 100000 in
theorem open_sumArg (hv : Value.okWide Tryd.prog W r b0 25 v) (h : DataW.Trod enc Tryd.prog W base0 (fun _ => true) held 25 v d p) :
    ∃ (A : Option Addr) (fs : List Frw) (ca : Nat) (B : Option Addr) (ts : List Int) (cb : Nat), v = .agg #[.slice A fs.length ca, .slice B ts.length cb] ∧ FrsAt W A fs ∧ IntsAt W B ts := by
  obtain ⟨cs, rfl, hsz⟩ := okWide_struct Tryd.underlying25 hv
  have hC : Tryd.prog.cellsOf 25 = 2 := by kernel_rfl
  have hG : Tryd.prog.cellsOf 22 = 1 := by kernel_rfl
  have hI : Tryd.prog.cellsOf 23 = 1 := by kernel_rfl
  rw [hC] at hsz
  obtain ⟨c0, c1, rfl⟩ := arr2 hsz
  obtain ⟨fuel, hf⟩ := h
  have hf' : DataW.trod enc Tryd.prog W base0 (fun _ => true) held fuel 25 [c0, c1] = some (d, p) := hf
  obtain ⟨xs, n, _, hx, hl, hlen, hg⟩ := DataW.trod_struct Tryd.underlying25 hf'
  match xs, hlen with
  | [y0, y1], _ =>
    have h0 : DataW.trod enc Tryd.prog W base0 (fun _ => true) held n 22 [c0] = some y0 := by simpa [Value.cells, hG] using hg 0 _ rfl
    have h1 : DataW.trod enc Tryd.prog W base0 (fun _ => true) held n 23 [c1] = some y1 := by simpa [Value.cells, hI] using hg 1 _ rfl
    obtain ⟨A, fs, ca, e0, _, q0⟩ := open_frames h0
    obtain ⟨B, ts, cb, e1, _, q1⟩ := open_intList h1
    simp only [List.cons.injEq, and_true] at e0 e1
    subst e0 e1
    exact ⟨A, fs, ca, B, ts, cb, rfl, q0, q1⟩
end
end Go.Proofs.YtlnbbioponmcfaaDoor
