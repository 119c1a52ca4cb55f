/-
  A trace by value, as an argument.
-/
import Derived.Test.YtoegpaolbkcleaaOpn
import Derived.Test.YtoegpaolbkcleaaLam
namespace Go.Proofs.Ytoegpaolbkcleaa
open Go.ChangeShapes Go.WideShapes Go.ChangeAt Go.RowKit
set_option linter.unusedVariables false
set_option linter.unusedSimpArgs false
section
variable {H : Type} {enc : TypeId × Value → H} {W : World} {r : Reach} {b0 base0 : Nat} {held : Bool} {v : Value} {d : DataW H} {p : List MemPlace}
theorem len3 {cs : List Value} (h : cs.length = 3) : ∃ c0 c1 c2, cs = [c0, c1, c2] := by
  match cs, h with
  | [c0, c1, c2], _ => exact ⟨c0, c1, c2, rfl⟩
theorem open_points {fuel : Nat} {cs : List Value} {x : DataW H × List MemPlace} (h : DataW.trod enc Try.prog W base0 (fun _ => true) held fuel 51 cs = some x) :
    ∃ (A : Option Addr) (l : List Pt) (cap : Nat), cs = [.slice A l.length cap] ∧ l.length ≤ cap ∧ PtsAt W A l := by
  have hC : Try.prog.cellsOf 75 = 3 := by kernel_rfl
  rcases Go.Deep.open_slice Try.underlying51 h with ⟨rfl, _⟩ | ⟨a, len, cap, m, n, D, Pl, rfl, hb, hl, hm, hmm, hx, hi⟩
  · exact ⟨none, [], 0, rfl, Nat.le_refl _, RowsAt.nil⟩
  · simp only [if_true] at hmm
    rw [hC] at hi
    obtain ⟨l, hlen, hq⟩ := exists_list len (Q := fun i (y : Pt) => W.cell? (a.add (i * 3)) = some (.int .i64 y.f) ∧ W.cell? (a.add (i * 3 + 1)) = some (.int .i64 y.lo) ∧ W.cell? (a.add (i * 3 + 2)) = some (.int .i64 y.hi)) fun i hil => by
      obtain ⟨cs', hc, ht⟩ := hi i (by omega)
      obtain ⟨_, hcl, hat⟩ := World.cells?_some hc
      obtain ⟨c0, c1, c2, rfl⟩ := len3 hcl
      obtain ⟨y0, y1, n2, hy, _, u0, u1⟩ := trod_struct2 Try.underlying75 ht
      have k3 : Try.prog.cellsOf 3 = 1 := by kernel_rfl
      have k4 : Try.prog.cellsOf 32 = 2 := by kernel_rfl
      simp only [k3, k4, List.drop_zero, List.drop_succ_cons, List.take_succ_cons, List.take_zero] at u0 u1
      obtain ⟨y2, y3, n3, hy', _, u2, u3⟩ := trod_struct2 Try.underlying32 u1
      simp only [k3, k4, List.drop_zero, List.drop_succ_cons, List.take_succ_cons, List.take_zero] at u2 u3
      obtain ⟨z0, e0, _, _⟩ := DataW.trod_int Try.underlying3 u0
      obtain ⟨z1, e1, _, _⟩ := DataW.trod_int Try.underlying3 u2
      obtain ⟨z2, e2, _, _⟩ := DataW.trod_int Try.underlying3 u3
      simp only [List.cons.injEq, and_true] at e0 e1 e2
      subst e0 e1 e2
      refine ⟨⟨z0, z1, z2⟩, ?_, ?_, ?_⟩
      · have := hat 0 (by omega)
        simpa [Go.Deep.add_add] using this
      · have := hat 1 (by omega)
        simpa [Go.Deep.add_add] using this
      · have := hat 2 (by omega)
        simpa [Go.Deep.add_add] using this
    refine ⟨some a, l, cap, by rw [hlen], by omega, rows_of (by decide) fun i hil j hj => ?_⟩
    match j, hj with
    | 0, _ => exact (hq i hil).1
    | 1, _ => exact (hq i hil).2.1
    | 2, _ => exact (hq i hil).2.2
set_option maxRecDepth 100000 in
/-- a trace by value -/
theorem open_trace (hv : Value.okWide Try.prog W r b0 53 v) (h : DataW.Trod enc Try.prog W base0 (fun _ => true) held 53 v d p) :
    ∃ (A : Option Addr) (l : List Pt) (cap : Nat) (after width : Int), v = .agg #[.slice A l.length cap, .int .i64 after, .int .i64 width] ∧ l.length ≤ cap ∧ PtsAt W A l := by
  obtain ⟨v0, v1, v2, y0, y1, y2, n, rfl, hd, hp, t0, t1, t2⟩ := Go.Joins.open_agg3 Try.underlying53 (by kernel_rfl) (by kernel_rfl) hv h
  obtain ⟨A, l, cap, e0, h1, h3⟩ := open_points t0
  obtain ⟨after, e1, _, _⟩ := DataW.trod_int Try.underlying3 t1
  obtain ⟨width, e2, _, _⟩ := DataW.trod_int Try.underlying3 t2
  simp only [List.cons.injEq, and_true] at e0 e1 e2
  subst e0 e1 e2
  exact ⟨A, l, cap, after, width, rfl, h1, h3⟩
end
end Go.Proofs.Ytoegpaolbkcleaa
