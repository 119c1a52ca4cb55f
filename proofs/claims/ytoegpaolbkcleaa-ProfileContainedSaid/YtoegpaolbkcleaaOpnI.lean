/-
  A slice of integers among the arguments, opened.
-/
import Derived.Test.YtoegpaolbkcleaaOpn
import Derived.Test.YtoegpaolbkcleaaTof
import Derived.ChangeSlices
namespace Go.Proofs.Ytoegpaolbkcleaa
open Go.ChangeShapes Go.WideShapes Go.ChangeAt Go.RowKit
set_option linter.unusedVariables false
set_option linter.unusedSimpArgs false
section
variable {H : Type} {enc : TypeId × Value → H} {W : World} {r : Reach} {b0 base0 : Nat} {held : Bool} {v : Value} {d : DataW H} {p : List MemPlace}
theorem open_intList {fuel : Nat} {cs : List Value} {x : DataW H × List MemPlace} (h : DataW.trod enc Try.prog W base0 (fun _ => true) held fuel 69 cs = some x) :
    ∃ (A : Option Addr) (l : List Int) (cap : Nat), cs = [.slice A l.length cap] ∧ l.length ≤ cap ∧ IntsAt W A l := by
  rcases open_ints Try.underlying69 Try.underlying3 (by kernel_rfl) h with ⟨rfl, _⟩ | ⟨a, len, cap, zs, rfl, hb, hl, hm, hz, hx, hc, _⟩
  · exact ⟨none, [], 0, rfl, Nat.le_refl _, RowsAt.nil⟩
  · clear hm
    simp only [if_true] at hz
    have hlen : (zs.take len).length = len := by simp; omega
    refine ⟨some a, zs.take len, cap, by rw [hlen], by omega, rows_of (by decide) fun i hi j hj => ?_⟩
    obtain rfl : j = 0 := by omega
    have := hc i (by omega)
    rw [Nat.mul_one, Nat.add_zero, this, List.getElem_take]
    simp [List.getD, List.getElem?_eq_getElem (show i < zs.length by omega)]
set_option maxRecDepth 100000 in
theorem open_intArg (hv : Value.okWide Try.prog W r b0 69 v) (h : DataW.Trod enc Try.prog W base0 (fun _ => true) held 69 v d p) :
    ∃ (A : Option Addr) (l : List Int) (cap : Nat), v = .slice A l.length cap ∧ l.length ≤ cap ∧ IntsAt W A l := by
  obtain ⟨a, len, cap, rfl⟩ := okWide_slice Try.underlying69 hv
  obtain ⟨fuel, hf⟩ := h
  obtain ⟨A, l, cap', e, h1, h2⟩ := open_intList hf
  have e2 : Value.slice a len cap = .slice A l.length cap' := by simpa [Value.cells] using e
  exact ⟨A, l, cap', e2, h1, h2⟩
end
end Go.Proofs.Ytoegpaolbkcleaa
