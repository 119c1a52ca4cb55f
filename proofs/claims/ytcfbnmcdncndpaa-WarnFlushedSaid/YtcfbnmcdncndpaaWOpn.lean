/-
  Chapter 8: the arguments opened: rules, lists of integers.
-/
import Derived.Test.YtcfbnmcdncndpaaWRcR
import Derived.ProofKit
import Derived.Carry
import Derived.Lib.SmallJoins
import Derived.ChangeSlices
namespace Go.Proofs.Ytcfbnmcdncndpaa
open Go.ChangeShapes Go.WideShapes Go.ChangeAt Go.RowKit
set_option linter.unusedVariables false
set_option linter.unusedSimpArgs false

theorem laidOut_ : laidOutB Try.prog = true := by kernel_rfl
theorem own_ : ownKnob Try.prog.godebug = none := by kernel_rfl
theorem exists_list {α : Type} : ∀ (n : Nat) {Q : Nat → α → Prop}, (∀ i, i < n → ∃ x, Q i x) → ∃ l : List α, l.length = n ∧ ∀ i (hi : i < l.length), Q i l[i]
  | 0, _, _ => ⟨[], rfl, fun i hi => absurd hi (by simp)⟩
  | n + 1, Q, h => by
    obtain ⟨l, hl, hq⟩ := exists_list n (Q := Q) fun i hi => h i (by omega)
    obtain ⟨x, hx⟩ := h n (by omega)
    refine ⟨l ++ [x], by simp [hl], fun i hi => ?_⟩
    by_cases hil : i < l.length
    · rw [List.getElem_append_left hil]; exact hq i hil
    · have e : i = n := by simp at hi; omega
      subst e
      rw [List.getElem_append_right (by omega)]
      simpa [hl] using hx
theorem add_eq (b off n : Nat) : (⟨b, off, none⟩ : Addr).add n = ⟨b, off + n, none⟩ := by
  unfold Addr.add
  split
  · subst_vars; rfl
  · rfl
theorem rows_of {α : Type} {m : Nat} {f : α → Nat → Value} {w : World} {a : Addr} {l : List α} (hm : 0 < m) (h : ∀ i (hi : i < l.length) j, j < m → w.cell? (a.add (i * m + j)) = some (f l[i] j)) : RowsAt m f w (some a) l := fun k x hk => by
  obtain ⟨hkl, rfl⟩ := List.getElem?_eq_some_iff.1 hk
  have h0 := h 0 (by omega) 0 hm
  have e0 : a.add (0 * m + 0) = a := by simp [Addr.add]
  rw [e0] at h0
  have hs := World.cell?_spot h0
  have hlt := World.block_lt_of_cell? w a h0
  obtain ⟨b, off, sp⟩ := a
  simp only at hs
  subst hs
  refine ⟨b, off, rfl, hlt, fun j hj => ?_⟩
  have := h k hkl j hj
  rw [add_eq] at this
  rw [show off + k * m + j = off + (k * m + j) by omega]
  exact this

section
variable {H : Type} {enc : TypeId × Value → H} {W : World} {r : Reach} {b0 base0 : Nat} {held : Bool} {v : Value} {d : DataW H} {p : List MemPlace}
theorem open_intList {fuel : Nat} {cs : List Value} {x : DataW H × List MemPlace} (h : DataW.trod enc Try.prog W base0 (fun _ => true) held fuel 22 cs = some x) :
    ∃ (A : Option Addr) (l : List Int) (cap : Nat), cs = [.slice A l.length cap] ∧ l.length ≤ cap ∧ IntsAt W A l := by
  rcases open_ints Try.underlying22 Try.underlying3 (by kernel_rfl) h with ⟨rfl, _⟩ | ⟨a, len, cap, zs, rfl, hb, hl, hm, hz, hx, hc, _⟩
  · exact ⟨none, [], 0, rfl, Nat.le_refl _, RowsAt.nil⟩
  · clear hm
    simp only [if_true] at hz
    have hlen : (zs.take len).length = len := by simp; omega
    refine ⟨some a, zs.take len, cap, by rw [hlen], by omega, rows_of (by decide) fun i hi j hj => ?_⟩
    obtain rfl : j = 0 := by omega
    have := hc i (by omega)
    rw [Nat.mul_one, Nat.add_zero, this, List.getElem_take]
    simp [List.getD, List.getElem?_eq_getElem (show i < zs.length by omega)]
set_option maxRecDepth 100000 in
theorem open_intArg (hv : Value.okWide Try.prog W r b0 22 v) (h : DataW.Trod enc Try.prog W base0 (fun _ => true) held 22 v d p) :
    ∃ (A : Option Addr) (l : List Int) (cap : Nat), v = .slice A l.length cap ∧ l.length ≤ cap ∧ IntsAt W A l := by
  obtain ⟨a, len, cap, rfl⟩ := okWide_slice Try.underlying22 hv
  obtain ⟨fuel, hf⟩ := h
  obtain ⟨A, l, cap', e, h1, h2⟩ := open_intList hf
  have e2 : Value.slice a len cap = .slice A l.length cap' := by simpa [Value.cells] using e
  exact ⟨A, l, cap', e2, h1, h2⟩
set_option maxRecDepth 100000 in
/-- rules by value -/
theorem open_rules (hv : Value.okWide Try.prog W r b0 24 v) (h : DataW.Trod enc Try.prog W base0 (fun _ => true) held 24 v d p) :
    ∃ (nm : ByteArray) (A : Option Addr) (u : List Int) (ca : Nat) (B : Option Addr) (dl : List Int) (cb : Nat) (hold : Int), v = .agg #[.string nm, .slice A u.length ca, .slice B dl.length cb, .int .i64 hold] ∧ u.length ≤ ca ∧ dl.length ≤ cb ∧ IntsAt W A u ∧ IntsAt W B dl := by
  obtain ⟨v0, v1, v2, v3, y0, y1, y2, y3, n, rfl, hd, hp, t0, t1, t2, t3⟩ := Go.Joins.open_agg4 Try.underlying24 (by kernel_rfl) (by kernel_rfl) hv h
  obtain ⟨nm, e0, _, _⟩ := DataW.trod_string Try.underlying9 t0
  obtain ⟨A, u, ca, e1, h1, h2⟩ := open_intList t1
  obtain ⟨B, dl, cb, e2, h3, h4⟩ := open_intList t2
  obtain ⟨hold, e3, _, _⟩ := DataW.trod_int Try.underlying3 t3
  simp only [List.cons.injEq, and_true] at e0 e1 e2 e3
  subst e0 e1 e2 e3
  exact ⟨nm, A, u, ca, B, dl, cb, hold, rfl, h1, h3, h2, h4⟩
set_option maxRecDepth 100000 in
/-- a state by value -/
theorem open_state (hv : Value.okWide Try.prog W r b0 61 v) (h : DataW.Trod enc Try.prog W base0 (fun _ => true) held 61 v d p) :
    ∃ (x y z : Int), v = .agg #[.int .i64 x, .int .i64 y, .int .i64 z] := by
  obtain ⟨v0, v1, v2, y0, y1, y2, n, rfl, hd, hp, t0, t1, t2⟩ := Go.Joins.open_agg3 Try.underlying61 (by kernel_rfl) (by kernel_rfl) hv h
  obtain ⟨x, e0, _, _⟩ := DataW.trod_int Try.underlying3 t0
  obtain ⟨y, e1, _, _⟩ := DataW.trod_int Try.underlying3 t1
  obtain ⟨z, e2, _, _⟩ := DataW.trod_int Try.underlying3 t2
  simp only [List.cons.injEq, and_true] at e0 e1 e2
  subst e0 e1 e2
  exact ⟨x, y, z, rfl⟩
end
end Go.Proofs.Ytcfbnmcdncndpaa
