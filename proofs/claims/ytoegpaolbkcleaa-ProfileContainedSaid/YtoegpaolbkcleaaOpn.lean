/-
  The arguments of this chapter's statements, opened: a profile by value, an integer. How a law's row is closed.
-/
import Derived.Test.YtoegpaolbkcleaaMem
import Derived.Test.YtoegpaolbkcleaaChk
import Derived.ProofKit
import Derived.Carry
import Derived.Lib.SmallJoins
namespace Go.Proofs.Ytoegpaolbkcleaa
open Go.ChangeShapes Go.WideShapes Go.ChangeAt Go.RowKit
set_option linter.unusedVariables false
set_option linter.unusedSimpArgs false

theorem laidOut_ : laidOutB Try.prog = true := by kernel_rfl
theorem own_ : ownKnob Try.prog.godebug = none := by kernel_rfl
theorem exists_list {α : Type} : ∀ (n : Nat) {Q : Nat → α → Prop}, (∀ i, i < n → ∃ x, Q i x) → ∃ l : List α, l.length = n ∧ ∀ i (hi : i < l.length), Q i l[i]
  | 0, _, _ => ⟨[], rfl, fun i hi => absurd hi (by simp)⟩
  | n + 1, Q, h => by
    obtain ⟨l, hl, hq⟩ := exists_list n (Q := Q) fun i hi => h i (by omega)
    obtain ⟨x, hx⟩ := h n (by omega)
    refine ⟨l ++ [x], by simp [hl], fun i hi => ?_⟩
    by_cases hil : i < l.length
    · rw [List.getElem_append_left hil]; exact hq i hil
    · have e : i = n := by simp at hi; omega
      subst e
      rw [List.getElem_append_right (by omega)]
      simpa [hl] using hx
theorem add_eq (b off n : Nat) : (⟨b, off, none⟩ : Addr).add n = ⟨b, off + n, none⟩ := by
  unfold Addr.add
  split
  · subst_vars; rfl
  · rfl
theorem rows_of {α : Type} {m : Nat} {f : α → Nat → Value} {w : World} {a : Addr} {l : List α} (hm : 0 < m) (h : ∀ i (hi : i < l.length) j, j < m → w.cell? (a.add (i * m + j)) = some (f l[i] j)) : RowsAt m f w (some a) l := fun k x hk => by
  obtain ⟨hkl, rfl⟩ := List.getElem?_eq_some_iff.1 hk
  have h0 := h 0 (by omega) 0 hm
  have e0 : a.add (0 * m + 0) = a := by simp [Addr.add]
  rw [e0] at h0
  have hs := World.cell?_spot h0
  have hlt := World.block_lt_of_cell? w a h0
  obtain ⟨b, off, sp⟩ := a
  simp only at hs
  subst hs
  refine ⟨b, off, rfl, hlt, fun j hj => ?_⟩
  have := h k hkl j hj
  rw [add_eq] at this
  rw [show off + k * m + j = off + (k * m + j) by omega]
  exact this

section
variable {H : Type} {enc : TypeId × Value → H} {W : World} {r : Reach} {b0 base0 : Nat} {held : Bool} {v : Value} {d : DataW H} {p : List MemPlace}
theorem len2 {cs : List Value} (h : cs.length = 2) : ∃ c0 c1, cs = [c0, c1] := by
  match cs, h with
  | [c0, c1], _ => exact ⟨c0, c1, rfl⟩
theorem open_slabs {fuel : Nat} {cs : List Value} {x : DataW H × List MemPlace} (h : DataW.trod enc Try.prog W base0 (fun _ => true) held fuel 22 cs = some x) :
    ∃ (A : Option Addr) (l : List Slb) (cap : Nat), cs = [.slice A l.length cap] ∧ l.length ≤ cap ∧ SlabsAt W A l := by
  have hC : Try.prog.cellsOf 45 = 2 := by kernel_rfl
  rcases Go.Deep.open_slice Try.underlying22 h with ⟨rfl, _⟩ | ⟨a, len, cap, m, n, D, Pl, rfl, hb, hl, hm, hmm, hx, hi⟩
  · exact ⟨none, [], 0, rfl, Nat.le_refl _, RowsAt.nil⟩
  · simp only [if_true] at hmm
    rw [hC] at hi
    obtain ⟨l, hlen, hq⟩ := exists_list len (Q := fun i (y : Slb) => W.cell? (a.add (i * 2)) = some (.int .i64 y.sq) ∧ W.cell? (a.add (i * 2 + 1)) = some (.int .i64 y.th)) fun i hil => by
      obtain ⟨cs', hc, ht⟩ := hi i (by omega)
      obtain ⟨_, hcl, hat⟩ := World.cells?_some hc
      obtain ⟨c0, c1, rfl⟩ := len2 hcl
      obtain ⟨y0, y1, n2, hy, _, u0, u1⟩ := trod_struct2 Try.underlying45 ht
      have k3 : Try.prog.cellsOf 3 = 1 := by kernel_rfl
      simp only [k3, List.drop_zero, List.drop_succ_cons, List.take_succ_cons, List.take_zero] at u0 u1
      obtain ⟨z0, e0, _, _⟩ := DataW.trod_int Try.underlying3 u0
      obtain ⟨z1, e1, _, _⟩ := DataW.trod_int Try.underlying3 u1
      simp only [List.cons.injEq, and_true] at e0 e1
      subst e0 e1
      refine ⟨⟨z0, z1⟩, ?_, ?_⟩
      · have := hat 0 (by omega)
        simpa [Go.Deep.add_add] using this
      · have := hat 1 (by omega)
        simpa [Go.Deep.add_add] using this
    refine ⟨some a, l, cap, by rw [hlen], by omega, rows_of (by decide) fun i hil j hj => ?_⟩
    match j, hj with
    | 0, _ => exact (hq i hil).1
    | 1, _ => exact (hq i hil).2
set_option maxRecDepth 100000 in
/-- a profile by value -/
theorem open_sky (hv : Value.okWide Try.prog W r b0 24 v) (h : DataW.Trod enc Try.prog W base0 (fun _ => true) held 24 v d p) :
    ∃ (base : Int) (A : Option Addr) (l : List Slb) (cap : Nat), v = .agg #[.int .i64 base, .slice A l.length cap] ∧ l.length ≤ cap ∧ SlabsAt W A l := by
  obtain ⟨v0, v1, y0, y1, n, rfl, hd, hp, t0, t1⟩ := Go.Joins.open_agg2 Try.underlying24 (by kernel_rfl) (by kernel_rfl) hv h
  obtain ⟨base, e0, _, _⟩ := DataW.trod_int Try.underlying3 t0
  obtain ⟨A, l, cap, e1, h1, h3⟩ := open_slabs t1
  simp only [List.cons.injEq, and_true] at e0 e1
  subst e0 e1
  exact ⟨base, A, l, cap, rfl, h1, h3⟩
end
end Go.Proofs.Ytoegpaolbkcleaa
