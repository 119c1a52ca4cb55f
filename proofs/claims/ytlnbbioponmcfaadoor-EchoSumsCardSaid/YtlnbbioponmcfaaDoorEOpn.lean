/-
  Chapter 2: the arguments of the statements, opened; what the listed variables hold.
-/
import Derived.Test.YtlnbbioponmcfaaDoorEAwk
import Derived.Test.YtlnbbioponmcfaaDoorRows
import Derived.ProofKit
import Derived.Carry
import Derived.Lib.SmallJoins
import Derived.ChangeSlices
import Derived.LaidMore
import Derived.LaidLaws
import Derived.Lib.LaidTab
namespace Go.Proofs.YtlnbbioponmcfaaDoor
open Go.ChangeShapes Go.WideShapes Go.ChangeAt Go.RowKit
set_option linter.unusedVariables false
set_option linter.unusedSimpArgs false

theorem laidOut_ : laidOutB Tryd.prog = true := by kernel_rfl
theorem own_ : ownKnob Tryd.prog.godebug = none := by kernel_rfl
theorem exists_list {α : Type} : ∀ (n : Nat) {Q : Nat → α → Prop}, (∀ i, i < n → ∃ x, Q i x) → ∃ l : List α, l.length = n ∧ ∀ i (hi : i < l.length), Q i l[i]
  | 0, _, _ => ⟨[], rfl, fun i hi => absurd hi (by simp)⟩
  | n + 1, Q, h => by
    obtain ⟨l, hl, hq⟩ := exists_list n (Q := Q) fun i hi => h i (by omega)
    obtain ⟨x, hx⟩ := h n (by omega)
    refine ⟨l ++ [x], by simp [hl], fun i hi => ?_⟩
    by_cases hil : i < l.length
    · rw [List.getElem_append_left hil]; exact hq i hil
    · have e : i = n := by simp at hi; omega
      subst e
      rw [List.getElem_append_right (by omega)]
      simpa [hl] using hx
theorem add_eq (b off n : Nat) : (⟨b, off, none⟩ : Addr).add n = ⟨b, off + n, none⟩ := by
  unfold Addr.add
  split
  · subst_vars; rfl
  · rfl
theorem rows_of {α : Type} {m : Nat} {f : α → Nat → Value} {w : World} {a : Addr} {l : List α} (hm : 0 < m) (h : ∀ i (hi : i < l.length) j, j < m → w.cell? (a.add (i * m + j)) = some (f l[i] j)) : RowsAt m f w (some a) l := fun k x hk => by
  obtain ⟨hkl, rfl⟩ := List.getElem?_eq_some_iff.1 hk
  have h0 := h 0 (by omega) 0 hm
  have e0 : a.add (0 * m + 0) = a := by simp [Addr.add]
  rw [e0] at h0
  have hs := World.cell?_spot h0
  have hlt := World.block_lt_of_cell? w a h0
  obtain ⟨b, off, sp⟩ := a
  simp only at hs
  subst hs
  refine ⟨b, off, rfl, hlt, fun j hj => ?_⟩
  have := h k hkl j hj
  rw [add_eq] at this
  rw [show off + k * m + j = off + (k * m + j) by omega]
  exact this

theorem len3 {cs : List Value} (h : cs.length = 3) : ∃ c0 c1 c2, cs = [c0, c1, c2] := by
  match cs, h with
  | [c0, c1, c2], _ => exact ⟨c0, c1, c2, rfl⟩
section
variable {H : Type} {enc : TypeId × Value → H} {W : World} {r : Reach} {b0 base0 : Nat} {held : Bool} {v : Value} {d : DataW H} {p : List MemPlace}
theorem open_intList {fuel : Nat} {cs : List Value} {x : DataW H × List MemPlace} (h : DataW.trod enc Tryd.prog W base0 (fun _ => true) held fuel 23 cs = some x) :
    ∃ (A : Option Addr) (l : List Int) (cap : Nat), cs = [.slice A l.length cap] ∧ l.length ≤ cap ∧ IntsAt W A l := by
  rcases open_ints Tryd.underlying23 Tryd.underlying3 (by kernel_rfl) h with ⟨rfl, _⟩ | ⟨a, len, cap, zs, rfl, hb, hl, hm, hz, hx, hc, _⟩
  · exact ⟨none, [], 0, rfl, Nat.le_refl _, RowsAt.nil⟩
  · clear hm
    simp only [if_true] at hz
    have hlen : (zs.take len).length = len := by simp; omega
    refine ⟨some a, zs.take len, cap, by rw [hlen], by omega, rows_of (by decide) fun i hi j hj => ?_⟩
    obtain rfl : j = 0 := by omega
    have := hc i (by omega)
    rw [Nat.mul_one, Nat.add_zero, this, List.getElem_take]
    simp [List.getD, List.getElem?_eq_getElem (show i < zs.length by omega)]
set_option maxRecDepth 100000 in
theorem open_intArg (hv : Value.okWide Tryd.prog W r b0 23 v) (h : DataW.Trod enc Tryd.prog W base0 (fun _ => true) held 23 v d p) :
    ∃ (A : Option Addr) (l : List Int) (cap : Nat), v = .slice A l.length cap ∧ l.length ≤ cap ∧ IntsAt W A l := by
  obtain ⟨a, len, cap, rfl⟩ := okWide_slice Tryd.underlying23 hv
  obtain ⟨fuel, hf⟩ := h
  obtain ⟨A, l, cap', e, h1, h2⟩ := open_intList hf
  have e2 : Value.slice a len cap = .slice A l.length cap' := by simpa [Value.cells] using e
  exact ⟨A, l, cap', e2, h1, h2⟩
theorem trod_rd {fuel : Nat} {c0 c1 c2 : Value} {x : DataW H × List MemPlace} (ht : DataW.trod enc Tryd.prog W base0 (fun _ => true) held fuel 89 [c0, c1, c2] = some x) : ∃ z0 z1 z2 : Int, c0 = .int .i64 z0 ∧ c1 = .int .i64 z1 ∧ c2 = .int .i64 z2 := by
  have k : Tryd.prog.cellsOf 3 = 1 := by kernel_rfl
  obtain ⟨xs, n, _, hx, hl, hlen, hg⟩ := DataW.trod_struct Tryd.underlying89 ht
  match xs, hlen with
  | [y0, y1, y2], _ =>
    have h0 : DataW.trod enc Tryd.prog W base0 (fun _ => true) held n 3 [c0] = some y0 := by simpa [Value.cells, k] using hg 0 _ rfl
    have h1 : DataW.trod enc Tryd.prog W base0 (fun _ => true) held n 3 [c1] = some y1 := by simpa [Value.cells, k] using hg 1 _ rfl
    have h2 : DataW.trod enc Tryd.prog W base0 (fun _ => true) held n 3 [c2] = some y2 := by simpa [Value.cells, k] using hg 2 _ rfl
    obtain ⟨z0, e0, _, _⟩ := DataW.trod_int Tryd.underlying3 h0
    obtain ⟨z1, e1, _, _⟩ := DataW.trod_int Tryd.underlying3 h1
    obtain ⟨z2, e2, _, _⟩ := DataW.trod_int Tryd.underlying3 h2
    simp only [List.cons.injEq, and_true] at e0 e1 e2
    exact ⟨z0, z1, z2, e0, e1, e2⟩
theorem open_readings {fuel : Nat} {cs : List Value} {x : DataW H × List MemPlace} (h : DataW.trod enc Tryd.prog W base0 (fun _ => true) held fuel 47 cs = some x) :
    ∃ (A : Option Addr) (l : List Rd) (cap : Nat), cs = [.slice A l.length cap] ∧ l.length ≤ cap ∧ RdsAt W A l := by
  have hC : Tryd.prog.cellsOf 89 = 3 := by kernel_rfl
  rcases Go.Deep.open_slice Tryd.underlying47 h with ⟨rfl, _⟩ | ⟨a, len, cap, m, n, D, Pl, rfl, hb, hl, hm, hmm, hx, hi⟩
  · exact ⟨none, [], 0, rfl, Nat.le_refl _, RowsAt.nil⟩
  · simp only [if_true] at hmm
    rw [hC] at hi
    obtain ⟨l, hlen, hq⟩ := exists_list len (Q := fun i (y : Rd) => W.cell? (a.add (i * 3)) = some (.int .i64 y.s) ∧ W.cell? (a.add (i * 3 + 1)) = some (.int .i64 y.p) ∧ W.cell? (a.add (i * 3 + 2)) = some (.int .i64 y.e)) fun i hil => by
      obtain ⟨cs', hc, ht⟩ := hi i (by omega)
      obtain ⟨_, hcl, hat⟩ := World.cells?_some hc
      obtain ⟨c0, c1, c2, rfl⟩ := len3 hcl
      obtain ⟨z0, z1, z2, rfl, rfl, rfl⟩ := trod_rd ht
      refine ⟨⟨z0, z1, z2⟩, ?_, ?_, ?_⟩
      · have := hat 0 (by omega)
        simpa [Go.Deep.add_add] using this
      · have := hat 1 (by omega)
        simpa [Go.Deep.add_add] using this
      · have := hat 2 (by omega)
        simpa [Go.Deep.add_add] using this
    refine ⟨some a, l, cap, by rw [hlen], by omega, rows_of (by decide) fun i hil j hj => ?_⟩
    match j, hj with
    | 0, _ => exact (hq i hil).1
    | 1, _ => exact (hq i hil).2.1
    | 2, _ => exact (hq i hil).2.2
set_option maxRecDepth 100000 in
theorem open_readingsArg (hv : Value.okWide Tryd.prog W r b0 47 v) (h : DataW.Trod enc Tryd.prog W base0 (fun _ => true) held 47 v d p) :
    ∃ (A : Option Addr) (l : List Rd) (cap : Nat), v = .slice A l.length cap ∧ l.length ≤ cap ∧ RdsAt W A l := by
  obtain ⟨a, len, cap, rfl⟩ := okWide_slice Tryd.underlying47 hv
  obtain ⟨fuel, hf⟩ := h
  obtain ⟨A, l, cap', e, h1, h2⟩ := open_readings hf
  have e2 : Value.slice a len cap = .slice A l.length cap' := by simpa [Value.cells] using e
  exact ⟨A, l, cap', e2, h1, h2⟩
end
/-- what the rows list -/
def laidL : List (String × DataW Unit) := [("math/bits.deBruijn32tab", Rows.laid_math_bits_deBruijn32tab), ("math/bits.deBruijn64tab", Rows.laid_math_bits_deBruijn64tab), ("internal/strconv.uint64pow10", Rows.laid_internal_strconv_uint64pow10)]
theorem gPow1 : Tryd.prog.globalNamed "internal/strconv.uint64pow10" = some 1 := by kernel_rfl
theorem gPow2 : (Tryd.prog.globals[1]?).map (·.type) = some 146 := by kernel_rfl
theorem pow_data : Rows.laid_internal_strconv_uint64pow10 (H := Unit) = Lib.tabData .u64 Lib.pow10Tab := by kernel_rfl
theorem tab_of {W : World} (h : laidMetH Tryd.prog laidL W) : Tab W := by
  rw [MakeChecks.laidMetH_plain _ _ _ (by kernel_rfl)] at h
  obtain ⟨ps, ⟨g0, t0, cs0, f0, p0, q0, _, _, _, _, ⟨g1, t1, cs1, f1, p1, q1, _, _, _, _, ⟨g2, t2, cs2, f2, p2, q2, hg2, ht2, hv2, hd2, _, _⟩, _⟩, _⟩, _, _⟩ := h
  obtain rfl := Option.some.inj (gPow1.symm.trans hg2)
  obtain rfl := Option.some.inj (gPow2.symm.trans ht2)
  rw [pow_data] at hd2
  unfold Tab Lib.TabIs
  rw [hv2, ← Lib.cells_of_tab Tryd.underlying146 Tryd.underlying140 (by kernel_rfl) (by kernel_rfl) hd2]
theorem door_met (os : Os) (args : Array Value) : laidMetH Tryd.prog laidL ((World.doorLaid Tryd.prog 24 os).forCall (fun _ _ => 0) ⟨#[], args, []⟩).memory :=
  laidMetH_of_parts3 (fuel := 8) (laidMet_of_run' 8 (by kernel_rfl) (by kernel_rfl)) (by kernel_rfl) (by kernel_rfl)
end Go.Proofs.YtlnbbioponmcfaaDoor
