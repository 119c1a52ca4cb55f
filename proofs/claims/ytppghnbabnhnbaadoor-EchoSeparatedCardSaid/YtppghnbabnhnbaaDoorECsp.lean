/-
  Chapter 2: CheckSplit and the reference's.
-/
import Derived.Test.YtppghnbabnhnbaaDoorEMix
import Derived.Test.YtppghnbabnhnbaaDoorEDvW
namespace Go.Proofs.YtppghnbabnhnbaaDoor
open Go.ChangeShapes Go.WideShapes Go.ChangeAt Go.RowKit
set_option linter.unusedVariables false
set_option linter.unusedSimpArgs false

theorem neN (a b : Gs) (w : World) : (binOp .neq 147 (.agg #[.int .i64 a.re, .int .i64 a.im]) (.agg #[.int .i64 b.re, .int .i64 b.im])).run Tryd.prog w = .ok (.bool (neB a b)) w := by
  have hS : Tryd.prog.underlying 147 = some (.struct (Tryd.prog.fieldsOf 147)) := by kernel_rfl
  have hp : Tryd.prog.stoodInHeld 147 = false := by kernel_rfl
  rw [run_neq_struct, show (10000 : Nat) = 9999 + 1 from rfl, run_equalIn_agg w 9999 147 _ _ hS hp]
  simp only [Program.fieldsOf, Tryd.underlying147]
  unfold neB eqB
  cases h0 : (a.re == b.re) <;> cases h1 : (a.im == b.im) <;> go_simp
/-- the ranges of a separation's parts -/
def spB (s : Spl) : Bool := withinB s.d 1 1000 && (prtB 10000000 s.o && prtB 10000000 s.e)
theorem spB_true {s : Spl} (h : spB s = true) : (1 ≤ s.d ∧ s.d ≤ 1000) ∧ Sz 10000000 s.o ∧ Sz 10000000 s.e := by
  unfold spB at h
  rw [Bool.and_eq_true, Bool.and_eq_true, withinB_true] at h
  exact ⟨h.1, prtB_true h.2.1, prtB_true h.2.2⟩
def scG (x : Gs) (k : Int) : Gs := ⟨x.re * k, x.im * k⟩
/-- the answer for parts in their ranges -/
def accQ (mo me x0 x1 : Gs) (s : Spl) : Int × Int := if neB (mixA s.o s.e) (scG x0 s.d) = true then (0, 19) else if neB (mixB mo me s.o s.e) (scG x1 s.d) = true then (1, 19) else (0, 0)
/-- the answer for a valid sample -/
def csT (mo me x0 x1 : Gs) (s : Spl) : Int × Int := if spB s = false then (0, 2) else if gS s ≠ 1 then (0, 3) else accQ mo me x0 x1 s
def csQ (mo me x0 x1 : Gs) (s : Spl) : Int × Int := if mixE mo me x0 x1 ≠ 0 then (0, mixE mo me x0 x1) else csT mo me x0 x1 s
theorem gcdL5 (s : Spl) : gcdL [s.d, s.o.re, s.o.im, s.e.re, s.e.im] 0 = gS s := by
  rw [gcdL, Nat.gcd_zero_left]; rfl
theorem neB_f {a b : Gs} (h : neB a b = false) : a = b := by
  unfold neB eqB at h
  simp only [Bool.not_eq_false', Bool.and_eq_true, beq_iff_eq] at h
  exact Gs.ext2 h.1 h.2
/-- a separation is accepted exactly if it is the sample's own -/
theorem csT_acc {mo me x0 x1 : Gs} {s : Spl} (h : OkM mo me) (k0 : Sz 10000 x0) (k1 : Sz 10000 x1) : (csT mo me x0 x1 s).2 = 0 ↔ s = sepP mo me x0 x1 := by
  constructor
  · intro h2
    unfold csT accQ at h2
    by_cases hb : spB s = false
    · rw [if_pos hb] at h2; cases h2
    · rw [if_neg hb] at h2
      by_cases hg : gS s ≠ 1
      · rw [if_pos hg] at h2; cases h2
      · rw [if_neg hg] at h2
        by_cases c1 : neB (mixA s.o s.e) (scG x0 s.d) = true
        · rw [if_pos c1] at h2; cases h2
        · rw [if_neg c1] at h2
          by_cases c2 : neB (mixB mo me s.o s.e) (scG x1 s.d) = true
          · rw [if_pos c2] at h2; cases h2
          · have hs := spB_true (by simpa using hb : spB s = true)
            have d1 : neB (mixA s.o s.e) (scG x0 s.d) = false := by simpa using c1
            have d2 : neB (mixB mo me s.o s.e) (scG x1 s.d) = false := by simpa using c2
            exact acc_uniq h hs.1.1 (by simpa using hg) ⟨neB_f d1, neB_f d2⟩
  · rintro rfl
    obtain ⟨so, se, d0, d1⟩ := sepP_sz h k0 k1
    have hd := sepP_d (x0 := x0) (x1 := x1) h
    have hb : spB (sepP mo me x0 x1) = true := by
      unfold spB
      rw [Bool.and_eq_true, Bool.and_eq_true, withinB_true]
      exact ⟨⟨hd, by omega⟩, prtB_of (so.mono (by decide)), prtB_of (se.mono (by decide))⟩
    obtain ⟨a1, a2⟩ := sepP_acc (x0 := x0) (x1 := x1) h
    have n : ∀ a : Gs, neB a a = false := fun a => by unfold neB eqB; simp
    have e1 : neB (mixA (sepP mo me x0 x1).o (sepP mo me x0 x1).e) (scG x0 (sepP mo me x0 x1).d) = false := by rw [a1]; exact n _
    have e2 : neB (mixB mo me (sepP mo me x0 x1).o (sepP mo me x0 x1).e) (scG x1 (sepP mo me x0 x1).d) = false := by rw [a2]; exact n _
    unfold csT accQ
    rw [if_neg (by rw [hb]; decide), if_neg (by rw [sepP_one h]; decide), if_neg (by rw [e1]; decide), if_neg (by rw [e2]; decide)]
theorem csT_own {mo me x0 x1 : Gs} (h : OkM mo me) (k0 : Sz 10000 x0) (k1 : Sz 10000 x1) : csT mo me x0 x1 (sepP mo me x0 x1) = (0, 0) := by
  have h2 := (csT_acc h k0 k1).2 rfl
  generalize sepP mo me x0 x1 = s at *
  unfold csT accQ at *
  by_cases hb : spB s = false
  · rw [if_pos hb] at h2; cases h2
  · rw [if_neg hb] at h2 ⊢
    by_cases hg : gS s ≠ 1
    · rw [if_pos hg] at h2; cases h2
    · rw [if_neg hg] at h2 ⊢
      by_cases c1 : neB (mixA s.o s.e) (scG x0 s.d) = true
      · rw [if_pos c1] at h2; cases h2
      · rw [if_neg c1] at h2 ⊢
        by_cases c2 : neB (mixB mo me s.o s.e) (scG x1 s.d) = true
        · rw [if_pos c2] at h2; cases h2
        · rw [if_neg c2]
end Go.Proofs.YtppghnbabnhnbaaDoor
