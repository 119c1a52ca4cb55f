/-
  Chapter 2: plain laws of tags: a sample times i, a pure mode, exchanged weights.
-/
import Derived.Test.YtppghnbabnhnbaaDoorESpL
import Derived.Test.YtppghnbabnhnbaaDoorETra
namespace Go.Proofs.YtppghnbabnhnbaaDoor
open Go.ChangeShapes Go.WideShapes Go.ChangeAt Go.RowKit
set_option linter.unusedVariables false
set_option linter.unusedSimpArgs false

theorem gS_le {s t : Spl} (hd : s.d = t.d) (h : ∀ k : Nat, k ∣ s.o.re.natAbs → k ∣ s.o.im.natAbs → k ∣ s.e.re.natAbs → k ∣ s.e.im.natAbs → k ∣ t.o.re.natAbs ∧ k ∣ t.o.im.natAbs ∧ k ∣ t.e.re.natAbs ∧ k ∣ t.e.im.natAbs) : gS s ∣ gS t := by
  obtain ⟨h1, h2⟩ := gcdL_dvd (spl4 s) s.d.natAbs
  obtain ⟨k1, k2, k3, k4⟩ := h (gS s) (h2 _ (by simp [spl4])) (h2 _ (by simp [spl4])) (h2 _ (by simp [spl4])) (h2 _ (by simp [spl4]))
  refine gcdL_max _ _ _ (by rw [← hd]; exact h1) fun x hx => ?_
  simp only [spl4, List.mem_cons, List.not_mem_nil, or_false] at hx
  rcases hx with rfl | rfl | rfl | rfl
  · exact k1
  · exact k2
  · exact k3
  · exact k4
theorem gS_eq {s t : Spl} (h : gS s ∣ gS t) (k : gS t ∣ gS s) : gS s = gS t := Nat.dvd_antisymm h k
theorem tI_norm (g : Gs) : gnorm (tI g) = gnorm g := by simp only [gnorm, tI]; grind
theorem sepO_tI (mo me x0 x1 : Gs) : sepO mo me (tI x0) (tI x1) = tI (sepO mo me x0 x1) := by
  apply Gs.ext2
  · simp only [sepO, tI, gmul, gsub, gconj]; grind
  · simp only [sepO, tI, gmul, gsub, gconj]; grind
theorem sepE_tI (mo me x0 x1 : Gs) : sepE mo me (tI x0) (tI x1) = tI (sepE mo me x0 x1) := by
  apply Gs.ext2
  · simp only [sepE, tI, gmul, gsub, gconj]; grind
  · simp only [sepE, tI, gmul, gsub, gconj]; grind
theorem over_tI (g : Gs) (k : Int) : gover (tI g) k = tI (gover g k) := by
  simp only [gover, tI, Int.neg_tdiv]
theorem sepP_tI (mo me x0 x1 : Gs) : sepP mo me (tI x0) (tI x1) = ⟨tI (sepP mo me x0 x1).o, tI (sepP mo me x0 x1).e, (sepP mo me x0 x1).d⟩ := by
  have hG : sepG mo me (tI x0) (tI x1) = sepG mo me x0 x1 := by
    rw [sepG_S, sepG_S]
    have e : gS (sepS mo me (tI x0) (tI x1)) = gS (sepS mo me x0 x1) := by
      refine gS_eq (gS_le rfl fun k a b c d => ?_) (gS_le rfl fun k a b c d => ?_)
      · simp only [sepS, sepO_tI, sepE_tI] at *
        simp only [tI, Int.natAbs_neg] at *
        exact ⟨b, a, d, c⟩
      · simp only [sepS, sepO_tI, sepE_tI] at *
        simp only [tI, Int.natAbs_neg] at *
        exact ⟨b, a, d, c⟩
    rw [e]
  unfold sepP
  rw [hG, sepO_tI, sepE_tI, over_tI, over_tI]
/-- a sample times i has the same tag -/
theorem tag_tI (r : Ru) (x0 x1 : Gs) : tagP r (tI x0) (tI x1) = tagP r x0 x1 := by
  unfold tagP tagS
  rw [sepP_tI]
  simp only [tI_norm]
theorem tag_pure {r : Ru} (g : Gs) (h : OkRu r) : tagP r (mixA g gz) (mixB r.mo r.me g gz) = if gnorm g ≤ r.no then 0 else 1 := by
  unfold tagP
  rw [sep_mixed h.m]
  have h0 := h.no0
  have hz : gnorm gz = 0 := rfl
  unfold tagS tagN
  simp only [hz, Int.mul_one, Int.mul_zero]
  by_cases hl : gnorm g ≤ r.no
  · rw [if_pos ⟨hl, h0⟩, if_pos hl]
  · rw [if_neg (fun k => hl k.1), if_pos ⟨by omega, by omega⟩, if_neg hl]
theorem sepP_swap (mo me x0 x1 : Gs) : sepP me mo x0 x1 = ⟨(sepP mo me x0 x1).e, (sepP mo me x0 x1).o, (sepP mo me x0 x1).d⟩ := by
  have e1 : sepO me mo x0 x1 = sepE mo me x0 x1 := by
    apply Gs.ext2
    · simp only [sepO, sepE, gmul, gsub, gconj]; grind
    · simp only [sepO, sepE, gmul, gsub, gconj]; grind
  have e2 : sepE me mo x0 x1 = sepO mo me x0 x1 := by
    apply Gs.ext2
    · simp only [sepO, sepE, gmul, gsub, gconj]; grind
    · simp only [sepO, sepE, gmul, gsub, gconj]; grind
  have e3 : gnorm (gsub mo me) = gnorm (gsub me mo) := norm_ref mo me
  have hG : sepG me mo x0 x1 = sepG mo me x0 x1 := by
    rw [sepG_S, sepG_S]
    have e : gS (sepS me mo x0 x1) = gS (sepS mo me x0 x1) := by
      refine gS_eq (gS_le e3 fun k a b c d => ?_) (gS_le e3.symm fun k a b c d => ?_)
      · simp only [sepS, e1, e2] at *
        exact ⟨c, d, a, b⟩
      · simp only [sepS, e1, e2] at *
        exact ⟨c, d, a, b⟩
    rw [e]
  unfold sepP
  rw [hG, e1, e2, e3]
/-- the tag if the weights are exchanged -/
def exch (n : Int) : Int := if n = 1 then 2 else if n = 2 then 1 else n
theorem tag_swap {r : Ru} (x0 x1 : Gs) (h : OkRu r) (h2 : r.ra ≠ 1) : tagP ⟨r.me, r.mo, r.ra, r.no, r.po, r.ce, r.st, r.du⟩ x0 x1 = exch (tagP r x0 x1) := by
  have ra := h.ra0
  have n0 := h.no0
  unfold tagP tagS
  simp only
  rw [sepP_swap]
  simp only
  generalize sepP r.mo r.me x0 x1 = s
  have o0 : 0 ≤ gnorm s.o := by have a := mul_self_nonneg' s.o.re; have b := mul_self_nonneg' s.o.im; unfold gnorm; omega
  have e0 : 0 ≤ gnorm s.e := by have a := mul_self_nonneg' s.e.re; have b := mul_self_nonneg' s.e.im; unfold gnorm; omega
  have m0 : 0 ≤ r.no * s.d * s.d := by rw [Int.mul_assoc]; exact Int.mul_nonneg n0 (mul_self_nonneg' _)
  generalize gnorm s.o = o at *
  generalize gnorm s.e = e at *
  generalize r.no * s.d * s.d = m at *
  have q1 : 2 * o ≤ r.ra * o := Int.mul_le_mul_of_nonneg_right (by omega) o0
  have q2 : 2 * e ≤ r.ra * e := Int.mul_le_mul_of_nonneg_right (by omega) e0
  unfold tagN exch
  generalize r.ra * o = p1 at *
  generalize r.ra * e = p2 at *
  by_cases c1 : o ≤ m ∧ e ≤ m
  · rw [if_pos c1, if_pos ⟨c1.2, c1.1⟩]; rfl
  · rw [if_neg c1, if_neg (fun h => c1 ⟨h.2, h.1⟩)]
    by_cases c2 : m < o ∧ p2 ≤ o
    · rw [if_neg (by omega), if_pos c2, if_pos c2]; rfl
    · rw [if_neg c2, if_neg c2]
      by_cases c3 : m < e ∧ p1 ≤ e
      · rw [if_pos c3, if_pos c3]; rfl
      · rw [if_neg c3, if_neg c3]; rfl
theorem tagP_bd (r : Ru) (x0 x1 : Gs) : 0 ≤ tagP r x0 x1 ∧ tagP r x0 x1 ≤ 3 := by
  unfold tagP tagS tagN
  split
  · decide
  · split
    · decide
    · split <;> decide
end Go.Proofs.YtppghnbabnhnbaaDoor
