/-
  Chapter 2: plain laws of separations: what is mixed is separated again; the separation is accepted, and nothing that differs from it.
-/
import Derived.Test.YtppghnbabnhnbaaDoorESpT
import Derived.Test.YtppghnbabnhnbaaDoorETag
namespace Go.Proofs.YtppghnbabnhnbaaDoor
open Go.ChangeShapes Go.WideShapes Go.ChangeAt Go.RowKit
set_option linter.unusedVariables false
set_option linter.unusedSimpArgs false

theorem Spl.ext2 {s t : Spl} (h : s.o = t.o) (k : s.e = t.e) (d : s.d = t.d) : s = t := by cases s; cases t; simp only at h k d; rw [h, k, d]
/-- the greatest number that divides all parts of a separation -/
def gS (s : Spl) : Nat := gcdL (spl4 s) s.d.natAbs
def smul (k : Int) (s : Spl) : Spl := ⟨⟨k * s.o.re, k * s.o.im⟩, ⟨k * s.e.re, k * s.e.im⟩, k * s.d⟩
theorem gS_smul (k : Int) (s : Spl) : gS (smul k s) = k.natAbs * gS s := by
  simp only [gS, spl4, smul, gcdL, Int.natAbs_mul, Nat.gcd_mul_left]
theorem gS_dvd (s : Spl) : ((gS s : Nat) : Int) ∣ s.d ∧ ((gS s : Nat) : Int) ∣ s.o.re ∧ ((gS s : Nat) : Int) ∣ s.o.im ∧ ((gS s : Nat) : Int) ∣ s.e.re ∧ ((gS s : Nat) : Int) ∣ s.e.im := by
  obtain ⟨h1, h2⟩ := gcdL_dvd (spl4 s) s.d.natAbs
  have q : ∀ x ∈ spl4 s, ((gS s : Nat) : Int) ∣ x := fun x hx => Int.ofNat_dvd_left.2 (h2 x hx)
  exact ⟨Int.ofNat_dvd_left.2 h1, q _ (by simp [spl4]), q _ (by simp [spl4]), q _ (by simp [spl4]), q _ (by simp [spl4])⟩
theorem gS_one (o e : Gs) : gS ⟨o, e, 1⟩ = 1 := by
  have h := (gcdL_dvd (spl4 ⟨o, e, 1⟩) 1).1
  exact Nat.dvd_one.1 h
/-- the separation before it is cancelled -/
def sepS (mo me x0 x1 : Gs) : Spl := ⟨sepO mo me x0 x1, sepE mo me x0 x1, gnorm (gsub me mo)⟩
theorem sepG_S (mo me x0 x1 : Gs) : sepG mo me x0 x1 = (gS (sepS mo me x0 x1) : Nat) := sepG_ref mo me x0 x1
theorem sepS_smul {mo me x0 x1 : Gs} (h : OkM mo me) : sepS mo me x0 x1 = smul (sepG mo me x0 x1) (sepP mo me x0 x1) := by
  obtain ⟨g0, g1⟩ := @sepG_bd mo me x0 x1 h
  obtain ⟨d0, d1, d2, d3, d4⟩ := gS_dvd (sepS mo me x0 x1)
  rw [← sepG_S] at d0 d1 d2 d3 d4
  generalize hg : sepG mo me x0 x1 = g at *
  have t : ∀ a : Int, g ∣ a → a = g * a.tdiv g := fun a ha => (Int.mul_tdiv_cancel' ha).symm
  refine Spl.ext2 (Gs.ext2 ?_ ?_) (Gs.ext2 ?_ ?_) ?_
  · simp only [smul, sepP, gover, hg]; exact t _ d1
  · simp only [smul, sepP, gover, hg]; exact t _ d2
  · simp only [smul, sepP, gover, hg]; exact t _ d3
  · simp only [smul, sepP, gover, hg]; exact t _ d4
  · simp only [smul, sepP, hg]; exact (Int.mul_ediv_cancel' d0).symm
theorem sepP_one {mo me x0 x1 : Gs} (h : OkM mo me) : gS (sepP mo me x0 x1) = 1 := by
  obtain ⟨g0, g1⟩ := @sepG_bd mo me x0 x1 h
  have h1 := sepG_S mo me x0 x1
  rw [sepS_smul h, gS_smul] at h1
  generalize sepG mo me x0 x1 = g at *
  have h2 : g.natAbs * gS (sepP mo me x0 x1) = g.natAbs * 1 := by omega
  exact Nat.eq_of_mul_eq_mul_left (by omega) h2
theorem sepP_d {mo me x0 x1 : Gs} (h : OkM mo me) : 1 ≤ (sepP mo me x0 x1).d := by
  obtain ⟨g0, g1⟩ := @sepG_bd mo me x0 x1 h
  obtain ⟨n0, n1⟩ := sepD_bd h
  have e : gnorm (gsub me mo) = sepG mo me x0 x1 * (sepP mo me x0 x1).d := congrArg Spl.d (sepS_smul h)
  apply Int.not_lt.1
  intro hl
  have := Int.mul_nonneg (a := sepG mo me x0 x1) (b := -(sepP mo me x0 x1).d) (by omega) (by omega)
  rw [Int.mul_neg] at this
  omega
/-- what is mixed from two parts -/
def mixA (o e : Gs) : Gs := gadd o e
def mixB (mo me o e : Gs) : Gs := gadd (gmul mo o) (gmul me e)
theorem mix_O (mo me o e : Gs) : sepO mo me (mixA o e) (mixB mo me o e) = ⟨gnorm (gsub me mo) * o.re, gnorm (gsub me mo) * o.im⟩ := by
  apply Gs.ext2
  · simp only [sepO, mixA, mixB, gmul, gsub, gadd, gconj, gnorm]; grind
  · simp only [sepO, mixA, mixB, gmul, gsub, gadd, gconj, gnorm]; grind
theorem mix_E (mo me o e : Gs) : sepE mo me (mixA o e) (mixB mo me o e) = ⟨gnorm (gsub me mo) * e.re, gnorm (gsub me mo) * e.im⟩ := by
  apply Gs.ext2
  · simp only [sepE, mixA, mixB, gmul, gsub, gadd, gconj, gnorm]; grind
  · simp only [sepE, mixA, mixB, gmul, gsub, gadd, gconj, gnorm]; grind
/-- what is mixed from two parts is separated into them -/
theorem sep_mixed {mo me o e : Gs} (h : OkM mo me) : sepP mo me (mixA o e) (mixB mo me o e) = ⟨o, e, 1⟩ := by
  obtain ⟨n0, n1⟩ := sepD_bd h
  have hS : sepS mo me (mixA o e) (mixB mo me o e) = smul (gnorm (gsub me mo)) ⟨o, e, 1⟩ :=
    Spl.ext2 (mix_O mo me o e) (mix_E mo me o e) (by simp [sepS, smul])
  have hG := sepG_S mo me (mixA o e) (mixB mo me o e)
  rw [hS, gS_smul, gS_one] at hG
  have hP := sepS_smul (x0 := mixA o e) (x1 := mixB mo me o e) h
  rw [hS] at hP
  have hg : sepG mo me (mixA o e) (mixB mo me o e) = gnorm (gsub me mo) := by omega
  rw [hg] at hP
  generalize gnorm (gsub me mo) = N at *
  have c : ∀ {a b : Int}, N * a = N * b → a = b := fun h => Int.eq_of_mul_eq_mul_left (by omega) h
  have p1 := congrArg (fun s => s.o.re) hP
  have p2 := congrArg (fun s => s.o.im) hP
  have p3 := congrArg (fun s => s.e.re) hP
  have p4 := congrArg (fun s => s.e.im) hP
  have p5 := congrArg (fun s => s.d) hP
  exact Spl.ext2 (Gs.ext2 (c p1).symm (c p2).symm) (Gs.ext2 (c p3).symm (c p4).symm) (c p5).symm
/-- the mixed one of the parts is the sample times Den -/
def accP (mo me x0 x1 : Gs) (s : Spl) : Prop := mixA s.o s.e = ⟨x0.re * s.d, x0.im * s.d⟩ ∧ mixB mo me s.o s.e = ⟨x1.re * s.d, x1.im * s.d⟩
theorem mixA_S (mo me x0 x1 : Gs) : mixA (sepO mo me x0 x1) (sepE mo me x0 x1) = ⟨x0.re * gnorm (gsub me mo), x0.im * gnorm (gsub me mo)⟩ := by
  apply Gs.ext2
  · simp only [sepO, sepE, mixA, gmul, gsub, gadd, gconj, gnorm]; grind
  · simp only [sepO, sepE, mixA, gmul, gsub, gadd, gconj, gnorm]; grind
theorem mixB_S (mo me x0 x1 : Gs) : mixB mo me (sepO mo me x0 x1) (sepE mo me x0 x1) = ⟨x1.re * gnorm (gsub me mo), x1.im * gnorm (gsub me mo)⟩ := by
  apply Gs.ext2
  · simp only [sepO, sepE, mixB, gmul, gsub, gadd, gconj, gnorm]; grind
  · simp only [sepO, sepE, mixB, gmul, gsub, gadd, gconj, gnorm]; grind
theorem sepP_acc {mo me x0 x1 : Gs} (h : OkM mo me) : accP mo me x0 x1 (sepP mo me x0 x1) := by
  obtain ⟨g0, g1⟩ := @sepG_bd mo me x0 x1 h
  have hS := sepS_smul (x0 := x0) (x1 := x1) h
  have hA := mixA_S mo me x0 x1
  have hB := mixB_S mo me x0 x1
  have e1 : sepO mo me x0 x1 = (smul (sepG mo me x0 x1) (sepP mo me x0 x1)).o := congrArg Spl.o hS
  have e2 : sepE mo me x0 x1 = (smul (sepG mo me x0 x1) (sepP mo me x0 x1)).e := congrArg Spl.e hS
  have e3 : gnorm (gsub me mo) = (smul (sepG mo me x0 x1) (sepP mo me x0 x1)).d := congrArg Spl.d hS
  rw [e1, e2, e3] at hA hB
  generalize sepG mo me x0 x1 = g at *
  generalize sepP mo me x0 x1 = s at *
  have c : ∀ {a b : Int}, g * a = g * b → a = b := fun h => Int.eq_of_mul_eq_mul_left (by omega) h
  clear e1 e2 e3 hS
  obtain ⟨⟨o0, o1⟩, ⟨e0, e1⟩, d⟩ := s
  obtain ⟨mo0, mo1⟩ := mo
  obtain ⟨me0, me1⟩ := me
  obtain ⟨x00, x01⟩ := x0
  obtain ⟨x10, x11⟩ := x1
  simp only [mixA, mixB, smul, gadd, gmul, Gs.mk.injEq] at hA hB
  refine ⟨Gs.ext2 (c ?_) (c ?_), Gs.ext2 (c ?_) (c ?_)⟩
  · simp only [mixA, gadd]; have := hA.1; grind
  · simp only [mixA, gadd]; have := hA.2; grind
  · simp only [mixB, gadd, gmul]; have := hB.1; grind
  · simp only [mixB, gadd, gmul]; have := hB.2; grind
theorem acc_S {mo me x0 x1 : Gs} {s : Spl} (h : accP mo me x0 x1 s) : smul (gnorm (gsub me mo)) s = smul s.d (sepS mo me x0 x1) := by
  obtain ⟨⟨o0, o1⟩, ⟨e0, e1⟩, d⟩ := s
  obtain ⟨mo0, mo1⟩ := mo
  obtain ⟨me0, me1⟩ := me
  obtain ⟨x00, x01⟩ := x0
  obtain ⟨x10, x11⟩ := x1
  obtain ⟨hA, hB⟩ := h
  simp only [mixA, mixB, gadd, gmul, Gs.mk.injEq] at hA hB
  obtain ⟨a0, a1⟩ := hA
  obtain ⟨b0, b1⟩ := hB
  refine Spl.ext2 (Gs.ext2 ?_ ?_) (Gs.ext2 ?_ ?_) ?_
  · simp only [smul, sepS, sepO, gmul, gsub, gconj, gnorm]; grind
  · simp only [smul, sepS, sepO, gmul, gsub, gconj, gnorm]; grind
  · simp only [smul, sepS, sepE, gmul, gsub, gconj, gnorm]; grind
  · simp only [smul, sepS, sepE, gmul, gsub, gconj, gnorm]; grind
  · simp only [smul, sepS]; exact Int.mul_comm _ _
/-- nothing else is accepted -/
theorem acc_uniq {mo me x0 x1 : Gs} {s : Spl} (h : OkM mo me) (hd : 1 ≤ s.d) (h1 : gS s = 1) (ha : accP mo me x0 x1 s) : s = sepP mo me x0 x1 := by
  obtain ⟨g0, g1⟩ := @sepG_bd mo me x0 x1 h
  obtain ⟨n0, n1⟩ := sepD_bd h
  have hS := acc_S ha
  have hP := sepP_one (x0 := x0) (x1 := x1) h
  rw [sepS_smul h] at hS
  generalize sepP mo me x0 x1 = p at *
  generalize sepG mo me x0 x1 = g at *
  generalize gnorm (gsub me mo) = N at *
  have hg := congrArg gS hS
  rw [gS_smul, gS_smul, gS_smul, h1, hP, Nat.mul_one, Nat.mul_one] at hg
  have hN : N = s.d * g := by
    have e : (N.natAbs : Int) = ((s.d.natAbs * g.natAbs : Nat) : Int) := congrArg _ hg
    rw [Int.natCast_mul, Int.natAbs_of_nonneg (by omega), Int.natAbs_of_nonneg (by omega), Int.natAbs_of_nonneg (by omega)] at e
    exact e
  have c : ∀ {a b : Int}, N * a = s.d * (g * b) → a = b := fun h => Int.eq_of_mul_eq_mul_left (a := N) (by omega) (by rw [h, hN, Int.mul_assoc])
  exact Spl.ext2 (Gs.ext2 (c (congrArg (fun t => t.o.re) hS)) (c (congrArg (fun t => t.o.im) hS))) (Gs.ext2 (c (congrArg (fun t => t.e.re) hS)) (c (congrArg (fun t => t.e.im) hS))) (c (congrArg (fun t => t.d) hS))
end Go.Proofs.YtppghnbabnhnbaaDoor
