/-
  Chapter 2: whole complex numbers; samples.
-/
import Derived.Test.YtlnbbioponmcfaaDoorELeaf
namespace Go.Proofs.YtlnbbioponmcfaaDoor
open Go.ChangeShapes Go.WideShapes Go.ChangeAt Go.RowKit
set_option linter.unusedVariables false
set_option linter.unusedSimpArgs false

theorem mul_self_nonneg' (a : Int) : 0 ≤ a * a := by
  rcases Int.le_total 0 a with h | h
  · exact Int.mul_nonneg h h
  · exact Int.mul_nonneg_of_nonpos_of_nonpos h h
structure Gs where
  re : Int
  im : Int
theorem Gs.ext2 {a b : Gs} (h : a.re = b.re) (k : a.im = b.im) : a = b := by cases a; cases b; simp only at h k; rw [h, k]
abbrev gv (g : Gs) : Value := .agg #[.int .i64 g.re, .int .i64 g.im]
structure Sz (M : Int) (g : Gs) : Prop where
  r0 : -M ≤ g.re
  r1 : g.re ≤ M
  i0 : -M ≤ g.im
  i1 : g.im ≤ M
theorem Sz.mono {M N : Int} {g : Gs} (h : Sz M g) (k : M ≤ N) : Sz N g := ⟨by have := h.r0; omega, by have := h.r1; omega, by have := h.i0; omega, by have := h.i1; omega⟩
def gadd (a b : Gs) : Gs := ⟨a.re + b.re, a.im + b.im⟩
def gsub (a b : Gs) : Gs := ⟨a.re - b.re, a.im - b.im⟩
def gmul (a b : Gs) : Gs := ⟨a.re * b.re - a.im * b.im, a.re * b.im + a.im * b.re⟩
def gconj (a : Gs) : Gs := ⟨a.re, -a.im⟩
def gnorm (a : Gs) : Int := a.re * a.re + a.im * a.im
def gz : Gs := ⟨0, 0⟩
theorem Sz.add {M N : Int} {a b : Gs} (h : Sz M a) (k : Sz N b) : Sz (M + N) (gadd a b) := by
  obtain ⟨h0, h1, h2, h3⟩ := h
  obtain ⟨k0, k1, k2, k3⟩ := k
  unfold gadd
  exact ⟨by simp only; omega, by simp only; omega, by simp only; omega, by simp only; omega⟩
theorem Sz.sub {M N : Int} {a b : Gs} (h : Sz M a) (k : Sz N b) : Sz (M + N) (gsub a b) := by
  obtain ⟨h0, h1, h2, h3⟩ := h
  obtain ⟨k0, k1, k2, k3⟩ := k
  unfold gsub
  exact ⟨by simp only; omega, by simp only; omega, by simp only; omega, by simp only; omega⟩
theorem Sz.mul {M N : Int} {a b : Gs} (h : Sz M a) (k : Sz N b) : Sz (2 * (M * N)) (gmul a b) := by
  obtain ⟨h0, h1, h2, h3⟩ := h
  obtain ⟨k0, k1, k2, k3⟩ := k
  have m1 := mul_bd h0 h1 k0 k1
  have m2 := mul_bd h2 h3 k2 k3
  have m3 := mul_bd h0 h1 k2 k3
  have m4 := mul_bd h2 h3 k0 k1
  unfold gmul
  exact ⟨by simp only; omega, by simp only; omega, by simp only; omega, by simp only; omega⟩
theorem Sz.conj {M : Int} {a : Gs} (h : Sz M a) : Sz M (gconj a) := by
  obtain ⟨h0, h1, h2, h3⟩ := h
  unfold gconj
  exact ⟨by simp only; omega, by simp only; omega, by simp only; omega, by simp only; omega⟩
theorem Sz.norm {M : Int} {a : Gs} (h : Sz M a) : 0 ≤ gnorm a ∧ gnorm a ≤ 2 * (M * M) := by
  obtain ⟨h0, h1, h2, h3⟩ := h
  have m1 := mul_bd h0 h1 h0 h1
  have m2 := mul_bd h2 h3 h2 h3
  have n1 : 0 ≤ a.re * a.re := mul_self_nonneg' _
  have n2 : 0 ≤ a.im * a.im := mul_self_nonneg' _
  unfold gnorm
  omega
set_option maxHeartbeats 1000000 in
theorem plus_any (a b : Gs) (w : World) (ha : Sz 1000000000000000000 a) (hb : Sz 1000000000000000000 b) :
    Calls Tryd.prog 33 #[gv a, gv b] w fun e w' => e = .returned (gv (gadd a b)) ∧ Below w.heap.size w w' := by
  obtain ⟨h0, h1, h2, h3⟩ := ha
  obtain ⟨k0, k1, k2, k3⟩ := hb
  obtain ⟨a0, a1⟩ := a
  obtain ⟨b0, b1⟩ := b
  simp only [gv, gadd] at *
  go_enter Tryd.func33, Tryd.ntmps33
  go_wp2
  refine bodyPost_ret (v := gv (gadd ⟨a0, a1⟩ ⟨b0, b1⟩)) (by simp [results, Tryd.results33, go_sem, gv, gadd]) rfl ?_
  exact ⟨rfl, (by repeat (first | assumption | exact Below.refl _ _ | refine Below.drew ?_ | (refine below_alloc _ ?_ ?_; focus (first | omega | (simp; done) | (simp; omega) | (simp at *; omega))) | (refine below_set _ ?_ ?_; focus (first | omega | (simp; done) | (simp; omega) | (simp at *; omega))) | refine below_drewN ?_ _ | (refine below_call (by assumption) ?_ ?_; focus (first | omega | (simp; done) | (simp; omega) | (simp at *; omega))) | (refine below_call' (by assumption) ?_ ?_; focus (first | omega | (simp; done) | (simp; omega) | (simp at *; omega)))))⟩
set_option maxHeartbeats 1000000 in
theorem minus_any (a b : Gs) (w : World) (ha : Sz 1000000000000000000 a) (hb : Sz 1000000000000000000 b) :
    Calls Tryd.prog 60 #[gv a, gv b] w fun e w' => e = .returned (gv (gsub a b)) ∧ Below w.heap.size w w' := by
  obtain ⟨h0, h1, h2, h3⟩ := ha
  obtain ⟨k0, k1, k2, k3⟩ := hb
  obtain ⟨a0, a1⟩ := a
  obtain ⟨b0, b1⟩ := b
  simp only [gv, gsub] at *
  go_enter Tryd.func60, Tryd.ntmps60
  go_wp2
  refine bodyPost_ret (v := gv (gsub ⟨a0, a1⟩ ⟨b0, b1⟩)) (by simp [results, Tryd.results60, go_sem, gv, gsub]) rfl ?_
  exact ⟨rfl, (by repeat (first | assumption | exact Below.refl _ _ | refine Below.drew ?_ | (refine below_alloc _ ?_ ?_; focus (first | omega | (simp; done) | (simp; omega) | (simp at *; omega))) | (refine below_set _ ?_ ?_; focus (first | omega | (simp; done) | (simp; omega) | (simp at *; omega))) | refine below_drewN ?_ _ | (refine below_call (by assumption) ?_ ?_; focus (first | omega | (simp; done) | (simp; omega) | (simp at *; omega))) | (refine below_call' (by assumption) ?_ ?_; focus (first | omega | (simp; done) | (simp; omega) | (simp at *; omega)))))⟩
set_option maxHeartbeats 1000000 in
theorem times_any (a b : Gs) (w : World) (ha : Sz 1000000000 a) (hb : Sz 1000000000 b) :
    Calls Tryd.prog 61 #[gv a, gv b] w fun e w' => e = .returned (gv (gmul a b)) ∧ Below w.heap.size w w' := by
  obtain ⟨h0, h1, h2, h3⟩ := ha
  obtain ⟨k0, k1, k2, k3⟩ := hb
  have m1 := mul_bd h0 h1 k0 k1
  have m2 := mul_bd h2 h3 k2 k3
  have m3 := mul_bd h0 h1 k2 k3
  have m4 := mul_bd h2 h3 k0 k1
  obtain ⟨a0, a1⟩ := a
  obtain ⟨b0, b1⟩ := b
  simp only [gv, gmul] at *
  go_enter Tryd.func61, Tryd.ntmps61
  go_wp2
  refine bodyPost_ret (v := gv (gmul ⟨a0, a1⟩ ⟨b0, b1⟩)) (by simp [results, Tryd.results61, go_sem, gv, gmul]) rfl ?_
  exact ⟨rfl, (by repeat (first | assumption | exact Below.refl _ _ | refine Below.drew ?_ | (refine below_alloc _ ?_ ?_; focus (first | omega | (simp; done) | (simp; omega) | (simp at *; omega))) | (refine below_set _ ?_ ?_; focus (first | omega | (simp; done) | (simp; omega) | (simp at *; omega))) | refine below_drewN ?_ _ | (refine below_call (by assumption) ?_ ?_; focus (first | omega | (simp; done) | (simp; omega) | (simp at *; omega))) | (refine below_call' (by assumption) ?_ ?_; focus (first | omega | (simp; done) | (simp; omega) | (simp at *; omega)))))⟩
set_option maxHeartbeats 1000000 in
theorem GAdd_any (a b : Gs) (w : World) (ha : Sz 1000000000000000000 a) (hb : Sz 1000000000000000000 b) :
    Calls Tryd.prog 9 #[gv a, gv b] w fun e w' => e = .returned (gv (gadd a b)) ∧ Below w.heap.size w w' := by
  obtain ⟨h0, h1, h2, h3⟩ := ha
  obtain ⟨k0, k1, k2, k3⟩ := hb
  obtain ⟨a0, a1⟩ := a
  obtain ⟨b0, b1⟩ := b
  simp only [gv, gadd] at *
  go_enter Tryd.func9, Tryd.ntmps9
  go_wp2
  refine bodyPost_ret (v := gv (gadd ⟨a0, a1⟩ ⟨b0, b1⟩)) (by simp [results, Tryd.results9, go_sem, gv, gadd]) rfl ?_
  exact ⟨rfl, (by repeat (first | assumption | exact Below.refl _ _ | refine Below.drew ?_ | (refine below_alloc _ ?_ ?_; focus (first | omega | (simp; done) | (simp; omega) | (simp at *; omega))) | (refine below_set _ ?_ ?_; focus (first | omega | (simp; done) | (simp; omega) | (simp at *; omega))) | refine below_drewN ?_ _ | (refine below_call (by assumption) ?_ ?_; focus (first | omega | (simp; done) | (simp; omega) | (simp at *; omega))) | (refine below_call' (by assumption) ?_ ?_; focus (first | omega | (simp; done) | (simp; omega) | (simp at *; omega)))))⟩
set_option maxHeartbeats 1000000 in
theorem conj_any (a : Gs) (w : World) (ha : Sz 1000000000000000000 a) :
    Calls Tryd.prog 62 #[gv a] w fun e w' => e = .returned (gv (gconj a)) ∧ Below w.heap.size w w' := by
  obtain ⟨h0, h1, h2, h3⟩ := ha
  obtain ⟨a0, a1⟩ := a
  simp only [gv, gconj] at *
  go_enter Tryd.func62, Tryd.ntmps62
  go_wp2
  refine bodyPost_ret (v := gv (gconj ⟨a0, a1⟩)) (by simp [results, Tryd.results62, go_sem, gv, gconj]) rfl ?_
  exact ⟨rfl, (by repeat (first | assumption | exact Below.refl _ _ | refine Below.drew ?_ | (refine below_alloc _ ?_ ?_; focus (first | omega | (simp; done) | (simp; omega) | (simp at *; omega))) | (refine below_set _ ?_ ?_; focus (first | omega | (simp; done) | (simp; omega) | (simp at *; omega))) | refine below_drewN ?_ _ | (refine below_call (by assumption) ?_ ?_; focus (first | omega | (simp; done) | (simp; omega) | (simp at *; omega))) | (refine below_call' (by assumption) ?_ ?_; focus (first | omega | (simp; done) | (simp; omega) | (simp at *; omega)))))⟩
set_option maxHeartbeats 1000000 in
theorem power_any (a : Gs) (w : World) (ha : Sz 1000000000 a) :
    Calls Tryd.prog 46 #[gv a] w fun e w' => e = .returned (.int .i64 (gnorm a)) ∧ Below w.heap.size w w' := by
  obtain ⟨h0, h1, h2, h3⟩ := ha
  have m1 := mul_bd h0 h1 h0 h1
  have m2 := mul_bd h2 h3 h2 h3
  obtain ⟨a0, a1⟩ := a
  simp only [gv, gnorm] at *
  go_enter Tryd.func46, Tryd.ntmps46
  go_wp2
  go_ret
  exact ⟨rfl, (by repeat (first | assumption | exact Below.refl _ _ | refine Below.drew ?_ | (refine below_alloc _ ?_ ?_; focus (first | omega | (simp; done) | (simp; omega) | (simp at *; omega))) | (refine below_set _ ?_ ?_; focus (first | omega | (simp; done) | (simp; omega) | (simp at *; omega))) | refine below_drewN ?_ _ | (refine below_call (by assumption) ?_ ?_; focus (first | omega | (simp; done) | (simp; omega) | (simp at *; omega))) | (refine below_call' (by assumption) ?_ ?_; focus (first | omega | (simp; done) | (simp; omega) | (simp at *; omega)))))⟩
/-- both parts are at most so great -/
def prtB (m : Int) (g : Gs) : Bool := withinB g.re (-m) m && withinB g.im (-m) m
theorem prtB_true {m : Int} {g : Gs} (h : prtB m g = true) : Sz m g := by
  unfold prtB at h
  rw [Bool.and_eq_true, withinB_true, withinB_true] at h
  exact ⟨h.1.1, h.1.2, h.2.1, h.2.2⟩
theorem prtB_of {m : Int} {g : Gs} (h : Sz m g) : prtB m g = true := by
  unfold prtB
  rw [Bool.and_eq_true, withinB_true, withinB_true]
  exact ⟨⟨h.r0, h.r1⟩, h.i0, h.i1⟩
set_option maxHeartbeats 1000000 in
theorem isPart_any (g : Gs) (m : Int) (h0 : 0 ≤ m) (h1 : m ≤ 1000000000000) (w : World) :
    Calls Tryd.prog 59 #[gv g, .int .i64 m] w fun e w' => e = .returned (.bool (prtB m g)) ∧ Below w.heap.size w w' := by
  have hq : prtB m g = (withinB g.re (-m) m && withinB g.im (-m) m) := rfl
  have HQ := Lib.hid hq
  have H1 := Lib.hid (fun W => isSized_any g.re m h0 (by omega) W)
  have H2 := Lib.hid (fun W => isSized_any g.im m h0 (by omega) W)
  clear hq
  generalize withinB g.re (-m) m = s1 at *
  generalize withinB g.im (-m) m = s2 at *
  obtain ⟨a0, a1⟩ := g
  simp only [gv] at *
  go_enter Tryd.func59, Tryd.ntmps59
  go_wp2_with (fail)
  refine (H1.out _).mono ?_
  rintro e w' ⟨rfl, rfl⟩
  cases s1
  · go_wp2_with (fail)
    go_ret
    exact ⟨by rw [HQ.out]; rfl, (by repeat (first | assumption | exact Below.refl _ _ | refine Below.drew ?_ | (refine below_alloc _ ?_ ?_; focus (first | omega | (simp; done) | (simp; omega) | (simp at *; omega))) | (refine below_set _ ?_ ?_; focus (first | omega | (simp; done) | (simp; omega) | (simp at *; omega))) | refine below_drewN ?_ _ | (refine below_call (by assumption) ?_ ?_; focus (first | omega | (simp; done) | (simp; omega) | (simp at *; omega))) | (refine below_call' (by assumption) ?_ ?_; focus (first | omega | (simp; done) | (simp; omega) | (simp at *; omega)))))⟩
  · go_wp2_with (fail)
    refine (H2.out _).mono ?_
    rintro e w' ⟨rfl, rfl⟩
    go_wp2_with (fail)
    go_ret
    exact ⟨ret_bool (by rw [HQ.out, Bool.true_and]), (by repeat (first | assumption | exact Below.refl _ _ | refine Below.drew ?_ | (refine below_alloc _ ?_ ?_; focus (first | omega | (simp; done) | (simp; omega) | (simp at *; omega))) | (refine below_set _ ?_ ?_; focus (first | omega | (simp; done) | (simp; omega) | (simp at *; omega))) | refine below_drewN ?_ _ | (refine below_call (by assumption) ?_ ?_; focus (first | omega | (simp; done) | (simp; omega) | (simp at *; omega))) | (refine below_call' (by assumption) ?_ ?_; focus (first | omega | (simp; done) | (simp; omega) | (simp at *; omega)))))⟩
/-- the error of a sample -/
def smpE (g : Gs) : Int := unl (prtB 10000 g) 2
theorem smpE_zero {g : Gs} (h : smpE g = 0) : Sz 10000 g := by
  refine prtB_true ?_
  unfold smpE at h
  cases hb : prtB 10000 g
  · rw [hb] at h; cases h
  · rfl
theorem smpE_of {g : Gs} (h : Sz 10000 g) : smpE g = 0 := by unfold smpE; rw [prtB_of h]; rfl
theorem smpE_cases (g : Gs) : smpE g = 0 ∨ smpE g = 2 := by
  unfold smpE
  cases prtB 10000 g
  · exact .inr rfl
  · exact .inl rfl
set_option maxHeartbeats 1000000 in
theorem sampleErr_any (g : Gs) (w : World) :
    Calls Tryd.prog 53 #[gv g] w fun e w' => e = .returned (.int .i64 (smpE g)) ∧ Below w.heap.size w w' := by
  have hq : smpE g = unl (prtB 10000 g) 2 := rfl
  have HQ := Lib.hid hq
  have HP := Lib.hid (fun W => isPart_any g 10000 (by decide) (by decide) W)
  clear hq
  generalize prtB 10000 g = pb at *
  obtain ⟨a0, a1⟩ := g
  simp only [gv] at *
  go_enter Tryd.func53, Tryd.ntmps53
  go_wp2_with (fail)
  refine (HP.out _).mono ?_
  rintro e w1 ⟨rfl, hb1⟩
  have hw1 : Below w.heap.size w w1 := (by repeat (first | assumption | exact Below.refl _ _ | refine Below.drew ?_ | (refine below_alloc _ ?_ ?_; focus (first | omega | (simp; done) | (simp; omega) | (simp at *; omega))) | (refine below_set _ ?_ ?_; focus (first | omega | (simp; done) | (simp; omega) | (simp at *; omega))) | refine below_drewN ?_ _ | (refine below_call (by assumption) ?_ ?_; focus (first | omega | (simp; done) | (simp; omega) | (simp at *; omega))) | (refine below_call' (by assumption) ?_ ?_; focus (first | omega | (simp; done) | (simp; omega) | (simp at *; omega)))))
  clear hb1
  go_wp2_with (go_at_call 28; refine (unless_any _ _ _).mono ?_; rintro e w' ⟨rfl, rfl⟩)
  go_ret
  exact ⟨ret_int (by rw [HQ.out]), hw1⟩
end Go.Proofs.YtlnbbioponmcfaaDoor
