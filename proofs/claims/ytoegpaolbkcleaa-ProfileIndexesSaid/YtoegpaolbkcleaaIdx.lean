/-
  The index of a frequency for a square: the exported function, and the comparison of two quotients.
-/
import Derived.Test.YtoegpaolbkcleaaAwk
namespace Go.Proofs.Ytoegpaolbkcleaa
open Go.ChangeShapes Go.WideShapes Go.ChangeAt Go.RowKit
set_option linter.unusedVariables false
set_option linter.unusedSimpArgs false

theorem FloorBig_any (n b : Int) (w : World) (hb : 0 < b) (hb2 : b ≤ 4611686018427387904) (h1 : -4611686018427387904 ≤ n) (h2 : n ≤ 4611686018427387904) :
    Calls Try.prog 72 #[.int .i64 n, .int .i64 b] w fun e w' => e = .returned (.int .i64 (n / b)) ∧ w = w' := by
  have hbd := ediv_bd n b hb _ _ h1 h2 (by omega) (by omega)
  have hf := floor_of n b hb
  by_cases hc : n.tmod b < 0
  · rw [if_pos hc] at hf
    have h3 : -4611686018427387904 ≤ n.tdiv b - 1 := by omega
    have h4 : n.tdiv b - 1 ≤ 4611686018427387904 := by omega
    have H := Lib.hid hf
    clear hf hbd
    go_enter Try.func72, Try.ntmps72
    go_wp2
    go_ret
    exact ⟨ret_int H.out, rfl⟩
  · rw [if_neg hc] at hf
    have H := Lib.hid hf
    clear hf hbd
    go_enter Try.func72, Try.ntmps72
    go_wp2
    go_ret
    exact ⟨ret_int H.out, rfl⟩

/-- a number against a quotient -/
def cmp1 (n m k : Int) : Int := if n < m / k then -1 else if m / k < n then 1 else if m - m / k * k = 0 then 0 else -1
set_option maxRecDepth 100000 in
set_option maxHeartbeats 1000000 in
theorem Compare1_any (n m k : Int) (w : World) (h0 : 0 ≤ n) (h1 : n ≤ 1000000000000000) (m0 : 0 ≤ m) (m1 : m ≤ 1000000000000000) (k0 : 0 < k) (k1 : k ≤ 1000000000000000) :
    Calls Try.prog 26 #[.int .i64 n, .int .i64 1, .int .i64 m, .int .i64 k] w fun e w' => e = .returned (.int .i64 (cmp1 n m k)) ∧ w = w' := by
  have hc : cmp1 n m k = if n < m / k then -1 else if m / k < n then 1 else if m - m / k * k = 0 then 0 else -1 := rfl
  have hq0 : 0 ≤ m / k := Int.ediv_nonneg m0 (by omega)
  have hq1 := (ediv_bd m k k0 0 1000000000000000 m0 m1 (by omega) (by omega)).2
  have hm0 : 0 ≤ m / k * k := Int.mul_nonneg hq0 (by omega)
  have hm1 : m / k * k ≤ m := Int.ediv_mul_le m (by omega)
  have H := Lib.hid hc
  have hf1 : ∀ w, Calls Try.prog 72 #[.int .i64 n, .int .i64 1] w fun e w' => e = .returned (.int .i64 n) ∧ w = w' := fun w => by
    have := FloorBig_any n 1 w (by omega) (by omega) (by omega) (by omega)
    rw [Int.ediv_one] at this
    exact this
  have hf2 : ∀ w, Calls Try.prog 72 #[.int .i64 m, .int .i64 k] w fun e w' => e = .returned (.int .i64 (m / k)) ∧ w = w' := fun w => FloorBig_any m k w k0 (by omega) (by omega) (by omega)
  have HF1 := Lib.hid hf1
  have HF2 := Lib.hid hf2
  clear hc hf1 hf2
  generalize m / k = q at *
  go_enter Try.func26, Try.ntmps26
  go_wp2
  go_loopw [0, 1, 2, 3] (fun a b c d wr => a = .int .i64 n ∧ b = .int .i64 1 ∧ c = .int .i64 m ∧ d = .int .i64 k ∧ w = wr) (fun _ _ _ _ _ => 0)
  case atStart => exact ⟨rfl, rfl, rfl, rfl, rfl⟩
  case round =>
    obtain ⟨rfl, rfl, rfl, rfl, rfl⟩ := hrel
    by_cases h2 : n < q
    · rw [if_pos h2] at H
      go_wp2_with (go_at_call 72; first | ((with_reducible refine (HF1.out _).mono ?_); rintro e w' ⟨rfl, rfl⟩) | ((with_reducible refine (HF2.out _).mono ?_); rintro e w' ⟨rfl, rfl⟩))
      go_ret
      exact ⟨ret_eq (by rw [H.out]; rfl), rfl⟩
    · rw [if_neg h2] at H
      have h2d : decide (n < q) = false := by simpa using h2
      by_cases h3 : q < n
      · rw [if_pos h3] at H
        go_wp2_with (go_at_call 72; first | ((with_reducible refine (HF1.out _).mono ?_); rintro e w' ⟨rfl, rfl⟩) | ((with_reducible refine (HF2.out _).mono ?_); rintro e w' ⟨rfl, rfl⟩))
        go_ret
        exact ⟨ret_eq (by rw [H.out]; rfl), rfl⟩
      · rw [if_neg h3] at H
        have h3d : decide (q < n) = false := by simpa using h3
        have hnq : n = q := by omega
        subst hnq
        by_cases h4 : m - n * k = 0
        · rw [if_pos h4] at H
          have h4' : (m - n * k == 0) = true := by simpa using h4
          go_wp2_with (go_at_call 72; first | ((with_reducible refine (HF1.out _).mono ?_); rintro e w' ⟨rfl, rfl⟩) | ((with_reducible refine (HF2.out _).mono ?_); rintro e w' ⟨rfl, rfl⟩))
          go_ret
          exact ⟨ret_eq (by rw [H.out]; rfl), rfl⟩
        · rw [if_neg h4] at H
          have h4' : (m - n * k == 0) = false := by simpa using h4
          go_wp2_with (go_at_call 72; first | ((with_reducible refine (HF1.out _).mono ?_); rintro e w' ⟨rfl, rfl⟩) | ((with_reducible refine (HF2.out _).mono ?_); rintro e w' ⟨rfl, rfl⟩))
          go_ret
          exact ⟨ret_eq (by rw [H.out]; rfl), rfl⟩

def ixE0 (sq f : Int) : Int := firstE [unl (withinB sq 0 9000000) 2, unl (withinB f 1 3000) 2]
def ixE (sq f : Int) : Int := if ixE0 sq f ≠ 0 then ixE0 sq f else if f * f ≤ sq then 12 else 0
def ixLo (sq f : Int) : Int := if ixE sq f = 0 then idxLo sq f else 0
def ixHi (sq f : Int) : Int := if ixE sq f = 0 then idxHi sq f else 0
set_option maxHeartbeats 1000000 in
theorem IndexAt_any (sq f : Int) (w : World) :
    Calls Try.prog 24 #[.int .i64 sq, .int .i64 f] w fun e w' => e = .returned (.tuple #[.agg #[.int .i64 (ixLo sq f), .int .i64 (ixHi sq f)], .int .i64 (ixE sq f)]) ∧ Below w.heap.size w w' := by
  have h1 : ixE0 sq f = firstE [unl (withinB sq 0 9000000) 2, unl (withinB f 1 3000) 2] := rfl
  have h2 : ixE sq f = if ixE0 sq f ≠ 0 then ixE0 sq f else if f * f ≤ sq then 12 else 0 := rfl
  have h3 : ixLo sq f = if ixE sq f = 0 then idxLo sq f else 0 := rfl
  have h4 : ixHi sq f = if ixE sq f = 0 then idxHi sq f else 0 := rfl
  have H1 := Lib.hid h1
  have H2 := Lib.hid h2
  have H3 := Lib.hid h3
  have H4 := Lib.hid h4
  clear h1 h2 h3 h4
  go_enter Try.func24, Try.ntmps24
  go_wp2_with (first | (go_at_call 74; refine (unless_any _ _ _).mono ?_; rintro e w' ⟨rfl, rfl⟩) | (go_at_call 75; refine (within_any _ _ _ _).mono ?_; rintro e w' ⟨rfl, rfl⟩) | (go_at_call 69; refine (frequencyErr_any _ _).mono ?_; rintro e w' ⟨rfl, rfl⟩))
  refine (first2 (unl (withinB sq 0 9000000) 2) (unl (withinB f 1 3000) 2) _ _ (by simp) (by repeat (first | assumption | (refine cell_new ?_ rfl; focus (simp; done)) | refine cell_drew ?_ | refine cell_alloc _ ?_ | refine cell_drewN _ ?_ | (refine cell_far ?_ ?_; focus (first | omega | (simp; omega) | (simp; done))) | refine cell_below' (by assumption) ?_)) (by repeat (first | assumption | (refine cell_new ?_ rfl; focus (simp; done)) | refine cell_drew ?_ | refine cell_alloc _ ?_ | refine cell_drewN _ ?_ | (refine cell_far ?_ ?_; focus (first | omega | (simp; omega) | (simp; done))) | refine cell_below' (by assumption) ?_))).mono ?_
  rintro e w2 ⟨rfl, rfl⟩
  rw [← H1.out]
  by_cases h0 : ixE0 sq f = 0
  · have h00 := h0
    unfold ixE0 at h00
    rw [firstE2, unl_zero (by decide), unl_zero (by decide), withinB_true, withinB_true] at h00
    obtain ⟨⟨s0, s1⟩, f0, f1⟩ := h00
    rw [if_neg (by simp [h0])] at H2
    rw [h0]
    obtain ⟨ff0, ff1⟩ := sq_bd f (by omega) f1
    clear h0 H1
    by_cases hs : f * f ≤ sq
    · rw [if_pos hs] at H2
      rw [H2.out, if_neg (by decide)] at H3 H4
      go_wp2
      refine bodyPost_ret (v := .tuple #[.agg #[.int .i64 0, .int .i64 0], .int .i64 12]) (by simp [results, Try.results24, go_sem]) rfl ⟨ret_eq (by rw [H2.out, H3.out, H4.out]), (by repeat (first | assumption | exact Below.refl _ _ | refine Below.drew ?_ | (refine below_alloc _ ?_ ?_; focus (first | omega | (simp; done) | (simp; omega) | (simp at *; omega))) | (refine below_set _ ?_ ?_; focus (first | omega | (simp; done) | (simp; omega) | (simp at *; omega))) | refine below_drewN ?_ _ | (refine below_call (by assumption) ?_ ?_; focus (first | omega | (simp; done) | (simp; omega) | (simp at *; omega))) | (refine below_call' (by assumption) ?_ ?_; focus (first | omega | (simp; done) | (simp; omega) | (simp at *; omega)))))⟩
    · rw [if_neg hs] at H2
      rw [H2.out, if_pos rfl] at H3 H4
      have hsd : decide (f * f ≤ sq) = false := by simpa using hs
      go_wp2_with (fail)
      refine (index_any sq f _ s0 (by omega) (by omega) f1).mono ?_
      rintro e w3 ⟨rfl, hb3⟩
      have hz3 : w.heap.size < w3.heap.size := by have := hb3.size; simp at this; omega
      have c0 : w3.cell? ⟨w.heap.size, 0, none⟩ = some (.int .i64 0) := cell_below' hb3 (by repeat (first | assumption | (refine cell_new ?_ rfl; focus (simp; done)) | refine cell_drew ?_ | refine cell_alloc _ ?_ | refine cell_drewN _ ?_ | (refine cell_far ?_ ?_; focus (first | omega | (simp; omega) | (simp; done))) | refine cell_below' (by assumption) ?_))
      have c1 : w3.cell? ⟨w.heap.size, 1, none⟩ = some (.int .i64 0) := cell_below' hb3 (by repeat (first | assumption | (refine cell_new ?_ rfl; focus (simp; done)) | refine cell_drew ?_ | refine cell_alloc _ ?_ | refine cell_drewN _ ?_ | (refine cell_far ?_ ?_; focus (first | omega | (simp; omega) | (simp; done))) | refine cell_below' (by assumption) ?_))
      have g0 : w3.frozen? ⟨w.heap.size, 0, none⟩ = false := frozen_below hb3 (by simp; omega) (by repeat (first | assumption | (refine frozen_new ?_; focus (simp; done)) | refine frozen_drew ?_ | (refine frozen_alloc _ ?_ ?_; focus (first | (simp; done) | (simp; omega))) | refine frozen_drewN _ ?_ | refine frozen_set _ _ ?_ | (refine frozen_below (by assumption) ?_ ?_; focus (first | (simp; done) | (simp; omega)))))
      have g1 : w3.frozen? ⟨w.heap.size, 1, none⟩ = false := frozen_below hb3 (by simp; omega) (by repeat (first | assumption | (refine frozen_new ?_; focus (simp; done)) | refine frozen_drew ?_ | (refine frozen_alloc _ ?_ ?_; focus (first | (simp; done) | (simp; omega))) | refine frozen_drewN _ ?_ | refine frozen_set _ _ ?_ | (refine frozen_below (by assumption) ?_ ?_; focus (first | (simp; done) | (simp; omega)))))
      go_wp2
      refine bodyPost_ret (v := .tuple #[.agg #[.int .i64 (idxLo sq f), .int .i64 (idxHi sq f)], .int .i64 0]) (by simp [results, Try.results24, go_sem, c0, c1]) rfl ⟨ret_eq (by rw [H2.out, H3.out, H4.out]), (by repeat (first | assumption | exact Below.refl _ _ | refine Below.drew ?_ | (refine below_alloc _ ?_ ?_; focus (first | omega | (simp; done) | (simp; omega) | (simp at *; omega))) | (refine below_set _ ?_ ?_; focus (first | omega | (simp; done) | (simp; omega) | (simp at *; omega))) | refine below_drewN ?_ _ | (refine below_call (by assumption) ?_ ?_; focus (first | omega | (simp; done) | (simp; omega) | (simp at *; omega))) | (refine below_call' (by assumption) ?_ ?_; focus (first | omega | (simp; done) | (simp; omega) | (simp at *; omega)))))⟩
  · rw [if_pos h0] at H2
    rw [H2.out, if_neg h0] at H3 H4
    have h0' : (ixE0 sq f == 0) = false := by simpa using h0
    have h0'' : (ixE0 sq f != 0) = true := by simpa using h0
    clear h0
    go_wp2
    refine bodyPost_ret (v := .tuple #[.agg #[.int .i64 0, .int .i64 0], .int .i64 (ixE0 sq f)]) (by simp [results, Try.results24, go_sem]) rfl ⟨ret_eq (by rw [H2.out, H3.out, H4.out]), (by repeat (first | assumption | exact Below.refl _ _ | refine Below.drew ?_ | (refine below_alloc _ ?_ ?_; focus (first | omega | (simp; done) | (simp; omega) | (simp at *; omega))) | (refine below_set _ ?_ ?_; focus (first | omega | (simp; done) | (simp; omega) | (simp at *; omega))) | refine below_drewN ?_ _ | (refine below_call (by assumption) ?_ ?_; focus (first | omega | (simp; done) | (simp; omega) | (simp at *; omega))) | (refine below_call' (by assumption) ?_ ?_; focus (first | omega | (simp; done) | (simp; omega) | (simp at *; omega)))))⟩
end Go.Proofs.Ytoegpaolbkcleaa
