/-
  The walk of ProfileIndexes.
-/
import Derived.Test.YtoegpaolbkcleaaIdx
namespace Go.Proofs.Ytoegpaolbkcleaa
open Go.ChangeShapes Go.WideShapes Go.ChangeAt Go.RowKit
set_option linter.unusedVariables false
set_option linter.unusedSimpArgs false

/-- the lower end is at most the exact one, the upper end at least -/
theorem cmp_lo {sq f : Int} (h0 : 0 ≤ sq) (h1 : sq < f * f) (f0 : 0 ≤ f) (f1 : f ≤ 3000) : cmp1 (idxLo sq f * idxLo sq f) (1000000 * f * f) (f * f - sq) ≤ 0 := by
  have h := idxLo_le sq f h0 h1 f0 f1
  have hq : idxLo sq f * idxLo sq f ≤ 1000000 * f * f / (f * f - sq) := (Int.le_ediv_iff_mul_le (by omega)).2 h
  unfold cmp1
  by_cases h2 : idxLo sq f * idxLo sq f < 1000000 * f * f / (f * f - sq)
  · rw [if_pos h2]; decide
  · rw [if_neg h2, if_neg (by omega)]
    split <;> decide
theorem cmp_hi {sq f : Int} (h0 : 0 ≤ sq) (h1 : sq < f * f) (f0 : 0 ≤ f) (f1 : f ≤ 3000) : 0 ≤ cmp1 (idxHi sq f * idxHi sq f) (1000000 * f * f) (f * f - sq) := by
  have hl := idxLo_lt sq f h0 h1 f0 f1
  have hq : 1000000 * f * f / (f * f - sq) < (idxLo sq f + 1) * (idxLo sq f + 1) := (Int.ediv_lt_iff_lt_mul (by omega)).2 hl
  unfold cmp1 idxHi
  by_cases h : idxLo sq f * idxLo sq f * (f * f - sq) = 1000000 * f * f
  · rw [if_pos h]
    have he : 1000000 * f * f / (f * f - sq) = idxLo sq f * idxLo sq f := by rw [← h, Int.mul_ediv_cancel _ (by omega)]
    rw [he, if_neg (by omega), if_neg (by omega), if_pos (by omega)]
    decide
  · rw [if_neg h, if_neg (by omega), if_pos hq]; decide

set_option maxRecDepth 100000 in
set_option maxHeartbeats 2000000 in
theorem ProfileIndexes_any (sq f : Int) (w : World) :
    Calls Try.prog 5 #[.int .i64 sq, .int .i64 f] w fun e w' => e = .returned (.bool true) ∧ Below w.heap.size w w' := by
  have h1 : ixE0 sq f = firstE [unl (withinB sq 0 9000000) 2, unl (withinB f 1 3000) 2] := rfl
  have h2 : ixE sq f = if ixE0 sq f ≠ 0 then ixE0 sq f else if f * f ≤ sq then 12 else 0 := rfl
  have h3 : ixLo sq f = if ixE sq f = 0 then idxLo sq f else 0 := rfl
  have h4 : ixHi sq f = if ixE sq f = 0 then idxHi sq f else 0 := rfl
  go_enter Try.func5, Try.ntmps5
  have H1 := Lib.hid h1
  have H2 := Lib.hid h2
  have H3 := Lib.hid h3
  have H4 := Lib.hid h4
  clear h1 h2 h3 h4
  go_wp2_with (fail)
  refine (awake_any _).mono ?_
  rintro e w1 ⟨rfl, hb1⟩
  go_wp2_with (fail)
  refine (IndexAt_any sq f _).mono ?_
  rintro e w2 ⟨rfl, hb2⟩
  have hbw2 : Below w.heap.size w w2 := (by repeat (first | assumption | exact Below.refl _ _ | refine Below.drew ?_ | (refine below_alloc _ ?_ ?_; focus (first | omega | (simp; done) | (simp; omega) | (simp at *; omega))) | (refine below_set _ ?_ ?_; focus (first | omega | (simp; done) | (simp; omega) | (simp at *; omega))) | refine below_drewN ?_ _ | (refine below_call (by assumption) ?_ ?_; focus (first | omega | (simp; done) | (simp; omega) | (simp at *; omega))) | (refine below_call' (by assumption) ?_ ?_; focus (first | omega | (simp; done) | (simp; omega) | (simp at *; omega)))))
  clear hb1 hb2
  cases hs : withinB sq 0 9000000
  · have e0 : ixE0 sq f = 2 := by rw [H1.out, hs]; simp [unl, firstE]
    rw [if_pos (by rw [e0]; decide), e0] at H2
    rw [H2.out, if_neg (by decide)] at H3 H4
    rw [H2.out, H3.out, H4.out]
    have HS := Lib.hid hs
    clear hs e0
    go_wp2_with (first | (go_at_call 23; refine (Within_any _ _ _ _).mono ?_; rintro e w' ⟨rfl, rfl⟩; rw [HS.out]) | (go_at_call 20; refine (FrequencyErr_any _ _).mono ?_; rintro e w' ⟨rfl, rfl⟩))
    go_ret
    exact ⟨rfl, (by repeat (first | assumption | exact Below.refl _ _ | refine Below.drew ?_ | (refine below_alloc _ ?_ ?_; focus (first | omega | (simp; done) | (simp; omega) | (simp at *; omega))) | (refine below_set _ ?_ ?_; focus (first | omega | (simp; done) | (simp; omega) | (simp at *; omega))) | refine below_drewN ?_ _ | (refine below_call (by assumption) ?_ ?_; focus (first | omega | (simp; done) | (simp; omega) | (simp at *; omega))) | (refine below_call' (by assumption) ?_ ?_; focus (first | omega | (simp; done) | (simp; omega) | (simp at *; omega)))))⟩
  · cases hf : withinB f 1 3000
    · have e0 : ixE0 sq f = 2 := by rw [H1.out, hs, hf]; simp [unl, firstE]
      rw [if_pos (by rw [e0]; decide), e0] at H2
      rw [H2.out, if_neg (by decide)] at H3 H4
      rw [H2.out, H3.out, H4.out]
      have HS := Lib.hid hs
      have hu : unl (withinB f 1 3000) 2 = 2 := by rw [hf]; rfl
      have HU := Lib.hid hu
      clear hs e0 hf hu
      go_wp2_with (first | (go_at_call 23; refine (Within_any _ _ _ _).mono ?_; rintro e w' ⟨rfl, rfl⟩; rw [HS.out]) | (go_at_call 20; refine (FrequencyErr_any _ _).mono ?_; rintro e w' ⟨rfl, rfl⟩; rw [HU.out]))
      go_ret
      exact ⟨rfl, (by repeat (first | assumption | exact Below.refl _ _ | refine Below.drew ?_ | (refine below_alloc _ ?_ ?_; focus (first | omega | (simp; done) | (simp; omega) | (simp at *; omega))) | (refine below_set _ ?_ ?_; focus (first | omega | (simp; done) | (simp; omega) | (simp at *; omega))) | refine below_drewN ?_ _ | (refine below_call (by assumption) ?_ ?_; focus (first | omega | (simp; done) | (simp; omega) | (simp at *; omega))) | (refine below_call' (by assumption) ?_ ?_; focus (first | omega | (simp; done) | (simp; omega) | (simp at *; omega)))))⟩
    · have e0 : ixE0 sq f = 0 := by rw [H1.out, hs, hf]; simp [unl, firstE]
      rw [if_neg (by simp [e0])] at H2
      obtain ⟨s0, s1⟩ := withinB_true.1 hs
      obtain ⟨f0, f1⟩ := withinB_true.1 hf
      obtain ⟨ff0, ff1⟩ := sq_bd f (by omega) f1
      have HS := Lib.hid hs
      have hu : unl (withinB f 1 3000) 2 = 0 := by rw [hf]; rfl
      have HU := Lib.hid hu
      clear hs e0 hf hu
      by_cases hle : f * f ≤ sq
      · rw [if_pos hle] at H2
        rw [H2.out, if_neg (by decide)] at H3 H4
        rw [H2.out, H3.out, H4.out]
        go_wp2_with (first | (go_at_call 23; refine (Within_any _ _ _ _).mono ?_; rintro e w' ⟨rfl, rfl⟩; rw [HS.out]) | (go_at_call 20; refine (FrequencyErr_any _ _).mono ?_; rintro e w' ⟨rfl, rfl⟩; rw [HU.out]))
        go_ret
        exact ⟨rfl, (by repeat (first | assumption | exact Below.refl _ _ | refine Below.drew ?_ | (refine below_alloc _ ?_ ?_; focus (first | omega | (simp; done) | (simp; omega) | (simp at *; omega))) | (refine below_set _ ?_ ?_; focus (first | omega | (simp; done) | (simp; omega) | (simp at *; omega))) | refine below_drewN ?_ _ | (refine below_call (by assumption) ?_ ?_; focus (first | omega | (simp; done) | (simp; omega) | (simp at *; omega))) | (refine below_call' (by assumption) ?_ ?_; focus (first | omega | (simp; done) | (simp; omega) | (simp at *; omega)))))⟩
      · rw [if_neg hle] at H2
        rw [H2.out, if_pos rfl] at H3 H4
        rw [H2.out, H3.out, H4.out]
        have hled : decide (f * f ≤ sq) = false := by simpa using hle
        have hlt : sq < f * f := by omega
        have hc1 := cmp_lo s0 hlt (by omega) f1
        have hc2 := cmp_hi s0 hlt (by omega) f1
        have l1 := idxLo_bd sq f s0 hlt (by omega) f1
        have l2 := idxHi_bd sq f s0 hlt (by omega) f1
        have hidx := fun W => Index_any sq f W s0 hlt (by omega) f1
        have HI := Lib.hid hidx
        have m1 := mul_bd (idxLo sq f) (idxLo sq f) 3000000 3000000 (by omega) l1.2 (by omega) l1.2
        have m2 := mul_bd (idxHi sq f) (idxHi sq f) 3000000 3000000 (by omega) l2.2.2 (by omega) l2.2.2
        have hm : 1000000 * f * f = 1000000 * (f * f) := Int.mul_assoc _ _ _
        have b1 : 0 ≤ 1000000 * f * f := by omega
        have b2 : 1000000 * f * f ≤ 9000000000000 := by omega
        obtain ⟨m11, m12⟩ := m1
        obtain ⟨m21, m22⟩ := m2
        obtain ⟨l11, l12⟩ := l1
        obtain ⟨l21, l22, l23⟩ := l2
        have hw1 : withinB (idxLo sq f) 1000 3000000 = true := withinB_true.2 ⟨l11, l12⟩
        have hw2 : withinB (idxHi sq f - idxLo sq f) 0 1 = true := withinB_true.2 (by omega)
        have hwc1 : ∀ W, Calls Try.prog 23 #[.int .i64 (idxLo sq f), .int .i64 1000, .int .i64 3000000] W fun e w' => e = .returned (.bool true) ∧ W = w' := fun W => hw1 ▸ Within_any _ _ _ W
        have hwc2 : ∀ W, Calls Try.prog 23 #[.int .i64 (idxHi sq f - idxLo sq f), .int .i64 0, .int .i64 1] W fun e w' => e = .returned (.bool true) ∧ W = w' := fun W => hw2 ▸ Within_any _ _ _ W
        have HW1 := Lib.hid hwc1
        have HW2 := Lib.hid hwc2
        have hp1 : ∀ W, Calls Try.prog 26 #[.int .i64 (idxLo sq f * idxLo sq f), .int .i64 1, .int .i64 (1000000 * f * f), .int .i64 (f * f - sq)] W fun e w' => e = .returned (.int .i64 (cmp1 (idxLo sq f * idxLo sq f) (1000000 * f * f) (f * f - sq))) ∧ W = w' := fun W => Compare1_any _ _ _ W m11 (by omega) b1 (by omega) (by omega) (by omega)
        have hp2 : ∀ W, Calls Try.prog 26 #[.int .i64 (idxHi sq f * idxHi sq f), .int .i64 1, .int .i64 (1000000 * f * f), .int .i64 (f * f - sq)] W fun e w' => e = .returned (.int .i64 (cmp1 (idxHi sq f * idxHi sq f) (1000000 * f * f) (f * f - sq))) ∧ W = w' := fun W => Compare1_any _ _ _ W m21 (by omega) b1 (by omega) (by omega) (by omega)
        generalize cmp1 (idxLo sq f * idxLo sq f) (1000000 * f * f) (f * f - sq) = q1 at *
        generalize cmp1 (idxHi sq f * idxHi sq f) (1000000 * f * f) (f * f - sq) = q2 at *
        have HP1 := Lib.hid hp1
        have HP2 := Lib.hid hp2
        clear hidx hm hw1 hw2 hwc1 hwc2 hp1 hp2 hle H1 H2 H3 H4
        go_wp2_with (first | (go_at_call 23; refine (Within_any _ _ _ _).mono ?_; rintro e w' ⟨rfl, rfl⟩; rw [HS.out]) | (go_at_call 20; refine (FrequencyErr_any _ _).mono ?_; rintro e w' ⟨rfl, rfl⟩; rw [HU.out]))
        (refine region_extx 22 (by kernel_rfl) (by kernel_rfl) fun hx => ?_; simp only [List.take_succ_cons, List.take_zero, List.drop_succ_cons, List.drop_zero]; (repeat (any_goals (first | go_big_quiet_step (first | (go_at_call 25; exact ext_call (HI.out _)) | (go_at_call 23; with_reducible exact ext_same (HW1.out _)) | (go_at_call 23; with_reducible exact ext_same (HW2.out _))) | quiet_step (first | (go_at_call 25; exact ext_call (HI.out _)) | (go_at_call 23; with_reducible exact ext_same (HW1.out _)) | (go_at_call 23; with_reducible exact ext_same (HW2.out _)))))))
        (refine wpQuiet_nil ?_; clear hx; intro u; have hbw3 := ext_bel _ u; have hxw3 := ext_cell _ u; generalize ext _ u = w3 at *; clear u; have hsw3 := hbw3.size; (try simp at hsw3))
        go_wp2_with (go_at_call 26; first | ((with_reducible refine (HP1.out _).mono ?_); rintro e w' ⟨rfl, rfl⟩) | ((with_reducible refine (HP2.out _).mono ?_); rintro e w' ⟨rfl, rfl⟩))
        go_ret
        exact ⟨rfl, (by repeat (first | assumption | exact Below.refl _ _ | refine Below.drew ?_ | (refine below_alloc _ ?_ ?_; focus (first | omega | (simp; done) | (simp; omega) | (simp at *; omega))) | (refine below_set _ ?_ ?_; focus (first | omega | (simp; done) | (simp; omega) | (simp at *; omega))) | refine below_drewN ?_ _ | (refine below_call (by assumption) ?_ ?_; focus (first | omega | (simp; done) | (simp; omega) | (simp at *; omega))) | (refine below_call' (by assumption) ?_ ?_; focus (first | omega | (simp; done) | (simp; omega) | (simp at *; omega)))))⟩
end Go.Proofs.Ytoegpaolbkcleaa
