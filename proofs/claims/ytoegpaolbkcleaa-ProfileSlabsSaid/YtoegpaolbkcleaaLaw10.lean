/-
  The walk of ProfileSlabs.
-/
import Derived.Test.YtoegpaolbkcleaaSlb
import Derived.Test.YtoegpaolbkcleaaAwk
namespace Go.Proofs.Ytoegpaolbkcleaa
open Go.ChangeShapes Go.WideShapes Go.ChangeAt Go.RowKit
set_option linter.unusedVariables false
set_option linter.unusedSimpArgs false

set_option maxRecDepth 100000 in
set_option maxHeartbeats 2000000 in
theorem ProfileSlabs_any (base : Int) (A : Option Addr) (l : List Slb) (cap : Nat) (h : Int) (w : World) (hcap : l.length ≤ cap) (hA : SlabsAt w A l) :
    Calls Try.prog 10 #[.agg #[.int .i64 base, .slice A l.length cap], .int .i64 h] w fun e w' => e = .returned (.bool true) ∧ Below w.heap.size w w' := by
  go_enter Try.func10, Try.ntmps10
  go_wp2_with (fail)
  refine (awake_any _).mono ?_
  rintro e w1 ⟨rfl, hb1⟩
  have hz1 : w.heap.size < w1.heap.size := by have := hb1.size; simp at this; omega
  have a0 : w1.cell? ⟨w.heap.size, 0, none⟩ = some (.int .i64 base) := cell_below' hb1 (by repeat (first | assumption | (refine cell_new ?_ rfl; focus (simp; done)) | refine cell_drew ?_ | refine cell_alloc _ ?_ | refine cell_drewN _ ?_ | (refine cell_far ?_ ?_; focus (first | omega | (simp; omega) | (simp; done))) | refine cell_below' (by assumption) ?_))
  have a1 : w1.cell? ⟨w.heap.size, 1, none⟩ = some (.slice A l.length cap) := cell_below' hb1 (by repeat (first | assumption | (refine cell_new ?_ rfl; focus (simp; done)) | refine cell_drew ?_ | refine cell_alloc _ ?_ | refine cell_drewN _ ?_ | (refine cell_far ?_ ?_; focus (first | omega | (simp; omega) | (simp; done))) | refine cell_below' (by assumption) ?_))
  have hbw1 : Below w.heap.size w w1 := (by repeat (first | assumption | exact Below.refl _ _ | refine Below.drew ?_ | (refine below_alloc _ ?_ ?_; focus (first | omega | (simp; done) | (simp; omega) | (simp at *; omega))) | (refine below_set _ ?_ ?_; focus (first | omega | (simp; done) | (simp; omega) | (simp at *; omega))) | refine below_drewN ?_ _ | (refine below_call (by assumption) ?_ ?_; focus (first | omega | (simp; done) | (simp; omega) | (simp at *; omega))) | (refine below_call' (by assumption) ?_ ?_; focus (first | omega | (simp; done) | (simp; omega) | (simp at *; omega)))))
  clear hb1
  go_wp2_with (fail)
  refine (Few_any base A l.length cap _).mono ?_
  rintro e w2 ⟨rfl, hb2⟩
  have hz2 : w.heap.size < w2.heap.size := by have := hb2.size; omega
  replace a0 := cell_below' hb2 a0
  replace a1 := cell_below' hb2 a1
  have hbw2 : Below w.heap.size w w2 := (by repeat (first | assumption | exact Below.refl _ _ | refine Below.drew ?_ | (refine below_alloc _ ?_ ?_; focus (first | omega | (simp; done) | (simp; omega) | (simp at *; omega))) | (refine below_set _ ?_ ?_; focus (first | omega | (simp; done) | (simp; omega) | (simp at *; omega))) | refine below_drewN ?_ _ | (refine below_call (by assumption) ?_ ?_; focus (first | omega | (simp; done) | (simp; omega) | (simp at *; omega))) | (refine below_call' (by assumption) ?_ ?_; focus (first | omega | (simp; done) | (simp; omega) | (simp at *; omega)))))
  clear hb2 hbw1
  by_cases hf : (l.length : Int) ≤ 14
  · have hl : l.length ≤ 100 := by omega
    have hA2 := hA.below hbw2
    (go_wp2_with (fail); refine (Copy_any base A l cap _ hl hA2).mono ?_; rintro e w3 ⟨A3, c3, rfl, own3, hb3⟩; have hS3 : SlabsAt w3 A3 l := rowsAt_of_own own3 rfl (by decide); have hc3 := own_cap' own3; have hz3 : w.heap.size < w3.heap.size := (by have := hb3.size; omega); replace a0 := cell_below' hb3 a0; replace a1 := cell_below' hb3 a1; have hA3 := hA2.below hb3; have hbw3 : Below w.heap.size w w3 := (by repeat (first | assumption | exact Below.refl _ _ | refine Below.drew ?_ | (refine below_alloc _ ?_ ?_; focus (first | omega | (simp; done) | (simp; omega) | (simp at *; omega))) | (refine below_set _ ?_ ?_; focus (first | omega | (simp; done) | (simp; omega) | (simp at *; omega))) | refine below_drewN ?_ _ | (refine below_call (by assumption) ?_ ?_; focus (first | omega | (simp; done) | (simp; omega) | (simp at *; omega))) | (refine below_call' (by assumption) ?_ ?_; focus (first | omega | (simp; done) | (simp; omega) | (simp at *; omega))))); clear own3 hb3 hbw2; go_wp2_with (fail); refine (CheckProfile_any base A3 l c3 _ hl hS3).mono ?_; rintro e w4 ⟨rfl, hb4⟩; have hz4 : w.heap.size < w4.heap.size := (by have := hb4.size; omega); replace a0 := cell_below' hb4 a0; replace a1 := cell_below' hb4 a1; have hA4 := hA3.below hb4; have hbw4 : Below w.heap.size w w4 := (by repeat (first | assumption | exact Below.refl _ _ | refine Below.drew ?_ | (refine below_alloc _ ?_ ?_; focus (first | omega | (simp; done) | (simp; omega) | (simp at *; omega))) | (refine below_set _ ?_ ?_; focus (first | omega | (simp; done) | (simp; omega) | (simp at *; omega))) | refine below_drewN ?_ _ | (refine below_call (by assumption) ?_ ?_; focus (first | omega | (simp; done) | (simp; omega) | (simp at *; omega))) | (refine below_call' (by assumption) ?_ ?_; focus (first | omega | (simp; done) | (simp; omega) | (simp at *; omega))))); clear hb4 hbw3 hS3)
    (go_wp2_with (fail); refine (Copy_any base A l cap _ hl hA4).mono ?_; rintro e w5 ⟨A5, c5, rfl, own5, hb5⟩; have hS5 : SlabsAt w5 A5 l := rowsAt_of_own own5 rfl (by decide); have hc5 := own_cap' own5; have hz5 : w.heap.size < w5.heap.size := (by have := hb5.size; omega); replace a0 := cell_below' hb5 a0; replace a1 := cell_below' hb5 a1; have hA5 := hA4.below hb5; have hbw5 : Below w.heap.size w w5 := (by repeat (first | assumption | exact Below.refl _ _ | refine Below.drew ?_ | (refine below_alloc _ ?_ ?_; focus (first | omega | (simp; done) | (simp; omega) | (simp at *; omega))) | (refine below_set _ ?_ ?_; focus (first | omega | (simp; done) | (simp; omega) | (simp at *; omega))) | refine below_drewN ?_ _ | (refine below_call (by assumption) ?_ ?_; focus (first | omega | (simp; done) | (simp; omega) | (simp at *; omega))) | (refine below_call' (by assumption) ?_ ?_; focus (first | omega | (simp; done) | (simp; omega) | (simp at *; omega))))); clear own5 hb5 hbw4; go_wp2_with (fail); refine (PlasmaAt_any base A5 l c5 h _ hl hS5).mono ?_; rintro e w6 ⟨rfl, hb6⟩; have hz6 : w.heap.size < w6.heap.size := (by have := hb6.size; omega); replace a0 := cell_below' hb6 a0; replace a1 := cell_below' hb6 a1; have hA6 := hA5.below hb6; have hbw6 : Below w.heap.size w w6 := (by repeat (first | assumption | exact Below.refl _ _ | refine Below.drew ?_ | (refine below_alloc _ ?_ ?_; focus (first | omega | (simp; done) | (simp; omega) | (simp at *; omega))) | (refine below_set _ ?_ ?_; focus (first | omega | (simp; done) | (simp; omega) | (simp at *; omega))) | refine below_drewN ?_ _ | (refine below_call (by assumption) ?_ ?_; focus (first | omega | (simp; done) | (simp; omega) | (simp at *; omega))) | (refine below_call' (by assumption) ?_ ?_; focus (first | omega | (simp; done) | (simp; omega) | (simp at *; omega))))); clear hb6 hbw5 hS5)
    (go_wp2_with (fail); refine (Copy_any base A l cap _ hl hA6).mono ?_; rintro e w7 ⟨A7, c7, rfl, own7, hb7⟩; have hS7 : SlabsAt w7 A7 l := rowsAt_of_own own7 rfl (by decide); have hc7 := own_cap' own7; have hz7 : w.heap.size < w7.heap.size := (by have := hb7.size; omega); replace a0 := cell_below' hb7 a0; replace a1 := cell_below' hb7 a1; have hA7 := hA6.below hb7; have hbw7 : Below w.heap.size w w7 := (by repeat (first | assumption | exact Below.refl _ _ | refine Below.drew ?_ | (refine below_alloc _ ?_ ?_; focus (first | omega | (simp; done) | (simp; omega) | (simp at *; omega))) | (refine below_set _ ?_ ?_; focus (first | omega | (simp; done) | (simp; omega) | (simp at *; omega))) | refine below_drewN ?_ _ | (refine below_call (by assumption) ?_ ?_; focus (first | omega | (simp; done) | (simp; omega) | (simp at *; omega))) | (refine below_call' (by assumption) ?_ ?_; focus (first | omega | (simp; done) | (simp; omega) | (simp at *; omega))))); clear own7 hb7 hbw6; go_wp2_with (fail); refine (CriticalOf_any base A7 l c7 _ hl hS7).mono ?_; rintro e w8 ⟨rfl, hb8⟩; have hz8 : w.heap.size < w8.heap.size := (by have := hb8.size; omega); replace a0 := cell_below' hb8 a0; replace a1 := cell_below' hb8 a1; have hA8 := hA7.below hb8; have hbw8 : Below w.heap.size w w8 := (by repeat (first | assumption | exact Below.refl _ _ | refine Below.drew ?_ | (refine below_alloc _ ?_ ?_; focus (first | omega | (simp; done) | (simp; omega) | (simp at *; omega))) | (refine below_set _ ?_ ?_; focus (first | omega | (simp; done) | (simp; omega) | (simp at *; omega))) | refine below_drewN ?_ _ | (refine below_call (by assumption) ?_ ?_; focus (first | omega | (simp; done) | (simp; omega) | (simp at *; omega))) | (refine below_call' (by assumption) ?_ ?_; focus (first | omega | (simp; done) | (simp; omega) | (simp at *; omega))))); clear hb8 hbw7 hS7)
    (go_wp2_with (fail); refine (Copy_any base A l cap _ hl hA8).mono ?_; rintro e w9 ⟨A9, c9, rfl, own9, hb9⟩; have hS9 : SlabsAt w9 A9 l := rowsAt_of_own own9 rfl (by decide); have hc9 := own_cap' own9; have hz9 : w.heap.size < w9.heap.size := (by have := hb9.size; omega); replace a0 := cell_below' hb9 a0; replace a1 := cell_below' hb9 a1; have hA9 := hA8.below hb9; have hbw9 : Below w.heap.size w w9 := (by repeat (first | assumption | exact Below.refl _ _ | refine Below.drew ?_ | (refine below_alloc _ ?_ ?_; focus (first | omega | (simp; done) | (simp; omega) | (simp at *; omega))) | (refine below_set _ ?_ ?_; focus (first | omega | (simp; done) | (simp; omega) | (simp at *; omega))) | refine below_drewN ?_ _ | (refine below_call (by assumption) ?_ ?_; focus (first | omega | (simp; done) | (simp; omega) | (simp at *; omega))) | (refine below_call' (by assumption) ?_ ?_; focus (first | omega | (simp; done) | (simp; omega) | (simp at *; omega))))); clear own9 hb9 hbw8; go_wp2_with (fail); refine (ContentOf_any base A9 l c9 _ hl hS9).mono ?_; rintro e w10 ⟨rfl, hb10⟩; have hz10 : w.heap.size < w10.heap.size := (by have := hb10.size; omega); replace a0 := cell_below' hb10 a0; replace a1 := cell_below' hb10 a1; have hA10 := hA9.below hb10; have hbw10 : Below w.heap.size w w10 := (by repeat (first | assumption | exact Below.refl _ _ | refine Below.drew ?_ | (refine below_alloc _ ?_ ?_; focus (first | omega | (simp; done) | (simp; omega) | (simp at *; omega))) | (refine below_set _ ?_ ?_; focus (first | omega | (simp; done) | (simp; omega) | (simp at *; omega))) | refine below_drewN ?_ _ | (refine below_call (by assumption) ?_ ?_; focus (first | omega | (simp; done) | (simp; omega) | (simp at *; omega))) | (refine below_call' (by assumption) ?_ ?_; focus (first | omega | (simp; done) | (simp; omega) | (simp at *; omega))))); clear hb10 hbw9 hS9)
    go_wp2_with (fail)
    refine (CheckProfileR_any base A l cap _ hl hA10).mono ?_
    rintro e w11 ⟨rfl, hb11⟩
    have hz11 : w.heap.size < w11.heap.size := by have := hb11.size; omega
    replace a0 := cell_below' hb11 a0
    replace a1 := cell_below' hb11 a1
    have hA11 := hA10.below hb11
    have hbw11 : Below w.heap.size w w11 := (by repeat (first | assumption | exact Below.refl _ _ | refine Below.drew ?_ | (refine below_alloc _ ?_ ?_; focus (first | omega | (simp; done) | (simp; omega) | (simp at *; omega))) | (refine below_set _ ?_ ?_; focus (first | omega | (simp; done) | (simp; omega) | (simp at *; omega))) | refine below_drewN ?_ _ | (refine below_call (by assumption) ?_ ?_; focus (first | omega | (simp; done) | (simp; omega) | (simp at *; omega))) | (refine below_call' (by assumption) ?_ ?_; focus (first | omega | (simp; done) | (simp; omega) | (simp at *; omega)))))
    clear hb11 hbw10
    have h1 : plE base l h = firstE [chkE base l, unl (withinB h 0 10000) 2] := rfl
    have h2 : plV base l h = if plE base l h = 0 then plas base l h else 0 := rfl
    have h3 : crI base l = if chkE base l = 0 then (crit l l.length : Int) else 0 := rfl
    have h4 : crV base l = if chkE base l = 0 then sqAt l (crit l l.length) else 0 := rfl
    have h5 : contI base l = if chkE base l = 0 then sumC l else 0 := rfl
    by_cases h0 : chkE base l = 0
    · have HO := Lib.hid (ok_of_chk h0)
      have hn0 := HO.out.n0
      rw [if_pos h0] at h3 h4 h5
      rw [h0] at h1
      rw [h3, h4, h5, h0]
      cases hwb : withinB h 0 10000
      · have e1 : plE base l h = 2 := by rw [h1, hwb]; simp [unl, firstE]
        have e2 : plV base l h = 0 := by rw [h2, e1]; rfl
        rw [e1, e2]
        have hq : ∀ W, Calls Try.prog 23 #[.int .i64 h, .int .i64 0, .int .i64 10000] W fun e w' => e = .returned (.bool false) ∧ W = w' := fun W => hwb ▸ Within_any _ _ _ W
        have HQ := Lib.hid hq
        clear h0 h1 h2 h3 h4 h5 hwb e1 e2 hq
        go_wp2_with (go_at_call 23; refine (HQ.out _).mono ?_; rintro e w' ⟨rfl, rfl⟩)
        (refine (RCritical_any base A l cap _ hn0 hl hA11).mono ?_; rintro e w13 ⟨rfl, hb13⟩; have hz13 : w.heap.size < w13.heap.size := (by have := hb13.size; omega); replace a0 := cell_below' hb13 a0; replace a1 := cell_below' hb13 a1; have hA13 := hA11.below hb13; generalize crit l l.length = c at *; generalize sqAt l c = s at *; go_wp2_with (fail); refine (RContent_any base A l cap _ HO.out hA13).mono ?_; rintro e w14 ⟨rfl, hb14⟩; go_wp2; go_ret; exact ⟨rfl, (by repeat (first | assumption | exact Below.refl _ _ | refine Below.drew ?_ | (refine below_alloc _ ?_ ?_; focus (first | omega | (simp; done) | (simp; omega) | (simp at *; omega))) | (refine below_set _ ?_ ?_; focus (first | omega | (simp; done) | (simp; omega) | (simp at *; omega))) | refine below_drewN ?_ _ | (refine below_call (by assumption) ?_ ?_; focus (first | omega | (simp; done) | (simp; omega) | (simp at *; omega))) | (refine below_call' (by assumption) ?_ ?_; focus (first | omega | (simp; done) | (simp; omega) | (simp at *; omega)))))⟩)
      · have e1 : plE base l h = 0 := by rw [h1, hwb]; simp [unl, firstE]
        have e2 : plV base l h = plas base l h := by rw [h2, e1]; rfl
        rw [e1, e2]
        have hq : ∀ W, Calls Try.prog 23 #[.int .i64 h, .int .i64 0, .int .i64 10000] W fun e w' => e = .returned (.bool true) ∧ W = w' := fun W => hwb ▸ Within_any _ _ _ W
        have HQ := Lib.hid hq
        clear h0 h1 h2 h3 h4 h5 hwb e1 e2 hq
        go_wp2_with (go_at_call 23; refine (HQ.out _).mono ?_; rintro e w' ⟨rfl, rfl⟩)
        refine (RPlasmaAt_any base A l cap h _ HO.out hA11).mono ?_
        rintro e w12 ⟨rfl, hb12⟩
        have hz12 : w.heap.size < w12.heap.size := by have := hb12.size; omega
        replace a0 := cell_below' hb12 a0
        replace a1 := cell_below' hb12 a1
        replace hA11 := hA11.below hb12
        replace hbw11 : Below w.heap.size w w12 := (by repeat (first | assumption | exact Below.refl _ _ | refine Below.drew ?_ | (refine below_alloc _ ?_ ?_; focus (first | omega | (simp; done) | (simp; omega) | (simp at *; omega))) | (refine below_set _ ?_ ?_; focus (first | omega | (simp; done) | (simp; omega) | (simp at *; omega))) | refine below_drewN ?_ _ | (refine below_call (by assumption) ?_ ?_; focus (first | omega | (simp; done) | (simp; omega) | (simp at *; omega))) | (refine below_call' (by assumption) ?_ ?_; focus (first | omega | (simp; done) | (simp; omega) | (simp at *; omega)))))
        clear hb12
        go_wp2_with (fail)
        (refine (RCritical_any base A l cap _ hn0 hl hA11).mono ?_; rintro e w13 ⟨rfl, hb13⟩; have hz13 : w.heap.size < w13.heap.size := (by have := hb13.size; omega); replace a0 := cell_below' hb13 a0; replace a1 := cell_below' hb13 a1; have hA13 := hA11.below hb13; generalize crit l l.length = c at *; generalize sqAt l c = s at *; go_wp2_with (fail); refine (RContent_any base A l cap _ HO.out hA13).mono ?_; rintro e w14 ⟨rfl, hb14⟩; go_wp2; go_ret; exact ⟨rfl, (by repeat (first | assumption | exact Below.refl _ _ | refine Below.drew ?_ | (refine below_alloc _ ?_ ?_; focus (first | omega | (simp; done) | (simp; omega) | (simp at *; omega))) | (refine below_set _ ?_ ?_; focus (first | omega | (simp; done) | (simp; omega) | (simp at *; omega))) | refine below_drewN ?_ _ | (refine below_call (by assumption) ?_ ?_; focus (first | omega | (simp; done) | (simp; omega) | (simp at *; omega))) | (refine below_call' (by assumption) ?_ ?_; focus (first | omega | (simp; done) | (simp; omega) | (simp at *; omega)))))⟩)
    · have e1 : plE base l h = chkE base l := by rw [h1]; unfold firstE; rw [if_neg h0]
      have e2 : plV base l h = 0 := by rw [h2, e1, if_neg h0]
      rw [if_neg h0] at h3 h4 h5
      rw [h3, h4, h5, e1, e2]
      have h0' : (chkE base l == 0) = false := by simpa using h0
      have h0'' : (chkE base l != 0) = true := by simpa using h0
      clear h0 h1 h2 h3 h4 h5 e1 e2
      go_wp2
      go_ret
      exact ⟨rfl, (by repeat (first | assumption | exact Below.refl _ _ | refine Below.drew ?_ | (refine below_alloc _ ?_ ?_; focus (first | omega | (simp; done) | (simp; omega) | (simp at *; omega))) | (refine below_set _ ?_ ?_; focus (first | omega | (simp; done) | (simp; omega) | (simp at *; omega))) | refine below_drewN ?_ _ | (refine below_call (by assumption) ?_ ?_; focus (first | omega | (simp; done) | (simp; omega) | (simp at *; omega))) | (refine below_call' (by assumption) ?_ ?_; focus (first | omega | (simp; done) | (simp; omega) | (simp at *; omega)))))⟩
  · have hfd : decide ((l.length : Int) ≤ 14) = false := by simpa using hf
    go_wp2
    go_ret
    exact ⟨rfl, (by repeat (first | assumption | exact Below.refl _ _ | refine Below.drew ?_ | (refine below_alloc _ ?_ ?_; focus (first | omega | (simp; done) | (simp; omega) | (simp at *; omega))) | (refine below_set _ ?_ ?_; focus (first | omega | (simp; done) | (simp; omega) | (simp at *; omega))) | refine below_drewN ?_ _ | (refine below_call (by assumption) ?_ ?_; focus (first | omega | (simp; done) | (simp; omega) | (simp at *; omega))) | (refine below_call' (by assumption) ?_ ?_; focus (first | omega | (simp; done) | (simp; omega) | (simp at *; omega)))))⟩
end Go.Proofs.Ytoegpaolbkcleaa
