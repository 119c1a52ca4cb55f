/-
  The walk of ProfileTraces.
-/
import Derived.Test.YtoegpaolbkcleaaTrs
namespace Go.Proofs.Ytoegpaolbkcleaa
open Go.ChangeShapes Go.WideShapes Go.ChangeAt Go.RowKit
set_option linter.unusedVariables false
set_option linter.unusedSimpArgs false

set_option maxRecDepth 100000 in
set_option maxHeartbeats 2000000 in
theorem ProfileTraces_any (base : Int) (A : Option Addr) (l : List Slb) (cap : Nat) (B : Option Addr) (fl : List Int) (capB : Nat) (w : World) (hcap : l.length ≤ cap) (hA : SlabsAt w A l) (hB : IntsAt w B fl) :
    Calls Try.prog 8 #[.agg #[.int .i64 base, .slice A l.length cap], .slice B fl.length capB] w fun e w' => e = .returned (.bool true) ∧ Below w.heap.size w w' := by
  go_enter Try.func8, Try.ntmps8
  go_wp2_with (fail)
  refine (awake_any _).mono ?_
  rintro e w1 ⟨rfl, hb1⟩
  have hz1 : w.heap.size < w1.heap.size := by have := hb1.size; simp at this; omega
  have a0 : w1.cell? ⟨w.heap.size, 0, none⟩ = some (.int .i64 base) := cell_below' hb1 (by repeat (first | assumption | (refine cell_new ?_ rfl; focus (simp; done)) | refine cell_drew ?_ | refine cell_alloc _ ?_ | refine cell_drewN _ ?_ | (refine cell_far ?_ ?_; focus (first | omega | (simp; omega) | (simp; done))) | refine cell_below' (by assumption) ?_))
  have a1 : w1.cell? ⟨w.heap.size, 1, none⟩ = some (.slice A l.length cap) := cell_below' hb1 (by repeat (first | assumption | (refine cell_new ?_ rfl; focus (simp; done)) | refine cell_drew ?_ | refine cell_alloc _ ?_ | refine cell_drewN _ ?_ | (refine cell_far ?_ ?_; focus (first | omega | (simp; omega) | (simp; done))) | refine cell_below' (by assumption) ?_))
  have hbw1 : Below w.heap.size w w1 := (by repeat (first | assumption | exact Below.refl _ _ | refine Below.drew ?_ | (refine below_alloc _ ?_ ?_; focus (first | omega | (simp; done) | (simp; omega) | (simp at *; omega))) | (refine below_set _ ?_ ?_; focus (first | omega | (simp; done) | (simp; omega) | (simp at *; omega))) | refine below_drewN ?_ _ | (refine below_call (by assumption) ?_ ?_; focus (first | omega | (simp; done) | (simp; omega) | (simp at *; omega))) | (refine below_call' (by assumption) ?_ ?_; focus (first | omega | (simp; done) | (simp; omega) | (simp at *; omega)))))
  clear hb1
  go_wp2_with (fail)
  refine (Few_any base A l.length cap _).mono ?_
  rintro e w2 ⟨rfl, hb2⟩
  have hz2 : w.heap.size < w2.heap.size := by have := hb2.size; omega
  replace a0 := cell_below' hb2 a0
  replace a1 := cell_below' hb2 a1
  have hbw2 : Below w.heap.size w w2 := (by repeat (first | assumption | exact Below.refl _ _ | refine Below.drew ?_ | (refine below_alloc _ ?_ ?_; focus (first | omega | (simp; done) | (simp; omega) | (simp at *; omega))) | (refine below_set _ ?_ ?_; focus (first | omega | (simp; done) | (simp; omega) | (simp at *; omega))) | refine below_drewN ?_ _ | (refine below_call (by assumption) ?_ ?_; focus (first | omega | (simp; done) | (simp; omega) | (simp at *; omega))) | (refine below_call' (by assumption) ?_ ?_; focus (first | omega | (simp; done) | (simp; omega) | (simp at *; omega)))))
  clear hb2 hbw1
  by_cases hf : (l.length : Int) ≤ 14
  · by_cases hg : 10 < (fl.length : Int)
    · go_wp2
      go_ret
      exact ⟨rfl, (by repeat (first | assumption | exact Below.refl _ _ | refine Below.drew ?_ | (refine below_alloc _ ?_ ?_; focus (first | omega | (simp; done) | (simp; omega) | (simp at *; omega))) | (refine below_set _ ?_ ?_; focus (first | omega | (simp; done) | (simp; omega) | (simp at *; omega))) | refine below_drewN ?_ _ | (refine below_call (by assumption) ?_ ?_; focus (first | omega | (simp; done) | (simp; omega) | (simp at *; omega))) | (refine below_call' (by assumption) ?_ ?_; focus (first | omega | (simp; done) | (simp; omega) | (simp at *; omega)))))⟩
    · have hgd : decide (10 < (fl.length : Int)) = false := by simpa using hg
      have hl : l.length ≤ 100 := by omega
      have hfl : fl.length ≤ 100 := by omega
      have hA2 := hA.below hbw2
      have hB2 := hB.below hbw2
      clear hg
      go_wp2_with (fail)
      refine (Copy_any base A l cap _ hl hA2).mono ?_
      rintro e w3 ⟨A3, c3, rfl, own3, hb3⟩
      have hS3 : SlabsAt w3 A3 l := rowsAt_of_own own3 rfl (by decide)
      have hc3 := own_cap' own3
      have hz3 : w.heap.size < w3.heap.size := by have := hb3.size; omega
      replace a0 := cell_below' hb3 a0
      replace a1 := cell_below' hb3 a1
      have hA3 := hA2.below hb3
      have hB3 := hB2.below hb3
      have hbw3 : Below w.heap.size w w3 := (by repeat (first | assumption | exact Below.refl _ _ | refine Below.drew ?_ | (refine below_alloc _ ?_ ?_; focus (first | omega | (simp; done) | (simp; omega) | (simp at *; omega))) | (refine below_set _ ?_ ?_; focus (first | omega | (simp; done) | (simp; omega) | (simp at *; omega))) | refine below_drewN ?_ _ | (refine below_call (by assumption) ?_ ?_; focus (first | omega | (simp; done) | (simp; omega) | (simp at *; omega))) | (refine below_call' (by assumption) ?_ ?_; focus (first | omega | (simp; done) | (simp; omega) | (simp at *; omega)))))
      clear own3 hb3 hbw2
      go_wp2_with (fail)
      refine (CopyInts_any B fl capB _ hfl hB3).mono ?_
      rintro e w4 ⟨A4, c4, rfl, own4, hb4⟩
      have hS4 : IntsAt w4 A4 fl := rowsAt_of_own (f := intC) own4 rfl (by decide)
      have hz4 : w.heap.size < w4.heap.size := by have := hb4.size; omega
      replace a0 := cell_below' hb4 a0
      replace a1 := cell_below' hb4 a1
      have hA4 := hA3.below hb4
      have hB4 := hB3.below hb4
      replace hS3 := hS3.below hb4
      have hbw4 : Below w.heap.size w w4 := (by repeat (first | assumption | exact Below.refl _ _ | refine Below.drew ?_ | (refine below_alloc _ ?_ ?_; focus (first | omega | (simp; done) | (simp; omega) | (simp at *; omega))) | (refine below_set _ ?_ ?_; focus (first | omega | (simp; done) | (simp; omega) | (simp at *; omega))) | refine below_drewN ?_ _ | (refine below_call (by assumption) ?_ ?_; focus (first | omega | (simp; done) | (simp; omega) | (simp at *; omega))) | (refine below_call' (by assumption) ?_ ?_; focus (first | omega | (simp; done) | (simp; omega) | (simp at *; omega)))))
      clear own4 hb4 hbw3
      go_wp2_with (fail)
      refine (TraceOf_any base A3 l c3 A4 fl c4 _ hl hc3 hfl hS3 hS4).mono ?_
      rintro e w5 ⟨A5, c5, rfl, own5, hb5⟩
      have hz5 : w.heap.size < w5.heap.size := by have := hb5.size; omega
      replace a0 := cell_below' hb5 a0
      replace a1 := cell_below' hb5 a1
      have hA5 := hA4.below hb5
      have hB5 := hB4.below hb5
      have hP5 : PtsAt w5 A5 (tof base l fl).1 := rowsAt_of_own own5 rfl (by decide)
      have hbw5 : Below w.heap.size w w5 := (by repeat (first | assumption | exact Below.refl _ _ | refine Below.drew ?_ | (refine below_alloc _ ?_ ?_; focus (first | omega | (simp; done) | (simp; omega) | (simp at *; omega))) | (refine below_set _ ?_ ?_; focus (first | omega | (simp; done) | (simp; omega) | (simp at *; omega))) | refine below_drewN ?_ _ | (refine below_call (by assumption) ?_ ?_; focus (first | omega | (simp; done) | (simp; omega) | (simp at *; omega))) | (refine below_call' (by assumption) ?_ ?_; focus (first | omega | (simp; done) | (simp; omega) | (simp at *; omega)))))
      clear own5 hb5 hbw4 hS3 hS4
      go_wp2_with (fail)
      refine (ProfileErr_any base A l cap _ hl (hA5.below (by repeat (first | assumption | exact Below.refl _ _ | refine Below.drew ?_ | (refine below_alloc _ ?_ ?_; focus (first | omega | (simp; done) | (simp; omega) | (simp at *; omega))) | (refine below_set _ ?_ ?_; focus (first | omega | (simp; done) | (simp; omega) | (simp at *; omega))) | refine below_drewN ?_ _ | (refine below_call (by assumption) ?_ ?_; focus (first | omega | (simp; done) | (simp; omega) | (simp at *; omega))) | (refine below_call' (by assumption) ?_ ?_; focus (first | omega | (simp; done) | (simp; omega) | (simp at *; omega))))))).mono ?_
      rintro e w6 ⟨rfl, hb6⟩
      have hz6 : w.heap.size < w6.heap.size := by have := hb6.size; simp at this; omega
      have hz7 : w5.heap.size < w6.heap.size := by have := hb6.size; simp at this; omega
      replace a0 := cell_below' hb6 (cell_alloc _ a0)
      replace a1 := cell_below' hb6 (cell_alloc _ a1)
      have t0 : w6.cell? ⟨w5.heap.size, 0, none⟩ = some (.slice A5 (tof base l fl).1.length c5) := cell_below' hb6 (by repeat (first | assumption | (refine cell_new ?_ rfl; focus (simp; done)) | refine cell_drew ?_ | refine cell_alloc _ ?_ | refine cell_drewN _ ?_ | (refine cell_far ?_ ?_; focus (first | omega | (simp; omega) | (simp; done))) | refine cell_below' (by assumption) ?_))
      have t1 : w6.cell? ⟨w5.heap.size, 1, none⟩ = some (.int .i64 0) := cell_below' hb6 (by repeat (first | assumption | (refine cell_new ?_ rfl; focus (simp; done)) | refine cell_drew ?_ | refine cell_alloc _ ?_ | refine cell_drewN _ ?_ | (refine cell_far ?_ ?_; focus (first | omega | (simp; omega) | (simp; done))) | refine cell_below' (by assumption) ?_))
      have t2 : w6.cell? ⟨w5.heap.size, 2, none⟩ = some (.int .i64 0) := cell_below' hb6 (by repeat (first | assumption | (refine cell_new ?_ rfl; focus (simp; done)) | refine cell_drew ?_ | refine cell_alloc _ ?_ | refine cell_drewN _ ?_ | (refine cell_far ?_ ?_; focus (first | omega | (simp; omega) | (simp; done))) | refine cell_below' (by assumption) ?_))
      have hb56 : Below w5.heap.size w5 w6 := (by repeat (first | assumption | exact Below.refl _ _ | refine Below.drew ?_ | (refine below_alloc _ ?_ ?_; focus (first | omega | (simp; done) | (simp; omega) | (simp at *; omega))) | (refine below_set _ ?_ ?_; focus (first | omega | (simp; done) | (simp; omega) | (simp at *; omega))) | refine below_drewN ?_ _ | (refine below_call (by assumption) ?_ ?_; focus (first | omega | (simp; done) | (simp; omega) | (simp at *; omega))) | (refine below_call' (by assumption) ?_ ?_; focus (first | omega | (simp; done) | (simp; omega) | (simp at *; omega)))))
      have hA6 := hA5.below hb56
      have hB6 := hB5.below hb56
      have hP6 := hP5.below hb56
      have hbw6 : Below w.heap.size w w6 := (by repeat (first | assumption | exact Below.refl _ _ | refine Below.drew ?_ | (refine below_alloc _ ?_ ?_; focus (first | omega | (simp; done) | (simp; omega) | (simp at *; omega))) | (refine below_set _ ?_ ?_; focus (first | omega | (simp; done) | (simp; omega) | (simp at *; omega))) | refine below_drewN ?_ _ | (refine below_call (by assumption) ?_ ?_; focus (first | omega | (simp; done) | (simp; omega) | (simp at *; omega))) | (refine below_call' (by assumption) ?_ ?_; focus (first | omega | (simp; done) | (simp; omega) | (simp at *; omega)))))
      have hlen : (tof base l fl).1.length ≤ 100 := tof_len base l fl hfl
      clear hb6 hb56 hbw5 hP5
      by_cases h0 : chkE base l = 0
      · have HO := Lib.hid (ok_of_chk h0)
        rw [h0]
        clear h0
        go_wp2_with (fail)
        refine (RTraceOf_any base A l cap B fl capB _ HO.out hfl hA6 hB6).mono ?_
        rintro e w7 ⟨A7, c7, rfl, own7, hb7⟩
        have hz8 : w.heap.size < w7.heap.size := by have := hb7.size; omega
        have hz9 : w5.heap.size < w7.heap.size := by have := hb7.size; omega
        replace a0 := cell_below' hb7 a0
        replace a1 := cell_below' hb7 a1
        replace t0 := cell_below' hb7 t0
        replace t1 := cell_below' hb7 t1
        replace t2 := cell_below' hb7 t2
        have hP7 : PtsAt w7 A7 (tof base l fl).1 := rowsAt_of_own own7 rfl (by decide)
        have hQ7 := hP6.below hb7
        have hbw7 : Below w.heap.size w w7 := (by repeat (first | assumption | exact Below.refl _ _ | refine Below.drew ?_ | (refine below_alloc _ ?_ ?_; focus (first | omega | (simp; done) | (simp; omega) | (simp at *; omega))) | (refine below_set _ ?_ ?_; focus (first | omega | (simp; done) | (simp; omega) | (simp at *; omega))) | refine below_drewN ?_ _ | (refine below_call (by assumption) ?_ ?_; focus (first | omega | (simp; done) | (simp; omega) | (simp at *; omega))) | (refine below_call' (by assumption) ?_ ?_; focus (first | omega | (simp; done) | (simp; omega) | (simp at *; omega)))))
        clear own7 hb7 hbw6
        generalize tof base l fl = q at *
        obtain ⟨q1, q2, q3⟩ := q
        go_wp2_with (fail)
        refine (SameTrace_refl A5 A7 q1 c5 c7 0 0 _ hlen (RowsAt.below hQ7 (by repeat (first | assumption | exact Below.refl _ _ | refine Below.drew ?_ | (refine below_alloc _ ?_ ?_; focus (first | omega | (simp; done) | (simp; omega) | (simp at *; omega))) | (refine below_set _ ?_ ?_; focus (first | omega | (simp; done) | (simp; omega) | (simp at *; omega))) | refine below_drewN ?_ _ | (refine below_call (by assumption) ?_ ?_; focus (first | omega | (simp; done) | (simp; omega) | (simp at *; omega))) | (refine below_call' (by assumption) ?_ ?_; focus (first | omega | (simp; done) | (simp; omega) | (simp at *; omega)))))) (RowsAt.below hP7 (by repeat (first | assumption | exact Below.refl _ _ | refine Below.drew ?_ | (refine below_alloc _ ?_ ?_; focus (first | omega | (simp; done) | (simp; omega) | (simp at *; omega))) | (refine below_set _ ?_ ?_; focus (first | omega | (simp; done) | (simp; omega) | (simp at *; omega))) | refine below_drewN ?_ _ | (refine below_call (by assumption) ?_ ?_; focus (first | omega | (simp; done) | (simp; omega) | (simp at *; omega))) | (refine below_call' (by assumption) ?_ ?_; focus (first | omega | (simp; done) | (simp; omega) | (simp at *; omega))))))).mono ?_
        rintro e w8 ⟨rfl, hb8⟩
        go_wp2
        go_ret
        exact ⟨rfl, (by repeat (first | assumption | exact Below.refl _ _ | refine Below.drew ?_ | (refine below_alloc _ ?_ ?_; focus (first | omega | (simp; done) | (simp; omega) | (simp at *; omega))) | (refine below_set _ ?_ ?_; focus (first | omega | (simp; done) | (simp; omega) | (simp at *; omega))) | refine below_drewN ?_ _ | (refine below_call (by assumption) ?_ ?_; focus (first | omega | (simp; done) | (simp; omega) | (simp at *; omega))) | (refine below_call' (by assumption) ?_ ?_; focus (first | omega | (simp; done) | (simp; omega) | (simp at *; omega)))))⟩
      · have hq : tof base l fl = ([], 0, chkE base l) := by
          have e0 : trE0 base l fl.length = chkE base l := by unfold trE0; unfold firstE; rw [if_neg h0]
          unfold tof
          rw [e0, if_pos h0]
        rw [hq] at t0 ⊢
        have h0' : (chkE base l == 0) = false := by simpa using h0
        have h0'' : (chkE base l != 0) = true := by simpa using h0
        clear hq h0 hP6 hlen
        go_wp2_with (fail)
        refine (SameTrace_refl A5 none [] c5 0 0 0 _ (by simp) RowsAt.nil RowsAt.nil).mono ?_
        rintro e w8 ⟨rfl, hb8⟩
        go_wp2
        go_ret
        exact ⟨rfl, (by repeat (first | assumption | exact Below.refl _ _ | refine Below.drew ?_ | (refine below_alloc _ ?_ ?_; focus (first | omega | (simp; done) | (simp; omega) | (simp at *; omega))) | (refine below_set _ ?_ ?_; focus (first | omega | (simp; done) | (simp; omega) | (simp at *; omega))) | refine below_drewN ?_ _ | (refine below_call (by assumption) ?_ ?_; focus (first | omega | (simp; done) | (simp; omega) | (simp at *; omega))) | (refine below_call' (by assumption) ?_ ?_; focus (first | omega | (simp; done) | (simp; omega) | (simp at *; omega)))))⟩
  · have hfd : decide ((l.length : Int) ≤ 14) = false := by simpa using hf
    go_wp2
    go_ret
    exact ⟨rfl, (by repeat (first | assumption | exact Below.refl _ _ | refine Below.drew ?_ | (refine below_alloc _ ?_ ?_; focus (first | omega | (simp; done) | (simp; omega) | (simp at *; omega))) | (refine below_set _ ?_ ?_; focus (first | omega | (simp; done) | (simp; omega) | (simp at *; omega))) | refine below_drewN ?_ _ | (refine below_call (by assumption) ?_ ?_; focus (first | omega | (simp; done) | (simp; omega) | (simp at *; omega))) | (refine below_call' (by assumption) ?_ ?_; focus (first | omega | (simp; done) | (simp; omega) | (simp at *; omega)))))⟩
end Go.Proofs.Ytoegpaolbkcleaa
