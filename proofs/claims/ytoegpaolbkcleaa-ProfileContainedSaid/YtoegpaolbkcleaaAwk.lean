/-
  The examples that each statement of the chapter checks first.
-/
import Derived.Test.YtoegpaolbkcleaaFit
namespace Go.Proofs.Ytoegpaolbkcleaa
open Go.ChangeShapes Go.WideShapes Go.ChangeAt Go.RowKit
set_option linter.unusedVariables false
set_option linter.unusedSimpArgs false

theorem sky_lo : vatLo 100 skyL 500 = 125 := by kernel_rfl
theorem sky_hi : vatHi 100 skyL 500 = 125 := by kernel_rfl
theorem sky_e : reflAtE 100 skyL 500 = 0 := by kernel_rfl
theorem sky_c : contI 100 skyL = 4300000 := by kernel_rfl
theorem sky_chk : chkE 100 skyL = 0 := by kernel_rfl
theorem trace_out : lamdOut traceL 0 0 = [⟨18, 22⟩] := by kernel_rfl
theorem trace_e : lamdE traceL 0 0 = 0 := by kernel_rfl
theorem trace_fit : fit traceL 0 0 = ⟨99, [⟨90000, 20⟩, ⟨250000, 1⟩], 0, 0⟩ := by kernel_rfl

set_option maxHeartbeats 1000000 in
theorem awake_any (w : World) : Calls Try.prog 14 #[] w fun e w' => e = .returned (.bool true) ∧ Below w.heap.size w w' := by
  go_enter Try.func14, Try.ntmps14
  go_wp2_with (fail)
  refine (Sky_any _).mono ?_
  rintro e w1 ⟨A1, rfl, hA1, hb1⟩
  go_wp2_with (fail)
  refine (VirtualAt_any 100 A1 skyL 2 500 _ (by decide) (by decide) (hA1.below (by repeat (first | assumption | exact Below.refl _ _ | refine Below.drew ?_ | (refine below_alloc _ ?_ ?_; focus (first | omega | (simp; done) | (simp; omega) | (simp at *; omega))) | (refine below_set _ ?_ ?_; focus (first | omega | (simp; done) | (simp; omega) | (simp at *; omega))) | refine below_drewN ?_ _ | (refine below_call (by assumption) ?_ ?_; focus (first | omega | (simp; done) | (simp; omega) | (simp at *; omega))) | (refine below_call' (by assumption) ?_ ?_; focus (first | omega | (simp; done) | (simp; omega) | (simp at *; omega))))))).mono ?_
  rintro e w2 ⟨rfl, hb2⟩
  rw [sky_lo, sky_hi, sky_e]
  have hbw2 : Below w.heap.size w w2 := (by repeat (first | assumption | exact Below.refl _ _ | refine Below.drew ?_ | (refine below_alloc _ ?_ ?_; focus (first | omega | (simp; done) | (simp; omega) | (simp at *; omega))) | (refine below_set _ ?_ ?_; focus (first | omega | (simp; done) | (simp; omega) | (simp at *; omega))) | refine below_drewN ?_ _ | (refine below_call (by assumption) ?_ ?_; focus (first | omega | (simp; done) | (simp; omega) | (simp at *; omega))) | (refine below_call' (by assumption) ?_ ?_; focus (first | omega | (simp; done) | (simp; omega) | (simp at *; omega)))))
  clear hb1 hb2 hA1
  go_wp2_with (fail)
  refine (Trace_any _).mono ?_
  rintro e w3 ⟨A3, rfl, hA3, hb3⟩
  have hb3' := hb3.size
  simp at hb3'
  have hz3 : w2.heap.size < w3.heap.size := by omega
  have c0 : w3.cell? ⟨w2.heap.size, 0, none⟩ = some (.int .i64 125) := cell_below' hb3 (by repeat (first | assumption | (refine cell_new ?_ rfl; focus (simp; done)) | refine cell_drew ?_ | refine cell_alloc _ ?_ | refine cell_drewN _ ?_ | (refine cell_far ?_ ?_; focus (first | omega | (simp; omega) | (simp; done))) | refine cell_below' (by assumption) ?_))
  have c1 : w3.cell? ⟨w2.heap.size, 1, none⟩ = some (.int .i64 125) := cell_below' hb3 (by repeat (first | assumption | (refine cell_new ?_ rfl; focus (simp; done)) | refine cell_drew ?_ | refine cell_alloc _ ?_ | refine cell_drewN _ ?_ | (refine cell_far ?_ ?_; focus (first | omega | (simp; omega) | (simp; done))) | refine cell_below' (by assumption) ?_))
  have hbw3 : Below w.heap.size w w3 := (by repeat (first | assumption | exact Below.refl _ _ | refine Below.drew ?_ | (refine below_alloc _ ?_ ?_; focus (first | omega | (simp; done) | (simp; omega) | (simp at *; omega))) | (refine below_set _ ?_ ?_; focus (first | omega | (simp; done) | (simp; omega) | (simp at *; omega))) | refine below_drewN ?_ _ | (refine below_call (by assumption) ?_ ?_; focus (first | omega | (simp; done) | (simp; omega) | (simp at *; omega))) | (refine below_call' (by assumption) ?_ ?_; focus (first | omega | (simp; done) | (simp; omega) | (simp at *; omega)))))
  clear hb3 hbw2
  go_wp2_with (fail)
  refine (Laminated_any A3 traceL 2 0 0 _ (by decide) (by decide) (hA3.below (by repeat (first | assumption | exact Below.refl _ _ | refine Below.drew ?_ | (refine below_alloc _ ?_ ?_; focus (first | omega | (simp; done) | (simp; omega) | (simp at *; omega))) | (refine below_set _ ?_ ?_; focus (first | omega | (simp; done) | (simp; omega) | (simp at *; omega))) | refine below_drewN ?_ _ | (refine below_call (by assumption) ?_ ?_; focus (first | omega | (simp; done) | (simp; omega) | (simp at *; omega))) | (refine below_call' (by assumption) ?_ ?_; focus (first | omega | (simp; done) | (simp; omega) | (simp at *; omega))))))).mono ?_
  rintro e w4 ⟨A4, c4, rfl, own4, hb4⟩
  rw [trace_out, trace_e] at *
  have hR4 : RngsAt w4 A4 [⟨18, 22⟩] := rowsAt_of_own own4 rfl (by decide)
  replace c0 := cell_below' hb4 c0
  replace c1 := cell_below' hb4 c1
  have hbw4 : Below w.heap.size w w4 := (by repeat (first | assumption | exact Below.refl _ _ | refine Below.drew ?_ | (refine below_alloc _ ?_ ?_; focus (first | omega | (simp; done) | (simp; omega) | (simp at *; omega))) | (refine below_set _ ?_ ?_; focus (first | omega | (simp; done) | (simp; omega) | (simp at *; omega))) | refine below_drewN ?_ _ | (refine below_call (by assumption) ?_ ?_; focus (first | omega | (simp; done) | (simp; omega) | (simp at *; omega))) | (refine below_call' (by assumption) ?_ ?_; focus (first | omega | (simp; done) | (simp; omega) | (simp at *; omega)))))
  have hz4 : w2.heap.size < w4.heap.size := by have := hb4.size; omega
  clear own4 hb4 hbw3 hA3
  go_wp2_with (fail)
  refine (Trace_any _).mono ?_
  rintro e w5 ⟨A5, rfl, hA5, hb5⟩
  replace c0 := cell_below' hb5 c0
  replace c1 := cell_below' hb5 c1
  replace hR4 := hR4.below hb5
  have hbw5 : Below w.heap.size w w5 := (by repeat (first | assumption | exact Below.refl _ _ | refine Below.drew ?_ | (refine below_alloc _ ?_ ?_; focus (first | omega | (simp; done) | (simp; omega) | (simp at *; omega))) | (refine below_set _ ?_ ?_; focus (first | omega | (simp; done) | (simp; omega) | (simp at *; omega))) | refine below_drewN ?_ _ | (refine below_call (by assumption) ?_ ?_; focus (first | omega | (simp; done) | (simp; omega) | (simp at *; omega))) | (refine below_call' (by assumption) ?_ ?_; focus (first | omega | (simp; done) | (simp; omega) | (simp at *; omega)))))
  have hz5 : w2.heap.size < w5.heap.size := by have := hb5.size; omega
  clear hb5 hbw4
  go_wp2_with (fail)
  refine (Fitted_any A5 traceL 2 0 0 _ (by decide) (by decide) (hA5.below (by repeat (first | assumption | exact Below.refl _ _ | refine Below.drew ?_ | (refine below_alloc _ ?_ ?_; focus (first | omega | (simp; done) | (simp; omega) | (simp at *; omega))) | (refine below_set _ ?_ ?_; focus (first | omega | (simp; done) | (simp; omega) | (simp at *; omega))) | refine below_drewN ?_ _ | (refine below_call (by assumption) ?_ ?_; focus (first | omega | (simp; done) | (simp; omega) | (simp at *; omega))) | (refine below_call' (by assumption) ?_ ?_; focus (first | omega | (simp; done) | (simp; omega) | (simp at *; omega))))))).mono ?_
  rintro e w6 ⟨A6, c6, rfl, own6, hb6⟩
  rw [trace_fit] at *
  have hR6 : SlabsAt w6 A6 [⟨90000, 20⟩, ⟨250000, 1⟩] := rowsAt_of_own own6 rfl (by decide)
  replace c0 := cell_below' hb6 c0
  replace c1 := cell_below' hb6 c1
  replace hR4 := hR4.below hb6
  have hbw6 : Below w.heap.size w w6 := (by repeat (first | assumption | exact Below.refl _ _ | refine Below.drew ?_ | (refine below_alloc _ ?_ ?_; focus (first | omega | (simp; done) | (simp; omega) | (simp at *; omega))) | (refine below_set _ ?_ ?_; focus (first | omega | (simp; done) | (simp; omega) | (simp at *; omega))) | refine below_drewN ?_ _ | (refine below_call (by assumption) ?_ ?_; focus (first | omega | (simp; done) | (simp; omega) | (simp at *; omega))) | (refine below_call' (by assumption) ?_ ?_; focus (first | omega | (simp; done) | (simp; omega) | (simp at *; omega)))))
  have hz6 : w2.heap.size < w6.heap.size := by have := hb6.size; omega
  clear own6 hb6 hbw5 hA5
  go_wp2_with (fail)
  refine (Sky_any _).mono ?_
  rintro e w7 ⟨A7, rfl, hA7, hb7⟩
  have hb7' := hb7.size
  simp at hb7'
  have d0 : w7.cell? ⟨w6.heap.size, 0, none⟩ = some (.int .i64 99) := cell_below' hb7 (by repeat (first | assumption | (refine cell_new ?_ rfl; focus (simp; done)) | refine cell_drew ?_ | refine cell_alloc _ ?_ | refine cell_drewN _ ?_ | (refine cell_far ?_ ?_; focus (first | omega | (simp; omega) | (simp; done))) | refine cell_below' (by assumption) ?_))
  have d1 : w7.cell? ⟨w6.heap.size, 1, none⟩ = some (.slice A6 2 c6) := cell_below' hb7 (by repeat (first | assumption | (refine cell_new ?_ rfl; focus (simp; done)) | refine cell_drew ?_ | refine cell_alloc _ ?_ | refine cell_drewN _ ?_ | (refine cell_far ?_ ?_; focus (first | omega | (simp; omega) | (simp; done))) | refine cell_below' (by assumption) ?_))
  replace c0 := cell_below' hb7 (cell_alloc _ c0)
  replace c1 := cell_below' hb7 (cell_alloc _ c1)
  replace hR4 := (RowsAt.below hR4 (below_alloc _ (Nat.le_refl _) (Below.refl _ _))).below hb7
  replace hR6 := (RowsAt.below hR6 (below_alloc _ (Nat.le_refl _) (Below.refl _ _))).below hb7
  have hbw7 : Below w.heap.size w w7 := (by repeat (first | assumption | exact Below.refl _ _ | refine Below.drew ?_ | (refine below_alloc _ ?_ ?_; focus (first | omega | (simp; done) | (simp; omega) | (simp at *; omega))) | (refine below_set _ ?_ ?_; focus (first | omega | (simp; done) | (simp; omega) | (simp at *; omega))) | refine below_drewN ?_ _ | (refine below_call (by assumption) ?_ ?_; focus (first | omega | (simp; done) | (simp; omega) | (simp at *; omega))) | (refine below_call' (by assumption) ?_ ?_; focus (first | omega | (simp; done) | (simp; omega) | (simp at *; omega)))))
  have hz7 : w2.heap.size < w7.heap.size := by omega
  have hz8 : w6.heap.size < w7.heap.size := by omega
  clear hb7 hbw6
  go_wp2_with (fail)
  refine (ContentOf_any 100 A7 skyL 2 _ (by decide) hA7).mono ?_
  rintro e w8 ⟨rfl, hb8⟩
  rw [sky_c, sky_chk]
  replace c0 := cell_below' hb8 c0
  replace c1 := cell_below' hb8 c1
  replace d0 := cell_below' hb8 d0
  replace d1 := cell_below' hb8 d1
  replace hR4 := hR4.below hb8
  replace hR6 := hR6.below hb8
  have hbw8 : Below w.heap.size w w8 := (by repeat (first | assumption | exact Below.refl _ _ | refine Below.drew ?_ | (refine below_alloc _ ?_ ?_; focus (first | omega | (simp; done) | (simp; omega) | (simp at *; omega))) | (refine below_set _ ?_ ?_; focus (first | omega | (simp; done) | (simp; omega) | (simp at *; omega))) | refine below_drewN ?_ _ | (refine below_call (by assumption) ?_ ?_; focus (first | omega | (simp; done) | (simp; omega) | (simp at *; omega))) | (refine below_call' (by assumption) ?_ ?_; focus (first | omega | (simp; done) | (simp; omega) | (simp at *; omega)))))
  have hs8 := hb8.size
  have hz9 : w2.heap.size < w8.heap.size := by omega
  have hz10 : w6.heap.size < w8.heap.size := by omega
  clear hb8 hbw7 hA7
  obtain ⟨b6, o6, rfl, hb6, x0, x1⟩ := SlabsAt.at_ hR6 (show 0 < _ by decide)
  simp only [List.getElem_cons_zero, Nat.zero_mul, Nat.add_zero] at x0 x1
  go_wp2_with (fail)
  refine (Ranges_any A4 _ [⟨18, 22⟩] [⟨18, 22⟩] c4 1 _ (by decide) (by decide) (hR4.below (by repeat (first | assumption | exact Below.refl _ _ | refine Below.drew ?_ | (refine below_alloc _ ?_ ?_; focus (first | omega | (simp; done) | (simp; omega) | (simp at *; omega))) | (refine below_set _ ?_ ?_; focus (first | omega | (simp; done) | (simp; omega) | (simp at *; omega))) | refine below_drewN ?_ _ | (refine below_call (by assumption) ?_ ?_; focus (first | omega | (simp; done) | (simp; omega) | (simp at *; omega))) | (refine below_call' (by assumption) ?_ ?_; focus (first | omega | (simp; done) | (simp; omega) | (simp at *; omega)))))) (rows_blk (heap_alloc_new _ _) rfl)).mono ?_
  rintro e w9 ⟨rfl, hb9⟩
  replace d0 := cell_below' hb9 (cell_alloc _ d0)
  replace d1 := cell_below' hb9 (cell_alloc _ d1)
  replace x0 := cell_below' hb9 (cell_alloc _ x0)
  replace x1 := cell_below' hb9 (cell_alloc _ x1)
  rw [show decide (([⟨18, 22⟩] : List Rng) = [⟨18, 22⟩]) = true from decide_eq_true rfl]
  have hbw9 : Below w.heap.size w w9 := (by repeat (first | assumption | exact Below.refl _ _ | refine Below.drew ?_ | (refine below_alloc _ ?_ ?_; focus (first | omega | (simp; done) | (simp; omega) | (simp at *; omega))) | (refine below_set _ ?_ ?_; focus (first | omega | (simp; done) | (simp; omega) | (simp at *; omega))) | refine below_drewN ?_ _ | (refine below_call (by assumption) ?_ ?_; focus (first | omega | (simp; done) | (simp; omega) | (simp at *; omega))) | (refine below_call' (by assumption) ?_ ?_; focus (first | omega | (simp; done) | (simp; omega) | (simp at *; omega)))))
  clear hb9 hbw8 c0 c1
  go_wp2
  go_ret
  exact ⟨rfl, (by repeat (first | assumption | exact Below.refl _ _ | refine Below.drew ?_ | (refine below_alloc _ ?_ ?_; focus (first | omega | (simp; done) | (simp; omega) | (simp at *; omega))) | (refine below_set _ ?_ ?_; focus (first | omega | (simp; done) | (simp; omega) | (simp at *; omega))) | refine below_drewN ?_ _ | (refine below_call (by assumption) ?_ ?_; focus (first | omega | (simp; done) | (simp; omega) | (simp at *; omega))) | (refine below_call' (by assumption) ?_ ?_; focus (first | omega | (simp; done) | (simp; omega) | (simp at *; omega)))))⟩
end Go.Proofs.Ytoegpaolbkcleaa
