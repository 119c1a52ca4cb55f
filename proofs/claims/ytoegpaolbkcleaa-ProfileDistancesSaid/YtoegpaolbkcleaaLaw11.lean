/-
  The walk of ProfileDistances.
-/
import Derived.Test.YtoegpaolbkcleaaDst
import Derived.Test.YtoegpaolbkcleaaAwk
import Derived.Deep.RegionHeld3
namespace Go.Proofs.Ytoegpaolbkcleaa
open Go.ChangeShapes Go.WideShapes Go.ChangeAt Go.RowKit
set_option linter.unusedVariables false
set_option linter.unusedSimpArgs false

theorem firstE_zero (y : Int) : firstE [0, y] = y := by
  unfold firstE; rw [if_pos rfl]; unfold firstE
  by_cases k : y = 0
  · rw [if_pos k, k]; rfl
  · rw [if_neg k]
set_option maxRecDepth 100000 in
set_option maxHeartbeats 2000000 in
theorem ProfileDistances_any (b1 : Int) (A : Option Addr) (l : List Slb) (c1 : Nat) (b2 : Int) (B : Option Addr) (r : List Slb) (c2 : Nat) (w : World) (hcap : l.length ≤ c1) (hcap2 : r.length ≤ c2) (hA : SlabsAt w A l) (hB : SlabsAt w B r) :
    Calls Try.prog 11 #[.agg #[.int .i64 b1, .slice A l.length c1], .agg #[.int .i64 b2, .slice B r.length c2]] w fun e w' => e = .returned (.bool true) ∧ Below w.heap.size w w' := by
  go_enter Try.func11, Try.ntmps11
  go_wp2_with (fail)
  refine (awake_any _).mono ?_
  rintro e w1 ⟨rfl, hb1⟩
  have hz0 : w.heap.size < w1.heap.size := by have := hb1.size; simp at this; omega
  have hz1 : w.heap.size + 1 < w1.heap.size := by have := hb1.size; simp at this; omega
  have a0 : w1.cell? ⟨w.heap.size, 0, none⟩ = some (.int .i64 b1) := cell_below' hb1 (by repeat (first | assumption | (refine cell_new ?_ rfl; focus (simp; done)) | refine cell_drew ?_ | refine cell_alloc _ ?_ | refine cell_drewN _ ?_ | (refine cell_far ?_ ?_; focus (first | omega | (simp; omega) | (simp; done))) | refine cell_below' (by assumption) ?_))
  have a1 : w1.cell? ⟨w.heap.size, 1, none⟩ = some (.slice A l.length c1) := cell_below' hb1 (by repeat (first | assumption | (refine cell_new ?_ rfl; focus (simp; done)) | refine cell_drew ?_ | refine cell_alloc _ ?_ | refine cell_drewN _ ?_ | (refine cell_far ?_ ?_; focus (first | omega | (simp; omega) | (simp; done))) | refine cell_below' (by assumption) ?_))
  have p0 : w1.cell? ⟨w.heap.size + 1, 0, none⟩ = some (.int .i64 b2) := cell_below' hb1 (by repeat (first | assumption | (refine cell_new ?_ rfl; focus (simp; done)) | refine cell_drew ?_ | refine cell_alloc _ ?_ | refine cell_drewN _ ?_ | (refine cell_far ?_ ?_; focus (first | omega | (simp; omega) | (simp; done))) | refine cell_below' (by assumption) ?_))
  have p1 : w1.cell? ⟨w.heap.size + 1, 1, none⟩ = some (.slice B r.length c2) := cell_below' hb1 (by repeat (first | assumption | (refine cell_new ?_ rfl; focus (simp; done)) | refine cell_drew ?_ | refine cell_alloc _ ?_ | refine cell_drewN _ ?_ | (refine cell_far ?_ ?_; focus (first | omega | (simp; omega) | (simp; done))) | refine cell_below' (by assumption) ?_))
  have hbw1 : Below w.heap.size w w1 := (by repeat (first | assumption | exact Below.refl _ _ | refine Below.drew ?_ | (refine below_alloc _ ?_ ?_; focus (first | omega | (simp; done) | (simp; omega) | (simp at *; omega))) | (refine below_set _ ?_ ?_; focus (first | omega | (simp; done) | (simp; omega) | (simp at *; omega))) | refine below_drewN ?_ _ | (refine below_call (by assumption) ?_ ?_; focus (first | omega | (simp; done) | (simp; omega) | (simp at *; omega))) | (refine below_call' (by assumption) ?_ ?_; focus (first | omega | (simp; done) | (simp; omega) | (simp at *; omega)))))
  clear hb1
  go_wp2_with (fail)
  refine (Few_any b1 A l.length c1 _).mono ?_
  rintro e w2 ⟨rfl, hb2⟩
  (have hz2 : w.heap.size < w2.heap.size := (by have := hb2.size; omega); have hzz2 : w.heap.size + 1 < w2.heap.size := (by have := hb2.size; omega); replace a0 := cell_below' hb2 a0; replace a1 := cell_below' hb2 a1; replace p0 := cell_below' hb2 p0; replace p1 := cell_below' hb2 p1; have hbw2 : Below w.heap.size w w2 := (by repeat (first | assumption | exact Below.refl _ _ | refine Below.drew ?_ | (refine below_alloc _ ?_ ?_; focus (first | omega | (simp; done) | (simp; omega) | (simp at *; omega))) | (refine below_set _ ?_ ?_; focus (first | omega | (simp; done) | (simp; omega) | (simp at *; omega))) | refine below_drewN ?_ _ | (refine below_call (by assumption) ?_ ?_; focus (first | omega | (simp; done) | (simp; omega) | (simp at *; omega))) | (refine below_call' (by assumption) ?_ ?_; focus (first | omega | (simp; done) | (simp; omega) | (simp at *; omega))))); clear hb2 hbw1)
  by_cases hf : (l.length : Int) ≤ 14
  · have hl : l.length ≤ 100 := by omega
    go_wp2_with (fail)
    refine (Few_any b2 B r.length c2 _).mono ?_
    rintro e w3 ⟨rfl, hb3⟩
    (have hz3 : w.heap.size < w3.heap.size := (by have := hb3.size; omega); have hzz3 : w.heap.size + 1 < w3.heap.size := (by have := hb3.size; omega); replace a0 := cell_below' hb3 a0; replace a1 := cell_below' hb3 a1; replace p0 := cell_below' hb3 p0; replace p1 := cell_below' hb3 p1; have hbw3 : Below w.heap.size w w3 := (by repeat (first | assumption | exact Below.refl _ _ | refine Below.drew ?_ | (refine below_alloc _ ?_ ?_; focus (first | omega | (simp; done) | (simp; omega) | (simp at *; omega))) | (refine below_set _ ?_ ?_; focus (first | omega | (simp; done) | (simp; omega) | (simp at *; omega))) | refine below_drewN ?_ _ | (refine below_call (by assumption) ?_ ?_; focus (first | omega | (simp; done) | (simp; omega) | (simp at *; omega))) | (refine below_call' (by assumption) ?_ ?_; focus (first | omega | (simp; done) | (simp; omega) | (simp at *; omega))))); clear hb3 hbw2)
    by_cases hg : (r.length : Int) ≤ 14
    · have hr : r.length ≤ 100 := by omega
      have hA3 := hA.below hbw3
      have hB3 := hB.below hbw3
      have hC1 := fun W hW => Copy_any b1 A l c1 W hl hW
      have hC2 := fun W hW => Copy_any b2 B r c2 W hr hW
      have HC1 := Lib.hid hC1
      have HC2 := Lib.hid hC2
      clear hC1 hC2
      go_wp2_with (fail)
      go_region_held3 (fun w' => w'.cell? ⟨w.heap.size, 0, none⟩ = some (.int .i64 b1) ∧ w'.cell? ⟨w.heap.size, 1, none⟩ = some (.slice A l.length c1) ∧ w'.cell? ⟨w.heap.size + 1, 0, none⟩ = some (.int .i64 b2) ∧ w'.cell? ⟨w.heap.size + 1, 1, none⟩ = some (.slice B r.length c2))
        ((((try go_split_ands); (repeat' (apply And.intro)) <;> (repeat (first | (with_reducible assumption) | (with_reducible refine cell_drew ?_) | (with_reducible refine cell_alloc _ ?_) | (with_reducible refine cell_below' (by with_reducible assumption) ?_) | (with_reducible refine cell_far ?_ ?_; focus (first | omega | (simp; omega) | (simp; done))))))))
        (first
          | (go_at_call 17; (with_reducible refine (HC1.out _ ?_).mono ?_); (focus (exact hA3.below (by repeat (first | assumption | exact Below.refl _ _ | refine Below.drew ?_ | (refine below_alloc _ ?_ ?_; focus (first | omega | (simp; done) | (simp; omega) | (simp at *; omega))) | (refine below_set _ ?_ ?_; focus (first | omega | (simp; done) | (simp; omega) | (simp at *; omega))) | refine below_drewN ?_ _ | (refine below_call (by assumption) ?_ ?_; focus (first | omega | (simp; done) | (simp; omega) | (simp at *; omega))) | (refine below_call' (by assumption) ?_ ?_; focus (first | omega | (simp; done) | (simp; omega) | (simp at *; omega))))))); rintro e w4 ⟨A4, c4, rfl, own4, hb4⟩)
          | (go_at_call 17; (with_reducible refine (HC2.out _ ?_).mono ?_); (focus (exact hB3.below (by repeat (first | assumption | exact Below.refl _ _ | refine Below.drew ?_ | (refine below_alloc _ ?_ ?_; focus (first | omega | (simp; done) | (simp; omega) | (simp at *; omega))) | (refine below_set _ ?_ ?_; focus (first | omega | (simp; done) | (simp; omega) | (simp at *; omega))) | refine below_drewN ?_ _ | (refine below_call (by assumption) ?_ ?_; focus (first | omega | (simp; done) | (simp; omega) | (simp at *; omega))) | (refine below_call' (by assumption) ?_ ?_; focus (first | omega | (simp; done) | (simp; omega) | (simp at *; omega))))))); rintro e w5 ⟨A5, c5, rfl, own5, hb5⟩)
          | (go_at_call 56; refine (DistanceOf_any b1 A4 l c4 b2 A5 r c5 _ hl hr (RowsAt.below (rowsAt_of_own own4 rfl (by decide)) (by repeat (first | assumption | exact Below.refl _ _ | refine Below.drew ?_ | (refine below_alloc _ ?_ ?_; focus (first | omega | (simp; done) | (simp; omega) | (simp at *; omega))) | (refine below_set _ ?_ ?_; focus (first | omega | (simp; done) | (simp; omega) | (simp at *; omega))) | refine below_drewN ?_ _ | (refine below_call (by assumption) ?_ ?_; focus (first | omega | (simp; done) | (simp; omega) | (simp at *; omega))) | (refine below_call' (by assumption) ?_ ?_; focus (first | omega | (simp; done) | (simp; omega) | (simp at *; omega)))))) (rowsAt_of_own own5 rfl (by decide))).mono ?_; rintro e w6 ⟨rfl, hb6⟩))
      replace a0 := cell_below' hb6 (cell_below' hb5 (cell_below' hb4 (cell_drew a0)))
      replace a1 := cell_below' hb6 (cell_below' hb5 (cell_below' hb4 (cell_drew a1)))
      replace p0 := cell_below' hb6 (cell_below' hb5 (cell_below' hb4 (cell_drew p0)))
      replace p1 := cell_below' hb6 (cell_below' hb5 (cell_below' hb4 (cell_drew p1)))
      have hz6 : w.heap.size < w6.heap.size := by have := hb4.size; have := hb5.size; have := hb6.size; simp at *; omega
      have hz7 : w.heap.size + 1 < w6.heap.size := by have := hb4.size; have := hb5.size; have := hb6.size; simp at *; omega
      have hbw6 : Below w.heap.size w w6 := (by repeat (first | assumption | exact Below.refl _ _ | refine Below.drew ?_ | (refine below_alloc _ ?_ ?_; focus (first | omega | (simp; done) | (simp; omega) | (simp at *; omega))) | (refine below_set _ ?_ ?_; focus (first | omega | (simp; done) | (simp; omega) | (simp at *; omega))) | refine below_drewN ?_ _ | (refine below_call (by assumption) ?_ ?_; focus (first | omega | (simp; done) | (simp; omega) | (simp at *; omega))) | (refine below_call' (by assumption) ?_ ?_; focus (first | omega | (simp; done) | (simp; omega) | (simp at *; omega)))))
      have hA6 := hA.below hbw6
      have hB6 := hB.below hbw6
      clear hb4 hb5 hb6 own4 own5 hA3 hB3 hbw3 HC1 HC2
      go_wp2_with (fail)
      refine (ProfileErr_any b1 A l c1 _ hl hA6).mono ?_
      rintro e w7 ⟨rfl, hb7⟩
      have hA7 := RowsAt.below hA6 hb7
      have hB7 := RowsAt.below hB6 hb7
      (have hz7 : w.heap.size < w7.heap.size := (by have := hb7.size; omega); have hzz7 : w.heap.size + 1 < w7.heap.size := (by have := hb7.size; omega); replace a0 := cell_below' hb7 a0; replace a1 := cell_below' hb7 a1; replace p0 := cell_below' hb7 p0; replace p1 := cell_below' hb7 p1; have hbw7 : Below w.heap.size w w7 := (by repeat (first | assumption | exact Below.refl _ _ | refine Below.drew ?_ | (refine below_alloc _ ?_ ?_; focus (first | omega | (simp; done) | (simp; omega) | (simp at *; omega))) | (refine below_set _ ?_ ?_; focus (first | omega | (simp; done) | (simp; omega) | (simp at *; omega))) | refine below_drewN ?_ _ | (refine below_call (by assumption) ?_ ?_; focus (first | omega | (simp; done) | (simp; omega) | (simp at *; omega))) | (refine below_call' (by assumption) ?_ ?_; focus (first | omega | (simp; done) | (simp; omega) | (simp at *; omega))))); clear hb7 hbw6)
      have e1 : dstE b1 l b2 r = firstE [chkE b1 l, chkE b2 r] := rfl
      have e2 : dstV b1 l b2 r = if dstE b1 l b2 r = 0 then sumD b1 l b2 r (dstN b1 l b2 r) else 0 := rfl
      by_cases h0 : chkE b1 l = 0
      · have x1 : dstE b1 l b2 r = chkE b2 r := by rw [e1, h0, firstE_zero]
        have HO1 := Lib.hid (ok_of_chk h0)
        rw [x1] at e2
        rw [x1, h0]
        have E2 := Lib.hid e2
        clear h0 e1 x1 e2
        go_wp2_with (fail)
        refine (ProfileErr_any b2 B r c2 _ hr hB7).mono ?_
        rintro e w8 ⟨rfl, hb8⟩
        have hA8 := RowsAt.below hA7 hb8
        have hB8 := RowsAt.below hB7 hb8
        (have hz8 : w.heap.size < w8.heap.size := (by have := hb8.size; omega); have hzz8 : w.heap.size + 1 < w8.heap.size := (by have := hb8.size; omega); replace a0 := cell_below' hb8 a0; replace a1 := cell_below' hb8 a1; replace p0 := cell_below' hb8 p0; replace p1 := cell_below' hb8 p1; have hbw8 : Below w.heap.size w w8 := (by repeat (first | assumption | exact Below.refl _ _ | refine Below.drew ?_ | (refine below_alloc _ ?_ ?_; focus (first | omega | (simp; done) | (simp; omega) | (simp at *; omega))) | (refine below_set _ ?_ ?_; focus (first | omega | (simp; done) | (simp; omega) | (simp at *; omega))) | refine below_drewN ?_ _ | (refine below_call (by assumption) ?_ ?_; focus (first | omega | (simp; done) | (simp; omega) | (simp at *; omega))) | (refine below_call' (by assumption) ?_ ?_; focus (first | omega | (simp; done) | (simp; omega) | (simp at *; omega))))); clear hb8 hbw7)
        by_cases h1 : chkE b2 r = 0
        · have HO2 := Lib.hid (ok_of_chk h1)
          have e2 := E2.out
          rw [if_pos h1] at e2
          rw [e2, h1]
          clear h1 e2 E2
          go_wp2_with (fail)
          refine (RDistance_any b1 A l c1 b2 B r c2 _ HO1.out HO2.out hA8 hB8).mono ?_
          rintro e w9 ⟨rfl, hb9⟩
          go_wp2
          go_ret
          exact ⟨rfl, (by repeat (first | assumption | exact Below.refl _ _ | refine Below.drew ?_ | (refine below_alloc _ ?_ ?_; focus (first | omega | (simp; done) | (simp; omega) | (simp at *; omega))) | (refine below_set _ ?_ ?_; focus (first | omega | (simp; done) | (simp; omega) | (simp at *; omega))) | refine below_drewN ?_ _ | (refine below_call (by assumption) ?_ ?_; focus (first | omega | (simp; done) | (simp; omega) | (simp at *; omega))) | (refine below_call' (by assumption) ?_ ?_; focus (first | omega | (simp; done) | (simp; omega) | (simp at *; omega)))))⟩
        · have e2 := E2.out
          rw [if_neg h1] at e2
          rw [e2]
          have h0' : (chkE b2 r == 0) = false := by simpa using h1
          have h0'' : (chkE b2 r != 0) = true := by simpa using h1
          clear h1 e2 E2
          go_wp2
          go_ret
          exact ⟨rfl, (by repeat (first | assumption | exact Below.refl _ _ | refine Below.drew ?_ | (refine below_alloc _ ?_ ?_; focus (first | omega | (simp; done) | (simp; omega) | (simp at *; omega))) | (refine below_set _ ?_ ?_; focus (first | omega | (simp; done) | (simp; omega) | (simp at *; omega))) | refine below_drewN ?_ _ | (refine below_call (by assumption) ?_ ?_; focus (first | omega | (simp; done) | (simp; omega) | (simp at *; omega))) | (refine below_call' (by assumption) ?_ ?_; focus (first | omega | (simp; done) | (simp; omega) | (simp at *; omega)))))⟩
      · have x1 : dstE b1 l b2 r = chkE b1 l := by rw [e1]; unfold firstE; rw [if_neg h0]
        rw [x1, if_neg h0] at e2
        rw [x1, e2]
        have h0' : (chkE b1 l == 0) = false := by simpa using h0
        have h0'' : (chkE b1 l != 0) = true := by simpa using h0
        clear h0 e1 e2 x1
        go_wp2
        go_ret
        exact ⟨rfl, (by repeat (first | assumption | exact Below.refl _ _ | refine Below.drew ?_ | (refine below_alloc _ ?_ ?_; focus (first | omega | (simp; done) | (simp; omega) | (simp at *; omega))) | (refine below_set _ ?_ ?_; focus (first | omega | (simp; done) | (simp; omega) | (simp at *; omega))) | refine below_drewN ?_ _ | (refine below_call (by assumption) ?_ ?_; focus (first | omega | (simp; done) | (simp; omega) | (simp at *; omega))) | (refine below_call' (by assumption) ?_ ?_; focus (first | omega | (simp; done) | (simp; omega) | (simp at *; omega)))))⟩
    · have hgd : decide ((r.length : Int) ≤ 14) = false := by simpa using hg
      go_wp2
      go_ret
      exact ⟨rfl, (by repeat (first | assumption | exact Below.refl _ _ | refine Below.drew ?_ | (refine below_alloc _ ?_ ?_; focus (first | omega | (simp; done) | (simp; omega) | (simp at *; omega))) | (refine below_set _ ?_ ?_; focus (first | omega | (simp; done) | (simp; omega) | (simp at *; omega))) | refine below_drewN ?_ _ | (refine below_call (by assumption) ?_ ?_; focus (first | omega | (simp; done) | (simp; omega) | (simp at *; omega))) | (refine below_call' (by assumption) ?_ ?_; focus (first | omega | (simp; done) | (simp; omega) | (simp at *; omega)))))⟩
  · have hfd : decide ((l.length : Int) ≤ 14) = false := by simpa using hf
    go_wp2
    go_ret
    exact ⟨rfl, (by repeat (first | assumption | exact Below.refl _ _ | refine Below.drew ?_ | (refine below_alloc _ ?_ ?_; focus (first | omega | (simp; done) | (simp; omega) | (simp at *; omega))) | (refine below_set _ ?_ ?_; focus (first | omega | (simp; done) | (simp; omega) | (simp at *; omega))) | refine below_drewN ?_ _ | (refine below_call (by assumption) ?_ ?_; focus (first | omega | (simp; done) | (simp; omega) | (simp at *; omega))) | (refine below_call' (by assumption) ?_ ?_; focus (first | omega | (simp; done) | (simp; omega) | (simp at *; omega)))))⟩
end Go.Proofs.Ytoegpaolbkcleaa
