/-
  The walk of ProfileMetric.
-/
import Derived.Test.YtoegpaolbkcleaaMtr
import Derived.Test.YtoegpaolbkcleaaAwk
import Derived.Deep.RegionHeld3
namespace Go.Proofs.Ytoegpaolbkcleaa
open Go.ChangeShapes Go.WideShapes Go.ChangeAt Go.RowKit
set_option linter.unusedVariables false
set_option linter.unusedSimpArgs false

set_option maxRecDepth 100000 in
set_option maxHeartbeats 4000000 in
theorem ProfileMetric_any (b1 : Int) (A : Option Addr) (l : List Slb) (c1 : Nat) (b2 : Int) (B : Option Addr) (r : List Slb) (c2 : Nat) (b3 : Int) (C : Option Addr) (s : List Slb) (c3 : Nat) (w : World) (hA : SlabsAt w A l) (hB : SlabsAt w B r) (hC : SlabsAt w C s) :
    Calls Try.prog 12 #[.agg #[.int .i64 b1, .slice A l.length c1], .agg #[.int .i64 b2, .slice B r.length c2], .agg #[.int .i64 b3, .slice C s.length c3]] w fun e w' => e = .returned (.bool true) ∧ Below w.heap.size w w' := by
  go_enter Try.func12, Try.ntmps12
  go_wp2_with (fail)
  refine (awake_any _).mono ?_
  rintro e w1 ⟨rfl, hb1⟩
  have fa0 : w1.cell? ⟨w.heap.size, 0, none⟩ = some (.int .i64 b1) := cell_below' hb1 (by repeat (first | assumption | (refine cell_new ?_ rfl; focus (simp; done)) | refine cell_drew ?_ | refine cell_alloc _ ?_ | refine cell_drewN _ ?_ | (refine cell_far ?_ ?_; focus (first | omega | (simp; omega) | (simp; done))) | refine cell_below' (by assumption) ?_))
  have fa1 : w1.cell? ⟨w.heap.size, 1, none⟩ = some (.slice A l.length c1) := cell_below' hb1 (by repeat (first | assumption | (refine cell_new ?_ rfl; focus (simp; done)) | refine cell_drew ?_ | refine cell_alloc _ ?_ | refine cell_drewN _ ?_ | (refine cell_far ?_ ?_; focus (first | omega | (simp; omega) | (simp; done))) | refine cell_below' (by assumption) ?_))
  have fb0 : w1.cell? ⟨w.heap.size + 1, 0, none⟩ = some (.int .i64 b2) := cell_below' hb1 (by repeat (first | assumption | (refine cell_new ?_ rfl; focus (simp; done)) | refine cell_drew ?_ | refine cell_alloc _ ?_ | refine cell_drewN _ ?_ | (refine cell_far ?_ ?_; focus (first | omega | (simp; omega) | (simp; done))) | refine cell_below' (by assumption) ?_))
  have fb1 : w1.cell? ⟨w.heap.size + 1, 1, none⟩ = some (.slice B r.length c2) := cell_below' hb1 (by repeat (first | assumption | (refine cell_new ?_ rfl; focus (simp; done)) | refine cell_drew ?_ | refine cell_alloc _ ?_ | refine cell_drewN _ ?_ | (refine cell_far ?_ ?_; focus (first | omega | (simp; omega) | (simp; done))) | refine cell_below' (by assumption) ?_))
  have fc0 : w1.cell? ⟨w.heap.size + 1 + 1, 0, none⟩ = some (.int .i64 b3) := cell_below' hb1 (by repeat (first | assumption | (refine cell_new ?_ rfl; focus (simp; done)) | refine cell_drew ?_ | refine cell_alloc _ ?_ | refine cell_drewN _ ?_ | (refine cell_far ?_ ?_; focus (first | omega | (simp; omega) | (simp; done))) | refine cell_below' (by assumption) ?_))
  have fc1 : w1.cell? ⟨w.heap.size + 1 + 1, 1, none⟩ = some (.slice C s.length c3) := cell_below' hb1 (by repeat (first | assumption | (refine cell_new ?_ rfl; focus (simp; done)) | refine cell_drew ?_ | refine cell_alloc _ ?_ | refine cell_drewN _ ?_ | (refine cell_far ?_ ?_; focus (first | omega | (simp; omega) | (simp; done))) | refine cell_below' (by assumption) ?_))
  have hx1 : w.heap.size + 1 + 1 < w1.heap.size := by have := hb1.size; simp at this; omega
  have hy1 : w.heap.size + 1 < w1.heap.size := by omega
  have hz1 : w.heap.size < w1.heap.size := by omega
  have hbw1 : Below w.heap.size w w1 := (by repeat (first | assumption | exact Below.refl _ _ | refine Below.drew ?_ | (refine below_alloc _ ?_ ?_; focus (first | omega | (simp; done) | (simp; omega) | (simp at *; omega))) | (refine below_set _ ?_ ?_; focus (first | omega | (simp; done) | (simp; omega) | (simp at *; omega))) | refine below_drewN ?_ _ | (refine below_call (by assumption) ?_ ?_; focus (first | omega | (simp; done) | (simp; omega) | (simp at *; omega))) | (refine below_call' (by assumption) ?_ ?_; focus (first | omega | (simp; done) | (simp; omega) | (simp at *; omega)))))
  clear hb1
  go_wp2_with (fail)
  refine (Few_any b1 A l.length c1 _).mono ?_
  rintro e w2 ⟨rfl, hb2⟩
  have hx2 : w.heap.size + 1 + 1 < w2.heap.size := by have := hb2.size; omega
  have hy2 : w.heap.size + 1 < w2.heap.size := by omega
  have hz2 : w.heap.size < w2.heap.size := by omega
  replace fa0 := cell_below' hb2 fa0
  replace fa1 := cell_below' hb2 fa1
  replace fb0 := cell_below' hb2 fb0
  replace fb1 := cell_below' hb2 fb1
  replace fc0 := cell_below' hb2 fc0
  replace fc1 := cell_below' hb2 fc1
  have hbw2 : Below w.heap.size w w2 := (by repeat (first | assumption | exact Below.refl _ _ | refine Below.drew ?_ | (refine below_alloc _ ?_ ?_; focus (first | omega | (simp; done) | (simp; omega) | (simp at *; omega))) | (refine below_set _ ?_ ?_; focus (first | omega | (simp; done) | (simp; omega) | (simp at *; omega))) | refine below_drewN ?_ _ | (refine below_call (by assumption) ?_ ?_; focus (first | omega | (simp; done) | (simp; omega) | (simp at *; omega))) | (refine below_call' (by assumption) ?_ ?_; focus (first | omega | (simp; done) | (simp; omega) | (simp at *; omega)))))
  clear hb2 hbw1 hx1 hy1 hz1
  by_cases hfa : (l.length : Int) ≤ 14
  rotate_left 1
  · have hfd : decide ((l.length : Int) ≤ 14) = false := by simpa using hfa
    go_wp2
    go_ret
    exact ⟨rfl, (by repeat (first | assumption | exact Below.refl _ _ | refine Below.drew ?_ | (refine below_alloc _ ?_ ?_; focus (first | omega | (simp; done) | (simp; omega) | (simp at *; omega))) | (refine below_set _ ?_ ?_; focus (first | omega | (simp; done) | (simp; omega) | (simp at *; omega))) | refine below_drewN ?_ _ | (refine below_call (by assumption) ?_ ?_; focus (first | omega | (simp; done) | (simp; omega) | (simp at *; omega))) | (refine below_call' (by assumption) ?_ ?_; focus (first | omega | (simp; done) | (simp; omega) | (simp at *; omega)))))⟩
  have hla : l.length ≤ 100 := by omega
  go_wp2_with (fail)
  refine (Few_any b2 B r.length c2 _).mono ?_
  rintro e w3 ⟨rfl, hb3⟩
  have hx3 : w.heap.size + 1 + 1 < w3.heap.size := by have := hb3.size; omega
  have hy3 : w.heap.size + 1 < w3.heap.size := by omega
  have hz3 : w.heap.size < w3.heap.size := by omega
  replace fa0 := cell_below' hb3 fa0
  replace fa1 := cell_below' hb3 fa1
  replace fb0 := cell_below' hb3 fb0
  replace fb1 := cell_below' hb3 fb1
  replace fc0 := cell_below' hb3 fc0
  replace fc1 := cell_below' hb3 fc1
  have hbw3 : Below w.heap.size w w3 := (by repeat (first | assumption | exact Below.refl _ _ | refine Below.drew ?_ | (refine below_alloc _ ?_ ?_; focus (first | omega | (simp; done) | (simp; omega) | (simp at *; omega))) | (refine below_set _ ?_ ?_; focus (first | omega | (simp; done) | (simp; omega) | (simp at *; omega))) | refine below_drewN ?_ _ | (refine below_call (by assumption) ?_ ?_; focus (first | omega | (simp; done) | (simp; omega) | (simp at *; omega))) | (refine below_call' (by assumption) ?_ ?_; focus (first | omega | (simp; done) | (simp; omega) | (simp at *; omega)))))
  clear hb3 hbw2 hx2 hy2 hz2
  by_cases hfb : (r.length : Int) ≤ 14
  rotate_left 1
  · have hfd : decide ((r.length : Int) ≤ 14) = false := by simpa using hfb
    go_wp2
    go_ret
    exact ⟨rfl, (by repeat (first | assumption | exact Below.refl _ _ | refine Below.drew ?_ | (refine below_alloc _ ?_ ?_; focus (first | omega | (simp; done) | (simp; omega) | (simp at *; omega))) | (refine below_set _ ?_ ?_; focus (first | omega | (simp; done) | (simp; omega) | (simp at *; omega))) | refine below_drewN ?_ _ | (refine below_call (by assumption) ?_ ?_; focus (first | omega | (simp; done) | (simp; omega) | (simp at *; omega))) | (refine below_call' (by assumption) ?_ ?_; focus (first | omega | (simp; done) | (simp; omega) | (simp at *; omega)))))⟩
  have hlb : r.length ≤ 100 := by omega
  go_wp2_with (fail)
  refine (Few_any b3 C s.length c3 _).mono ?_
  rintro e w4 ⟨rfl, hb4⟩
  have hx4 : w.heap.size + 1 + 1 < w4.heap.size := by have := hb4.size; omega
  have hy4 : w.heap.size + 1 < w4.heap.size := by omega
  have hz4 : w.heap.size < w4.heap.size := by omega
  replace fa0 := cell_below' hb4 fa0
  replace fa1 := cell_below' hb4 fa1
  replace fb0 := cell_below' hb4 fb0
  replace fb1 := cell_below' hb4 fb1
  replace fc0 := cell_below' hb4 fc0
  replace fc1 := cell_below' hb4 fc1
  have hbw4 : Below w.heap.size w w4 := (by repeat (first | assumption | exact Below.refl _ _ | refine Below.drew ?_ | (refine below_alloc _ ?_ ?_; focus (first | omega | (simp; done) | (simp; omega) | (simp at *; omega))) | (refine below_set _ ?_ ?_; focus (first | omega | (simp; done) | (simp; omega) | (simp at *; omega))) | refine below_drewN ?_ _ | (refine below_call (by assumption) ?_ ?_; focus (first | omega | (simp; done) | (simp; omega) | (simp at *; omega))) | (refine below_call' (by assumption) ?_ ?_; focus (first | omega | (simp; done) | (simp; omega) | (simp at *; omega)))))
  clear hb4 hbw3 hx3 hy3 hz3
  by_cases hfc : (s.length : Int) ≤ 14
  rotate_left 1
  · have hfd : decide ((s.length : Int) ≤ 14) = false := by simpa using hfc
    go_wp2
    go_ret
    exact ⟨rfl, (by repeat (first | assumption | exact Below.refl _ _ | refine Below.drew ?_ | (refine below_alloc _ ?_ ?_; focus (first | omega | (simp; done) | (simp; omega) | (simp at *; omega))) | (refine below_set _ ?_ ?_; focus (first | omega | (simp; done) | (simp; omega) | (simp at *; omega))) | refine below_drewN ?_ _ | (refine below_call (by assumption) ?_ ?_; focus (first | omega | (simp; done) | (simp; omega) | (simp at *; omega))) | (refine below_call' (by assumption) ?_ ?_; focus (first | omega | (simp; done) | (simp; omega) | (simp at *; omega)))))⟩
  have hlc : s.length ≤ 100 := by omega
  go_wp2_with (fail)
  refine (ProfileErr_any b1 A l c1 _ hla (RowsAt.below hA hbw4)).mono ?_
  rintro e w5 ⟨rfl, hb5⟩
  have hx5 : w.heap.size + 1 + 1 < w5.heap.size := by have := hb5.size; omega
  have hy5 : w.heap.size + 1 < w5.heap.size := by omega
  have hz5 : w.heap.size < w5.heap.size := by omega
  replace fa0 := cell_below' hb5 fa0
  replace fa1 := cell_below' hb5 fa1
  replace fb0 := cell_below' hb5 fb0
  replace fb1 := cell_below' hb5 fb1
  replace fc0 := cell_below' hb5 fc0
  replace fc1 := cell_below' hb5 fc1
  have hbw5 : Below w.heap.size w w5 := (by repeat (first | assumption | exact Below.refl _ _ | refine Below.drew ?_ | (refine below_alloc _ ?_ ?_; focus (first | omega | (simp; done) | (simp; omega) | (simp at *; omega))) | (refine below_set _ ?_ ?_; focus (first | omega | (simp; done) | (simp; omega) | (simp at *; omega))) | refine below_drewN ?_ _ | (refine below_call (by assumption) ?_ ?_; focus (first | omega | (simp; done) | (simp; omega) | (simp at *; omega))) | (refine below_call' (by assumption) ?_ ?_; focus (first | omega | (simp; done) | (simp; omega) | (simp at *; omega)))))
  clear hb5 hbw4 hx4 hy4 hz4
  by_cases hea : chkE b1 l = 0
  rotate_left 1
  · have h0' : (chkE b1 l == 0) = false := by simpa using hea
    have h0'' : (chkE b1 l != 0) = true := by simpa using hea
    go_wp2
    go_ret
    exact ⟨rfl, (by repeat (first | assumption | exact Below.refl _ _ | refine Below.drew ?_ | (refine below_alloc _ ?_ ?_; focus (first | omega | (simp; done) | (simp; omega) | (simp at *; omega))) | (refine below_set _ ?_ ?_; focus (first | omega | (simp; done) | (simp; omega) | (simp at *; omega))) | refine below_drewN ?_ _ | (refine below_call (by assumption) ?_ ?_; focus (first | omega | (simp; done) | (simp; omega) | (simp at *; omega))) | (refine below_call' (by assumption) ?_ ?_; focus (first | omega | (simp; done) | (simp; omega) | (simp at *; omega)))))⟩
  rw [hea]
  have HEa := Lib.hid hea
  clear hea
  go_wp2_with (fail)
  refine (ProfileErr_any b2 B r c2 _ hlb (RowsAt.below hB hbw5)).mono ?_
  rintro e w6 ⟨rfl, hb6⟩
  have hx6 : w.heap.size + 1 + 1 < w6.heap.size := by have := hb6.size; omega
  have hy6 : w.heap.size + 1 < w6.heap.size := by omega
  have hz6 : w.heap.size < w6.heap.size := by omega
  replace fa0 := cell_below' hb6 fa0
  replace fa1 := cell_below' hb6 fa1
  replace fb0 := cell_below' hb6 fb0
  replace fb1 := cell_below' hb6 fb1
  replace fc0 := cell_below' hb6 fc0
  replace fc1 := cell_below' hb6 fc1
  have hbw6 : Below w.heap.size w w6 := (by repeat (first | assumption | exact Below.refl _ _ | refine Below.drew ?_ | (refine below_alloc _ ?_ ?_; focus (first | omega | (simp; done) | (simp; omega) | (simp at *; omega))) | (refine below_set _ ?_ ?_; focus (first | omega | (simp; done) | (simp; omega) | (simp at *; omega))) | refine below_drewN ?_ _ | (refine below_call (by assumption) ?_ ?_; focus (first | omega | (simp; done) | (simp; omega) | (simp at *; omega))) | (refine below_call' (by assumption) ?_ ?_; focus (first | omega | (simp; done) | (simp; omega) | (simp at *; omega)))))
  clear hb6 hbw5 hx5 hy5 hz5
  by_cases heb : chkE b2 r = 0
  rotate_left 1
  · have h0' : (chkE b2 r == 0) = false := by simpa using heb
    have h0'' : (chkE b2 r != 0) = true := by simpa using heb
    go_wp2
    go_ret
    exact ⟨rfl, (by repeat (first | assumption | exact Below.refl _ _ | refine Below.drew ?_ | (refine below_alloc _ ?_ ?_; focus (first | omega | (simp; done) | (simp; omega) | (simp at *; omega))) | (refine below_set _ ?_ ?_; focus (first | omega | (simp; done) | (simp; omega) | (simp at *; omega))) | refine below_drewN ?_ _ | (refine below_call (by assumption) ?_ ?_; focus (first | omega | (simp; done) | (simp; omega) | (simp at *; omega))) | (refine below_call' (by assumption) ?_ ?_; focus (first | omega | (simp; done) | (simp; omega) | (simp at *; omega)))))⟩
  rw [heb]
  have HEb := Lib.hid heb
  clear heb
  go_wp2_with (fail)
  refine (ProfileErr_any b3 C s c3 _ hlc (RowsAt.below hC hbw6)).mono ?_
  rintro e w7 ⟨rfl, hb7⟩
  have hx7 : w.heap.size + 1 + 1 < w7.heap.size := by have := hb7.size; omega
  have hy7 : w.heap.size + 1 < w7.heap.size := by omega
  have hz7 : w.heap.size < w7.heap.size := by omega
  replace fa0 := cell_below' hb7 fa0
  replace fa1 := cell_below' hb7 fa1
  replace fb0 := cell_below' hb7 fb0
  replace fb1 := cell_below' hb7 fb1
  replace fc0 := cell_below' hb7 fc0
  replace fc1 := cell_below' hb7 fc1
  have hbw7 : Below w.heap.size w w7 := (by repeat (first | assumption | exact Below.refl _ _ | refine Below.drew ?_ | (refine below_alloc _ ?_ ?_; focus (first | omega | (simp; done) | (simp; omega) | (simp at *; omega))) | (refine below_set _ ?_ ?_; focus (first | omega | (simp; done) | (simp; omega) | (simp at *; omega))) | refine below_drewN ?_ _ | (refine below_call (by assumption) ?_ ?_; focus (first | omega | (simp; done) | (simp; omega) | (simp at *; omega))) | (refine below_call' (by assumption) ?_ ?_; focus (first | omega | (simp; done) | (simp; omega) | (simp at *; omega)))))
  clear hb7 hbw6 hx6 hy6 hz6
  by_cases hec : chkE b3 s = 0
  rotate_left 1
  · have h0' : (chkE b3 s == 0) = false := by simpa using hec
    have h0'' : (chkE b3 s != 0) = true := by simpa using hec
    go_wp2
    go_ret
    exact ⟨rfl, (by repeat (first | assumption | exact Below.refl _ _ | refine Below.drew ?_ | (refine below_alloc _ ?_ ?_; focus (first | omega | (simp; done) | (simp; omega) | (simp at *; omega))) | (refine below_set _ ?_ ?_; focus (first | omega | (simp; done) | (simp; omega) | (simp at *; omega))) | refine below_drewN ?_ _ | (refine below_call (by assumption) ?_ ?_; focus (first | omega | (simp; done) | (simp; omega) | (simp at *; omega))) | (refine below_call' (by assumption) ?_ ?_; focus (first | omega | (simp; done) | (simp; omega) | (simp at *; omega)))))⟩
  rw [hec]
  have HEc := Lib.hid hec
  clear hec
  go_wp2_with (fail)
  refine (Copy_any b1 A l c1 _ hla (RowsAt.below hA hbw7)).mono ?_
  rintro e w8 ⟨A0, c0', rfl, own0, hb8⟩
  have hS0 : SlabsAt w8 A0 l := rowsAt_of_own own0 rfl (by decide)
  have hc0 := own_cap' own0
  have hx8 : w.heap.size + 1 + 1 < w8.heap.size := by have := hb8.size; omega
  have hy8 : w.heap.size + 1 < w8.heap.size := by omega
  have hz8 : w.heap.size < w8.heap.size := by omega
  replace fa0 := cell_below' hb8 fa0
  replace fa1 := cell_below' hb8 fa1
  replace fb0 := cell_below' hb8 fb0
  replace fb1 := cell_below' hb8 fb1
  replace fc0 := cell_below' hb8 fc0
  replace fc1 := cell_below' hb8 fc1
  have hbw8 : Below w.heap.size w w8 := (by repeat (first | assumption | exact Below.refl _ _ | refine Below.drew ?_ | (refine below_alloc _ ?_ ?_; focus (first | omega | (simp; done) | (simp; omega) | (simp at *; omega))) | (refine below_set _ ?_ ?_; focus (first | omega | (simp; done) | (simp; omega) | (simp at *; omega))) | refine below_drewN ?_ _ | (refine below_call (by assumption) ?_ ?_; focus (first | omega | (simp; done) | (simp; omega) | (simp at *; omega))) | (refine below_call' (by assumption) ?_ ?_; focus (first | omega | (simp; done) | (simp; omega) | (simp at *; omega)))))
  clear hb8 hbw7 hx7 hy7 hz7
  clear own0
  go_wp2_with (fail)
  refine (Joined_any b1 A0 l c0' _ hla hc0 hS0).mono ?_
  rintro e w9 ⟨AJ, cJ, rfl, ownJ, hb9⟩
  clear hS0 hc0
  have hjv : jndV b1 l = jnd l := by unfold jndV; rw [if_pos HEa.out]
  have hjb : jndB b1 l = b1 := by unfold jndB; rw [if_pos HEa.out]
  rw [hjv] at ownJ
  rw [hjv, hjb, HEa.out]
  clear hjv hjb
  have hx9 : w.heap.size + 1 + 1 < w9.heap.size := by have := hb9.size; omega
  have hy9 : w.heap.size + 1 < w9.heap.size := by omega
  have hz9 : w.heap.size < w9.heap.size := by omega
  replace fa0 := cell_below' hb9 fa0
  replace fa1 := cell_below' hb9 fa1
  replace fb0 := cell_below' hb9 fb0
  replace fb1 := cell_below' hb9 fb1
  replace fc0 := cell_below' hb9 fc0
  replace fc1 := cell_below' hb9 fc1
  have hbw9 : Below w.heap.size w w9 := (by repeat (first | assumption | exact Below.refl _ _ | refine Below.drew ?_ | (refine below_alloc _ ?_ ?_; focus (first | omega | (simp; done) | (simp; omega) | (simp at *; omega))) | (refine below_set _ ?_ ?_; focus (first | omega | (simp; done) | (simp; omega) | (simp at *; omega))) | refine below_drewN ?_ _ | (refine below_call (by assumption) ?_ ?_; focus (first | omega | (simp; done) | (simp; omega) | (simp at *; omega))) | (refine below_call' (by assumption) ?_ ?_; focus (first | omega | (simp; done) | (simp; omega) | (simp at *; omega)))))
  clear hb9 hbw8 hx8 hy8 hz8
  have HLAW := Lib.hid (jnd_law (ok_of_chk HEa.out))
  have HEJ := Lib.hid (jnd_chk HEa.out)
  have hJ : SlabsAt w9 AJ (jnd l) := rowsAt_of_own ownJ rfl (by decide)
  clear ownJ
  have hlj : (jnd l).length ≤ 100 := by have := HLAW.out.2.2.2.2; omega
  have dd : ∀ (x1 : Int) (u : List Slb) (x2 : Int) (v : List Slb), chkE x1 u = 0 → chkE x2 v = 0 → u.length ≤ 100 → v.length ≤ 100 → ∀ (d : Int), dD x1 u x2 v = d → ∀ W A1 c1 A2 c2, SlabsAt W A1 u → SlabsAt W A2 v → Calls Try.prog 56 #[.agg #[.int .i64 x1, .slice A1 u.length c1], .agg #[.int .i64 x2, .slice A2 v.length c2]] W fun e w' => e = .returned (.tuple #[.int .i64 d, .int .i64 0]) ∧ Below W.heap.size W w' := fun x1 u x2 v h1 h2 l1 l2 d hd W A1 c1 A2 c2 k1 k2 => by
    have h := DistanceOf_any x1 A1 u c1 x2 A2 v c2 W l1 l2 k1 k2
    rw [(dst_said h1 h2).1, (dst_said h1 h2).2, hd] at h
    exact h
  have cc : ∀ (x1 : Int) (u : List Slb), chkE x1 u = 0 → u.length ≤ 100 → ∀ (d : Int), sumC u = d → ∀ W A1 c1, SlabsAt W A1 u → Calls Try.prog 51 #[.agg #[.int .i64 x1, .slice A1 u.length c1]] W fun e w' => e = .returned (.tuple #[.int .i64 d, .int .i64 0]) ∧ Below W.heap.size W w' := fun x1 u h1 l1 d hd W A1 c1 k1 => by
    have h := ContentOf_any x1 A1 u c1 W l1 k1
    unfold contI at h
    rw [if_pos h1, h1, hd] at h
    exact h
  have hdb := dD_bd (ok_of_chk HEa.out) (ok_of_chk HEb.out)
  have hda := dD_bd (ok_of_chk HEa.out) (ok_of_chk HEc.out)
  have hdc := dD_bd (ok_of_chk HEc.out) (ok_of_chk HEb.out)
  have htri := dD_tri b1 b2 b3 l r s
  have DAB := Lib.hid (dd b1 l b2 r HEa.out HEb.out hla hlb _ rfl)
  have DBA := Lib.hid (dd b2 r b1 l HEb.out HEa.out hlb hla _ (dD_symm b2 b1 r l))
  have DAC := Lib.hid (dd b1 l b3 s HEa.out HEc.out hla hlc _ rfl)
  have DCB := Lib.hid (dd b3 s b2 r HEc.out HEb.out hlc hlb _ rfl)
  have DAJ := Lib.hid (dd b1 l b1 (jnd l) HEa.out HEJ.out hla hlj 0 (dD_zero fun t => (HLAW.out.1 t).symm))
  have DAA := Lib.hid (dd b1 l b1 l HEa.out HEa.out hla hla 0 (dD_zero fun t => rfl))
  have SA := Lib.hid (cc b1 l HEa.out hla _ rfl)
  have SJ := Lib.hid (cc b1 (jnd l) HEJ.out hlj _ HLAW.out.2.1)
  clear dd cc HLAW
  generalize dD b1 l b2 r = x at *
  generalize dD b1 l b3 s = u at *
  generalize dD b3 s b2 r = v at *
  generalize sumC l = z at *
  generalize jnd l = q at *
  obtain ⟨hdx0, hdx9⟩ := hdb
  obtain ⟨hu0, hu9⟩ := hda
  obtain ⟨hv0, hv9⟩ := hdc
  go_wp2_with (fail)
  have jw0 : (w9.alloc (.cells #[.int .i64 b1, .slice AJ q.length cJ] 24)).cell? ⟨w9.heap.size, 0, none⟩ = some (.int .i64 b1) := (by repeat (first | assumption | (refine cell_new ?_ rfl; focus (simp; done)) | refine cell_drew ?_ | refine cell_alloc _ ?_ | refine cell_drewN _ ?_ | (refine cell_far ?_ ?_; focus (first | omega | (simp; omega) | (simp; done))) | refine cell_below' (by assumption) ?_))
  have jw1 : (w9.alloc (.cells #[.int .i64 b1, .slice AJ q.length cJ] 24)).cell? ⟨w9.heap.size, 1, none⟩ = some (.slice AJ q.length cJ) := (by repeat (first | assumption | (refine cell_new ?_ rfl; focus (simp; done)) | refine cell_drew ?_ | refine cell_alloc _ ?_ | refine cell_drewN _ ?_ | (refine cell_far ?_ ?_; focus (first | omega | (simp; omega) | (simp; done))) | refine cell_below' (by assumption) ?_))
  refine (ProfileErr_any b1 AJ q cJ _ hlj (RowsAt.below hJ (by repeat (first | assumption | exact Below.refl _ _ | refine Below.drew ?_ | (refine below_alloc _ ?_ ?_; focus (first | omega | (simp; done) | (simp; omega) | (simp at *; omega))) | (refine below_set _ ?_ ?_; focus (first | omega | (simp; done) | (simp; omega) | (simp at *; omega))) | refine below_drewN ?_ _ | (refine below_call (by assumption) ?_ ?_; focus (first | omega | (simp; done) | (simp; omega) | (simp at *; omega))) | (refine below_call' (by assumption) ?_ ?_; focus (first | omega | (simp; done) | (simp; omega) | (simp at *; omega))))))).mono ?_
  rintro e w10 ⟨rfl, hb10⟩
  rw [HEJ.out]
  have fj0 := cell_below' hb10 jw0
  have fj1 := cell_below' hb10 jw1
  have hJn : SlabsAt w10 AJ q := RowsAt.below hJ (by repeat (first | assumption | exact Below.refl _ _ | refine Below.drew ?_ | (refine below_alloc _ ?_ ?_; focus (first | omega | (simp; done) | (simp; omega) | (simp at *; omega))) | (refine below_set _ ?_ ?_; focus (first | omega | (simp; done) | (simp; omega) | (simp at *; omega))) | refine below_drewN ?_ _ | (refine below_call (by assumption) ?_ ?_; focus (first | omega | (simp; done) | (simp; omega) | (simp at *; omega))) | (refine below_call' (by assumption) ?_ ?_; focus (first | omega | (simp; done) | (simp; omega) | (simp at *; omega)))))
  replace fa0 := cell_below' hb10 (cell_alloc _ fa0)
  replace fa1 := cell_below' hb10 (cell_alloc _ fa1)
  replace fb0 := cell_below' hb10 (cell_alloc _ fb0)
  replace fb1 := cell_below' hb10 (cell_alloc _ fb1)
  replace fc0 := cell_below' hb10 (cell_alloc _ fc0)
  replace fc1 := cell_below' hb10 (cell_alloc _ fc1)
  have hjz : w.heap.size + 1 + 1 < w9.heap.size := hx9
  have hjn10 : w9.heap.size < w10.heap.size := by have := hb10.size; simp at this; omega
  have hbw10 : Below w.heap.size w w10 := (by repeat (first | assumption | exact Below.refl _ _ | refine Below.drew ?_ | (refine below_alloc _ ?_ ?_; focus (first | omega | (simp; done) | (simp; omega) | (simp at *; omega))) | (refine below_set _ ?_ ?_; focus (first | omega | (simp; done) | (simp; omega) | (simp at *; omega))) | refine below_drewN ?_ _ | (refine below_call (by assumption) ?_ ?_; focus (first | omega | (simp; done) | (simp; omega) | (simp at *; omega))) | (refine below_call' (by assumption) ?_ ?_; focus (first | omega | (simp; done) | (simp; omega) | (simp at *; omega)))))
  clear hb10 hbw9 hx9 hy9 hz9 jw0 jw1 hJ
  generalize w9.heap.size = jb at *
  have hx10 : w.heap.size + 1 + 1 < w10.heap.size := by omega
  have hy10 : w.heap.size + 1 < w10.heap.size := by omega
  have hz10 : w.heap.size < w10.heap.size := by omega
  have HCA := Lib.hid (fun W hW => Copy_any b1 A l c1 W hla hW)
  have HCB := Lib.hid (fun W hW => Copy_any b2 B r c2 W hlb hW)
  have HCC := Lib.hid (fun W hW => Copy_any b3 C s c3 W hlc hW)
  have HCJ := Lib.hid (fun W hW => Copy_any b1 AJ q cJ W hlj hW)
  go_wp2_with (fail)
  go_region_held3 (fun w' => w'.cell? ⟨w.heap.size, 0, none⟩ = some (.int .i64 b1) ∧ w'.cell? ⟨w.heap.size, 1, none⟩ = some (.slice A l.length c1) ∧ w'.cell? ⟨w.heap.size + 1, 0, none⟩ = some (.int .i64 b2) ∧ w'.cell? ⟨w.heap.size + 1, 1, none⟩ = some (.slice B r.length c2))
    ((((try go_split_ands); (repeat' (apply And.intro)) <;> (repeat (first | (with_reducible assumption) | (with_reducible refine cell_drew ?_) | (with_reducible refine cell_alloc _ ?_) | (with_reducible refine cell_below' (by with_reducible assumption) ?_) | (with_reducible refine cell_far ?_ ?_; focus (first | omega | (simp; omega) | (simp; done))))))))
    (first
      | (go_at_call 17; have _hh := own4; (with_reducible refine (HCB.out _ ?_).mono ?_); (focus (exact RowsAt.below hB (by repeat (first | assumption | exact Below.refl _ _ | refine Below.drew ?_ | (refine below_alloc _ ?_ ?_; focus (first | omega | (simp; done) | (simp; omega) | (simp at *; omega))) | (refine below_set _ ?_ ?_; focus (first | omega | (simp; done) | (simp; omega) | (simp at *; omega))) | refine below_drewN ?_ _ | (refine below_call (by assumption) ?_ ?_; focus (first | omega | (simp; done) | (simp; omega) | (simp at *; omega))) | (refine below_call' (by assumption) ?_ ?_; focus (first | omega | (simp; done) | (simp; omega) | (simp at *; omega))))))); rintro e y5 ⟨A5, c5, rfl, own5, hb5⟩)
      | (go_at_call 17; (with_reducible refine (HCA.out _ ?_).mono ?_); (focus (exact RowsAt.below hA (by repeat (first | assumption | exact Below.refl _ _ | refine Below.drew ?_ | (refine below_alloc _ ?_ ?_; focus (first | omega | (simp; done) | (simp; omega) | (simp at *; omega))) | (refine below_set _ ?_ ?_; focus (first | omega | (simp; done) | (simp; omega) | (simp at *; omega))) | refine below_drewN ?_ _ | (refine below_call (by assumption) ?_ ?_; focus (first | omega | (simp; done) | (simp; omega) | (simp at *; omega))) | (refine below_call' (by assumption) ?_ ?_; focus (first | omega | (simp; done) | (simp; omega) | (simp at *; omega))))))); rintro e y4 ⟨A4, c4, rfl, own4, hb4⟩)
      | (go_at_call 56; (with_reducible refine (DAB.out _ A4 c4 A5 c5 ?_ ?_).mono ?_); (focus (exact RowsAt.below (rowsAt_of_own own4 rfl (by decide)) (by repeat (first | assumption | exact Below.refl _ _ | refine Below.drew ?_ | (refine below_alloc _ ?_ ?_; focus (first | omega | (simp; done) | (simp; omega) | (simp at *; omega))) | (refine below_set _ ?_ ?_; focus (first | omega | (simp; done) | (simp; omega) | (simp at *; omega))) | refine below_drewN ?_ _ | (refine below_call (by assumption) ?_ ?_; focus (first | omega | (simp; done) | (simp; omega) | (simp at *; omega))) | (refine below_call' (by assumption) ?_ ?_; focus (first | omega | (simp; done) | (simp; omega) | (simp at *; omega))))))); (focus (exact rowsAt_of_own own5 rfl (by decide))); rintro e w11 ⟨rfl, hb6⟩))
  have hbb : Below w10.heap.size w10 w11 := (by repeat (first | assumption | exact Below.refl _ _ | refine Below.drew ?_ | (refine below_alloc _ ?_ ?_; focus (first | omega | (simp; done) | (simp; omega) | (simp at *; omega))) | (refine below_set _ ?_ ?_; focus (first | omega | (simp; done) | (simp; omega) | (simp at *; omega))) | refine below_drewN ?_ _ | (refine below_call (by assumption) ?_ ?_; focus (first | omega | (simp; done) | (simp; omega) | (simp at *; omega))) | (refine below_call' (by assumption) ?_ ?_; focus (first | omega | (simp; done) | (simp; omega) | (simp at *; omega)))))
  replace fa0 := cell_below' hbb fa0
  replace fa1 := cell_below' hbb fa1
  replace fb0 := cell_below' hbb fb0
  replace fb1 := cell_below' hbb fb1
  replace fc0 := cell_below' hbb fc0
  replace fc1 := cell_below' hbb fc1
  replace fj0 := cell_below' hbb fj0
  replace fj1 := cell_below' hbb fj1
  replace hJn := RowsAt.below hJn hbb
  have hx11 : w.heap.size + 1 + 1 < w11.heap.size := by have := hbb.size; omega
  have hy11 : w.heap.size + 1 < w11.heap.size := by omega
  have hz11 : w.heap.size < w11.heap.size := by omega
  have hjn11 : jb < w11.heap.size := by have := hbb.size; omega
  have hbw11 : Below w.heap.size w w11 := (by repeat (first | assumption | exact Below.refl _ _ | refine Below.drew ?_ | (refine below_alloc _ ?_ ?_; focus (first | omega | (simp; done) | (simp; omega) | (simp at *; omega))) | (refine below_set _ ?_ ?_; focus (first | omega | (simp; done) | (simp; omega) | (simp at *; omega))) | refine below_drewN ?_ _ | (refine below_call (by assumption) ?_ ?_; focus (first | omega | (simp; done) | (simp; omega) | (simp at *; omega))) | (refine below_call' (by assumption) ?_ ?_; focus (first | omega | (simp; done) | (simp; omega) | (simp at *; omega)))))
  clear hb4 hb5 hb6 own4 own5 hbb hbw10 hx10 hy10 hz10 hjn10
  go_wp2_with (fail)
  go_region_held3 (fun w' => w'.cell? ⟨w.heap.size, 0, none⟩ = some (.int .i64 b1) ∧ w'.cell? ⟨w.heap.size, 1, none⟩ = some (.slice A l.length c1) ∧ w'.cell? ⟨w.heap.size + 1, 0, none⟩ = some (.int .i64 b2) ∧ w'.cell? ⟨w.heap.size + 1, 1, none⟩ = some (.slice B r.length c2))
    ((((try go_split_ands); (repeat' (apply And.intro)) <;> (repeat (first | (with_reducible assumption) | (with_reducible refine cell_drew ?_) | (with_reducible refine cell_alloc _ ?_) | (with_reducible refine cell_below' (by with_reducible assumption) ?_) | (with_reducible refine cell_far ?_ ?_; focus (first | omega | (simp; omega) | (simp; done))))))))
    (first
      | (go_at_call 17; have _hh := own4; (with_reducible refine (HCA.out _ ?_).mono ?_); (focus (exact RowsAt.below hA (by repeat (first | assumption | exact Below.refl _ _ | refine Below.drew ?_ | (refine below_alloc _ ?_ ?_; focus (first | omega | (simp; done) | (simp; omega) | (simp at *; omega))) | (refine below_set _ ?_ ?_; focus (first | omega | (simp; done) | (simp; omega) | (simp at *; omega))) | refine below_drewN ?_ _ | (refine below_call (by assumption) ?_ ?_; focus (first | omega | (simp; done) | (simp; omega) | (simp at *; omega))) | (refine below_call' (by assumption) ?_ ?_; focus (first | omega | (simp; done) | (simp; omega) | (simp at *; omega))))))); rintro e y5 ⟨A5, c5, rfl, own5, hb5⟩)
      | (go_at_call 17; (with_reducible refine (HCB.out _ ?_).mono ?_); (focus (exact RowsAt.below hB (by repeat (first | assumption | exact Below.refl _ _ | refine Below.drew ?_ | (refine below_alloc _ ?_ ?_; focus (first | omega | (simp; done) | (simp; omega) | (simp at *; omega))) | (refine below_set _ ?_ ?_; focus (first | omega | (simp; done) | (simp; omega) | (simp at *; omega))) | refine below_drewN ?_ _ | (refine below_call (by assumption) ?_ ?_; focus (first | omega | (simp; done) | (simp; omega) | (simp at *; omega))) | (refine below_call' (by assumption) ?_ ?_; focus (first | omega | (simp; done) | (simp; omega) | (simp at *; omega))))))); rintro e y4 ⟨A4, c4, rfl, own4, hb4⟩)
      | (go_at_call 56; (with_reducible refine (DBA.out _ A4 c4 A5 c5 ?_ ?_).mono ?_); (focus (exact RowsAt.below (rowsAt_of_own own4 rfl (by decide)) (by repeat (first | assumption | exact Below.refl _ _ | refine Below.drew ?_ | (refine below_alloc _ ?_ ?_; focus (first | omega | (simp; done) | (simp; omega) | (simp at *; omega))) | (refine below_set _ ?_ ?_; focus (first | omega | (simp; done) | (simp; omega) | (simp at *; omega))) | refine below_drewN ?_ _ | (refine below_call (by assumption) ?_ ?_; focus (first | omega | (simp; done) | (simp; omega) | (simp at *; omega))) | (refine below_call' (by assumption) ?_ ?_; focus (first | omega | (simp; done) | (simp; omega) | (simp at *; omega))))))); (focus (exact rowsAt_of_own own5 rfl (by decide))); rintro e w12 ⟨rfl, hb6⟩))
  have hbb : Below w11.heap.size w11 w12 := (by repeat (first | assumption | exact Below.refl _ _ | refine Below.drew ?_ | (refine below_alloc _ ?_ ?_; focus (first | omega | (simp; done) | (simp; omega) | (simp at *; omega))) | (refine below_set _ ?_ ?_; focus (first | omega | (simp; done) | (simp; omega) | (simp at *; omega))) | refine below_drewN ?_ _ | (refine below_call (by assumption) ?_ ?_; focus (first | omega | (simp; done) | (simp; omega) | (simp at *; omega))) | (refine below_call' (by assumption) ?_ ?_; focus (first | omega | (simp; done) | (simp; omega) | (simp at *; omega)))))
  replace fa0 := cell_below' hbb fa0
  replace fa1 := cell_below' hbb fa1
  replace fb0 := cell_below' hbb fb0
  replace fb1 := cell_below' hbb fb1
  replace fc0 := cell_below' hbb fc0
  replace fc1 := cell_below' hbb fc1
  replace fj0 := cell_below' hbb fj0
  replace fj1 := cell_below' hbb fj1
  replace hJn := RowsAt.below hJn hbb
  have hx12 : w.heap.size + 1 + 1 < w12.heap.size := by have := hbb.size; omega
  have hy12 : w.heap.size + 1 < w12.heap.size := by omega
  have hz12 : w.heap.size < w12.heap.size := by omega
  have hjn12 : jb < w12.heap.size := by have := hbb.size; omega
  have hbw12 : Below w.heap.size w w12 := (by repeat (first | assumption | exact Below.refl _ _ | refine Below.drew ?_ | (refine below_alloc _ ?_ ?_; focus (first | omega | (simp; done) | (simp; omega) | (simp at *; omega))) | (refine below_set _ ?_ ?_; focus (first | omega | (simp; done) | (simp; omega) | (simp at *; omega))) | refine below_drewN ?_ _ | (refine below_call (by assumption) ?_ ?_; focus (first | omega | (simp; done) | (simp; omega) | (simp at *; omega))) | (refine below_call' (by assumption) ?_ ?_; focus (first | omega | (simp; done) | (simp; omega) | (simp at *; omega)))))
  clear hb4 hb5 hb6 own4 own5 hbb hbw11 hx11 hy11 hz11 hjn11
  go_wp2_with (fail)
  go_region_held3 (fun w' => w'.cell? ⟨w.heap.size, 0, none⟩ = some (.int .i64 b1) ∧ w'.cell? ⟨w.heap.size, 1, none⟩ = some (.slice A l.length c1) ∧ w'.cell? ⟨w.heap.size + 1 + 1, 0, none⟩ = some (.int .i64 b3) ∧ w'.cell? ⟨w.heap.size + 1 + 1, 1, none⟩ = some (.slice C s.length c3))
    ((((try go_split_ands); (repeat' (apply And.intro)) <;> (repeat (first | (with_reducible assumption) | (with_reducible refine cell_drew ?_) | (with_reducible refine cell_alloc _ ?_) | (with_reducible refine cell_below' (by with_reducible assumption) ?_) | (with_reducible refine cell_far ?_ ?_; focus (first | omega | (simp; omega) | (simp; done))))))))
    (first
      | (go_at_call 17; have _hh := own4; (with_reducible refine (HCC.out _ ?_).mono ?_); (focus (exact RowsAt.below hC (by repeat (first | assumption | exact Below.refl _ _ | refine Below.drew ?_ | (refine below_alloc _ ?_ ?_; focus (first | omega | (simp; done) | (simp; omega) | (simp at *; omega))) | (refine below_set _ ?_ ?_; focus (first | omega | (simp; done) | (simp; omega) | (simp at *; omega))) | refine below_drewN ?_ _ | (refine below_call (by assumption) ?_ ?_; focus (first | omega | (simp; done) | (simp; omega) | (simp at *; omega))) | (refine below_call' (by assumption) ?_ ?_; focus (first | omega | (simp; done) | (simp; omega) | (simp at *; omega))))))); rintro e y5 ⟨A5, c5, rfl, own5, hb5⟩)
      | (go_at_call 17; (with_reducible refine (HCA.out _ ?_).mono ?_); (focus (exact RowsAt.below hA (by repeat (first | assumption | exact Below.refl _ _ | refine Below.drew ?_ | (refine below_alloc _ ?_ ?_; focus (first | omega | (simp; done) | (simp; omega) | (simp at *; omega))) | (refine below_set _ ?_ ?_; focus (first | omega | (simp; done) | (simp; omega) | (simp at *; omega))) | refine below_drewN ?_ _ | (refine below_call (by assumption) ?_ ?_; focus (first | omega | (simp; done) | (simp; omega) | (simp at *; omega))) | (refine below_call' (by assumption) ?_ ?_; focus (first | omega | (simp; done) | (simp; omega) | (simp at *; omega))))))); rintro e y4 ⟨A4, c4, rfl, own4, hb4⟩)
      | (go_at_call 56; (with_reducible refine (DAC.out _ A4 c4 A5 c5 ?_ ?_).mono ?_); (focus (exact RowsAt.below (rowsAt_of_own own4 rfl (by decide)) (by repeat (first | assumption | exact Below.refl _ _ | refine Below.drew ?_ | (refine below_alloc _ ?_ ?_; focus (first | omega | (simp; done) | (simp; omega) | (simp at *; omega))) | (refine below_set _ ?_ ?_; focus (first | omega | (simp; done) | (simp; omega) | (simp at *; omega))) | refine below_drewN ?_ _ | (refine below_call (by assumption) ?_ ?_; focus (first | omega | (simp; done) | (simp; omega) | (simp at *; omega))) | (refine below_call' (by assumption) ?_ ?_; focus (first | omega | (simp; done) | (simp; omega) | (simp at *; omega))))))); (focus (exact rowsAt_of_own own5 rfl (by decide))); rintro e w13 ⟨rfl, hb6⟩))
  have hbb : Below w12.heap.size w12 w13 := (by repeat (first | assumption | exact Below.refl _ _ | refine Below.drew ?_ | (refine below_alloc _ ?_ ?_; focus (first | omega | (simp; done) | (simp; omega) | (simp at *; omega))) | (refine below_set _ ?_ ?_; focus (first | omega | (simp; done) | (simp; omega) | (simp at *; omega))) | refine below_drewN ?_ _ | (refine below_call (by assumption) ?_ ?_; focus (first | omega | (simp; done) | (simp; omega) | (simp at *; omega))) | (refine below_call' (by assumption) ?_ ?_; focus (first | omega | (simp; done) | (simp; omega) | (simp at *; omega)))))
  replace fa0 := cell_below' hbb fa0
  replace fa1 := cell_below' hbb fa1
  replace fb0 := cell_below' hbb fb0
  replace fb1 := cell_below' hbb fb1
  replace fc0 := cell_below' hbb fc0
  replace fc1 := cell_below' hbb fc1
  replace fj0 := cell_below' hbb fj0
  replace fj1 := cell_below' hbb fj1
  replace hJn := RowsAt.below hJn hbb
  have hx13 : w.heap.size + 1 + 1 < w13.heap.size := by have := hbb.size; omega
  have hy13 : w.heap.size + 1 < w13.heap.size := by omega
  have hz13 : w.heap.size < w13.heap.size := by omega
  have hjn13 : jb < w13.heap.size := by have := hbb.size; omega
  have hbw13 : Below w.heap.size w w13 := (by repeat (first | assumption | exact Below.refl _ _ | refine Below.drew ?_ | (refine below_alloc _ ?_ ?_; focus (first | omega | (simp; done) | (simp; omega) | (simp at *; omega))) | (refine below_set _ ?_ ?_; focus (first | omega | (simp; done) | (simp; omega) | (simp at *; omega))) | refine below_drewN ?_ _ | (refine below_call (by assumption) ?_ ?_; focus (first | omega | (simp; done) | (simp; omega) | (simp at *; omega))) | (refine below_call' (by assumption) ?_ ?_; focus (first | omega | (simp; done) | (simp; omega) | (simp at *; omega)))))
  clear hb4 hb5 hb6 own4 own5 hbb hbw12 hx12 hy12 hz12 hjn12
  go_wp2_with (fail)
  go_region_held3 (fun w' => w'.cell? ⟨w.heap.size + 1, 0, none⟩ = some (.int .i64 b2) ∧ w'.cell? ⟨w.heap.size + 1, 1, none⟩ = some (.slice B r.length c2) ∧ w'.cell? ⟨w.heap.size + 1 + 1, 0, none⟩ = some (.int .i64 b3) ∧ w'.cell? ⟨w.heap.size + 1 + 1, 1, none⟩ = some (.slice C s.length c3))
    ((((try go_split_ands); (repeat' (apply And.intro)) <;> (repeat (first | (with_reducible assumption) | (with_reducible refine cell_drew ?_) | (with_reducible refine cell_alloc _ ?_) | (with_reducible refine cell_below' (by with_reducible assumption) ?_) | (with_reducible refine cell_far ?_ ?_; focus (first | omega | (simp; omega) | (simp; done))))))))
    (first
      | (go_at_call 17; have _hh := own4; (with_reducible refine (HCB.out _ ?_).mono ?_); (focus (exact RowsAt.below hB (by repeat (first | assumption | exact Below.refl _ _ | refine Below.drew ?_ | (refine below_alloc _ ?_ ?_; focus (first | omega | (simp; done) | (simp; omega) | (simp at *; omega))) | (refine below_set _ ?_ ?_; focus (first | omega | (simp; done) | (simp; omega) | (simp at *; omega))) | refine below_drewN ?_ _ | (refine below_call (by assumption) ?_ ?_; focus (first | omega | (simp; done) | (simp; omega) | (simp at *; omega))) | (refine below_call' (by assumption) ?_ ?_; focus (first | omega | (simp; done) | (simp; omega) | (simp at *; omega))))))); rintro e y5 ⟨A5, c5, rfl, own5, hb5⟩)
      | (go_at_call 17; (with_reducible refine (HCC.out _ ?_).mono ?_); (focus (exact RowsAt.below hC (by repeat (first | assumption | exact Below.refl _ _ | refine Below.drew ?_ | (refine below_alloc _ ?_ ?_; focus (first | omega | (simp; done) | (simp; omega) | (simp at *; omega))) | (refine below_set _ ?_ ?_; focus (first | omega | (simp; done) | (simp; omega) | (simp at *; omega))) | refine below_drewN ?_ _ | (refine below_call (by assumption) ?_ ?_; focus (first | omega | (simp; done) | (simp; omega) | (simp at *; omega))) | (refine below_call' (by assumption) ?_ ?_; focus (first | omega | (simp; done) | (simp; omega) | (simp at *; omega))))))); rintro e y4 ⟨A4, c4, rfl, own4, hb4⟩)
      | (go_at_call 56; (with_reducible refine (DCB.out _ A4 c4 A5 c5 ?_ ?_).mono ?_); (focus (exact RowsAt.below (rowsAt_of_own own4 rfl (by decide)) (by repeat (first | assumption | exact Below.refl _ _ | refine Below.drew ?_ | (refine below_alloc _ ?_ ?_; focus (first | omega | (simp; done) | (simp; omega) | (simp at *; omega))) | (refine below_set _ ?_ ?_; focus (first | omega | (simp; done) | (simp; omega) | (simp at *; omega))) | refine below_drewN ?_ _ | (refine below_call (by assumption) ?_ ?_; focus (first | omega | (simp; done) | (simp; omega) | (simp at *; omega))) | (refine below_call' (by assumption) ?_ ?_; focus (first | omega | (simp; done) | (simp; omega) | (simp at *; omega))))))); (focus (exact rowsAt_of_own own5 rfl (by decide))); rintro e w14 ⟨rfl, hb6⟩))
  have hbb : Below w13.heap.size w13 w14 := (by repeat (first | assumption | exact Below.refl _ _ | refine Below.drew ?_ | (refine below_alloc _ ?_ ?_; focus (first | omega | (simp; done) | (simp; omega) | (simp at *; omega))) | (refine below_set _ ?_ ?_; focus (first | omega | (simp; done) | (simp; omega) | (simp at *; omega))) | refine below_drewN ?_ _ | (refine below_call (by assumption) ?_ ?_; focus (first | omega | (simp; done) | (simp; omega) | (simp at *; omega))) | (refine below_call' (by assumption) ?_ ?_; focus (first | omega | (simp; done) | (simp; omega) | (simp at *; omega)))))
  replace fa0 := cell_below' hbb fa0
  replace fa1 := cell_below' hbb fa1
  replace fb0 := cell_below' hbb fb0
  replace fb1 := cell_below' hbb fb1
  replace fc0 := cell_below' hbb fc0
  replace fc1 := cell_below' hbb fc1
  replace fj0 := cell_below' hbb fj0
  replace fj1 := cell_below' hbb fj1
  replace hJn := RowsAt.below hJn hbb
  have hx14 : w.heap.size + 1 + 1 < w14.heap.size := by have := hbb.size; omega
  have hy14 : w.heap.size + 1 < w14.heap.size := by omega
  have hz14 : w.heap.size < w14.heap.size := by omega
  have hjn14 : jb < w14.heap.size := by have := hbb.size; omega
  have hbw14 : Below w.heap.size w w14 := (by repeat (first | assumption | exact Below.refl _ _ | refine Below.drew ?_ | (refine below_alloc _ ?_ ?_; focus (first | omega | (simp; done) | (simp; omega) | (simp at *; omega))) | (refine below_set _ ?_ ?_; focus (first | omega | (simp; done) | (simp; omega) | (simp at *; omega))) | refine below_drewN ?_ _ | (refine below_call (by assumption) ?_ ?_; focus (first | omega | (simp; done) | (simp; omega) | (simp at *; omega))) | (refine below_call' (by assumption) ?_ ?_; focus (first | omega | (simp; done) | (simp; omega) | (simp at *; omega)))))
  clear hb4 hb5 hb6 own4 own5 hbb hbw13 hx13 hy13 hz13 hjn13
  go_wp2_with (fail)
  go_region_held3 (fun w' => w'.cell? ⟨w.heap.size, 0, none⟩ = some (.int .i64 b1) ∧ w'.cell? ⟨w.heap.size, 1, none⟩ = some (.slice A l.length c1) ∧ w'.cell? ⟨jb, 0, none⟩ = some (.int .i64 b1) ∧ w'.cell? ⟨jb, 1, none⟩ = some (.slice AJ q.length cJ))
    ((((try go_split_ands); (repeat' (apply And.intro)) <;> (repeat (first | (with_reducible assumption) | (with_reducible refine cell_drew ?_) | (with_reducible refine cell_alloc _ ?_) | (with_reducible refine cell_below' (by with_reducible assumption) ?_) | (with_reducible refine cell_far ?_ ?_; focus (first | omega | (simp; omega) | (simp; done))))))))
    (first
      | (go_at_call 17; have _hh := own4; (with_reducible refine (HCJ.out _ ?_).mono ?_); (focus (exact RowsAt.below hJn (by repeat (first | assumption | exact Below.refl _ _ | refine Below.drew ?_ | (refine below_alloc _ ?_ ?_; focus (first | omega | (simp; done) | (simp; omega) | (simp at *; omega))) | (refine below_set _ ?_ ?_; focus (first | omega | (simp; done) | (simp; omega) | (simp at *; omega))) | refine below_drewN ?_ _ | (refine below_call (by assumption) ?_ ?_; focus (first | omega | (simp; done) | (simp; omega) | (simp at *; omega))) | (refine below_call' (by assumption) ?_ ?_; focus (first | omega | (simp; done) | (simp; omega) | (simp at *; omega))))))); rintro e y5 ⟨A5, c5, rfl, own5, hb5⟩)
      | (go_at_call 17; (with_reducible refine (HCA.out _ ?_).mono ?_); (focus (exact RowsAt.below hA (by repeat (first | assumption | exact Below.refl _ _ | refine Below.drew ?_ | (refine below_alloc _ ?_ ?_; focus (first | omega | (simp; done) | (simp; omega) | (simp at *; omega))) | (refine below_set _ ?_ ?_; focus (first | omega | (simp; done) | (simp; omega) | (simp at *; omega))) | refine below_drewN ?_ _ | (refine below_call (by assumption) ?_ ?_; focus (first | omega | (simp; done) | (simp; omega) | (simp at *; omega))) | (refine below_call' (by assumption) ?_ ?_; focus (first | omega | (simp; done) | (simp; omega) | (simp at *; omega))))))); rintro e y4 ⟨A4, c4, rfl, own4, hb4⟩)
      | (go_at_call 56; (with_reducible refine (DAJ.out _ A4 c4 A5 c5 ?_ ?_).mono ?_); (focus (exact RowsAt.below (rowsAt_of_own own4 rfl (by decide)) (by repeat (first | assumption | exact Below.refl _ _ | refine Below.drew ?_ | (refine below_alloc _ ?_ ?_; focus (first | omega | (simp; done) | (simp; omega) | (simp at *; omega))) | (refine below_set _ ?_ ?_; focus (first | omega | (simp; done) | (simp; omega) | (simp at *; omega))) | refine below_drewN ?_ _ | (refine below_call (by assumption) ?_ ?_; focus (first | omega | (simp; done) | (simp; omega) | (simp at *; omega))) | (refine below_call' (by assumption) ?_ ?_; focus (first | omega | (simp; done) | (simp; omega) | (simp at *; omega))))))); (focus (exact rowsAt_of_own own5 rfl (by decide))); rintro e w15 ⟨rfl, hb6⟩))
  have hbb : Below w14.heap.size w14 w15 := (by repeat (first | assumption | exact Below.refl _ _ | refine Below.drew ?_ | (refine below_alloc _ ?_ ?_; focus (first | omega | (simp; done) | (simp; omega) | (simp at *; omega))) | (refine below_set _ ?_ ?_; focus (first | omega | (simp; done) | (simp; omega) | (simp at *; omega))) | refine below_drewN ?_ _ | (refine below_call (by assumption) ?_ ?_; focus (first | omega | (simp; done) | (simp; omega) | (simp at *; omega))) | (refine below_call' (by assumption) ?_ ?_; focus (first | omega | (simp; done) | (simp; omega) | (simp at *; omega)))))
  replace fa0 := cell_below' hbb fa0
  replace fa1 := cell_below' hbb fa1
  replace fb0 := cell_below' hbb fb0
  replace fb1 := cell_below' hbb fb1
  replace fc0 := cell_below' hbb fc0
  replace fc1 := cell_below' hbb fc1
  replace fj0 := cell_below' hbb fj0
  replace fj1 := cell_below' hbb fj1
  replace hJn := RowsAt.below hJn hbb
  have hx15 : w.heap.size + 1 + 1 < w15.heap.size := by have := hbb.size; omega
  have hy15 : w.heap.size + 1 < w15.heap.size := by omega
  have hz15 : w.heap.size < w15.heap.size := by omega
  have hjn15 : jb < w15.heap.size := by have := hbb.size; omega
  have hbw15 : Below w.heap.size w w15 := (by repeat (first | assumption | exact Below.refl _ _ | refine Below.drew ?_ | (refine below_alloc _ ?_ ?_; focus (first | omega | (simp; done) | (simp; omega) | (simp at *; omega))) | (refine below_set _ ?_ ?_; focus (first | omega | (simp; done) | (simp; omega) | (simp at *; omega))) | refine below_drewN ?_ _ | (refine below_call (by assumption) ?_ ?_; focus (first | omega | (simp; done) | (simp; omega) | (simp at *; omega))) | (refine below_call' (by assumption) ?_ ?_; focus (first | omega | (simp; done) | (simp; omega) | (simp at *; omega)))))
  clear hb4 hb5 hb6 own4 own5 hbb hbw14 hx14 hy14 hz14 hjn14
  go_wp2_with (fail)
  go_region_held3 (fun w' => w'.cell? ⟨w.heap.size, 0, none⟩ = some (.int .i64 b1) ∧ w'.cell? ⟨w.heap.size, 1, none⟩ = some (.slice A l.length c1))
    ((((try go_split_ands); (repeat' (apply And.intro)) <;> (repeat (first | (with_reducible assumption) | (with_reducible refine cell_drew ?_) | (with_reducible refine cell_alloc _ ?_) | (with_reducible refine cell_below' (by with_reducible assumption) ?_) | (with_reducible refine cell_far ?_ ?_; focus (first | omega | (simp; omega) | (simp; done))))))))
    (first
      | (go_at_call 17; have _hh := own4; (with_reducible refine (HCA.out _ ?_).mono ?_); (focus (exact RowsAt.below hA (by repeat (first | assumption | exact Below.refl _ _ | refine Below.drew ?_ | (refine below_alloc _ ?_ ?_; focus (first | omega | (simp; done) | (simp; omega) | (simp at *; omega))) | (refine below_set _ ?_ ?_; focus (first | omega | (simp; done) | (simp; omega) | (simp at *; omega))) | refine below_drewN ?_ _ | (refine below_call (by assumption) ?_ ?_; focus (first | omega | (simp; done) | (simp; omega) | (simp at *; omega))) | (refine below_call' (by assumption) ?_ ?_; focus (first | omega | (simp; done) | (simp; omega) | (simp at *; omega))))))); rintro e y5 ⟨A5, c5, rfl, own5, hb5⟩)
      | (go_at_call 17; (with_reducible refine (HCA.out _ ?_).mono ?_); (focus (exact RowsAt.below hA (by repeat (first | assumption | exact Below.refl _ _ | refine Below.drew ?_ | (refine below_alloc _ ?_ ?_; focus (first | omega | (simp; done) | (simp; omega) | (simp at *; omega))) | (refine below_set _ ?_ ?_; focus (first | omega | (simp; done) | (simp; omega) | (simp at *; omega))) | refine below_drewN ?_ _ | (refine below_call (by assumption) ?_ ?_; focus (first | omega | (simp; done) | (simp; omega) | (simp at *; omega))) | (refine below_call' (by assumption) ?_ ?_; focus (first | omega | (simp; done) | (simp; omega) | (simp at *; omega))))))); rintro e y4 ⟨A4, c4, rfl, own4, hb4⟩)
      | (go_at_call 56; (with_reducible refine (DAA.out _ A4 c4 A5 c5 ?_ ?_).mono ?_); (focus (exact RowsAt.below (rowsAt_of_own own4 rfl (by decide)) (by repeat (first | assumption | exact Below.refl _ _ | refine Below.drew ?_ | (refine below_alloc _ ?_ ?_; focus (first | omega | (simp; done) | (simp; omega) | (simp at *; omega))) | (refine below_set _ ?_ ?_; focus (first | omega | (simp; done) | (simp; omega) | (simp at *; omega))) | refine below_drewN ?_ _ | (refine below_call (by assumption) ?_ ?_; focus (first | omega | (simp; done) | (simp; omega) | (simp at *; omega))) | (refine below_call' (by assumption) ?_ ?_; focus (first | omega | (simp; done) | (simp; omega) | (simp at *; omega))))))); (focus (exact rowsAt_of_own own5 rfl (by decide))); rintro e w16 ⟨rfl, hb6⟩))
  have hbb : Below w15.heap.size w15 w16 := (by repeat (first | assumption | exact Below.refl _ _ | refine Below.drew ?_ | (refine below_alloc _ ?_ ?_; focus (first | omega | (simp; done) | (simp; omega) | (simp at *; omega))) | (refine below_set _ ?_ ?_; focus (first | omega | (simp; done) | (simp; omega) | (simp at *; omega))) | refine below_drewN ?_ _ | (refine below_call (by assumption) ?_ ?_; focus (first | omega | (simp; done) | (simp; omega) | (simp at *; omega))) | (refine below_call' (by assumption) ?_ ?_; focus (first | omega | (simp; done) | (simp; omega) | (simp at *; omega)))))
  replace fa0 := cell_below' hbb fa0
  replace fa1 := cell_below' hbb fa1
  replace fb0 := cell_below' hbb fb0
  replace fb1 := cell_below' hbb fb1
  replace fc0 := cell_below' hbb fc0
  replace fc1 := cell_below' hbb fc1
  replace fj0 := cell_below' hbb fj0
  replace fj1 := cell_below' hbb fj1
  replace hJn := RowsAt.below hJn hbb
  have hx16 : w.heap.size + 1 + 1 < w16.heap.size := by have := hbb.size; omega
  have hy16 : w.heap.size + 1 < w16.heap.size := by omega
  have hz16 : w.heap.size < w16.heap.size := by omega
  have hjn16 : jb < w16.heap.size := by have := hbb.size; omega
  have hbw16 : Below w.heap.size w w16 := (by repeat (first | assumption | exact Below.refl _ _ | refine Below.drew ?_ | (refine below_alloc _ ?_ ?_; focus (first | omega | (simp; done) | (simp; omega) | (simp at *; omega))) | (refine below_set _ ?_ ?_; focus (first | omega | (simp; done) | (simp; omega) | (simp at *; omega))) | refine below_drewN ?_ _ | (refine below_call (by assumption) ?_ ?_; focus (first | omega | (simp; done) | (simp; omega) | (simp at *; omega))) | (refine below_call' (by assumption) ?_ ?_; focus (first | omega | (simp; done) | (simp; omega) | (simp at *; omega)))))
  clear hb4 hb5 hb6 own4 own5 hbb hbw15 hx15 hy15 hz15 hjn15
  go_wp2_with (fail)
  refine (HCA.out _ (RowsAt.below hA (by repeat (first | assumption | exact Below.refl _ _ | refine Below.drew ?_ | (refine below_alloc _ ?_ ?_; focus (first | omega | (simp; done) | (simp; omega) | (simp at *; omega))) | (refine below_set _ ?_ ?_; focus (first | omega | (simp; done) | (simp; omega) | (simp at *; omega))) | refine below_drewN ?_ _ | (refine below_call (by assumption) ?_ ?_; focus (first | omega | (simp; done) | (simp; omega) | (simp at *; omega))) | (refine below_call' (by assumption) ?_ ?_; focus (first | omega | (simp; done) | (simp; omega) | (simp at *; omega))))))).mono ?_
  rintro e y4 ⟨A4, c4, rfl, own4, hb4⟩
  have hS4 : SlabsAt y4 A4 l := rowsAt_of_own own4 rfl (by decide)
  replace fa0 := cell_below' hb4 fa0
  replace fa1 := cell_below' hb4 fa1
  replace fb0 := cell_below' hb4 fb0
  replace fb1 := cell_below' hb4 fb1
  replace fc0 := cell_below' hb4 fc0
  replace fc1 := cell_below' hb4 fc1
  replace fj0 := cell_below' hb4 fj0
  replace fj1 := cell_below' hb4 fj1
  have hjy : jb < y4.heap.size := by have := hb4.size; omega
  have hxy : w.heap.size + 1 + 1 < y4.heap.size := by have := hb4.size; omega
  have hyy : w.heap.size + 1 < y4.heap.size := by omega
  have hzy : w.heap.size < y4.heap.size := by omega
  clear own4
  go_wp2_with (fail)
  refine (SA.out _ A4 c4 hS4).mono ?_
  rintro e w17 ⟨rfl, hb5⟩
  replace fa0 := cell_below' hb5 fa0
  replace fa1 := cell_below' hb5 fa1
  replace fb0 := cell_below' hb5 fb0
  replace fb1 := cell_below' hb5 fb1
  replace fc0 := cell_below' hb5 fc0
  replace fc1 := cell_below' hb5 fc1
  replace fj0 := cell_below' hb5 fj0
  replace fj1 := cell_below' hb5 fj1
  have hbb : Below w16.heap.size w16 w17 := (by repeat (first | assumption | exact Below.refl _ _ | refine Below.drew ?_ | (refine below_alloc _ ?_ ?_; focus (first | omega | (simp; done) | (simp; omega) | (simp at *; omega))) | (refine below_set _ ?_ ?_; focus (first | omega | (simp; done) | (simp; omega) | (simp at *; omega))) | refine below_drewN ?_ _ | (refine below_call (by assumption) ?_ ?_; focus (first | omega | (simp; done) | (simp; omega) | (simp at *; omega))) | (refine below_call' (by assumption) ?_ ?_; focus (first | omega | (simp; done) | (simp; omega) | (simp at *; omega)))))
  replace hJn := RowsAt.below hJn hbb
  have hx17 : w.heap.size + 1 + 1 < w17.heap.size := by have := hbb.size; omega
  have hy17 : w.heap.size + 1 < w17.heap.size := by omega
  have hz17 : w.heap.size < w17.heap.size := by omega
  have hjn17 : jb < w17.heap.size := by have := hbb.size; omega
  have hbw17 : Below w.heap.size w w17 := (by repeat (first | assumption | exact Below.refl _ _ | refine Below.drew ?_ | (refine below_alloc _ ?_ ?_; focus (first | omega | (simp; done) | (simp; omega) | (simp at *; omega))) | (refine below_set _ ?_ ?_; focus (first | omega | (simp; done) | (simp; omega) | (simp at *; omega))) | refine below_drewN ?_ _ | (refine below_call (by assumption) ?_ ?_; focus (first | omega | (simp; done) | (simp; omega) | (simp at *; omega))) | (refine below_call' (by assumption) ?_ ?_; focus (first | omega | (simp; done) | (simp; omega) | (simp at *; omega)))))
  clear hb4 hb5 hbb hS4 hbw16 hx16 hy16 hz16 hjn16 hjy hxy hyy hzy
  go_wp2_with (fail)
  refine (HCJ.out _ (RowsAt.below hJn (by repeat (first | assumption | exact Below.refl _ _ | refine Below.drew ?_ | (refine below_alloc _ ?_ ?_; focus (first | omega | (simp; done) | (simp; omega) | (simp at *; omega))) | (refine below_set _ ?_ ?_; focus (first | omega | (simp; done) | (simp; omega) | (simp at *; omega))) | refine below_drewN ?_ _ | (refine below_call (by assumption) ?_ ?_; focus (first | omega | (simp; done) | (simp; omega) | (simp at *; omega))) | (refine below_call' (by assumption) ?_ ?_; focus (first | omega | (simp; done) | (simp; omega) | (simp at *; omega))))))).mono ?_
  rintro e y4 ⟨A4, c4, rfl, own4, hb4⟩
  have hS4 : SlabsAt y4 A4 q := rowsAt_of_own own4 rfl (by decide)
  replace fa0 := cell_below' hb4 fa0
  replace fa1 := cell_below' hb4 fa1
  replace fb0 := cell_below' hb4 fb0
  replace fb1 := cell_below' hb4 fb1
  replace fc0 := cell_below' hb4 fc0
  replace fc1 := cell_below' hb4 fc1
  replace fj0 := cell_below' hb4 fj0
  replace fj1 := cell_below' hb4 fj1
  have hjy : jb < y4.heap.size := by have := hb4.size; omega
  have hxy : w.heap.size + 1 + 1 < y4.heap.size := by have := hb4.size; omega
  have hyy : w.heap.size + 1 < y4.heap.size := by omega
  have hzy : w.heap.size < y4.heap.size := by omega
  clear own4
  go_wp2_with (fail)
  refine (SJ.out _ A4 c4 hS4).mono ?_
  rintro e w18 ⟨rfl, hb5⟩
  replace fa0 := cell_below' hb5 fa0
  replace fa1 := cell_below' hb5 fa1
  replace fb0 := cell_below' hb5 fb0
  replace fb1 := cell_below' hb5 fb1
  replace fc0 := cell_below' hb5 fc0
  replace fc1 := cell_below' hb5 fc1
  replace fj0 := cell_below' hb5 fj0
  replace fj1 := cell_below' hb5 fj1
  have hbb : Below w17.heap.size w17 w18 := (by repeat (first | assumption | exact Below.refl _ _ | refine Below.drew ?_ | (refine below_alloc _ ?_ ?_; focus (first | omega | (simp; done) | (simp; omega) | (simp at *; omega))) | (refine below_set _ ?_ ?_; focus (first | omega | (simp; done) | (simp; omega) | (simp at *; omega))) | refine below_drewN ?_ _ | (refine below_call (by assumption) ?_ ?_; focus (first | omega | (simp; done) | (simp; omega) | (simp at *; omega))) | (refine below_call' (by assumption) ?_ ?_; focus (first | omega | (simp; done) | (simp; omega) | (simp at *; omega)))))
  replace hJn := RowsAt.below hJn hbb
  have hx18 : w.heap.size + 1 + 1 < w18.heap.size := by have := hbb.size; omega
  have hy18 : w.heap.size + 1 < w18.heap.size := by omega
  have hz18 : w.heap.size < w18.heap.size := by omega
  have hjn18 : jb < w18.heap.size := by have := hbb.size; omega
  have hbw18 : Below w.heap.size w w18 := (by repeat (first | assumption | exact Below.refl _ _ | refine Below.drew ?_ | (refine below_alloc _ ?_ ?_; focus (first | omega | (simp; done) | (simp; omega) | (simp at *; omega))) | (refine below_set _ ?_ ?_; focus (first | omega | (simp; done) | (simp; omega) | (simp at *; omega))) | refine below_drewN ?_ _ | (refine below_call (by assumption) ?_ ?_; focus (first | omega | (simp; done) | (simp; omega) | (simp at *; omega))) | (refine below_call' (by assumption) ?_ ?_; focus (first | omega | (simp; done) | (simp; omega) | (simp at *; omega)))))
  clear hb4 hb5 hbb hS4 hbw17 hx17 hy17 hz17 hjn17 hjy hxy hyy hzy
  have hwx : ∀ W, Calls Try.prog 23 #[.int .i64 x, .int .i64 0, .int .i64 1099511627776] W fun e w' => e = .returned (.bool true) ∧ W = w' := fun W => (by have := Within_any x 0 1099511627776 W; rwa [show withinB x 0 1099511627776 = true from withinB_true.2 ⟨hdx0, by omega⟩] at this)
  have hwu : ∀ W, Calls Try.prog 23 #[.int .i64 u, .int .i64 0, .int .i64 1099511627776] W fun e w' => e = .returned (.bool true) ∧ W = w' := fun W => (by have := Within_any u 0 1099511627776 W; rwa [show withinB u 0 1099511627776 = true from withinB_true.2 ⟨hu0, by omega⟩] at this)
  have hwv : ∀ W, Calls Try.prog 23 #[.int .i64 v, .int .i64 0, .int .i64 1099511627776] W fun e w' => e = .returned (.bool true) ∧ W = w' := fun W => (by have := Within_any v 0 1099511627776 W; rwa [show withinB v 0 1099511627776 = true from withinB_true.2 ⟨hv0, by omega⟩] at this)
  have HWX := Lib.hid hwx
  have HWU := Lib.hid hwu
  have HWV := Lib.hid hwv
  clear hwx hwu hwv
  go_wp2_with (first | (go_at_call 23; ((with_reducible refine (HWX.out _).mono ?_); rintro e w' ⟨rfl, rfl⟩)) | (go_at_call 23; ((with_reducible refine (HWU.out _).mono ?_); rintro e w' ⟨rfl, rfl⟩)) | (go_at_call 23; ((with_reducible refine (HWV.out _).mono ?_); rintro e w' ⟨rfl, rfl⟩)))
  go_ret
  exact ⟨rfl, (by repeat (first | assumption | exact Below.refl _ _ | refine Below.drew ?_ | (refine below_alloc _ ?_ ?_; focus (first | omega | (simp; done) | (simp; omega) | (simp at *; omega))) | (refine below_set _ ?_ ?_; focus (first | omega | (simp; done) | (simp; omega) | (simp at *; omega))) | refine below_drewN ?_ _ | (refine below_call (by assumption) ?_ ?_; focus (first | omega | (simp; done) | (simp; omega) | (simp at *; omega))) | (refine below_call' (by assumption) ?_ ?_; focus (first | omega | (simp; done) | (simp; omega) | (simp at *; omega)))))⟩
end Go.Proofs.Ytoegpaolbkcleaa
