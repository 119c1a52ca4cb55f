/-
  The answer of a profile for a point: the program's and the reference's.
-/
import Derived.Test.YtoegpaolbkcleaaTofR
import Derived.Test.YtoegpaolbkcleaaTrs
namespace Go.Proofs.Ytoegpaolbkcleaa
open Go.ChangeShapes Go.WideShapes Go.ChangeAt Go.RowKit
set_option linter.unusedVariables false
set_option linter.unusedSimpArgs false

theorem virt_le {base : Int} {l : List Slb} {f : Int} {k : Nat} (hp : Passed base l f k) : virtLo base l f k ≤ virtHi base l f k := by
  have hb := hp.bd k (Nat.le_refl _)
  unfold virtLo virtHi ceilI
  omega
def ans3 (lo hi plo phi : Int) : Int := if plo ≤ lo ∧ hi ≤ phi then 2 else if phi < lo ∨ hi < plo then 0 else 1
def ansI (base : Int) (l : List Slb) (p : Pt) : Int :=
  if (refl base l p.f).2 < 0 then 0 else ans3 (virtLo base l p.f (refl base l p.f).2.toNat) (virtHi base l p.f (refl base l p.f).2.toNat) p.lo p.hi

set_option maxRecDepth 100000 in
set_option maxHeartbeats 2000000 in
theorem answer_any (base : Int) (A : Option Addr) (l : List Slb) (cap : Nat) (p : Pt) (w : World) (ho : Ok base l) (hcap : l.length ≤ cap) (f0 : 1 ≤ p.f) (f1 : p.f ≤ 3000) (hA : SlabsAt w A l) :
    Calls Try.prog 85 #[.agg #[.int .i64 base, .slice A l.length cap], .agg #[.int .i64 p.f, .int .i64 p.lo, .int .i64 p.hi]] w fun e w' => e = .returned (.int .i64 (ansI base l p)) ∧ Below w.heap.size w w' := by
  have hd : ansI base l p = if (refl base l p.f).2 < 0 then 0 else ans3 (virtLo base l p.f (refl base l p.f).2.toNat) (virtHi base l p.f (refl base l p.f).2.toNat) p.lo p.hi := rfl
  have hrr := @refl_passed base l p.f ho (by omega) f1
  have HR := Lib.hid hrr
  have HO := Lib.hid ho
  clear hrr ho
  go_enter Try.func85, Try.ntmps85
  have HD := Lib.hid hd
  clear hd
  go_wp2_with (fail)
  refine (reflected_any base A l cap p.f _ HO.out (hA.below (by repeat (first | assumption | exact Below.refl _ _ | refine Below.drew ?_ | (refine below_alloc _ ?_ ?_; focus (first | omega | (simp; done) | (simp; omega) | (simp at *; omega))) | (refine below_set _ ?_ ?_; focus (first | omega | (simp; done) | (simp; omega) | (simp at *; omega))) | refine below_drewN ?_ _ | (refine below_call (by assumption) ?_ ?_; focus (first | omega | (simp; done) | (simp; omega) | (simp at *; omega))) | (refine below_call' (by assumption) ?_ ?_; focus (first | omega | (simp; done) | (simp; omega) | (simp at *; omega)))))) (by omega) f1).mono ?_
  rintro e w1 ⟨rfl, hb1⟩
  have hd := HD.out
  have hz1 : w.heap.size + 1 < w1.heap.size := by have := hb1.size; simp at this; omega
  have hz0 : w.heap.size < w1.heap.size := by omega
  have a0 : w1.cell? ⟨w.heap.size, 0, none⟩ = some (.int .i64 base) := cell_below' hb1 (by repeat (first | assumption | (refine cell_new ?_ rfl; focus (simp; done)) | refine cell_drew ?_ | refine cell_alloc _ ?_ | refine cell_drewN _ ?_ | (refine cell_far ?_ ?_; focus (first | omega | (simp; omega) | (simp; done))) | refine cell_below' (by assumption) ?_))
  have a1 : w1.cell? ⟨w.heap.size, 1, none⟩ = some (.slice A l.length cap) := cell_below' hb1 (by repeat (first | assumption | (refine cell_new ?_ rfl; focus (simp; done)) | refine cell_drew ?_ | refine cell_alloc _ ?_ | refine cell_drewN _ ?_ | (refine cell_far ?_ ?_; focus (first | omega | (simp; omega) | (simp; done))) | refine cell_below' (by assumption) ?_))
  have p0 : w1.cell? ⟨w.heap.size + 1, 0, none⟩ = some (.int .i64 p.f) := cell_below' hb1 (by repeat (first | assumption | (refine cell_new ?_ rfl; focus (simp; done)) | refine cell_drew ?_ | refine cell_alloc _ ?_ | refine cell_drewN _ ?_ | (refine cell_far ?_ ?_; focus (first | omega | (simp; omega) | (simp; done))) | refine cell_below' (by assumption) ?_))
  have p1 : w1.cell? ⟨w.heap.size + 1, 1, none⟩ = some (.int .i64 p.lo) := cell_below' hb1 (by repeat (first | assumption | (refine cell_new ?_ rfl; focus (simp; done)) | refine cell_drew ?_ | refine cell_alloc _ ?_ | refine cell_drewN _ ?_ | (refine cell_far ?_ ?_; focus (first | omega | (simp; omega) | (simp; done))) | refine cell_below' (by assumption) ?_))
  have p2 : w1.cell? ⟨w.heap.size + 1, 2, none⟩ = some (.int .i64 p.hi) := cell_below' hb1 (by repeat (first | assumption | (refine cell_new ?_ rfl; focus (simp; done)) | refine cell_drew ?_ | refine cell_alloc _ ?_ | refine cell_drewN _ ?_ | (refine cell_far ?_ ?_; focus (first | omega | (simp; omega) | (simp; done))) | refine cell_below' (by assumption) ?_))
  have hbw1 : Below w.heap.size w w1 := (by repeat (first | assumption | exact Below.refl _ _ | refine Below.drew ?_ | (refine below_alloc _ ?_ ?_; focus (first | omega | (simp; done) | (simp; omega) | (simp at *; omega))) | (refine below_set _ ?_ ?_; focus (first | omega | (simp; done) | (simp; omega) | (simp at *; omega))) | refine below_drewN ?_ _ | (refine below_call (by assumption) ?_ ?_; focus (first | omega | (simp; done) | (simp; omega) | (simp at *; omega))) | (refine below_call' (by assumption) ?_ ?_; focus (first | omega | (simp; done) | (simp; omega) | (simp at *; omega)))))
  clear hb1
  by_cases hi : (refl base l p.f).2 < 0
  · rw [if_pos hi] at hd
    have HD2 := Lib.hid hd
    clear hd HD HR
    go_wp2
    go_ret
    exact ⟨ret_eq (by rw [HD2.out]; rfl), (by repeat (first | assumption | exact Below.refl _ _ | refine Below.drew ?_ | (refine below_alloc _ ?_ ?_; focus (first | omega | (simp; done) | (simp; omega) | (simp at *; omega))) | (refine below_set _ ?_ ?_; focus (first | omega | (simp; done) | (simp; omega) | (simp at *; omega))) | refine below_drewN ?_ _ | (refine below_call (by assumption) ?_ ?_; focus (first | omega | (simp; done) | (simp; omega) | (simp at *; omega))) | (refine below_call' (by assumption) ?_ ?_; focus (first | omega | (simp; done) | (simp; omega) | (simp at *; omega)))))⟩
  rw [if_neg hi] at hd
  obtain ⟨kk, e1, e2, e3, e4⟩ := HR.out (by omega)
  have hle := virt_le e3
  rw [e1, Int.toNat_natCast] at hd
  rw [e1]
  have HP := Lib.hid e3
  clear HR HD hi e1 e3 e4
  go_wp2_with (fail)
  refine (virtual_any base A l cap p.f kk _ HP.out hcap (hA.below (by repeat (first | assumption | exact Below.refl _ _ | refine Below.drew ?_ | (refine below_alloc _ ?_ ?_; focus (first | omega | (simp; done) | (simp; omega) | (simp at *; omega))) | (refine below_set _ ?_ ?_; focus (first | omega | (simp; done) | (simp; omega) | (simp at *; omega))) | refine below_drewN ?_ _ | (refine below_call (by assumption) ?_ ?_; focus (first | omega | (simp; done) | (simp; omega) | (simp at *; omega))) | (refine below_call' (by assumption) ?_ ?_; focus (first | omega | (simp; done) | (simp; omega) | (simp at *; omega))))))).mono ?_
  rintro e w2 ⟨rfl, hb2⟩
  replace p1 := cell_below' hb2 p1
  replace p2 := cell_below' hb2 p2
  have hz2 : w.heap.size + 1 < w2.heap.size := by have := hb2.size; omega
  have hbw2 : Below w.heap.size w w2 := (by repeat (first | assumption | exact Below.refl _ _ | refine Below.drew ?_ | (refine below_alloc _ ?_ ?_; focus (first | omega | (simp; done) | (simp; omega) | (simp at *; omega))) | (refine below_set _ ?_ ?_; focus (first | omega | (simp; done) | (simp; omega) | (simp at *; omega))) | refine below_drewN ?_ _ | (refine below_call (by assumption) ?_ ?_; focus (first | omega | (simp; done) | (simp; omega) | (simp at *; omega))) | (refine below_call' (by assumption) ?_ ?_; focus (first | omega | (simp; done) | (simp; omega) | (simp at *; omega)))))
  clear hb2 hbw1 hz1 hz0 a0 a1 p0
  generalize virtLo base l p.f kk = lo at *
  generalize virtHi base l p.f kk = hh at *
  have hw1 : ∀ W, Calls Try.prog 75 #[.int .i64 lo, .int .i64 p.lo, .int .i64 p.hi] W fun e w' => e = .returned (.bool (withinB lo p.lo p.hi)) ∧ W = w' := fun W => within_any _ _ _ W
  have hw2 : ∀ W, Calls Try.prog 75 #[.int .i64 hh, .int .i64 p.lo, .int .i64 p.hi] W fun e w' => e = .returned (.bool (withinB hh p.lo p.hi)) ∧ W = w' := fun W => within_any _ _ _ W
  by_cases c1 : p.lo ≤ lo ∧ hh ≤ p.hi
  · have x1 : withinB lo p.lo p.hi = true := withinB_true.2 ⟨c1.1, by omega⟩
    have x2 : withinB hh p.lo p.hi = true := withinB_true.2 ⟨by omega, c1.2⟩
    rw [x1] at hw1
    rw [x2] at hw2
    unfold ans3 at hd
    rw [if_pos c1] at hd
    have HW1 := Lib.hid hw1
    have HW2 := Lib.hid hw2
    have HD2 := Lib.hid hd
    clear hd hw1 hw2 x1 x2 c1
    go_wp2_with (first | (go_at_call 75; ((with_reducible refine (HW1.out _).mono ?_); rintro e w' ⟨rfl, rfl⟩)) | (go_at_call 75; ((with_reducible refine (HW2.out _).mono ?_); rintro e w' ⟨rfl, rfl⟩)))
    go_ret
    exact ⟨ret_eq (by rw [HD2.out]; rfl), (by repeat (first | assumption | exact Below.refl _ _ | refine Below.drew ?_ | (refine below_alloc _ ?_ ?_; focus (first | omega | (simp; done) | (simp; omega) | (simp at *; omega))) | (refine below_set _ ?_ ?_; focus (first | omega | (simp; done) | (simp; omega) | (simp at *; omega))) | refine below_drewN ?_ _ | (refine below_call (by assumption) ?_ ?_; focus (first | omega | (simp; done) | (simp; omega) | (simp at *; omega))) | (refine below_call' (by assumption) ?_ ?_; focus (first | omega | (simp; done) | (simp; omega) | (simp at *; omega)))))⟩
  · unfold ans3 at hd
    rw [if_neg c1] at hd
    have hor : (withinB lo p.lo p.hi = false) ∨ (withinB lo p.lo p.hi = true ∧ withinB hh p.lo p.hi = false) := by
      cases y1 : withinB lo p.lo p.hi
      · exact .inl rfl
      · refine .inr ⟨rfl, Bool.eq_false_iff.2 fun y2 => c1 ⟨(withinB_true.1 y1).1, (withinB_true.1 y2).2⟩⟩
    by_cases c3 : p.hi < lo
    · rw [if_pos (.inl c3)] at hd
      have HD2 := Lib.hid hd
      clear hd
      rcases hor with x1 | ⟨x1, x2⟩
      · rw [x1] at hw1
        have HW1 := Lib.hid hw1
        clear hw1 hw2 x1 c1
        go_wp2_with (go_at_call 75; ((with_reducible refine (HW1.out _).mono ?_); rintro e w' ⟨rfl, rfl⟩))
        go_ret
        exact ⟨ret_eq (by rw [HD2.out]; rfl), (by repeat (first | assumption | exact Below.refl _ _ | refine Below.drew ?_ | (refine below_alloc _ ?_ ?_; focus (first | omega | (simp; done) | (simp; omega) | (simp at *; omega))) | (refine below_set _ ?_ ?_; focus (first | omega | (simp; done) | (simp; omega) | (simp at *; omega))) | refine below_drewN ?_ _ | (refine below_call (by assumption) ?_ ?_; focus (first | omega | (simp; done) | (simp; omega) | (simp at *; omega))) | (refine below_call' (by assumption) ?_ ?_; focus (first | omega | (simp; done) | (simp; omega) | (simp at *; omega)))))⟩
      · have := (withinB_true.1 x1).2
        omega
    by_cases c4 : hh < p.lo
    · rw [if_pos (.inr c4)] at hd
      have HD2 := Lib.hid hd
      have c3' : decide (p.hi < lo) = false := by simpa using c3
      clear hd
      rcases hor with x1 | ⟨x1, x2⟩
      · rw [x1] at hw1
        have HW1 := Lib.hid hw1
        clear hw1 hw2 x1 c1 c3
        go_wp2_with (go_at_call 75; ((with_reducible refine (HW1.out _).mono ?_); rintro e w' ⟨rfl, rfl⟩))
        go_ret
        exact ⟨ret_eq (by rw [HD2.out]; rfl), (by repeat (first | assumption | exact Below.refl _ _ | refine Below.drew ?_ | (refine below_alloc _ ?_ ?_; focus (first | omega | (simp; done) | (simp; omega) | (simp at *; omega))) | (refine below_set _ ?_ ?_; focus (first | omega | (simp; done) | (simp; omega) | (simp at *; omega))) | refine below_drewN ?_ _ | (refine below_call (by assumption) ?_ ?_; focus (first | omega | (simp; done) | (simp; omega) | (simp at *; omega))) | (refine below_call' (by assumption) ?_ ?_; focus (first | omega | (simp; done) | (simp; omega) | (simp at *; omega)))))⟩
      · have := (withinB_true.1 x1).1
        omega
    rw [if_neg (by omega)] at hd
    have HD2 := Lib.hid hd
    have c3' : decide (p.hi < lo) = false := by simpa using c3
    have c4' : decide (hh < p.lo) = false := by simpa using c4
    clear hd
    rcases hor with x1 | ⟨x1, x2⟩
    · rw [x1] at hw1
      have HW1 := Lib.hid hw1
      clear hw1 hw2 x1 c1 c3 c4
      go_wp2_with (go_at_call 75; ((with_reducible refine (HW1.out _).mono ?_); rintro e w' ⟨rfl, rfl⟩))
      go_ret
      exact ⟨ret_eq (by rw [HD2.out]; rfl), (by repeat (first | assumption | exact Below.refl _ _ | refine Below.drew ?_ | (refine below_alloc _ ?_ ?_; focus (first | omega | (simp; done) | (simp; omega) | (simp at *; omega))) | (refine below_set _ ?_ ?_; focus (first | omega | (simp; done) | (simp; omega) | (simp at *; omega))) | refine below_drewN ?_ _ | (refine below_call (by assumption) ?_ ?_; focus (first | omega | (simp; done) | (simp; omega) | (simp at *; omega))) | (refine below_call' (by assumption) ?_ ?_; focus (first | omega | (simp; done) | (simp; omega) | (simp at *; omega)))))⟩
    · rw [x1] at hw1
      rw [x2] at hw2
      have HW1 := Lib.hid hw1
      have HW2 := Lib.hid hw2
      clear hw1 hw2 x1 x2 c1 c3 c4
      go_wp2_with (first | (go_at_call 75; ((with_reducible refine (HW1.out _).mono ?_); rintro e w' ⟨rfl, rfl⟩)) | (go_at_call 75; ((with_reducible refine (HW2.out _).mono ?_); rintro e w' ⟨rfl, rfl⟩)))
      go_ret
      exact ⟨ret_eq (by rw [HD2.out]; rfl), (by repeat (first | assumption | exact Below.refl _ _ | refine Below.drew ?_ | (refine below_alloc _ ?_ ?_; focus (first | omega | (simp; done) | (simp; omega) | (simp at *; omega))) | (refine below_set _ ?_ ?_; focus (first | omega | (simp; done) | (simp; omega) | (simp at *; omega))) | refine below_drewN ?_ _ | (refine below_call (by assumption) ?_ ?_; focus (first | omega | (simp; done) | (simp; omega) | (simp at *; omega))) | (refine below_call' (by assumption) ?_ ?_; focus (first | omega | (simp; done) | (simp; omega) | (simp at *; omega)))))⟩

set_option maxRecDepth 100000 in
set_option maxHeartbeats 2000000 in
theorem Agrees_any (base : Int) (A : Option Addr) (l : List Slb) (cap : Nat) (p : Pt) (w : World) (ho : Ok base l) (f0 : 1 ≤ p.f) (f1 : p.f ≤ 3000) (hA : SlabsAt w A l) :
    Calls Try.prog 44 #[.agg #[.int .i64 base, .slice A l.length cap], .agg #[.int .i64 p.f, .int .i64 p.lo, .int .i64 p.hi]] w fun e w' => e = .returned (.int .i64 (ansI base l p)) ∧ Below w.heap.size w w' := by
  have hd : ansI base l p = if (refl base l p.f).2 < 0 then 0 else ans3 (virtLo base l p.f (refl base l p.f).2.toNat) (virtHi base l p.f (refl base l p.f).2.toNat) p.lo p.hi := rfl
  have hrr := @refl_passed base l p.f ho (by omega) f1
  have HR := Lib.hid hrr
  have HO := Lib.hid ho
  clear hrr ho
  go_enter Try.func44, Try.ntmps44
  have HD := Lib.hid hd
  clear hd
  go_wp2_with (fail)
  refine (RReflected_any base A l cap p.f _ HO.out (hA.below (by repeat (first | assumption | exact Below.refl _ _ | refine Below.drew ?_ | (refine below_alloc _ ?_ ?_; focus (first | omega | (simp; done) | (simp; omega) | (simp at *; omega))) | (refine below_set _ ?_ ?_; focus (first | omega | (simp; done) | (simp; omega) | (simp at *; omega))) | refine below_drewN ?_ _ | (refine below_call (by assumption) ?_ ?_; focus (first | omega | (simp; done) | (simp; omega) | (simp at *; omega))) | (refine below_call' (by assumption) ?_ ?_; focus (first | omega | (simp; done) | (simp; omega) | (simp at *; omega)))))) (by omega) f1).mono ?_
  rintro e w1 ⟨rfl, hb1⟩
  have hd := HD.out
  have hz1 : w.heap.size + 1 < w1.heap.size := by have := hb1.size; simp at this; omega
  have hz0 : w.heap.size < w1.heap.size := by omega
  have a0 : w1.cell? ⟨w.heap.size, 0, none⟩ = some (.int .i64 base) := cell_below' hb1 (by repeat (first | assumption | (refine cell_new ?_ rfl; focus (simp; done)) | refine cell_drew ?_ | refine cell_alloc _ ?_ | refine cell_drewN _ ?_ | (refine cell_far ?_ ?_; focus (first | omega | (simp; omega) | (simp; done))) | refine cell_below' (by assumption) ?_))
  have a1 : w1.cell? ⟨w.heap.size, 1, none⟩ = some (.slice A l.length cap) := cell_below' hb1 (by repeat (first | assumption | (refine cell_new ?_ rfl; focus (simp; done)) | refine cell_drew ?_ | refine cell_alloc _ ?_ | refine cell_drewN _ ?_ | (refine cell_far ?_ ?_; focus (first | omega | (simp; omega) | (simp; done))) | refine cell_below' (by assumption) ?_))
  have p0 : w1.cell? ⟨w.heap.size + 1, 0, none⟩ = some (.int .i64 p.f) := cell_below' hb1 (by repeat (first | assumption | (refine cell_new ?_ rfl; focus (simp; done)) | refine cell_drew ?_ | refine cell_alloc _ ?_ | refine cell_drewN _ ?_ | (refine cell_far ?_ ?_; focus (first | omega | (simp; omega) | (simp; done))) | refine cell_below' (by assumption) ?_))
  have p1 : w1.cell? ⟨w.heap.size + 1, 1, none⟩ = some (.int .i64 p.lo) := cell_below' hb1 (by repeat (first | assumption | (refine cell_new ?_ rfl; focus (simp; done)) | refine cell_drew ?_ | refine cell_alloc _ ?_ | refine cell_drewN _ ?_ | (refine cell_far ?_ ?_; focus (first | omega | (simp; omega) | (simp; done))) | refine cell_below' (by assumption) ?_))
  have p2 : w1.cell? ⟨w.heap.size + 1, 2, none⟩ = some (.int .i64 p.hi) := cell_below' hb1 (by repeat (first | assumption | (refine cell_new ?_ rfl; focus (simp; done)) | refine cell_drew ?_ | refine cell_alloc _ ?_ | refine cell_drewN _ ?_ | (refine cell_far ?_ ?_; focus (first | omega | (simp; omega) | (simp; done))) | refine cell_below' (by assumption) ?_))
  have hbw1 : Below w.heap.size w w1 := (by repeat (first | assumption | exact Below.refl _ _ | refine Below.drew ?_ | (refine below_alloc _ ?_ ?_; focus (first | omega | (simp; done) | (simp; omega) | (simp at *; omega))) | (refine below_set _ ?_ ?_; focus (first | omega | (simp; done) | (simp; omega) | (simp at *; omega))) | refine below_drewN ?_ _ | (refine below_call (by assumption) ?_ ?_; focus (first | omega | (simp; done) | (simp; omega) | (simp at *; omega))) | (refine below_call' (by assumption) ?_ ?_; focus (first | omega | (simp; done) | (simp; omega) | (simp at *; omega)))))
  clear hb1
  by_cases hi : (refl base l p.f).2 < 0
  · rw [if_pos hi] at hd
    have HD2 := Lib.hid hd
    have hv : rreflV (refl base l p.f) = .tuple #[.int .i64 0, .int .i64 0, .bool false] := by unfold rreflV; rw [if_pos hi]
    rw [hv]
    clear hd HD HR hv
    go_wp2
    go_ret
    exact ⟨ret_eq (by rw [HD2.out]; rfl), (by repeat (first | assumption | exact Below.refl _ _ | refine Below.drew ?_ | (refine below_alloc _ ?_ ?_; focus (first | omega | (simp; done) | (simp; omega) | (simp at *; omega))) | (refine below_set _ ?_ ?_; focus (first | omega | (simp; done) | (simp; omega) | (simp at *; omega))) | refine below_drewN ?_ _ | (refine below_call (by assumption) ?_ ?_; focus (first | omega | (simp; done) | (simp; omega) | (simp at *; omega))) | (refine below_call' (by assumption) ?_ ?_; focus (first | omega | (simp; done) | (simp; omega) | (simp at *; omega)))))⟩
  rw [if_neg hi] at hd
  have hv : rreflV (refl base l p.f) = .tuple #[.int .i64 (refl base l p.f).1, .int .i64 (refl base l p.f).2, .bool true] := by unfold rreflV; rw [if_neg hi]
  have hE := refl_ok HO.out f0 f1 hi
  obtain ⟨kk, e1, e2, e3, e4⟩ := HR.out (by omega)
  have hle := virt_le e3
  have h2 : reflAt2 base l p.f = kk := by unfold reflAt2; rw [if_pos hE, e1]
  have hvl : vatLo base l p.f = virtLo base l p.f kk := by unfold vatLo; rw [if_pos hE, h2, Int.toNat_natCast]
  have hvh : vatHi base l p.f = virtHi base l p.f kk := by unfold vatHi; rw [if_pos hE, h2, Int.toNat_natCast]
  rw [e1, Int.toNat_natCast] at hd
  rw [hv]
  have HE := Lib.hid hE
  have HVL := Lib.hid hvl
  have HVH := Lib.hid hvh
  clear HR HD hi e1 e3 e4 hv hE h2 hvl hvh
  generalize refl base l p.f = rr at *
  obtain ⟨r1, r2⟩ := rr
  go_wp2_with (fail)
  refine (RVirtual_any base A l cap p.f _ HE.out (hA.below (by repeat (first | assumption | exact Below.refl _ _ | refine Below.drew ?_ | (refine below_alloc _ ?_ ?_; focus (first | omega | (simp; done) | (simp; omega) | (simp at *; omega))) | (refine below_set _ ?_ ?_; focus (first | omega | (simp; done) | (simp; omega) | (simp at *; omega))) | refine below_drewN ?_ _ | (refine below_call (by assumption) ?_ ?_; focus (first | omega | (simp; done) | (simp; omega) | (simp at *; omega))) | (refine below_call' (by assumption) ?_ ?_; focus (first | omega | (simp; done) | (simp; omega) | (simp at *; omega))))))).mono ?_
  rintro e w2 ⟨rfl, hb2⟩
  rw [HVL.out, HVH.out]
  replace p1 := cell_below' hb2 p1
  replace p2 := cell_below' hb2 p2
  have hz2 : w.heap.size + 1 < w2.heap.size := by have := hb2.size; omega
  have hbw2 : Below w.heap.size w w2 := (by repeat (first | assumption | exact Below.refl _ _ | refine Below.drew ?_ | (refine below_alloc _ ?_ ?_; focus (first | omega | (simp; done) | (simp; omega) | (simp at *; omega))) | (refine below_set _ ?_ ?_; focus (first | omega | (simp; done) | (simp; omega) | (simp at *; omega))) | refine below_drewN ?_ _ | (refine below_call (by assumption) ?_ ?_; focus (first | omega | (simp; done) | (simp; omega) | (simp at *; omega))) | (refine below_call' (by assumption) ?_ ?_; focus (first | omega | (simp; done) | (simp; omega) | (simp at *; omega)))))
  clear hb2 hbw1 hz1 hz0 a0 a1 p0 HVL HVH HE
  generalize virtLo base l p.f kk = lo at *
  generalize virtHi base l p.f kk = hh at *
  unfold ans3 at hd
  by_cases c1 : p.lo ≤ lo
  · by_cases c2 : hh ≤ p.hi
    · rw [if_pos ⟨c1, c2⟩] at hd
      have HD2 := Lib.hid hd
      clear hd
      go_wp2
      go_ret
      exact ⟨ret_eq (by rw [HD2.out]; rfl), (by repeat (first | assumption | exact Below.refl _ _ | refine Below.drew ?_ | (refine below_alloc _ ?_ ?_; focus (first | omega | (simp; done) | (simp; omega) | (simp at *; omega))) | (refine below_set _ ?_ ?_; focus (first | omega | (simp; done) | (simp; omega) | (simp at *; omega))) | refine below_drewN ?_ _ | (refine below_call (by assumption) ?_ ?_; focus (first | omega | (simp; done) | (simp; omega) | (simp at *; omega))) | (refine below_call' (by assumption) ?_ ?_; focus (first | omega | (simp; done) | (simp; omega) | (simp at *; omega)))))⟩
    · rw [if_neg (fun h => c2 h.2)] at hd
      have c2' : decide (hh ≤ p.hi) = false := by simpa using c2
      by_cases c3 : p.hi < lo
      · rw [if_pos (.inl c3)] at hd
        have HD2 := Lib.hid hd
        have c4' : decide (hh < p.lo) = false := by simp; omega
        clear hd c2
        go_wp2
        go_ret
        exact ⟨ret_eq (by rw [HD2.out]; rfl), (by repeat (first | assumption | exact Below.refl _ _ | refine Below.drew ?_ | (refine below_alloc _ ?_ ?_; focus (first | omega | (simp; done) | (simp; omega) | (simp at *; omega))) | (refine below_set _ ?_ ?_; focus (first | omega | (simp; done) | (simp; omega) | (simp at *; omega))) | refine below_drewN ?_ _ | (refine below_call (by assumption) ?_ ?_; focus (first | omega | (simp; done) | (simp; omega) | (simp at *; omega))) | (refine below_call' (by assumption) ?_ ?_; focus (first | omega | (simp; done) | (simp; omega) | (simp at *; omega)))))⟩
      · rw [if_neg (by omega)] at hd
        have HD2 := Lib.hid hd
        have c4' : decide (hh < p.lo) = false := by simp; omega
        have c3' : decide (p.hi < lo) = false := by simpa using c3
        clear hd c2 c3
        go_wp2
        go_ret
        exact ⟨ret_eq (by rw [HD2.out]; rfl), (by repeat (first | assumption | exact Below.refl _ _ | refine Below.drew ?_ | (refine below_alloc _ ?_ ?_; focus (first | omega | (simp; done) | (simp; omega) | (simp at *; omega))) | (refine below_set _ ?_ ?_; focus (first | omega | (simp; done) | (simp; omega) | (simp at *; omega))) | refine below_drewN ?_ _ | (refine below_call (by assumption) ?_ ?_; focus (first | omega | (simp; done) | (simp; omega) | (simp at *; omega))) | (refine below_call' (by assumption) ?_ ?_; focus (first | omega | (simp; done) | (simp; omega) | (simp at *; omega)))))⟩
  · rw [if_neg (fun h => c1 h.1)] at hd
    have c1' : decide (p.lo ≤ lo) = false := by simpa using c1
    by_cases c4 : hh < p.lo
    · rw [if_pos (.inr c4)] at hd
      have HD2 := Lib.hid hd
      clear hd c1
      go_wp2
      go_ret
      exact ⟨ret_eq (by rw [HD2.out]; rfl), (by repeat (first | assumption | exact Below.refl _ _ | refine Below.drew ?_ | (refine below_alloc _ ?_ ?_; focus (first | omega | (simp; done) | (simp; omega) | (simp at *; omega))) | (refine below_set _ ?_ ?_; focus (first | omega | (simp; done) | (simp; omega) | (simp at *; omega))) | refine below_drewN ?_ _ | (refine below_call (by assumption) ?_ ?_; focus (first | omega | (simp; done) | (simp; omega) | (simp at *; omega))) | (refine below_call' (by assumption) ?_ ?_; focus (first | omega | (simp; done) | (simp; omega) | (simp at *; omega)))))⟩
    · have c4' : decide (hh < p.lo) = false := by simpa using c4
      by_cases c3 : p.hi < lo
      · rw [if_pos (.inl c3)] at hd
        have HD2 := Lib.hid hd
        clear hd c1 c4
        go_wp2
        go_ret
        exact ⟨ret_eq (by rw [HD2.out]; rfl), (by repeat (first | assumption | exact Below.refl _ _ | refine Below.drew ?_ | (refine below_alloc _ ?_ ?_; focus (first | omega | (simp; done) | (simp; omega) | (simp at *; omega))) | (refine below_set _ ?_ ?_; focus (first | omega | (simp; done) | (simp; omega) | (simp at *; omega))) | refine below_drewN ?_ _ | (refine below_call (by assumption) ?_ ?_; focus (first | omega | (simp; done) | (simp; omega) | (simp at *; omega))) | (refine below_call' (by assumption) ?_ ?_; focus (first | omega | (simp; done) | (simp; omega) | (simp at *; omega)))))⟩
      · rw [if_neg (by omega)] at hd
        have HD2 := Lib.hid hd
        have c3' : decide (p.hi < lo) = false := by simpa using c3
        clear hd c1 c4 c3
        go_wp2
        go_ret
        exact ⟨ret_eq (by rw [HD2.out]; rfl), (by repeat (first | assumption | exact Below.refl _ _ | refine Below.drew ?_ | (refine below_alloc _ ?_ ?_; focus (first | omega | (simp; done) | (simp; omega) | (simp at *; omega))) | (refine below_set _ ?_ ?_; focus (first | omega | (simp; done) | (simp; omega) | (simp at *; omega))) | refine below_drewN ?_ _ | (refine below_call (by assumption) ?_ ?_; focus (first | omega | (simp; done) | (simp; omega) | (simp at *; omega))) | (refine below_call' (by assumption) ?_ ?_; focus (first | omega | (simp; done) | (simp; omega) | (simp at *; omega)))))⟩
end Go.Proofs.Ytoegpaolbkcleaa
