/-
  The walk of ProfileThicker.
-/
import Derived.Test.YtoegpaolbkcleaaThk
import Derived.Test.YtoegpaolbkcleaaAwk
import Derived.Test.YtoegpaolbkcleaaLam
import Derived.Deep.RegionHeld3
namespace Go.Proofs.Ytoegpaolbkcleaa
open Go.ChangeShapes Go.WideShapes Go.ChangeAt Go.RowKit
set_option linter.unusedVariables false
set_option linter.unusedSimpArgs false

theorem reflAtE_two {base : Int} {l : List Slb} {f : Int} (hc : chkE base l = 0) (hf : withinB f 1 3000 = true) : reflAtE base l f = 21 ∨ reflAtE base l f = 0 := by
  have h0 : reflAtE0 base l f = 0 := by
    unfold reflAtE0
    rw [firstE2, unl_zero (by decide)]
    exact ⟨hc, hf⟩
  unfold reflAtE
  rw [if_neg (by simp [h0])]
  split
  · exact .inl rfl
  · exact .inr rfl
theorem cellsOf_cons2 (x : Slb) (r : List Slb) : cellsOf 2 slbC (x :: r) = slbC x 0 :: slbC x 1 :: cellsOf 2 slbC r := by
  rw [show x :: r = [x] ++ r from rfl, cellsOf_append]; rfl
theorem cellsOf_set1 : ∀ (l : List Slb) (s : Nat) (hs : s < l.length) (u : Int), (cellsOf 2 slbC l).set (s * 2 + 1) (.int .i64 u) = cellsOf 2 slbC (l.set s ⟨l[s].sq, u⟩)
  | [], s, hs, _ => by simp at hs
  | x :: r, 0, hs, u => by
    rw [List.set_cons_zero, cellsOf_cons2, cellsOf_cons2]
    rfl
  | x :: r, s + 1, hs, u => by
    have ih := cellsOf_set1 r s (by simpa using hs) u
    rw [show (s + 1) * 2 + 1 = (s * 2 + 1) + 1 + 1 by omega, cellsOf_cons2, List.set_cons_succ, List.set_cons_succ, ih, List.set_cons_succ, cellsOf_cons2]
    rfl
theorem cellsOf_set0 : ∀ (l : List Slb) (s : Nat) (hs : s < l.length) (u : Int), (cellsOf 2 slbC l).set (s * 2) (.int .i64 u) = cellsOf 2 slbC (l.set s ⟨u, l[s].th⟩)
  | [], s, hs, _ => by simp at hs
  | x :: r, 0, hs, u => by
    rw [List.set_cons_zero, cellsOf_cons2, cellsOf_cons2]
    rfl
  | x :: r, s + 1, hs, u => by
    have ih := cellsOf_set0 r s (by simpa using hs) u
    rw [show (s + 1) * 2 = (s * 2) + 1 + 1 by omega, cellsOf_cons2, List.set_cons_succ, List.set_cons_succ, ih, List.set_cons_succ, cellsOf_cons2]
    rfl

theorem cut_ {P G : Prop} (h1 : (Unit → P) → G) (h2 : P) : G := h1 fun _ => h2
theorem own_at {w : World} {B : Nat} {T : TypeId} {g c n : Nat} {l : List Slb} (h : w.ownsRow B T 2 (.slice (some ⟨g, 0, none⟩) n c) n (cellsOf 2 slbC l)) (hl : l.length = n) {s : Nat} (hs : s < l.length) :
    w.cell? ⟨g, s * 2, none⟩ = some (.int .i64 l[s].sq) ∧ w.cell? ⟨g, s * 2 + 1, none⟩ = some (.int .i64 l[s].th) ∧ w.frozen? ⟨g, s * 2, none⟩ = false ∧ w.frozen? ⟨g, s * 2 + 1, none⟩ = false := by
  have hk : l[s]? = some l[s] := List.getElem?_eq_getElem hs
  exact ⟨(h.cellAt _ (by omega)).trans (by have := cellsOf_get (f := slbC) (m := 2) (j := 0) hk (by omega); rw [Nat.add_zero] at this; exact this), (h.cellAt _ (by omega)).trans (cellsOf_get (f := slbC) hk (by omega)), h.frozenAt _, h.frozenAt _⟩

set_option maxRecDepth 100000 in
set_option maxHeartbeats 4000000 in
theorem ProfileThicker_any (base : Int) (A : Option Addr) (l : List Slb) (cap : Nat) (f s dt dq db : Int) (w : World) (hcap : l.length ≤ cap) (hA : SlabsAt w A l) :
    Calls Try.prog 4 #[.agg #[.int .i64 base, .slice A l.length cap], .agg #[.int .i64 f, .int .i64 s, .int .i64 dt, .int .i64 dq, .int .i64 db]] w fun e w' => e = .returned (.bool true) ∧ Below w.heap.size w w' := by
  go_enter Try.func4, Try.ntmps4
  go_wp2_with (fail)
  refine (awake_any _).mono ?_
  rintro e w1 ⟨rfl, hb1⟩
  have a0 : w1.cell? ⟨w.heap.size, 0, none⟩ = some (.int .i64 base) := cell_below' hb1 (by repeat (first | assumption | (refine cell_new ?_ rfl; focus (simp; done)) | refine cell_drew ?_ | refine cell_alloc _ ?_ | refine cell_drewN _ ?_ | (refine cell_far ?_ ?_; focus (first | omega | (simp; omega) | (simp; done))) | refine cell_below' (by assumption) ?_))
  have a1 : w1.cell? ⟨w.heap.size, 1, none⟩ = some (.slice A l.length cap) := cell_below' hb1 (by repeat (first | assumption | (refine cell_new ?_ rfl; focus (simp; done)) | refine cell_drew ?_ | refine cell_alloc _ ?_ | refine cell_drewN _ ?_ | (refine cell_far ?_ ?_; focus (first | omega | (simp; omega) | (simp; done))) | refine cell_below' (by assumption) ?_))
  have x0 : w1.cell? ⟨w.heap.size + 1, 0, none⟩ = some (.int .i64 f) := cell_below' hb1 (by repeat (first | assumption | (refine cell_new ?_ rfl; focus (simp; done)) | refine cell_drew ?_ | refine cell_alloc _ ?_ | refine cell_drewN _ ?_ | (refine cell_far ?_ ?_; focus (first | omega | (simp; omega) | (simp; done))) | refine cell_below' (by assumption) ?_))
  have x1 : w1.cell? ⟨w.heap.size + 1, 1, none⟩ = some (.int .i64 s) := cell_below' hb1 (by repeat (first | assumption | (refine cell_new ?_ rfl; focus (simp; done)) | refine cell_drew ?_ | refine cell_alloc _ ?_ | refine cell_drewN _ ?_ | (refine cell_far ?_ ?_; focus (first | omega | (simp; omega) | (simp; done))) | refine cell_below' (by assumption) ?_))
  have x2 : w1.cell? ⟨w.heap.size + 1, 2, none⟩ = some (.int .i64 dt) := cell_below' hb1 (by repeat (first | assumption | (refine cell_new ?_ rfl; focus (simp; done)) | refine cell_drew ?_ | refine cell_alloc _ ?_ | refine cell_drewN _ ?_ | (refine cell_far ?_ ?_; focus (first | omega | (simp; omega) | (simp; done))) | refine cell_below' (by assumption) ?_))
  have x3 : w1.cell? ⟨w.heap.size + 1, 3, none⟩ = some (.int .i64 dq) := cell_below' hb1 (by repeat (first | assumption | (refine cell_new ?_ rfl; focus (simp; done)) | refine cell_drew ?_ | refine cell_alloc _ ?_ | refine cell_drewN _ ?_ | (refine cell_far ?_ ?_; focus (first | omega | (simp; omega) | (simp; done))) | refine cell_below' (by assumption) ?_))
  have x4 : w1.cell? ⟨w.heap.size + 1, 4, none⟩ = some (.int .i64 db) := cell_below' hb1 (by repeat (first | assumption | (refine cell_new ?_ rfl; focus (simp; done)) | refine cell_drew ?_ | refine cell_alloc _ ?_ | refine cell_drewN _ ?_ | (refine cell_far ?_ ?_; focus (first | omega | (simp; omega) | (simp; done))) | refine cell_below' (by assumption) ?_))
  have hz1 : w.heap.size < w1.heap.size := by have := hb1.size; simp at this; omega
  have hy1 : w.heap.size + 1 < w1.heap.size := by have := hb1.size; simp at this; omega
  have hbw1 : Below w.heap.size w w1 := (by repeat (first | assumption | exact Below.refl _ _ | refine Below.drew ?_ | (refine below_alloc _ ?_ ?_; focus (first | omega | (simp; done) | (simp; omega) | (simp at *; omega))) | (refine below_set _ ?_ ?_; focus (first | omega | (simp; done) | (simp; omega) | (simp at *; omega))) | refine below_drewN ?_ _ | (refine below_call (by assumption) ?_ ?_; focus (first | omega | (simp; done) | (simp; omega) | (simp at *; omega))) | (refine below_call' (by assumption) ?_ ?_; focus (first | omega | (simp; done) | (simp; omega) | (simp at *; omega)))))
  have hA1 := hA.below hbw1
  clear hb1
  go_wp2_with (fail)
  refine (Few_any base A l.length cap _).mono ?_
  rintro e w2 ⟨rfl, hb2⟩
  (have hz2 : w.heap.size < w2.heap.size := (by have := hb2.size; omega); have hy2 : w.heap.size + 1 < w2.heap.size := (by have := hb2.size; omega); replace a0 := cell_below' hb2 a0; replace a1 := cell_below' hb2 a1; replace x0 := cell_below' hb2 x0; replace x1 := cell_below' hb2 x1; replace x2 := cell_below' hb2 x2; replace x3 := cell_below' hb2 x3; replace x4 := cell_below' hb2 x4; have hA2 := RowsAt.below hA1 hb2; have hbw2 : Below w.heap.size w w2 := (by repeat (first | assumption | exact Below.refl _ _ | refine Below.drew ?_ | (refine below_alloc _ ?_ ?_; focus (first | omega | (simp; done) | (simp; omega) | (simp at *; omega))) | (refine below_set _ ?_ ?_; focus (first | omega | (simp; done) | (simp; omega) | (simp at *; omega))) | refine below_drewN ?_ _ | (refine below_call (by assumption) ?_ ?_; focus (first | omega | (simp; done) | (simp; omega) | (simp at *; omega))) | (refine below_call' (by assumption) ?_ ?_; focus (first | omega | (simp; done) | (simp; omega) | (simp at *; omega))))); clear hb2 hbw1 hA1)
  by_cases hf : (l.length : Int) ≤ 14
  rotate_left 1
  · have hfd : decide ((l.length : Int) ≤ 14) = false := by simpa using hf
    go_wp2
    go_ret
    exact ⟨rfl, (by repeat (first | assumption | exact Below.refl _ _ | refine Below.drew ?_ | (refine below_alloc _ ?_ ?_; focus (first | omega | (simp; done) | (simp; omega) | (simp at *; omega))) | (refine below_set _ ?_ ?_; focus (first | omega | (simp; done) | (simp; omega) | (simp at *; omega))) | refine below_drewN ?_ _ | (refine below_call (by assumption) ?_ ?_; focus (first | omega | (simp; done) | (simp; omega) | (simp at *; omega))) | (refine below_call' (by assumption) ?_ ?_; focus (first | omega | (simp; done) | (simp; omega) | (simp at *; omega)))))⟩
  have hl : l.length ≤ 100 := by omega
  go_wp2_with (fail)
  refine (ProfileErr_any base A l cap _ hl hA2).mono ?_
  rintro e w3 ⟨rfl, hb3⟩
  (have hz3 : w.heap.size < w3.heap.size := (by have := hb3.size; omega); have hy3 : w.heap.size + 1 < w3.heap.size := (by have := hb3.size; omega); replace a0 := cell_below' hb3 a0; replace a1 := cell_below' hb3 a1; replace x0 := cell_below' hb3 x0; replace x1 := cell_below' hb3 x1; replace x2 := cell_below' hb3 x2; replace x3 := cell_below' hb3 x3; replace x4 := cell_below' hb3 x4; have hA3 := RowsAt.below hA2 hb3; have hbw3 : Below w.heap.size w w3 := (by repeat (first | assumption | exact Below.refl _ _ | refine Below.drew ?_ | (refine below_alloc _ ?_ ?_; focus (first | omega | (simp; done) | (simp; omega) | (simp at *; omega))) | (refine below_set _ ?_ ?_; focus (first | omega | (simp; done) | (simp; omega) | (simp at *; omega))) | refine below_drewN ?_ _ | (refine below_call (by assumption) ?_ ?_; focus (first | omega | (simp; done) | (simp; omega) | (simp at *; omega))) | (refine below_call' (by assumption) ?_ ?_; focus (first | omega | (simp; done) | (simp; omega) | (simp at *; omega))))); clear hb3 hbw2 hA2)
  by_cases h0 : chkE base l = 0
  rotate_left 1
  · have h0' : (chkE base l == 0) = false := by simpa using h0
    have h0'' : (chkE base l != 0) = true := by simpa using h0
    go_wp2
    go_ret
    exact ⟨rfl, (by repeat (first | assumption | exact Below.refl _ _ | refine Below.drew ?_ | (refine below_alloc _ ?_ ?_; focus (first | omega | (simp; done) | (simp; omega) | (simp at *; omega))) | (refine below_set _ ?_ ?_; focus (first | omega | (simp; done) | (simp; omega) | (simp at *; omega))) | refine below_drewN ?_ _ | (refine below_call (by assumption) ?_ ?_; focus (first | omega | (simp; done) | (simp; omega) | (simp at *; omega))) | (refine below_call' (by assumption) ?_ ?_; focus (first | omega | (simp; done) | (simp; omega) | (simp at *; omega)))))⟩
  have HO := Lib.hid (ok_of_chk h0)
  have hn0 := HO.out.n0
  rw [h0]
  have hw1 : ∀ W, Calls Try.prog 23 #[.int .i64 s, .int .i64 0, .int .i64 ((l.length : Int) - 1)] W fun e w' => e = .returned (.bool (withinB s 0 ((l.length : Int) - 1))) ∧ W = w' := fun W => Within_any _ _ _ W
  have hw2 : ∀ W, Calls Try.prog 23 #[.int .i64 dt, .int .i64 0, .int .i64 500] W fun e w' => e = .returned (.bool (withinB dt 0 500)) ∧ W = w' := fun W => Within_any _ _ _ W
  have hw3 : ∀ W, Calls Try.prog 23 #[.int .i64 dq, .int .i64 0, .int .i64 9000000] W fun e w' => e = .returned (.bool (withinB dq 0 9000000)) ∧ W = w' := fun W => Within_any _ _ _ W
  have hw4 : ∀ W, Calls Try.prog 23 #[.int .i64 db, .int .i64 0, .int .i64 500] W fun e w' => e = .returned (.bool (withinB db 0 500)) ∧ W = w' := fun W => Within_any _ _ _ W
  cases hwf : withinB f 1 3000
  · have HU : Hid (unl (withinB f 1 3000) 2 = 2) := Lib.hid (by rw [hwf]; rfl)
    have HW1 := Lib.hid hw1
    have HW2 := Lib.hid hw2
    have HW3 := Lib.hid hw3
    have HW4 := Lib.hid hw4
    clear hw1 hw2 hw3 hw4 hwf h0
    (go_wp2_with (first | (go_at_call 20; refine (FrequencyErr_any _ _).mono ?_; rintro e w' ⟨rfl, rfl⟩; rw [HU.out]) | (go_at_call 23; with_reducible refine (HW1.out _).mono ?_; rintro e w' ⟨rfl, rfl⟩) | (go_at_call 23; with_reducible refine (HW2.out _).mono ?_; rintro e w' ⟨rfl, rfl⟩) | (go_at_call 23; with_reducible refine (HW3.out _).mono ?_; rintro e w' ⟨rfl, rfl⟩) | (go_at_call 23; with_reducible refine (HW4.out _).mono ?_; rintro e w' ⟨rfl, rfl⟩)))
    go_ret
    exact ⟨rfl, (by repeat (first | assumption | exact Below.refl _ _ | refine Below.drew ?_ | (refine below_alloc _ ?_ ?_; focus (first | omega | (simp; done) | (simp; omega) | (simp at *; omega))) | (refine below_set _ ?_ ?_; focus (first | omega | (simp; done) | (simp; omega) | (simp at *; omega))) | refine below_drewN ?_ _ | (refine below_call (by assumption) ?_ ?_; focus (first | omega | (simp; done) | (simp; omega) | (simp at *; omega))) | (refine below_call' (by assumption) ?_ ?_; focus (first | omega | (simp; done) | (simp; omega) | (simp at *; omega)))))⟩
  have HU : Hid (unl (withinB f 1 3000) 2 = 0) := Lib.hid (by rw [hwf]; rfl)
  cases hws : withinB s 0 ((l.length : Int) - 1)
  · rw [hws] at hw1
    have HW1 := Lib.hid hw1
    have HW2 := Lib.hid hw2
    have HW3 := Lib.hid hw3
    have HW4 := Lib.hid hw4
    clear hw1 hw2 hw3 hw4 hwf hws h0
    (go_wp2_with (first | (go_at_call 20; refine (FrequencyErr_any _ _).mono ?_; rintro e w' ⟨rfl, rfl⟩; rw [HU.out]) | (go_at_call 23; with_reducible refine (HW1.out _).mono ?_; rintro e w' ⟨rfl, rfl⟩) | (go_at_call 23; with_reducible refine (HW2.out _).mono ?_; rintro e w' ⟨rfl, rfl⟩) | (go_at_call 23; with_reducible refine (HW3.out _).mono ?_; rintro e w' ⟨rfl, rfl⟩) | (go_at_call 23; with_reducible refine (HW4.out _).mono ?_; rintro e w' ⟨rfl, rfl⟩)))
    go_ret
    exact ⟨rfl, (by repeat (first | assumption | exact Below.refl _ _ | refine Below.drew ?_ | (refine below_alloc _ ?_ ?_; focus (first | omega | (simp; done) | (simp; omega) | (simp at *; omega))) | (refine below_set _ ?_ ?_; focus (first | omega | (simp; done) | (simp; omega) | (simp at *; omega))) | refine below_drewN ?_ _ | (refine below_call (by assumption) ?_ ?_; focus (first | omega | (simp; done) | (simp; omega) | (simp at *; omega))) | (refine below_call' (by assumption) ?_ ?_; focus (first | omega | (simp; done) | (simp; omega) | (simp at *; omega)))))⟩
  rw [hws] at hw1
  have HW1 := Lib.hid hw1
  clear hw1
  cases hwt : withinB dt 0 500
  · rw [hwt] at hw2
    have HW2 := Lib.hid hw2
    have HW3 := Lib.hid hw3
    have HW4 := Lib.hid hw4
    clear hw2 hw3 hw4 hwf hws hwt h0
    (go_wp2_with (first | (go_at_call 20; refine (FrequencyErr_any _ _).mono ?_; rintro e w' ⟨rfl, rfl⟩; rw [HU.out]) | (go_at_call 23; with_reducible refine (HW1.out _).mono ?_; rintro e w' ⟨rfl, rfl⟩) | (go_at_call 23; with_reducible refine (HW2.out _).mono ?_; rintro e w' ⟨rfl, rfl⟩) | (go_at_call 23; with_reducible refine (HW3.out _).mono ?_; rintro e w' ⟨rfl, rfl⟩) | (go_at_call 23; with_reducible refine (HW4.out _).mono ?_; rintro e w' ⟨rfl, rfl⟩)))
    go_ret
    exact ⟨rfl, (by repeat (first | assumption | exact Below.refl _ _ | refine Below.drew ?_ | (refine below_alloc _ ?_ ?_; focus (first | omega | (simp; done) | (simp; omega) | (simp at *; omega))) | (refine below_set _ ?_ ?_; focus (first | omega | (simp; done) | (simp; omega) | (simp at *; omega))) | refine below_drewN ?_ _ | (refine below_call (by assumption) ?_ ?_; focus (first | omega | (simp; done) | (simp; omega) | (simp at *; omega))) | (refine below_call' (by assumption) ?_ ?_; focus (first | omega | (simp; done) | (simp; omega) | (simp at *; omega)))))⟩
  rw [hwt] at hw2
  have HW2 := Lib.hid hw2
  clear hw2
  cases hwq : withinB dq 0 9000000
  · rw [hwq] at hw3
    have HW3 := Lib.hid hw3
    have HW4 := Lib.hid hw4
    clear hw3 hw4 hwf hws hwt hwq h0
    (go_wp2_with (first | (go_at_call 20; refine (FrequencyErr_any _ _).mono ?_; rintro e w' ⟨rfl, rfl⟩; rw [HU.out]) | (go_at_call 23; with_reducible refine (HW1.out _).mono ?_; rintro e w' ⟨rfl, rfl⟩) | (go_at_call 23; with_reducible refine (HW2.out _).mono ?_; rintro e w' ⟨rfl, rfl⟩) | (go_at_call 23; with_reducible refine (HW3.out _).mono ?_; rintro e w' ⟨rfl, rfl⟩) | (go_at_call 23; with_reducible refine (HW4.out _).mono ?_; rintro e w' ⟨rfl, rfl⟩)))
    go_ret
    exact ⟨rfl, (by repeat (first | assumption | exact Below.refl _ _ | refine Below.drew ?_ | (refine below_alloc _ ?_ ?_; focus (first | omega | (simp; done) | (simp; omega) | (simp at *; omega))) | (refine below_set _ ?_ ?_; focus (first | omega | (simp; done) | (simp; omega) | (simp at *; omega))) | refine below_drewN ?_ _ | (refine below_call (by assumption) ?_ ?_; focus (first | omega | (simp; done) | (simp; omega) | (simp at *; omega))) | (refine below_call' (by assumption) ?_ ?_; focus (first | omega | (simp; done) | (simp; omega) | (simp at *; omega)))))⟩
  rw [hwq] at hw3
  have HW3 := Lib.hid hw3
  clear hw3
  cases hwb : withinB db 0 500
  · rw [hwb] at hw4
    have HW4 := Lib.hid hw4
    clear hw4 hwf hws hwt hwq hwb h0
    (go_wp2_with (first | (go_at_call 20; refine (FrequencyErr_any _ _).mono ?_; rintro e w' ⟨rfl, rfl⟩; rw [HU.out]) | (go_at_call 23; with_reducible refine (HW1.out _).mono ?_; rintro e w' ⟨rfl, rfl⟩) | (go_at_call 23; with_reducible refine (HW2.out _).mono ?_; rintro e w' ⟨rfl, rfl⟩) | (go_at_call 23; with_reducible refine (HW3.out _).mono ?_; rintro e w' ⟨rfl, rfl⟩) | (go_at_call 23; with_reducible refine (HW4.out _).mono ?_; rintro e w' ⟨rfl, rfl⟩)))
    go_ret
    exact ⟨rfl, (by repeat (first | assumption | exact Below.refl _ _ | refine Below.drew ?_ | (refine below_alloc _ ?_ ?_; focus (first | omega | (simp; done) | (simp; omega) | (simp at *; omega))) | (refine below_set _ ?_ ?_; focus (first | omega | (simp; done) | (simp; omega) | (simp at *; omega))) | refine below_drewN ?_ _ | (refine below_call (by assumption) ?_ ?_; focus (first | omega | (simp; done) | (simp; omega) | (simp at *; omega))) | (refine below_call' (by assumption) ?_ ?_; focus (first | omega | (simp; done) | (simp; omega) | (simp at *; omega)))))⟩
  rw [hwb] at hw4
  have HW4 := Lib.hid hw4
  clear hw4
  have HT := Lib.hid (reflAtE_two h0 hwf)
  obtain ⟨f0, f1⟩ := withinB_true.1 hwf
  obtain ⟨s0, s1⟩ := withinB_true.1 hws
  obtain ⟨t0, t1⟩ := withinB_true.1 hwt
  obtain ⟨q0, q1⟩ := withinB_true.1 hwq
  obtain ⟨b0, b1⟩ := withinB_true.1 hwb
  have HC := Lib.hid h0
  clear h0 hwf hws hwt hwq hwb
  (go_wp2_with (first | (go_at_call 20; refine (FrequencyErr_any _ _).mono ?_; rintro e w' ⟨rfl, rfl⟩; rw [HU.out]) | (go_at_call 23; with_reducible refine (HW1.out _).mono ?_; rintro e w' ⟨rfl, rfl⟩) | (go_at_call 23; with_reducible refine (HW2.out _).mono ?_; rintro e w' ⟨rfl, rfl⟩) | (go_at_call 23; with_reducible refine (HW3.out _).mono ?_; rintro e w' ⟨rfl, rfl⟩) | (go_at_call 23; with_reducible refine (HW4.out _).mono ?_; rintro e w' ⟨rfl, rfl⟩)))
  have hC1 := fun W hW => Copy_any base A l cap W hl hW
  have HC1 := Lib.hid hC1
  clear hC1
  go_region_held3 (fun w' => w'.cell? ⟨w.heap.size, 0, none⟩ = some (.int .i64 base) ∧ w'.cell? ⟨w.heap.size, 1, none⟩ = some (.slice A l.length cap) ∧ w'.cell? ⟨w.heap.size + 1, 0, none⟩ = some (.int .i64 f))
    ((((try go_split_ands); (repeat' (apply And.intro)) <;> (repeat (first | (with_reducible assumption) | (with_reducible refine cell_drew ?_) | (with_reducible refine cell_alloc _ ?_) | (with_reducible refine cell_below' (by with_reducible assumption) ?_) | (with_reducible refine cell_far ?_ ?_; focus (first | omega | (simp; omega) | (simp; done))))))))
    (first
      | (go_at_call 17; (with_reducible refine (HC1.out _ ?_).mono ?_); (focus (exact RowsAt.below hA3 (by repeat (first | assumption | exact Below.refl _ _ | refine Below.drew ?_ | (refine below_alloc _ ?_ ?_; focus (first | omega | (simp; done) | (simp; omega) | (simp at *; omega))) | (refine below_set _ ?_ ?_; focus (first | omega | (simp; done) | (simp; omega) | (simp at *; omega))) | refine below_drewN ?_ _ | (refine below_call (by assumption) ?_ ?_; focus (first | omega | (simp; done) | (simp; omega) | (simp at *; omega))) | (refine below_call' (by assumption) ?_ ?_; focus (first | omega | (simp; done) | (simp; omega) | (simp at *; omega))))))); rintro e w4 ⟨A4, c4, rfl, own4, hb4⟩)
      | (go_at_call 16; refine (ReflectedAt_any base A4 l c4 f _ hl (rowsAt_of_own own4 rfl (by decide))).mono ?_; rintro e w5 ⟨rfl, hb5⟩))
  have hbw5 : Below w.heap.size w w5 := (by repeat (first | assumption | exact Below.refl _ _ | refine Below.drew ?_ | (refine below_alloc _ ?_ ?_; focus (first | omega | (simp; done) | (simp; omega) | (simp at *; omega))) | (refine below_set _ ?_ ?_; focus (first | omega | (simp; done) | (simp; omega) | (simp at *; omega))) | refine below_drewN ?_ _ | (refine below_call (by assumption) ?_ ?_; focus (first | omega | (simp; done) | (simp; omega) | (simp at *; omega))) | (refine below_call' (by assumption) ?_ ?_; focus (first | omega | (simp; done) | (simp; omega) | (simp at *; omega)))))
  replace a0 := cell_below' hb5 (cell_below' hb4 (cell_drew a0))
  replace a1 := cell_below' hb5 (cell_below' hb4 (cell_drew a1))
  replace x0 := cell_below' hb5 (cell_below' hb4 (cell_drew x0))
  replace x1 := cell_below' hb5 (cell_below' hb4 (cell_drew x1))
  replace x2 := cell_below' hb5 (cell_below' hb4 (cell_drew x2))
  replace x3 := cell_below' hb5 (cell_below' hb4 (cell_drew x3))
  replace x4 := cell_below' hb5 (cell_below' hb4 (cell_drew x4))
  have hz5 : w.heap.size < w5.heap.size := by have := hb4.size; have := hb5.size; simp at *; omega
  have hy5 : w.heap.size + 1 < w5.heap.size := by have := hb4.size; have := hb5.size; simp at *; omega
  have hA5 := hA.below hbw5
  clear hb4 hb5 own4 hbw3 hA3 hz1 hy1 hz2 hy2 hz3 hy3
  have hOR := HT.out
  clear HT
  rcases hOR with hE | hE
  · rw [hE]
    go_wp2
    go_ret
    exact ⟨rfl, (by repeat (first | assumption | exact Below.refl _ _ | refine Below.drew ?_ | (refine below_alloc _ ?_ ?_; focus (first | omega | (simp; done) | (simp; omega) | (simp at *; omega))) | (refine below_set _ ?_ ?_; focus (first | omega | (simp; done) | (simp; omega) | (simp at *; omega))) | refine below_drewN ?_ _ | (refine below_call (by assumption) ?_ ?_; focus (first | omega | (simp; done) | (simp; omega) | (simp at *; omega))) | (refine below_call' (by assumption) ?_ ?_; focus (first | omega | (simp; done) | (simp; omega) | (simp at *; omega)))))⟩
  obtain ⟨sn, rfl⟩ := Int.eq_ofNat_of_zero_le s0
  have hs : sn < l.length := by omega
  obtain ⟨k, h2, hk, -, -, -, -⟩ := reflAt_said hE
  have h1 := thk_one hE
  have hm : moreQ base l f sn dq l[sn].sq = if sn < k then minI (l[sn].sq + dq) (f * f - 1) else l[sn].sq := by
    unfold moreQ
    rw [h2]
    by_cases hsk : sn < k
    · rw [if_pos (by omega), if_pos hsk]
    · rw [if_neg (by omega), if_neg hsk]
  have H2 := Lib.hid (thk_two hE hs t0 q0 b0)
  have H3 := Lib.hid (thk_three hE)
  rw [hm] at H2
  rw [hE, h2]
  have HE := Lib.hid hE
  clear hE h2 hm
  generalize reflAt1 base l f = n at *
  obtain ⟨n0, n1, n2, n3⟩ := h1
  have n4 : n ≤ 10000 := by omega
  have hcv := fun A c W (hc : l.length ≤ c) hW => VirtualAt_any base A l c f W hl hc hW
  rw [HE.out] at hcv
  have HCV := Lib.hid hcv
  clear hcv
  generalize vatLo base l f = vlo at *
  generalize vatHi base l f = vhi at *
  go_wp2_with (fail)
  apply cut_
  · intro key
    go_region_held3 (fun w' => w'.cell? ⟨w.heap.size, 0, none⟩ = some (.int .i64 base) ∧ w'.cell? ⟨w.heap.size, 1, none⟩ = some (.slice A l.length cap) ∧ w'.cell? ⟨w.heap.size + 1, 0, none⟩ = some (.int .i64 f))
      ((((try go_split_ands); (repeat' (apply And.intro)) <;> (repeat (first | (with_reducible assumption) | (with_reducible refine cell_drew ?_) | (with_reducible refine cell_alloc _ ?_) | (with_reducible refine cell_below' (by with_reducible assumption) ?_) | (with_reducible refine cell_far ?_ ?_; focus (first | omega | (simp; omega) | (simp; done))))))))
      (first
        | (go_at_call 17; (with_reducible refine (HC1.out _ ?_).mono ?_); (focus (exact RowsAt.below hA5 (by repeat (first | assumption | exact Below.refl _ _ | refine Below.drew ?_ | (refine below_alloc _ ?_ ?_; focus (first | omega | (simp; done) | (simp; omega) | (simp at *; omega))) | (refine below_set _ ?_ ?_; focus (first | omega | (simp; done) | (simp; omega) | (simp at *; omega))) | refine below_drewN ?_ _ | (refine below_call (by assumption) ?_ ?_; focus (first | omega | (simp; done) | (simp; omega) | (simp at *; omega))) | (refine below_call' (by assumption) ?_ ?_; focus (first | omega | (simp; done) | (simp; omega) | (simp at *; omega))))))); rintro e w6 ⟨A6, c6, rfl, own6, hb6⟩; have hy6 : w.heap.size + 1 < w6.heap.size := (by have := hb6.size; (try simp at this); omega); (try have v0 : World.cell? w6 ⟨(w5).heap.size, 0, none⟩ = some (.int .i64 0) := cell_below' hb6 (cell_new (by simp) rfl)); (try have v1 : World.cell? w6 ⟨(w5).heap.size, 1, none⟩ = some (.int .i64 0) := cell_below' hb6 (cell_new (by simp) rfl)); (try have y0 : World.frozen? w6 ⟨(w5).heap.size, 0, none⟩ = false := frozen_below hb6 (by simp) (frozen_new (by simp))); (try have y1 : World.frozen? w6 ⟨(w5).heap.size, 1, none⟩ = false := frozen_below hb6 (by simp) (frozen_new (by simp))))
        | (go_at_call 18; refine (HCV.out A6 c6 _ (own_cap' own6) (RowsAt.below (rowsAt_of_own own6 rfl (by decide)) (by repeat (first | assumption | exact Below.refl _ _ | refine Below.drew ?_ | (refine below_alloc _ ?_ ?_; focus (first | omega | (simp; done) | (simp; omega) | (simp at *; omega))) | (refine below_set _ ?_ ?_; focus (first | omega | (simp; done) | (simp; omega) | (simp at *; omega))) | refine below_drewN ?_ _ | (refine below_call (by assumption) ?_ ?_; focus (first | omega | (simp; done) | (simp; omega) | (simp at *; omega))) | (refine below_call' (by assumption) ?_ ?_; focus (first | omega | (simp; done) | (simp; omega) | (simp at *; omega))))))).mono ?_; rintro e w7 ⟨rfl, hb7⟩; have hy7 : w.heap.size + 1 < w7.heap.size := (by have := hb7.size; (try simp at this); omega); (try replace y0 := frozen_below hb7 (World.block_lt_of_cell? _ _ v0) y0); (try replace y1 := frozen_below hb7 (World.block_lt_of_cell? _ _ v1) y1); (try replace v0 := cell_below' hb7 v0); (try replace v1 := cell_below' hb7 v1); (try have v0 : World.cell? w7 ⟨(w6).heap.size, 0, none⟩ = some (.int .i64 0) := cell_below' hb7 (cell_new (by simp) rfl)); (try have v1 : World.cell? w7 ⟨(w6).heap.size, 1, none⟩ = some (.int .i64 0) := cell_below' hb7 (cell_new (by simp) rfl)); (try have y0 : World.frozen? w7 ⟨(w6).heap.size, 0, none⟩ = false := frozen_below hb7 (by simp) (frozen_new (by simp))); (try have y1 : World.frozen? w7 ⟨(w6).heap.size, 1, none⟩ = false := frozen_below hb7 (by simp) (frozen_new (by simp)))))
    focus
      have hk6 : w5.heap.size ≤ w6.heap.size := by have := hb6.size; (try simp at this); omega
      have hb5W : Below w5.heap.size w5 (w7.alloc (.cells #[.int .i64 vlo, .int .i64 vhi] 32)) := (by repeat (first | assumption | exact Below.refl _ _ | refine Below.drew ?_ | (refine below_alloc _ ?_ ?_; focus (first | omega | (simp; done) | (simp; omega) | (simp at *; omega))) | (refine below_set _ ?_ ?_; focus (first | omega | (simp; done) | (simp; omega) | (simp at *; omega))) | refine below_drewN ?_ _ | (refine below_call (by assumption) ?_ ?_; focus (first | omega | (simp; done) | (simp; omega) | (simp at *; omega))) | (refine below_call' (by assumption) ?_ ?_; focus (first | omega | (simp; done) | (simp; omega) | (simp at *; omega)))))
      have V0 : (w7.alloc (.cells #[.int .i64 vlo, .int .i64 vhi] 32)).cell? ⟨w7.heap.size, 0, none⟩ = some (.int .i64 vlo) := cell_new rfl rfl
      have V1 : (w7.alloc (.cells #[.int .i64 vlo, .int .i64 vhi] 32)).cell? ⟨w7.heap.size, 1, none⟩ = some (.int .i64 vhi) := cell_new rfl rfl
      have hnb : w7.heap.size < (w7.alloc (.cells #[.int .i64 vlo, .int .i64 vhi] 32)).heap.size := by simp
      have hnw : w5.heap.size ≤ w7.heap.size := by have := hb6.size; have := hb7.size; simp at *; omega
      generalize (w7.alloc (.cells #[.int .i64 vlo, .int .i64 vhi] 32)) = w8 at *
      clear own6 hb6 hb7 hy6 hy7 hk6
      generalize w7.heap.size = nb at *
      have F := And.intro hb5W (And.intro V0 (And.intro V1 (And.intro hnb hnw)))
      clear hb5W V0 V1 hnb hnw
      revert F
      revert nb
      revert w8
      revert c6
      revert A6
      exact key ()
    focus
      have hk6 : w5.heap.size ≤ w6.heap.size := by have := hb6.size; (try simp at this); omega
      have hb5W : Below w5.heap.size w5 ((w7.setCell ⟨w6.heap.size, 0, none⟩ (.int .i64 vlo)).setCell ⟨w6.heap.size, 1, none⟩ (.int .i64 vhi)) := (by repeat (first | assumption | exact Below.refl _ _ | refine Below.drew ?_ | (refine below_alloc _ ?_ ?_; focus (first | omega | (simp; done) | (simp; omega) | (simp at *; omega))) | (refine below_set _ ?_ ?_; focus (first | omega | (simp; done) | (simp; omega) | (simp at *; omega))) | refine below_drewN ?_ _ | (refine below_call (by assumption) ?_ ?_; focus (first | omega | (simp; done) | (simp; omega) | (simp at *; omega))) | (refine below_call' (by assumption) ?_ ?_; focus (first | omega | (simp; done) | (simp; omega) | (simp at *; omega)))))
      have V0 : ((w7.setCell ⟨w6.heap.size, 0, none⟩ (.int .i64 vlo)).setCell ⟨w6.heap.size, 1, none⟩ (.int .i64 vhi)).cell? ⟨w6.heap.size, 0, none⟩ = some (.int .i64 vlo) := (set2 v0 v1).1
      have V1 : ((w7.setCell ⟨w6.heap.size, 0, none⟩ (.int .i64 vlo)).setCell ⟨w6.heap.size, 1, none⟩ (.int .i64 vhi)).cell? ⟨w6.heap.size, 1, none⟩ = some (.int .i64 vhi) := (set2 v0 v1).2
      have hnb : w6.heap.size < ((w7.setCell ⟨w6.heap.size, 0, none⟩ (.int .i64 vlo)).setCell ⟨w6.heap.size, 1, none⟩ (.int .i64 vhi)).heap.size := by simpa using World.block_lt_of_cell? _ _ v0
      have hnw : w5.heap.size ≤ w6.heap.size := by have := hb6.size; simp at *; omega
      generalize ((w7.setCell ⟨w6.heap.size, 0, none⟩ (.int .i64 vlo)).setCell ⟨w6.heap.size, 1, none⟩ (.int .i64 vhi)) = w8 at *
      clear own6 hb6 hb7 hy6 hy7 hk6
      clear v0 v1 y0 y1
      generalize w6.heap.size = nb at *
      have F := And.intro hb5W (And.intro V0 (And.intro V1 (And.intro hnb hnw)))
      clear hb5W V0 V1 hnb hnw
      revert F
      revert nb
      revert w8
      revert c6
      revert A6
      exact key ()
    focus
      have hk6 : w5.heap.size ≤ w6.heap.size := by have := hb6.size; (try simp at this); omega
      have hb5W : Below w5.heap.size w5 ((w7.setCell ⟨w5.heap.size, 0, none⟩ (.int .i64 vlo)).setCell ⟨w5.heap.size, 1, none⟩ (.int .i64 vhi)) := (by repeat (first | assumption | exact Below.refl _ _ | refine Below.drew ?_ | (refine below_alloc _ ?_ ?_; focus (first | omega | (simp; done) | (simp; omega) | (simp at *; omega))) | (refine below_set _ ?_ ?_; focus (first | omega | (simp; done) | (simp; omega) | (simp at *; omega))) | refine below_drewN ?_ _ | (refine below_call (by assumption) ?_ ?_; focus (first | omega | (simp; done) | (simp; omega) | (simp at *; omega))) | (refine below_call' (by assumption) ?_ ?_; focus (first | omega | (simp; done) | (simp; omega) | (simp at *; omega)))))
      have V0 : ((w7.setCell ⟨w5.heap.size, 0, none⟩ (.int .i64 vlo)).setCell ⟨w5.heap.size, 1, none⟩ (.int .i64 vhi)).cell? ⟨w5.heap.size, 0, none⟩ = some (.int .i64 vlo) := (set2 v0 v1).1
      have V1 : ((w7.setCell ⟨w5.heap.size, 0, none⟩ (.int .i64 vlo)).setCell ⟨w5.heap.size, 1, none⟩ (.int .i64 vhi)).cell? ⟨w5.heap.size, 1, none⟩ = some (.int .i64 vhi) := (set2 v0 v1).2
      have hnb : w5.heap.size < ((w7.setCell ⟨w5.heap.size, 0, none⟩ (.int .i64 vlo)).setCell ⟨w5.heap.size, 1, none⟩ (.int .i64 vhi)).heap.size := by simpa using World.block_lt_of_cell? _ _ v0
      have hnw : w5.heap.size ≤ w5.heap.size := by exact Nat.le_refl _
      generalize ((w7.setCell ⟨w5.heap.size, 0, none⟩ (.int .i64 vlo)).setCell ⟨w5.heap.size, 1, none⟩ (.int .i64 vhi)) = w8 at *
      clear own6 hb6 hb7 hy6 hy7 hk6
      obtain ⟨nb, hnbe⟩ : ∃ nb, nb = w5.heap.size := ⟨_, rfl⟩
      rw [← hnbe]
      rw [← hnbe] at V0 V1 hnb
      replace hnw : w5.heap.size ≤ nb := by omega
      clear hnbe v0 v1 y0 y1
      have F := And.intro hb5W (And.intro V0 (And.intro V1 (And.intro hnb hnw)))
      clear hb5W V0 V1 hnb hnw
      revert F
      revert nb
      revert w8
      revert c6
      revert A6
      exact key ()
  · intro A0 c0 w8 hS nb F
    clear hS
    obtain ⟨hb5W, V0, V1, hnb, hnw⟩ := F
    replace a0 := cell_below' hb5W a0
    replace a1 := cell_below' hb5W a1
    replace x0 := cell_below' hb5W x0
    replace x1 := cell_below' hb5W x1
    replace x2 := cell_below' hb5W x2
    replace x3 := cell_below' hb5W x3
    replace x4 := cell_below' hb5W x4
    have hz8 : w.heap.size < w8.heap.size := by omega
    have hy8 : w.heap.size + 1 < w8.heap.size := by omega
    have hbw8 : Below w.heap.size w w8 := (by repeat (first | assumption | exact Below.refl _ _ | refine Below.drew ?_ | (refine below_alloc _ ?_ ?_; focus (first | omega | (simp; done) | (simp; omega) | (simp at *; omega))) | (refine below_set _ ?_ ?_; focus (first | omega | (simp; done) | (simp; omega) | (simp at *; omega))) | refine below_drewN ?_ _ | (refine below_call (by assumption) ?_ ?_; focus (first | omega | (simp; done) | (simp; omega) | (simp at *; omega))) | (refine below_call' (by assumption) ?_ ?_; focus (first | omega | (simp; done) | (simp; omega) | (simp at *; omega)))))
    have hA8 := RowsAt.below hA5 hb5W
    have hnz : w.heap.size + 1 < nb := by omega
    clear hb5W hbw5 hA5 hz5 hy5 hnw
    have bb0 := HO.out.b0
    have bb1 := HO.out.b1
    obtain ⟨sl0, sl1, sl2, sl3⟩ := HO.out.sl l[sn] (List.getElem_mem hs)
    have hwn : ∀ W, Calls Try.prog 23 #[.int .i64 n, .int .i64 0, .int .i64 10000] W fun e w' => e = .returned (.bool true) ∧ W = w' := fun W => (by have := Within_any n 0 10000 W; rwa [show withinB n 0 10000 = true from withinB_true.2 ⟨n0, n4⟩] at this)
    have HWN := Lib.hid hwn
    have d1 : decide (vlo < n) = false := by simp; omega
    have d2 : decide (vhi < vlo) = false := by simp; omega
    clear hwn
    go_wp2_with (go_at_call 23; refine (HWN.out _).mono ?_; rintro e w' ⟨rfl, rfl⟩)
    refine (HC1.out _ hA8).mono ?_
    rintro e w9 ⟨A9, c9, rfl, own9, hb9⟩
    replace V0 := cell_below' hb9 V0
    replace V1 := cell_below' hb9 V1
    have hgw : w8.heap.size ≤ w9.heap.size := hb9.size
    have hnb8 : nb < w8.heap.size := hnb
    replace hnb : nb < w9.heap.size := by omega
    (have hz9 : w.heap.size < w9.heap.size := (by have := hb9.size; omega); have hy9 : w.heap.size + 1 < w9.heap.size := (by have := hb9.size; omega); replace a0 := cell_below' hb9 a0; replace a1 := cell_below' hb9 a1; replace x0 := cell_below' hb9 x0; replace x1 := cell_below' hb9 x1; replace x2 := cell_below' hb9 x2; replace x3 := cell_below' hb9 x3; replace x4 := cell_below' hb9 x4; have hA9 := RowsAt.below hA8 hb9; have hbw9 : Below w.heap.size w w9 := (by repeat (first | assumption | exact Below.refl _ _ | refine Below.drew ?_ | (refine below_alloc _ ?_ ?_; focus (first | omega | (simp; done) | (simp; omega) | (simp at *; omega))) | (refine below_set _ ?_ ?_; focus (first | omega | (simp; done) | (simp; omega) | (simp at *; omega))) | refine below_drewN ?_ _ | (refine below_call (by assumption) ?_ ?_; focus (first | omega | (simp; done) | (simp; omega) | (simp at *; omega))) | (refine below_call' (by assumption) ?_ ?_; focus (first | omega | (simp; done) | (simp; omega) | (simp at *; omega))))); clear hb9 hbw8 hA8)
    obtain ⟨g, cg, hvg, hgb, hgl⟩ := own9.form hn0
    injection hvg with hvg1 hvg2 hvg3
    subst hvg1 hvg3
    go_wp2_with (fail)
    obtain ⟨t0', t1', y0', y1'⟩ := own_at own9 rfl hs
    have hbv : Below w.heap.size w (w9.alloc (.cells #[.int .i64 (base + db), .slice (some ⟨g, 0, none⟩) l.length c9] 24)) := (by repeat (first | assumption | exact Below.refl _ _ | refine Below.drew ?_ | (refine below_alloc _ ?_ ?_; focus (first | omega | (simp; done) | (simp; omega) | (simp at *; omega))) | (refine below_set _ ?_ ?_; focus (first | omega | (simp; done) | (simp; omega) | (simp at *; omega))) | refine below_drewN ?_ _ | (refine below_call (by assumption) ?_ ?_; focus (first | omega | (simp; done) | (simp; omega) | (simp at *; omega))) | (refine below_call' (by assumption) ?_ ?_; focus (first | omega | (simp; done) | (simp; omega) | (simp at *; omega)))))
    have m0 : (w9.alloc (.cells #[.int .i64 (base + db), .slice (some ⟨g, 0, none⟩) l.length c9] 24)).cell? ⟨w9.heap.size, 0, none⟩ = some (.int .i64 (base + db)) := (by repeat (first | assumption | (refine cell_new ?_ rfl; focus (simp; done)) | refine cell_drew ?_ | refine cell_alloc _ ?_ | refine cell_drewN _ ?_ | (refine cell_far ?_ ?_; focus (first | omega | (simp; omega) | (simp; done))) | refine cell_below' (by assumption) ?_))
    have m1 : (w9.alloc (.cells #[.int .i64 (base + db), .slice (some ⟨g, 0, none⟩) l.length c9] 24)).cell? ⟨w9.heap.size, 1, none⟩ = some (.slice (some ⟨g, 0, none⟩) l.length c9) := (by repeat (first | assumption | (refine cell_new ?_ rfl; focus (simp; done)) | refine cell_drew ?_ | refine cell_alloc _ ?_ | refine cell_drewN _ ?_ | (refine cell_far ?_ ?_; focus (first | omega | (simp; omega) | (simp; done))) | refine cell_below' (by assumption) ?_))
    have o9 := own9.alloc (.cells #[.int .i64 (base + db), .slice (some ⟨g, 0, none⟩) l.length c9] 24)
    (refine region_extx 14 (by kernel_rfl) (by kernel_rfl) fun hx => ?_; simp only [List.take_succ_cons, List.take_zero, List.drop_succ_cons, List.drop_zero]; (repeat (any_goals (first | go_big_quiet_step (fail) | quiet_step (fail)))))
    (refine wpQuiet_nil ?_; clear hx; intro u; have hbv1 := ext_bel _ u; have hxv1 := ext_cell _ u; generalize ext _ u = v1 at *; clear u; have hsv1 := hbv1.size; (try simp at hsv1))
    replace a0 := cell_below' hbv1 (cell_alloc _ a0)
    replace a1 := cell_below' hbv1 (cell_alloc _ a1)
    replace x0 := cell_below' hbv1 (cell_alloc _ x0)
    replace x1 := cell_below' hbv1 (cell_alloc _ x1)
    replace x2 := cell_below' hbv1 (cell_alloc _ x2)
    replace x3 := cell_below' hbv1 (cell_alloc _ x3)
    replace x4 := cell_below' hbv1 (cell_alloc _ x4)
    replace V0 := cell_below' hbv1 (cell_alloc _ V0)
    replace V1 := cell_below' hbv1 (cell_alloc _ V1)
    replace m0 := cell_below' hbv1 m0
    replace m1 := cell_below' hbv1 m1
    have o10 := own_below o9 hbv1
    have zz0 : w.heap.size + 1 < v1.heap.size := by omega
    have zz1 : nb < v1.heap.size := by omega
    have zz2 : w9.heap.size < v1.heap.size := by omega
    have zz3 : g < v1.heap.size := by omega
    have zz4 : w.heap.size < v1.heap.size := by omega
    have hbw10 : Below w.heap.size w v1 := (by repeat (first | assumption | exact Below.refl _ _ | refine Below.drew ?_ | (refine below_alloc _ ?_ ?_; focus (first | omega | (simp; done) | (simp; omega) | (simp at *; omega))) | (refine below_set _ ?_ ?_; focus (first | omega | (simp; done) | (simp; omega) | (simp at *; omega))) | refine below_drewN ?_ _ | (refine below_call (by assumption) ?_ ?_; focus (first | omega | (simp; done) | (simp; omega) | (simp at *; omega))) | (refine below_call' (by assumption) ?_ ?_; focus (first | omega | (simp; done) | (simp; omega) | (simp at *; omega)))))
    clear hbv1 hxv1 hsv1 own9 o9 hbv hbw9 t0' t1' y0' y1' hA9
    obtain ⟨t0', t1', y0', y1'⟩ := own_at o10 rfl hs
    have o11 := (o10.stored (sn * 2 + 1) (.int .i64 (l[sn].th + dt))).1
    rw [cellsOf_set1 _ _ hs] at o11
    have hsl2 : ∀ q : Int, (l.set sn ⟨l[sn].sq, l[sn].th + dt⟩).set sn ⟨q, l[sn].th + dt⟩ = l.set sn ⟨q, l[sn].th + dt⟩ := fun q => List.set_set _
    have HSL := Lib.hid hsl2
    clear hsl2
    have hg1 : g ≠ w.heap.size := by omega
    have hg2 : g ≠ w.heap.size + 1 := by omega
    have hg3 : g ≠ nb := by omega
    have hg4 : g ≠ w9.heap.size := by omega
    by_cases hsk : sn < k
    focus
      have hsd : (sn : Int) < (k : Int) := by omega
      go_wp2_with (fail)
      replace a0 := cell_far (q := ⟨g, sn * 2 + 1, none⟩) (u := .int .i64 (l[sn].th + dt)) hg1 a0
      replace a1 := cell_far (q := ⟨g, sn * 2 + 1, none⟩) (u := .int .i64 (l[sn].th + dt)) hg1 a1
      replace x0 := cell_far (q := ⟨g, sn * 2 + 1, none⟩) (u := .int .i64 (l[sn].th + dt)) hg2 x0
      replace x1 := cell_far (q := ⟨g, sn * 2 + 1, none⟩) (u := .int .i64 (l[sn].th + dt)) hg2 x1
      replace x2 := cell_far (q := ⟨g, sn * 2 + 1, none⟩) (u := .int .i64 (l[sn].th + dt)) hg2 x2
      replace x3 := cell_far (q := ⟨g, sn * 2 + 1, none⟩) (u := .int .i64 (l[sn].th + dt)) hg2 x3
      replace x4 := cell_far (q := ⟨g, sn * 2 + 1, none⟩) (u := .int .i64 (l[sn].th + dt)) hg2 x4
      replace V0 := cell_far (q := ⟨g, sn * 2 + 1, none⟩) (u := .int .i64 (l[sn].th + dt)) hg3 V0
      replace V1 := cell_far (q := ⟨g, sn * 2 + 1, none⟩) (u := .int .i64 (l[sn].th + dt)) hg3 V1
      replace m0 := cell_far (q := ⟨g, sn * 2 + 1, none⟩) (u := .int .i64 (l[sn].th + dt)) hg4 m0
      replace m1 := cell_far (q := ⟨g, sn * 2 + 1, none⟩) (u := .int .i64 (l[sn].th + dt)) hg4 m1
      have hbS : Below w.heap.size w (v1.setCell ⟨g, sn * 2 + 1, none⟩ (.int .i64 (l[sn].th + dt))) := (by repeat (first | assumption | exact Below.refl _ _ | refine Below.drew ?_ | (refine below_alloc _ ?_ ?_; focus (first | omega | (simp; done) | (simp; omega) | (simp at *; omega))) | (refine below_set _ ?_ ?_; focus (first | omega | (simp; done) | (simp; omega) | (simp at *; omega))) | refine below_drewN ?_ _ | (refine below_call (by assumption) ?_ ?_; focus (first | omega | (simp; done) | (simp; omega) | (simp at *; omega))) | (refine below_call' (by assumption) ?_ ?_; focus (first | omega | (simp; done) | (simp; omega) | (simp at *; omega)))))
      have hsz : (v1.setCell ⟨g, sn * 2 + 1, none⟩ (.int .i64 (l[sn].th + dt))).heap.size = v1.heap.size := by simp
      generalize (v1.setCell ⟨g, sn * 2 + 1, none⟩ (.int .i64 (l[sn].th + dt))) = v2 at *
      clear o10 t0' t1' y0' y1' hbw10
      have zz5 : w.heap.size + 1 < v2.heap.size := by omega
      have zz6 : nb < v2.heap.size := by omega
      have zz7 : w9.heap.size < v2.heap.size := by omega
      have zz8 : g < v2.heap.size := by omega
      have zz9 : w.heap.size < v2.heap.size := by omega
      obtain ⟨t2, t3, y2, y3⟩ := own_at o11 (by simp) (s := sn) (by simpa using hs)
      rw [List.getElem_set_self] at t2 t3
      have hff := sq_bd f (by omega) f1
      obtain ⟨hff0, hff1⟩ := hff
      have h2' := H2.out
      rw [if_pos hsk] at h2'
      unfold minI at h2'
      by_cases hmin : l[sn].sq + dq ≤ f * f - 1
      focus
        rw [if_neg (by omega)] at h2'
        (refine region_extx 21 (by kernel_rfl) (by kernel_rfl) fun hx => ?_; simp only [List.take_succ_cons, List.take_zero, List.drop_succ_cons, List.drop_zero]; (repeat (any_goals (first | go_big_quiet_step (fail) | quiet_step (fail)))))
        (refine wpQuiet_nil ?_; clear hx; intro u; have hbv3 := ext_bel _ u; have hxv3 := ext_cell _ u; generalize ext _ u = v3 at *; clear u; have hsv3 := hbv3.size; (try simp at hsv3))
        replace t2 : v2.cell? ⟨g, sn * 2, none⟩ = some (.int .i64 l[sn].sq) := t2
        replace a0 := cell_below' hbv3 a0
        replace a1 := cell_below' hbv3 a1
        replace x0 := cell_below' hbv3 x0
        replace x1 := cell_below' hbv3 x1
        replace x2 := cell_below' hbv3 x2
        replace x3 := cell_below' hbv3 x3
        replace x4 := cell_below' hbv3 x4
        replace V0 := cell_below' hbv3 V0
        replace V1 := cell_below' hbv3 V1
        replace m0 := cell_below' hbv3 m0
        replace m1 := cell_below' hbv3 m1
        have o12 := own_below o11 hbv3
        have hv23 : v2.heap.size ≤ v3.heap.size := hbv3.size
        have zy0 : w.heap.size < v3.heap.size := by omega
        have zy1 : w.heap.size + 1 < v3.heap.size := by omega
        have zy2 : nb < v3.heap.size := by omega
        have zy3 : w9.heap.size < v3.heap.size := by omega
        have zy4 : g < v3.heap.size := by omega
        have hbw3' : Below w.heap.size w v3 := (by repeat (first | assumption | exact Below.refl _ _ | refine Below.drew ?_ | (refine below_alloc _ ?_ ?_; focus (first | omega | (simp; done) | (simp; omega) | (simp at *; omega))) | (refine below_set _ ?_ ?_; focus (first | omega | (simp; done) | (simp; omega) | (simp at *; omega))) | refine below_drewN ?_ _ | (refine below_call (by assumption) ?_ ?_; focus (first | omega | (simp; done) | (simp; omega) | (simp at *; omega))) | (refine below_call' (by assumption) ?_ ?_; focus (first | omega | (simp; done) | (simp; omega) | (simp at *; omega)))))
        clear hbv3 hxv3 hsv3 o11 hbS t3 y2 y3
        obtain ⟨t2', t3', y2, y3⟩ := own_at o12 (by simp) (s := sn) (by simpa using hs)
        clear t2 t3'
        have o13 := (o12.stored (sn * 2) (.int .i64 (l[sn].sq + dq))).1
        rw [cellsOf_set0 _ _ (by simpa using hs)] at o13
        simp only [List.getElem_set_self, List.set_set] at o13 t2'
        go_wp2_with (fail)
        replace a0 := cell_far (q := ⟨g, sn * 2, none⟩) (u := .int .i64 (l[sn].sq + dq)) hg1 a0
        replace a1 := cell_far (q := ⟨g, sn * 2, none⟩) (u := .int .i64 (l[sn].sq + dq)) hg1 a1
        replace x0 := cell_far (q := ⟨g, sn * 2, none⟩) (u := .int .i64 (l[sn].sq + dq)) hg2 x0
        replace x1 := cell_far (q := ⟨g, sn * 2, none⟩) (u := .int .i64 (l[sn].sq + dq)) hg2 x1
        replace x2 := cell_far (q := ⟨g, sn * 2, none⟩) (u := .int .i64 (l[sn].sq + dq)) hg2 x2
        replace x3 := cell_far (q := ⟨g, sn * 2, none⟩) (u := .int .i64 (l[sn].sq + dq)) hg2 x3
        replace x4 := cell_far (q := ⟨g, sn * 2, none⟩) (u := .int .i64 (l[sn].sq + dq)) hg2 x4
        replace V0 := cell_far (q := ⟨g, sn * 2, none⟩) (u := .int .i64 (l[sn].sq + dq)) hg3 V0
        replace V1 := cell_far (q := ⟨g, sn * 2, none⟩) (u := .int .i64 (l[sn].sq + dq)) hg3 V1
        replace m0 := cell_far (q := ⟨g, sn * 2, none⟩) (u := .int .i64 (l[sn].sq + dq)) hg4 m0
        replace m1 := cell_far (q := ⟨g, sn * 2, none⟩) (u := .int .i64 (l[sn].sq + dq)) hg4 m1
        have hbwm : Below w.heap.size w (v3.setCell ⟨g, sn * 2, none⟩ (.int .i64 (l[sn].sq + dq))) := (by repeat (first | assumption | exact Below.refl _ _ | refine Below.drew ?_ | (refine below_alloc _ ?_ ?_; focus (first | omega | (simp; done) | (simp; omega) | (simp at *; omega))) | (refine below_set _ ?_ ?_; focus (first | omega | (simp; done) | (simp; omega) | (simp at *; omega))) | refine below_drewN ?_ _ | (refine below_call (by assumption) ?_ ?_; focus (first | omega | (simp; done) | (simp; omega) | (simp at *; omega))) | (refine below_call' (by assumption) ?_ ?_; focus (first | omega | (simp; done) | (simp; omega) | (simp at *; omega)))))
        have hszm : v3.heap.size = (v3.setCell ⟨g, sn * 2, none⟩ (.int .i64 (l[sn].sq + dq))).heap.size := by simp
        generalize (v3.setCell ⟨g, sn * 2, none⟩ (.int .i64 (l[sn].sq + dq))) = vm at *
        generalize hlm : l.set sn ⟨l[sn].sq + dq, l[sn].th + dt⟩ = lm at *
        have om := o13
        clear o12 o13 t2' y2 y3 hbw3'
      rotate_left 1
      focus
        rw [if_pos (by omega)] at h2'
        have hmin' : f * f - 1 < l[sn].sq + dq := by omega
        have hmin2 : f * f - 1 ≤ l[sn].sq + dq := by omega
        (refine region_extx 21 (by kernel_rfl) (by kernel_rfl) fun hx => ?_; simp only [List.take_succ_cons, List.take_zero, List.drop_succ_cons, List.drop_zero]; (repeat (any_goals (first | go_big_quiet_step (fail) | quiet_step (fail)))))
        (refine wpQuiet_nil ?_; clear hx; intro u; have hbv3 := ext_bel _ u; have hxv3 := ext_cell _ u; generalize ext _ u = v3 at *; clear u; have hsv3 := hbv3.size; (try simp at hsv3))
        replace t2 : v2.cell? ⟨g, sn * 2, none⟩ = some (.int .i64 l[sn].sq) := t2
        replace a0 := cell_below' hbv3 a0
        replace a1 := cell_below' hbv3 a1
        replace x0 := cell_below' hbv3 x0
        replace x1 := cell_below' hbv3 x1
        replace x2 := cell_below' hbv3 x2
        replace x3 := cell_below' hbv3 x3
        replace x4 := cell_below' hbv3 x4
        replace V0 := cell_below' hbv3 V0
        replace V1 := cell_below' hbv3 V1
        replace m0 := cell_below' hbv3 m0
        replace m1 := cell_below' hbv3 m1
        have o12 := own_below o11 hbv3
        have hv23 : v2.heap.size ≤ v3.heap.size := hbv3.size
        have zy0 : w.heap.size < v3.heap.size := by omega
        have zy1 : w.heap.size + 1 < v3.heap.size := by omega
        have zy2 : nb < v3.heap.size := by omega
        have zy3 : w9.heap.size < v3.heap.size := by omega
        have zy4 : g < v3.heap.size := by omega
        have hbw3' : Below w.heap.size w v3 := (by repeat (first | assumption | exact Below.refl _ _ | refine Below.drew ?_ | (refine below_alloc _ ?_ ?_; focus (first | omega | (simp; done) | (simp; omega) | (simp at *; omega))) | (refine below_set _ ?_ ?_; focus (first | omega | (simp; done) | (simp; omega) | (simp at *; omega))) | refine below_drewN ?_ _ | (refine below_call (by assumption) ?_ ?_; focus (first | omega | (simp; done) | (simp; omega) | (simp at *; omega))) | (refine below_call' (by assumption) ?_ ?_; focus (first | omega | (simp; done) | (simp; omega) | (simp at *; omega)))))
        clear hbv3 hxv3 hsv3 o11 hbS t3 y2 y3
        obtain ⟨t2', t3', y2, y3⟩ := own_at o12 (by simp) (s := sn) (by simpa using hs)
        clear t2 t3'
        have o13 := (o12.stored (sn * 2) (.int .i64 (f * f - 1))).1
        rw [cellsOf_set0 _ _ (by simpa using hs)] at o13
        simp only [List.getElem_set_self, List.set_set] at o13 t2'
        go_wp2_with (fail)
        replace a0 := cell_far (q := ⟨g, sn * 2, none⟩) (u := .int .i64 (f * f - 1)) hg1 a0
        replace a1 := cell_far (q := ⟨g, sn * 2, none⟩) (u := .int .i64 (f * f - 1)) hg1 a1
        replace x0 := cell_far (q := ⟨g, sn * 2, none⟩) (u := .int .i64 (f * f - 1)) hg2 x0
        replace x1 := cell_far (q := ⟨g, sn * 2, none⟩) (u := .int .i64 (f * f - 1)) hg2 x1
        replace x2 := cell_far (q := ⟨g, sn * 2, none⟩) (u := .int .i64 (f * f - 1)) hg2 x2
        replace x3 := cell_far (q := ⟨g, sn * 2, none⟩) (u := .int .i64 (f * f - 1)) hg2 x3
        replace x4 := cell_far (q := ⟨g, sn * 2, none⟩) (u := .int .i64 (f * f - 1)) hg2 x4
        replace V0 := cell_far (q := ⟨g, sn * 2, none⟩) (u := .int .i64 (f * f - 1)) hg3 V0
        replace V1 := cell_far (q := ⟨g, sn * 2, none⟩) (u := .int .i64 (f * f - 1)) hg3 V1
        replace m0 := cell_far (q := ⟨g, sn * 2, none⟩) (u := .int .i64 (f * f - 1)) hg4 m0
        replace m1 := cell_far (q := ⟨g, sn * 2, none⟩) (u := .int .i64 (f * f - 1)) hg4 m1
        have hbwm : Below w.heap.size w (v3.setCell ⟨g, sn * 2, none⟩ (.int .i64 (f * f - 1))) := (by repeat (first | assumption | exact Below.refl _ _ | refine Below.drew ?_ | (refine below_alloc _ ?_ ?_; focus (first | omega | (simp; done) | (simp; omega) | (simp at *; omega))) | (refine below_set _ ?_ ?_; focus (first | omega | (simp; done) | (simp; omega) | (simp at *; omega))) | refine below_drewN ?_ _ | (refine below_call (by assumption) ?_ ?_; focus (first | omega | (simp; done) | (simp; omega) | (simp at *; omega))) | (refine below_call' (by assumption) ?_ ?_; focus (first | omega | (simp; done) | (simp; omega) | (simp at *; omega)))))
        have hszm : v3.heap.size = (v3.setCell ⟨g, sn * 2, none⟩ (.int .i64 (f * f - 1))).heap.size := by simp
        generalize (v3.setCell ⟨g, sn * 2, none⟩ (.int .i64 (f * f - 1))) = vm at *
        generalize hlm : l.set sn ⟨f * f - 1, l[sn].th + dt⟩ = lm at *
        have om := o13
        clear o12 o13 t2' y2 y3 hbw3'
    rotate_left 2
    focus
      have hsd : ¬ (sn : Int) < (k : Int) := by omega
      have hsd' : (k : Int) ≤ (sn : Int) := by omega
      go_wp2_with (fail)
      replace a0 := cell_far (q := ⟨g, sn * 2 + 1, none⟩) (u := .int .i64 (l[sn].th + dt)) hg1 a0
      replace a1 := cell_far (q := ⟨g, sn * 2 + 1, none⟩) (u := .int .i64 (l[sn].th + dt)) hg1 a1
      replace x0 := cell_far (q := ⟨g, sn * 2 + 1, none⟩) (u := .int .i64 (l[sn].th + dt)) hg2 x0
      replace x1 := cell_far (q := ⟨g, sn * 2 + 1, none⟩) (u := .int .i64 (l[sn].th + dt)) hg2 x1
      replace x2 := cell_far (q := ⟨g, sn * 2 + 1, none⟩) (u := .int .i64 (l[sn].th + dt)) hg2 x2
      replace x3 := cell_far (q := ⟨g, sn * 2 + 1, none⟩) (u := .int .i64 (l[sn].th + dt)) hg2 x3
      replace x4 := cell_far (q := ⟨g, sn * 2 + 1, none⟩) (u := .int .i64 (l[sn].th + dt)) hg2 x4
      replace V0 := cell_far (q := ⟨g, sn * 2 + 1, none⟩) (u := .int .i64 (l[sn].th + dt)) hg3 V0
      replace V1 := cell_far (q := ⟨g, sn * 2 + 1, none⟩) (u := .int .i64 (l[sn].th + dt)) hg3 V1
      replace m0 := cell_far (q := ⟨g, sn * 2 + 1, none⟩) (u := .int .i64 (l[sn].th + dt)) hg4 m0
      replace m1 := cell_far (q := ⟨g, sn * 2 + 1, none⟩) (u := .int .i64 (l[sn].th + dt)) hg4 m1
      have hbwm : Below w.heap.size w (v1.setCell ⟨g, sn * 2 + 1, none⟩ (.int .i64 (l[sn].th + dt))) := (by repeat (first | assumption | exact Below.refl _ _ | refine Below.drew ?_ | (refine below_alloc _ ?_ ?_; focus (first | omega | (simp; done) | (simp; omega) | (simp at *; omega))) | (refine below_set _ ?_ ?_; focus (first | omega | (simp; done) | (simp; omega) | (simp at *; omega))) | refine below_drewN ?_ _ | (refine below_call (by assumption) ?_ ?_; focus (first | omega | (simp; done) | (simp; omega) | (simp at *; omega))) | (refine below_call' (by assumption) ?_ ?_; focus (first | omega | (simp; done) | (simp; omega) | (simp at *; omega)))))
      have hszm : v1.heap.size = (v1.setCell ⟨g, sn * 2 + 1, none⟩ (.int .i64 (l[sn].th + dt))).heap.size := by simp
      generalize (v1.setCell ⟨g, sn * 2 + 1, none⟩ (.int .i64 (l[sn].th + dt))) = vm at *
      have h2' := H2.out
      rw [if_neg hsk] at h2'
      generalize hlm : l.set sn ⟨l[sn].sq, l[sn].th + dt⟩ = lm at *
      have om := o11
      clear o10 o11 t0' t1' y0' y1' hbw10
    all_goals
      have hlen : lm.length = l.length := by rw [← hlm]; simp
      have H2' := Lib.hid h2'
      clear h2' H2 hlm HSL
      have zm0 : w.heap.size < vm.heap.size := by omega
      have zm1 : w.heap.size + 1 < vm.heap.size := by omega
      have zm2 : nb < vm.heap.size := by omega
      have zm3 : w9.heap.size < vm.heap.size := by omega
      have zm4 : g < vm.heap.size := by omega
      have hSm : SlabsAt vm (some ⟨g, 0, none⟩) lm := rowsAt_of_own om hlen (by decide)
      have hAm := hA.below hbwm
      clear om
      have hpe : ∀ W, SlabsAt W (some ⟨g, 0, none⟩) lm → Calls Try.prog 19 #[.agg #[.int .i64 (base + db), .slice (some ⟨g, 0, none⟩) l.length c9]] W fun e w' => e = .returned (.int .i64 (chkE (base + db) lm)) ∧ Below W.heap.size W w' := fun W hW => by
        have := ProfileErr_any (base + db) _ lm c9 W (by omega) hW
        rwa [hlen] at this
      have hcm : ∀ W, SlabsAt W (some ⟨g, 0, none⟩) lm → Calls Try.prog 17 #[.agg #[.int .i64 (base + db), .slice (some ⟨g, 0, none⟩) l.length c9]] W fun e w' => ∃ A' c', e = .returned (.agg #[.int .i64 (base + db), .slice A' l.length c']) ∧ w'.ownsRow W.heap.size 45 2 (.slice A' l.length c') l.length (cellsOf 2 slbC lm) ∧ Below W.heap.size W w' := fun W hW => by
        have := Copy_any (base + db) _ lm c9 W (by omega) hW
        unfold CopyPost at this
        rwa [hlen] at this
      refine (hpe _ hSm).mono ?_
      rintro e u1 ⟨rfl, hbu1⟩
      have hvu : vm.heap.size ≤ u1.heap.size := hbu1.size
      replace a0 := cell_below' hbu1 a0
      replace a1 := cell_below' hbu1 a1
      replace x0 := cell_below' hbu1 x0
      replace x1 := cell_below' hbu1 x1
      replace x2 := cell_below' hbu1 x2
      replace x3 := cell_below' hbu1 x3
      replace x4 := cell_below' hbu1 x4
      replace V0 := cell_below' hbu1 V0
      replace V1 := cell_below' hbu1 V1
      replace m0 := cell_below' hbu1 m0
      replace m1 := cell_below' hbu1 m1
      replace hSm := RowsAt.below hSm hbu1
      have hAu := RowsAt.below hAm hbu1
      have hbwu : Below w.heap.size w u1 := (by repeat (first | assumption | exact Below.refl _ _ | refine Below.drew ?_ | (refine below_alloc _ ?_ ?_; focus (first | omega | (simp; done) | (simp; omega) | (simp at *; omega))) | (refine below_set _ ?_ ?_; focus (first | omega | (simp; done) | (simp; omega) | (simp at *; omega))) | refine below_drewN ?_ _ | (refine below_call (by assumption) ?_ ?_; focus (first | omega | (simp; done) | (simp; omega) | (simp at *; omega))) | (refine below_call' (by assumption) ?_ ?_; focus (first | omega | (simp; done) | (simp; omega) | (simp at *; omega)))))
      have zu0 : w.heap.size < u1.heap.size := by omega
      have zu1 : w.heap.size + 1 < u1.heap.size := by omega
      have zu2 : nb < u1.heap.size := by omega
      have zu3 : w9.heap.size < u1.heap.size := by omega
      have zu4 : g < u1.heap.size := by omega
      clear hbu1 hbwm hAm hpe
      by_cases hc : chkE (base + db) lm = 0
      rotate_left 1
      focus
        have h0' : (chkE (base + db) lm == 0) = false := by simpa using hc
        have h0'' : (chkE (base + db) lm != 0) = true := by simpa using hc
        clear hc
        go_wp2
        go_ret
        exact ⟨rfl, (by repeat (first | assumption | exact Below.refl _ _ | refine Below.drew ?_ | (refine below_alloc _ ?_ ?_; focus (first | omega | (simp; done) | (simp; omega) | (simp at *; omega))) | (refine below_set _ ?_ ?_; focus (first | omega | (simp; done) | (simp; omega) | (simp at *; omega))) | refine below_drewN ?_ _ | (refine below_call (by assumption) ?_ ?_; focus (first | omega | (simp; done) | (simp; omega) | (simp at *; omega))) | (refine below_call' (by assumption) ?_ ?_; focus (first | omega | (simp; done) | (simp; omega) | (simp at *; omega)))))⟩
      obtain ⟨hE', hlo, hhi⟩ := H2'.out hc
      have hvm : ∀ A c W (_ : l.length ≤ c), SlabsAt W A lm → Calls Try.prog 18 #[.agg #[.int .i64 (base + db), .slice A l.length c], .int .i64 f] W fun e w' => e = .returned (.tuple #[.agg #[.int .i64 (vatLo (base + db) lm f), .int .i64 (vatHi (base + db) lm f)], .int .i64 0]) ∧ Below W.heap.size W w' := fun A c W hcc hW => by
        have := VirtualAt_any (base + db) A lm c f W (by omega) (by omega) hW
        rwa [hlen, hE'] at this
      rw [hc]
      have HCM := Lib.hid hcm
      have HVM := Lib.hid hvm
      clear hc hE' hcm hvm H2'
      generalize vatLo (base + db) lm f = mlo at *
      generalize vatHi (base + db) lm f = mhi at *
      go_wp2_with (fail)
      apply cut_
      · intro key
        go_region_held3 (fun w' => w'.cell? ⟨w9.heap.size, 0, none⟩ = some (.int .i64 (base + db)) ∧ w'.cell? ⟨w9.heap.size, 1, none⟩ = some (.slice (some ⟨g, 0, none⟩) l.length c9) ∧ w'.cell? ⟨w.heap.size + 1, 0, none⟩ = some (.int .i64 f))
          ((((try go_split_ands); (repeat' (apply And.intro)) <;> (repeat (first | (with_reducible assumption) | (with_reducible refine cell_drew ?_) | (with_reducible refine cell_alloc _ ?_) | (with_reducible refine cell_below' (by with_reducible assumption) ?_) | (with_reducible refine cell_far ?_ ?_; focus (first | omega | (simp; omega) | (simp; done))))))))
          (first
            | (go_at_call 17; (with_reducible refine (HCM.out _ ?_).mono ?_); (focus (exact RowsAt.below hSm (by repeat (first | assumption | exact Below.refl _ _ | refine Below.drew ?_ | (refine below_alloc _ ?_ ?_; focus (first | omega | (simp; done) | (simp; omega) | (simp at *; omega))) | (refine below_set _ ?_ ?_; focus (first | omega | (simp; done) | (simp; omega) | (simp at *; omega))) | refine below_drewN ?_ _ | (refine below_call (by assumption) ?_ ?_; focus (first | omega | (simp; done) | (simp; omega) | (simp at *; omega))) | (refine below_call' (by assumption) ?_ ?_; focus (first | omega | (simp; done) | (simp; omega) | (simp at *; omega))))))); rintro e u6 ⟨A6, c6, rfl, own6, hb6⟩; have hy6 : w.heap.size + 1 < u6.heap.size := (by have := hb6.size; (try simp at this); omega); have hx6 : w9.heap.size < u6.heap.size := (by have := hb6.size; (try simp at this); omega); (try have v0 : World.cell? u6 ⟨(u1).heap.size, 0, none⟩ = some (.int .i64 0) := cell_below' hb6 (cell_new (by simp) rfl)); (try have v1 : World.cell? u6 ⟨(u1).heap.size, 1, none⟩ = some (.int .i64 0) := cell_below' hb6 (cell_new (by simp) rfl)); (try have y0 : World.frozen? u6 ⟨(u1).heap.size, 0, none⟩ = false := frozen_below hb6 (by simp) (frozen_new (by simp))); (try have y1 : World.frozen? u6 ⟨(u1).heap.size, 1, none⟩ = false := frozen_below hb6 (by simp) (frozen_new (by simp))))
            | (go_at_call 18; refine (HVM.out A6 c6 _ (own_cap' own6) (RowsAt.below (rowsAt_of_own own6 hlen (by decide)) (by repeat (first | assumption | exact Below.refl _ _ | refine Below.drew ?_ | (refine below_alloc _ ?_ ?_; focus (first | omega | (simp; done) | (simp; omega) | (simp at *; omega))) | (refine below_set _ ?_ ?_; focus (first | omega | (simp; done) | (simp; omega) | (simp at *; omega))) | refine below_drewN ?_ _ | (refine below_call (by assumption) ?_ ?_; focus (first | omega | (simp; done) | (simp; omega) | (simp at *; omega))) | (refine below_call' (by assumption) ?_ ?_; focus (first | omega | (simp; done) | (simp; omega) | (simp at *; omega))))))).mono ?_; rintro e u7 ⟨rfl, hb7⟩; have hy7 : w.heap.size + 1 < u7.heap.size := (by have := hb7.size; (try simp at this); omega); have hx7 : w9.heap.size < u7.heap.size := (by have := hb7.size; (try simp at this); omega); (try replace y0 := frozen_below hb7 (World.block_lt_of_cell? _ _ v0) y0); (try replace y1 := frozen_below hb7 (World.block_lt_of_cell? _ _ v1) y1); (try replace v0 := cell_below' hb7 v0); (try replace v1 := cell_below' hb7 v1); (try have v0 : World.cell? u7 ⟨(u6).heap.size, 0, none⟩ = some (.int .i64 0) := cell_below' hb7 (cell_new (by simp) rfl)); (try have v1 : World.cell? u7 ⟨(u6).heap.size, 1, none⟩ = some (.int .i64 0) := cell_below' hb7 (cell_new (by simp) rfl)); (try have y0 : World.frozen? u7 ⟨(u6).heap.size, 0, none⟩ = false := frozen_below hb7 (by simp) (frozen_new (by simp))); (try have y1 : World.frozen? u7 ⟨(u6).heap.size, 1, none⟩ = false := frozen_below hb7 (by simp) (frozen_new (by simp)))))
        focus
          have hk6 : u1.heap.size ≤ u6.heap.size := by have := hb6.size; (try simp at this); omega
          have hbuW : Below u1.heap.size u1 (u7.alloc (.cells #[.int .i64 mlo, .int .i64 mhi] 32)) := (by repeat (first | assumption | exact Below.refl _ _ | refine Below.drew ?_ | (refine below_alloc _ ?_ ?_; focus (first | omega | (simp; done) | (simp; omega) | (simp at *; omega))) | (refine below_set _ ?_ ?_; focus (first | omega | (simp; done) | (simp; omega) | (simp at *; omega))) | refine below_drewN ?_ _ | (refine below_call (by assumption) ?_ ?_; focus (first | omega | (simp; done) | (simp; omega) | (simp at *; omega))) | (refine below_call' (by assumption) ?_ ?_; focus (first | omega | (simp; done) | (simp; omega) | (simp at *; omega)))))
          have M0 : (u7.alloc (.cells #[.int .i64 mlo, .int .i64 mhi] 32)).cell? ⟨u7.heap.size, 0, none⟩ = some (.int .i64 mlo) := cell_new rfl rfl
          have M1 : (u7.alloc (.cells #[.int .i64 mlo, .int .i64 mhi] 32)).cell? ⟨u7.heap.size, 1, none⟩ = some (.int .i64 mhi) := cell_new rfl rfl
          generalize (u7.alloc (.cells #[.int .i64 mlo, .int .i64 mhi] 32)) = u8 at *
          clear own6 hb6 hb7 hy6 hy7 hx6 hx7 hk6
          generalize u7.heap.size = mb at *
          have F := And.intro hbuW (And.intro M0 M1)
          clear hbuW M0 M1
          revert F
          revert mb
          revert u8
          revert c6
          revert A6
          exact key ()
        focus
          have hk6 : u1.heap.size ≤ u6.heap.size := by have := hb6.size; (try simp at this); omega
          have hbuW : Below u1.heap.size u1 ((u7.setCell ⟨u6.heap.size, 0, none⟩ (.int .i64 mlo)).setCell ⟨u6.heap.size, 1, none⟩ (.int .i64 mhi)) := (by repeat (first | assumption | exact Below.refl _ _ | refine Below.drew ?_ | (refine below_alloc _ ?_ ?_; focus (first | omega | (simp; done) | (simp; omega) | (simp at *; omega))) | (refine below_set _ ?_ ?_; focus (first | omega | (simp; done) | (simp; omega) | (simp at *; omega))) | refine below_drewN ?_ _ | (refine below_call (by assumption) ?_ ?_; focus (first | omega | (simp; done) | (simp; omega) | (simp at *; omega))) | (refine below_call' (by assumption) ?_ ?_; focus (first | omega | (simp; done) | (simp; omega) | (simp at *; omega)))))
          have M0 : ((u7.setCell ⟨u6.heap.size, 0, none⟩ (.int .i64 mlo)).setCell ⟨u6.heap.size, 1, none⟩ (.int .i64 mhi)).cell? ⟨u6.heap.size, 0, none⟩ = some (.int .i64 mlo) := (set2 v0 v1).1
          have M1 : ((u7.setCell ⟨u6.heap.size, 0, none⟩ (.int .i64 mlo)).setCell ⟨u6.heap.size, 1, none⟩ (.int .i64 mhi)).cell? ⟨u6.heap.size, 1, none⟩ = some (.int .i64 mhi) := (set2 v0 v1).2
          generalize ((u7.setCell ⟨u6.heap.size, 0, none⟩ (.int .i64 mlo)).setCell ⟨u6.heap.size, 1, none⟩ (.int .i64 mhi)) = u8 at *
          clear own6 hb6 hb7 hy6 hy7 hx6 hx7 hk6
          clear v0 v1 y0 y1
          generalize u6.heap.size = mb at *
          have F := And.intro hbuW (And.intro M0 M1)
          clear hbuW M0 M1
          revert F
          revert mb
          revert u8
          revert c6
          revert A6
          exact key ()
        focus
          have hk6 : u1.heap.size ≤ u6.heap.size := by have := hb6.size; (try simp at this); omega
          have hbuW : Below u1.heap.size u1 ((u7.setCell ⟨u1.heap.size, 0, none⟩ (.int .i64 mlo)).setCell ⟨u1.heap.size, 1, none⟩ (.int .i64 mhi)) := (by repeat (first | assumption | exact Below.refl _ _ | refine Below.drew ?_ | (refine below_alloc _ ?_ ?_; focus (first | omega | (simp; done) | (simp; omega) | (simp at *; omega))) | (refine below_set _ ?_ ?_; focus (first | omega | (simp; done) | (simp; omega) | (simp at *; omega))) | refine below_drewN ?_ _ | (refine below_call (by assumption) ?_ ?_; focus (first | omega | (simp; done) | (simp; omega) | (simp at *; omega))) | (refine below_call' (by assumption) ?_ ?_; focus (first | omega | (simp; done) | (simp; omega) | (simp at *; omega)))))
          have M0 : ((u7.setCell ⟨u1.heap.size, 0, none⟩ (.int .i64 mlo)).setCell ⟨u1.heap.size, 1, none⟩ (.int .i64 mhi)).cell? ⟨u1.heap.size, 0, none⟩ = some (.int .i64 mlo) := (set2 v0 v1).1
          have M1 : ((u7.setCell ⟨u1.heap.size, 0, none⟩ (.int .i64 mlo)).setCell ⟨u1.heap.size, 1, none⟩ (.int .i64 mhi)).cell? ⟨u1.heap.size, 1, none⟩ = some (.int .i64 mhi) := (set2 v0 v1).2
          generalize ((u7.setCell ⟨u1.heap.size, 0, none⟩ (.int .i64 mlo)).setCell ⟨u1.heap.size, 1, none⟩ (.int .i64 mhi)) = u8 at *
          clear own6 hb6 hb7 hy6 hy7 hx6 hx7 hk6
          obtain ⟨mb, hmbe⟩ : ∃ mb, mb = u1.heap.size := ⟨_, rfl⟩
          rw [← hmbe]
          rw [← hmbe] at M0 M1
          clear hmbe v0 v1 y0 y1
          have F := And.intro hbuW (And.intro M0 M1)
          clear hbuW M0 M1
          revert F
          revert mb
          revert u8
          revert c6
          revert A6
          exact key ()
      · intro A6 c6 u8 hS mb F
        clear hS
        obtain ⟨hbuW, M0, M1⟩ := F
        replace a0 := cell_below' hbuW a0
        replace a1 := cell_below' hbuW a1
        replace x0 := cell_below' hbuW x0
        replace V0 := cell_below' hbuW V0
        replace V1 := cell_below' hbuW V1
        have hAe := RowsAt.below hAu hbuW
        have hbwe : Below w.heap.size w u8 := (by repeat (first | assumption | exact Below.refl _ _ | refine Below.drew ?_ | (refine below_alloc _ ?_ ?_; focus (first | omega | (simp; done) | (simp; omega) | (simp at *; omega))) | (refine below_set _ ?_ ?_; focus (first | omega | (simp; done) | (simp; omega) | (simp at *; omega))) | refine below_drewN ?_ _ | (refine below_call (by assumption) ?_ ?_; focus (first | omega | (simp; done) | (simp; omega) | (simp at *; omega))) | (refine below_call' (by assumption) ?_ ?_; focus (first | omega | (simp; done) | (simp; omega) | (simp at *; omega)))))
        have ze0 : w.heap.size < u8.heap.size := World.block_lt_of_cell? _ _ a0
        have ze1 : w.heap.size + 1 < u8.heap.size := World.block_lt_of_cell? _ _ x0
        have ze2 : nb < u8.heap.size := World.block_lt_of_cell? _ _ V0
        have ze3 : mb < u8.heap.size := World.block_lt_of_cell? _ _ M0
        clear hbuW hAu hbwu x1 x2 x3 x4 m0 m1 hSm HCM HVM
        have d3 : decide (mlo < vlo) = false := by simp; omega
        have d4 : decide (mhi < vhi) = false := by simp; omega
        by_cases hf3 : f = 3000
        · have hf3' : (f == 3000) = true := by simpa using hf3
          go_wp2
          go_ret
          exact ⟨rfl, (by repeat (first | assumption | exact Below.refl _ _ | refine Below.drew ?_ | (refine below_alloc _ ?_ ?_; focus (first | omega | (simp; done) | (simp; omega) | (simp at *; omega))) | (refine below_set _ ?_ ?_; focus (first | omega | (simp; done) | (simp; omega) | (simp at *; omega))) | refine below_drewN ?_ _ | (refine below_call (by assumption) ?_ ?_; focus (first | omega | (simp; done) | (simp; omega) | (simp at *; omega))) | (refine below_call' (by assumption) ?_ ?_; focus (first | omega | (simp; done) | (simp; omega) | (simp at *; omega)))))⟩
        have hf3' : (f == 3000) = false := by simpa using hf3
        have hff3 : f < 3000 := by omega
        have hra := fun A c W hW => ReflectedAt_any base A l c (f + 1) W hl hW
        have HRA := Lib.hid hra
        have hwr : IntKind.i64.wrap (f + 1) = f + 1 := by simp [IntKind.wrap, IntKind.bits, IntKind.signed]; omega
        have HWR := Lib.hid hwr
        clear hwr
        clear hra
        go_wp2_with (fail)
        go_region_held3 (fun w' => w'.cell? ⟨w.heap.size, 0, none⟩ = some (.int .i64 base) ∧ w'.cell? ⟨w.heap.size, 1, none⟩ = some (.slice A l.length cap) ∧ w'.cell? ⟨w.heap.size + 1, 0, none⟩ = some (.int .i64 f))
          ((((try go_split_ands); (repeat' (apply And.intro)) <;> (repeat (first | (with_reducible assumption) | (with_reducible refine cell_drew ?_) | (with_reducible refine cell_alloc _ ?_) | (with_reducible refine cell_below' (by with_reducible assumption) ?_) | (with_reducible refine cell_far ?_ ?_; focus (first | omega | (simp; omega) | (simp; done))))))))
          (first
            | (go_at_call 17; (with_reducible refine (HC1.out _ ?_).mono ?_); (focus (exact RowsAt.below hAe (by repeat (first | assumption | exact Below.refl _ _ | refine Below.drew ?_ | (refine below_alloc _ ?_ ?_; focus (first | omega | (simp; done) | (simp; omega) | (simp at *; omega))) | (refine below_set _ ?_ ?_; focus (first | omega | (simp; done) | (simp; omega) | (simp at *; omega))) | refine below_drewN ?_ _ | (refine below_call (by assumption) ?_ ?_; focus (first | omega | (simp; done) | (simp; omega) | (simp at *; omega))) | (refine below_call' (by assumption) ?_ ?_; focus (first | omega | (simp; done) | (simp; omega) | (simp at *; omega))))))); rintro e y4 ⟨A4, c4, rfl, own4, hb4⟩)
            | (go_at_call 16; rw [HWR.out]; ((with_reducible refine (HRA.out A4 c4 _ ?_).mono ?_); (focus (exact rowsAt_of_own own4 rfl (by decide)))); rintro e y5 ⟨rfl, hb5⟩))
        have hend : Below w.heap.size w y5 := (by repeat (first | assumption | exact Below.refl _ _ | refine Below.drew ?_ | (refine below_alloc _ ?_ ?_; focus (first | omega | (simp; done) | (simp; omega) | (simp at *; omega))) | (refine below_set _ ?_ ?_; focus (first | omega | (simp; done) | (simp; omega) | (simp at *; omega))) | refine below_drewN ?_ _ | (refine below_call (by assumption) ?_ ?_; focus (first | omega | (simp; done) | (simp; omega) | (simp at *; omega))) | (refine below_call' (by assumption) ?_ ?_; focus (first | omega | (simp; done) | (simp; omega) | (simp at *; omega)))))
        rcases H3.out hff3 with hE | ⟨hE, hm⟩
        · rw [hE]
          generalize reflAt1 base l (f + 1) = m at *
          generalize reflAt2 base l (f + 1) = m2 at *
          go_wp2
          go_ret
          exact ⟨rfl, hend⟩
        · rw [hE]
          clear hE H3
          generalize reflAt1 base l (f + 1) = m at *
          generalize reflAt2 base l (f + 1) = m2 at *
          go_wp2
          go_ret
          exact ⟨rfl, hend⟩
end Go.Proofs.Ytoegpaolbkcleaa
