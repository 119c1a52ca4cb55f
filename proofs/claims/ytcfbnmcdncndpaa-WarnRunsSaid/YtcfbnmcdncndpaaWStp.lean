/-
  Chapter 8: a step of a state, StepOf, OpeningsBound.
-/
import Derived.Test.YtcfbnmcdncndpaaWRul
import Derived.IntWalk
import Derived.Laws.Shifts
namespace Go.Proofs.Ytcfbnmcdncndpaa
open Go.ChangeShapes Go.WideShapes Go.ChangeAt Go.RowKit
set_option linter.unusedVariables false
set_option linter.unusedSimpArgs false

structure Sta where
  l : Int
  b : Int
  v : Int
def stepS (u d : List Int) (hold : Int) (s : Sta) (x : Int) : Sta :=
  if s.l < reach u x then ⟨reach u x, 0, s.v + 1⟩
  else if s.l = 0 then ⟨s.l, 0, s.v⟩
  else if gt d (s.l - 1).toNat ≤ x then ⟨s.l, 0, s.v⟩
  else if s.b + 1 = hold then ⟨reach (d.take (s.l - 1).toNat) x, 0, s.v + 1⟩
  else ⟨s.l, s.b + 1, s.v⟩
theorem reach_bd (l : List Int) (v : Int) : 0 ≤ reach l v ∧ reach l v ≤ l.length := by
  unfold reach
  rcases upIdx_bd v l 0 (by omega) with h | h
  · rw [h]; simp
  · rw [if_neg (by omega)]; omega
theorem cell_next {w : World} {b i j : Nat} {u v : Value} (hne : i ≠ j) (h : w.cell? ⟨b, j, none⟩ = some v) : (w.setCell ⟨b, i, none⟩ u).cell? ⟨b, j, none⟩ = some v :=
  (World.cell?_setCell_other w ⟨b, i, none⟩ ⟨b, j, none⟩ u (fun e => hne (by injection e))).trans h
theorem set3 {w : World} {b : Nat} {a0 a1 a2 v0 v1 v2 : Value} (h0 : w.cell? ⟨b, 0, none⟩ = some a0) (h1 : w.cell? ⟨b, 1, none⟩ = some a1) (h2 : w.cell? ⟨b, 2, none⟩ = some a2) :
    (((w.setCell ⟨b, 0, none⟩ v0).setCell ⟨b, 1, none⟩ v1).setCell ⟨b, 2, none⟩ v2).cell? ⟨b, 0, none⟩ = some v0 ∧ (((w.setCell ⟨b, 0, none⟩ v0).setCell ⟨b, 1, none⟩ v1).setCell ⟨b, 2, none⟩ v2).cell? ⟨b, 1, none⟩ = some v1 ∧ (((w.setCell ⟨b, 0, none⟩ v0).setCell ⟨b, 1, none⟩ v1).setCell ⟨b, 2, none⟩ v2).cell? ⟨b, 2, none⟩ = some v2 :=
  ⟨cell_next (by decide) (cell_next (by decide) (cell_same h0)), cell_next (by decide) (cell_same (cell_next (by decide) h1)), cell_same (cell_next (by decide) (cell_next (by decide) h2))⟩
theorem far3 {w : World} {b c : Nat} {j : Nat} {v v0 v1 v2 : Value} (hne : b ≠ c) (h : w.cell? ⟨c, j, none⟩ = some v) : (((w.setCell ⟨b, 0, none⟩ v0).setCell ⟨b, 1, none⟩ v1).setCell ⟨b, 2, none⟩ v2).cell? ⟨c, j, none⟩ = some v :=
  cell_far hne (cell_far hne (cell_far hne h))
/-- a state that may occur -/
structure OkS (n : Nat) (s : Sta) : Prop where
  l0 : 0 ≤ s.l
  l1 : s.l ≤ n
  b0 : 0 ≤ s.b
  b1 : s.b ≤ 1000
  v0 : 0 ≤ s.v
  v1 : s.v ≤ 2000000
set_option maxRecDepth 100000 in
set_option maxHeartbeats 4000000 in
theorem step_any (nm : ByteArray) (A : Option Addr) (u : List Int) (ca : Nat) (B : Option Addr) (d : List Int) (cb : Nat) (hold l b v x : Int) (w : World) (hu : u.length ≤ 100) (hd : d.length = u.length) (hcb : d.length ≤ cb) (hok : OkS u.length ⟨l, b, v⟩) (hA : IntsAt w A u) (hB : IntsAt w B d) :
    Calls Try.prog 101 #[.agg #[.string nm, .slice A u.length ca, .slice B d.length cb, .int .i64 hold], .agg #[.int .i64 l, .int .i64 b, .int .i64 v], .int .i64 x] w fun e w' => e = .returned (.agg #[.int .i64 (stepS u d hold ⟨l, b, v⟩ x).l, .int .i64 (stepS u d hold ⟨l, b, v⟩ x).b, .int .i64 (stepS u d hold ⟨l, b, v⟩ x).v]) ∧ Below w.heap.size w w' := by
  obtain ⟨l0, l1, b0, b1, v0, v1⟩ := hok
  simp only at l0 l1 b0 b1 v0 v1
  have hq : stepS u d hold ⟨l, b, v⟩ x = if l < reach u x then ⟨reach u x, 0, v + 1⟩ else if l = 0 then ⟨l, 0, v⟩ else if gt d (l - 1).toNat ≤ x then ⟨l, 0, v⟩ else if b + 1 = hold then ⟨reach (d.take (l - 1).toNat) x, 0, v + 1⟩ else ⟨l, b + 1, v⟩ := rfl
  have HQ := Lib.hid hq
  have hub := reach_bd u x
  have HD := Lib.hid hd
  clear hq hd
  go_enter Try.func101, Try.ntmps101
  go_wp2_with (fail)
  have hbv : Below w.heap.size w (((w.alloc (.cells #[.string nm, .slice A u.length ca, .slice B d.length cb, .int .i64 hold] 143)).alloc (.cells #[.int .i64 l, .int .i64 b, .int .i64 v] 61)).alloc (.cells #[.int .i64 0, .int .i64 0, .int .i64 0] 61)) := (by repeat (first | assumption | exact Below.refl _ _ | refine Below.drew ?_ | (refine below_alloc _ ?_ ?_; focus (first | omega | (simp; done) | (simp; omega) | (simp at *; omega))) | (refine below_set _ ?_ ?_; focus (first | omega | (simp; done) | (simp; omega) | (simp at *; omega))) | refine below_drewN ?_ _ | (refine below_call (by assumption) ?_ ?_; focus (first | omega | (simp; done) | (simp; omega) | (simp at *; omega))) | (refine below_call' (by assumption) ?_ ?_; focus (first | omega | (simp; done) | (simp; omega) | (simp at *; omega)))))
  refine (reached_any A u ca x _ hu (RowsAt.below hA hbv)).mono ?_
  rintro e w1 ⟨rfl, hb1⟩
  have x2 : w1.cell? ⟨w.heap.size, 2, none⟩ = some (.slice B d.length cb) := cell_below' hb1 (by repeat (first | assumption | (refine cell_new ?_ rfl; focus (simp; done)) | refine cell_drew ?_ | refine cell_alloc _ ?_ | refine cell_drewN _ ?_ | (refine cell_far ?_ ?_; focus (first | omega | (simp; omega) | (simp; done))) | refine cell_below' (by assumption) ?_))
  have x3 : w1.cell? ⟨w.heap.size, 3, none⟩ = some (.int .i64 hold) := cell_below' hb1 (by repeat (first | assumption | (refine cell_new ?_ rfl; focus (simp; done)) | refine cell_drew ?_ | refine cell_alloc _ ?_ | refine cell_drewN _ ?_ | (refine cell_far ?_ ?_; focus (first | omega | (simp; omega) | (simp; done))) | refine cell_below' (by assumption) ?_))
  have y0 : w1.cell? ⟨w.heap.size + 1, 0, none⟩ = some (.int .i64 l) := cell_below' hb1 (cell_alloc _ (cell_new (by simp) rfl))
  have y1 : w1.cell? ⟨w.heap.size + 1, 1, none⟩ = some (.int .i64 b) := cell_below' hb1 (cell_alloc _ (cell_new (by simp) rfl))
  have y2 : w1.cell? ⟨w.heap.size + 1, 2, none⟩ = some (.int .i64 v) := cell_below' hb1 (cell_alloc _ (cell_new (by simp) rfl))
  have z0 : w1.cell? ⟨w.heap.size + 1 + 1, 0, none⟩ = some (.int .i64 0) := cell_below' hb1 (cell_new (by simp) rfl)
  have z1 : w1.cell? ⟨w.heap.size + 1 + 1, 1, none⟩ = some (.int .i64 0) := cell_below' hb1 (cell_new (by simp) rfl)
  have z2 : w1.cell? ⟨w.heap.size + 1 + 1, 2, none⟩ = some (.int .i64 0) := cell_below' hb1 (cell_new (by simp) rfl)
  have f0 : w1.frozen? ⟨w.heap.size + 1, 0, none⟩ = false := frozen_below hb1 (by simp) (frozen_alloc _ (by simp) (frozen_new (by simp)))
  have f1 : w1.frozen? ⟨w.heap.size + 1, 1, none⟩ = false := frozen_below hb1 (by simp) (frozen_alloc _ (by simp) (frozen_new (by simp)))
  have f2 : w1.frozen? ⟨w.heap.size + 1, 2, none⟩ = false := frozen_below hb1 (by simp) (frozen_alloc _ (by simp) (frozen_new (by simp)))
  have g0 : w1.frozen? ⟨w.heap.size + 1 + 1, 0, none⟩ = false := frozen_below hb1 (by simp) (frozen_new (by simp))
  have g1 : w1.frozen? ⟨w.heap.size + 1 + 1, 1, none⟩ = false := frozen_below hb1 (by simp) (frozen_new (by simp))
  have g2 : w1.frozen? ⟨w.heap.size + 1 + 1, 2, none⟩ = false := frozen_below hb1 (by simp) (frozen_new (by simp))
  have hz := hb1.size
  simp at hz
  have zw : w.heap.size + 2 < w1.heap.size := by omega
  have zw1 : w.heap.size + 1 < w1.heap.size := by omega
  have zw0 : w.heap.size < w1.heap.size := by omega
  have hbw1 : Below w.heap.size w w1 := hbv.trans (hb1.mono (by simp; omega))
  have HB1 := Lib.hid (RowsAt.below hB hbw1)
  have hl100 : (u.length : Int) ≤ 100 := by omega
  have hle2 : w.heap.size ≤ w.heap.size + 1 + 1 := by omega
  have hle1 : w.heap.size ≤ w.heap.size + 1 := by omega
  have hn12 : w.heap.size + 1 ≠ w.heap.size + 1 + 1 := by omega
  have hn02 : w.heap.size + 1 + 1 ≠ w.heap.size := by omega
  have hn01 : w.heap.size + 1 ≠ w.heap.size := by omega
  clear hb1 hz hbv hA
  replace zw : w.heap.size + 1 + 1 < w1.heap.size := zw
  generalize w.heap.size + 1 + 1 = n2 at *
  generalize w.heap.size + 1 = n1 at *
  by_cases h1 : l < reach u x
  · have h2 := HQ.out.trans (if_pos h1)
    have HQ2 := Lib.hid h2
    have hne : (reach u x == l) = false := by simp; omega
    have hne2 : (reach u x != l) = true := by rw [bne, hne]; rfl
    clear HQ h2
    generalize reach u x = r at *
    go_upto_region 12 with (fail)
    obtain ⟨r0, r1, r2⟩ := set3 (v0 := .int .i64 r) (v1 := .int .i64 0) (v2 := .int .i64 (v + 1)) y0 y1 y2
    replace z0 := far3 (v0 := .int .i64 r) (v1 := .int .i64 0) (v2 := .int .i64 (v + 1)) hn12 z0
    replace z1 := far3 (v0 := .int .i64 r) (v1 := .int .i64 0) (v2 := .int .i64 (v + 1)) hn12 z1
    replace z2 := far3 (v0 := .int .i64 r) (v1 := .int .i64 0) (v2 := .int .i64 (v + 1)) hn12 z2
    replace g0 : (((w1.setCell ⟨n1, 0, none⟩ (.int .i64 r)).setCell ⟨n1, 1, none⟩ (.int .i64 0)).setCell ⟨n1, 2, none⟩ (.int .i64 (v + 1))).frozen? ⟨n2, 0, none⟩ = false := frozen_set _ _ (frozen_set _ _ (frozen_set _ _ g0))
    replace g1 : (((w1.setCell ⟨n1, 0, none⟩ (.int .i64 r)).setCell ⟨n1, 1, none⟩ (.int .i64 0)).setCell ⟨n1, 2, none⟩ (.int .i64 (v + 1))).frozen? ⟨n2, 1, none⟩ = false := frozen_set _ _ (frozen_set _ _ (frozen_set _ _ g1))
    replace g2 : (((w1.setCell ⟨n1, 0, none⟩ (.int .i64 r)).setCell ⟨n1, 1, none⟩ (.int .i64 0)).setCell ⟨n1, 2, none⟩ (.int .i64 (v + 1))).frozen? ⟨n2, 2, none⟩ = false := frozen_set _ _ (frozen_set _ _ (frozen_set _ _ g2))
    have hbW : Below w.heap.size w (((w1.setCell ⟨n1, 0, none⟩ (.int .i64 r)).setCell ⟨n1, 1, none⟩ (.int .i64 0)).setCell ⟨n1, 2, none⟩ (.int .i64 (v + 1))) := below_set _ (by simp; omega) (below_set _ (by simp; omega) (below_set _ (by simp; omega) hbw1))
    clear y0 y1 y2 f0 f1 f2
    generalize (((w1.setCell ⟨n1, 0, none⟩ (.int .i64 r)).setCell ⟨n1, 1, none⟩ (.int .i64 0)).setCell ⟨n1, 2, none⟩ (.int .i64 (v + 1))) = W at *
    go_wp2_with (fail)
    obtain ⟨s0, s1, s2⟩ := set3 (v0 := .int .i64 r) (v1 := .int .i64 0) (v2 := .int .i64 (v + 1)) z0 z1 z2
    have hbf : Below w.heap.size w (((W.setCell ⟨n2, 0, none⟩ (.int .i64 r)).setCell ⟨n2, 1, none⟩ (.int .i64 0)).setCell ⟨n2, 2, none⟩ (.int .i64 (v + 1))) := below_set _ (by simp; omega) (below_set _ (by simp; omega) (below_set _ (by simp; omega) hbW))
    generalize (((W.setCell ⟨n2, 0, none⟩ (.int .i64 r)).setCell ⟨n2, 1, none⟩ (.int .i64 0)).setCell ⟨n2, 2, none⟩ (.int .i64 (v + 1))) = W9 at *
    refine bodyPost_ret (v := .agg #[.int .i64 r, .int .i64 0, .int .i64 (v + 1)]) (by simp [results, Try.results101, go_sem, s0, s1, s2]) rfl ?_
    rw [HQ2.out]
    exact ⟨rfl, hbf⟩
  have hq := HQ.out.trans (if_neg h1)
  have h1d : decide (l < reach u x) = false := by simpa using h1
  clear HQ h1
  by_cases h2 : l = 0
  · subst h2
    have HQ2 := Lib.hid (hq.trans (if_pos rfl))
    clear hq
    generalize reach u x = r at *
    go_upto_region 12 with (fail)
    have r1 : World.cell? (w1.setCell ⟨n1, 1, none⟩ (.int .i64 0)) ⟨n1, 1, none⟩ = some (.int .i64 0) := cell_same y1
    have r0 : World.cell? (w1.setCell ⟨n1, 1, none⟩ (.int .i64 0)) ⟨n1, 0, none⟩ = some (.int .i64 0) := cell_next (by decide) y0
    have r2 : World.cell? (w1.setCell ⟨n1, 1, none⟩ (.int .i64 0)) ⟨n1, 2, none⟩ = some (.int .i64 v) := cell_next (by decide) y2
    replace z0 : World.cell? (w1.setCell ⟨n1, 1, none⟩ (.int .i64 0)) ⟨n2, 0, none⟩ = some (.int .i64 0) := cell_far hn12 z0
    replace z1 : World.cell? (w1.setCell ⟨n1, 1, none⟩ (.int .i64 0)) ⟨n2, 1, none⟩ = some (.int .i64 0) := cell_far hn12 z1
    replace z2 : World.cell? (w1.setCell ⟨n1, 1, none⟩ (.int .i64 0)) ⟨n2, 2, none⟩ = some (.int .i64 0) := cell_far hn12 z2
    replace g0 : World.frozen? (w1.setCell ⟨n1, 1, none⟩ (.int .i64 0)) ⟨n2, 0, none⟩ = false := frozen_set _ _ g0
    replace g1 : World.frozen? (w1.setCell ⟨n1, 1, none⟩ (.int .i64 0)) ⟨n2, 1, none⟩ = false := frozen_set _ _ g1
    replace g2 : World.frozen? (w1.setCell ⟨n1, 1, none⟩ (.int .i64 0)) ⟨n2, 2, none⟩ = false := frozen_set _ _ g2
    have hbW : Below w.heap.size w (w1.setCell ⟨n1, 1, none⟩ (.int .i64 0)) := below_set _ (by simp; omega) hbw1
    clear y0 y1 y2 f0 f1 f2
    generalize (w1.setCell ⟨n1, 1, none⟩ (.int .i64 0)) = W at *
    go_wp2_with (fail)
    obtain ⟨s0, s1, s2⟩ := set3 (v0 := .int .i64 0) (v1 := .int .i64 0) (v2 := .int .i64 v) z0 z1 z2
    have hbf : Below w.heap.size w (((W.setCell ⟨n2, 0, none⟩ (.int .i64 0)).setCell ⟨n2, 1, none⟩ (.int .i64 0)).setCell ⟨n2, 2, none⟩ (.int .i64 v)) := below_set _ (by simp; omega) (below_set _ (by simp; omega) (below_set _ (by simp; omega) hbW))
    generalize (((W.setCell ⟨n2, 0, none⟩ (.int .i64 0)).setCell ⟨n2, 1, none⟩ (.int .i64 0)).setCell ⟨n2, 2, none⟩ (.int .i64 v)) = W9 at *
    refine bodyPost_ret (v := .agg #[.int .i64 0, .int .i64 0, .int .i64 v]) (by simp [results, Try.results101, go_sem, s0, s1, s2]) rfl ?_
    rw [HQ2.out]
    exact ⟨rfl, hbf⟩
  replace hq := hq.trans (if_neg h2)
  obtain ⟨j, rfl⟩ : ∃ j : Nat, l = (j : Int) + 1 := ⟨(l - 1).toNat, by omega⟩
  have hj : j < d.length := by have := HD.out; omega
  rw [show ((j : Int) + 1 - 1).toNat = j by omega] at hq
  obtain ⟨bb, off, rfl, hbb, hcell⟩ := IntsAt.at_ HB1.out hj
  rw [← gt_eq hj] at hcell
  have hj1 : (j : Int) < (d.length : Int) := by omega
  have hj0 : (0 : Int) ≤ (j : Int) := by omega
  have hjc : (j : Int) ≤ (cb : Int) := by omega
  have hj100 : (j : Int) < 100 := by have := HD.out; omega
  have hl0 : ((j : Int) + 1 == 0) = false := by simp; omega
  by_cases h3 : gt d j ≤ x
  · have HQ2 := Lib.hid (hq.trans (if_pos h3))
    clear hq h2
    generalize gt d j = t at *
    generalize reach u x = r at *
    go_upto_region 12 with (fail)
    have r1 : World.cell? (w1.setCell ⟨n1, 1, none⟩ (.int .i64 0)) ⟨n1, 1, none⟩ = some (.int .i64 0) := cell_same y1
    have r0 : World.cell? (w1.setCell ⟨n1, 1, none⟩ (.int .i64 0)) ⟨n1, 0, none⟩ = some (.int .i64 ((j : Int) + 1)) := cell_next (by decide) y0
    have r2 : World.cell? (w1.setCell ⟨n1, 1, none⟩ (.int .i64 0)) ⟨n1, 2, none⟩ = some (.int .i64 v) := cell_next (by decide) y2
    replace z0 : World.cell? (w1.setCell ⟨n1, 1, none⟩ (.int .i64 0)) ⟨n2, 0, none⟩ = some (.int .i64 0) := cell_far hn12 z0
    replace z1 : World.cell? (w1.setCell ⟨n1, 1, none⟩ (.int .i64 0)) ⟨n2, 1, none⟩ = some (.int .i64 0) := cell_far hn12 z1
    replace z2 : World.cell? (w1.setCell ⟨n1, 1, none⟩ (.int .i64 0)) ⟨n2, 2, none⟩ = some (.int .i64 0) := cell_far hn12 z2
    replace g0 : World.frozen? (w1.setCell ⟨n1, 1, none⟩ (.int .i64 0)) ⟨n2, 0, none⟩ = false := frozen_set _ _ g0
    replace g1 : World.frozen? (w1.setCell ⟨n1, 1, none⟩ (.int .i64 0)) ⟨n2, 1, none⟩ = false := frozen_set _ _ g1
    replace g2 : World.frozen? (w1.setCell ⟨n1, 1, none⟩ (.int .i64 0)) ⟨n2, 2, none⟩ = false := frozen_set _ _ g2
    have hbW : Below w.heap.size w (w1.setCell ⟨n1, 1, none⟩ (.int .i64 0)) := below_set _ (by simp; omega) hbw1
    clear y0 y1 y2 f0 f1 f2
    generalize (w1.setCell ⟨n1, 1, none⟩ (.int .i64 0)) = W at *
    go_wp2_with (fail)
    obtain ⟨s0, s1, s2⟩ := set3 (v0 := .int .i64 ((j : Int) + 1)) (v1 := .int .i64 0) (v2 := .int .i64 v) z0 z1 z2
    have hbf : Below w.heap.size w (((W.setCell ⟨n2, 0, none⟩ (.int .i64 ((j : Int) + 1))).setCell ⟨n2, 1, none⟩ (.int .i64 0)).setCell ⟨n2, 2, none⟩ (.int .i64 v)) := below_set _ (by simp; omega) (below_set _ (by simp; omega) (below_set _ (by simp; omega) hbW))
    generalize (((W.setCell ⟨n2, 0, none⟩ (.int .i64 ((j : Int) + 1))).setCell ⟨n2, 1, none⟩ (.int .i64 0)).setCell ⟨n2, 2, none⟩ (.int .i64 v)) = W9 at *
    refine bodyPost_ret (v := .agg #[.int .i64 ((j : Int) + 1), .int .i64 0, .int .i64 v]) (by simp [results, Try.results101, go_sem, s0, s1, s2]) rfl ?_
    rw [HQ2.out]
    exact ⟨rfl, hbf⟩
  replace hq := hq.trans (if_neg h3)
  have h3d : decide (gt d j ≤ x) = false := by simpa using h3
  clear h2 h3
  by_cases h4 : b + 1 = hold
  rotate_left 1
  · have HQ2 := Lib.hid (hq.trans (if_neg h4))
    have h4e : (b + 1 == hold) = false := by simpa using h4
    clear hq h4
    generalize gt d j = t at *
    generalize reach u x = r at *
    go_upto_region 12 with (fail)
    have r1 : World.cell? (w1.setCell ⟨n1, 1, none⟩ (.int .i64 (b + 1))) ⟨n1, 1, none⟩ = some (.int .i64 (b + 1)) := cell_same y1
    have r0 : World.cell? (w1.setCell ⟨n1, 1, none⟩ (.int .i64 (b + 1))) ⟨n1, 0, none⟩ = some (.int .i64 ((j : Int) + 1)) := cell_next (by decide) y0
    have r2 : World.cell? (w1.setCell ⟨n1, 1, none⟩ (.int .i64 (b + 1))) ⟨n1, 2, none⟩ = some (.int .i64 v) := cell_next (by decide) y2
    replace z0 : World.cell? (w1.setCell ⟨n1, 1, none⟩ (.int .i64 (b + 1))) ⟨n2, 0, none⟩ = some (.int .i64 0) := cell_far hn12 z0
    replace z1 : World.cell? (w1.setCell ⟨n1, 1, none⟩ (.int .i64 (b + 1))) ⟨n2, 1, none⟩ = some (.int .i64 0) := cell_far hn12 z1
    replace z2 : World.cell? (w1.setCell ⟨n1, 1, none⟩ (.int .i64 (b + 1))) ⟨n2, 2, none⟩ = some (.int .i64 0) := cell_far hn12 z2
    replace g0 : World.frozen? (w1.setCell ⟨n1, 1, none⟩ (.int .i64 (b + 1))) ⟨n2, 0, none⟩ = false := frozen_set _ _ g0
    replace g1 : World.frozen? (w1.setCell ⟨n1, 1, none⟩ (.int .i64 (b + 1))) ⟨n2, 1, none⟩ = false := frozen_set _ _ g1
    replace g2 : World.frozen? (w1.setCell ⟨n1, 1, none⟩ (.int .i64 (b + 1))) ⟨n2, 2, none⟩ = false := frozen_set _ _ g2
    have hbW : Below w.heap.size w (w1.setCell ⟨n1, 1, none⟩ (.int .i64 (b + 1))) := below_set _ (by simp; omega) hbw1
    clear y0 y1 y2 f0 f1 f2
    generalize (w1.setCell ⟨n1, 1, none⟩ (.int .i64 (b + 1))) = W at *
    go_wp2_with (fail)
    obtain ⟨s0, s1, s2⟩ := set3 (v0 := .int .i64 ((j : Int) + 1)) (v1 := .int .i64 (b + 1)) (v2 := .int .i64 v) z0 z1 z2
    have hbf : Below w.heap.size w (((W.setCell ⟨n2, 0, none⟩ (.int .i64 ((j : Int) + 1))).setCell ⟨n2, 1, none⟩ (.int .i64 (b + 1))).setCell ⟨n2, 2, none⟩ (.int .i64 v)) := below_set _ (by simp; omega) (below_set _ (by simp; omega) (below_set _ (by simp; omega) hbW))
    generalize (((W.setCell ⟨n2, 0, none⟩ (.int .i64 ((j : Int) + 1))).setCell ⟨n2, 1, none⟩ (.int .i64 (b + 1))).setCell ⟨n2, 2, none⟩ (.int .i64 v)) = W9 at *
    refine bodyPost_ret (v := .agg #[.int .i64 ((j : Int) + 1), .int .i64 (b + 1), .int .i64 v]) (by simp [results, Try.results101, go_sem, s0, s1, s2]) rfl ?_
    rw [HQ2.out]
    exact ⟨rfl, hbf⟩
  have HQ2 := Lib.hid (hq.trans (if_pos h4))
  subst h4
  have HT := Lib.hid (fun W => fun hW : IntsAt W (some ⟨bb, off, none⟩) (d.take j) => reached_any (some ⟨bb, off, none⟩) (d.take j) cb x W (by rw [List.length_take]; omega) hW)
  have hlt : (d.take j).length = j := by rw [List.length_take]; omega
  rw [hlt] at HT
  have hrb := reach_bd (d.take j) x
  rw [hlt] at hrb
  have HBT := Lib.hid (RowsAt.take HB1.out j)
  clear hq hlt
  generalize gt d j = t at *
  generalize reach u x = r at *
  go_wp2_with (fail)
  have hbS : Below w.heap.size w (w1.setCell ⟨n1, 1, none⟩ (.int .i64 (b + 1))) := below_set _ (by simp; omega) hbw1
  refine (HT.out _ (RowsAt.below (RowsAt.take hB j) hbS)).mono ?_
  rintro e w3 ⟨rfl, hb3⟩
  have hz3 := hb3.size
  simp at hz3
  have zw3 : n2 < w3.heap.size := by omega
  have zw31 : n1 < w3.heap.size := by omega
  have zw30 : w.heap.size < w3.heap.size := by omega
  replace y0 := cell_below' hb3 (cell_next (by decide) y0)
  replace y1 := cell_below' hb3 (cell_same y1)
  replace y2 := cell_below' hb3 (cell_next (by decide) y2)
  replace z0 := cell_below' hb3 (cell_far hn12 z0)
  replace z1 := cell_below' hb3 (cell_far hn12 z1)
  replace z2 := cell_below' hb3 (cell_far hn12 z2)
  replace f0 := frozen_below hb3 (by simp; omega) (frozen_set ⟨n1, 1, none⟩ (.int .i64 (b + 1)) f0)
  replace f1 := frozen_below hb3 (by simp; omega) (frozen_set ⟨n1, 1, none⟩ (.int .i64 (b + 1)) f1)
  replace f2 := frozen_below hb3 (by simp; omega) (frozen_set ⟨n1, 1, none⟩ (.int .i64 (b + 1)) f2)
  replace g0 := frozen_below hb3 (by simp; omega) (frozen_set ⟨n1, 1, none⟩ (.int .i64 (b + 1)) g0)
  replace g1 := frozen_below hb3 (by simp; omega) (frozen_set ⟨n1, 1, none⟩ (.int .i64 (b + 1)) g1)
  replace g2 := frozen_below hb3 (by simp; omega) (frozen_set ⟨n1, 1, none⟩ (.int .i64 (b + 1)) g2)
  have hbw3 : Below w.heap.size w w3 := hbS.trans (hb3.mono (by simp; omega))
  clear hb3 hbS hz3 HT HBT hcell x2 x3 hbb HB1 hB zw zw1 zw0
  generalize reach (d.take j) x = q at *
  have hne : (q == (j : Int) + 1) = false := by simp; omega
  have hne2 : (q != (j : Int) + 1) = true := by rw [bne, hne]; rfl
  go_upto_region 12 with (fail)
  obtain ⟨r0, r1, r2⟩ := set3 (v0 := .int .i64 q) (v1 := .int .i64 0) (v2 := .int .i64 (v + 1)) y0 y1 y2
  replace z0 := far3 (v0 := .int .i64 q) (v1 := .int .i64 0) (v2 := .int .i64 (v + 1)) hn12 z0
  replace z1 := far3 (v0 := .int .i64 q) (v1 := .int .i64 0) (v2 := .int .i64 (v + 1)) hn12 z1
  replace z2 := far3 (v0 := .int .i64 q) (v1 := .int .i64 0) (v2 := .int .i64 (v + 1)) hn12 z2
  replace g0 : (((w3.setCell ⟨n1, 0, none⟩ (.int .i64 q)).setCell ⟨n1, 1, none⟩ (.int .i64 0)).setCell ⟨n1, 2, none⟩ (.int .i64 (v + 1))).frozen? ⟨n2, 0, none⟩ = false := frozen_set _ _ (frozen_set _ _ (frozen_set _ _ g0))
  replace g1 : (((w3.setCell ⟨n1, 0, none⟩ (.int .i64 q)).setCell ⟨n1, 1, none⟩ (.int .i64 0)).setCell ⟨n1, 2, none⟩ (.int .i64 (v + 1))).frozen? ⟨n2, 1, none⟩ = false := frozen_set _ _ (frozen_set _ _ (frozen_set _ _ g1))
  replace g2 : (((w3.setCell ⟨n1, 0, none⟩ (.int .i64 q)).setCell ⟨n1, 1, none⟩ (.int .i64 0)).setCell ⟨n1, 2, none⟩ (.int .i64 (v + 1))).frozen? ⟨n2, 2, none⟩ = false := frozen_set _ _ (frozen_set _ _ (frozen_set _ _ g2))
  have hbW : Below w.heap.size w (((w3.setCell ⟨n1, 0, none⟩ (.int .i64 q)).setCell ⟨n1, 1, none⟩ (.int .i64 0)).setCell ⟨n1, 2, none⟩ (.int .i64 (v + 1))) := below_set _ (by simp; omega) (below_set _ (by simp; omega) (below_set _ (by simp; omega) hbw3))
  clear y0 y1 y2 f0 f1 f2
  generalize (((w3.setCell ⟨n1, 0, none⟩ (.int .i64 q)).setCell ⟨n1, 1, none⟩ (.int .i64 0)).setCell ⟨n1, 2, none⟩ (.int .i64 (v + 1))) = W at *
  go_wp2_with (fail)
  obtain ⟨s0, s1, s2⟩ := set3 (v0 := .int .i64 q) (v1 := .int .i64 0) (v2 := .int .i64 (v + 1)) z0 z1 z2
  have hbf : Below w.heap.size w (((W.setCell ⟨n2, 0, none⟩ (.int .i64 q)).setCell ⟨n2, 1, none⟩ (.int .i64 0)).setCell ⟨n2, 2, none⟩ (.int .i64 (v + 1))) := below_set _ (by simp; omega) (below_set _ (by simp; omega) (below_set _ (by simp; omega) hbW))
  generalize (((W.setCell ⟨n2, 0, none⟩ (.int .i64 q)).setCell ⟨n2, 1, none⟩ (.int .i64 0)).setCell ⟨n2, 2, none⟩ (.int .i64 (v + 1))) = W9 at *
  refine bodyPost_ret (v := .agg #[.int .i64 q, .int .i64 0, .int .i64 (v + 1)]) (by simp [results, Try.results101, go_sem, s0, s1, s2]) rfl ?_
  rw [HQ2.out]
  exact ⟨rfl, hbf⟩
end Go.Proofs.Ytcfbnmcdncndpaa
