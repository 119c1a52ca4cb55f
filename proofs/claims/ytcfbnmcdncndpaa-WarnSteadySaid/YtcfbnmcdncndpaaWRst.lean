/-
  Chapter 8: the reference's Step; StepOf.
-/
import Derived.Test.YtcfbnmcdncndpaaWSto
import Derived.Test.YtcfbnmcdncndpaaSPl
namespace Go.Proofs.Ytcfbnmcdncndpaa
open Go.ChangeShapes Go.WideShapes Go.ChangeAt Go.RowKit
set_option linter.unusedVariables false
set_option linter.unusedSimpArgs false

set_option maxRecDepth 100000 in
set_option maxHeartbeats 4000000 in
theorem RStep_any (nm : ByteArray) (A : Option Addr) (u : List Int) (ca : Nat) (B : Option Addr) (d : List Int) (cb : Nat) (hold l b v x : Int) (w : World) (ho : OkR nm u d hold) (hok : OkS u.length ⟨l, b, v⟩) (hbh : b < hold) (hA : IntsAt w A u) (hB : IntsAt w B d) :
    Calls Try.prog 45 #[.agg #[.string nm, .slice A u.length ca, .slice B d.length cb, .int .i64 hold], .agg #[.int .i64 l, .int .i64 b, .int .i64 v], .int .i64 x] w fun e w' => e = .returned (.agg #[.int .i64 (stepS u d hold ⟨l, b, v⟩ x).l, .int .i64 (stepS u d hold ⟨l, b, v⟩ x).b, .int .i64 (stepS u d hold ⟨l, b, v⟩ x).v]) ∧ Below w.heap.size w w' := by
  obtain ⟨l0, l1, b0, b1, v0, v1⟩ := hok
  simp only at l0 l1 b0 b1 v0 v1
  have hq : stepS u d hold ⟨l, b, v⟩ x = if l < reach u x then ⟨reach u x, 0, v + 1⟩ else if l = 0 then ⟨l, 0, v⟩ else if gt d (l - 1).toNat ≤ x then ⟨l, 0, v⟩ else if b + 1 = hold then ⟨reach (d.take (l - 1).toNat) x, 0, v + 1⟩ else ⟨l, b + 1, v⟩ := rfl
  have HQ := Lib.hid hq
  have hub := reach_bd u x
  have hrl := RLev_reach ho.inc x
  have HRL := Lib.hid hrl
  have HO := Lib.hid ho
  have hn4 := ho.n4
  have hh1 := ho.h1
  have HD := Lib.hid ho.dl
  clear hq hrl ho
  go_enter Try.func45, Try.ntmps45
  go_wp2_with (fail)
  have hb0 : Below w.heap.size w (((w.alloc (.cells #[.string nm, .slice A u.length ca, .slice B d.length cb, .int .i64 hold] 24)).alloc (.cells #[.int .i64 l, .int .i64 b, .int .i64 v] 61)).alloc (.cells #[.int .i64 0, .int .i64 0, .int .i64 0] 61)) := below_alloc _ (Nat.le_refl _) (below_alloc _ (Nat.le_refl _) (below_alloc _ (Nat.le_refl _) (Below.refl _ _)))
  have x0 : (((w.alloc (.cells #[.string nm, .slice A u.length ca, .slice B d.length cb, .int .i64 hold] 24)).alloc (.cells #[.int .i64 l, .int .i64 b, .int .i64 v] 61)).alloc (.cells #[.int .i64 0, .int .i64 0, .int .i64 0] 61)).cell? ⟨w.heap.size, 0, none⟩ = some (.string nm) := cell_alloc _ (cell_alloc _ (cell_new (by simp) rfl))
  have x1 : (((w.alloc (.cells #[.string nm, .slice A u.length ca, .slice B d.length cb, .int .i64 hold] 24)).alloc (.cells #[.int .i64 l, .int .i64 b, .int .i64 v] 61)).alloc (.cells #[.int .i64 0, .int .i64 0, .int .i64 0] 61)).cell? ⟨w.heap.size, 1, none⟩ = some (.slice A u.length ca) := cell_alloc _ (cell_alloc _ (cell_new (by simp) rfl))
  have x2 : (((w.alloc (.cells #[.string nm, .slice A u.length ca, .slice B d.length cb, .int .i64 hold] 24)).alloc (.cells #[.int .i64 l, .int .i64 b, .int .i64 v] 61)).alloc (.cells #[.int .i64 0, .int .i64 0, .int .i64 0] 61)).cell? ⟨w.heap.size, 2, none⟩ = some (.slice B d.length cb) := cell_alloc _ (cell_alloc _ (cell_new (by simp) rfl))
  have x3 : (((w.alloc (.cells #[.string nm, .slice A u.length ca, .slice B d.length cb, .int .i64 hold] 24)).alloc (.cells #[.int .i64 l, .int .i64 b, .int .i64 v] 61)).alloc (.cells #[.int .i64 0, .int .i64 0, .int .i64 0] 61)).cell? ⟨w.heap.size, 3, none⟩ = some (.int .i64 hold) := cell_alloc _ (cell_alloc _ (cell_new (by simp) rfl))
  have zx : w.heap.size < (((w.alloc (.cells #[.string nm, .slice A u.length ca, .slice B d.length cb, .int .i64 hold] 24)).alloc (.cells #[.int .i64 l, .int .i64 b, .int .i64 v] 61)).alloc (.cells #[.int .i64 0, .int .i64 0, .int .i64 0] 61)).heap.size := World.block_lt_of_cell? _ _ x0
  have y0 : (((w.alloc (.cells #[.string nm, .slice A u.length ca, .slice B d.length cb, .int .i64 hold] 24)).alloc (.cells #[.int .i64 l, .int .i64 b, .int .i64 v] 61)).alloc (.cells #[.int .i64 0, .int .i64 0, .int .i64 0] 61)).cell? ⟨w.heap.size + 1, 0, none⟩ = some (.int .i64 l) := cell_alloc _ (cell_new (by simp) rfl)
  have yf0 : (((w.alloc (.cells #[.string nm, .slice A u.length ca, .slice B d.length cb, .int .i64 hold] 24)).alloc (.cells #[.int .i64 l, .int .i64 b, .int .i64 v] 61)).alloc (.cells #[.int .i64 0, .int .i64 0, .int .i64 0] 61)).frozen? ⟨w.heap.size + 1, 0, none⟩ = false := frozen_alloc _ (by simp) (frozen_new (by simp))
  have y1 : (((w.alloc (.cells #[.string nm, .slice A u.length ca, .slice B d.length cb, .int .i64 hold] 24)).alloc (.cells #[.int .i64 l, .int .i64 b, .int .i64 v] 61)).alloc (.cells #[.int .i64 0, .int .i64 0, .int .i64 0] 61)).cell? ⟨w.heap.size + 1, 1, none⟩ = some (.int .i64 b) := cell_alloc _ (cell_new (by simp) rfl)
  have yf1 : (((w.alloc (.cells #[.string nm, .slice A u.length ca, .slice B d.length cb, .int .i64 hold] 24)).alloc (.cells #[.int .i64 l, .int .i64 b, .int .i64 v] 61)).alloc (.cells #[.int .i64 0, .int .i64 0, .int .i64 0] 61)).frozen? ⟨w.heap.size + 1, 1, none⟩ = false := frozen_alloc _ (by simp) (frozen_new (by simp))
  have y2 : (((w.alloc (.cells #[.string nm, .slice A u.length ca, .slice B d.length cb, .int .i64 hold] 24)).alloc (.cells #[.int .i64 l, .int .i64 b, .int .i64 v] 61)).alloc (.cells #[.int .i64 0, .int .i64 0, .int .i64 0] 61)).cell? ⟨w.heap.size + 1, 2, none⟩ = some (.int .i64 v) := cell_alloc _ (cell_new (by simp) rfl)
  have yf2 : (((w.alloc (.cells #[.string nm, .slice A u.length ca, .slice B d.length cb, .int .i64 hold] 24)).alloc (.cells #[.int .i64 l, .int .i64 b, .int .i64 v] 61)).alloc (.cells #[.int .i64 0, .int .i64 0, .int .i64 0] 61)).frozen? ⟨w.heap.size + 1, 2, none⟩ = false := frozen_alloc _ (by simp) (frozen_new (by simp))
  have zy : w.heap.size + 1 < (((w.alloc (.cells #[.string nm, .slice A u.length ca, .slice B d.length cb, .int .i64 hold] 24)).alloc (.cells #[.int .i64 l, .int .i64 b, .int .i64 v] 61)).alloc (.cells #[.int .i64 0, .int .i64 0, .int .i64 0] 61)).heap.size := World.block_lt_of_cell? _ _ y0
  have z0 : (((w.alloc (.cells #[.string nm, .slice A u.length ca, .slice B d.length cb, .int .i64 hold] 24)).alloc (.cells #[.int .i64 l, .int .i64 b, .int .i64 v] 61)).alloc (.cells #[.int .i64 0, .int .i64 0, .int .i64 0] 61)).cell? ⟨w.heap.size + 1 + 1, 0, none⟩ = some (.int .i64 0) := cell_new (by simp) rfl
  have zf0 : (((w.alloc (.cells #[.string nm, .slice A u.length ca, .slice B d.length cb, .int .i64 hold] 24)).alloc (.cells #[.int .i64 l, .int .i64 b, .int .i64 v] 61)).alloc (.cells #[.int .i64 0, .int .i64 0, .int .i64 0] 61)).frozen? ⟨w.heap.size + 1 + 1, 0, none⟩ = false := frozen_new (by simp)
  have z1 : (((w.alloc (.cells #[.string nm, .slice A u.length ca, .slice B d.length cb, .int .i64 hold] 24)).alloc (.cells #[.int .i64 l, .int .i64 b, .int .i64 v] 61)).alloc (.cells #[.int .i64 0, .int .i64 0, .int .i64 0] 61)).cell? ⟨w.heap.size + 1 + 1, 1, none⟩ = some (.int .i64 0) := cell_new (by simp) rfl
  have zf1 : (((w.alloc (.cells #[.string nm, .slice A u.length ca, .slice B d.length cb, .int .i64 hold] 24)).alloc (.cells #[.int .i64 l, .int .i64 b, .int .i64 v] 61)).alloc (.cells #[.int .i64 0, .int .i64 0, .int .i64 0] 61)).frozen? ⟨w.heap.size + 1 + 1, 1, none⟩ = false := frozen_new (by simp)
  have z2 : (((w.alloc (.cells #[.string nm, .slice A u.length ca, .slice B d.length cb, .int .i64 hold] 24)).alloc (.cells #[.int .i64 l, .int .i64 b, .int .i64 v] 61)).alloc (.cells #[.int .i64 0, .int .i64 0, .int .i64 0] 61)).cell? ⟨w.heap.size + 1 + 1, 2, none⟩ = some (.int .i64 0) := cell_new (by simp) rfl
  have zf2 : (((w.alloc (.cells #[.string nm, .slice A u.length ca, .slice B d.length cb, .int .i64 hold] 24)).alloc (.cells #[.int .i64 l, .int .i64 b, .int .i64 v] 61)).alloc (.cells #[.int .i64 0, .int .i64 0, .int .i64 0] 61)).frozen? ⟨w.heap.size + 1 + 1, 2, none⟩ = false := frozen_new (by simp)
  have zz : w.heap.size + 1 + 1 < (((w.alloc (.cells #[.string nm, .slice A u.length ca, .slice B d.length cb, .int .i64 hold] 24)).alloc (.cells #[.int .i64 l, .int .i64 b, .int .i64 v] 61)).alloc (.cells #[.int .i64 0, .int .i64 0, .int .i64 0] 61)).heap.size := World.block_lt_of_cell? _ _ z0
  generalize (((w.alloc (.cells #[.string nm, .slice A u.length ca, .slice B d.length cb, .int .i64 hold] 24)).alloc (.cells #[.int .i64 l, .int .i64 b, .int .i64 v] 61)).alloc (.cells #[.int .i64 0, .int .i64 0, .int .i64 0] 61)) = w0 at *
  have hA0 := RowsAt.below hA hb0
  have hB0 := RowsAt.below hB hb0
  clear hA
  refine (RLevelFrom_any nm A u ca B d.length cb hold x _ (by omega) hA0).mono ?_
  rintro e w1 ⟨rfl, hb1⟩
  rw [HRL.out]
  have h1 : Below w.heap.size w w1 := (hb0).trans ((hb1).mono (hb0).size)
  replace x0 := cell_below' hb1 x0
  replace x1 := cell_below' hb1 x1
  replace x2 := cell_below' hb1 x2
  replace x3 := cell_below' hb1 x3
  replace zx := Nat.lt_of_lt_of_le zx (hb1).size
  replace yf0 := frozen_below hb1 (World.block_lt_of_cell? _ _ y0) yf0
  replace yf1 := frozen_below hb1 (World.block_lt_of_cell? _ _ y1) yf1
  replace yf2 := frozen_below hb1 (World.block_lt_of_cell? _ _ y2) yf2
  replace y0 := cell_below' hb1 y0
  replace y1 := cell_below' hb1 y1
  replace y2 := cell_below' hb1 y2
  replace zy := Nat.lt_of_lt_of_le zy (hb1).size
  replace zf0 := frozen_below hb1 (World.block_lt_of_cell? _ _ z0) zf0
  replace zf1 := frozen_below hb1 (World.block_lt_of_cell? _ _ z1) zf1
  replace zf2 := frozen_below hb1 (World.block_lt_of_cell? _ _ z2) zf2
  replace z0 := cell_below' hb1 z0
  replace z1 := cell_below' hb1 z1
  replace z2 := cell_below' hb1 z2
  replace zz := Nat.lt_of_lt_of_le zz (hb1).size
  replace hA0 := RowsAt.below hA0 hb1
  replace hB0 := RowsAt.below hB0 hb1
  clear hb1 hb0
  have HB1 := Lib.hid hB0
  have HBw := Lib.hid hB
  clear HRL hB0 hB
  have hle2 : w.heap.size ≤ w.heap.size + 1 + 1 := by omega
  have hle1 : w.heap.size ≤ w.heap.size + 1 := by omega
  have hn12 : w.heap.size + 1 ≠ w.heap.size + 1 + 1 := by omega
  have hn02 : w.heap.size + 1 + 1 ≠ w.heap.size := by omega
  have hn01 : w.heap.size + 1 ≠ w.heap.size := by omega
  generalize w.heap.size + 1 + 1 = n2 at *
  generalize w.heap.size + 1 = n1 at *
  by_cases h2 : l < reach u x
  · have HQ2 := Lib.hid (HQ.out.trans (if_pos h2))
    clear HQ
    generalize reach u x = r at *
    go_wp2_with (fail)
    obtain ⟨s0, s1, s2⟩ := set3 (v0 := .int .i64 r) (v1 := .int .i64 0) (v2 := .int .i64 (v + 1)) z0 z1 z2
    have hbf : Below w.heap.size w (((w1.setCell ⟨n2, 0, none⟩ (.int .i64 r)).setCell ⟨n2, 1, none⟩ (.int .i64 0)).setCell ⟨n2, 2, none⟩ (.int .i64 (v + 1))) := below_set _ (by simp; omega) (below_set _ (by simp; omega) (below_set _ (by simp; omega) h1))
    generalize (((w1.setCell ⟨n2, 0, none⟩ (.int .i64 r)).setCell ⟨n2, 1, none⟩ (.int .i64 0)).setCell ⟨n2, 2, none⟩ (.int .i64 (v + 1))) = W9 at *
    refine bodyPost_ret (v := .agg #[.int .i64 r, .int .i64 0, .int .i64 (v + 1)]) (by simp [results, Try.results45, go_sem, s0, s1, s2]) rfl ?_
    rw [HQ2.out]
    exact ⟨rfl, hbf⟩
  have hq := HQ.out.trans (if_neg h2)
  have h2d : decide (l < reach u x) = false := by simpa using h2
  clear HQ h2
  by_cases h3 : l = 0
  · subst h3
    have HQ2 := Lib.hid (hq.trans (if_pos rfl))
    clear hq
    generalize reach u x = r at *
    (go_upto_region 6 with (fail); have r1 : World.cell? (w1.setCell ⟨n1, 1, none⟩ (.int .i64 0)) ⟨n1, 1, none⟩ = some (.int .i64 0) := cell_same y1; have r0 : World.cell? (w1.setCell ⟨n1, 1, none⟩ (.int .i64 0)) ⟨n1, 0, none⟩ = some (.int .i64 0) := cell_next (by decide) y0; have r2 : World.cell? (w1.setCell ⟨n1, 1, none⟩ (.int .i64 0)) ⟨n1, 2, none⟩ = some (.int .i64 v) := cell_next (by decide) y2; ((replace z0 : World.cell? (w1.setCell ⟨n1, 1, none⟩ (.int .i64 0)) ⟨n2, 0, none⟩ = some (.int .i64 0) := cell_far hn12 z0; replace z1 : World.cell? (w1.setCell ⟨n1, 1, none⟩ (.int .i64 0)) ⟨n2, 1, none⟩ = some (.int .i64 0) := cell_far hn12 z1; replace z2 : World.cell? (w1.setCell ⟨n1, 1, none⟩ (.int .i64 0)) ⟨n2, 2, none⟩ = some (.int .i64 0) := cell_far hn12 z2; replace x2 := cell_far (u := .int .i64 0) (q := ⟨n1, 1, none⟩) hn01 x2; replace x3 := cell_far (u := .int .i64 0) (q := ⟨n1, 1, none⟩) hn01 x3; replace zf0 : World.frozen? (w1.setCell ⟨n1, 1, none⟩ (.int .i64 0)) ⟨n2, 0, none⟩ = false := frozen_set _ _ zf0; replace zf1 : World.frozen? (w1.setCell ⟨n1, 1, none⟩ (.int .i64 0)) ⟨n2, 1, none⟩ = false := frozen_set _ _ zf1; replace zf2 : World.frozen? (w1.setCell ⟨n1, 1, none⟩ (.int .i64 0)) ⟨n2, 2, none⟩ = false := frozen_set _ _ zf2; have hbW : Below w.heap.size w (w1.setCell ⟨n1, 1, none⟩ (.int .i64 0)) := below_set _ hle1 h1; clear y0 y1 y2 yf0 yf1 yf2); generalize (w1.setCell ⟨n1, 1, none⟩ (.int .i64 0)) = W at *; go_wp2_with (fail); obtain ⟨s0, s1, s2⟩ := set3 (v0 := .int .i64 0) (v1 := .int .i64 0) (v2 := .int .i64 v) z0 z1 z2; have hbf : Below w.heap.size w (((W.setCell ⟨n2, 0, none⟩ (.int .i64 0)).setCell ⟨n2, 1, none⟩ (.int .i64 0)).setCell ⟨n2, 2, none⟩ (.int .i64 v)) := below_set _ hle2 (below_set _ hle2 (below_set _ hle2 hbW)); generalize (((W.setCell ⟨n2, 0, none⟩ (.int .i64 0)).setCell ⟨n2, 1, none⟩ (.int .i64 0)).setCell ⟨n2, 2, none⟩ (.int .i64 v)) = W9 at *; refine bodyPost_ret (v := .agg #[.int .i64 0, .int .i64 0, .int .i64 v]) (by simp [results, Try.results45, go_sem, s0, s1, s2]) rfl ?_; rw [HQ2.out]; exact ⟨rfl, hbf⟩))
  replace hq := hq.trans (if_neg h3)
  obtain ⟨j, rfl⟩ : ∃ j : Nat, l = (j : Int) + 1 := ⟨(l - 1).toNat, by omega⟩
  have hj : j < d.length := by have := HD.out; omega
  rw [show ((j : Int) + 1 - 1).toNat = j by omega] at hq
  obtain ⟨bb, off, rfl, hbb, hcell⟩ := IntsAt.at_ HB1.out hj
  rw [← gt_eq hj] at hcell
  have hj1 : (j : Int) < (d.length : Int) := by omega
  have hj0 : (0 : Int) ≤ (j : Int) := by omega
  have hj100 : (j : Int) < 100 := by have := HD.out; omega
  have hl0 : ((j : Int) + 1 == 0) = false := by simp; omega
  by_cases h4 : gt d j ≤ x
  · have HQ2 := Lib.hid (hq.trans (if_pos h4))
    clear hq h3
    generalize gt d j = t at *
    generalize reach u x = r at *
    (go_upto_region 6 with (fail); have r1 : World.cell? (w1.setCell ⟨n1, 1, none⟩ (.int .i64 0)) ⟨n1, 1, none⟩ = some (.int .i64 0) := cell_same y1; have r0 : World.cell? (w1.setCell ⟨n1, 1, none⟩ (.int .i64 0)) ⟨n1, 0, none⟩ = some (.int .i64 ((j : Int) + 1)) := cell_next (by decide) y0; have r2 : World.cell? (w1.setCell ⟨n1, 1, none⟩ (.int .i64 0)) ⟨n1, 2, none⟩ = some (.int .i64 v) := cell_next (by decide) y2; ((replace z0 : World.cell? (w1.setCell ⟨n1, 1, none⟩ (.int .i64 0)) ⟨n2, 0, none⟩ = some (.int .i64 0) := cell_far hn12 z0; replace z1 : World.cell? (w1.setCell ⟨n1, 1, none⟩ (.int .i64 0)) ⟨n2, 1, none⟩ = some (.int .i64 0) := cell_far hn12 z1; replace z2 : World.cell? (w1.setCell ⟨n1, 1, none⟩ (.int .i64 0)) ⟨n2, 2, none⟩ = some (.int .i64 0) := cell_far hn12 z2; replace x2 := cell_far (u := .int .i64 0) (q := ⟨n1, 1, none⟩) hn01 x2; replace x3 := cell_far (u := .int .i64 0) (q := ⟨n1, 1, none⟩) hn01 x3; replace zf0 : World.frozen? (w1.setCell ⟨n1, 1, none⟩ (.int .i64 0)) ⟨n2, 0, none⟩ = false := frozen_set _ _ zf0; replace zf1 : World.frozen? (w1.setCell ⟨n1, 1, none⟩ (.int .i64 0)) ⟨n2, 1, none⟩ = false := frozen_set _ _ zf1; replace zf2 : World.frozen? (w1.setCell ⟨n1, 1, none⟩ (.int .i64 0)) ⟨n2, 2, none⟩ = false := frozen_set _ _ zf2; have hbW : Below w.heap.size w (w1.setCell ⟨n1, 1, none⟩ (.int .i64 0)) := below_set _ hle1 h1; clear y0 y1 y2 yf0 yf1 yf2); generalize (w1.setCell ⟨n1, 1, none⟩ (.int .i64 0)) = W at *; go_wp2_with (fail); obtain ⟨s0, s1, s2⟩ := set3 (v0 := .int .i64 ((j : Int) + 1)) (v1 := .int .i64 0) (v2 := .int .i64 v) z0 z1 z2; have hbf : Below w.heap.size w (((W.setCell ⟨n2, 0, none⟩ (.int .i64 ((j : Int) + 1))).setCell ⟨n2, 1, none⟩ (.int .i64 0)).setCell ⟨n2, 2, none⟩ (.int .i64 v)) := below_set _ hle2 (below_set _ hle2 (below_set _ hle2 hbW)); generalize (((W.setCell ⟨n2, 0, none⟩ (.int .i64 ((j : Int) + 1))).setCell ⟨n2, 1, none⟩ (.int .i64 0)).setCell ⟨n2, 2, none⟩ (.int .i64 v)) = W9 at *; refine bodyPost_ret (v := .agg #[.int .i64 ((j : Int) + 1), .int .i64 0, .int .i64 v]) (by simp [results, Try.results45, go_sem, s0, s1, s2]) rfl ?_; rw [HQ2.out]; exact ⟨rfl, hbf⟩))
  replace hq := hq.trans (if_neg h4)
  have h4d : decide (gt d j ≤ x) = false := by simpa using h4
  clear h3 h4
  by_cases h5 : b + 1 = hold
  rotate_left 1
  · have HQ2 := Lib.hid (hq.trans (if_neg h5))
    have h5e : decide (b + 1 < hold) = true := by simp; omega
    clear hq h5
    generalize gt d j = t at *
    generalize reach u x = r at *
    go_upto_region 8 with (fail)
    have r1 : World.cell? (w1.setCell ⟨n1, 1, none⟩ (.int .i64 (b + 1))) ⟨n1, 1, none⟩ = some (.int .i64 (b + 1)) := cell_same y1
    have r0 : World.cell? (w1.setCell ⟨n1, 1, none⟩ (.int .i64 (b + 1))) ⟨n1, 0, none⟩ = some (.int .i64 ((j : Int) + 1)) := cell_next (by decide) y0
    have r2 : World.cell? (w1.setCell ⟨n1, 1, none⟩ (.int .i64 (b + 1))) ⟨n1, 2, none⟩ = some (.int .i64 v) := cell_next (by decide) y2
    ((replace z0 : World.cell? (w1.setCell ⟨n1, 1, none⟩ (.int .i64 (b + 1))) ⟨n2, 0, none⟩ = some (.int .i64 0) := cell_far hn12 z0; replace z1 : World.cell? (w1.setCell ⟨n1, 1, none⟩ (.int .i64 (b + 1))) ⟨n2, 1, none⟩ = some (.int .i64 0) := cell_far hn12 z1; replace z2 : World.cell? (w1.setCell ⟨n1, 1, none⟩ (.int .i64 (b + 1))) ⟨n2, 2, none⟩ = some (.int .i64 0) := cell_far hn12 z2; replace x2 := cell_far (u := .int .i64 (b + 1)) (q := ⟨n1, 1, none⟩) hn01 x2; replace x3 := cell_far (u := .int .i64 (b + 1)) (q := ⟨n1, 1, none⟩) hn01 x3; replace zf0 : World.frozen? (w1.setCell ⟨n1, 1, none⟩ (.int .i64 (b + 1))) ⟨n2, 0, none⟩ = false := frozen_set _ _ zf0; replace zf1 : World.frozen? (w1.setCell ⟨n1, 1, none⟩ (.int .i64 (b + 1))) ⟨n2, 1, none⟩ = false := frozen_set _ _ zf1; replace zf2 : World.frozen? (w1.setCell ⟨n1, 1, none⟩ (.int .i64 (b + 1))) ⟨n2, 2, none⟩ = false := frozen_set _ _ zf2; have hbW : Below w.heap.size w (w1.setCell ⟨n1, 1, none⟩ (.int .i64 (b + 1))) := below_set _ hle1 h1; clear y0 y1 y2 yf0 yf1 yf2); generalize (w1.setCell ⟨n1, 1, none⟩ (.int .i64 (b + 1))) = W at *; go_wp2_with (fail); obtain ⟨s0, s1, s2⟩ := set3 (v0 := .int .i64 ((j : Int) + 1)) (v1 := .int .i64 (b + 1)) (v2 := .int .i64 v) z0 z1 z2; have hbf : Below w.heap.size w (((W.setCell ⟨n2, 0, none⟩ (.int .i64 ((j : Int) + 1))).setCell ⟨n2, 1, none⟩ (.int .i64 (b + 1))).setCell ⟨n2, 2, none⟩ (.int .i64 v)) := below_set _ hle2 (below_set _ hle2 (below_set _ hle2 hbW)); generalize (((W.setCell ⟨n2, 0, none⟩ (.int .i64 ((j : Int) + 1))).setCell ⟨n2, 1, none⟩ (.int .i64 (b + 1))).setCell ⟨n2, 2, none⟩ (.int .i64 v)) = W9 at *; refine bodyPost_ret (v := .agg #[.int .i64 ((j : Int) + 1), .int .i64 (b + 1), .int .i64 v]) (by simp [results, Try.results45, go_sem, s0, s1, s2]) rfl ?_; rw [HQ2.out]; exact ⟨rfl, hbf⟩)
  have HQ2 := Lib.hid (hq.trans (if_pos h5))
  subst h5
  have hds : (d.take j).length = j := by rw [List.length_take]; omega
  have hrl2 := RLev_reach (HO.out.incD.take j) x
  have hrb := reach_bd (d.take j) x
  rw [hds] at hrb
  have HR2 := Lib.hid hrl2
  have HDS := Lib.hid hds
  clear hq hrl2 hds
  generalize gt d j = t at *
  generalize reach u x = r at *
  go_upto_region 10 with (fail)
  have r1 : World.cell? (w1.setCell ⟨n1, 1, none⟩ (.int .i64 (b + 1))) ⟨n1, 1, none⟩ = some (.int .i64 (b + 1)) := cell_same y1
  have r0 : World.cell? (w1.setCell ⟨n1, 1, none⟩ (.int .i64 (b + 1))) ⟨n1, 0, none⟩ = some (.int .i64 ((j : Int) + 1)) := cell_next (by decide) y0
  have r2 : World.cell? (w1.setCell ⟨n1, 1, none⟩ (.int .i64 (b + 1))) ⟨n1, 2, none⟩ = some (.int .i64 v) := cell_next (by decide) y2
  (replace z0 : World.cell? (w1.setCell ⟨n1, 1, none⟩ (.int .i64 (b + 1))) ⟨n2, 0, none⟩ = some (.int .i64 0) := cell_far hn12 z0; replace z1 : World.cell? (w1.setCell ⟨n1, 1, none⟩ (.int .i64 (b + 1))) ⟨n2, 1, none⟩ = some (.int .i64 0) := cell_far hn12 z1; replace z2 : World.cell? (w1.setCell ⟨n1, 1, none⟩ (.int .i64 (b + 1))) ⟨n2, 2, none⟩ = some (.int .i64 0) := cell_far hn12 z2; replace x2 := cell_far (u := .int .i64 (b + 1)) (q := ⟨n1, 1, none⟩) hn01 x2; replace x3 := cell_far (u := .int .i64 (b + 1)) (q := ⟨n1, 1, none⟩) hn01 x3; replace zf0 : World.frozen? (w1.setCell ⟨n1, 1, none⟩ (.int .i64 (b + 1))) ⟨n2, 0, none⟩ = false := frozen_set _ _ zf0; replace zf1 : World.frozen? (w1.setCell ⟨n1, 1, none⟩ (.int .i64 (b + 1))) ⟨n2, 1, none⟩ = false := frozen_set _ _ zf1; replace zf2 : World.frozen? (w1.setCell ⟨n1, 1, none⟩ (.int .i64 (b + 1))) ⟨n2, 2, none⟩ = false := frozen_set _ _ zf2; have hbW : Below w.heap.size w (w1.setCell ⟨n1, 1, none⟩ (.int .i64 (b + 1))) := below_set _ hle1 h1; clear y0 y1 y2 yf0 yf1 yf2)
  have HBW := Lib.hid (RowsAt.below HBw.out hbW)
  clear hcell HB1
  generalize (w1.setCell ⟨n1, 1, none⟩ (.int .i64 (b + 1))) = W at *
  go_wp2_with (fail)
  go_loop [8, 9] (fun lv i => ∃ (k : Nat) (q : Int), k ≤ j ∧ i = .int .i64 (k + 1) ∧ lv = .int .i64 q ∧ RLev (d.take j) x = rlev x ((d.take j).drop k) (k + 1) q) (fun _ i => j + 1 - (intOf i).toNat)
  case atStart => exact ⟨0, 0, Nat.zero_le _, rfl, rfl, rfl⟩
  case round =>
    obtain ⟨k, q, hk, rfl, rfl, he⟩ := hrel
    have H := Lib.hid he
    clear he
    by_cases hlt : k < j
    · have hkd : k < (d.take j).length := by rw [HDS.out]; exact hlt
      have hkl : k < d.length := by omega
      have hdr : (d.take j).drop k = (d.take j)[k] :: (d.take j).drop (k + 1) := List.drop_eq_getElem_cons hkd
      rw [hdr, List.getElem_take] at H
      clear hdr
      obtain ⟨bb2, off2, e2, hb2, c2⟩ := IntsAt.at_ HBW.out hkl
      injection e2 with e2
      injection e2 with e3 e4 e5
      subst e3 e4
      clear e5
      generalize d[k] = y at *
      have hk1 : (k : Int) < (d.length : Int) := by omega
      by_cases hx : y ≤ x
      · have H2 := Lib.hid (H.out.trans (show rlev x (y :: (d.take j).drop (k + 1)) (k + 1) q = rlev x ((d.take j).drop (k + 1)) (k + 1 + 1) (k + 1) by rw [rlev, if_pos hx]))
        go_wp2_with (fail)
        go_round
        case rel => exact ⟨k + 1, k + 1, by omega, by go_num, rfl, by rw [H2.out]; rfl⟩
        case measure => simp [intOf]; omega
      · have H2 := Lib.hid (H.out.trans (show rlev x (y :: (d.take j).drop (k + 1)) (k + 1) q = rlev x ((d.take j).drop (k + 1)) (k + 1 + 1) q by rw [rlev, if_neg hx]))
        go_wp2_with (fail)
        go_round
        case rel => exact ⟨k + 1, q, by omega, by go_num, rfl, by rw [H2.out]; rfl⟩
        case measure => simp [intOf]; omega
    · have e : (d.take j).drop k = [] := List.drop_eq_nil_of_le (by rw [HDS.out]; omega)
      rw [e] at H
      clear e
      have hqq : q = reach (d.take j) x := by rw [← HR2.out, H.out]; rfl
      have HQQ := Lib.hid hqq
      clear hqq
      have hqb : 0 ≤ q ∧ q ≤ j := by rw [HQQ.out]; exact hrb
      go_wp2_with (fail)
      obtain ⟨s0, s1, s2⟩ := set3 (v0 := .int .i64 q) (v1 := .int .i64 0) (v2 := .int .i64 (v + 1)) z0 z1 z2
      have hbf : Below w.heap.size w (((W.setCell ⟨n2, 0, none⟩ (.int .i64 q)).setCell ⟨n2, 1, none⟩ (.int .i64 0)).setCell ⟨n2, 2, none⟩ (.int .i64 (v + 1))) := below_set _ (by simp; omega) (below_set _ (by simp; omega) (below_set _ (by simp; omega) hbW))
      generalize (((W.setCell ⟨n2, 0, none⟩ (.int .i64 q)).setCell ⟨n2, 1, none⟩ (.int .i64 0)).setCell ⟨n2, 2, none⟩ (.int .i64 (v + 1))) = W9 at *
      refine bodyPost_ret (v := .agg #[.int .i64 q, .int .i64 0, .int .i64 (v + 1)]) (by simp [results, Try.results45, go_sem, s0, s1, s2]) rfl ?_
      rw [HQ2.out, ← HQQ.out]
      exact ⟨rfl, hbf⟩
end Go.Proofs.Ytcfbnmcdncndpaa
