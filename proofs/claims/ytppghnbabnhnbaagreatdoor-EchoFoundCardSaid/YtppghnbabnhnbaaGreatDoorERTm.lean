/-
  Chapter 2: the reference's powers of i, for frames.
-/
import Derived.Test.YtppghnbabnhnbaaGreatDoorEFrR
namespace Go.Proofs.YtppghnbabnhnbaaGreatDoor
open Go.ChangeShapes Go.WideShapes Go.ChangeAt Go.RowKit
set_option linter.unusedVariables false
set_option linter.unusedSimpArgs false

set_option maxRecDepth 100000 in
set_option maxHeartbeats 4000000 in
theorem RTimesM_any (g : Gs) (p : Nat) (w : World) (hp : p ≤ 1000000) (hg : Sz 1000000000 g) :
    Calls Tryz.prog 70 #[gv g, .int .i64 p] w fun e w' => e = .returned (gv (rotN (p % 4) g)) ∧ Below w.heap.size w w' := by
  obtain ⟨s, hs⟩ : ∃ s, s = p % 4 := ⟨_, rfl⟩
  have hp4 : (p : Int).tmod 4 = s := by rw [Int.tmod_eq_emod_of_nonneg (by omega)]; omega
  have hs4 : s < 4 := by omega
  rw [← hs]
  clear hs
  have HSZ := Lib.hid (fun k => Sz.rotN hg k)
  have HR0 : Hid (rotN 0 g = g) := Lib.hid rfl
  have HR1 : Hid (∀ k, rotN (k + 1) g = tI (rotN k g)) := Lib.hid fun _ => rfl
  have hp5 : (p : Int) ≤ 1000000 := by omega
  have hp6 : (s : Int) ≤ 3 := by omega
  obtain ⟨g0, g1⟩ := g
  simp only [gv] at *
  go_enter Tryz.func70, Tryz.ntmps70
  go_wp2_with (fail)
  have hb1 : Below w.heap.size w ((w.alloc (.cells #[.int .i64 g0, .int .i64 g1] 23)).alloc (.cells #[.int .i64 0, .int .i64 0] 23)) := below_alloc _ (Nat.le_refl _) (below_alloc _ (Nat.le_refl _) (Below.refl _ _))
  have c0 : ((w.alloc (.cells #[.int .i64 g0, .int .i64 g1] 23)).alloc (.cells #[.int .i64 0, .int .i64 0] 23)).cell? ⟨w.heap.size, 0, none⟩ = some (.int .i64 g0) := cell_alloc _ (cell_new (by simp) rfl)
  have cf0 : ((w.alloc (.cells #[.int .i64 g0, .int .i64 g1] 23)).alloc (.cells #[.int .i64 0, .int .i64 0] 23)).frozen? ⟨w.heap.size, 0, none⟩ = false := frozen_alloc _ (by first | (simp; done) | (simp; omega)) (frozen_new (by simp))
  have c1 : ((w.alloc (.cells #[.int .i64 g0, .int .i64 g1] 23)).alloc (.cells #[.int .i64 0, .int .i64 0] 23)).cell? ⟨w.heap.size, 1, none⟩ = some (.int .i64 g1) := cell_alloc _ (cell_new (by simp) rfl)
  have cf1 : ((w.alloc (.cells #[.int .i64 g0, .int .i64 g1] 23)).alloc (.cells #[.int .i64 0, .int .i64 0] 23)).frozen? ⟨w.heap.size, 1, none⟩ = false := frozen_alloc _ (by first | (simp; done) | (simp; omega)) (frozen_new (by simp))
  have zc : w.heap.size < ((w.alloc (.cells #[.int .i64 g0, .int .i64 g1] 23)).alloc (.cells #[.int .i64 0, .int .i64 0] 23)).heap.size := World.block_lt_of_cell? _ _ c0
  have r0 : ((w.alloc (.cells #[.int .i64 g0, .int .i64 g1] 23)).alloc (.cells #[.int .i64 0, .int .i64 0] 23)).cell? ⟨w.heap.size + 1, 0, none⟩ = some (.int .i64 0) := cell_new (by simp) rfl
  have rf0 : ((w.alloc (.cells #[.int .i64 g0, .int .i64 g1] 23)).alloc (.cells #[.int .i64 0, .int .i64 0] 23)).frozen? ⟨w.heap.size + 1, 0, none⟩ = false := frozen_new (by simp)
  have r1 : ((w.alloc (.cells #[.int .i64 g0, .int .i64 g1] 23)).alloc (.cells #[.int .i64 0, .int .i64 0] 23)).cell? ⟨w.heap.size + 1, 1, none⟩ = some (.int .i64 0) := cell_new (by simp) rfl
  have rf1 : ((w.alloc (.cells #[.int .i64 g0, .int .i64 g1] 23)).alloc (.cells #[.int .i64 0, .int .i64 0] 23)).frozen? ⟨w.heap.size + 1, 1, none⟩ = false := frozen_new (by simp)
  have zr : w.heap.size + 1 < ((w.alloc (.cells #[.int .i64 g0, .int .i64 g1] 23)).alloc (.cells #[.int .i64 0, .int .i64 0] 23)).heap.size := World.block_lt_of_cell? _ _ r0
  generalize ((w.alloc (.cells #[.int .i64 g0, .int .i64 g1] 23)).alloc (.cells #[.int .i64 0, .int .i64 0] 23)) = w1 at *
  go_loopw [5] (fun o wr => ∃ (k : Nat), k ≤ s ∧ o = .int .i64 k ∧ wr.cell? ⟨w.heap.size, 0, none⟩ = some (.int .i64 (rotN k ⟨g0, g1⟩).re) ∧ wr.cell? ⟨w.heap.size, 1, none⟩ = some (.int .i64 (rotN k ⟨g0, g1⟩).im) ∧ wr.frozen? ⟨w.heap.size, 0, none⟩ = false ∧ wr.frozen? ⟨w.heap.size, 1, none⟩ = false ∧ wr.cell? ⟨w.heap.size + 1, 0, none⟩ = some (.int .i64 0) ∧ wr.cell? ⟨w.heap.size + 1, 1, none⟩ = some (.int .i64 0) ∧ wr.frozen? ⟨w.heap.size + 1, 0, none⟩ = false ∧ wr.frozen? ⟨w.heap.size + 1, 1, none⟩ = false ∧ Below w.heap.size w wr) (fun o _ => s - (intOf o).toNat)
  case atStart => exact ⟨0, Nat.zero_le _, rfl, c0, c1, cf0, cf1, r0, r1, rf0, rf1, hb1⟩
  case round =>
    obtain ⟨k, hk, rfl, c0, c1, cf0, cf1, r0, r1, rf0, rf1, hbr⟩ := hrel
    obtain ⟨wo, rfl⟩ : ∃ wo : World, wo = wr := ⟨_, rfl⟩
    have S1 := Lib.hid (HR1.out k)
    obtain ⟨m0, m1, m2, m3⟩ := HSZ.out k
    have zc : w.heap.size < wo.heap.size := World.block_lt_of_cell? _ _ c0
    have zr : w.heap.size + 1 < wo.heap.size := World.block_lt_of_cell? _ _ r0
    by_cases hkp : k < s
    · rcases hcu : rotN k ⟨g0, g1⟩ with ⟨u, v⟩
      rw [hcu] at S1 c0 c1 m0 m1 m2 m3
      simp only [tI] at S1 c0 c1 m0 m1 m2 m3
      have hk1 : (k : Int) < s := by omega
      have hner : w.heap.size ≠ w.heap.size + 1 := by omega
      clear HSZ HR0 HR1 hcu
      go_wp2_with (fail)
      have h4 : Below w.heap.size w ((wo.setCell ⟨w.heap.size, 0, none⟩ (.int .i64 (-v))).setCell ⟨w.heap.size, 1, none⟩ (.int .i64 u)) := below_set _ (by simp; try omega) (below_set _ (by simp; try omega) (hbr))
      replace c0 : ((wo.setCell ⟨w.heap.size, 0, none⟩ (.int .i64 (-v))).setCell ⟨w.heap.size, 1, none⟩ (.int .i64 u)).cell? ⟨w.heap.size, 0, none⟩ = some (.int .i64 (-v)) := cell_next (by decide) (cell_same (c0))
      replace c1 : ((wo.setCell ⟨w.heap.size, 0, none⟩ (.int .i64 (-v))).setCell ⟨w.heap.size, 1, none⟩ (.int .i64 u)).cell? ⟨w.heap.size, 1, none⟩ = some (.int .i64 u) := cell_same (cell_next (by decide) (c1))
      replace cf0 := (show World.frozen? ((wo.setCell ⟨w.heap.size, 0, none⟩ (.int .i64 (-v))).setCell ⟨w.heap.size, 1, none⟩ (.int .i64 u)) ⟨w.heap.size, 0, none⟩ = false from frozen_set _ _ (frozen_set _ _ (cf0)))
      replace cf1 := (show World.frozen? ((wo.setCell ⟨w.heap.size, 0, none⟩ (.int .i64 (-v))).setCell ⟨w.heap.size, 1, none⟩ (.int .i64 u)) ⟨w.heap.size, 1, none⟩ = false from frozen_set _ _ (frozen_set _ _ (cf1)))
      have hszQ : ((wo.setCell ⟨w.heap.size, 0, none⟩ (.int .i64 (-v))).setCell ⟨w.heap.size, 1, none⟩ (.int .i64 u)).heap.size = wo.heap.size := by simp
      replace zc : w.heap.size < ((wo.setCell ⟨w.heap.size, 0, none⟩ (.int .i64 (-v))).setCell ⟨w.heap.size, 1, none⟩ (.int .i64 u)).heap.size := by rw [hszQ]; exact zc
      replace r0 := cell_far (u := .int .i64 u) (q := ⟨w.heap.size, 1, none⟩) hner (cell_far (u := .int .i64 (-v)) (q := ⟨w.heap.size, 0, none⟩) hner (r0))
      replace rf0 := frozen_set ⟨w.heap.size, 1, none⟩ (.int .i64 u) (frozen_set ⟨w.heap.size, 0, none⟩ (.int .i64 (-v)) (rf0))
      replace r1 := cell_far (u := .int .i64 u) (q := ⟨w.heap.size, 1, none⟩) hner (cell_far (u := .int .i64 (-v)) (q := ⟨w.heap.size, 0, none⟩) hner (r1))
      replace rf1 := frozen_set ⟨w.heap.size, 1, none⟩ (.int .i64 u) (frozen_set ⟨w.heap.size, 0, none⟩ (.int .i64 (-v)) (rf1))
      replace zr := Nat.lt_of_lt_of_eq zr hszQ.symm
      clear hszQ hbr
      generalize ((wo.setCell ⟨w.heap.size, 0, none⟩ (.int .i64 (-v))).setCell ⟨w.heap.size, 1, none⟩ (.int .i64 u)) = w4 at *
      exact ⟨⟨k + 1, by omega, by go_num, by rw [S1.out]; exact c0, by rw [S1.out]; exact c1, cf0, cf1, r0, r1, rf0, rf1, h4⟩, by simp [intOf]; omega⟩
    · obtain rfl : k = s := by omega
      clear HSZ HR0 HR1 S1
      rcases hcu : rotN k ⟨g0, g1⟩ with ⟨u, v⟩
      rw [hcu] at c0 c1
      have HCU := Lib.hid hcu
      simp only at c0 c1
      clear hcu
      go_wp2_with (fail)
      obtain ⟨q0, q1⟩ := set2 (v0 := .int .i64 u) (v1 := .int .i64 v) r0 r1
      refine bodyPost_ret (v := .agg #[.int .i64 u, .int .i64 v]) (by simp [results, Tryz.results70, go_sem, q0, q1]) rfl ?_
      have hle : w.heap.size ≤ w.heap.size + 1 := by omega
      exact ⟨by rw [HCU.out], below_set _ hle (below_set _ hle hbr)⟩
end Go.Proofs.YtppghnbabnhnbaaGreatDoor
