/-
  Chapter 2: the reference of lines, of the Doppler line; turns.
-/
import Derived.Test.YtppghnbabnhnbaaDoorEDop
import Derived.Test.YtppghnbabnhnbaaDoorEOcL
namespace Go.Proofs.YtppghnbabnhnbaaDoor
open Go.ChangeShapes Go.WideShapes Go.ChangeAt Go.RowKit
set_option linter.unusedVariables false
set_option linter.unusedSimpArgs false

set_option maxRecDepth 100000 in
set_option maxHeartbeats 4000000 in
theorem RTimesN_any (g : Gs) (p : Nat) (w : World) (hp : p ≤ 1000000) (hg : Sz 1000000000 g) :
    Calls Tryd.prog 47 #[gv g, .int .i64 p] w fun e w' => e = .returned (gv (rotN (p % 4) g)) ∧ Below w.heap.size w w' := by
  obtain ⟨s, hs⟩ : ∃ s, s = p % 4 := ⟨_, rfl⟩
  have hp4 : (p : Int).tmod 4 = s := by rw [Int.tmod_eq_emod_of_nonneg (by omega)]; omega
  have hs4 : s < 4 := by omega
  rw [← hs]
  clear hs
  have HSZ := Lib.hid (fun k => Sz.rotN hg k)
  have HR0 : Hid (rotN 0 g = g) := Lib.hid rfl
  have HR1 : Hid (∀ k, rotN (k + 1) g = tI (rotN k g)) := Lib.hid fun _ => rfl
  have hp5 : (p : Int) ≤ 1000000 := by omega
  have hp6 : (s : Int) ≤ 3 := by omega
  obtain ⟨g0, g1⟩ := g
  simp only [gv] at *
  go_enter Tryd.func47, Tryd.ntmps47
  go_wp2_with (fail)
  have hb1 : Below w.heap.size w ((w.alloc (.cells #[.int .i64 g0, .int .i64 g1] 24)).alloc (.cells #[.int .i64 0, .int .i64 0] 24)) := below_alloc _ (Nat.le_refl _) (below_alloc _ (Nat.le_refl _) (Below.refl _ _))
  have c0 : ((w.alloc (.cells #[.int .i64 g0, .int .i64 g1] 24)).alloc (.cells #[.int .i64 0, .int .i64 0] 24)).cell? ⟨w.heap.size, 0, none⟩ = some (.int .i64 g0) := cell_alloc _ (cell_new (by simp) rfl)
  have cf0 : ((w.alloc (.cells #[.int .i64 g0, .int .i64 g1] 24)).alloc (.cells #[.int .i64 0, .int .i64 0] 24)).frozen? ⟨w.heap.size, 0, none⟩ = false := frozen_alloc _ (by first | (simp; done) | (simp; omega)) (frozen_new (by simp))
  have c1 : ((w.alloc (.cells #[.int .i64 g0, .int .i64 g1] 24)).alloc (.cells #[.int .i64 0, .int .i64 0] 24)).cell? ⟨w.heap.size, 1, none⟩ = some (.int .i64 g1) := cell_alloc _ (cell_new (by simp) rfl)
  have cf1 : ((w.alloc (.cells #[.int .i64 g0, .int .i64 g1] 24)).alloc (.cells #[.int .i64 0, .int .i64 0] 24)).frozen? ⟨w.heap.size, 1, none⟩ = false := frozen_alloc _ (by first | (simp; done) | (simp; omega)) (frozen_new (by simp))
  have zc : w.heap.size < ((w.alloc (.cells #[.int .i64 g0, .int .i64 g1] 24)).alloc (.cells #[.int .i64 0, .int .i64 0] 24)).heap.size := World.block_lt_of_cell? _ _ c0
  have r0 : ((w.alloc (.cells #[.int .i64 g0, .int .i64 g1] 24)).alloc (.cells #[.int .i64 0, .int .i64 0] 24)).cell? ⟨w.heap.size + 1, 0, none⟩ = some (.int .i64 0) := cell_new (by simp) rfl
  have rf0 : ((w.alloc (.cells #[.int .i64 g0, .int .i64 g1] 24)).alloc (.cells #[.int .i64 0, .int .i64 0] 24)).frozen? ⟨w.heap.size + 1, 0, none⟩ = false := frozen_new (by simp)
  have r1 : ((w.alloc (.cells #[.int .i64 g0, .int .i64 g1] 24)).alloc (.cells #[.int .i64 0, .int .i64 0] 24)).cell? ⟨w.heap.size + 1, 1, none⟩ = some (.int .i64 0) := cell_new (by simp) rfl
  have rf1 : ((w.alloc (.cells #[.int .i64 g0, .int .i64 g1] 24)).alloc (.cells #[.int .i64 0, .int .i64 0] 24)).frozen? ⟨w.heap.size + 1, 1, none⟩ = false := frozen_new (by simp)
  have zr : w.heap.size + 1 < ((w.alloc (.cells #[.int .i64 g0, .int .i64 g1] 24)).alloc (.cells #[.int .i64 0, .int .i64 0] 24)).heap.size := World.block_lt_of_cell? _ _ r0
  generalize ((w.alloc (.cells #[.int .i64 g0, .int .i64 g1] 24)).alloc (.cells #[.int .i64 0, .int .i64 0] 24)) = w1 at *
  go_loopw [5] (fun o wr => ∃ (k : Nat), k ≤ s ∧ o = .int .i64 k ∧ wr.cell? ⟨w.heap.size, 0, none⟩ = some (.int .i64 (rotN k ⟨g0, g1⟩).re) ∧ wr.cell? ⟨w.heap.size, 1, none⟩ = some (.int .i64 (rotN k ⟨g0, g1⟩).im) ∧ wr.frozen? ⟨w.heap.size, 0, none⟩ = false ∧ wr.frozen? ⟨w.heap.size, 1, none⟩ = false ∧ wr.cell? ⟨w.heap.size + 1, 0, none⟩ = some (.int .i64 0) ∧ wr.cell? ⟨w.heap.size + 1, 1, none⟩ = some (.int .i64 0) ∧ wr.frozen? ⟨w.heap.size + 1, 0, none⟩ = false ∧ wr.frozen? ⟨w.heap.size + 1, 1, none⟩ = false ∧ Below w.heap.size w wr) (fun o _ => s - (intOf o).toNat)
  case atStart => exact ⟨0, Nat.zero_le _, rfl, c0, c1, cf0, cf1, r0, r1, rf0, rf1, hb1⟩
  case round =>
    obtain ⟨k, hk, rfl, c0, c1, cf0, cf1, r0, r1, rf0, rf1, hbr⟩ := hrel
    obtain ⟨wo, rfl⟩ : ∃ wo : World, wo = wr := ⟨_, rfl⟩
    have S1 := Lib.hid (HR1.out k)
    obtain ⟨m0, m1, m2, m3⟩ := HSZ.out k
    have zc : w.heap.size < wo.heap.size := World.block_lt_of_cell? _ _ c0
    have zr : w.heap.size + 1 < wo.heap.size := World.block_lt_of_cell? _ _ r0
    by_cases hkp : k < s
    · rcases hcu : rotN k ⟨g0, g1⟩ with ⟨u, v⟩
      rw [hcu] at S1 c0 c1 m0 m1 m2 m3
      simp only [tI] at S1 c0 c1 m0 m1 m2 m3
      have hk1 : (k : Int) < s := by omega
      have hner : w.heap.size ≠ w.heap.size + 1 := by omega
      clear HSZ HR0 HR1 hcu
      go_wp2_with (fail)
      have h4 : Below w.heap.size w ((wo.setCell ⟨w.heap.size, 0, none⟩ (.int .i64 (-v))).setCell ⟨w.heap.size, 1, none⟩ (.int .i64 u)) := below_set _ (by simp; try omega) (below_set _ (by simp; try omega) (hbr))
      replace c0 : ((wo.setCell ⟨w.heap.size, 0, none⟩ (.int .i64 (-v))).setCell ⟨w.heap.size, 1, none⟩ (.int .i64 u)).cell? ⟨w.heap.size, 0, none⟩ = some (.int .i64 (-v)) := cell_next (by decide) (cell_same (c0))
      replace c1 : ((wo.setCell ⟨w.heap.size, 0, none⟩ (.int .i64 (-v))).setCell ⟨w.heap.size, 1, none⟩ (.int .i64 u)).cell? ⟨w.heap.size, 1, none⟩ = some (.int .i64 u) := cell_same (cell_next (by decide) (c1))
      replace cf0 := (show World.frozen? ((wo.setCell ⟨w.heap.size, 0, none⟩ (.int .i64 (-v))).setCell ⟨w.heap.size, 1, none⟩ (.int .i64 u)) ⟨w.heap.size, 0, none⟩ = false from frozen_set _ _ (frozen_set _ _ (cf0)))
      replace cf1 := (show World.frozen? ((wo.setCell ⟨w.heap.size, 0, none⟩ (.int .i64 (-v))).setCell ⟨w.heap.size, 1, none⟩ (.int .i64 u)) ⟨w.heap.size, 1, none⟩ = false from frozen_set _ _ (frozen_set _ _ (cf1)))
      have hszQ : ((wo.setCell ⟨w.heap.size, 0, none⟩ (.int .i64 (-v))).setCell ⟨w.heap.size, 1, none⟩ (.int .i64 u)).heap.size = wo.heap.size := by simp
      replace zc : w.heap.size < ((wo.setCell ⟨w.heap.size, 0, none⟩ (.int .i64 (-v))).setCell ⟨w.heap.size, 1, none⟩ (.int .i64 u)).heap.size := by rw [hszQ]; exact zc
      replace r0 := cell_far (u := .int .i64 u) (q := ⟨w.heap.size, 1, none⟩) hner (cell_far (u := .int .i64 (-v)) (q := ⟨w.heap.size, 0, none⟩) hner (r0))
      replace rf0 := frozen_set ⟨w.heap.size, 1, none⟩ (.int .i64 u) (frozen_set ⟨w.heap.size, 0, none⟩ (.int .i64 (-v)) (rf0))
      replace r1 := cell_far (u := .int .i64 u) (q := ⟨w.heap.size, 1, none⟩) hner (cell_far (u := .int .i64 (-v)) (q := ⟨w.heap.size, 0, none⟩) hner (r1))
      replace rf1 := frozen_set ⟨w.heap.size, 1, none⟩ (.int .i64 u) (frozen_set ⟨w.heap.size, 0, none⟩ (.int .i64 (-v)) (rf1))
      replace zr := Nat.lt_of_lt_of_eq zr hszQ.symm
      clear hszQ hbr
      generalize ((wo.setCell ⟨w.heap.size, 0, none⟩ (.int .i64 (-v))).setCell ⟨w.heap.size, 1, none⟩ (.int .i64 u)) = w4 at *
      exact ⟨⟨k + 1, by omega, by go_num, by rw [S1.out]; exact c0, by rw [S1.out]; exact c1, cf0, cf1, r0, r1, rf0, rf1, h4⟩, by simp [intOf]; omega⟩
    · obtain rfl : k = s := by omega
      clear HSZ HR0 HR1 S1
      rcases hcu : rotN k ⟨g0, g1⟩ with ⟨u, v⟩
      rw [hcu] at c0 c1
      have HCU := Lib.hid hcu
      simp only at c0 c1
      clear hcu
      go_wp2_with (fail)
      obtain ⟨q0, q1⟩ := set2 (v0 := .int .i64 u) (v1 := .int .i64 v) r0 r1
      refine bodyPost_ret (v := .agg #[.int .i64 u, .int .i64 v]) (by simp [results, Tryd.results47, go_sem, q0, q1]) rfl ?_
      have hle : w.heap.size ≤ w.heap.size + 1 := by omega
      exact ⟨by rw [HCU.out], below_set _ hle (below_set _ hle hbr)⟩
theorem rotN_4 (g : Gs) : ∀ p : Nat, rotN (p + 4) g = rotN p g
  | 0 => by apply Gs.ext2 <;> simp [rotN, tI]
  | p + 1 => by rw [show p + 1 + 4 = (p + 4) + 1 by omega, rotN, rotN_4 g p]; rfl
theorem gx8 {O : Nat} {v : Nat → Gs} {w : World} (h : GxAt O v w) : w.cell? ⟨O, 0, none⟩ = some (.int .i64 (v 0).re) ∧ w.cell? ⟨O, 1, none⟩ = some (.int .i64 (v 0).im) ∧ w.cell? ⟨O, 2, none⟩ = some (.int .i64 (v 1).re) ∧ w.cell? ⟨O, 3, none⟩ = some (.int .i64 (v 1).im) ∧ w.cell? ⟨O, 4, none⟩ = some (.int .i64 (v 2).re) ∧ w.cell? ⟨O, 5, none⟩ = some (.int .i64 (v 2).im) ∧ w.cell? ⟨O, 6, none⟩ = some (.int .i64 (v 3).re) ∧ w.cell? ⟨O, 7, none⟩ = some (.int .i64 (v 3).im) := by
  have c0 := h.c 0 (by decide)
  have c1 := h.c 1 (by decide)
  have c2 := h.c 2 (by decide)
  have c3 := h.c 3 (by decide)
  exact ⟨c0.1, c0.2, c1.1, c1.2, c2.1, c2.2, c3.1, c3.2⟩
theorem gx_of {O : Nat} {v : Nat → Gs} {w : World} (h0 : w.cell? ⟨O, 0, none⟩ = some (.int .i64 (v 0).re)) (h1 : w.cell? ⟨O, 1, none⟩ = some (.int .i64 (v 0).im)) (h2 : w.cell? ⟨O, 2, none⟩ = some (.int .i64 (v 1).re)) (h3 : w.cell? ⟨O, 3, none⟩ = some (.int .i64 (v 1).im)) (h4 : w.cell? ⟨O, 4, none⟩ = some (.int .i64 (v 2).re)) (h5 : w.cell? ⟨O, 5, none⟩ = some (.int .i64 (v 2).im)) (h6 : w.cell? ⟨O, 6, none⟩ = some (.int .i64 (v 3).re)) (h7 : w.cell? ⟨O, 7, none⟩ = some (.int .i64 (v 3).im)) (hf : ∀ j, w.frozen? ⟨O, j, none⟩ = false) : GxAt O v w := by
  refine ⟨fun j hj => ?_, hf, World.block_lt_of_cell? _ _ h0⟩
  have h : j = 0 ∨ j = 1 ∨ j = 2 ∨ j = 3 := by omega
  rcases h with rfl | rfl | rfl | rfl
  · exact ⟨h0, h1⟩
  · exact ⟨h2, h3⟩
  · exact ⟨h4, h5⟩
  · exact ⟨h6, h7⟩
set_option maxRecDepth 100000 in
set_option maxHeartbeats 8000000 in
theorem RLines_any (A : Option Addr) (x : List Gs) (ca : Nat) (w : World) (hx : x.length ≤ 64) (hok : ∀ y ∈ x, Sz 10000 y) (hA : GsAt w A x) :
    Calls Tryd.prog 60 #[.slice A x.length ca] w fun e w' => e = .returned (gv4 (linP x)) ∧ Below w.heap.size w w' := by
  have hgd := gd_any (by decide) hok
  have hlz := fun (n : Int) k => lnK_sz (by decide) hgd (-1) n k
  have HLZ := Lib.hid hlz
  have HOK := Lib.hid hgd
  have hxl : (x.length : Int) ≤ 64 := by omega
  have hend : ∀ j, j < 4 → valN x (-1) 4 0 j = linP x j := fun j hj => valN_end x (-1) j hj
  have HEND := Lib.hid hend
  clear hok hlz hgd hend
  go_enter Tryd.func60, Tryd.ntmps60
  go_upto_region 2 with (fail)
  have hb0 : Below w.heap.size w ((w.alloc (.cells #[.int .i64 0, .int .i64 0, .int .i64 0, .int .i64 0, .int .i64 0, .int .i64 0, .int .i64 0, .int .i64 0] 73)).alloc (.cells #[.int .i64 0, .int .i64 0, .int .i64 0, .int .i64 0, .int .i64 0, .int .i64 0, .int .i64 0, .int .i64 0] 73)) := below_alloc _ (Nat.le_refl _) (below_alloc _ (Nat.le_refl _) (Below.refl _ _))
  have r0 : ((w.alloc (.cells #[.int .i64 0, .int .i64 0, .int .i64 0, .int .i64 0, .int .i64 0, .int .i64 0, .int .i64 0, .int .i64 0] 73)).alloc (.cells #[.int .i64 0, .int .i64 0, .int .i64 0, .int .i64 0, .int .i64 0, .int .i64 0, .int .i64 0, .int .i64 0] 73)).cell? ⟨w.heap.size, 0, none⟩ = some (.int .i64 0) := cell_alloc _ (cell_new (by simp) rfl)
  have rf0 : ((w.alloc (.cells #[.int .i64 0, .int .i64 0, .int .i64 0, .int .i64 0, .int .i64 0, .int .i64 0, .int .i64 0, .int .i64 0] 73)).alloc (.cells #[.int .i64 0, .int .i64 0, .int .i64 0, .int .i64 0, .int .i64 0, .int .i64 0, .int .i64 0, .int .i64 0] 73)).frozen? ⟨w.heap.size, 0, none⟩ = false := frozen_alloc _ (by first | (simp; done) | (simp; omega)) (frozen_new (by simp))
  have r1 : ((w.alloc (.cells #[.int .i64 0, .int .i64 0, .int .i64 0, .int .i64 0, .int .i64 0, .int .i64 0, .int .i64 0, .int .i64 0] 73)).alloc (.cells #[.int .i64 0, .int .i64 0, .int .i64 0, .int .i64 0, .int .i64 0, .int .i64 0, .int .i64 0, .int .i64 0] 73)).cell? ⟨w.heap.size, 1, none⟩ = some (.int .i64 0) := cell_alloc _ (cell_new (by simp) rfl)
  have rf1 : ((w.alloc (.cells #[.int .i64 0, .int .i64 0, .int .i64 0, .int .i64 0, .int .i64 0, .int .i64 0, .int .i64 0, .int .i64 0] 73)).alloc (.cells #[.int .i64 0, .int .i64 0, .int .i64 0, .int .i64 0, .int .i64 0, .int .i64 0, .int .i64 0, .int .i64 0] 73)).frozen? ⟨w.heap.size, 1, none⟩ = false := frozen_alloc _ (by first | (simp; done) | (simp; omega)) (frozen_new (by simp))
  have r2 : ((w.alloc (.cells #[.int .i64 0, .int .i64 0, .int .i64 0, .int .i64 0, .int .i64 0, .int .i64 0, .int .i64 0, .int .i64 0] 73)).alloc (.cells #[.int .i64 0, .int .i64 0, .int .i64 0, .int .i64 0, .int .i64 0, .int .i64 0, .int .i64 0, .int .i64 0] 73)).cell? ⟨w.heap.size, 2, none⟩ = some (.int .i64 0) := cell_alloc _ (cell_new (by simp) rfl)
  have rf2 : ((w.alloc (.cells #[.int .i64 0, .int .i64 0, .int .i64 0, .int .i64 0, .int .i64 0, .int .i64 0, .int .i64 0, .int .i64 0] 73)).alloc (.cells #[.int .i64 0, .int .i64 0, .int .i64 0, .int .i64 0, .int .i64 0, .int .i64 0, .int .i64 0, .int .i64 0] 73)).frozen? ⟨w.heap.size, 2, none⟩ = false := frozen_alloc _ (by first | (simp; done) | (simp; omega)) (frozen_new (by simp))
  have r3 : ((w.alloc (.cells #[.int .i64 0, .int .i64 0, .int .i64 0, .int .i64 0, .int .i64 0, .int .i64 0, .int .i64 0, .int .i64 0] 73)).alloc (.cells #[.int .i64 0, .int .i64 0, .int .i64 0, .int .i64 0, .int .i64 0, .int .i64 0, .int .i64 0, .int .i64 0] 73)).cell? ⟨w.heap.size, 3, none⟩ = some (.int .i64 0) := cell_alloc _ (cell_new (by simp) rfl)
  have rf3 : ((w.alloc (.cells #[.int .i64 0, .int .i64 0, .int .i64 0, .int .i64 0, .int .i64 0, .int .i64 0, .int .i64 0, .int .i64 0] 73)).alloc (.cells #[.int .i64 0, .int .i64 0, .int .i64 0, .int .i64 0, .int .i64 0, .int .i64 0, .int .i64 0, .int .i64 0] 73)).frozen? ⟨w.heap.size, 3, none⟩ = false := frozen_alloc _ (by first | (simp; done) | (simp; omega)) (frozen_new (by simp))
  have r4 : ((w.alloc (.cells #[.int .i64 0, .int .i64 0, .int .i64 0, .int .i64 0, .int .i64 0, .int .i64 0, .int .i64 0, .int .i64 0] 73)).alloc (.cells #[.int .i64 0, .int .i64 0, .int .i64 0, .int .i64 0, .int .i64 0, .int .i64 0, .int .i64 0, .int .i64 0] 73)).cell? ⟨w.heap.size, 4, none⟩ = some (.int .i64 0) := cell_alloc _ (cell_new (by simp) rfl)
  have rf4 : ((w.alloc (.cells #[.int .i64 0, .int .i64 0, .int .i64 0, .int .i64 0, .int .i64 0, .int .i64 0, .int .i64 0, .int .i64 0] 73)).alloc (.cells #[.int .i64 0, .int .i64 0, .int .i64 0, .int .i64 0, .int .i64 0, .int .i64 0, .int .i64 0, .int .i64 0] 73)).frozen? ⟨w.heap.size, 4, none⟩ = false := frozen_alloc _ (by first | (simp; done) | (simp; omega)) (frozen_new (by simp))
  have r5 : ((w.alloc (.cells #[.int .i64 0, .int .i64 0, .int .i64 0, .int .i64 0, .int .i64 0, .int .i64 0, .int .i64 0, .int .i64 0] 73)).alloc (.cells #[.int .i64 0, .int .i64 0, .int .i64 0, .int .i64 0, .int .i64 0, .int .i64 0, .int .i64 0, .int .i64 0] 73)).cell? ⟨w.heap.size, 5, none⟩ = some (.int .i64 0) := cell_alloc _ (cell_new (by simp) rfl)
  have rf5 : ((w.alloc (.cells #[.int .i64 0, .int .i64 0, .int .i64 0, .int .i64 0, .int .i64 0, .int .i64 0, .int .i64 0, .int .i64 0] 73)).alloc (.cells #[.int .i64 0, .int .i64 0, .int .i64 0, .int .i64 0, .int .i64 0, .int .i64 0, .int .i64 0, .int .i64 0] 73)).frozen? ⟨w.heap.size, 5, none⟩ = false := frozen_alloc _ (by first | (simp; done) | (simp; omega)) (frozen_new (by simp))
  have r6 : ((w.alloc (.cells #[.int .i64 0, .int .i64 0, .int .i64 0, .int .i64 0, .int .i64 0, .int .i64 0, .int .i64 0, .int .i64 0] 73)).alloc (.cells #[.int .i64 0, .int .i64 0, .int .i64 0, .int .i64 0, .int .i64 0, .int .i64 0, .int .i64 0, .int .i64 0] 73)).cell? ⟨w.heap.size, 6, none⟩ = some (.int .i64 0) := cell_alloc _ (cell_new (by simp) rfl)
  have rf6 : ((w.alloc (.cells #[.int .i64 0, .int .i64 0, .int .i64 0, .int .i64 0, .int .i64 0, .int .i64 0, .int .i64 0, .int .i64 0] 73)).alloc (.cells #[.int .i64 0, .int .i64 0, .int .i64 0, .int .i64 0, .int .i64 0, .int .i64 0, .int .i64 0, .int .i64 0] 73)).frozen? ⟨w.heap.size, 6, none⟩ = false := frozen_alloc _ (by first | (simp; done) | (simp; omega)) (frozen_new (by simp))
  have r7 : ((w.alloc (.cells #[.int .i64 0, .int .i64 0, .int .i64 0, .int .i64 0, .int .i64 0, .int .i64 0, .int .i64 0, .int .i64 0] 73)).alloc (.cells #[.int .i64 0, .int .i64 0, .int .i64 0, .int .i64 0, .int .i64 0, .int .i64 0, .int .i64 0, .int .i64 0] 73)).cell? ⟨w.heap.size, 7, none⟩ = some (.int .i64 0) := cell_alloc _ (cell_new (by simp) rfl)
  have rf7 : ((w.alloc (.cells #[.int .i64 0, .int .i64 0, .int .i64 0, .int .i64 0, .int .i64 0, .int .i64 0, .int .i64 0, .int .i64 0] 73)).alloc (.cells #[.int .i64 0, .int .i64 0, .int .i64 0, .int .i64 0, .int .i64 0, .int .i64 0, .int .i64 0, .int .i64 0] 73)).frozen? ⟨w.heap.size, 7, none⟩ = false := frozen_alloc _ (by first | (simp; done) | (simp; omega)) (frozen_new (by simp))
  have zr : w.heap.size < ((w.alloc (.cells #[.int .i64 0, .int .i64 0, .int .i64 0, .int .i64 0, .int .i64 0, .int .i64 0, .int .i64 0, .int .i64 0] 73)).alloc (.cells #[.int .i64 0, .int .i64 0, .int .i64 0, .int .i64 0, .int .i64 0, .int .i64 0, .int .i64 0, .int .i64 0] 73)).heap.size := World.block_lt_of_cell? _ _ r0
  have o0 : ((w.alloc (.cells #[.int .i64 0, .int .i64 0, .int .i64 0, .int .i64 0, .int .i64 0, .int .i64 0, .int .i64 0, .int .i64 0] 73)).alloc (.cells #[.int .i64 0, .int .i64 0, .int .i64 0, .int .i64 0, .int .i64 0, .int .i64 0, .int .i64 0, .int .i64 0] 73)).cell? ⟨w.heap.size + 1, 0, none⟩ = some (.int .i64 0) := cell_new (by simp) rfl
  have of0 : ((w.alloc (.cells #[.int .i64 0, .int .i64 0, .int .i64 0, .int .i64 0, .int .i64 0, .int .i64 0, .int .i64 0, .int .i64 0] 73)).alloc (.cells #[.int .i64 0, .int .i64 0, .int .i64 0, .int .i64 0, .int .i64 0, .int .i64 0, .int .i64 0, .int .i64 0] 73)).frozen? ⟨w.heap.size + 1, 0, none⟩ = false := frozen_new (by simp)
  have o1 : ((w.alloc (.cells #[.int .i64 0, .int .i64 0, .int .i64 0, .int .i64 0, .int .i64 0, .int .i64 0, .int .i64 0, .int .i64 0] 73)).alloc (.cells #[.int .i64 0, .int .i64 0, .int .i64 0, .int .i64 0, .int .i64 0, .int .i64 0, .int .i64 0, .int .i64 0] 73)).cell? ⟨w.heap.size + 1, 1, none⟩ = some (.int .i64 0) := cell_new (by simp) rfl
  have of1 : ((w.alloc (.cells #[.int .i64 0, .int .i64 0, .int .i64 0, .int .i64 0, .int .i64 0, .int .i64 0, .int .i64 0, .int .i64 0] 73)).alloc (.cells #[.int .i64 0, .int .i64 0, .int .i64 0, .int .i64 0, .int .i64 0, .int .i64 0, .int .i64 0, .int .i64 0] 73)).frozen? ⟨w.heap.size + 1, 1, none⟩ = false := frozen_new (by simp)
  have o2 : ((w.alloc (.cells #[.int .i64 0, .int .i64 0, .int .i64 0, .int .i64 0, .int .i64 0, .int .i64 0, .int .i64 0, .int .i64 0] 73)).alloc (.cells #[.int .i64 0, .int .i64 0, .int .i64 0, .int .i64 0, .int .i64 0, .int .i64 0, .int .i64 0, .int .i64 0] 73)).cell? ⟨w.heap.size + 1, 2, none⟩ = some (.int .i64 0) := cell_new (by simp) rfl
  have of2 : ((w.alloc (.cells #[.int .i64 0, .int .i64 0, .int .i64 0, .int .i64 0, .int .i64 0, .int .i64 0, .int .i64 0, .int .i64 0] 73)).alloc (.cells #[.int .i64 0, .int .i64 0, .int .i64 0, .int .i64 0, .int .i64 0, .int .i64 0, .int .i64 0, .int .i64 0] 73)).frozen? ⟨w.heap.size + 1, 2, none⟩ = false := frozen_new (by simp)
  have o3 : ((w.alloc (.cells #[.int .i64 0, .int .i64 0, .int .i64 0, .int .i64 0, .int .i64 0, .int .i64 0, .int .i64 0, .int .i64 0] 73)).alloc (.cells #[.int .i64 0, .int .i64 0, .int .i64 0, .int .i64 0, .int .i64 0, .int .i64 0, .int .i64 0, .int .i64 0] 73)).cell? ⟨w.heap.size + 1, 3, none⟩ = some (.int .i64 0) := cell_new (by simp) rfl
  have of3 : ((w.alloc (.cells #[.int .i64 0, .int .i64 0, .int .i64 0, .int .i64 0, .int .i64 0, .int .i64 0, .int .i64 0, .int .i64 0] 73)).alloc (.cells #[.int .i64 0, .int .i64 0, .int .i64 0, .int .i64 0, .int .i64 0, .int .i64 0, .int .i64 0, .int .i64 0] 73)).frozen? ⟨w.heap.size + 1, 3, none⟩ = false := frozen_new (by simp)
  have o4 : ((w.alloc (.cells #[.int .i64 0, .int .i64 0, .int .i64 0, .int .i64 0, .int .i64 0, .int .i64 0, .int .i64 0, .int .i64 0] 73)).alloc (.cells #[.int .i64 0, .int .i64 0, .int .i64 0, .int .i64 0, .int .i64 0, .int .i64 0, .int .i64 0, .int .i64 0] 73)).cell? ⟨w.heap.size + 1, 4, none⟩ = some (.int .i64 0) := cell_new (by simp) rfl
  have of4 : ((w.alloc (.cells #[.int .i64 0, .int .i64 0, .int .i64 0, .int .i64 0, .int .i64 0, .int .i64 0, .int .i64 0, .int .i64 0] 73)).alloc (.cells #[.int .i64 0, .int .i64 0, .int .i64 0, .int .i64 0, .int .i64 0, .int .i64 0, .int .i64 0, .int .i64 0] 73)).frozen? ⟨w.heap.size + 1, 4, none⟩ = false := frozen_new (by simp)
  have o5 : ((w.alloc (.cells #[.int .i64 0, .int .i64 0, .int .i64 0, .int .i64 0, .int .i64 0, .int .i64 0, .int .i64 0, .int .i64 0] 73)).alloc (.cells #[.int .i64 0, .int .i64 0, .int .i64 0, .int .i64 0, .int .i64 0, .int .i64 0, .int .i64 0, .int .i64 0] 73)).cell? ⟨w.heap.size + 1, 5, none⟩ = some (.int .i64 0) := cell_new (by simp) rfl
  have of5 : ((w.alloc (.cells #[.int .i64 0, .int .i64 0, .int .i64 0, .int .i64 0, .int .i64 0, .int .i64 0, .int .i64 0, .int .i64 0] 73)).alloc (.cells #[.int .i64 0, .int .i64 0, .int .i64 0, .int .i64 0, .int .i64 0, .int .i64 0, .int .i64 0, .int .i64 0] 73)).frozen? ⟨w.heap.size + 1, 5, none⟩ = false := frozen_new (by simp)
  have o6 : ((w.alloc (.cells #[.int .i64 0, .int .i64 0, .int .i64 0, .int .i64 0, .int .i64 0, .int .i64 0, .int .i64 0, .int .i64 0] 73)).alloc (.cells #[.int .i64 0, .int .i64 0, .int .i64 0, .int .i64 0, .int .i64 0, .int .i64 0, .int .i64 0, .int .i64 0] 73)).cell? ⟨w.heap.size + 1, 6, none⟩ = some (.int .i64 0) := cell_new (by simp) rfl
  have of6 : ((w.alloc (.cells #[.int .i64 0, .int .i64 0, .int .i64 0, .int .i64 0, .int .i64 0, .int .i64 0, .int .i64 0, .int .i64 0] 73)).alloc (.cells #[.int .i64 0, .int .i64 0, .int .i64 0, .int .i64 0, .int .i64 0, .int .i64 0, .int .i64 0, .int .i64 0] 73)).frozen? ⟨w.heap.size + 1, 6, none⟩ = false := frozen_new (by simp)
  have o7 : ((w.alloc (.cells #[.int .i64 0, .int .i64 0, .int .i64 0, .int .i64 0, .int .i64 0, .int .i64 0, .int .i64 0, .int .i64 0] 73)).alloc (.cells #[.int .i64 0, .int .i64 0, .int .i64 0, .int .i64 0, .int .i64 0, .int .i64 0, .int .i64 0, .int .i64 0] 73)).cell? ⟨w.heap.size + 1, 7, none⟩ = some (.int .i64 0) := cell_new (by simp) rfl
  have of7 : ((w.alloc (.cells #[.int .i64 0, .int .i64 0, .int .i64 0, .int .i64 0, .int .i64 0, .int .i64 0, .int .i64 0, .int .i64 0] 73)).alloc (.cells #[.int .i64 0, .int .i64 0, .int .i64 0, .int .i64 0, .int .i64 0, .int .i64 0, .int .i64 0, .int .i64 0] 73)).frozen? ⟨w.heap.size + 1, 7, none⟩ = false := frozen_new (by simp)
  have ok : ((w.alloc (.cells #[.int .i64 0, .int .i64 0, .int .i64 0, .int .i64 0, .int .i64 0, .int .i64 0, .int .i64 0, .int .i64 0] 73)).alloc (.cells #[.int .i64 0, .int .i64 0, .int .i64 0, .int .i64 0, .int .i64 0, .int .i64 0, .int .i64 0, .int .i64 0] 73)).heap[w.heap.size + 1]? = some (.cells #[.int .i64 0, .int .i64 0, .int .i64 0, .int .i64 0, .int .i64 0, .int .i64 0, .int .i64 0, .int .i64 0] 73) := blk_new (by simp)
  have zo : w.heap.size + 1 < ((w.alloc (.cells #[.int .i64 0, .int .i64 0, .int .i64 0, .int .i64 0, .int .i64 0, .int .i64 0, .int .i64 0, .int .i64 0] 73)).alloc (.cells #[.int .i64 0, .int .i64 0, .int .i64 0, .int .i64 0, .int .i64 0, .int .i64 0, .int .i64 0, .int .i64 0] 73)).heap.size := World.block_lt_of_cell? _ _ o0
  generalize ((w.alloc (.cells #[.int .i64 0, .int .i64 0, .int .i64 0, .int .i64 0, .int .i64 0, .int .i64 0, .int .i64 0, .int .i64 0] 73)).alloc (.cells #[.int .i64 0, .int .i64 0, .int .i64 0, .int .i64 0, .int .i64 0, .int .i64 0, .int .i64 0, .int .i64 0] 73)) = w0 at *
  have hgx : GxAt (w.heap.size + 1) (valN x (-1) 0 0) w0 := by
    rw [valN_zero]
    exact gx_of o0 o1 o2 o3 o4 o5 o6 o7 (fun j => blk_frozen ok)
  have HGX := Lib.hid hgx
  clear hgx ok o0 o1 o2 o3 o4 o5 o6 o7 of0 of1 of2 of3 of4 of5 of6 of7
  go_wp2_with (fail)
  go_loopw [4] (fun i wr => ∃ m : Int, 0 ≤ m ∧ m ≤ 4 ∧ i = .int .i64 m ∧ GxAt (w.heap.size + 1) (valN x (-1) m.toNat 0) wr ∧ Below (w.heap.size + 1) w0 wr) (fun i _ => 4 - (intOf i).toNat)
  case atStart => exact ⟨0, by decide, by decide, rfl, HGX.out, Below.refl _ _⟩
  case round =>
    obtain ⟨m, hm0, hm4, rfl, hgx, hbr⟩ := hrel
    obtain ⟨wo, rfl⟩ : ∃ wo : World, wo = wr := ⟨_, rfl⟩
    have HG := Lib.hid hgx
    have zo' := hgx.z
    clear hgx HGX
    by_cases hlt : m < 4
    · have h4 : m = 0 ∨ m = 1 ∨ m = 2 ∨ m = 3 := by omega
      rcases h4 with rfl | rfl | rfl | rfl
      · go_wp2_with (fail)
        go_loopw [5] (fun i wr => ∃ k : Nat, k ≤ x.length ∧ i = .int .i64 k ∧ GxAt (w.heap.size + 1) (valN x (-1) 0 k) wr ∧ Below (w.heap.size + 1) w0 wr) (fun i _ => x.length - (intOf i).toNat)
        case atStart => exact ⟨0, Nat.zero_le _, rfl, HG.out, hbr⟩
        case round =>
          obtain ⟨k, hk, rfl, hgx, hbk⟩ := hrel
          obtain ⟨v, rfl⟩ : ∃ v : World, v = wr := ⟨_, rfl⟩
          have hbw : Below w.heap.size w v := hb0.trans (hbk.mono (by omega))
          have HGK := Lib.hid hgx
          have zk := hgx.z
          clear hgx HG
          by_cases hltk : k < x.length
          · obtain ⟨b1, o1, rfl, hb1, c0, c1⟩ := GsAt.at_ (RowsAt.below hA hbw) hltk
            have hgd := gd_eq hltk
            have hsz := HOK.out k
            rw [hgd] at hsz
            have hl1 := HLZ.out 0 k
            obtain ⟨d0, d1⟩ := HGK.out.c 0 (by decide)
            rw [valN_at] at d0 d1
            have f0 := HGK.out.f (0 * 2)
            have f1 := HGK.out.f (0 * 2 + 1)
            simp only [Nat.reduceMul, Nat.reduceAdd] at d0 d1 f0 f1
            have hla : lnK x (-1) (0 : Nat) (k + 1) = gadd (lnK x (-1) (0 : Nat) k) (rot (-1 * ((0 : Nat) : Int) * k) (gd x k)) := rfl
            rw [hgd] at hla
            generalize x[k] = g at *
            have hk1 : (k : Int) < (x.length : Int) := by omega
            obtain ⟨q, hq⟩ : ∃ q : Nat, ((0 : Int)) % 4 = (q : Int) := ⟨(((0 : Int)) % 4).toNat, by omega⟩
            have hq4 : q < 4 := by omega
            have hrt : rot (-1 * ((0 : Nat) : Int) * k) g = rotN q g := by
              unfold rot
              rw [show ((-1 * ((0 : Nat) : Int) * k) % 4).toNat = q by omega]
            rw [hrt] at hla
            have HM := Lib.hid (fun W => by
              have q0 := Mod_any ((0 : Int)) 4 W (by decide) (by decide)
              rw [hq] at q0
              exact q0)
            have HT := Lib.hid (fun W => RTimes_any g q W hq4 (hsz.mono (by decide)))
            have hk64 : (k : Int) ≤ 64 := by omega
            have HA := Lib.hid (fun W => GAdd_any (lnK x (-1) (0 : Nat) k) (rotN q g) W ((show Sz 640000 _ from ((lnK_sz (M := 10000) (by decide) HOK.out (-1) ((0 : Nat) : Int) k)).mono (by omega)).mono (by decide)) ((hsz.rotN q).mono (by decide)))
            have HLA := Lib.hid hla
            generalize hp : lnK x (-1) ((0 : Nat) : Int) k = p at *
            generalize rotN q g = t at *
            generalize hs : gadd p t = s at *
            have HS := Lib.hid hs
            clear hla hrt hgd hl1 hsz hp hs
            obtain ⟨g0, g1⟩ := g
            obtain ⟨p0, p1⟩ := p
            obtain ⟨t0, t1⟩ := t
            obtain ⟨s0, s1⟩ := s
            simp only [gv] at *
            go_upto_region 8 with (fail)
            (refine region_extx 15 (by kernel_rfl) (by kernel_rfl) fun hx => ?_; simp only [List.take_succ_cons, List.take_zero, List.drop_succ_cons, List.drop_zero]; (repeat (any_goals (first | go_big_quiet_step ((first | ((go_at_call 53; with_reducible exact ext_same (HM.out _))) | ((go_at_call 47; with_reducible exact ext_call (HT.out _))) | ((go_at_call 46; with_reducible exact ext_call (HA.out _))))) | quiet_step ((first | ((go_at_call 53; with_reducible exact ext_same (HM.out _))) | ((go_at_call 47; with_reducible exact ext_call (HT.out _))) | ((go_at_call 46; with_reducible exact ext_call (HA.out _)))))))))
            (refine wpQuiet_nil ?_; clear hx; intro u; have hbw5 := ext_bel _ u; have hxw5 := ext_cell _ u; generalize ext _ u = w5 at *; clear u; have hsw5 := hbw5.size; (try simp at hsw5))
            replace d0 := cell_below' hbw5 d0
            replace d1 := cell_below' hbw5 d1
            replace f0 := frozen_below hbw5 zk f0
            replace f1 := frozen_below hbw5 zk f1
            have zk5 : w.heap.size + 1 < w5.heap.size := Nat.lt_of_lt_of_le zk hbw5.size
            have hc5 := HGK.out.below hbw5
            have HC5 := Lib.hid hc5
            have hbk5 : Below (w.heap.size + 1) w0 w5 := hbk.trans (hbw5.mono (by omega))
            have hy : lnK x (-1) ((0 : Nat) : Int) (k + 1) = ⟨s0, s1⟩ := HLA.out
            have HY := Lib.hid hy
            clear hxw5 hsw5 hbw5 hc5 hy
            go_wp2_with (fail)
            refine ⟨⟨k + 1, by omega, by go_num, HC5.out.set (k := 0) (q := valN x (-1) 0 (k + 1)) (by decide) (by rw [valN_at]; exact congrArg Gs.re HY.out) (by rw [valN_at]; exact congrArg Gs.im HY.out) (fun j hj => valN_other x (-1) 0 k (k + 1) j hj), below_set _ (Nat.le_refl _) (below_set _ (Nat.le_refl _) hbk5)⟩, by simp [intOf]; omega⟩
          · obtain rfl : k = x.length := by omega
            have hc := HGK.out
            rw [valN_next] at hc
            have HC9 := Lib.hid hc
            clear hc HGK
            go_wp2_with (fail)
            exact ⟨⟨1, by decide, by decide, rfl, HC9.out, hbk⟩, by decide⟩
      · go_wp2_with (fail)
        go_loopw [5] (fun i wr => ∃ k : Nat, k ≤ x.length ∧ i = .int .i64 k ∧ GxAt (w.heap.size + 1) (valN x (-1) 1 k) wr ∧ Below (w.heap.size + 1) w0 wr) (fun i _ => x.length - (intOf i).toNat)
        case atStart => exact ⟨0, Nat.zero_le _, rfl, HG.out, hbr⟩
        case round =>
          obtain ⟨k, hk, rfl, hgx, hbk⟩ := hrel
          obtain ⟨v, rfl⟩ : ∃ v : World, v = wr := ⟨_, rfl⟩
          have hbw : Below w.heap.size w v := hb0.trans (hbk.mono (by omega))
          have HGK := Lib.hid hgx
          have zk := hgx.z
          clear hgx HG
          by_cases hltk : k < x.length
          · obtain ⟨b1, o1, rfl, hb1, c0, c1⟩ := GsAt.at_ (RowsAt.below hA hbw) hltk
            have hgd := gd_eq hltk
            have hsz := HOK.out k
            rw [hgd] at hsz
            have hl1 := HLZ.out 1 k
            obtain ⟨d0, d1⟩ := HGK.out.c 1 (by decide)
            rw [valN_at] at d0 d1
            have f0 := HGK.out.f (1 * 2)
            have f1 := HGK.out.f (1 * 2 + 1)
            simp only [Nat.reduceMul, Nat.reduceAdd] at d0 d1 f0 f1
            have hla : lnK x (-1) (1 : Nat) (k + 1) = gadd (lnK x (-1) (1 : Nat) k) (rot (-1 * ((1 : Nat) : Int) * k) (gd x k)) := rfl
            rw [hgd] at hla
            generalize x[k] = g at *
            have hk1 : (k : Int) < (x.length : Int) := by omega
            obtain ⟨q, hq⟩ : ∃ q : Nat, (-(k : Int)) % 4 = (q : Int) := ⟨((-(k : Int)) % 4).toNat, by omega⟩
            have hq4 : q < 4 := by omega
            have hrt : rot (-1 * ((1 : Nat) : Int) * k) g = rotN q g := by
              unfold rot
              rw [show ((-1 * ((1 : Nat) : Int) * k) % 4).toNat = q by omega]
            rw [hrt] at hla
            have HM := Lib.hid (fun W => by
              have q0 := Mod_any (-(k : Int)) 4 W (by decide) (by decide)
              rw [hq] at q0
              exact q0)
            have HT := Lib.hid (fun W => RTimes_any g q W hq4 (hsz.mono (by decide)))
            have hk64 : (k : Int) ≤ 64 := by omega
            have HA := Lib.hid (fun W => GAdd_any (lnK x (-1) (1 : Nat) k) (rotN q g) W ((show Sz 640000 _ from ((lnK_sz (M := 10000) (by decide) HOK.out (-1) ((1 : Nat) : Int) k)).mono (by omega)).mono (by decide)) ((hsz.rotN q).mono (by decide)))
            have HLA := Lib.hid hla
            generalize hp : lnK x (-1) ((1 : Nat) : Int) k = p at *
            generalize rotN q g = t at *
            generalize hs : gadd p t = s at *
            have HS := Lib.hid hs
            clear hla hrt hgd hl1 hsz hp hs
            obtain ⟨g0, g1⟩ := g
            obtain ⟨p0, p1⟩ := p
            obtain ⟨t0, t1⟩ := t
            obtain ⟨s0, s1⟩ := s
            simp only [gv] at *
            go_upto_region 8 with (fail)
            (refine region_extx 15 (by kernel_rfl) (by kernel_rfl) fun hx => ?_; simp only [List.take_succ_cons, List.take_zero, List.drop_succ_cons, List.drop_zero]; (repeat (any_goals (first | go_big_quiet_step ((first | ((go_at_call 53; with_reducible exact ext_same (HM.out _))) | ((go_at_call 47; with_reducible exact ext_call (HT.out _))) | ((go_at_call 46; with_reducible exact ext_call (HA.out _))))) | quiet_step ((first | ((go_at_call 53; with_reducible exact ext_same (HM.out _))) | ((go_at_call 47; with_reducible exact ext_call (HT.out _))) | ((go_at_call 46; with_reducible exact ext_call (HA.out _)))))))))
            (refine wpQuiet_nil ?_; clear hx; intro u; have hbw5 := ext_bel _ u; have hxw5 := ext_cell _ u; generalize ext _ u = w5 at *; clear u; have hsw5 := hbw5.size; (try simp at hsw5))
            replace d0 := cell_below' hbw5 d0
            replace d1 := cell_below' hbw5 d1
            replace f0 := frozen_below hbw5 zk f0
            replace f1 := frozen_below hbw5 zk f1
            have zk5 : w.heap.size + 1 < w5.heap.size := Nat.lt_of_lt_of_le zk hbw5.size
            have hc5 := HGK.out.below hbw5
            have HC5 := Lib.hid hc5
            have hbk5 : Below (w.heap.size + 1) w0 w5 := hbk.trans (hbw5.mono (by omega))
            have hy : lnK x (-1) ((1 : Nat) : Int) (k + 1) = ⟨s0, s1⟩ := HLA.out
            have HY := Lib.hid hy
            clear hxw5 hsw5 hbw5 hc5 hy
            go_wp2_with (fail)
            refine ⟨⟨k + 1, by omega, by go_num, HC5.out.set (k := 1) (q := valN x (-1) 1 (k + 1)) (by decide) (by rw [valN_at]; exact congrArg Gs.re HY.out) (by rw [valN_at]; exact congrArg Gs.im HY.out) (fun j hj => valN_other x (-1) 1 k (k + 1) j hj), below_set _ (Nat.le_refl _) (below_set _ (Nat.le_refl _) hbk5)⟩, by simp [intOf]; omega⟩
          · obtain rfl : k = x.length := by omega
            have hc := HGK.out
            rw [valN_next] at hc
            have HC9 := Lib.hid hc
            clear hc HGK
            go_wp2_with (fail)
            exact ⟨⟨2, by decide, by decide, rfl, HC9.out, hbk⟩, by decide⟩
      · go_wp2_with (fail)
        go_loopw [5] (fun i wr => ∃ k : Nat, k ≤ x.length ∧ i = .int .i64 k ∧ GxAt (w.heap.size + 1) (valN x (-1) 2 k) wr ∧ Below (w.heap.size + 1) w0 wr) (fun i _ => x.length - (intOf i).toNat)
        case atStart => exact ⟨0, Nat.zero_le _, rfl, HG.out, hbr⟩
        case round =>
          obtain ⟨k, hk, rfl, hgx, hbk⟩ := hrel
          obtain ⟨v, rfl⟩ : ∃ v : World, v = wr := ⟨_, rfl⟩
          have hbw : Below w.heap.size w v := hb0.trans (hbk.mono (by omega))
          have HGK := Lib.hid hgx
          have zk := hgx.z
          clear hgx HG
          by_cases hltk : k < x.length
          · obtain ⟨b1, o1, rfl, hb1, c0, c1⟩ := GsAt.at_ (RowsAt.below hA hbw) hltk
            have hgd := gd_eq hltk
            have hsz := HOK.out k
            rw [hgd] at hsz
            have hl1 := HLZ.out 2 k
            obtain ⟨d0, d1⟩ := HGK.out.c 2 (by decide)
            rw [valN_at] at d0 d1
            have f0 := HGK.out.f (2 * 2)
            have f1 := HGK.out.f (2 * 2 + 1)
            simp only [Nat.reduceMul, Nat.reduceAdd] at d0 d1 f0 f1
            have hla : lnK x (-1) (2 : Nat) (k + 1) = gadd (lnK x (-1) (2 : Nat) k) (rot (-1 * ((2 : Nat) : Int) * k) (gd x k)) := rfl
            rw [hgd] at hla
            generalize x[k] = g at *
            have hk1 : (k : Int) < (x.length : Int) := by omega
            obtain ⟨q, hq⟩ : ∃ q : Nat, (-2 * (k : Int)) % 4 = (q : Int) := ⟨((-2 * (k : Int)) % 4).toNat, by omega⟩
            have hq4 : q < 4 := by omega
            have hrt : rot (-1 * ((2 : Nat) : Int) * k) g = rotN q g := by
              unfold rot
              rw [show ((-1 * ((2 : Nat) : Int) * k) % 4).toNat = q by omega]
            rw [hrt] at hla
            have HM := Lib.hid (fun W => by
              have q0 := Mod_any (-2 * (k : Int)) 4 W (by decide) (by decide)
              rw [hq] at q0
              exact q0)
            have HT := Lib.hid (fun W => RTimes_any g q W hq4 (hsz.mono (by decide)))
            have hk64 : (k : Int) ≤ 64 := by omega
            have HA := Lib.hid (fun W => GAdd_any (lnK x (-1) (2 : Nat) k) (rotN q g) W ((show Sz 640000 _ from ((lnK_sz (M := 10000) (by decide) HOK.out (-1) ((2 : Nat) : Int) k)).mono (by omega)).mono (by decide)) ((hsz.rotN q).mono (by decide)))
            have HLA := Lib.hid hla
            generalize hp : lnK x (-1) ((2 : Nat) : Int) k = p at *
            generalize rotN q g = t at *
            generalize hs : gadd p t = s at *
            have HS := Lib.hid hs
            clear hla hrt hgd hl1 hsz hp hs
            obtain ⟨g0, g1⟩ := g
            obtain ⟨p0, p1⟩ := p
            obtain ⟨t0, t1⟩ := t
            obtain ⟨s0, s1⟩ := s
            simp only [gv] at *
            go_upto_region 8 with (fail)
            (refine region_extx 15 (by kernel_rfl) (by kernel_rfl) fun hx => ?_; simp only [List.take_succ_cons, List.take_zero, List.drop_succ_cons, List.drop_zero]; (repeat (any_goals (first | go_big_quiet_step ((first | ((go_at_call 53; with_reducible exact ext_same (HM.out _))) | ((go_at_call 47; with_reducible exact ext_call (HT.out _))) | ((go_at_call 46; with_reducible exact ext_call (HA.out _))))) | quiet_step ((first | ((go_at_call 53; with_reducible exact ext_same (HM.out _))) | ((go_at_call 47; with_reducible exact ext_call (HT.out _))) | ((go_at_call 46; with_reducible exact ext_call (HA.out _)))))))))
            (refine wpQuiet_nil ?_; clear hx; intro u; have hbw5 := ext_bel _ u; have hxw5 := ext_cell _ u; generalize ext _ u = w5 at *; clear u; have hsw5 := hbw5.size; (try simp at hsw5))
            replace d0 := cell_below' hbw5 d0
            replace d1 := cell_below' hbw5 d1
            replace f0 := frozen_below hbw5 zk f0
            replace f1 := frozen_below hbw5 zk f1
            have zk5 : w.heap.size + 1 < w5.heap.size := Nat.lt_of_lt_of_le zk hbw5.size
            have hc5 := HGK.out.below hbw5
            have HC5 := Lib.hid hc5
            have hbk5 : Below (w.heap.size + 1) w0 w5 := hbk.trans (hbw5.mono (by omega))
            have hy : lnK x (-1) ((2 : Nat) : Int) (k + 1) = ⟨s0, s1⟩ := HLA.out
            have HY := Lib.hid hy
            clear hxw5 hsw5 hbw5 hc5 hy
            go_wp2_with (fail)
            refine ⟨⟨k + 1, by omega, by go_num, HC5.out.set (k := 2) (q := valN x (-1) 2 (k + 1)) (by decide) (by rw [valN_at]; exact congrArg Gs.re HY.out) (by rw [valN_at]; exact congrArg Gs.im HY.out) (fun j hj => valN_other x (-1) 2 k (k + 1) j hj), below_set _ (Nat.le_refl _) (below_set _ (Nat.le_refl _) hbk5)⟩, by simp [intOf]; omega⟩
          · obtain rfl : k = x.length := by omega
            have hc := HGK.out
            rw [valN_next] at hc
            have HC9 := Lib.hid hc
            clear hc HGK
            go_wp2_with (fail)
            exact ⟨⟨3, by decide, by decide, rfl, HC9.out, hbk⟩, by decide⟩
      · go_wp2_with (fail)
        go_loopw [5] (fun i wr => ∃ k : Nat, k ≤ x.length ∧ i = .int .i64 k ∧ GxAt (w.heap.size + 1) (valN x (-1) 3 k) wr ∧ Below (w.heap.size + 1) w0 wr) (fun i _ => x.length - (intOf i).toNat)
        case atStart => exact ⟨0, Nat.zero_le _, rfl, HG.out, hbr⟩
        case round =>
          obtain ⟨k, hk, rfl, hgx, hbk⟩ := hrel
          obtain ⟨v, rfl⟩ : ∃ v : World, v = wr := ⟨_, rfl⟩
          have hbw : Below w.heap.size w v := hb0.trans (hbk.mono (by omega))
          have HGK := Lib.hid hgx
          have zk := hgx.z
          clear hgx HG
          by_cases hltk : k < x.length
          · obtain ⟨b1, o1, rfl, hb1, c0, c1⟩ := GsAt.at_ (RowsAt.below hA hbw) hltk
            have hgd := gd_eq hltk
            have hsz := HOK.out k
            rw [hgd] at hsz
            have hl1 := HLZ.out 3 k
            obtain ⟨d0, d1⟩ := HGK.out.c 3 (by decide)
            rw [valN_at] at d0 d1
            have f0 := HGK.out.f (3 * 2)
            have f1 := HGK.out.f (3 * 2 + 1)
            simp only [Nat.reduceMul, Nat.reduceAdd] at d0 d1 f0 f1
            have hla : lnK x (-1) (3 : Nat) (k + 1) = gadd (lnK x (-1) (3 : Nat) k) (rot (-1 * ((3 : Nat) : Int) * k) (gd x k)) := rfl
            rw [hgd] at hla
            generalize x[k] = g at *
            have hk1 : (k : Int) < (x.length : Int) := by omega
            obtain ⟨q, hq⟩ : ∃ q : Nat, (-3 * (k : Int)) % 4 = (q : Int) := ⟨((-3 * (k : Int)) % 4).toNat, by omega⟩
            have hq4 : q < 4 := by omega
            have hrt : rot (-1 * ((3 : Nat) : Int) * k) g = rotN q g := by
              unfold rot
              rw [show ((-1 * ((3 : Nat) : Int) * k) % 4).toNat = q by omega]
            rw [hrt] at hla
            have HM := Lib.hid (fun W => by
              have q0 := Mod_any (-3 * (k : Int)) 4 W (by decide) (by decide)
              rw [hq] at q0
              exact q0)
            have HT := Lib.hid (fun W => RTimes_any g q W hq4 (hsz.mono (by decide)))
            have hk64 : (k : Int) ≤ 64 := by omega
            have HA := Lib.hid (fun W => GAdd_any (lnK x (-1) (3 : Nat) k) (rotN q g) W ((show Sz 640000 _ from ((lnK_sz (M := 10000) (by decide) HOK.out (-1) ((3 : Nat) : Int) k)).mono (by omega)).mono (by decide)) ((hsz.rotN q).mono (by decide)))
            have HLA := Lib.hid hla
            generalize hp : lnK x (-1) ((3 : Nat) : Int) k = p at *
            generalize rotN q g = t at *
            generalize hs : gadd p t = s at *
            have HS := Lib.hid hs
            clear hla hrt hgd hl1 hsz hp hs
            obtain ⟨g0, g1⟩ := g
            obtain ⟨p0, p1⟩ := p
            obtain ⟨t0, t1⟩ := t
            obtain ⟨s0, s1⟩ := s
            simp only [gv] at *
            go_upto_region 8 with (fail)
            (refine region_extx 15 (by kernel_rfl) (by kernel_rfl) fun hx => ?_; simp only [List.take_succ_cons, List.take_zero, List.drop_succ_cons, List.drop_zero]; (repeat (any_goals (first | go_big_quiet_step ((first | ((go_at_call 53; with_reducible exact ext_same (HM.out _))) | ((go_at_call 47; with_reducible exact ext_call (HT.out _))) | ((go_at_call 46; with_reducible exact ext_call (HA.out _))))) | quiet_step ((first | ((go_at_call 53; with_reducible exact ext_same (HM.out _))) | ((go_at_call 47; with_reducible exact ext_call (HT.out _))) | ((go_at_call 46; with_reducible exact ext_call (HA.out _)))))))))
            (refine wpQuiet_nil ?_; clear hx; intro u; have hbw5 := ext_bel _ u; have hxw5 := ext_cell _ u; generalize ext _ u = w5 at *; clear u; have hsw5 := hbw5.size; (try simp at hsw5))
            replace d0 := cell_below' hbw5 d0
            replace d1 := cell_below' hbw5 d1
            replace f0 := frozen_below hbw5 zk f0
            replace f1 := frozen_below hbw5 zk f1
            have zk5 : w.heap.size + 1 < w5.heap.size := Nat.lt_of_lt_of_le zk hbw5.size
            have hc5 := HGK.out.below hbw5
            have HC5 := Lib.hid hc5
            have hbk5 : Below (w.heap.size + 1) w0 w5 := hbk.trans (hbw5.mono (by omega))
            have hy : lnK x (-1) ((3 : Nat) : Int) (k + 1) = ⟨s0, s1⟩ := HLA.out
            have HY := Lib.hid hy
            clear hxw5 hsw5 hbw5 hc5 hy
            go_wp2_with (fail)
            refine ⟨⟨k + 1, by omega, by go_num, HC5.out.set (k := 3) (q := valN x (-1) 3 (k + 1)) (by decide) (by rw [valN_at]; exact congrArg Gs.re HY.out) (by rw [valN_at]; exact congrArg Gs.im HY.out) (fun j hj => valN_other x (-1) 3 k (k + 1) j hj), below_set _ (Nat.le_refl _) (below_set _ (Nat.le_refl _) hbk5)⟩, by simp [intOf]; omega⟩
          · obtain rfl : k = x.length := by omega
            have hc := HGK.out
            rw [valN_next] at hc
            have HC9 := Lib.hid hc
            clear hc HGK
            go_wp2_with (fail)
            exact ⟨⟨4, by decide, by decide, rfl, HC9.out, hbk⟩, by decide⟩
    · obtain rfl : m = 4 := by omega
      have hg := HG.out
      rw [show (4 : Int).toNat = 4 from rfl] at hg
      obtain ⟨c0, c1, c2, c3, c4, c5, c6, c7⟩ := gx8 hg
      rw [HEND.out _ (by decide)] at c0 c1 c2 c3 c4 c5 c6 c7
      have hlw : w.heap.size < w.heap.size + 1 := by omega
      have hbw : Below w.heap.size w wo := hb0.trans (hbr.mono (by omega))
      replace r0 := cell_below hbr r0 hlw
      replace rf0 := frozen_below hbr hlw rf0
      replace r1 := cell_below hbr r1 hlw
      replace rf1 := frozen_below hbr hlw rf1
      replace r2 := cell_below hbr r2 hlw
      replace rf2 := frozen_below hbr hlw rf2
      replace r3 := cell_below hbr r3 hlw
      replace rf3 := frozen_below hbr hlw rf3
      replace r4 := cell_below hbr r4 hlw
      replace rf4 := frozen_below hbr hlw rf4
      replace r5 := cell_below hbr r5 hlw
      replace rf5 := frozen_below hbr hlw rf5
      replace r6 := cell_below hbr r6 hlw
      replace rf6 := frozen_below hbr hlw rf6
      replace r7 := cell_below hbr r7 hlw
      replace rf7 := frozen_below hbr hlw rf7
      replace zr : w.heap.size < wo.heap.size := by omega
      clear HG hg hbr HOK HLZ HEND hlw hb0
      go_wp2_with (fail)
      obtain ⟨q0, q1, q2, q3, q4, q5, q6, q7⟩ := set8 (v0 := .int .i64 (linP x 0).re) (v1 := .int .i64 (linP x 0).im) (v2 := .int .i64 (linP x 1).re) (v3 := .int .i64 (linP x 1).im) (v4 := .int .i64 (linP x 2).re) (v5 := .int .i64 (linP x 2).im) (v6 := .int .i64 (linP x 3).re) (v7 := .int .i64 (linP x 3).im) r0 r1 r2 r3 r4 r5 r6 r7
      refine bodyPost_ret (v := gv4 (linP x)) (by simp [results, Tryd.results60, go_sem, q0, q1, q2, q3, q4, q5, q6, q7]) rfl ?_
      exact ⟨rfl, below_set _ (Nat.le_refl _) (below_set _ (Nat.le_refl _) (below_set _ (Nat.le_refl _) (below_set _ (Nat.le_refl _) (below_set _ (Nat.le_refl _) (below_set _ (Nat.le_refl _) (below_set _ (Nat.le_refl _) (below_set _ (Nat.le_refl _) hbw)))))))⟩
end Go.Proofs.YtppghnbabnhnbaaDoor
