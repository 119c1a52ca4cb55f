/-
  Chapter 2: the reference of the separation (under way).
-/
import Derived.Test.YtppghnbabnhnbaaGreatDoorESpR
namespace Go.Proofs.YtppghnbabnhnbaaGreatDoor
open Go.ChangeShapes Go.WideShapes Go.ChangeAt Go.RowKit
set_option linter.unusedVariables false
set_option linter.unusedSimpArgs false

theorem sepO_ref (mo me x0 x1 : Gs) : gmul (gsub x1 (gmul me x0)) (gconj (gsub mo me)) = sepO mo me x0 x1 := by
  apply Gs.ext2
  · simp only [sepO, gmul, gsub, gconj]; grind
  · simp only [sepO, gmul, gsub, gconj]; grind
theorem sepE_ref (mo me x0 x1 : Gs) : gmul (gsub (gmul mo x0) x1) (gconj (gsub mo me)) = sepE mo me x0 x1 := by
  apply Gs.ext2
  · simp only [sepE, gmul, gsub, gconj]; grind
  · simp only [sepE, gmul, gsub, gconj]; grind
theorem norm_ref (mo me : Gs) : gnorm (gsub mo me) = gnorm (gsub me mo) := by
  simp only [gnorm, gsub]; grind
theorem sepG_ref (mo me x0 x1 : Gs) : sepG mo me x0 x1 = (gcdL (spl4 ⟨sepO mo me x0 x1, sepE mo me x0 x1, gnorm (gsub me mo)⟩) (gnorm (gsub me mo)).natAbs : Nat) := by
  unfold sepG
  rw [gcdL, Nat.gcd_zero_left]
  rfl
/-- a store into two cells of a block: the others -/
theorem put2 {w : World} {b i j : Nat} {u v x : Value} (h1 : i ≠ j) (h2 : i + 1 ≠ j) (h : w.cell? ⟨b, j, none⟩ = some x) : ((w.setCell ⟨b, i, none⟩ u).setCell ⟨b, i + 1, none⟩ v).cell? ⟨b, j, none⟩ = some x :=
  cell_next h2 (cell_next h1 h)
set_option maxRecDepth 100000 in
set_option maxHeartbeats 16000000 in
theorem RSeparated_any (mo me x0 x1 : Gs) (w : World) (hm : OkM mo me) (k0 : Sz 10000 x0) (k1 : Sz 10000 x1) :
    Calls Tryz.prog 101 #[gv2 mo me, gv2 x0 x1] w fun e w' => e = .returned (spv (sepP mo me x0 x1)) ∧ Below w.heap.size w w' := by
  have hq : sepP mo me x0 x1 = ⟨gover (sepO mo me x0 x1) (sepG mo me x0 x1), gover (sepE mo me x0 x1) (sepG mo me x0 x1), gnorm (gsub me mo) / sepG mo me x0 x1⟩ := rfl
  have HQ := Lib.hid hq
  clear hq
  have D := Lib.hid (fun W => GSub_any mo me W (hm.o.mono (by decide)) (hm.e.mono (by decide)))
  have O1 := Lib.hid (fun W => GMul_any me x0 W (hm.e.mono (by decide)) (k0.mono (by decide)))
  have O2 := Lib.hid (fun W => GSub_any x1 (gmul me x0) W (k1.mono (by decide)) ((hm.e.mul k0).mono (by decide)))
  have C := Lib.hid (fun W => GConj_any (gsub mo me) W ((hm.o.sub hm.e).mono (by decide)))
  have O3 := Lib.hid (fun W => GMul_any (gsub x1 (gmul me x0)) (gconj (gsub mo me)) W ((k1.sub (hm.e.mul k0)).mono (by decide)) ((hm.o.sub hm.e).conj.mono (by decide)))
  have E1 := Lib.hid (fun W => GMul_any mo x0 W (hm.o.mono (by decide)) (k0.mono (by decide)))
  have E2 := Lib.hid (fun W => GSub_any (gmul mo x0) x1 W ((hm.o.mul k0).mono (by decide)) (k1.mono (by decide)))
  have E3 := Lib.hid (fun W => GMul_any (gsub (gmul mo x0) x1) (gconj (gsub mo me)) W (((hm.o.mul k0).sub k1).mono (by decide)) ((hm.o.sub hm.e).conj.mono (by decide)))
  have P := Lib.hid (fun W => GNorm_any (gsub mo me) W ((hm.o.sub hm.e).mono (by decide)))
  have hso := sepO_sz hm k0 k1
  have hse := sepE_sz hm k0 k1
  obtain ⟨n0, n1⟩ := sepD_bd hm
  obtain ⟨g0, g1⟩ := @sepG_bd mo me x0 x1 hm
  rw [norm_ref] at P
  rw [sepO_ref] at O3
  rw [sepE_ref] at E3
  have G := Lib.hid (fun W => RDivisor_any ⟨sepO mo me x0 x1, sepE mo me x0 x1, gnorm (gsub me mo)⟩ W (hso.mono (by decide)) (hse.mono (by decide)) (by simp only; omega) (by simp only; omega))
  have hG := sepG_ref mo me x0 x1
  rw [show (Spl.mk (sepO mo me x0 x1) (sepE mo me x0 x1) (gnorm (gsub me mo))).d = gnorm (gsub me mo) from rfl] at G
  rw [← hG] at G
  clear hm k0 k1 hG
  generalize sepG mo me x0 x1 = g at *
  generalize gconj (gsub mo me) = dc at *
  generalize sepO mo me x0 x1 = so at *
  generalize sepE mo me x0 x1 = se at *
  generalize gnorm (gsub me mo) = nd at *
  generalize gsub x1 (gmul me x0) = o2 at *
  generalize gmul me x0 = o1 at *
  generalize gsub (gmul mo x0) x1 = e2 at *
  generalize gmul mo x0 = e1 at *
  generalize gsub mo me = d at *
  have hgn : (g == 0) = false := by rw [beq_eq_false_iff_ne]; omega
  have hgn2 : ¬ g = 0 := by omega
  obtain ⟨mo0, mo1⟩ := mo
  obtain ⟨me0, me1⟩ := me
  obtain ⟨x00, x01⟩ := x0
  obtain ⟨x10, x11⟩ := x1
  obtain ⟨d0, d1⟩ := d
  obtain ⟨so0, so1⟩ := so
  obtain ⟨se0, se1⟩ := se
  obtain ⟨c0, c1⟩ := dc
  obtain ⟨p0, p1⟩ := o1
  obtain ⟨p2, p3⟩ := o2
  obtain ⟨t0, t1⟩ := e1
  obtain ⟨t2, t3⟩ := e2
  simp only [gv, gv2, spv, gover] at *
  go_enter Tryz.func101, Tryz.ntmps101
  go_upto_region 1 with (fail)
  have hb0 : Below w.heap.size w (((w.alloc (.cells #[.int .i64 mo0, .int .i64 mo1, .int .i64 me0, .int .i64 me1] 25)).alloc (.cells #[.int .i64 x00, .int .i64 x01, .int .i64 x10, .int .i64 x11] 43)).alloc (.cells #[.int .i64 0, .int .i64 0, .int .i64 0, .int .i64 0, .int .i64 0] 48)) := below_alloc _ (Nat.le_refl _) (below_alloc _ (Nat.le_refl _) (below_alloc _ (Nat.le_refl _) (Below.refl _ _)))
  have m0 : (((w.alloc (.cells #[.int .i64 mo0, .int .i64 mo1, .int .i64 me0, .int .i64 me1] 25)).alloc (.cells #[.int .i64 x00, .int .i64 x01, .int .i64 x10, .int .i64 x11] 43)).alloc (.cells #[.int .i64 0, .int .i64 0, .int .i64 0, .int .i64 0, .int .i64 0] 48)).cell? ⟨w.heap.size, 0, none⟩ = some (.int .i64 mo0) := cell_alloc _ (cell_alloc _ (cell_new (by simp) rfl))
  have m1 : (((w.alloc (.cells #[.int .i64 mo0, .int .i64 mo1, .int .i64 me0, .int .i64 me1] 25)).alloc (.cells #[.int .i64 x00, .int .i64 x01, .int .i64 x10, .int .i64 x11] 43)).alloc (.cells #[.int .i64 0, .int .i64 0, .int .i64 0, .int .i64 0, .int .i64 0] 48)).cell? ⟨w.heap.size, 1, none⟩ = some (.int .i64 mo1) := cell_alloc _ (cell_alloc _ (cell_new (by simp) rfl))
  have m2 : (((w.alloc (.cells #[.int .i64 mo0, .int .i64 mo1, .int .i64 me0, .int .i64 me1] 25)).alloc (.cells #[.int .i64 x00, .int .i64 x01, .int .i64 x10, .int .i64 x11] 43)).alloc (.cells #[.int .i64 0, .int .i64 0, .int .i64 0, .int .i64 0, .int .i64 0] 48)).cell? ⟨w.heap.size, 2, none⟩ = some (.int .i64 me0) := cell_alloc _ (cell_alloc _ (cell_new (by simp) rfl))
  have m3 : (((w.alloc (.cells #[.int .i64 mo0, .int .i64 mo1, .int .i64 me0, .int .i64 me1] 25)).alloc (.cells #[.int .i64 x00, .int .i64 x01, .int .i64 x10, .int .i64 x11] 43)).alloc (.cells #[.int .i64 0, .int .i64 0, .int .i64 0, .int .i64 0, .int .i64 0] 48)).cell? ⟨w.heap.size, 3, none⟩ = some (.int .i64 me1) := cell_alloc _ (cell_alloc _ (cell_new (by simp) rfl))
  have zm : w.heap.size < (((w.alloc (.cells #[.int .i64 mo0, .int .i64 mo1, .int .i64 me0, .int .i64 me1] 25)).alloc (.cells #[.int .i64 x00, .int .i64 x01, .int .i64 x10, .int .i64 x11] 43)).alloc (.cells #[.int .i64 0, .int .i64 0, .int .i64 0, .int .i64 0, .int .i64 0] 48)).heap.size := World.block_lt_of_cell? _ _ m0
  have x0 : (((w.alloc (.cells #[.int .i64 mo0, .int .i64 mo1, .int .i64 me0, .int .i64 me1] 25)).alloc (.cells #[.int .i64 x00, .int .i64 x01, .int .i64 x10, .int .i64 x11] 43)).alloc (.cells #[.int .i64 0, .int .i64 0, .int .i64 0, .int .i64 0, .int .i64 0] 48)).cell? ⟨w.heap.size + 1, 0, none⟩ = some (.int .i64 x00) := cell_alloc _ (cell_new (by simp) rfl)
  have x1 : (((w.alloc (.cells #[.int .i64 mo0, .int .i64 mo1, .int .i64 me0, .int .i64 me1] 25)).alloc (.cells #[.int .i64 x00, .int .i64 x01, .int .i64 x10, .int .i64 x11] 43)).alloc (.cells #[.int .i64 0, .int .i64 0, .int .i64 0, .int .i64 0, .int .i64 0] 48)).cell? ⟨w.heap.size + 1, 1, none⟩ = some (.int .i64 x01) := cell_alloc _ (cell_new (by simp) rfl)
  have x2 : (((w.alloc (.cells #[.int .i64 mo0, .int .i64 mo1, .int .i64 me0, .int .i64 me1] 25)).alloc (.cells #[.int .i64 x00, .int .i64 x01, .int .i64 x10, .int .i64 x11] 43)).alloc (.cells #[.int .i64 0, .int .i64 0, .int .i64 0, .int .i64 0, .int .i64 0] 48)).cell? ⟨w.heap.size + 1, 2, none⟩ = some (.int .i64 x10) := cell_alloc _ (cell_new (by simp) rfl)
  have x3 : (((w.alloc (.cells #[.int .i64 mo0, .int .i64 mo1, .int .i64 me0, .int .i64 me1] 25)).alloc (.cells #[.int .i64 x00, .int .i64 x01, .int .i64 x10, .int .i64 x11] 43)).alloc (.cells #[.int .i64 0, .int .i64 0, .int .i64 0, .int .i64 0, .int .i64 0] 48)).cell? ⟨w.heap.size + 1, 3, none⟩ = some (.int .i64 x11) := cell_alloc _ (cell_new (by simp) rfl)
  have zx : w.heap.size + 1 < (((w.alloc (.cells #[.int .i64 mo0, .int .i64 mo1, .int .i64 me0, .int .i64 me1] 25)).alloc (.cells #[.int .i64 x00, .int .i64 x01, .int .i64 x10, .int .i64 x11] 43)).alloc (.cells #[.int .i64 0, .int .i64 0, .int .i64 0, .int .i64 0, .int .i64 0] 48)).heap.size := World.block_lt_of_cell? _ _ x0
  have r0 : (((w.alloc (.cells #[.int .i64 mo0, .int .i64 mo1, .int .i64 me0, .int .i64 me1] 25)).alloc (.cells #[.int .i64 x00, .int .i64 x01, .int .i64 x10, .int .i64 x11] 43)).alloc (.cells #[.int .i64 0, .int .i64 0, .int .i64 0, .int .i64 0, .int .i64 0] 48)).cell? ⟨w.heap.size + 1 + 1, 0, none⟩ = some (.int .i64 0) := cell_new (by simp) rfl
  have rf0 : (((w.alloc (.cells #[.int .i64 mo0, .int .i64 mo1, .int .i64 me0, .int .i64 me1] 25)).alloc (.cells #[.int .i64 x00, .int .i64 x01, .int .i64 x10, .int .i64 x11] 43)).alloc (.cells #[.int .i64 0, .int .i64 0, .int .i64 0, .int .i64 0, .int .i64 0] 48)).frozen? ⟨w.heap.size + 1 + 1, 0, none⟩ = false := frozen_new (by simp)
  have r1 : (((w.alloc (.cells #[.int .i64 mo0, .int .i64 mo1, .int .i64 me0, .int .i64 me1] 25)).alloc (.cells #[.int .i64 x00, .int .i64 x01, .int .i64 x10, .int .i64 x11] 43)).alloc (.cells #[.int .i64 0, .int .i64 0, .int .i64 0, .int .i64 0, .int .i64 0] 48)).cell? ⟨w.heap.size + 1 + 1, 1, none⟩ = some (.int .i64 0) := cell_new (by simp) rfl
  have rf1 : (((w.alloc (.cells #[.int .i64 mo0, .int .i64 mo1, .int .i64 me0, .int .i64 me1] 25)).alloc (.cells #[.int .i64 x00, .int .i64 x01, .int .i64 x10, .int .i64 x11] 43)).alloc (.cells #[.int .i64 0, .int .i64 0, .int .i64 0, .int .i64 0, .int .i64 0] 48)).frozen? ⟨w.heap.size + 1 + 1, 1, none⟩ = false := frozen_new (by simp)
  have r2 : (((w.alloc (.cells #[.int .i64 mo0, .int .i64 mo1, .int .i64 me0, .int .i64 me1] 25)).alloc (.cells #[.int .i64 x00, .int .i64 x01, .int .i64 x10, .int .i64 x11] 43)).alloc (.cells #[.int .i64 0, .int .i64 0, .int .i64 0, .int .i64 0, .int .i64 0] 48)).cell? ⟨w.heap.size + 1 + 1, 2, none⟩ = some (.int .i64 0) := cell_new (by simp) rfl
  have rf2 : (((w.alloc (.cells #[.int .i64 mo0, .int .i64 mo1, .int .i64 me0, .int .i64 me1] 25)).alloc (.cells #[.int .i64 x00, .int .i64 x01, .int .i64 x10, .int .i64 x11] 43)).alloc (.cells #[.int .i64 0, .int .i64 0, .int .i64 0, .int .i64 0, .int .i64 0] 48)).frozen? ⟨w.heap.size + 1 + 1, 2, none⟩ = false := frozen_new (by simp)
  have r3 : (((w.alloc (.cells #[.int .i64 mo0, .int .i64 mo1, .int .i64 me0, .int .i64 me1] 25)).alloc (.cells #[.int .i64 x00, .int .i64 x01, .int .i64 x10, .int .i64 x11] 43)).alloc (.cells #[.int .i64 0, .int .i64 0, .int .i64 0, .int .i64 0, .int .i64 0] 48)).cell? ⟨w.heap.size + 1 + 1, 3, none⟩ = some (.int .i64 0) := cell_new (by simp) rfl
  have rf3 : (((w.alloc (.cells #[.int .i64 mo0, .int .i64 mo1, .int .i64 me0, .int .i64 me1] 25)).alloc (.cells #[.int .i64 x00, .int .i64 x01, .int .i64 x10, .int .i64 x11] 43)).alloc (.cells #[.int .i64 0, .int .i64 0, .int .i64 0, .int .i64 0, .int .i64 0] 48)).frozen? ⟨w.heap.size + 1 + 1, 3, none⟩ = false := frozen_new (by simp)
  have r4 : (((w.alloc (.cells #[.int .i64 mo0, .int .i64 mo1, .int .i64 me0, .int .i64 me1] 25)).alloc (.cells #[.int .i64 x00, .int .i64 x01, .int .i64 x10, .int .i64 x11] 43)).alloc (.cells #[.int .i64 0, .int .i64 0, .int .i64 0, .int .i64 0, .int .i64 0] 48)).cell? ⟨w.heap.size + 1 + 1, 4, none⟩ = some (.int .i64 0) := cell_new (by simp) rfl
  have rf4 : (((w.alloc (.cells #[.int .i64 mo0, .int .i64 mo1, .int .i64 me0, .int .i64 me1] 25)).alloc (.cells #[.int .i64 x00, .int .i64 x01, .int .i64 x10, .int .i64 x11] 43)).alloc (.cells #[.int .i64 0, .int .i64 0, .int .i64 0, .int .i64 0, .int .i64 0] 48)).frozen? ⟨w.heap.size + 1 + 1, 4, none⟩ = false := frozen_new (by simp)
  have zr : w.heap.size + 1 + 1 < (((w.alloc (.cells #[.int .i64 mo0, .int .i64 mo1, .int .i64 me0, .int .i64 me1] 25)).alloc (.cells #[.int .i64 x00, .int .i64 x01, .int .i64 x10, .int .i64 x11] 43)).alloc (.cells #[.int .i64 0, .int .i64 0, .int .i64 0, .int .i64 0, .int .i64 0] 48)).heap.size := World.block_lt_of_cell? _ _ r0
  generalize (((w.alloc (.cells #[.int .i64 mo0, .int .i64 mo1, .int .i64 me0, .int .i64 me1] 25)).alloc (.cells #[.int .i64 x00, .int .i64 x01, .int .i64 x10, .int .i64 x11] 43)).alloc (.cells #[.int .i64 0, .int .i64 0, .int .i64 0, .int .i64 0, .int .i64 0] 48)) = w0 at *
  go_wp2_with (fail)
  refine (D.out _).mono ?_
  rintro e w1 ⟨rfl, hb1⟩
  have h1 : Below w.heap.size w w1 := (hb0).trans ((hb1).mono (hb0).size)
  replace m0 := cell_below' hb1 m0
  replace m1 := cell_below' hb1 m1
  replace m2 := cell_below' hb1 m2
  replace m3 := cell_below' hb1 m3
  replace zm := Nat.lt_of_lt_of_le zm (hb1).size
  replace x0 := cell_below' hb1 x0
  replace x1 := cell_below' hb1 x1
  replace x2 := cell_below' hb1 x2
  replace x3 := cell_below' hb1 x3
  replace zx := Nat.lt_of_lt_of_le zx (hb1).size
  replace rf0 := frozen_below hb1 (World.block_lt_of_cell? _ _ r0) rf0
  replace rf1 := frozen_below hb1 (World.block_lt_of_cell? _ _ r1) rf1
  replace rf2 := frozen_below hb1 (World.block_lt_of_cell? _ _ r2) rf2
  replace rf3 := frozen_below hb1 (World.block_lt_of_cell? _ _ r3) rf3
  replace rf4 := frozen_below hb1 (World.block_lt_of_cell? _ _ r4) rf4
  replace r0 := cell_below' hb1 r0
  replace r1 := cell_below' hb1 r1
  replace r2 := cell_below' hb1 r2
  replace r3 := cell_below' hb1 r3
  replace r4 := cell_below' hb1 r4
  replace zr := Nat.lt_of_lt_of_le zr (hb1).size
  clear hb1 hb0
  go_upto_region 2 with (fail)
  have hb2 : Below w1.heap.size w1 (w1.alloc (.cells #[.int .i64 d0, .int .i64 d1] 23)) := below_alloc _ (Nat.le_refl _) (Below.refl _ _)
  have dd0 : (w1.alloc (.cells #[.int .i64 d0, .int .i64 d1] 23)).cell? ⟨w1.heap.size, 0, none⟩ = some (.int .i64 d0) := cell_new (by simp) rfl
  have dd1 : (w1.alloc (.cells #[.int .i64 d0, .int .i64 d1] 23)).cell? ⟨w1.heap.size, 1, none⟩ = some (.int .i64 d1) := cell_new (by simp) rfl
  have zdd : w1.heap.size < (w1.alloc (.cells #[.int .i64 d0, .int .i64 d1] 23)).heap.size := World.block_lt_of_cell? _ _ dd0
  generalize (w1.alloc (.cells #[.int .i64 d0, .int .i64 d1] 23)) = w2 at *
  have h2 : Below w.heap.size w w2 := (h1).trans ((hb2).mono (h1).size)
  replace m0 := cell_below' hb2 m0
  replace m1 := cell_below' hb2 m1
  replace m2 := cell_below' hb2 m2
  replace m3 := cell_below' hb2 m3
  replace zm := Nat.lt_of_lt_of_le zm (hb2).size
  replace x0 := cell_below' hb2 x0
  replace x1 := cell_below' hb2 x1
  replace x2 := cell_below' hb2 x2
  replace x3 := cell_below' hb2 x3
  replace zx := Nat.lt_of_lt_of_le zx (hb2).size
  replace rf0 := frozen_below hb2 (World.block_lt_of_cell? _ _ r0) rf0
  replace rf1 := frozen_below hb2 (World.block_lt_of_cell? _ _ r1) rf1
  replace rf2 := frozen_below hb2 (World.block_lt_of_cell? _ _ r2) rf2
  replace rf3 := frozen_below hb2 (World.block_lt_of_cell? _ _ r3) rf3
  replace rf4 := frozen_below hb2 (World.block_lt_of_cell? _ _ r4) rf4
  replace r0 := cell_below' hb2 r0
  replace r1 := cell_below' hb2 r1
  replace r2 := cell_below' hb2 r2
  replace r3 := cell_below' hb2 r3
  replace r4 := cell_below' hb2 r4
  replace zr := Nat.lt_of_lt_of_le zr (hb2).size
  clear hb2 h1
  generalize w1.heap.size = db at *
  go_wp2_with (fail)
  refine (P.out _).mono ?_
  rintro e w3 ⟨rfl, hb3⟩
  have h3 : Below w.heap.size w w3 := (h2).trans ((hb3).mono (h2).size)
  replace m0 := cell_below' hb3 m0
  replace m1 := cell_below' hb3 m1
  replace m2 := cell_below' hb3 m2
  replace m3 := cell_below' hb3 m3
  replace zm := Nat.lt_of_lt_of_le zm (hb3).size
  replace x0 := cell_below' hb3 x0
  replace x1 := cell_below' hb3 x1
  replace x2 := cell_below' hb3 x2
  replace x3 := cell_below' hb3 x3
  replace zx := Nat.lt_of_lt_of_le zx (hb3).size
  replace rf0 := frozen_below hb3 (World.block_lt_of_cell? _ _ r0) rf0
  replace rf1 := frozen_below hb3 (World.block_lt_of_cell? _ _ r1) rf1
  replace rf2 := frozen_below hb3 (World.block_lt_of_cell? _ _ r2) rf2
  replace rf3 := frozen_below hb3 (World.block_lt_of_cell? _ _ r3) rf3
  replace rf4 := frozen_below hb3 (World.block_lt_of_cell? _ _ r4) rf4
  replace r0 := cell_below' hb3 r0
  replace r1 := cell_below' hb3 r1
  replace r2 := cell_below' hb3 r2
  replace r3 := cell_below' hb3 r3
  replace r4 := cell_below' hb3 r4
  replace zr := Nat.lt_of_lt_of_le zr (hb3).size
  replace dd0 := cell_below' hb3 dd0
  replace dd1 := cell_below' hb3 dd1
  replace zdd := Nat.lt_of_lt_of_le zdd (hb3).size
  clear hb3 h2
  clear D P
  go_upto_region 3 with (fail)
  have hb4 : Below w3.heap.size w3 (w3.alloc (.cells #[.int .i64 0, .int .i64 0, .int .i64 0, .int .i64 0, .int .i64 nd] 48)) := below_alloc _ (Nat.le_refl _) (Below.refl _ _)
  have s0 : (w3.alloc (.cells #[.int .i64 0, .int .i64 0, .int .i64 0, .int .i64 0, .int .i64 nd] 48)).cell? ⟨w3.heap.size, 0, none⟩ = some (.int .i64 0) := cell_new (by simp) rfl
  have sf0 : (w3.alloc (.cells #[.int .i64 0, .int .i64 0, .int .i64 0, .int .i64 0, .int .i64 nd] 48)).frozen? ⟨w3.heap.size, 0, none⟩ = false := frozen_new (by simp)
  have s1 : (w3.alloc (.cells #[.int .i64 0, .int .i64 0, .int .i64 0, .int .i64 0, .int .i64 nd] 48)).cell? ⟨w3.heap.size, 1, none⟩ = some (.int .i64 0) := cell_new (by simp) rfl
  have sf1 : (w3.alloc (.cells #[.int .i64 0, .int .i64 0, .int .i64 0, .int .i64 0, .int .i64 nd] 48)).frozen? ⟨w3.heap.size, 1, none⟩ = false := frozen_new (by simp)
  have s2 : (w3.alloc (.cells #[.int .i64 0, .int .i64 0, .int .i64 0, .int .i64 0, .int .i64 nd] 48)).cell? ⟨w3.heap.size, 2, none⟩ = some (.int .i64 0) := cell_new (by simp) rfl
  have sf2 : (w3.alloc (.cells #[.int .i64 0, .int .i64 0, .int .i64 0, .int .i64 0, .int .i64 nd] 48)).frozen? ⟨w3.heap.size, 2, none⟩ = false := frozen_new (by simp)
  have s3 : (w3.alloc (.cells #[.int .i64 0, .int .i64 0, .int .i64 0, .int .i64 0, .int .i64 nd] 48)).cell? ⟨w3.heap.size, 3, none⟩ = some (.int .i64 0) := cell_new (by simp) rfl
  have sf3 : (w3.alloc (.cells #[.int .i64 0, .int .i64 0, .int .i64 0, .int .i64 0, .int .i64 nd] 48)).frozen? ⟨w3.heap.size, 3, none⟩ = false := frozen_new (by simp)
  have s4 : (w3.alloc (.cells #[.int .i64 0, .int .i64 0, .int .i64 0, .int .i64 0, .int .i64 nd] 48)).cell? ⟨w3.heap.size, 4, none⟩ = some (.int .i64 nd) := cell_new (by simp) rfl
  have sf4 : (w3.alloc (.cells #[.int .i64 0, .int .i64 0, .int .i64 0, .int .i64 0, .int .i64 nd] 48)).frozen? ⟨w3.heap.size, 4, none⟩ = false := frozen_new (by simp)
  have zs : w3.heap.size < (w3.alloc (.cells #[.int .i64 0, .int .i64 0, .int .i64 0, .int .i64 0, .int .i64 nd] 48)).heap.size := World.block_lt_of_cell? _ _ s0
  generalize (w3.alloc (.cells #[.int .i64 0, .int .i64 0, .int .i64 0, .int .i64 0, .int .i64 nd] 48)) = w4 at *
  have sle : w.heap.size ≤ w3.heap.size := h3.size
  have q1 : w3.heap.size ≠ w.heap.size := by omega
  have q2 : w3.heap.size ≠ w.heap.size + 1 := by omega
  have q3 : w3.heap.size ≠ w.heap.size + 1 + 1 := by omega
  have q4 : w3.heap.size ≠ db := by omega
  have h4 : Below w.heap.size w w4 := (h3).trans ((hb4).mono (h3).size)
  replace m0 := cell_below' hb4 m0
  replace m1 := cell_below' hb4 m1
  replace m2 := cell_below' hb4 m2
  replace m3 := cell_below' hb4 m3
  replace zm := Nat.lt_of_lt_of_le zm (hb4).size
  replace x0 := cell_below' hb4 x0
  replace x1 := cell_below' hb4 x1
  replace x2 := cell_below' hb4 x2
  replace x3 := cell_below' hb4 x3
  replace zx := Nat.lt_of_lt_of_le zx (hb4).size
  replace rf0 := frozen_below hb4 (World.block_lt_of_cell? _ _ r0) rf0
  replace rf1 := frozen_below hb4 (World.block_lt_of_cell? _ _ r1) rf1
  replace rf2 := frozen_below hb4 (World.block_lt_of_cell? _ _ r2) rf2
  replace rf3 := frozen_below hb4 (World.block_lt_of_cell? _ _ r3) rf3
  replace rf4 := frozen_below hb4 (World.block_lt_of_cell? _ _ r4) rf4
  replace r0 := cell_below' hb4 r0
  replace r1 := cell_below' hb4 r1
  replace r2 := cell_below' hb4 r2
  replace r3 := cell_below' hb4 r3
  replace r4 := cell_below' hb4 r4
  replace zr := Nat.lt_of_lt_of_le zr (hb4).size
  replace dd0 := cell_below' hb4 dd0
  replace dd1 := cell_below' hb4 dd1
  replace zdd := Nat.lt_of_lt_of_le zdd (hb4).size
  clear hb4 h3
  generalize w3.heap.size = sb at *
  (refine region_extx 11 (by kernel_rfl) (by kernel_rfl) fun hx => ?_; simp only [List.take_succ_cons, List.take_zero, List.drop_succ_cons, List.drop_zero]; (repeat (any_goals (first | go_big_quiet_step ((first | ((go_at_call 121; with_reducible exact ext_call (O1.out _))) | ((go_at_call 120; with_reducible exact ext_call (O2.out _))) | ((go_at_call 122; with_reducible exact ext_call (C.out _))) | ((go_at_call 121; with_reducible exact ext_call (O3.out _))))) | quiet_step ((first | ((go_at_call 121; with_reducible exact ext_call (O1.out _))) | ((go_at_call 120; with_reducible exact ext_call (O2.out _))) | ((go_at_call 122; with_reducible exact ext_call (C.out _))) | ((go_at_call 121; with_reducible exact ext_call (O3.out _)))))))))
  (refine wpQuiet_nil ?_; clear hx; intro u; have hbw5 := ext_bel _ u; have hxw5 := ext_cell _ u; generalize ext _ u = w5 at *; clear u; have hsw5 := hbw5.size; (try simp at hsw5))
  have h5 : Below w.heap.size w w5 := (h4).trans ((hbw5).mono (h4).size)
  replace m0 := cell_below' hbw5 m0
  replace m1 := cell_below' hbw5 m1
  replace m2 := cell_below' hbw5 m2
  replace m3 := cell_below' hbw5 m3
  replace zm := Nat.lt_of_lt_of_le zm (hbw5).size
  replace x0 := cell_below' hbw5 x0
  replace x1 := cell_below' hbw5 x1
  replace x2 := cell_below' hbw5 x2
  replace x3 := cell_below' hbw5 x3
  replace zx := Nat.lt_of_lt_of_le zx (hbw5).size
  replace rf0 := frozen_below hbw5 (World.block_lt_of_cell? _ _ r0) rf0
  replace rf1 := frozen_below hbw5 (World.block_lt_of_cell? _ _ r1) rf1
  replace rf2 := frozen_below hbw5 (World.block_lt_of_cell? _ _ r2) rf2
  replace rf3 := frozen_below hbw5 (World.block_lt_of_cell? _ _ r3) rf3
  replace rf4 := frozen_below hbw5 (World.block_lt_of_cell? _ _ r4) rf4
  replace r0 := cell_below' hbw5 r0
  replace r1 := cell_below' hbw5 r1
  replace r2 := cell_below' hbw5 r2
  replace r3 := cell_below' hbw5 r3
  replace r4 := cell_below' hbw5 r4
  replace zr := Nat.lt_of_lt_of_le zr (hbw5).size
  replace dd0 := cell_below' hbw5 dd0
  replace dd1 := cell_below' hbw5 dd1
  replace zdd := Nat.lt_of_lt_of_le zdd (hbw5).size
  replace sf0 := frozen_below hbw5 (World.block_lt_of_cell? _ _ s0) sf0
  replace sf1 := frozen_below hbw5 (World.block_lt_of_cell? _ _ s1) sf1
  replace sf2 := frozen_below hbw5 (World.block_lt_of_cell? _ _ s2) sf2
  replace sf3 := frozen_below hbw5 (World.block_lt_of_cell? _ _ s3) sf3
  replace sf4 := frozen_below hbw5 (World.block_lt_of_cell? _ _ s4) sf4
  replace s0 := cell_below' hbw5 s0
  replace s1 := cell_below' hbw5 s1
  replace s2 := cell_below' hbw5 s2
  replace s3 := cell_below' hbw5 s3
  replace s4 := cell_below' hbw5 s4
  replace zs := Nat.lt_of_lt_of_le zs (hbw5).size
  clear hbw5 h4
  clear hxw5 hsw5
  go_upto_region 4 with (fail)
  have h6 : Below w.heap.size w ((w5.setCell ⟨sb, 0, none⟩ (.int .i64 so0)).setCell ⟨sb, 1, none⟩ (.int .i64 so1)) := below_set _ (by simp; try omega) (below_set _ (by simp; try omega) (h5))
  replace s0 : ((w5.setCell ⟨sb, 0, none⟩ (.int .i64 so0)).setCell ⟨sb, 1, none⟩ (.int .i64 so1)).cell? ⟨sb, 0, none⟩ = some (.int .i64 so0) := cell_next (by decide) (cell_same (s0))
  replace s1 : ((w5.setCell ⟨sb, 0, none⟩ (.int .i64 so0)).setCell ⟨sb, 1, none⟩ (.int .i64 so1)).cell? ⟨sb, 1, none⟩ = some (.int .i64 so1) := cell_same (cell_next (by decide) (s1))
  replace s2 := cell_next (i := 1) (u := .int .i64 so1) (by decide) (cell_next (i := 0) (u := .int .i64 so0) (by decide) (s2))
  replace s3 := cell_next (i := 1) (u := .int .i64 so1) (by decide) (cell_next (i := 0) (u := .int .i64 so0) (by decide) (s3))
  replace s4 := cell_next (i := 1) (u := .int .i64 so1) (by decide) (cell_next (i := 0) (u := .int .i64 so0) (by decide) (s4))
  replace sf0 := (show World.frozen? ((w5.setCell ⟨sb, 0, none⟩ (.int .i64 so0)).setCell ⟨sb, 1, none⟩ (.int .i64 so1)) ⟨sb, 0, none⟩ = false from frozen_set _ _ (frozen_set _ _ (sf0)))
  replace sf1 := (show World.frozen? ((w5.setCell ⟨sb, 0, none⟩ (.int .i64 so0)).setCell ⟨sb, 1, none⟩ (.int .i64 so1)) ⟨sb, 1, none⟩ = false from frozen_set _ _ (frozen_set _ _ (sf1)))
  replace sf2 := (show World.frozen? ((w5.setCell ⟨sb, 0, none⟩ (.int .i64 so0)).setCell ⟨sb, 1, none⟩ (.int .i64 so1)) ⟨sb, 2, none⟩ = false from frozen_set _ _ (frozen_set _ _ (sf2)))
  replace sf3 := (show World.frozen? ((w5.setCell ⟨sb, 0, none⟩ (.int .i64 so0)).setCell ⟨sb, 1, none⟩ (.int .i64 so1)) ⟨sb, 3, none⟩ = false from frozen_set _ _ (frozen_set _ _ (sf3)))
  replace sf4 := (show World.frozen? ((w5.setCell ⟨sb, 0, none⟩ (.int .i64 so0)).setCell ⟨sb, 1, none⟩ (.int .i64 so1)) ⟨sb, 4, none⟩ = false from frozen_set _ _ (frozen_set _ _ (sf4)))
  have hszQ : ((w5.setCell ⟨sb, 0, none⟩ (.int .i64 so0)).setCell ⟨sb, 1, none⟩ (.int .i64 so1)).heap.size = w5.heap.size := by simp
  replace zs : sb < ((w5.setCell ⟨sb, 0, none⟩ (.int .i64 so0)).setCell ⟨sb, 1, none⟩ (.int .i64 so1)).heap.size := by rw [hszQ]; exact zs
  replace m0 := cell_far (u := .int .i64 so1) (q := ⟨sb, 1, none⟩) q1 (cell_far (u := .int .i64 so0) (q := ⟨sb, 0, none⟩) q1 (m0))
  replace m1 := cell_far (u := .int .i64 so1) (q := ⟨sb, 1, none⟩) q1 (cell_far (u := .int .i64 so0) (q := ⟨sb, 0, none⟩) q1 (m1))
  replace m2 := cell_far (u := .int .i64 so1) (q := ⟨sb, 1, none⟩) q1 (cell_far (u := .int .i64 so0) (q := ⟨sb, 0, none⟩) q1 (m2))
  replace m3 := cell_far (u := .int .i64 so1) (q := ⟨sb, 1, none⟩) q1 (cell_far (u := .int .i64 so0) (q := ⟨sb, 0, none⟩) q1 (m3))
  replace zm := Nat.lt_of_lt_of_eq zm hszQ.symm
  replace x0 := cell_far (u := .int .i64 so1) (q := ⟨sb, 1, none⟩) q2 (cell_far (u := .int .i64 so0) (q := ⟨sb, 0, none⟩) q2 (x0))
  replace x1 := cell_far (u := .int .i64 so1) (q := ⟨sb, 1, none⟩) q2 (cell_far (u := .int .i64 so0) (q := ⟨sb, 0, none⟩) q2 (x1))
  replace x2 := cell_far (u := .int .i64 so1) (q := ⟨sb, 1, none⟩) q2 (cell_far (u := .int .i64 so0) (q := ⟨sb, 0, none⟩) q2 (x2))
  replace x3 := cell_far (u := .int .i64 so1) (q := ⟨sb, 1, none⟩) q2 (cell_far (u := .int .i64 so0) (q := ⟨sb, 0, none⟩) q2 (x3))
  replace zx := Nat.lt_of_lt_of_eq zx hszQ.symm
  replace r0 := cell_far (u := .int .i64 so1) (q := ⟨sb, 1, none⟩) q3 (cell_far (u := .int .i64 so0) (q := ⟨sb, 0, none⟩) q3 (r0))
  replace rf0 := frozen_set ⟨sb, 1, none⟩ (.int .i64 so1) (frozen_set ⟨sb, 0, none⟩ (.int .i64 so0) (rf0))
  replace r1 := cell_far (u := .int .i64 so1) (q := ⟨sb, 1, none⟩) q3 (cell_far (u := .int .i64 so0) (q := ⟨sb, 0, none⟩) q3 (r1))
  replace rf1 := frozen_set ⟨sb, 1, none⟩ (.int .i64 so1) (frozen_set ⟨sb, 0, none⟩ (.int .i64 so0) (rf1))
  replace r2 := cell_far (u := .int .i64 so1) (q := ⟨sb, 1, none⟩) q3 (cell_far (u := .int .i64 so0) (q := ⟨sb, 0, none⟩) q3 (r2))
  replace rf2 := frozen_set ⟨sb, 1, none⟩ (.int .i64 so1) (frozen_set ⟨sb, 0, none⟩ (.int .i64 so0) (rf2))
  replace r3 := cell_far (u := .int .i64 so1) (q := ⟨sb, 1, none⟩) q3 (cell_far (u := .int .i64 so0) (q := ⟨sb, 0, none⟩) q3 (r3))
  replace rf3 := frozen_set ⟨sb, 1, none⟩ (.int .i64 so1) (frozen_set ⟨sb, 0, none⟩ (.int .i64 so0) (rf3))
  replace r4 := cell_far (u := .int .i64 so1) (q := ⟨sb, 1, none⟩) q3 (cell_far (u := .int .i64 so0) (q := ⟨sb, 0, none⟩) q3 (r4))
  replace rf4 := frozen_set ⟨sb, 1, none⟩ (.int .i64 so1) (frozen_set ⟨sb, 0, none⟩ (.int .i64 so0) (rf4))
  replace zr := Nat.lt_of_lt_of_eq zr hszQ.symm
  replace dd0 := cell_far (u := .int .i64 so1) (q := ⟨sb, 1, none⟩) q4 (cell_far (u := .int .i64 so0) (q := ⟨sb, 0, none⟩) q4 (dd0))
  replace dd1 := cell_far (u := .int .i64 so1) (q := ⟨sb, 1, none⟩) q4 (cell_far (u := .int .i64 so0) (q := ⟨sb, 0, none⟩) q4 (dd1))
  replace zdd := Nat.lt_of_lt_of_eq zdd hszQ.symm
  clear hszQ h5
  generalize ((w5.setCell ⟨sb, 0, none⟩ (.int .i64 so0)).setCell ⟨sb, 1, none⟩ (.int .i64 so1)) = w6 at *
  (refine region_extx 11 (by kernel_rfl) (by kernel_rfl) fun hx => ?_; simp only [List.take_succ_cons, List.take_zero, List.drop_succ_cons, List.drop_zero]; (repeat (any_goals (first | go_big_quiet_step ((first | ((go_at_call 121; with_reducible exact ext_call (E1.out _))) | ((go_at_call 120; with_reducible exact ext_call (E2.out _))) | ((go_at_call 122; with_reducible exact ext_call (C.out _))) | ((go_at_call 121; with_reducible exact ext_call (E3.out _))))) | quiet_step ((first | ((go_at_call 121; with_reducible exact ext_call (E1.out _))) | ((go_at_call 120; with_reducible exact ext_call (E2.out _))) | ((go_at_call 122; with_reducible exact ext_call (C.out _))) | ((go_at_call 121; with_reducible exact ext_call (E3.out _)))))))))
  (refine wpQuiet_nil ?_; clear hx; intro u; have hbw7 := ext_bel _ u; have hxw7 := ext_cell _ u; generalize ext _ u = w7 at *; clear u; have hsw7 := hbw7.size; (try simp at hsw7))
  have h7 : Below w.heap.size w w7 := (h6).trans ((hbw7).mono (h6).size)
  replace rf0 := frozen_below hbw7 (World.block_lt_of_cell? _ _ r0) rf0
  replace rf1 := frozen_below hbw7 (World.block_lt_of_cell? _ _ r1) rf1
  replace rf2 := frozen_below hbw7 (World.block_lt_of_cell? _ _ r2) rf2
  replace rf3 := frozen_below hbw7 (World.block_lt_of_cell? _ _ r3) rf3
  replace rf4 := frozen_below hbw7 (World.block_lt_of_cell? _ _ r4) rf4
  replace r0 := cell_below' hbw7 r0
  replace r1 := cell_below' hbw7 r1
  replace r2 := cell_below' hbw7 r2
  replace r3 := cell_below' hbw7 r3
  replace r4 := cell_below' hbw7 r4
  replace zr := Nat.lt_of_lt_of_le zr (hbw7).size
  replace sf0 := frozen_below hbw7 (World.block_lt_of_cell? _ _ s0) sf0
  replace sf1 := frozen_below hbw7 (World.block_lt_of_cell? _ _ s1) sf1
  replace sf2 := frozen_below hbw7 (World.block_lt_of_cell? _ _ s2) sf2
  replace sf3 := frozen_below hbw7 (World.block_lt_of_cell? _ _ s3) sf3
  replace sf4 := frozen_below hbw7 (World.block_lt_of_cell? _ _ s4) sf4
  replace s0 := cell_below' hbw7 s0
  replace s1 := cell_below' hbw7 s1
  replace s2 := cell_below' hbw7 s2
  replace s3 := cell_below' hbw7 s3
  replace s4 := cell_below' hbw7 s4
  replace zs := Nat.lt_of_lt_of_le zs (hbw7).size
  clear hbw7 h6
  clear hxw7 hsw7 O1 O2 O3 E1 E2 E3 C m0 m1 m2 m3 zm x0 x1 x2 x3 zx dd0 dd1 zdd
  go_upto_region 5 with (fail)
  have h8 : Below w.heap.size w ((w7.setCell ⟨sb, 2, none⟩ (.int .i64 se0)).setCell ⟨sb, 3, none⟩ (.int .i64 se1)) := below_set _ (by simp; try omega) (below_set _ (by simp; try omega) (h7))
  replace s2 : ((w7.setCell ⟨sb, 2, none⟩ (.int .i64 se0)).setCell ⟨sb, 3, none⟩ (.int .i64 se1)).cell? ⟨sb, 2, none⟩ = some (.int .i64 se0) := cell_next (by decide) (cell_same (s2))
  replace s3 : ((w7.setCell ⟨sb, 2, none⟩ (.int .i64 se0)).setCell ⟨sb, 3, none⟩ (.int .i64 se1)).cell? ⟨sb, 3, none⟩ = some (.int .i64 se1) := cell_same (cell_next (by decide) (s3))
  replace s0 := cell_next (i := 3) (u := .int .i64 se1) (by decide) (cell_next (i := 2) (u := .int .i64 se0) (by decide) (s0))
  replace s1 := cell_next (i := 3) (u := .int .i64 se1) (by decide) (cell_next (i := 2) (u := .int .i64 se0) (by decide) (s1))
  replace s4 := cell_next (i := 3) (u := .int .i64 se1) (by decide) (cell_next (i := 2) (u := .int .i64 se0) (by decide) (s4))
  replace sf0 := (show World.frozen? ((w7.setCell ⟨sb, 2, none⟩ (.int .i64 se0)).setCell ⟨sb, 3, none⟩ (.int .i64 se1)) ⟨sb, 0, none⟩ = false from frozen_set _ _ (frozen_set _ _ (sf0)))
  replace sf1 := (show World.frozen? ((w7.setCell ⟨sb, 2, none⟩ (.int .i64 se0)).setCell ⟨sb, 3, none⟩ (.int .i64 se1)) ⟨sb, 1, none⟩ = false from frozen_set _ _ (frozen_set _ _ (sf1)))
  replace sf2 := (show World.frozen? ((w7.setCell ⟨sb, 2, none⟩ (.int .i64 se0)).setCell ⟨sb, 3, none⟩ (.int .i64 se1)) ⟨sb, 2, none⟩ = false from frozen_set _ _ (frozen_set _ _ (sf2)))
  replace sf3 := (show World.frozen? ((w7.setCell ⟨sb, 2, none⟩ (.int .i64 se0)).setCell ⟨sb, 3, none⟩ (.int .i64 se1)) ⟨sb, 3, none⟩ = false from frozen_set _ _ (frozen_set _ _ (sf3)))
  replace sf4 := (show World.frozen? ((w7.setCell ⟨sb, 2, none⟩ (.int .i64 se0)).setCell ⟨sb, 3, none⟩ (.int .i64 se1)) ⟨sb, 4, none⟩ = false from frozen_set _ _ (frozen_set _ _ (sf4)))
  have hszQ : ((w7.setCell ⟨sb, 2, none⟩ (.int .i64 se0)).setCell ⟨sb, 3, none⟩ (.int .i64 se1)).heap.size = w7.heap.size := by simp
  replace zs : sb < ((w7.setCell ⟨sb, 2, none⟩ (.int .i64 se0)).setCell ⟨sb, 3, none⟩ (.int .i64 se1)).heap.size := by rw [hszQ]; exact zs
  replace r0 := cell_far (u := .int .i64 se1) (q := ⟨sb, 3, none⟩) q3 (cell_far (u := .int .i64 se0) (q := ⟨sb, 2, none⟩) q3 (r0))
  replace rf0 := frozen_set ⟨sb, 3, none⟩ (.int .i64 se1) (frozen_set ⟨sb, 2, none⟩ (.int .i64 se0) (rf0))
  replace r1 := cell_far (u := .int .i64 se1) (q := ⟨sb, 3, none⟩) q3 (cell_far (u := .int .i64 se0) (q := ⟨sb, 2, none⟩) q3 (r1))
  replace rf1 := frozen_set ⟨sb, 3, none⟩ (.int .i64 se1) (frozen_set ⟨sb, 2, none⟩ (.int .i64 se0) (rf1))
  replace r2 := cell_far (u := .int .i64 se1) (q := ⟨sb, 3, none⟩) q3 (cell_far (u := .int .i64 se0) (q := ⟨sb, 2, none⟩) q3 (r2))
  replace rf2 := frozen_set ⟨sb, 3, none⟩ (.int .i64 se1) (frozen_set ⟨sb, 2, none⟩ (.int .i64 se0) (rf2))
  replace r3 := cell_far (u := .int .i64 se1) (q := ⟨sb, 3, none⟩) q3 (cell_far (u := .int .i64 se0) (q := ⟨sb, 2, none⟩) q3 (r3))
  replace rf3 := frozen_set ⟨sb, 3, none⟩ (.int .i64 se1) (frozen_set ⟨sb, 2, none⟩ (.int .i64 se0) (rf3))
  replace r4 := cell_far (u := .int .i64 se1) (q := ⟨sb, 3, none⟩) q3 (cell_far (u := .int .i64 se0) (q := ⟨sb, 2, none⟩) q3 (r4))
  replace rf4 := frozen_set ⟨sb, 3, none⟩ (.int .i64 se1) (frozen_set ⟨sb, 2, none⟩ (.int .i64 se0) (rf4))
  replace zr := Nat.lt_of_lt_of_eq zr hszQ.symm
  clear hszQ h7
  generalize ((w7.setCell ⟨sb, 2, none⟩ (.int .i64 se0)).setCell ⟨sb, 3, none⟩ (.int .i64 se1)) = w8 at *
  go_wp2_with (fail)
  refine (G.out _).mono ?_
  rintro e w9 ⟨rfl, hb9⟩
  have h9 : Below w.heap.size w w9 := (h8).trans ((hb9).mono (h8).size)
  replace rf0 := frozen_below hb9 (World.block_lt_of_cell? _ _ r0) rf0
  replace rf1 := frozen_below hb9 (World.block_lt_of_cell? _ _ r1) rf1
  replace rf2 := frozen_below hb9 (World.block_lt_of_cell? _ _ r2) rf2
  replace rf3 := frozen_below hb9 (World.block_lt_of_cell? _ _ r3) rf3
  replace rf4 := frozen_below hb9 (World.block_lt_of_cell? _ _ r4) rf4
  replace r0 := cell_below' hb9 r0
  replace r1 := cell_below' hb9 r1
  replace r2 := cell_below' hb9 r2
  replace r3 := cell_below' hb9 r3
  replace r4 := cell_below' hb9 r4
  replace zr := Nat.lt_of_lt_of_le zr (hb9).size
  replace sf0 := frozen_below hb9 (World.block_lt_of_cell? _ _ s0) sf0
  replace sf1 := frozen_below hb9 (World.block_lt_of_cell? _ _ s1) sf1
  replace sf2 := frozen_below hb9 (World.block_lt_of_cell? _ _ s2) sf2
  replace sf3 := frozen_below hb9 (World.block_lt_of_cell? _ _ s3) sf3
  replace sf4 := frozen_below hb9 (World.block_lt_of_cell? _ _ s4) sf4
  replace s0 := cell_below' hb9 s0
  replace s1 := cell_below' hb9 s1
  replace s2 := cell_below' hb9 s2
  replace s3 := cell_below' hb9 s3
  replace s4 := cell_below' hb9 s4
  replace zs := Nat.lt_of_lt_of_le zs (hb9).size
  clear hb9 h8
  have hnd : nd.tdiv g = nd / g := Int.tdiv_eq_ediv_of_nonneg (by omega)
  have hn0 : 0 ≤ nd / g := Int.ediv_nonneg (by omega) (by omega)
  have hn1 : nd / g ≤ 800 := Int.le_trans (Int.ediv_le_self _ (by omega)) n1
  obtain ⟨u0, u1, u2, u3⟩ := hso
  obtain ⟨z0, z1, z2, z3⟩ := hse
  simp only at u0 u1 u2 u3 z0 z1 z2 z3
  have v0 := tdiv_bd so0 g _ g0 u0 u1
  have v1 := tdiv_bd so1 g _ g0 u2 u3
  have v2 := tdiv_bd se0 g _ g0 z0 z1
  have v3 := tdiv_bd se1 g _ g0 z2 z3
  obtain ⟨v00, v01⟩ := v0
  obtain ⟨v10, v11⟩ := v1
  obtain ⟨v20, v21⟩ := v2
  obtain ⟨v30, v31⟩ := v3
  go_upto_region 7 with (fail)
  have ha : Below w.heap.size w (w9.setCell ⟨sb, 4, none⟩ (.int .i64 (nd / g))) := below_set _ (by simp; try omega) (h9)
  replace s4 : (w9.setCell ⟨sb, 4, none⟩ (.int .i64 (nd / g))).cell? ⟨sb, 4, none⟩ = some (.int .i64 (nd / g)) := cell_same (s4)
  replace s0 := cell_next (i := 4) (u := .int .i64 (nd / g)) (by decide) (s0)
  replace s1 := cell_next (i := 4) (u := .int .i64 (nd / g)) (by decide) (s1)
  replace s2 := cell_next (i := 4) (u := .int .i64 (nd / g)) (by decide) (s2)
  replace s3 := cell_next (i := 4) (u := .int .i64 (nd / g)) (by decide) (s3)
  replace sf0 := (show World.frozen? (w9.setCell ⟨sb, 4, none⟩ (.int .i64 (nd / g))) ⟨sb, 0, none⟩ = false from frozen_set _ _ (sf0))
  replace sf1 := (show World.frozen? (w9.setCell ⟨sb, 4, none⟩ (.int .i64 (nd / g))) ⟨sb, 1, none⟩ = false from frozen_set _ _ (sf1))
  replace sf2 := (show World.frozen? (w9.setCell ⟨sb, 4, none⟩ (.int .i64 (nd / g))) ⟨sb, 2, none⟩ = false from frozen_set _ _ (sf2))
  replace sf3 := (show World.frozen? (w9.setCell ⟨sb, 4, none⟩ (.int .i64 (nd / g))) ⟨sb, 3, none⟩ = false from frozen_set _ _ (sf3))
  replace sf4 := (show World.frozen? (w9.setCell ⟨sb, 4, none⟩ (.int .i64 (nd / g))) ⟨sb, 4, none⟩ = false from frozen_set _ _ (sf4))
  have hszQ : (w9.setCell ⟨sb, 4, none⟩ (.int .i64 (nd / g))).heap.size = w9.heap.size := by simp
  replace zs : sb < (w9.setCell ⟨sb, 4, none⟩ (.int .i64 (nd / g))).heap.size := by rw [hszQ]; exact zs
  replace r0 := cell_far (u := .int .i64 (nd / g)) (q := ⟨sb, 4, none⟩) q3 (r0)
  replace rf0 := frozen_set ⟨sb, 4, none⟩ (.int .i64 (nd / g)) (rf0)
  replace r1 := cell_far (u := .int .i64 (nd / g)) (q := ⟨sb, 4, none⟩) q3 (r1)
  replace rf1 := frozen_set ⟨sb, 4, none⟩ (.int .i64 (nd / g)) (rf1)
  replace r2 := cell_far (u := .int .i64 (nd / g)) (q := ⟨sb, 4, none⟩) q3 (r2)
  replace rf2 := frozen_set ⟨sb, 4, none⟩ (.int .i64 (nd / g)) (rf2)
  replace r3 := cell_far (u := .int .i64 (nd / g)) (q := ⟨sb, 4, none⟩) q3 (r3)
  replace rf3 := frozen_set ⟨sb, 4, none⟩ (.int .i64 (nd / g)) (rf3)
  replace r4 := cell_far (u := .int .i64 (nd / g)) (q := ⟨sb, 4, none⟩) q3 (r4)
  replace rf4 := frozen_set ⟨sb, 4, none⟩ (.int .i64 (nd / g)) (rf4)
  replace zr := Nat.lt_of_lt_of_eq zr hszQ.symm
  clear hszQ h9
  generalize (w9.setCell ⟨sb, 4, none⟩ (.int .i64 (nd / g))) = wa at *
  (refine region_extx 11 (by kernel_rfl) (by kernel_rfl) fun hx => ?_; simp only [List.take_succ_cons, List.take_zero, List.drop_succ_cons, List.drop_zero]; (repeat (any_goals (first | go_big_quiet_step (fail) | quiet_step (fail)))))
  (refine wpQuiet_nil ?_; clear hx; intro u; have hbwb := ext_bel _ u; have hxwb := ext_cell _ u; generalize ext _ u = wb at *; clear u; have hswb := hbwb.size; (try simp at hswb))
  have hb : Below w.heap.size w wb := (ha).trans ((hbwb).mono (ha).size)
  replace rf0 := frozen_below hbwb (World.block_lt_of_cell? _ _ r0) rf0
  replace rf1 := frozen_below hbwb (World.block_lt_of_cell? _ _ r1) rf1
  replace rf2 := frozen_below hbwb (World.block_lt_of_cell? _ _ r2) rf2
  replace rf3 := frozen_below hbwb (World.block_lt_of_cell? _ _ r3) rf3
  replace rf4 := frozen_below hbwb (World.block_lt_of_cell? _ _ r4) rf4
  replace r0 := cell_below' hbwb r0
  replace r1 := cell_below' hbwb r1
  replace r2 := cell_below' hbwb r2
  replace r3 := cell_below' hbwb r3
  replace r4 := cell_below' hbwb r4
  replace zr := Nat.lt_of_lt_of_le zr (hbwb).size
  replace sf0 := frozen_below hbwb (World.block_lt_of_cell? _ _ s0) sf0
  replace sf1 := frozen_below hbwb (World.block_lt_of_cell? _ _ s1) sf1
  replace sf2 := frozen_below hbwb (World.block_lt_of_cell? _ _ s2) sf2
  replace sf3 := frozen_below hbwb (World.block_lt_of_cell? _ _ s3) sf3
  replace sf4 := frozen_below hbwb (World.block_lt_of_cell? _ _ s4) sf4
  replace s0 := cell_below' hbwb s0
  replace s1 := cell_below' hbwb s1
  replace s2 := cell_below' hbwb s2
  replace s3 := cell_below' hbwb s3
  replace s4 := cell_below' hbwb s4
  replace zs := Nat.lt_of_lt_of_le zs (hbwb).size
  clear hbwb ha
  clear hxwb hswb
  go_upto_region 8 with (fail)
  have hc : Below w.heap.size w ((wb.setCell ⟨sb, 0, none⟩ (.int .i64 (so0.tdiv g))).setCell ⟨sb, 1, none⟩ (.int .i64 (so1.tdiv g))) := below_set _ (by simp; try omega) (below_set _ (by simp; try omega) (hb))
  replace s0 : ((wb.setCell ⟨sb, 0, none⟩ (.int .i64 (so0.tdiv g))).setCell ⟨sb, 1, none⟩ (.int .i64 (so1.tdiv g))).cell? ⟨sb, 0, none⟩ = some (.int .i64 (so0.tdiv g)) := cell_next (by decide) (cell_same (s0))
  replace s1 : ((wb.setCell ⟨sb, 0, none⟩ (.int .i64 (so0.tdiv g))).setCell ⟨sb, 1, none⟩ (.int .i64 (so1.tdiv g))).cell? ⟨sb, 1, none⟩ = some (.int .i64 (so1.tdiv g)) := cell_same (cell_next (by decide) (s1))
  replace s2 := cell_next (i := 1) (u := .int .i64 (so1.tdiv g)) (by decide) (cell_next (i := 0) (u := .int .i64 (so0.tdiv g)) (by decide) (s2))
  replace s3 := cell_next (i := 1) (u := .int .i64 (so1.tdiv g)) (by decide) (cell_next (i := 0) (u := .int .i64 (so0.tdiv g)) (by decide) (s3))
  replace s4 := cell_next (i := 1) (u := .int .i64 (so1.tdiv g)) (by decide) (cell_next (i := 0) (u := .int .i64 (so0.tdiv g)) (by decide) (s4))
  replace sf0 := (show World.frozen? ((wb.setCell ⟨sb, 0, none⟩ (.int .i64 (so0.tdiv g))).setCell ⟨sb, 1, none⟩ (.int .i64 (so1.tdiv g))) ⟨sb, 0, none⟩ = false from frozen_set _ _ (frozen_set _ _ (sf0)))
  replace sf1 := (show World.frozen? ((wb.setCell ⟨sb, 0, none⟩ (.int .i64 (so0.tdiv g))).setCell ⟨sb, 1, none⟩ (.int .i64 (so1.tdiv g))) ⟨sb, 1, none⟩ = false from frozen_set _ _ (frozen_set _ _ (sf1)))
  replace sf2 := (show World.frozen? ((wb.setCell ⟨sb, 0, none⟩ (.int .i64 (so0.tdiv g))).setCell ⟨sb, 1, none⟩ (.int .i64 (so1.tdiv g))) ⟨sb, 2, none⟩ = false from frozen_set _ _ (frozen_set _ _ (sf2)))
  replace sf3 := (show World.frozen? ((wb.setCell ⟨sb, 0, none⟩ (.int .i64 (so0.tdiv g))).setCell ⟨sb, 1, none⟩ (.int .i64 (so1.tdiv g))) ⟨sb, 3, none⟩ = false from frozen_set _ _ (frozen_set _ _ (sf3)))
  replace sf4 := (show World.frozen? ((wb.setCell ⟨sb, 0, none⟩ (.int .i64 (so0.tdiv g))).setCell ⟨sb, 1, none⟩ (.int .i64 (so1.tdiv g))) ⟨sb, 4, none⟩ = false from frozen_set _ _ (frozen_set _ _ (sf4)))
  have hszQ : ((wb.setCell ⟨sb, 0, none⟩ (.int .i64 (so0.tdiv g))).setCell ⟨sb, 1, none⟩ (.int .i64 (so1.tdiv g))).heap.size = wb.heap.size := by simp
  replace zs : sb < ((wb.setCell ⟨sb, 0, none⟩ (.int .i64 (so0.tdiv g))).setCell ⟨sb, 1, none⟩ (.int .i64 (so1.tdiv g))).heap.size := by rw [hszQ]; exact zs
  replace r0 := cell_far (u := .int .i64 (so1.tdiv g)) (q := ⟨sb, 1, none⟩) q3 (cell_far (u := .int .i64 (so0.tdiv g)) (q := ⟨sb, 0, none⟩) q3 (r0))
  replace rf0 := frozen_set ⟨sb, 1, none⟩ (.int .i64 (so1.tdiv g)) (frozen_set ⟨sb, 0, none⟩ (.int .i64 (so0.tdiv g)) (rf0))
  replace r1 := cell_far (u := .int .i64 (so1.tdiv g)) (q := ⟨sb, 1, none⟩) q3 (cell_far (u := .int .i64 (so0.tdiv g)) (q := ⟨sb, 0, none⟩) q3 (r1))
  replace rf1 := frozen_set ⟨sb, 1, none⟩ (.int .i64 (so1.tdiv g)) (frozen_set ⟨sb, 0, none⟩ (.int .i64 (so0.tdiv g)) (rf1))
  replace r2 := cell_far (u := .int .i64 (so1.tdiv g)) (q := ⟨sb, 1, none⟩) q3 (cell_far (u := .int .i64 (so0.tdiv g)) (q := ⟨sb, 0, none⟩) q3 (r2))
  replace rf2 := frozen_set ⟨sb, 1, none⟩ (.int .i64 (so1.tdiv g)) (frozen_set ⟨sb, 0, none⟩ (.int .i64 (so0.tdiv g)) (rf2))
  replace r3 := cell_far (u := .int .i64 (so1.tdiv g)) (q := ⟨sb, 1, none⟩) q3 (cell_far (u := .int .i64 (so0.tdiv g)) (q := ⟨sb, 0, none⟩) q3 (r3))
  replace rf3 := frozen_set ⟨sb, 1, none⟩ (.int .i64 (so1.tdiv g)) (frozen_set ⟨sb, 0, none⟩ (.int .i64 (so0.tdiv g)) (rf3))
  replace r4 := cell_far (u := .int .i64 (so1.tdiv g)) (q := ⟨sb, 1, none⟩) q3 (cell_far (u := .int .i64 (so0.tdiv g)) (q := ⟨sb, 0, none⟩) q3 (r4))
  replace rf4 := frozen_set ⟨sb, 1, none⟩ (.int .i64 (so1.tdiv g)) (frozen_set ⟨sb, 0, none⟩ (.int .i64 (so0.tdiv g)) (rf4))
  replace zr := Nat.lt_of_lt_of_eq zr hszQ.symm
  clear hszQ hb
  generalize ((wb.setCell ⟨sb, 0, none⟩ (.int .i64 (so0.tdiv g))).setCell ⟨sb, 1, none⟩ (.int .i64 (so1.tdiv g))) = wc at *
  (refine region_extx 11 (by kernel_rfl) (by kernel_rfl) fun hx => ?_; simp only [List.take_succ_cons, List.take_zero, List.drop_succ_cons, List.drop_zero]; (repeat (any_goals (first | go_big_quiet_step (fail) | quiet_step (fail)))))
  (refine wpQuiet_nil ?_; clear hx; intro u; have hbwd := ext_bel _ u; have hxwd := ext_cell _ u; generalize ext _ u = wd at *; clear u; have hswd := hbwd.size; (try simp at hswd))
  have hd : Below w.heap.size w wd := (hc).trans ((hbwd).mono (hc).size)
  replace rf0 := frozen_below hbwd (World.block_lt_of_cell? _ _ r0) rf0
  replace rf1 := frozen_below hbwd (World.block_lt_of_cell? _ _ r1) rf1
  replace rf2 := frozen_below hbwd (World.block_lt_of_cell? _ _ r2) rf2
  replace rf3 := frozen_below hbwd (World.block_lt_of_cell? _ _ r3) rf3
  replace rf4 := frozen_below hbwd (World.block_lt_of_cell? _ _ r4) rf4
  replace r0 := cell_below' hbwd r0
  replace r1 := cell_below' hbwd r1
  replace r2 := cell_below' hbwd r2
  replace r3 := cell_below' hbwd r3
  replace r4 := cell_below' hbwd r4
  replace zr := Nat.lt_of_lt_of_le zr (hbwd).size
  replace sf0 := frozen_below hbwd (World.block_lt_of_cell? _ _ s0) sf0
  replace sf1 := frozen_below hbwd (World.block_lt_of_cell? _ _ s1) sf1
  replace sf2 := frozen_below hbwd (World.block_lt_of_cell? _ _ s2) sf2
  replace sf3 := frozen_below hbwd (World.block_lt_of_cell? _ _ s3) sf3
  replace sf4 := frozen_below hbwd (World.block_lt_of_cell? _ _ s4) sf4
  replace s0 := cell_below' hbwd s0
  replace s1 := cell_below' hbwd s1
  replace s2 := cell_below' hbwd s2
  replace s3 := cell_below' hbwd s3
  replace s4 := cell_below' hbwd s4
  replace zs := Nat.lt_of_lt_of_le zs (hbwd).size
  clear hbwd hc
  clear hxwd hswd
  go_upto_region 9 with (fail)
  have he : Below w.heap.size w ((wd.setCell ⟨sb, 2, none⟩ (.int .i64 (se0.tdiv g))).setCell ⟨sb, 3, none⟩ (.int .i64 (se1.tdiv g))) := below_set _ (by simp; try omega) (below_set _ (by simp; try omega) (hd))
  replace s2 : ((wd.setCell ⟨sb, 2, none⟩ (.int .i64 (se0.tdiv g))).setCell ⟨sb, 3, none⟩ (.int .i64 (se1.tdiv g))).cell? ⟨sb, 2, none⟩ = some (.int .i64 (se0.tdiv g)) := cell_next (by decide) (cell_same (s2))
  replace s3 : ((wd.setCell ⟨sb, 2, none⟩ (.int .i64 (se0.tdiv g))).setCell ⟨sb, 3, none⟩ (.int .i64 (se1.tdiv g))).cell? ⟨sb, 3, none⟩ = some (.int .i64 (se1.tdiv g)) := cell_same (cell_next (by decide) (s3))
  replace s0 := cell_next (i := 3) (u := .int .i64 (se1.tdiv g)) (by decide) (cell_next (i := 2) (u := .int .i64 (se0.tdiv g)) (by decide) (s0))
  replace s1 := cell_next (i := 3) (u := .int .i64 (se1.tdiv g)) (by decide) (cell_next (i := 2) (u := .int .i64 (se0.tdiv g)) (by decide) (s1))
  replace s4 := cell_next (i := 3) (u := .int .i64 (se1.tdiv g)) (by decide) (cell_next (i := 2) (u := .int .i64 (se0.tdiv g)) (by decide) (s4))
  replace sf0 := (show World.frozen? ((wd.setCell ⟨sb, 2, none⟩ (.int .i64 (se0.tdiv g))).setCell ⟨sb, 3, none⟩ (.int .i64 (se1.tdiv g))) ⟨sb, 0, none⟩ = false from frozen_set _ _ (frozen_set _ _ (sf0)))
  replace sf1 := (show World.frozen? ((wd.setCell ⟨sb, 2, none⟩ (.int .i64 (se0.tdiv g))).setCell ⟨sb, 3, none⟩ (.int .i64 (se1.tdiv g))) ⟨sb, 1, none⟩ = false from frozen_set _ _ (frozen_set _ _ (sf1)))
  replace sf2 := (show World.frozen? ((wd.setCell ⟨sb, 2, none⟩ (.int .i64 (se0.tdiv g))).setCell ⟨sb, 3, none⟩ (.int .i64 (se1.tdiv g))) ⟨sb, 2, none⟩ = false from frozen_set _ _ (frozen_set _ _ (sf2)))
  replace sf3 := (show World.frozen? ((wd.setCell ⟨sb, 2, none⟩ (.int .i64 (se0.tdiv g))).setCell ⟨sb, 3, none⟩ (.int .i64 (se1.tdiv g))) ⟨sb, 3, none⟩ = false from frozen_set _ _ (frozen_set _ _ (sf3)))
  replace sf4 := (show World.frozen? ((wd.setCell ⟨sb, 2, none⟩ (.int .i64 (se0.tdiv g))).setCell ⟨sb, 3, none⟩ (.int .i64 (se1.tdiv g))) ⟨sb, 4, none⟩ = false from frozen_set _ _ (frozen_set _ _ (sf4)))
  have hszQ : ((wd.setCell ⟨sb, 2, none⟩ (.int .i64 (se0.tdiv g))).setCell ⟨sb, 3, none⟩ (.int .i64 (se1.tdiv g))).heap.size = wd.heap.size := by simp
  replace zs : sb < ((wd.setCell ⟨sb, 2, none⟩ (.int .i64 (se0.tdiv g))).setCell ⟨sb, 3, none⟩ (.int .i64 (se1.tdiv g))).heap.size := by rw [hszQ]; exact zs
  replace r0 := cell_far (u := .int .i64 (se1.tdiv g)) (q := ⟨sb, 3, none⟩) q3 (cell_far (u := .int .i64 (se0.tdiv g)) (q := ⟨sb, 2, none⟩) q3 (r0))
  replace rf0 := frozen_set ⟨sb, 3, none⟩ (.int .i64 (se1.tdiv g)) (frozen_set ⟨sb, 2, none⟩ (.int .i64 (se0.tdiv g)) (rf0))
  replace r1 := cell_far (u := .int .i64 (se1.tdiv g)) (q := ⟨sb, 3, none⟩) q3 (cell_far (u := .int .i64 (se0.tdiv g)) (q := ⟨sb, 2, none⟩) q3 (r1))
  replace rf1 := frozen_set ⟨sb, 3, none⟩ (.int .i64 (se1.tdiv g)) (frozen_set ⟨sb, 2, none⟩ (.int .i64 (se0.tdiv g)) (rf1))
  replace r2 := cell_far (u := .int .i64 (se1.tdiv g)) (q := ⟨sb, 3, none⟩) q3 (cell_far (u := .int .i64 (se0.tdiv g)) (q := ⟨sb, 2, none⟩) q3 (r2))
  replace rf2 := frozen_set ⟨sb, 3, none⟩ (.int .i64 (se1.tdiv g)) (frozen_set ⟨sb, 2, none⟩ (.int .i64 (se0.tdiv g)) (rf2))
  replace r3 := cell_far (u := .int .i64 (se1.tdiv g)) (q := ⟨sb, 3, none⟩) q3 (cell_far (u := .int .i64 (se0.tdiv g)) (q := ⟨sb, 2, none⟩) q3 (r3))
  replace rf3 := frozen_set ⟨sb, 3, none⟩ (.int .i64 (se1.tdiv g)) (frozen_set ⟨sb, 2, none⟩ (.int .i64 (se0.tdiv g)) (rf3))
  replace r4 := cell_far (u := .int .i64 (se1.tdiv g)) (q := ⟨sb, 3, none⟩) q3 (cell_far (u := .int .i64 (se0.tdiv g)) (q := ⟨sb, 2, none⟩) q3 (r4))
  replace rf4 := frozen_set ⟨sb, 3, none⟩ (.int .i64 (se1.tdiv g)) (frozen_set ⟨sb, 2, none⟩ (.int .i64 (se0.tdiv g)) (rf4))
  replace zr := Nat.lt_of_lt_of_eq zr hszQ.symm
  clear hszQ hd
  generalize ((wd.setCell ⟨sb, 2, none⟩ (.int .i64 (se0.tdiv g))).setCell ⟨sb, 3, none⟩ (.int .i64 (se1.tdiv g))) = we at *
  go_wp2_with (fail)
  obtain ⟨f0, f1, f2, f3, f4⟩ := set5 (v0 := .int .i64 (so0.tdiv g)) (v1 := .int .i64 (so1.tdiv g)) (v2 := .int .i64 (se0.tdiv g)) (v3 := .int .i64 (se1.tdiv g)) (v4 := .int .i64 (nd / g)) r0 r1 r2 r3 r4
  refine bodyPost_ret (v := .agg #[.int .i64 (so0.tdiv g), .int .i64 (so1.tdiv g), .int .i64 (se0.tdiv g), .int .i64 (se1.tdiv g), .int .i64 (nd / g)]) (by simp [results, Tryz.results101, go_sem, f0, f1, f2, f3, f4]) rfl ?_
  rw [HQ.out]
  have hle : w.heap.size ≤ w.heap.size + 1 + 1 := by omega
  exact ⟨rfl, below_set _ hle (below_set _ hle (below_set _ hle (below_set _ hle (below_set _ hle he))))⟩
end Go.Proofs.YtppghnbabnhnbaaGreatDoor
