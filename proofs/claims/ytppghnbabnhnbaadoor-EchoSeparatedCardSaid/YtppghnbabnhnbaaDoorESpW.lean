/-
  Chapter 2: EchoSplits, walked.
-/
import Derived.Test.YtppghnbabnhnbaaDoorECsW
import Derived.Test.YtppghnbabnhnbaaDoorECsR
import Derived.Test.YtppghnbabnhnbaaDoorEEqS
import Derived.Test.YtppghnbabnhnbaaDoorEAwk
namespace Go.Proofs.YtppghnbabnhnbaaDoor
open Go.ChangeShapes Go.WideShapes Go.ChangeAt Go.RowKit
set_option linter.unusedVariables false
set_option linter.unusedSimpArgs false

theorem mixE_1 {mo me x0 x1 : Gs} (h : mdsE mo me ≠ 0) : mixE mo me x0 x1 = mdsE mo me := by unfold mixE; rw [firstE_nz h]
theorem mixE_2 {mo me x0 x1 : Gs} (h : mdsE mo me = 0) : mixE mo me x0 x1 = pairE x0 x1 := by unfold mixE; rw [h, firstE_z, firstE1]
theorem mixQ_e {mo me x0 x1 : Gs} (h : mixE mo me x0 x1 ≠ 0) : mixQ mo me x0 x1 = ((gz, gz), mixE mo me x0 x1) := if_neg h
theorem sepQ_e {mo me x0 x1 : Gs} (h : mixE mo me x0 x1 ≠ 0) : sepQ mo me x0 x1 = (splz, mixE mo me x0 x1) := if_neg h
theorem csQ_e {mo me x0 x1 : Gs} {s : Spl} (h : mixE mo me x0 x1 ≠ 0) : csQ mo me x0 x1 s = (0, mixE mo me x0 x1) := if_pos h
theorem mixQ_z {mo me x0 x1 : Gs} (h : mixE mo me x0 x1 = 0) : mixQ mo me x0 x1 = ((mixA x0 x1, mixB mo me x0 x1), 0) := if_pos h
theorem sepQ_z {mo me x0 x1 : Gs} (h : mixE mo me x0 x1 = 0) : sepQ mo me x0 x1 = (sepP mo me x0 x1, 0) := if_pos h
theorem csQ_z {mo me x0 x1 : Gs} {s : Spl} (h : mixE mo me x0 x1 = 0) : csQ mo me x0 x1 s = csT mo me x0 x1 s := if_neg (by simpa using h)
set_option maxRecDepth 100000 in
set_option maxHeartbeats 16000000 in
theorem EchoSplits_any (mo me x0 x1 : Gs) (s : Spl) (w : World) (ht : Tab w) (hr : SplR s) :
    Calls Tryd.prog 11 #[gv2 mo me, gv2 x0 x1, spv s] w fun e w' => e = .returned (.bool true) ∧ Below w.heap.size w w' := by
  have HT := Lib.hid ht
  have HM := Lib.hid (fun W => Mixed_any mo me x0 x1 W)
  have HS := Lib.hid (fun W => Separated_any mo me x0 x1 W)
  have HC := Lib.hid (fun W => CheckSplit_any mo me x0 x1 s W hr)
  have M1 := Lib.hid (fun W => RCheckModes_any mo me W)
  have M2 := Lib.hid (fun W => CheckModes_any mo me W)
  have HP := Lib.hid (fun W => RPairErr_any x0 x1 W)
  have E1 := Lib.hid (@mixE_1 mo me x0 x1)
  have E2 := Lib.hid (@mixE_2 mo me x0 x1)
  have Q1 := Lib.hid (@mixQ_e mo me x0 x1)
  have Q2 := Lib.hid (@sepQ_e mo me x0 x1)
  have Q3 := Lib.hid (@csQ_e mo me x0 x1 s)
  have Z1 := Lib.hid (@mixQ_z mo me x0 x1)
  have Z2 := Lib.hid (@sepQ_z mo me x0 x1)
  have Z3 := Lib.hid (@csQ_z mo me x0 x1 s)
  have R1 := Lib.hid (fun (h : mixE mo me x0 x1 = 0) W => RMixed_any mo me x0 x1 W (mixE_zero h).1 ((mixE_zero h).2.1.mono (by decide)) ((mixE_zero h).2.2.mono (by decide)))
  have R2 := Lib.hid (fun (h : mixE mo me x0 x1 = 0) W => RSeparated_any mo me x0 x1 W (mixE_zero h).1 (mixE_zero h).2.1 (mixE_zero h).2.2)
  have R3 := Lib.hid (fun (h : mixE mo me x0 x1 = 0) W => RCheckSplit_any mo me x0 x1 s W (mixE_zero h).1 (mixE_zero h).2.1 (mixE_zero h).2.2)
  have hpe := eqP (mixQ mo me x0 x1).1.1 (mixQ mo me x0 x1).1.2 (mixQ mo me x0 x1).1.1 (mixQ mo me x0 x1).1.2
  have hse := eqS (sepQ mo me x0 x1).1 (sepQ mo me x0 x1).1
  rw [eqB_self, eqB_self] at hpe
  rw [eqSp_self] at hse
  have hpz := eqP gz gz gz gz
  have hsz := eqS splz splz
  rw [eqB_self] at hpz
  rw [eqSp_self] at hsz
  have HPV := Lib.hid (pairE_cases x0 x1)
  clear ht hr
  rcases hmq : mixQ mo me x0 x1 with ⟨⟨a, b⟩, e1⟩
  rcases hsq : sepQ mo me x0 x1 with ⟨u, e2⟩
  rcases hcq : csQ mo me x0 x1 s with ⟨v, e3⟩
  rw [hmq] at HM Q1 Z1 hpe
  rw [hsq] at HS Q2 Z2 hse
  rw [hcq] at HC Q3 Z3
  clear hmq hsq hcq
  generalize mdsE mo me = ms at *
  generalize pairE x0 x1 = PE at *
  generalize mixE mo me x0 x1 = mE at *
  generalize mixA x0 x1 = ra at *
  generalize mixB mo me x0 x1 = rb at *
  generalize sepP mo me x0 x1 = ru at *
  rcases hct : csT mo me x0 x1 s with ⟨rv0, rv1⟩
  rw [hct] at R3 Z3
  clear hct
  obtain ⟨mo0, mo1⟩ := mo
  obtain ⟨me0, me1⟩ := me
  obtain ⟨x00, x01⟩ := x0
  obtain ⟨x10, x11⟩ := x1
  obtain ⟨⟨s0, s1⟩, ⟨s2, s3⟩, d⟩ := s
  obtain ⟨a0, a1⟩ := a
  obtain ⟨b0, b1⟩ := b
  obtain ⟨⟨u0, u1⟩, ⟨u2, u3⟩, u4⟩ := u
  simp only [gv, gv2, spv, gz, splz] at *
  go_enter Tryd.func11, Tryd.ntmps11
  go_upto_region 1 with (fail)
  have hb0 : Below w.heap.size w (((w.alloc (.cells #[.int .i64 mo0, .int .i64 mo1, .int .i64 me0, .int .i64 me1] 54)).alloc (.cells #[.int .i64 x00, .int .i64 x01, .int .i64 x10, .int .i64 x11] 57)).alloc (.cells #[.int .i64 s0, .int .i64 s1, .int .i64 s2, .int .i64 s3, .int .i64 d] 108)) := below_alloc _ (Nat.le_refl _) (below_alloc _ (Nat.le_refl _) (below_alloc _ (Nat.le_refl _) (Below.refl _ _)))
  have m0 : (((w.alloc (.cells #[.int .i64 mo0, .int .i64 mo1, .int .i64 me0, .int .i64 me1] 54)).alloc (.cells #[.int .i64 x00, .int .i64 x01, .int .i64 x10, .int .i64 x11] 57)).alloc (.cells #[.int .i64 s0, .int .i64 s1, .int .i64 s2, .int .i64 s3, .int .i64 d] 108)).cell? ⟨w.heap.size, 0, none⟩ = some (.int .i64 mo0) := cell_alloc _ (cell_alloc _ (cell_new (by simp) rfl))
  have m1 : (((w.alloc (.cells #[.int .i64 mo0, .int .i64 mo1, .int .i64 me0, .int .i64 me1] 54)).alloc (.cells #[.int .i64 x00, .int .i64 x01, .int .i64 x10, .int .i64 x11] 57)).alloc (.cells #[.int .i64 s0, .int .i64 s1, .int .i64 s2, .int .i64 s3, .int .i64 d] 108)).cell? ⟨w.heap.size, 1, none⟩ = some (.int .i64 mo1) := cell_alloc _ (cell_alloc _ (cell_new (by simp) rfl))
  have m2 : (((w.alloc (.cells #[.int .i64 mo0, .int .i64 mo1, .int .i64 me0, .int .i64 me1] 54)).alloc (.cells #[.int .i64 x00, .int .i64 x01, .int .i64 x10, .int .i64 x11] 57)).alloc (.cells #[.int .i64 s0, .int .i64 s1, .int .i64 s2, .int .i64 s3, .int .i64 d] 108)).cell? ⟨w.heap.size, 2, none⟩ = some (.int .i64 me0) := cell_alloc _ (cell_alloc _ (cell_new (by simp) rfl))
  have m3 : (((w.alloc (.cells #[.int .i64 mo0, .int .i64 mo1, .int .i64 me0, .int .i64 me1] 54)).alloc (.cells #[.int .i64 x00, .int .i64 x01, .int .i64 x10, .int .i64 x11] 57)).alloc (.cells #[.int .i64 s0, .int .i64 s1, .int .i64 s2, .int .i64 s3, .int .i64 d] 108)).cell? ⟨w.heap.size, 3, none⟩ = some (.int .i64 me1) := cell_alloc _ (cell_alloc _ (cell_new (by simp) rfl))
  have zm : w.heap.size < (((w.alloc (.cells #[.int .i64 mo0, .int .i64 mo1, .int .i64 me0, .int .i64 me1] 54)).alloc (.cells #[.int .i64 x00, .int .i64 x01, .int .i64 x10, .int .i64 x11] 57)).alloc (.cells #[.int .i64 s0, .int .i64 s1, .int .i64 s2, .int .i64 s3, .int .i64 d] 108)).heap.size := World.block_lt_of_cell? _ _ m0
  have x0 : (((w.alloc (.cells #[.int .i64 mo0, .int .i64 mo1, .int .i64 me0, .int .i64 me1] 54)).alloc (.cells #[.int .i64 x00, .int .i64 x01, .int .i64 x10, .int .i64 x11] 57)).alloc (.cells #[.int .i64 s0, .int .i64 s1, .int .i64 s2, .int .i64 s3, .int .i64 d] 108)).cell? ⟨w.heap.size + 1, 0, none⟩ = some (.int .i64 x00) := cell_alloc _ (cell_new (by simp) rfl)
  have x1 : (((w.alloc (.cells #[.int .i64 mo0, .int .i64 mo1, .int .i64 me0, .int .i64 me1] 54)).alloc (.cells #[.int .i64 x00, .int .i64 x01, .int .i64 x10, .int .i64 x11] 57)).alloc (.cells #[.int .i64 s0, .int .i64 s1, .int .i64 s2, .int .i64 s3, .int .i64 d] 108)).cell? ⟨w.heap.size + 1, 1, none⟩ = some (.int .i64 x01) := cell_alloc _ (cell_new (by simp) rfl)
  have x2 : (((w.alloc (.cells #[.int .i64 mo0, .int .i64 mo1, .int .i64 me0, .int .i64 me1] 54)).alloc (.cells #[.int .i64 x00, .int .i64 x01, .int .i64 x10, .int .i64 x11] 57)).alloc (.cells #[.int .i64 s0, .int .i64 s1, .int .i64 s2, .int .i64 s3, .int .i64 d] 108)).cell? ⟨w.heap.size + 1, 2, none⟩ = some (.int .i64 x10) := cell_alloc _ (cell_new (by simp) rfl)
  have x3 : (((w.alloc (.cells #[.int .i64 mo0, .int .i64 mo1, .int .i64 me0, .int .i64 me1] 54)).alloc (.cells #[.int .i64 x00, .int .i64 x01, .int .i64 x10, .int .i64 x11] 57)).alloc (.cells #[.int .i64 s0, .int .i64 s1, .int .i64 s2, .int .i64 s3, .int .i64 d] 108)).cell? ⟨w.heap.size + 1, 3, none⟩ = some (.int .i64 x11) := cell_alloc _ (cell_new (by simp) rfl)
  have zx : w.heap.size + 1 < (((w.alloc (.cells #[.int .i64 mo0, .int .i64 mo1, .int .i64 me0, .int .i64 me1] 54)).alloc (.cells #[.int .i64 x00, .int .i64 x01, .int .i64 x10, .int .i64 x11] 57)).alloc (.cells #[.int .i64 s0, .int .i64 s1, .int .i64 s2, .int .i64 s3, .int .i64 d] 108)).heap.size := World.block_lt_of_cell? _ _ x0
  have p0 : (((w.alloc (.cells #[.int .i64 mo0, .int .i64 mo1, .int .i64 me0, .int .i64 me1] 54)).alloc (.cells #[.int .i64 x00, .int .i64 x01, .int .i64 x10, .int .i64 x11] 57)).alloc (.cells #[.int .i64 s0, .int .i64 s1, .int .i64 s2, .int .i64 s3, .int .i64 d] 108)).cell? ⟨w.heap.size + 1 + 1, 0, none⟩ = some (.int .i64 s0) := cell_new (by simp) rfl
  have p1 : (((w.alloc (.cells #[.int .i64 mo0, .int .i64 mo1, .int .i64 me0, .int .i64 me1] 54)).alloc (.cells #[.int .i64 x00, .int .i64 x01, .int .i64 x10, .int .i64 x11] 57)).alloc (.cells #[.int .i64 s0, .int .i64 s1, .int .i64 s2, .int .i64 s3, .int .i64 d] 108)).cell? ⟨w.heap.size + 1 + 1, 1, none⟩ = some (.int .i64 s1) := cell_new (by simp) rfl
  have p2 : (((w.alloc (.cells #[.int .i64 mo0, .int .i64 mo1, .int .i64 me0, .int .i64 me1] 54)).alloc (.cells #[.int .i64 x00, .int .i64 x01, .int .i64 x10, .int .i64 x11] 57)).alloc (.cells #[.int .i64 s0, .int .i64 s1, .int .i64 s2, .int .i64 s3, .int .i64 d] 108)).cell? ⟨w.heap.size + 1 + 1, 2, none⟩ = some (.int .i64 s2) := cell_new (by simp) rfl
  have p3 : (((w.alloc (.cells #[.int .i64 mo0, .int .i64 mo1, .int .i64 me0, .int .i64 me1] 54)).alloc (.cells #[.int .i64 x00, .int .i64 x01, .int .i64 x10, .int .i64 x11] 57)).alloc (.cells #[.int .i64 s0, .int .i64 s1, .int .i64 s2, .int .i64 s3, .int .i64 d] 108)).cell? ⟨w.heap.size + 1 + 1, 3, none⟩ = some (.int .i64 s3) := cell_new (by simp) rfl
  have p4 : (((w.alloc (.cells #[.int .i64 mo0, .int .i64 mo1, .int .i64 me0, .int .i64 me1] 54)).alloc (.cells #[.int .i64 x00, .int .i64 x01, .int .i64 x10, .int .i64 x11] 57)).alloc (.cells #[.int .i64 s0, .int .i64 s1, .int .i64 s2, .int .i64 s3, .int .i64 d] 108)).cell? ⟨w.heap.size + 1 + 1, 4, none⟩ = some (.int .i64 d) := cell_new (by simp) rfl
  have zp : w.heap.size + 1 + 1 < (((w.alloc (.cells #[.int .i64 mo0, .int .i64 mo1, .int .i64 me0, .int .i64 me1] 54)).alloc (.cells #[.int .i64 x00, .int .i64 x01, .int .i64 x10, .int .i64 x11] 57)).alloc (.cells #[.int .i64 s0, .int .i64 s1, .int .i64 s2, .int .i64 s3, .int .i64 d] 108)).heap.size := World.block_lt_of_cell? _ _ p0
  generalize (((w.alloc (.cells #[.int .i64 mo0, .int .i64 mo1, .int .i64 me0, .int .i64 me1] 54)).alloc (.cells #[.int .i64 x00, .int .i64 x01, .int .i64 x10, .int .i64 x11] 57)).alloc (.cells #[.int .i64 s0, .int .i64 s1, .int .i64 s2, .int .i64 s3, .int .i64 d] 108)) = w0 at *
  have HT0 := Lib.hid (HT.out.below hb0)
  go_wp2_with (fail)
  refine (awake_any w0 HT0.out).mono ?_
  rintro e w1 ⟨rfl, hb1⟩
  have h1 : Below w.heap.size w w1 := (hb0).trans ((hb1).mono (hb0).size)
  replace m0 := cell_below' hb1 m0
  replace m1 := cell_below' hb1 m1
  replace m2 := cell_below' hb1 m2
  replace m3 := cell_below' hb1 m3
  replace zm := Nat.lt_of_lt_of_le zm (hb1).size
  replace x0 := cell_below' hb1 x0
  replace x1 := cell_below' hb1 x1
  replace x2 := cell_below' hb1 x2
  replace x3 := cell_below' hb1 x3
  replace zx := Nat.lt_of_lt_of_le zx (hb1).size
  replace p0 := cell_below' hb1 p0
  replace p1 := cell_below' hb1 p1
  replace p2 := cell_below' hb1 p2
  replace p3 := cell_below' hb1 p3
  replace p4 := cell_below' hb1 p4
  replace zp := Nat.lt_of_lt_of_le zp (hb1).size
  clear hb1 hb0
  clear HT HT0
  go_wp2_with (fail)
  refine (HM.out _).mono ?_
  rintro e w2 ⟨rfl, hb2⟩
  have h2 : Below w.heap.size w w2 := (h1).trans ((hb2).mono (h1).size)
  replace m0 := cell_below' hb2 m0
  replace m1 := cell_below' hb2 m1
  replace m2 := cell_below' hb2 m2
  replace m3 := cell_below' hb2 m3
  replace zm := Nat.lt_of_lt_of_le zm (hb2).size
  replace x0 := cell_below' hb2 x0
  replace x1 := cell_below' hb2 x1
  replace x2 := cell_below' hb2 x2
  replace x3 := cell_below' hb2 x3
  replace zx := Nat.lt_of_lt_of_le zx (hb2).size
  replace p0 := cell_below' hb2 p0
  replace p1 := cell_below' hb2 p1
  replace p2 := cell_below' hb2 p2
  replace p3 := cell_below' hb2 p3
  replace p4 := cell_below' hb2 p4
  replace zp := Nat.lt_of_lt_of_le zp (hb2).size
  clear hb2 h1
  go_upto_region 4 with (fail)
  have hb3 : Below w2.heap.size w2 (w2.alloc (.cells #[.int .i64 a0, .int .i64 a1, .int .i64 b0, .int .i64 b1] 57)) := below_alloc _ (Nat.le_refl _) (Below.refl _ _)
  have y0 : (w2.alloc (.cells #[.int .i64 a0, .int .i64 a1, .int .i64 b0, .int .i64 b1] 57)).cell? ⟨w2.heap.size, 0, none⟩ = some (.int .i64 a0) := cell_new (by simp) rfl
  have y1 : (w2.alloc (.cells #[.int .i64 a0, .int .i64 a1, .int .i64 b0, .int .i64 b1] 57)).cell? ⟨w2.heap.size, 1, none⟩ = some (.int .i64 a1) := cell_new (by simp) rfl
  have y2 : (w2.alloc (.cells #[.int .i64 a0, .int .i64 a1, .int .i64 b0, .int .i64 b1] 57)).cell? ⟨w2.heap.size, 2, none⟩ = some (.int .i64 b0) := cell_new (by simp) rfl
  have y3 : (w2.alloc (.cells #[.int .i64 a0, .int .i64 a1, .int .i64 b0, .int .i64 b1] 57)).cell? ⟨w2.heap.size, 3, none⟩ = some (.int .i64 b1) := cell_new (by simp) rfl
  have zy : w2.heap.size < (w2.alloc (.cells #[.int .i64 a0, .int .i64 a1, .int .i64 b0, .int .i64 b1] 57)).heap.size := World.block_lt_of_cell? _ _ y0
  generalize (w2.alloc (.cells #[.int .i64 a0, .int .i64 a1, .int .i64 b0, .int .i64 b1] 57)) = w3 at *
  have h3 : Below w.heap.size w w3 := (h2).trans ((hb3).mono (h2).size)
  replace m0 := cell_below' hb3 m0
  replace m1 := cell_below' hb3 m1
  replace m2 := cell_below' hb3 m2
  replace m3 := cell_below' hb3 m3
  replace zm := Nat.lt_of_lt_of_le zm (hb3).size
  replace x0 := cell_below' hb3 x0
  replace x1 := cell_below' hb3 x1
  replace x2 := cell_below' hb3 x2
  replace x3 := cell_below' hb3 x3
  replace zx := Nat.lt_of_lt_of_le zx (hb3).size
  replace p0 := cell_below' hb3 p0
  replace p1 := cell_below' hb3 p1
  replace p2 := cell_below' hb3 p2
  replace p3 := cell_below' hb3 p3
  replace p4 := cell_below' hb3 p4
  replace zp := Nat.lt_of_lt_of_le zp (hb3).size
  clear hb3 h2
  generalize w2.heap.size = yb at *
  go_wp2_with (fail)
  refine (HS.out _).mono ?_
  rintro e w4 ⟨rfl, hb4⟩
  have h4 : Below w.heap.size w w4 := (h3).trans ((hb4).mono (h3).size)
  replace m0 := cell_below' hb4 m0
  replace m1 := cell_below' hb4 m1
  replace m2 := cell_below' hb4 m2
  replace m3 := cell_below' hb4 m3
  replace zm := Nat.lt_of_lt_of_le zm (hb4).size
  replace x0 := cell_below' hb4 x0
  replace x1 := cell_below' hb4 x1
  replace x2 := cell_below' hb4 x2
  replace x3 := cell_below' hb4 x3
  replace zx := Nat.lt_of_lt_of_le zx (hb4).size
  replace p0 := cell_below' hb4 p0
  replace p1 := cell_below' hb4 p1
  replace p2 := cell_below' hb4 p2
  replace p3 := cell_below' hb4 p3
  replace p4 := cell_below' hb4 p4
  replace zp := Nat.lt_of_lt_of_le zp (hb4).size
  replace y0 := cell_below' hb4 y0
  replace y1 := cell_below' hb4 y1
  replace y2 := cell_below' hb4 y2
  replace y3 := cell_below' hb4 y3
  replace zy := Nat.lt_of_lt_of_le zy (hb4).size
  clear hb4 h3
  go_upto_region 5 with (fail)
  have hb5 : Below w4.heap.size w4 (w4.alloc (.cells #[.int .i64 u0, .int .i64 u1, .int .i64 u2, .int .i64 u3, .int .i64 u4] 108)) := below_alloc _ (Nat.le_refl _) (Below.refl _ _)
  have z0 : (w4.alloc (.cells #[.int .i64 u0, .int .i64 u1, .int .i64 u2, .int .i64 u3, .int .i64 u4] 108)).cell? ⟨w4.heap.size, 0, none⟩ = some (.int .i64 u0) := cell_new (by simp) rfl
  have z1 : (w4.alloc (.cells #[.int .i64 u0, .int .i64 u1, .int .i64 u2, .int .i64 u3, .int .i64 u4] 108)).cell? ⟨w4.heap.size, 1, none⟩ = some (.int .i64 u1) := cell_new (by simp) rfl
  have z2 : (w4.alloc (.cells #[.int .i64 u0, .int .i64 u1, .int .i64 u2, .int .i64 u3, .int .i64 u4] 108)).cell? ⟨w4.heap.size, 2, none⟩ = some (.int .i64 u2) := cell_new (by simp) rfl
  have z3 : (w4.alloc (.cells #[.int .i64 u0, .int .i64 u1, .int .i64 u2, .int .i64 u3, .int .i64 u4] 108)).cell? ⟨w4.heap.size, 3, none⟩ = some (.int .i64 u3) := cell_new (by simp) rfl
  have z4 : (w4.alloc (.cells #[.int .i64 u0, .int .i64 u1, .int .i64 u2, .int .i64 u3, .int .i64 u4] 108)).cell? ⟨w4.heap.size, 4, none⟩ = some (.int .i64 u4) := cell_new (by simp) rfl
  have zz : w4.heap.size < (w4.alloc (.cells #[.int .i64 u0, .int .i64 u1, .int .i64 u2, .int .i64 u3, .int .i64 u4] 108)).heap.size := World.block_lt_of_cell? _ _ z0
  generalize (w4.alloc (.cells #[.int .i64 u0, .int .i64 u1, .int .i64 u2, .int .i64 u3, .int .i64 u4] 108)) = w5 at *
  have h5 : Below w.heap.size w w5 := (h4).trans ((hb5).mono (h4).size)
  replace m0 := cell_below' hb5 m0
  replace m1 := cell_below' hb5 m1
  replace m2 := cell_below' hb5 m2
  replace m3 := cell_below' hb5 m3
  replace zm := Nat.lt_of_lt_of_le zm (hb5).size
  replace x0 := cell_below' hb5 x0
  replace x1 := cell_below' hb5 x1
  replace x2 := cell_below' hb5 x2
  replace x3 := cell_below' hb5 x3
  replace zx := Nat.lt_of_lt_of_le zx (hb5).size
  replace p0 := cell_below' hb5 p0
  replace p1 := cell_below' hb5 p1
  replace p2 := cell_below' hb5 p2
  replace p3 := cell_below' hb5 p3
  replace p4 := cell_below' hb5 p4
  replace zp := Nat.lt_of_lt_of_le zp (hb5).size
  replace y0 := cell_below' hb5 y0
  replace y1 := cell_below' hb5 y1
  replace y2 := cell_below' hb5 y2
  replace y3 := cell_below' hb5 y3
  replace zy := Nat.lt_of_lt_of_le zy (hb5).size
  clear hb5 h4
  generalize w4.heap.size = zb at *
  go_wp2_with (fail)
  refine (HC.out _).mono ?_
  rintro e w6 ⟨rfl, hb6⟩
  have h6 : Below w.heap.size w w6 := (h5).trans ((hb6).mono (h5).size)
  replace m0 := cell_below' hb6 m0
  replace m1 := cell_below' hb6 m1
  replace m2 := cell_below' hb6 m2
  replace m3 := cell_below' hb6 m3
  replace zm := Nat.lt_of_lt_of_le zm (hb6).size
  replace x0 := cell_below' hb6 x0
  replace x1 := cell_below' hb6 x1
  replace x2 := cell_below' hb6 x2
  replace x3 := cell_below' hb6 x3
  replace zx := Nat.lt_of_lt_of_le zx (hb6).size
  replace p0 := cell_below' hb6 p0
  replace p1 := cell_below' hb6 p1
  replace p2 := cell_below' hb6 p2
  replace p3 := cell_below' hb6 p3
  replace p4 := cell_below' hb6 p4
  replace zp := Nat.lt_of_lt_of_le zp (hb6).size
  replace y0 := cell_below' hb6 y0
  replace y1 := cell_below' hb6 y1
  replace y2 := cell_below' hb6 y2
  replace y3 := cell_below' hb6 y3
  replace zy := Nat.lt_of_lt_of_le zy (hb6).size
  replace z0 := cell_below' hb6 z0
  replace z1 := cell_below' hb6 z1
  replace z2 := cell_below' hb6 z2
  replace z3 := cell_below' hb6 z3
  replace z4 := cell_below' hb6 z4
  replace zz := Nat.lt_of_lt_of_le zz (hb6).size
  clear hb6 h5
  go_wp2_with (fail)
  refine (M1.out _).mono ?_
  rintro e w7 ⟨rfl, hb7⟩
  have h7 : Below w.heap.size w w7 := (h6).trans ((hb7).mono (h6).size)
  replace m0 := cell_below' hb7 m0
  replace m1 := cell_below' hb7 m1
  replace m2 := cell_below' hb7 m2
  replace m3 := cell_below' hb7 m3
  replace zm := Nat.lt_of_lt_of_le zm (hb7).size
  replace x0 := cell_below' hb7 x0
  replace x1 := cell_below' hb7 x1
  replace x2 := cell_below' hb7 x2
  replace x3 := cell_below' hb7 x3
  replace zx := Nat.lt_of_lt_of_le zx (hb7).size
  replace p0 := cell_below' hb7 p0
  replace p1 := cell_below' hb7 p1
  replace p2 := cell_below' hb7 p2
  replace p3 := cell_below' hb7 p3
  replace p4 := cell_below' hb7 p4
  replace zp := Nat.lt_of_lt_of_le zp (hb7).size
  replace y0 := cell_below' hb7 y0
  replace y1 := cell_below' hb7 y1
  replace y2 := cell_below' hb7 y2
  replace y3 := cell_below' hb7 y3
  replace zy := Nat.lt_of_lt_of_le zy (hb7).size
  replace z0 := cell_below' hb7 z0
  replace z1 := cell_below' hb7 z1
  replace z2 := cell_below' hb7 z2
  replace z3 := cell_below' hb7 z3
  replace z4 := cell_below' hb7 z4
  replace zz := Nat.lt_of_lt_of_le zz (hb7).size
  clear hb7 h6
  go_wp2_with (fail)
  refine (M2.out _).mono ?_
  rintro e w8 ⟨rfl, hb8⟩
  have h8 : Below w.heap.size w w8 := (h7).trans ((hb8).mono (h7).size)
  replace m0 := cell_below' hb8 m0
  replace m1 := cell_below' hb8 m1
  replace m2 := cell_below' hb8 m2
  replace m3 := cell_below' hb8 m3
  replace zm := Nat.lt_of_lt_of_le zm (hb8).size
  replace x0 := cell_below' hb8 x0
  replace x1 := cell_below' hb8 x1
  replace x2 := cell_below' hb8 x2
  replace x3 := cell_below' hb8 x3
  replace zx := Nat.lt_of_lt_of_le zx (hb8).size
  replace p0 := cell_below' hb8 p0
  replace p1 := cell_below' hb8 p1
  replace p2 := cell_below' hb8 p2
  replace p3 := cell_below' hb8 p3
  replace p4 := cell_below' hb8 p4
  replace zp := Nat.lt_of_lt_of_le zp (hb8).size
  replace y0 := cell_below' hb8 y0
  replace y1 := cell_below' hb8 y1
  replace y2 := cell_below' hb8 y2
  replace y3 := cell_below' hb8 y3
  replace zy := Nat.lt_of_lt_of_le zy (hb8).size
  replace z0 := cell_below' hb8 z0
  replace z1 := cell_below' hb8 z1
  replace z2 := cell_below' hb8 z2
  replace z3 := cell_below' hb8 z3
  replace z4 := cell_below' hb8 z4
  replace zz := Nat.lt_of_lt_of_le zz (hb8).size
  clear hb8 h7
  clear HM HS HC M1 M2
  have hne : (ms != ms) = false := by simp
  by_cases hm : ms = 0
  rotate_left 1
  · have hE0 := E1.out hm
    subst hE0
    have hE : mE ≠ 0 := hm
    obtain ⟨⟨⟨rfl, rfl⟩, ⟨rfl, rfl⟩⟩, rfl⟩ : ((a0 = 0 ∧ a1 = 0) ∧ (b0 = 0 ∧ b1 = 0)) ∧ e1 = mE := by simpa using Q1.out hE
    obtain ⟨⟨⟨rfl, rfl⟩, ⟨rfl, rfl⟩, rfl⟩, rfl⟩ : ((u0 = 0 ∧ u1 = 0) ∧ (u2 = 0 ∧ u3 = 0) ∧ u4 = 0) ∧ e2 = e1 := by simpa using Q2.out hE
    obtain ⟨rfl, rfl⟩ : v = 0 ∧ e3 = e2 := by simpa using Q3.out hE
    have t1 : (e3 == 0) = false := by simpa using hm
    have t2 : (e3 != 0) = true := by simpa using hm
    have t3 : (e3 == e3) = true := by simp
    clear E1 E2 Q1 Q2 Q3 Z1 Z2 Z3 R1 R2 R3 HPV HP hm hE hpe hse
    go_wp2_with (fail)
    go_ret
    exact ⟨rfl, h8⟩
  have hE0 := E2.out hm
  subst hE0
  subst hm
  go_wp2_with (fail)
  refine (HP.out _).mono ?_
  rintro e w9 ⟨rfl, hb9⟩
  have h9 : Below w.heap.size w w9 := (h8).trans ((hb9).mono (h8).size)
  replace m0 := cell_below' hb9 m0
  replace m1 := cell_below' hb9 m1
  replace m2 := cell_below' hb9 m2
  replace m3 := cell_below' hb9 m3
  replace zm := Nat.lt_of_lt_of_le zm (hb9).size
  replace x0 := cell_below' hb9 x0
  replace x1 := cell_below' hb9 x1
  replace x2 := cell_below' hb9 x2
  replace x3 := cell_below' hb9 x3
  replace zx := Nat.lt_of_lt_of_le zx (hb9).size
  replace p0 := cell_below' hb9 p0
  replace p1 := cell_below' hb9 p1
  replace p2 := cell_below' hb9 p2
  replace p3 := cell_below' hb9 p3
  replace p4 := cell_below' hb9 p4
  replace zp := Nat.lt_of_lt_of_le zp (hb9).size
  replace y0 := cell_below' hb9 y0
  replace y1 := cell_below' hb9 y1
  replace y2 := cell_below' hb9 y2
  replace y3 := cell_below' hb9 y3
  replace zy := Nat.lt_of_lt_of_le zy (hb9).size
  replace z0 := cell_below' hb9 z0
  replace z1 := cell_below' hb9 z1
  replace z2 := cell_below' hb9 z2
  replace z3 := cell_below' hb9 z3
  replace z4 := cell_below' hb9 z4
  replace zz := Nat.lt_of_lt_of_le zz (hb9).size
  clear hb9 h8
  rcases HPV.out with hp | hp
  rotate_left 1
  · subst hp
    obtain ⟨⟨⟨rfl, rfl⟩, ⟨rfl, rfl⟩⟩, rfl⟩ : ((a0 = 0 ∧ a1 = 0) ∧ (b0 = 0 ∧ b1 = 0)) ∧ e1 = 2 := by simpa using Q1.out (by decide)
    obtain ⟨⟨⟨rfl, rfl⟩, ⟨rfl, rfl⟩, rfl⟩, rfl⟩ : ((u0 = 0 ∧ u1 = 0) ∧ (u2 = 0 ∧ u3 = 0) ∧ u4 = 0) ∧ e2 = 2 := by simpa using Q2.out (by decide)
    obtain ⟨rfl, rfl⟩ : v = 0 ∧ e3 = 2 := by simpa using Q3.out (by decide)
    clear E1 E2 Q1 Q2 Q3 Z1 Z2 Z3 R1 R2 R3 HPV HP hpe hse
    go_wp2_with (fail)
    go_ret
    exact ⟨rfl, h9⟩
  subst hp
  have z1 := Z1.out rfl
  have z2 := Z2.out rfl
  have z3 := Z3.out rfl
  simp only [Prod.mk.injEq] at z1 z2 z3
  obtain ⟨⟨rfl, rfl⟩, rfl⟩ := z1
  obtain ⟨rfl, rfl⟩ := z2
  obtain ⟨rfl, rfl⟩ := z3
  have RR1 := Lib.hid (fun W => R1.out rfl W)
  have RR2 := Lib.hid (fun W => R2.out rfl W)
  have RR3 := Lib.hid (fun W => R3.out rfl W)
  have t1 : (v == v) = true := by simp
  have t2 : (e3 == e3) = true := by simp
  clear E1 E2 Q1 Q2 Q3 Z1 Z2 Z3 R1 R2 R3 HPV HP hpz hsz
  go_wp2_with (fail)
  refine (RR3.out _).mono ?_
  rintro e wa ⟨rfl, hba⟩
  have ha : Below w.heap.size w wa := (h9).trans ((hba).mono (h9).size)
  replace m0 := cell_below' hba m0
  replace m1 := cell_below' hba m1
  replace m2 := cell_below' hba m2
  replace m3 := cell_below' hba m3
  replace zm := Nat.lt_of_lt_of_le zm (hba).size
  replace x0 := cell_below' hba x0
  replace x1 := cell_below' hba x1
  replace x2 := cell_below' hba x2
  replace x3 := cell_below' hba x3
  replace zx := Nat.lt_of_lt_of_le zx (hba).size
  replace p0 := cell_below' hba p0
  replace p1 := cell_below' hba p1
  replace p2 := cell_below' hba p2
  replace p3 := cell_below' hba p3
  replace p4 := cell_below' hba p4
  replace zp := Nat.lt_of_lt_of_le zp (hba).size
  replace y0 := cell_below' hba y0
  replace y1 := cell_below' hba y1
  replace y2 := cell_below' hba y2
  replace y3 := cell_below' hba y3
  replace zy := Nat.lt_of_lt_of_le zy (hba).size
  replace z0 := cell_below' hba z0
  replace z1 := cell_below' hba z1
  replace z2 := cell_below' hba z2
  replace z3 := cell_below' hba z3
  replace z4 := cell_below' hba z4
  replace zz := Nat.lt_of_lt_of_le zz (hba).size
  clear hba h9
  go_upto_region 14 with (fail)
  (refine region_extx 33 (by kernel_rfl) (by kernel_rfl) fun hx => ?_; simp only [List.take_succ_cons, List.take_zero, List.drop_succ_cons, List.drop_zero]; (repeat (any_goals (first | go_big_quiet_step ((first | ((go_at_call 70; with_reducible exact ext_call (RR1.out _))) | ((go_at_call 71; with_reducible exact ext_call (RR2.out _))))) | quiet_step ((first | ((go_at_call 70; with_reducible exact ext_call (RR1.out _))) | ((go_at_call 71; with_reducible exact ext_call (RR2.out _)))))))))
  (refine wpQuiet_nil ?_; clear hx; intro u; have hbwb := ext_bel _ u; have hxwb := ext_cell _ u; generalize ext _ u = wb at *; clear u; have hswb := hbwb.size; (try simp at hswb))
  have hb := ha.trans (hbwb.mono ha.size)
  go_wp2_with (fail)
  go_ret
  exact ⟨rfl, hb⟩
end Go.Proofs.YtppghnbabnhnbaaDoor
