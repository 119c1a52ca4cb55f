/-
  Chapter 2: EchoRuled, walked.
-/
import Derived.Test.YtppghnbabnhnbaaDoorETgR
import Derived.Test.YtppghnbabnhnbaaDoorEAwk
namespace Go.Proofs.YtppghnbabnhnbaaDoor
open Go.ChangeShapes Go.WideShapes Go.ChangeAt Go.RowKit
set_option linter.unusedVariables false
set_option linter.unusedSimpArgs false

theorem eqRg (a b : Int) (w : World) : (binOp .eql 60 (.agg #[.int .i64 a, .int .i64 b]) (.agg #[.int .i64 a, .int .i64 b])).run Tryd.prog w = .ok (.bool true) w := by
  have hS : Tryd.prog.underlying 60 = some (.struct (Tryd.prog.fieldsOf 60)) := by kernel_rfl
  have hp : Tryd.prog.stoodInHeld 60 = false := by kernel_rfl
  rw [run_eql_struct, show (10000 : Nat) = 9999 + 1 from rfl, run_equalIn_agg w 9999 60 _ _ hS hp]
  simp only [Program.fieldsOf, Tryd.underlying60]
  have h0 : (a == a) = true := by simp
  have h1 : (b == b) = true := by simp
  go_simp
theorem neRg (a b : Int) (w : World) : (binOp .neq 60 (.agg #[.int .i64 a, .int .i64 b]) (.agg #[.int .i64 a, .int .i64 b])).run Tryd.prog w = .ok (.bool false) w := by
  have hS : Tryd.prog.underlying 60 = some (.struct (Tryd.prog.fieldsOf 60)) := by kernel_rfl
  have hp : Tryd.prog.stoodInHeld 60 = false := by kernel_rfl
  rw [run_neq_struct, show (10000 : Nat) = 9999 + 1 from rfl, run_equalIn_agg w 9999 60 _ _ hS hp]
  simp only [Program.fieldsOf, Tryd.underlying60]
  have h0 : (a == a) = true := by simp
  have h1 : (b == b) = true := by simp
  go_simp
theorem tagQ_1 {r : Ru} {x0 x1 : Gs} (h : ruE r ≠ 0) : tagQ r x0 x1 = (0, ruE r) := by
  have e : tagE r x0 x1 = ruE r := by unfold tagE; rw [firstE_nz h]
  unfold tagQ; rw [if_neg (by rw [e]; exact h), e]
theorem tagQ_2 {r : Ru} {x0 x1 : Gs} (h : ruE r = 0) (h2 : pairE x0 x1 = 2) : tagQ r x0 x1 = (0, 2) := by
  have e : tagE r x0 x1 = 2 := by unfold tagE; rw [h, firstE_z, firstE1, h2]
  unfold tagQ; rw [if_neg (by rw [e]; decide), e]
theorem tagQ_3 {r : Ru} {x0 x1 : Gs} (h : ruE r = 0) (h2 : pairE x0 x1 = 0) : tagQ r x0 x1 = (tagP r x0 x1, 0) := by
  have e : tagE r x0 x1 = 0 := by unfold tagE; rw [h, firstE_z, firstE1, h2]
  unfold tagQ; rw [if_pos e]
theorem hgtQ_1 {r : Ru} {lag : Int} (h : ruE r ≠ 0) : hgtQ r lag = (⟨0, 0⟩, ruE r) := by
  have e : hgtE r lag = ruE r := by unfold hgtE; rw [firstE_nz h]
  unfold hgtQ; rw [if_neg (by rw [e]; exact h), e]; rfl
theorem hgtQ_2 {r : Ru} {lag : Int} (h : ruE r = 0) (h2 : withinB lag 0 1000000 = false) : hgtQ r lag = (⟨0, 0⟩, 2) := by
  have e : hgtE r lag = 2 := by unfold hgtE; rw [h, firstE_z, firstE1, h2]; rfl
  unfold hgtQ; rw [if_neg (by rw [e]; decide), e]; rfl
theorem hgtQ_3 {r : Ru} {lag : Int} (h : ruE r = 0) (h2 : withinB lag 0 1000000 = true) : hgtQ r lag = (hgtP r lag, 0) := by
  have e : hgtE r lag = 0 := by unfold hgtE; rw [h, firstE_z, firstE1, h2]; rfl
  unfold hgtQ; rw [if_pos e]
set_option maxRecDepth 100000 in
set_option maxHeartbeats 16000000 in
theorem EchoRuled_any (r : Ru) (x0 x1 : Gs) (lag : Int) (w : World) (ht : Tab w) :
    Calls Tryd.prog 5 #[ruv r, gv2 x0 x1, .int .i64 lag] w fun e w' => e = .returned (.bool true) ∧ Below w.heap.size w w' := by
  have HT := Lib.hid ht
  have HG := Lib.hid (fun W => TagOf_any r x0 x1 W)
  have HH := Lib.hid (fun W => HeightsOf_any r lag W)
  have HC1 := Lib.hid (fun W => RCheckRules_any r W)
  have HC2 := Lib.hid (fun W => CheckRules_any r W)
  have HW := Lib.hid (fun W => Within_any lag 0 1000000 W)
  have HPE := Lib.hid (fun W => RPairErr_any x0 x1 W)
  have T1 := Lib.hid (@tagQ_1 r x0 x1)
  have T2 := Lib.hid (@tagQ_2 r x0 x1)
  have T3 := Lib.hid (@tagQ_3 r x0 x1)
  have H1 := Lib.hid (@hgtQ_1 r lag)
  have H2 := Lib.hid (@hgtQ_2 r lag)
  have H3 := Lib.hid (@hgtQ_3 r lag)
  have RT := Lib.hid (fun (h : ruE r = 0) (h2 : pairE x0 x1 = 0) W => RTag_any r x0 x1 W (ruE_zero h) (pairE_zero h2).1 (pairE_zero h2).2)
  have RH := Lib.hid (fun (h : ruE r = 0) (h2 : withinB lag 0 1000000 = true) W => RHeights_any r lag W (ruE_zero h) (withinB_true.1 h2).1 (withinB_true.1 h2).2)
  have HPV := Lib.hid (pairE_cases x0 x1)
  clear ht
  rcases htq : tagQ r x0 x1 with ⟨t1, t2⟩
  rcases hhq : hgtQ r lag with ⟨⟨h0, h1⟩, h2⟩
  rw [htq] at HG T1 T2 T3
  rw [hhq] at HH H1 H2 H3
  clear htq hhq
  generalize ruE r = E at *
  generalize pairE x0 x1 = PE at *
  generalize withinB lag 0 1000000 = bL at *
  generalize tagP r x0 x1 = tg at *
  generalize hgtP r lag = hg at *
  obtain ⟨hg0, hg1⟩ := hg
  obtain ⟨⟨mo0, mo1⟩, ⟨me0, me1⟩, ra, no, po, ce, st, du⟩ := r
  obtain ⟨x00, x01⟩ := x0
  obtain ⟨x10, x11⟩ := x1
  simp only [gv, gv2, ruv] at *
  go_enter Tryd.func5, Tryd.ntmps5
  go_upto_region 1 with (fail)
  have hb0 : Below w.heap.size w ((w.alloc (.cells #[.int .i64 mo0, .int .i64 mo1, .int .i64 me0, .int .i64 me1, .int .i64 ra, .int .i64 no, .int .i64 po, .int .i64 ce, .int .i64 st, .int .i64 du] 56)).alloc (.cells #[.int .i64 x00, .int .i64 x01, .int .i64 x10, .int .i64 x11] 57)) := below_alloc _ (Nat.le_refl _) (below_alloc _ (Nat.le_refl _) (Below.refl _ _))
  have r0 : ((w.alloc (.cells #[.int .i64 mo0, .int .i64 mo1, .int .i64 me0, .int .i64 me1, .int .i64 ra, .int .i64 no, .int .i64 po, .int .i64 ce, .int .i64 st, .int .i64 du] 56)).alloc (.cells #[.int .i64 x00, .int .i64 x01, .int .i64 x10, .int .i64 x11] 57)).cell? ⟨w.heap.size, 0, none⟩ = some (.int .i64 mo0) := cell_alloc _ (cell_new (by simp) rfl)
  have r1 : ((w.alloc (.cells #[.int .i64 mo0, .int .i64 mo1, .int .i64 me0, .int .i64 me1, .int .i64 ra, .int .i64 no, .int .i64 po, .int .i64 ce, .int .i64 st, .int .i64 du] 56)).alloc (.cells #[.int .i64 x00, .int .i64 x01, .int .i64 x10, .int .i64 x11] 57)).cell? ⟨w.heap.size, 1, none⟩ = some (.int .i64 mo1) := cell_alloc _ (cell_new (by simp) rfl)
  have r2 : ((w.alloc (.cells #[.int .i64 mo0, .int .i64 mo1, .int .i64 me0, .int .i64 me1, .int .i64 ra, .int .i64 no, .int .i64 po, .int .i64 ce, .int .i64 st, .int .i64 du] 56)).alloc (.cells #[.int .i64 x00, .int .i64 x01, .int .i64 x10, .int .i64 x11] 57)).cell? ⟨w.heap.size, 2, none⟩ = some (.int .i64 me0) := cell_alloc _ (cell_new (by simp) rfl)
  have r3 : ((w.alloc (.cells #[.int .i64 mo0, .int .i64 mo1, .int .i64 me0, .int .i64 me1, .int .i64 ra, .int .i64 no, .int .i64 po, .int .i64 ce, .int .i64 st, .int .i64 du] 56)).alloc (.cells #[.int .i64 x00, .int .i64 x01, .int .i64 x10, .int .i64 x11] 57)).cell? ⟨w.heap.size, 3, none⟩ = some (.int .i64 me1) := cell_alloc _ (cell_new (by simp) rfl)
  have r4 : ((w.alloc (.cells #[.int .i64 mo0, .int .i64 mo1, .int .i64 me0, .int .i64 me1, .int .i64 ra, .int .i64 no, .int .i64 po, .int .i64 ce, .int .i64 st, .int .i64 du] 56)).alloc (.cells #[.int .i64 x00, .int .i64 x01, .int .i64 x10, .int .i64 x11] 57)).cell? ⟨w.heap.size, 4, none⟩ = some (.int .i64 ra) := cell_alloc _ (cell_new (by simp) rfl)
  have r5 : ((w.alloc (.cells #[.int .i64 mo0, .int .i64 mo1, .int .i64 me0, .int .i64 me1, .int .i64 ra, .int .i64 no, .int .i64 po, .int .i64 ce, .int .i64 st, .int .i64 du] 56)).alloc (.cells #[.int .i64 x00, .int .i64 x01, .int .i64 x10, .int .i64 x11] 57)).cell? ⟨w.heap.size, 5, none⟩ = some (.int .i64 no) := cell_alloc _ (cell_new (by simp) rfl)
  have r6 : ((w.alloc (.cells #[.int .i64 mo0, .int .i64 mo1, .int .i64 me0, .int .i64 me1, .int .i64 ra, .int .i64 no, .int .i64 po, .int .i64 ce, .int .i64 st, .int .i64 du] 56)).alloc (.cells #[.int .i64 x00, .int .i64 x01, .int .i64 x10, .int .i64 x11] 57)).cell? ⟨w.heap.size, 6, none⟩ = some (.int .i64 po) := cell_alloc _ (cell_new (by simp) rfl)
  have r7 : ((w.alloc (.cells #[.int .i64 mo0, .int .i64 mo1, .int .i64 me0, .int .i64 me1, .int .i64 ra, .int .i64 no, .int .i64 po, .int .i64 ce, .int .i64 st, .int .i64 du] 56)).alloc (.cells #[.int .i64 x00, .int .i64 x01, .int .i64 x10, .int .i64 x11] 57)).cell? ⟨w.heap.size, 7, none⟩ = some (.int .i64 ce) := cell_alloc _ (cell_new (by simp) rfl)
  have r8 : ((w.alloc (.cells #[.int .i64 mo0, .int .i64 mo1, .int .i64 me0, .int .i64 me1, .int .i64 ra, .int .i64 no, .int .i64 po, .int .i64 ce, .int .i64 st, .int .i64 du] 56)).alloc (.cells #[.int .i64 x00, .int .i64 x01, .int .i64 x10, .int .i64 x11] 57)).cell? ⟨w.heap.size, 8, none⟩ = some (.int .i64 st) := cell_alloc _ (cell_new (by simp) rfl)
  have r9 : ((w.alloc (.cells #[.int .i64 mo0, .int .i64 mo1, .int .i64 me0, .int .i64 me1, .int .i64 ra, .int .i64 no, .int .i64 po, .int .i64 ce, .int .i64 st, .int .i64 du] 56)).alloc (.cells #[.int .i64 x00, .int .i64 x01, .int .i64 x10, .int .i64 x11] 57)).cell? ⟨w.heap.size, 9, none⟩ = some (.int .i64 du) := cell_alloc _ (cell_new (by simp) rfl)
  have zr : w.heap.size < ((w.alloc (.cells #[.int .i64 mo0, .int .i64 mo1, .int .i64 me0, .int .i64 me1, .int .i64 ra, .int .i64 no, .int .i64 po, .int .i64 ce, .int .i64 st, .int .i64 du] 56)).alloc (.cells #[.int .i64 x00, .int .i64 x01, .int .i64 x10, .int .i64 x11] 57)).heap.size := World.block_lt_of_cell? _ _ r0
  have x0 : ((w.alloc (.cells #[.int .i64 mo0, .int .i64 mo1, .int .i64 me0, .int .i64 me1, .int .i64 ra, .int .i64 no, .int .i64 po, .int .i64 ce, .int .i64 st, .int .i64 du] 56)).alloc (.cells #[.int .i64 x00, .int .i64 x01, .int .i64 x10, .int .i64 x11] 57)).cell? ⟨w.heap.size + 1, 0, none⟩ = some (.int .i64 x00) := cell_new (by simp) rfl
  have x1 : ((w.alloc (.cells #[.int .i64 mo0, .int .i64 mo1, .int .i64 me0, .int .i64 me1, .int .i64 ra, .int .i64 no, .int .i64 po, .int .i64 ce, .int .i64 st, .int .i64 du] 56)).alloc (.cells #[.int .i64 x00, .int .i64 x01, .int .i64 x10, .int .i64 x11] 57)).cell? ⟨w.heap.size + 1, 1, none⟩ = some (.int .i64 x01) := cell_new (by simp) rfl
  have x2 : ((w.alloc (.cells #[.int .i64 mo0, .int .i64 mo1, .int .i64 me0, .int .i64 me1, .int .i64 ra, .int .i64 no, .int .i64 po, .int .i64 ce, .int .i64 st, .int .i64 du] 56)).alloc (.cells #[.int .i64 x00, .int .i64 x01, .int .i64 x10, .int .i64 x11] 57)).cell? ⟨w.heap.size + 1, 2, none⟩ = some (.int .i64 x10) := cell_new (by simp) rfl
  have x3 : ((w.alloc (.cells #[.int .i64 mo0, .int .i64 mo1, .int .i64 me0, .int .i64 me1, .int .i64 ra, .int .i64 no, .int .i64 po, .int .i64 ce, .int .i64 st, .int .i64 du] 56)).alloc (.cells #[.int .i64 x00, .int .i64 x01, .int .i64 x10, .int .i64 x11] 57)).cell? ⟨w.heap.size + 1, 3, none⟩ = some (.int .i64 x11) := cell_new (by simp) rfl
  have zx : w.heap.size + 1 < ((w.alloc (.cells #[.int .i64 mo0, .int .i64 mo1, .int .i64 me0, .int .i64 me1, .int .i64 ra, .int .i64 no, .int .i64 po, .int .i64 ce, .int .i64 st, .int .i64 du] 56)).alloc (.cells #[.int .i64 x00, .int .i64 x01, .int .i64 x10, .int .i64 x11] 57)).heap.size := World.block_lt_of_cell? _ _ x0
  generalize ((w.alloc (.cells #[.int .i64 mo0, .int .i64 mo1, .int .i64 me0, .int .i64 me1, .int .i64 ra, .int .i64 no, .int .i64 po, .int .i64 ce, .int .i64 st, .int .i64 du] 56)).alloc (.cells #[.int .i64 x00, .int .i64 x01, .int .i64 x10, .int .i64 x11] 57)) = w0 at *
  have HT0 := Lib.hid (HT.out.below hb0)
  go_wp2_with (fail)
  refine (awake_any w0 HT0.out).mono ?_
  rintro e w1 ⟨rfl, hb1⟩
  have k1 : Below w.heap.size w w1 := (hb0).trans ((hb1).mono (hb0).size)
  replace r0 := cell_below' hb1 r0
  replace r1 := cell_below' hb1 r1
  replace r2 := cell_below' hb1 r2
  replace r3 := cell_below' hb1 r3
  replace r4 := cell_below' hb1 r4
  replace r5 := cell_below' hb1 r5
  replace r6 := cell_below' hb1 r6
  replace r7 := cell_below' hb1 r7
  replace r8 := cell_below' hb1 r8
  replace r9 := cell_below' hb1 r9
  replace zr := Nat.lt_of_lt_of_le zr (hb1).size
  replace x0 := cell_below' hb1 x0
  replace x1 := cell_below' hb1 x1
  replace x2 := cell_below' hb1 x2
  replace x3 := cell_below' hb1 x3
  replace zx := Nat.lt_of_lt_of_le zx (hb1).size
  clear hb1 hb0
  clear HT HT0
  go_wp2_with (fail)
  refine (HG.out _).mono ?_
  rintro e w2 ⟨rfl, hb2⟩
  have k2 : Below w.heap.size w w2 := (k1).trans ((hb2).mono (k1).size)
  replace r0 := cell_below' hb2 r0
  replace r1 := cell_below' hb2 r1
  replace r2 := cell_below' hb2 r2
  replace r3 := cell_below' hb2 r3
  replace r4 := cell_below' hb2 r4
  replace r5 := cell_below' hb2 r5
  replace r6 := cell_below' hb2 r6
  replace r7 := cell_below' hb2 r7
  replace r8 := cell_below' hb2 r8
  replace r9 := cell_below' hb2 r9
  replace zr := Nat.lt_of_lt_of_le zr (hb2).size
  replace x0 := cell_below' hb2 x0
  replace x1 := cell_below' hb2 x1
  replace x2 := cell_below' hb2 x2
  replace x3 := cell_below' hb2 x3
  replace zx := Nat.lt_of_lt_of_le zx (hb2).size
  clear hb2 k1
  go_wp2_with (fail)
  refine (HH.out _).mono ?_
  rintro e w3 ⟨rfl, hb3⟩
  have k3 : Below w.heap.size w w3 := (k2).trans ((hb3).mono (k2).size)
  replace r0 := cell_below' hb3 r0
  replace r1 := cell_below' hb3 r1
  replace r2 := cell_below' hb3 r2
  replace r3 := cell_below' hb3 r3
  replace r4 := cell_below' hb3 r4
  replace r5 := cell_below' hb3 r5
  replace r6 := cell_below' hb3 r6
  replace r7 := cell_below' hb3 r7
  replace r8 := cell_below' hb3 r8
  replace r9 := cell_below' hb3 r9
  replace zr := Nat.lt_of_lt_of_le zr (hb3).size
  replace x0 := cell_below' hb3 x0
  replace x1 := cell_below' hb3 x1
  replace x2 := cell_below' hb3 x2
  replace x3 := cell_below' hb3 x3
  replace zx := Nat.lt_of_lt_of_le zx (hb3).size
  clear hb3 k2
  clear HG HH
  go_upto_region 5 with (fail)
  have hb4 : Below w3.heap.size w3 (w3.alloc (.cells #[.int .i64 h0, .int .i64 h1] 60)) := below_alloc _ (Nat.le_refl _) (Below.refl _ _)
  have y0 : (w3.alloc (.cells #[.int .i64 h0, .int .i64 h1] 60)).cell? ⟨w3.heap.size, 0, none⟩ = some (.int .i64 h0) := cell_new (by simp) rfl
  have y1 : (w3.alloc (.cells #[.int .i64 h0, .int .i64 h1] 60)).cell? ⟨w3.heap.size, 1, none⟩ = some (.int .i64 h1) := cell_new (by simp) rfl
  have zy : w3.heap.size < (w3.alloc (.cells #[.int .i64 h0, .int .i64 h1] 60)).heap.size := World.block_lt_of_cell? _ _ y0
  generalize (w3.alloc (.cells #[.int .i64 h0, .int .i64 h1] 60)) = w4 at *
  have k4 : Below w.heap.size w w4 := (k3).trans ((hb4).mono (k3).size)
  replace r0 := cell_below' hb4 r0
  replace r1 := cell_below' hb4 r1
  replace r2 := cell_below' hb4 r2
  replace r3 := cell_below' hb4 r3
  replace r4 := cell_below' hb4 r4
  replace r5 := cell_below' hb4 r5
  replace r6 := cell_below' hb4 r6
  replace r7 := cell_below' hb4 r7
  replace r8 := cell_below' hb4 r8
  replace r9 := cell_below' hb4 r9
  replace zr := Nat.lt_of_lt_of_le zr (hb4).size
  replace x0 := cell_below' hb4 x0
  replace x1 := cell_below' hb4 x1
  replace x2 := cell_below' hb4 x2
  replace x3 := cell_below' hb4 x3
  replace zx := Nat.lt_of_lt_of_le zx (hb4).size
  clear hb4 k3
  generalize w3.heap.size = yb at *
  go_wp2_with (fail)
  refine (HC1.out _).mono ?_
  rintro e w5 ⟨rfl, hb5⟩
  have k5 : Below w.heap.size w w5 := (k4).trans ((hb5).mono (k4).size)
  replace r0 := cell_below' hb5 r0
  replace r1 := cell_below' hb5 r1
  replace r2 := cell_below' hb5 r2
  replace r3 := cell_below' hb5 r3
  replace r4 := cell_below' hb5 r4
  replace r5 := cell_below' hb5 r5
  replace r6 := cell_below' hb5 r6
  replace r7 := cell_below' hb5 r7
  replace r8 := cell_below' hb5 r8
  replace r9 := cell_below' hb5 r9
  replace zr := Nat.lt_of_lt_of_le zr (hb5).size
  replace x0 := cell_below' hb5 x0
  replace x1 := cell_below' hb5 x1
  replace x2 := cell_below' hb5 x2
  replace x3 := cell_below' hb5 x3
  replace zx := Nat.lt_of_lt_of_le zx (hb5).size
  replace y0 := cell_below' hb5 y0
  replace y1 := cell_below' hb5 y1
  replace zy := Nat.lt_of_lt_of_le zy (hb5).size
  clear hb5 k4
  go_wp2_with (fail)
  refine (HC2.out _).mono ?_
  rintro e w6 ⟨rfl, hb6⟩
  have k6 : Below w.heap.size w w6 := (k5).trans ((hb6).mono (k5).size)
  replace r0 := cell_below' hb6 r0
  replace r1 := cell_below' hb6 r1
  replace r2 := cell_below' hb6 r2
  replace r3 := cell_below' hb6 r3
  replace r4 := cell_below' hb6 r4
  replace r5 := cell_below' hb6 r5
  replace r6 := cell_below' hb6 r6
  replace r7 := cell_below' hb6 r7
  replace r8 := cell_below' hb6 r8
  replace r9 := cell_below' hb6 r9
  replace zr := Nat.lt_of_lt_of_le zr (hb6).size
  replace x0 := cell_below' hb6 x0
  replace x1 := cell_below' hb6 x1
  replace x2 := cell_below' hb6 x2
  replace x3 := cell_below' hb6 x3
  replace zx := Nat.lt_of_lt_of_le zx (hb6).size
  replace y0 := cell_below' hb6 y0
  replace y1 := cell_below' hb6 y1
  replace zy := Nat.lt_of_lt_of_le zy (hb6).size
  clear hb6 k5
  clear HC1 HC2
  have hee : (E != E) = false := by simp
  by_cases hE : E = 0
  rotate_left 1
  · obtain ⟨rfl, rfl⟩ : t1 = 0 ∧ t2 = E := by simpa using T1.out hE
    obtain ⟨⟨rfl, rfl⟩, rfl⟩ : (h0 = 0 ∧ h1 = 0) ∧ h2 = t2 := by simpa using H1.out hE
    have e1 : (h2 != 0) = true := by simpa using hE
    have e2 : (h2 == h2) = true := by simp
    have hz := eqRg 0 0
    clear T1 T2 T3 H1 H2 H3 RT RH HPV hE
    go_wp2_with (fail)
    go_ret
    exact ⟨rfl, k6⟩
  · subst hE
    clear T1 H1
    have T2' := Lib.hid (fun h => T2.out rfl h)
    have T3' := Lib.hid (fun h => T3.out rfl h)
    have H2' := Lib.hid (fun h => H2.out rfl h)
    have H3' := Lib.hid (fun h => H3.out rfl h)
    have RT' := Lib.hid (fun h W => RT.out rfl h W)
    have RH' := Lib.hid (fun h W => RH.out rfl h W)
    clear T2 T3 H2 H3 RT RH
    go_wp2_with (fail)
    refine (HW.out _).mono ?_
    rintro e w' ⟨rfl, rfl⟩
    go_upto_if 53 with (fail)
    go_cut [] from 54 to 69 (fun wx => Below w6.heap.size w6 wx)
    case first =>
      clear T2' T3' RT' HPV x0 x1 x2 x3 zx
      cases bL
      · obtain ⟨⟨rfl, rfl⟩, rfl⟩ : (h0 = 0 ∧ h1 = 0) ∧ h2 = 2 := by simpa using H2'.out rfl
        have hz := neRg 0 0
        clear H2' H3' RH'
        go_wp2_with (fail)
        go_meet
        exact Below.refl _ _
      · obtain ⟨⟨rfl, rfl⟩, rfl⟩ : (h0 = hg0 ∧ h1 = hg1) ∧ h2 = 0 := by simpa using H3'.out rfl
        have RHH := Lib.hid (fun W => RH'.out rfl W)
        have hz := neRg h0 h1
        clear H2' H3' RH'
        go_upto_region 13 with (fail)
        (refine region_extx 8 (by kernel_rfl) (by kernel_rfl) fun hx => ?_; simp only [List.take_succ_cons, List.take_zero, List.drop_succ_cons, List.drop_zero]; (repeat (any_goals (first | go_big_quiet_step (((go_at_call 38; with_reducible exact ext_call (RHH.out _)))) | quiet_step (((go_at_call 38; with_reducible exact ext_call (RHH.out _))))))))
        (refine wpQuiet_nil ?_; clear hx; intro u; have hbwa := ext_bel _ u; have hxwa := ext_cell _ u; generalize ext _ u = wa at *; clear u; have hswa := hbwa.size; (try simp at hswa))
        go_wp2_with (fail)
        go_meet
        exact hbwa
    case rest =>
    obtain ⟨w7, rfl⟩ : ∃ w7 : World, w7 = wc := ⟨_, rfl⟩
    have hb7 : Below w6.heap.size w6 w7 := hcut
    clear hcut HW H2' H3' RH'
    have k7 : Below w.heap.size w w7 := (k6).trans ((hb7).mono (k6).size)
    replace r0 := cell_below' hb7 r0
    replace r1 := cell_below' hb7 r1
    replace r2 := cell_below' hb7 r2
    replace r3 := cell_below' hb7 r3
    replace r4 := cell_below' hb7 r4
    replace r5 := cell_below' hb7 r5
    replace r6 := cell_below' hb7 r6
    replace r7 := cell_below' hb7 r7
    replace r8 := cell_below' hb7 r8
    replace r9 := cell_below' hb7 r9
    replace zr := Nat.lt_of_lt_of_le zr (hb7).size
    replace x0 := cell_below' hb7 x0
    replace x1 := cell_below' hb7 x1
    replace x2 := cell_below' hb7 x2
    replace x3 := cell_below' hb7 x3
    replace zx := Nat.lt_of_lt_of_le zx (hb7).size
    replace y0 := cell_below' hb7 y0
    replace y1 := cell_below' hb7 y1
    replace zy := Nat.lt_of_lt_of_le zy (hb7).size
    clear hb7 k6
    go_wp2_with (fail)
    refine (HPE.out _).mono ?_
    rintro e w8 ⟨rfl, hb8⟩
    have k8 : Below w.heap.size w w8 := (k7).trans ((hb8).mono (k7).size)
    replace r0 := cell_below' hb8 r0
    replace r1 := cell_below' hb8 r1
    replace r2 := cell_below' hb8 r2
    replace r3 := cell_below' hb8 r3
    replace r4 := cell_below' hb8 r4
    replace r5 := cell_below' hb8 r5
    replace r6 := cell_below' hb8 r6
    replace r7 := cell_below' hb8 r7
    replace r8 := cell_below' hb8 r8
    replace r9 := cell_below' hb8 r9
    replace zr := Nat.lt_of_lt_of_le zr (hb8).size
    replace x0 := cell_below' hb8 x0
    replace x1 := cell_below' hb8 x1
    replace x2 := cell_below' hb8 x2
    replace x3 := cell_below' hb8 x3
    replace zx := Nat.lt_of_lt_of_le zx (hb8).size
    clear hb8 k7
    rcases HPV.out with rfl | rfl
    · obtain ⟨rfl, rfl⟩ : t1 = tg ∧ t2 = 0 := by simpa using T3'.out rfl
      have RTT := Lib.hid (fun W => RT'.out rfl W)
      have hz : (t1 == t1) = true := by simp
      clear T2' T3' RT'
      go_wp2_with (fail)
      refine (RTT.out _).mono ?_
      rintro e w9 ⟨rfl, hb9⟩
      have k9 := k8.trans (hb9.mono k8.size)
      go_wp2_with (fail)
      go_ret
      exact ⟨rfl, k9⟩
    · obtain ⟨rfl, rfl⟩ : t1 = 0 ∧ t2 = 2 := by simpa using T2'.out rfl
      clear T2' T3' RT'
      go_wp2_with (fail)
      go_ret
      exact ⟨rfl, k8⟩
end Go.Proofs.YtppghnbabnhnbaaDoor
