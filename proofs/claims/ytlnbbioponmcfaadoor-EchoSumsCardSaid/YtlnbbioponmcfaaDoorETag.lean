/-
  Chapter 2: rules; the tag of a sample; the heights of a lag.
-/
import Derived.Test.YtlnbbioponmcfaaDoorEMod
namespace Go.Proofs.YtlnbbioponmcfaaDoor
open Go.ChangeShapes Go.WideShapes Go.ChangeAt Go.RowKit
set_option linter.unusedVariables false
set_option linter.unusedSimpArgs false

structure Ru where
  mo : Gs
  me : Gs
  ra : Int
  no : Int
  po : Int
  ce : Int
  st : Int
  du : Int
abbrev ruv (r : Ru) : Value := .agg #[.int .i64 r.mo.re, .int .i64 r.mo.im, .int .i64 r.me.re, .int .i64 r.me.im, .int .i64 r.ra, .int .i64 r.no, .int .i64 r.po, .int .i64 r.ce, .int .i64 r.st, .int .i64 r.du]
def ruB (r : Ru) : Bool := withinB r.ra 1 100 && (withinB r.no 0 1000000000 && (withinB r.po 1 1000000000 && (withinB r.ce 1 1000 && (withinB r.st (-1000000) 1000000 && withinB r.du 0 1000000))))
def ruE (r : Ru) : Int := firstE [mdsE r.mo r.me, unl (ruB r) 2]
structure OkRu (r : Ru) : Prop where
  m : OkM r.mo r.me
  ra0 : 1 ≤ r.ra
  ra1 : r.ra ≤ 100
  no0 : 0 ≤ r.no
  no1 : r.no ≤ 1000000000
  po0 : 1 ≤ r.po
  po1 : r.po ≤ 1000000000
  ce0 : 1 ≤ r.ce
  ce1 : r.ce ≤ 1000
  st0 : -1000000 ≤ r.st
  st1 : r.st ≤ 1000000
  du0 : 0 ≤ r.du
  du1 : r.du ≤ 1000000
theorem ruE_zero {r : Ru} (h : ruE r = 0) : OkRu r := by
  unfold ruE at h
  by_cases h1 : mdsE r.mo r.me = 0
  · rw [h1, firstE_z, firstE1] at h
    cases hb : ruB r
    · rw [hb] at h; cases h
    · unfold ruB at hb
      rw [Bool.and_eq_true, Bool.and_eq_true, Bool.and_eq_true, Bool.and_eq_true, Bool.and_eq_true, withinB_true, withinB_true, withinB_true, withinB_true, withinB_true, withinB_true] at hb
      obtain ⟨⟨a0, a1⟩, ⟨b0, b1⟩, ⟨c0, c1⟩, ⟨d0, d1⟩, ⟨e0, e1⟩, f0, f1⟩ := hb
      exact ⟨mdsE_zero h1, a0, a1, b0, b1, c0, c1, d0, d1, e0, e1, f0, f1⟩
  · rw [firstE_nz h1] at h; exact absurd h h1
theorem ruE_of {r : Ru} (h : OkRu r) : ruE r = 0 := by
  have hb : ruB r = true := by
    unfold ruB
    rw [Bool.and_eq_true, Bool.and_eq_true, Bool.and_eq_true, Bool.and_eq_true, Bool.and_eq_true, withinB_true, withinB_true, withinB_true, withinB_true, withinB_true, withinB_true]
    exact ⟨⟨h.ra0, h.ra1⟩, ⟨h.no0, h.no1⟩, ⟨h.po0, h.po1⟩, ⟨h.ce0, h.ce1⟩, ⟨h.st0, h.st1⟩, h.du0, h.du1⟩
  unfold ruE
  rw [mdsE_of h.m, hb]
  rfl
set_option maxRecDepth 100000 in
set_option maxHeartbeats 4000000 in
theorem CheckRules_any (r : Ru) (w : World) :
    Calls Tryd.prog 45 #[ruv r] w fun e w' => e = .returned (.int .i64 (ruE r)) ∧ Below w.heap.size w w' := by
  have hq : ruE r = firstE [mdsE r.mo r.me, unl (ruB r) 2] := rfl
  have hr : ruB r = (withinB r.ra 1 100 && (withinB r.no 0 1000000000 && (withinB r.po 1 1000000000 && (withinB r.ce 1 1000 && (withinB r.st (-1000000) 1000000 && withinB r.du 0 1000000))))) := rfl
  have HM := Lib.hid (fun W => CheckModes_any r.mo r.me W)
  have H1 := Lib.hid (fun W => within_any r.ra 1 100 W)
  have H2 := Lib.hid (fun W => within_any r.no 0 1000000000 W)
  have H3 := Lib.hid (fun W => within_any r.po 1 1000000000 W)
  have H4 := Lib.hid (fun W => within_any r.ce 1 1000 W)
  have H5 := Lib.hid (fun W => isSized_any r.st 1000000 (by decide) (by decide) W)
  have H6 := Lib.hid (fun W => within_any r.du 0 1000000 W)
  generalize withinB r.ra 1 100 = b1 at *
  generalize withinB r.no 0 1000000000 = b2 at *
  generalize withinB r.po 1 1000000000 = b3 at *
  generalize withinB r.ce 1 1000 = b4 at *
  generalize withinB r.st (-1000000) 1000000 = b5 at *
  generalize withinB r.du 0 1000000 = b6 at *
  generalize mdsE r.mo r.me = em at *
  have HQ := Lib.hid hq
  have HR := Lib.hid hr
  clear hq hr
  obtain ⟨⟨mo0, mo1⟩, ⟨me0, me1⟩, ra, no, po, ce, st, du⟩ := r
  simp only [ruv, gv2] at *
  go_enter Tryd.func45, Tryd.ntmps45
  go_upto_region 1 with (fail)
  have hb0 : Below w.heap.size w (w.alloc (.cells #[.int .i64 mo0, .int .i64 mo1, .int .i64 me0, .int .i64 me1, .int .i64 ra, .int .i64 no, .int .i64 po, .int .i64 ce, .int .i64 st, .int .i64 du] 58)) := below_alloc _ (Nat.le_refl _) (Below.refl _ _)
  have r0 : (w.alloc (.cells #[.int .i64 mo0, .int .i64 mo1, .int .i64 me0, .int .i64 me1, .int .i64 ra, .int .i64 no, .int .i64 po, .int .i64 ce, .int .i64 st, .int .i64 du] 58)).cell? ⟨w.heap.size, 0, none⟩ = some (.int .i64 mo0) := cell_new (by simp) rfl
  have r1 : (w.alloc (.cells #[.int .i64 mo0, .int .i64 mo1, .int .i64 me0, .int .i64 me1, .int .i64 ra, .int .i64 no, .int .i64 po, .int .i64 ce, .int .i64 st, .int .i64 du] 58)).cell? ⟨w.heap.size, 1, none⟩ = some (.int .i64 mo1) := cell_new (by simp) rfl
  have r2 : (w.alloc (.cells #[.int .i64 mo0, .int .i64 mo1, .int .i64 me0, .int .i64 me1, .int .i64 ra, .int .i64 no, .int .i64 po, .int .i64 ce, .int .i64 st, .int .i64 du] 58)).cell? ⟨w.heap.size, 2, none⟩ = some (.int .i64 me0) := cell_new (by simp) rfl
  have r3 : (w.alloc (.cells #[.int .i64 mo0, .int .i64 mo1, .int .i64 me0, .int .i64 me1, .int .i64 ra, .int .i64 no, .int .i64 po, .int .i64 ce, .int .i64 st, .int .i64 du] 58)).cell? ⟨w.heap.size, 3, none⟩ = some (.int .i64 me1) := cell_new (by simp) rfl
  have r4 : (w.alloc (.cells #[.int .i64 mo0, .int .i64 mo1, .int .i64 me0, .int .i64 me1, .int .i64 ra, .int .i64 no, .int .i64 po, .int .i64 ce, .int .i64 st, .int .i64 du] 58)).cell? ⟨w.heap.size, 4, none⟩ = some (.int .i64 ra) := cell_new (by simp) rfl
  have r5 : (w.alloc (.cells #[.int .i64 mo0, .int .i64 mo1, .int .i64 me0, .int .i64 me1, .int .i64 ra, .int .i64 no, .int .i64 po, .int .i64 ce, .int .i64 st, .int .i64 du] 58)).cell? ⟨w.heap.size, 5, none⟩ = some (.int .i64 no) := cell_new (by simp) rfl
  have r6 : (w.alloc (.cells #[.int .i64 mo0, .int .i64 mo1, .int .i64 me0, .int .i64 me1, .int .i64 ra, .int .i64 no, .int .i64 po, .int .i64 ce, .int .i64 st, .int .i64 du] 58)).cell? ⟨w.heap.size, 6, none⟩ = some (.int .i64 po) := cell_new (by simp) rfl
  have r7 : (w.alloc (.cells #[.int .i64 mo0, .int .i64 mo1, .int .i64 me0, .int .i64 me1, .int .i64 ra, .int .i64 no, .int .i64 po, .int .i64 ce, .int .i64 st, .int .i64 du] 58)).cell? ⟨w.heap.size, 7, none⟩ = some (.int .i64 ce) := cell_new (by simp) rfl
  have r8 : (w.alloc (.cells #[.int .i64 mo0, .int .i64 mo1, .int .i64 me0, .int .i64 me1, .int .i64 ra, .int .i64 no, .int .i64 po, .int .i64 ce, .int .i64 st, .int .i64 du] 58)).cell? ⟨w.heap.size, 8, none⟩ = some (.int .i64 st) := cell_new (by simp) rfl
  have r9 : (w.alloc (.cells #[.int .i64 mo0, .int .i64 mo1, .int .i64 me0, .int .i64 me1, .int .i64 ra, .int .i64 no, .int .i64 po, .int .i64 ce, .int .i64 st, .int .i64 du] 58)).cell? ⟨w.heap.size, 9, none⟩ = some (.int .i64 du) := cell_new (by simp) rfl
  have zr : w.heap.size < (w.alloc (.cells #[.int .i64 mo0, .int .i64 mo1, .int .i64 me0, .int .i64 me1, .int .i64 ra, .int .i64 no, .int .i64 po, .int .i64 ce, .int .i64 st, .int .i64 du] 58)).heap.size := World.block_lt_of_cell? _ _ r0
  generalize (w.alloc (.cells #[.int .i64 mo0, .int .i64 mo1, .int .i64 me0, .int .i64 me1, .int .i64 ra, .int .i64 no, .int .i64 po, .int .i64 ce, .int .i64 st, .int .i64 du] 58)) = w0 at *
  go_cut [3] from 4 to 31 (fun t wx => t = .bool (b1 && (b2 && (b3 && (b4 && (b5 && b6))))) ∧ w0 = wx)
  case first =>
    clear HM HQ HR
    go_wp2_with (fail)
    refine (H1.out _).mono ?_
    rintro e w' ⟨rfl, rfl⟩
    cases b1
    · go_wp2_with (fail)
      go_meet
      exact ⟨rfl, rfl⟩
    go_wp2_with (fail)
    refine (H2.out _).mono ?_
    rintro e w' ⟨rfl, rfl⟩
    cases b2
    · go_wp2_with (fail)
      go_meet
      exact ⟨rfl, rfl⟩
    go_wp2_with (fail)
    refine (H3.out _).mono ?_
    rintro e w' ⟨rfl, rfl⟩
    cases b3
    · go_wp2_with (fail)
      go_meet
      exact ⟨rfl, rfl⟩
    go_wp2_with (fail)
    refine (H4.out _).mono ?_
    rintro e w' ⟨rfl, rfl⟩
    cases b4
    · go_wp2_with (fail)
      go_meet
      exact ⟨rfl, rfl⟩
    go_wp2_with (fail)
    refine (H5.out _).mono ?_
    rintro e w' ⟨rfl, rfl⟩
    cases b5
    · go_wp2_with (fail)
      go_meet
      exact ⟨rfl, rfl⟩
    go_wp2_with (fail)
    refine (H6.out _).mono ?_
    rintro e w' ⟨rfl, rfl⟩
    go_wp2_with (fail)
    go_meet
    exact ⟨by simp, rfl⟩
  case rest =>
  obtain ⟨rfl, rfl⟩ := hcut
  rw [← HR.out]
  clear HR H1 H2 H3 H4 H5 H6
  generalize ruB _ = rb at *
  go_wp2_with (fail)
  refine (HM.out _).mono ?_
  rintro e w1 ⟨rfl, hb1⟩
  have hw1 : Below w.heap.size w w1 := hb0.trans (hb1.mono hb0.size)
  clear hb1
  go_wp2_with (first | (go_at_call 28; refine (unless_any _ _ _).mono ?_; rintro e w' ⟨rfl, rfl⟩) | (go_at_call 27; refine (first2 _ _ _ _ (by simp) (cell_new (by simp) rfl) (cell_new (by simp) rfl)).mono ?_; rintro e w' ⟨rfl, rfl⟩))
  go_ret
  exact ⟨ret_int (by rw [HQ.out]), below_alloc _ (Nat.le_refl _) hw1⟩
/-- the tag of powers -/
def tagN (o e n ra : Int) : Int := if o ≤ n ∧ e ≤ n then 0 else if n < o ∧ ra * e ≤ o then 1 else if n < e ∧ ra * o ≤ e then 2 else 3
def tagS (r : Ru) (s : Spl) : Int := tagN (gnorm s.o) (gnorm s.e) (r.no * s.d * s.d) r.ra
def tagP (r : Ru) (x0 x1 : Gs) : Int := tagS r (sepP r.mo r.me x0 x1)
theorem sepP_sz {mo me x0 x1 : Gs} (h : OkM mo me) (k0 : Sz 10000 x0) (k1 : Sz 10000 x1) : Sz 8400000 (sepP mo me x0 x1).o ∧ Sz 8400000 (sepP mo me x0 x1).e ∧ 0 ≤ (sepP mo me x0 x1).d ∧ (sepP mo me x0 x1).d ≤ 800 := by
  obtain ⟨g0, g1⟩ := @sepG_bd mo me x0 x1 h
  obtain ⟨n0, n1⟩ := sepD_bd h
  exact ⟨(sepO_sz h k0 k1).over g0, (sepE_sz h k0 k1).over g0, Int.ediv_nonneg (by omega) (by omega), Int.le_trans (Int.ediv_le_self _ (by omega)) n1⟩
set_option maxRecDepth 100000 in
set_option maxHeartbeats 8000000 in
theorem tag_any (r : Ru) (x0 x1 : Gs) (w : World) (hr : OkRu r) (k0 : Sz 10000 x0) (k1 : Sz 10000 x1) :
    Calls Tryd.prog 47 #[ruv r, gv2 x0 x1] w fun e w' => e = .returned (.int .i64 (tagP r x0 x1)) ∧ Below w.heap.size w w' := by
  have hq : tagP r x0 x1 = tagN (gnorm (sepP r.mo r.me x0 x1).o) (gnorm (sepP r.mo r.me x0 x1).e) (r.no * (sepP r.mo r.me x0 x1).d * (sepP r.mo r.me x0 x1).d) r.ra := rfl
  have HQ := Lib.hid hq
  clear hq
  have HS := Lib.hid (fun W => separated_any r.mo r.me x0 x1 W hr.m k0 k1)
  obtain ⟨so, se, d0, d1⟩ := sepP_sz hr.m k0 k1
  have ra0 := hr.ra0
  have ra1 := hr.ra1
  have no0 := hr.no0
  have no1 := hr.no1
  clear hr k0 k1
  generalize sepP r.mo r.me x0 x1 = s at *
  have P1 := Lib.hid (fun W => power_any s.o W (so.mono (by decide)))
  have P2 := Lib.hid (fun W => power_any s.e W (se.mono (by decide)))
  have n1 := so.norm
  have n2 := se.norm
  clear so se
  generalize gnorm s.o = o at *
  generalize gnorm s.e = e at *
  obtain ⟨⟨mo0, mo1⟩, ⟨me0, me1⟩, ra, no, po, ce, st, du⟩ := r
  obtain ⟨x00, x01⟩ := x0
  obtain ⟨x10, x11⟩ := x1
  obtain ⟨⟨s0, s1⟩, ⟨s2, s3⟩, d⟩ := s
  simp only [ruv, gv2, spv, gv] at *
  have q1 := mul_bd (a := no) (b := d) (M := 1000000000) (N := 800) (by omega) (by omega) (by omega) (by omega)
  have q2 := mul_bd (a := no * d) (b := d) (M := 1000000000 * 800) (N := 800) (by omega) (by omega) (by omega) (by omega)
  have q3 := mul_bd (a := ra) (b := e) (M := 100) (N := 2 * (8400000 * 8400000)) (by omega) (by omega) (by omega) (by omega)
  have q4 := mul_bd (a := ra) (b := o) (M := 100) (N := 2 * (8400000 * 8400000)) (by omega) (by omega) (by omega) (by omega)
  go_enter Tryd.func47, Tryd.ntmps47
  go_upto_region 1 with (fail)
  have hb0 : Below w.heap.size w ((w.alloc (.cells #[.int .i64 mo0, .int .i64 mo1, .int .i64 me0, .int .i64 me1, .int .i64 ra, .int .i64 no, .int .i64 po, .int .i64 ce, .int .i64 st, .int .i64 du] 99)).alloc (.cells #[.int .i64 x00, .int .i64 x01, .int .i64 x10, .int .i64 x11] 60)) := below_alloc _ (Nat.le_refl _) (below_alloc _ (Nat.le_refl _) (Below.refl _ _))
  have r0 : ((w.alloc (.cells #[.int .i64 mo0, .int .i64 mo1, .int .i64 me0, .int .i64 me1, .int .i64 ra, .int .i64 no, .int .i64 po, .int .i64 ce, .int .i64 st, .int .i64 du] 99)).alloc (.cells #[.int .i64 x00, .int .i64 x01, .int .i64 x10, .int .i64 x11] 60)).cell? ⟨w.heap.size, 0, none⟩ = some (.int .i64 mo0) := cell_alloc _ (cell_new (by simp) rfl)
  have r1 : ((w.alloc (.cells #[.int .i64 mo0, .int .i64 mo1, .int .i64 me0, .int .i64 me1, .int .i64 ra, .int .i64 no, .int .i64 po, .int .i64 ce, .int .i64 st, .int .i64 du] 99)).alloc (.cells #[.int .i64 x00, .int .i64 x01, .int .i64 x10, .int .i64 x11] 60)).cell? ⟨w.heap.size, 1, none⟩ = some (.int .i64 mo1) := cell_alloc _ (cell_new (by simp) rfl)
  have r2 : ((w.alloc (.cells #[.int .i64 mo0, .int .i64 mo1, .int .i64 me0, .int .i64 me1, .int .i64 ra, .int .i64 no, .int .i64 po, .int .i64 ce, .int .i64 st, .int .i64 du] 99)).alloc (.cells #[.int .i64 x00, .int .i64 x01, .int .i64 x10, .int .i64 x11] 60)).cell? ⟨w.heap.size, 2, none⟩ = some (.int .i64 me0) := cell_alloc _ (cell_new (by simp) rfl)
  have r3 : ((w.alloc (.cells #[.int .i64 mo0, .int .i64 mo1, .int .i64 me0, .int .i64 me1, .int .i64 ra, .int .i64 no, .int .i64 po, .int .i64 ce, .int .i64 st, .int .i64 du] 99)).alloc (.cells #[.int .i64 x00, .int .i64 x01, .int .i64 x10, .int .i64 x11] 60)).cell? ⟨w.heap.size, 3, none⟩ = some (.int .i64 me1) := cell_alloc _ (cell_new (by simp) rfl)
  have r4 : ((w.alloc (.cells #[.int .i64 mo0, .int .i64 mo1, .int .i64 me0, .int .i64 me1, .int .i64 ra, .int .i64 no, .int .i64 po, .int .i64 ce, .int .i64 st, .int .i64 du] 99)).alloc (.cells #[.int .i64 x00, .int .i64 x01, .int .i64 x10, .int .i64 x11] 60)).cell? ⟨w.heap.size, 4, none⟩ = some (.int .i64 ra) := cell_alloc _ (cell_new (by simp) rfl)
  have r5 : ((w.alloc (.cells #[.int .i64 mo0, .int .i64 mo1, .int .i64 me0, .int .i64 me1, .int .i64 ra, .int .i64 no, .int .i64 po, .int .i64 ce, .int .i64 st, .int .i64 du] 99)).alloc (.cells #[.int .i64 x00, .int .i64 x01, .int .i64 x10, .int .i64 x11] 60)).cell? ⟨w.heap.size, 5, none⟩ = some (.int .i64 no) := cell_alloc _ (cell_new (by simp) rfl)
  have r6 : ((w.alloc (.cells #[.int .i64 mo0, .int .i64 mo1, .int .i64 me0, .int .i64 me1, .int .i64 ra, .int .i64 no, .int .i64 po, .int .i64 ce, .int .i64 st, .int .i64 du] 99)).alloc (.cells #[.int .i64 x00, .int .i64 x01, .int .i64 x10, .int .i64 x11] 60)).cell? ⟨w.heap.size, 6, none⟩ = some (.int .i64 po) := cell_alloc _ (cell_new (by simp) rfl)
  have r7 : ((w.alloc (.cells #[.int .i64 mo0, .int .i64 mo1, .int .i64 me0, .int .i64 me1, .int .i64 ra, .int .i64 no, .int .i64 po, .int .i64 ce, .int .i64 st, .int .i64 du] 99)).alloc (.cells #[.int .i64 x00, .int .i64 x01, .int .i64 x10, .int .i64 x11] 60)).cell? ⟨w.heap.size, 7, none⟩ = some (.int .i64 ce) := cell_alloc _ (cell_new (by simp) rfl)
  have r8 : ((w.alloc (.cells #[.int .i64 mo0, .int .i64 mo1, .int .i64 me0, .int .i64 me1, .int .i64 ra, .int .i64 no, .int .i64 po, .int .i64 ce, .int .i64 st, .int .i64 du] 99)).alloc (.cells #[.int .i64 x00, .int .i64 x01, .int .i64 x10, .int .i64 x11] 60)).cell? ⟨w.heap.size, 8, none⟩ = some (.int .i64 st) := cell_alloc _ (cell_new (by simp) rfl)
  have r9 : ((w.alloc (.cells #[.int .i64 mo0, .int .i64 mo1, .int .i64 me0, .int .i64 me1, .int .i64 ra, .int .i64 no, .int .i64 po, .int .i64 ce, .int .i64 st, .int .i64 du] 99)).alloc (.cells #[.int .i64 x00, .int .i64 x01, .int .i64 x10, .int .i64 x11] 60)).cell? ⟨w.heap.size, 9, none⟩ = some (.int .i64 du) := cell_alloc _ (cell_new (by simp) rfl)
  have zr : w.heap.size < ((w.alloc (.cells #[.int .i64 mo0, .int .i64 mo1, .int .i64 me0, .int .i64 me1, .int .i64 ra, .int .i64 no, .int .i64 po, .int .i64 ce, .int .i64 st, .int .i64 du] 99)).alloc (.cells #[.int .i64 x00, .int .i64 x01, .int .i64 x10, .int .i64 x11] 60)).heap.size := World.block_lt_of_cell? _ _ r0
  have x0 : ((w.alloc (.cells #[.int .i64 mo0, .int .i64 mo1, .int .i64 me0, .int .i64 me1, .int .i64 ra, .int .i64 no, .int .i64 po, .int .i64 ce, .int .i64 st, .int .i64 du] 99)).alloc (.cells #[.int .i64 x00, .int .i64 x01, .int .i64 x10, .int .i64 x11] 60)).cell? ⟨w.heap.size + 1, 0, none⟩ = some (.int .i64 x00) := cell_new (by simp) rfl
  have x1 : ((w.alloc (.cells #[.int .i64 mo0, .int .i64 mo1, .int .i64 me0, .int .i64 me1, .int .i64 ra, .int .i64 no, .int .i64 po, .int .i64 ce, .int .i64 st, .int .i64 du] 99)).alloc (.cells #[.int .i64 x00, .int .i64 x01, .int .i64 x10, .int .i64 x11] 60)).cell? ⟨w.heap.size + 1, 1, none⟩ = some (.int .i64 x01) := cell_new (by simp) rfl
  have x2 : ((w.alloc (.cells #[.int .i64 mo0, .int .i64 mo1, .int .i64 me0, .int .i64 me1, .int .i64 ra, .int .i64 no, .int .i64 po, .int .i64 ce, .int .i64 st, .int .i64 du] 99)).alloc (.cells #[.int .i64 x00, .int .i64 x01, .int .i64 x10, .int .i64 x11] 60)).cell? ⟨w.heap.size + 1, 2, none⟩ = some (.int .i64 x10) := cell_new (by simp) rfl
  have x3 : ((w.alloc (.cells #[.int .i64 mo0, .int .i64 mo1, .int .i64 me0, .int .i64 me1, .int .i64 ra, .int .i64 no, .int .i64 po, .int .i64 ce, .int .i64 st, .int .i64 du] 99)).alloc (.cells #[.int .i64 x00, .int .i64 x01, .int .i64 x10, .int .i64 x11] 60)).cell? ⟨w.heap.size + 1, 3, none⟩ = some (.int .i64 x11) := cell_new (by simp) rfl
  have zx : w.heap.size + 1 < ((w.alloc (.cells #[.int .i64 mo0, .int .i64 mo1, .int .i64 me0, .int .i64 me1, .int .i64 ra, .int .i64 no, .int .i64 po, .int .i64 ce, .int .i64 st, .int .i64 du] 99)).alloc (.cells #[.int .i64 x00, .int .i64 x01, .int .i64 x10, .int .i64 x11] 60)).heap.size := World.block_lt_of_cell? _ _ x0
  generalize ((w.alloc (.cells #[.int .i64 mo0, .int .i64 mo1, .int .i64 me0, .int .i64 me1, .int .i64 ra, .int .i64 no, .int .i64 po, .int .i64 ce, .int .i64 st, .int .i64 du] 99)).alloc (.cells #[.int .i64 x00, .int .i64 x01, .int .i64 x10, .int .i64 x11] 60)) = w0 at *
  go_wp2_with (fail)
  refine (HS.out _).mono ?_
  rintro e' w1 ⟨rfl, hb1⟩
  have h1 : Below w.heap.size w w1 := (hb0).trans ((hb1).mono (hb0).size)
  replace r0 := cell_below' hb1 r0
  replace r1 := cell_below' hb1 r1
  replace r2 := cell_below' hb1 r2
  replace r3 := cell_below' hb1 r3
  replace r4 := cell_below' hb1 r4
  replace r5 := cell_below' hb1 r5
  replace r6 := cell_below' hb1 r6
  replace r7 := cell_below' hb1 r7
  replace r8 := cell_below' hb1 r8
  replace r9 := cell_below' hb1 r9
  replace zr := Nat.lt_of_lt_of_le zr (hb1).size
  clear hb1 hb0
  go_upto_region 2 with (fail)
  have hb2 : Below w1.heap.size w1 (w1.alloc (.cells #[.int .i64 s0, .int .i64 s1, .int .i64 s2, .int .i64 s3, .int .i64 d] 52)) := below_alloc _ (Nat.le_refl _) (Below.refl _ _)
  have y0 : (w1.alloc (.cells #[.int .i64 s0, .int .i64 s1, .int .i64 s2, .int .i64 s3, .int .i64 d] 52)).cell? ⟨w1.heap.size, 0, none⟩ = some (.int .i64 s0) := cell_new (by simp) rfl
  have y1 : (w1.alloc (.cells #[.int .i64 s0, .int .i64 s1, .int .i64 s2, .int .i64 s3, .int .i64 d] 52)).cell? ⟨w1.heap.size, 1, none⟩ = some (.int .i64 s1) := cell_new (by simp) rfl
  have y2 : (w1.alloc (.cells #[.int .i64 s0, .int .i64 s1, .int .i64 s2, .int .i64 s3, .int .i64 d] 52)).cell? ⟨w1.heap.size, 2, none⟩ = some (.int .i64 s2) := cell_new (by simp) rfl
  have y3 : (w1.alloc (.cells #[.int .i64 s0, .int .i64 s1, .int .i64 s2, .int .i64 s3, .int .i64 d] 52)).cell? ⟨w1.heap.size, 3, none⟩ = some (.int .i64 s3) := cell_new (by simp) rfl
  have y4 : (w1.alloc (.cells #[.int .i64 s0, .int .i64 s1, .int .i64 s2, .int .i64 s3, .int .i64 d] 52)).cell? ⟨w1.heap.size, 4, none⟩ = some (.int .i64 d) := cell_new (by simp) rfl
  have zy : w1.heap.size < (w1.alloc (.cells #[.int .i64 s0, .int .i64 s1, .int .i64 s2, .int .i64 s3, .int .i64 d] 52)).heap.size := World.block_lt_of_cell? _ _ y0
  generalize (w1.alloc (.cells #[.int .i64 s0, .int .i64 s1, .int .i64 s2, .int .i64 s3, .int .i64 d] 52)) = w2 at *
  have h2 : Below w.heap.size w w2 := (h1).trans ((hb2).mono (h1).size)
  replace r0 := cell_below' hb2 r0
  replace r1 := cell_below' hb2 r1
  replace r2 := cell_below' hb2 r2
  replace r3 := cell_below' hb2 r3
  replace r4 := cell_below' hb2 r4
  replace r5 := cell_below' hb2 r5
  replace r6 := cell_below' hb2 r6
  replace r7 := cell_below' hb2 r7
  replace r8 := cell_below' hb2 r8
  replace r9 := cell_below' hb2 r9
  replace zr := Nat.lt_of_lt_of_le zr (hb2).size
  clear hb2 h1
  (refine region_full (by kernel_rfl) (by kernel_rfl) fun hx => ?_; (repeat (any_goals (first | go_big_quiet_step (first | ((go_at_call 46; with_reducible exact ext_call (P1.out _))) | ((go_at_call 46; with_reducible exact ext_call (P2.out _)))) | quiet_step (first | ((go_at_call 46; with_reducible exact ext_call (P1.out _))) | ((go_at_call 46; with_reducible exact ext_call (P2.out _))))))))
  (refine wpQuiet_nil ?_; clear hx; intro u; have hbw3 := ext_bel _ u; have hxw3 := ext_cell _ u; generalize ext _ u = w3 at *; clear u; have hsw3 := hbw3.size; (try simp at hsw3))
  have h3 : Below w.heap.size w w3 := (h2).trans ((hbw3).mono (h2).size)
  replace r0 := cell_below' hbw3 r0
  replace r1 := cell_below' hbw3 r1
  replace r2 := cell_below' hbw3 r2
  replace r3 := cell_below' hbw3 r3
  replace r4 := cell_below' hbw3 r4
  replace r5 := cell_below' hbw3 r5
  replace r6 := cell_below' hbw3 r6
  replace r7 := cell_below' hbw3 r7
  replace r8 := cell_below' hbw3 r8
  replace r9 := cell_below' hbw3 r9
  replace zr := Nat.lt_of_lt_of_le zr (hbw3).size
  clear hbw3 h2
  clear hxw3 hsw3
  have hn : tagN o e (no * d * d) ra = if o ≤ no * d * d ∧ e ≤ no * d * d then 0 else if no * d * d < o ∧ ra * e ≤ o then 1 else if no * d * d < e ∧ ra * o ≤ e then 2 else 3 := rfl
  have HN := Lib.hid (HQ.out.trans hn)
  clear hn HQ
  by_cases c1 : o ≤ no * d * d
  · have e1 : decide (o ≤ no * d * d) = true := by simpa using c1
    have e1' : decide (no * d * d < o) = false := by simp; omega
    by_cases c2 : e ≤ no * d * d
    · have e2 : decide (e ≤ no * d * d) = true := by simpa using c2
      have h4 := HN.out.trans (if_pos ⟨c1, c2⟩)
      have H4 := Lib.hid h4
      clear h4 HN c1 c2
      go_wp2_with (fail)
      go_ret
      exact ⟨ret_int H4.out.symm, h3⟩
    · have e2 : decide (e ≤ no * d * d) = false := by simpa using c2
      have e2' : decide (no * d * d < e) = true := by simp; omega
      have h4 := HN.out.trans ((if_neg (fun h => c2 h.2)).trans (if_neg (fun h => by omega)))
      by_cases c3 : ra * o ≤ e
      · have e3 : decide (ra * o ≤ e) = true := by simpa using c3
        have h5 := h4.trans (if_pos ⟨by omega, c3⟩)
        have H5 := Lib.hid h5
        clear h4 h5 HN c1 c2 c3
        go_wp2_with (fail)
        go_ret
        exact ⟨ret_int H5.out.symm, h3⟩
      · have e3 : decide (ra * o ≤ e) = false := by simpa using c3
        have h5 := h4.trans (if_neg (fun h => c3 h.2))
        have H5 := Lib.hid h5
        clear h4 h5 HN c1 c2 c3
        go_wp2_with (fail)
        go_ret
        exact ⟨ret_int H5.out.symm, h3⟩
  · have e1 : decide (o ≤ no * d * d) = false := by simpa using c1
    have e1' : decide (no * d * d < o) = true := by simp; omega
    have h4 := HN.out.trans (if_neg (fun h => c1 h.1))
    by_cases c4 : ra * e ≤ o
    · have e4 : decide (ra * e ≤ o) = true := by simpa using c4
      have h5 := h4.trans (if_pos ⟨by omega, c4⟩)
      have H5 := Lib.hid h5
      clear h4 h5 HN c1 c4
      go_wp2_with (fail)
      go_ret
      exact ⟨ret_int H5.out.symm, h3⟩
    · have e4 : decide (ra * e ≤ o) = false := by simpa using c4
      have h5 := h4.trans (if_neg (fun h => c4 h.2))
      by_cases c2 : e ≤ no * d * d
      · have e2 : decide (e ≤ no * d * d) = true := by simpa using c2
        have e2' : decide (no * d * d < e) = false := by simp; omega
        have h6 := h5.trans (if_neg (fun h => by omega))
        have H6 := Lib.hid h6
        clear h4 h5 h6 HN c1 c2 c4
        go_wp2_with (fail)
        go_ret
        exact ⟨ret_int H6.out.symm, h3⟩
      · have e2 : decide (e ≤ no * d * d) = false := by simpa using c2
        have e2' : decide (no * d * d < e) = true := by simp; omega
        by_cases c3 : ra * o ≤ e
        · have e3 : decide (ra * o ≤ e) = true := by simpa using c3
          have h6 := h5.trans (if_pos ⟨by omega, c3⟩)
          have H6 := Lib.hid h6
          clear h4 h5 h6 HN c1 c2 c3 c4
          go_wp2_with (fail)
          go_ret
          exact ⟨ret_int H6.out.symm, h3⟩
        · have e3 : decide (ra * o ≤ e) = false := by simpa using c3
          have h6 := h5.trans (if_neg (fun h => c3 h.2))
          have H6 := Lib.hid h6
          clear h4 h5 h6 HN c1 c2 c3 c4
          go_wp2_with (fail)
          go_ret
          exact ⟨ret_int H6.out.symm, h3⟩
/-- the heights of a lag -/
def hgtP (r : Ru) (lag : Int) : Gs := ⟨r.st + r.ce * lag - r.du, r.st + r.ce * lag + r.du⟩
set_option maxHeartbeats 4000000 in
theorem heights_any (r : Ru) (lag : Int) (w : World) (hr : OkRu r) (l0 : 0 ≤ lag) (l1 : lag ≤ 1000000) :
    Calls Tryd.prog 48 #[ruv r, .int .i64 lag] w fun e w' => e = .returned (gv (hgtP r lag)) ∧ Below w.heap.size w w' := by
  obtain ⟨-, -, -, -, -, -, -, ce0, ce1, st0, st1, du0, du1⟩ := hr
  have q1 := mul_bd (a := r.ce) (b := lag) (M := 1000) (N := 1000000) (by omega) (by omega) (by omega) (by omega)
  obtain ⟨⟨mo0, mo1⟩, ⟨me0, me1⟩, ra, no, po, ce, st, du⟩ := r
  simp only [ruv, gv, hgtP] at *
  go_enter Tryd.func48, Tryd.ntmps48
  go_wp2_with (fail)
  refine bodyPost_ret (v := .agg #[.int .i64 (st + ce * lag - du), .int .i64 (st + ce * lag + du)]) (by simp [results, Tryd.results48, go_sem]) rfl ?_
  exact ⟨rfl, (by repeat (first | assumption | exact Below.refl _ _ | refine Below.drew ?_ | (refine below_alloc _ ?_ ?_; focus (first | omega | (simp; done) | (simp; omega) | (simp at *; omega))) | (refine below_set _ ?_ ?_; focus (first | omega | (simp; done) | (simp; omega) | (simp at *; omega))) | refine below_drewN ?_ _ | (refine below_call (by assumption) ?_ ?_; focus (first | omega | (simp; done) | (simp; omega) | (simp at *; omega))) | (refine below_call' (by assumption) ?_ ?_; focus (first | omega | (simp; done) | (simp; omega) | (simp at *; omega)))))⟩
end Go.Proofs.YtlnbbioponmcfaaDoor
