/-
  Chapter 2: the reference of CheckSplit, walked.
-/
import Derived.Test.YtppghnbabnhnbaaDoorECsp
namespace Go.Proofs.YtppghnbabnhnbaaDoor
open Go.ChangeShapes Go.WideShapes Go.ChangeAt Go.RowKit
set_option linter.unusedVariables false
set_option linter.unusedSimpArgs false

theorem gmul_sc (x : Gs) (d : Int) : gmul x ⟨d, 0⟩ = scG x d := by
  apply Gs.ext2 <;> simp [gmul, scG]
theorem spB_all (s : Spl) : spB s = (withinB s.d 1 1000 && [s.o.re, s.o.im, s.e.re, s.e.im].all (fun n => withinB n (-10000000) 10000000)) := by
  unfold spB prtB
  simp [Bool.and_assoc]
set_option maxRecDepth 100000 in
set_option maxHeartbeats 16000000 in
theorem RCheckSplit_any (mo me x0 x1 : Gs) (s : Spl) (w : World) (hm : OkM mo me) (k0 : Sz 10000 x0) (k1 : Sz 10000 x1) :
    Calls Tryd.prog 69 #[gv2 mo me, gv2 x0 x1, spv s] w fun e w' => e = .returned (.tuple #[.int .i64 (csT mo me x0 x1 s).1, .int .i64 (csT mo me x0 x1 s).2]) ∧ Below w.heap.size w w' := by
  have hq : csT mo me x0 x1 s = if spB s = false then (0, 2) else if gS s ≠ 1 then (0, 3) else accQ mo me x0 x1 s := rfl
  have hac : accQ mo me x0 x1 s = if neB (mixA s.o s.e) (scG x0 s.d) = true then (0, 19) else if neB (mixB mo me s.o s.e) (scG x1 s.d) = true then (1, 19) else (0, 0) := rfl
  have HAC := Lib.hid hac
  have HSP := Lib.hid (@spB_true s)
  have HMA := Lib.hid (fun (h2 : Sz 10000000 s.o) (h3 : Sz 10000000 s.e) W => RMixed_any mo me s.o s.e W hm h2 h3)
  have HDV := Lib.hid (fun (h2 : Sz 10000000 s.o) (h3 : Sz 10000000 s.e) (d0 : 1 ≤ s.d) (d1 : s.d ≤ 1000) W => RDivisor_any s W (h2.mono (by decide)) (h3.mono (by decide)) (by omega) (by omega))
  have hgs : ((gcdL (spl4 s) s.d.natAbs : Nat) : Int) = (gS s : Nat) := rfl
  rw [hgs] at HDV
  have N0 := neG (mixA s.o s.e) (scG x0 s.d)
  have N1 := neG (mixB mo me s.o s.e) (scG x1 s.d)
  have G0 := Lib.hid (fun (d0 : 1 ≤ s.d) (d1 : s.d ≤ 1000) W => GMul_any x0 ⟨s.d, 0⟩ W (k0.mono (by decide)) ⟨by simp only; omega, by simp only; omega, by simp only; omega, by simp only; omega⟩)
  have G1 := Lib.hid (fun (d0 : 1 ≤ s.d) (d1 : s.d ≤ 1000) W => GMul_any x1 ⟨s.d, 0⟩ W (k1.mono (by decide)) ⟨by simp only; omega, by simp only; omega, by simp only; omega, by simp only; omega⟩)
  rw [gmul_sc] at G0 G1
  have HW := Lib.hid (fun W => Within_any s.d 1 1000 W)
  have hsb := spB_all s
  have HSB := Lib.hid hsb
  have HQ := Lib.hid hq
  clear hq hac hm k0 k1 hgs hsb
  generalize withinB s.d 1 1000 = b1 at *
  generalize neB (mixA s.o s.e) (scG x0 s.d) = c0 at *
  generalize neB (mixB mo me s.o s.e) (scG x1 s.d) = c1 at *
  generalize scG x0 s.d = r1 at *
  generalize scG x1 s.d = r2 at *
  generalize mixA s.o s.e = q1 at *
  generalize mixB mo me s.o s.e = q2 at *
  generalize spB s = sb at *
  generalize gS s = gs at *
  generalize accQ mo me x0 x1 s = aq at *
  generalize csT mo me x0 x1 s = cq at *
  have hlen : [s.o.re, s.o.im, s.e.re, s.e.im].length = 4 := rfl
  have HL := Lib.hid hlen
  have hrl : ∀ (w : World), IntsAt (w.alloc (.cells #[.int .i64 s.o.re, .int .i64 s.o.im, .int .i64 s.e.re, .int .i64 s.e.im] 3)) (some ⟨w.heap.size, 0, none⟩) [s.o.re, s.o.im, s.e.re, s.e.im] := fun w => rows_blk (blk_new (by simp)) rfl
  have HRL := Lib.hid hrl
  clear hlen hrl
  obtain ⟨mo0, mo1⟩ := mo
  obtain ⟨me0, me1⟩ := me
  obtain ⟨x00, x01⟩ := x0
  obtain ⟨x10, x11⟩ := x1
  obtain ⟨⟨s0, s1⟩, ⟨s2, s3⟩, d⟩ := s
  obtain ⟨q10, q11⟩ := q1
  obtain ⟨q20, q21⟩ := q2
  obtain ⟨r10, r11⟩ := r1
  obtain ⟨r20, r21⟩ := r2
  simp only [gv, gv2, spv] at *
  go_enter Tryd.func69, Tryd.ntmps69
  go_upto_region 1 with (fail)
  have hb0 : Below w.heap.size w (((w.alloc (.cells #[.int .i64 mo0, .int .i64 mo1, .int .i64 me0, .int .i64 me1] 54)).alloc (.cells #[.int .i64 x00, .int .i64 x01, .int .i64 x10, .int .i64 x11] 57)).alloc (.cells #[.int .i64 s0, .int .i64 s1, .int .i64 s2, .int .i64 s3, .int .i64 d] 108)) := below_alloc _ (Nat.le_refl _) (below_alloc _ (Nat.le_refl _) (below_alloc _ (Nat.le_refl _) (Below.refl _ _)))
  have m0 : (((w.alloc (.cells #[.int .i64 mo0, .int .i64 mo1, .int .i64 me0, .int .i64 me1] 54)).alloc (.cells #[.int .i64 x00, .int .i64 x01, .int .i64 x10, .int .i64 x11] 57)).alloc (.cells #[.int .i64 s0, .int .i64 s1, .int .i64 s2, .int .i64 s3, .int .i64 d] 108)).cell? ⟨w.heap.size, 0, none⟩ = some (.int .i64 mo0) := cell_alloc _ (cell_alloc _ (cell_new (by simp) rfl))
  have m1 : (((w.alloc (.cells #[.int .i64 mo0, .int .i64 mo1, .int .i64 me0, .int .i64 me1] 54)).alloc (.cells #[.int .i64 x00, .int .i64 x01, .int .i64 x10, .int .i64 x11] 57)).alloc (.cells #[.int .i64 s0, .int .i64 s1, .int .i64 s2, .int .i64 s3, .int .i64 d] 108)).cell? ⟨w.heap.size, 1, none⟩ = some (.int .i64 mo1) := cell_alloc _ (cell_alloc _ (cell_new (by simp) rfl))
  have m2 : (((w.alloc (.cells #[.int .i64 mo0, .int .i64 mo1, .int .i64 me0, .int .i64 me1] 54)).alloc (.cells #[.int .i64 x00, .int .i64 x01, .int .i64 x10, .int .i64 x11] 57)).alloc (.cells #[.int .i64 s0, .int .i64 s1, .int .i64 s2, .int .i64 s3, .int .i64 d] 108)).cell? ⟨w.heap.size, 2, none⟩ = some (.int .i64 me0) := cell_alloc _ (cell_alloc _ (cell_new (by simp) rfl))
  have m3 : (((w.alloc (.cells #[.int .i64 mo0, .int .i64 mo1, .int .i64 me0, .int .i64 me1] 54)).alloc (.cells #[.int .i64 x00, .int .i64 x01, .int .i64 x10, .int .i64 x11] 57)).alloc (.cells #[.int .i64 s0, .int .i64 s1, .int .i64 s2, .int .i64 s3, .int .i64 d] 108)).cell? ⟨w.heap.size, 3, none⟩ = some (.int .i64 me1) := cell_alloc _ (cell_alloc _ (cell_new (by simp) rfl))
  have zm : w.heap.size < (((w.alloc (.cells #[.int .i64 mo0, .int .i64 mo1, .int .i64 me0, .int .i64 me1] 54)).alloc (.cells #[.int .i64 x00, .int .i64 x01, .int .i64 x10, .int .i64 x11] 57)).alloc (.cells #[.int .i64 s0, .int .i64 s1, .int .i64 s2, .int .i64 s3, .int .i64 d] 108)).heap.size := World.block_lt_of_cell? _ _ m0
  have x0 : (((w.alloc (.cells #[.int .i64 mo0, .int .i64 mo1, .int .i64 me0, .int .i64 me1] 54)).alloc (.cells #[.int .i64 x00, .int .i64 x01, .int .i64 x10, .int .i64 x11] 57)).alloc (.cells #[.int .i64 s0, .int .i64 s1, .int .i64 s2, .int .i64 s3, .int .i64 d] 108)).cell? ⟨w.heap.size + 1, 0, none⟩ = some (.int .i64 x00) := cell_alloc _ (cell_new (by simp) rfl)
  have x1 : (((w.alloc (.cells #[.int .i64 mo0, .int .i64 mo1, .int .i64 me0, .int .i64 me1] 54)).alloc (.cells #[.int .i64 x00, .int .i64 x01, .int .i64 x10, .int .i64 x11] 57)).alloc (.cells #[.int .i64 s0, .int .i64 s1, .int .i64 s2, .int .i64 s3, .int .i64 d] 108)).cell? ⟨w.heap.size + 1, 1, none⟩ = some (.int .i64 x01) := cell_alloc _ (cell_new (by simp) rfl)
  have x2 : (((w.alloc (.cells #[.int .i64 mo0, .int .i64 mo1, .int .i64 me0, .int .i64 me1] 54)).alloc (.cells #[.int .i64 x00, .int .i64 x01, .int .i64 x10, .int .i64 x11] 57)).alloc (.cells #[.int .i64 s0, .int .i64 s1, .int .i64 s2, .int .i64 s3, .int .i64 d] 108)).cell? ⟨w.heap.size + 1, 2, none⟩ = some (.int .i64 x10) := cell_alloc _ (cell_new (by simp) rfl)
  have x3 : (((w.alloc (.cells #[.int .i64 mo0, .int .i64 mo1, .int .i64 me0, .int .i64 me1] 54)).alloc (.cells #[.int .i64 x00, .int .i64 x01, .int .i64 x10, .int .i64 x11] 57)).alloc (.cells #[.int .i64 s0, .int .i64 s1, .int .i64 s2, .int .i64 s3, .int .i64 d] 108)).cell? ⟨w.heap.size + 1, 3, none⟩ = some (.int .i64 x11) := cell_alloc _ (cell_new (by simp) rfl)
  have zx : w.heap.size + 1 < (((w.alloc (.cells #[.int .i64 mo0, .int .i64 mo1, .int .i64 me0, .int .i64 me1] 54)).alloc (.cells #[.int .i64 x00, .int .i64 x01, .int .i64 x10, .int .i64 x11] 57)).alloc (.cells #[.int .i64 s0, .int .i64 s1, .int .i64 s2, .int .i64 s3, .int .i64 d] 108)).heap.size := World.block_lt_of_cell? _ _ x0
  have p0 : (((w.alloc (.cells #[.int .i64 mo0, .int .i64 mo1, .int .i64 me0, .int .i64 me1] 54)).alloc (.cells #[.int .i64 x00, .int .i64 x01, .int .i64 x10, .int .i64 x11] 57)).alloc (.cells #[.int .i64 s0, .int .i64 s1, .int .i64 s2, .int .i64 s3, .int .i64 d] 108)).cell? ⟨w.heap.size + 1 + 1, 0, none⟩ = some (.int .i64 s0) := cell_new (by simp) rfl
  have p1 : (((w.alloc (.cells #[.int .i64 mo0, .int .i64 mo1, .int .i64 me0, .int .i64 me1] 54)).alloc (.cells #[.int .i64 x00, .int .i64 x01, .int .i64 x10, .int .i64 x11] 57)).alloc (.cells #[.int .i64 s0, .int .i64 s1, .int .i64 s2, .int .i64 s3, .int .i64 d] 108)).cell? ⟨w.heap.size + 1 + 1, 1, none⟩ = some (.int .i64 s1) := cell_new (by simp) rfl
  have p2 : (((w.alloc (.cells #[.int .i64 mo0, .int .i64 mo1, .int .i64 me0, .int .i64 me1] 54)).alloc (.cells #[.int .i64 x00, .int .i64 x01, .int .i64 x10, .int .i64 x11] 57)).alloc (.cells #[.int .i64 s0, .int .i64 s1, .int .i64 s2, .int .i64 s3, .int .i64 d] 108)).cell? ⟨w.heap.size + 1 + 1, 2, none⟩ = some (.int .i64 s2) := cell_new (by simp) rfl
  have p3 : (((w.alloc (.cells #[.int .i64 mo0, .int .i64 mo1, .int .i64 me0, .int .i64 me1] 54)).alloc (.cells #[.int .i64 x00, .int .i64 x01, .int .i64 x10, .int .i64 x11] 57)).alloc (.cells #[.int .i64 s0, .int .i64 s1, .int .i64 s2, .int .i64 s3, .int .i64 d] 108)).cell? ⟨w.heap.size + 1 + 1, 3, none⟩ = some (.int .i64 s3) := cell_new (by simp) rfl
  have p4 : (((w.alloc (.cells #[.int .i64 mo0, .int .i64 mo1, .int .i64 me0, .int .i64 me1] 54)).alloc (.cells #[.int .i64 x00, .int .i64 x01, .int .i64 x10, .int .i64 x11] 57)).alloc (.cells #[.int .i64 s0, .int .i64 s1, .int .i64 s2, .int .i64 s3, .int .i64 d] 108)).cell? ⟨w.heap.size + 1 + 1, 4, none⟩ = some (.int .i64 d) := cell_new (by simp) rfl
  have zp : w.heap.size + 1 + 1 < (((w.alloc (.cells #[.int .i64 mo0, .int .i64 mo1, .int .i64 me0, .int .i64 me1] 54)).alloc (.cells #[.int .i64 x00, .int .i64 x01, .int .i64 x10, .int .i64 x11] 57)).alloc (.cells #[.int .i64 s0, .int .i64 s1, .int .i64 s2, .int .i64 s3, .int .i64 d] 108)).heap.size := World.block_lt_of_cell? _ _ p0
  generalize (((w.alloc (.cells #[.int .i64 mo0, .int .i64 mo1, .int .i64 me0, .int .i64 me1] 54)).alloc (.cells #[.int .i64 x00, .int .i64 x01, .int .i64 x10, .int .i64 x11] 57)).alloc (.cells #[.int .i64 s0, .int .i64 s1, .int .i64 s2, .int .i64 s3, .int .i64 d] 108)) = w0 at *
  go_upto_region 2 with (fail)
  have hA := HRL.out w0
  have hbv : Below w0.heap.size w0 (w0.alloc (.cells #[.int .i64 s0, .int .i64 s1, .int .i64 s2, .int .i64 s3] 3)) := (by repeat (first | assumption | exact Below.refl _ _ | refine Below.drew ?_ | (refine below_alloc _ ?_ ?_; focus (first | omega | (simp; done) | (simp; omega) | (simp at *; omega))) | (refine below_set _ ?_ ?_; focus (first | omega | (simp; done) | (simp; omega) | (simp at *; omega))) | refine below_drewN ?_ _ | (refine below_call (by assumption) ?_ ?_; focus (first | omega | (simp; done) | (simp; omega) | (simp at *; omega))) | (refine below_call' (by assumption) ?_ ?_; focus (first | omega | (simp; done) | (simp; omega) | (simp at *; omega)))))
  generalize (w0.alloc (.cells #[.int .i64 s0, .int .i64 s1, .int .i64 s2, .int .i64 s3] 3)) = v at *
  have h1 : Below w.heap.size w v := (hb0).trans ((hbv).mono (hb0).size)
  replace m0 := cell_below' hbv m0
  replace m1 := cell_below' hbv m1
  replace m2 := cell_below' hbv m2
  replace m3 := cell_below' hbv m3
  replace zm := Nat.lt_of_lt_of_le zm (hbv).size
  replace x0 := cell_below' hbv x0
  replace x1 := cell_below' hbv x1
  replace x2 := cell_below' hbv x2
  replace x3 := cell_below' hbv x3
  replace zx := Nat.lt_of_lt_of_le zx (hbv).size
  replace p0 := cell_below' hbv p0
  replace p1 := cell_below' hbv p1
  replace p2 := cell_below' hbv p2
  replace p3 := cell_below' hbv p3
  replace p4 := cell_below' hbv p4
  replace zp := Nat.lt_of_lt_of_le zp (hbv).size
  clear hbv hb0
  generalize [s0, s1, s2, s3] = l at *
  have hl4 := HL.out
  clear HRL
  go_wp2_with (fail)
  go_loop [9] (fun i => ∃ k : Nat, k ≤ 4 ∧ i = .int .i64 k ∧ l.all (fun n => withinB n (-10000000) 10000000) = (l.drop k).all (fun n => withinB n (-10000000) 10000000)) (fun i => 4 - (intOf i).toNat)
  case atStart => exact ⟨0, Nat.zero_le _, rfl, rfl⟩
  case round =>
    obtain ⟨k, hk, rfl, he⟩ := hrel
    have H := Lib.hid he
    clear he
    by_cases hlt : k < 4
    · have hlt2 : k < l.length := by omega
      have hd : l.drop k = l[k] :: l.drop (k + 1) := List.drop_eq_getElem_cons hlt2
      rw [hd, List.all_cons] at H
      clear hd
      obtain ⟨b1', o1, hbe, hb1, c⟩ := IntsAt.at_ hA hlt2
      obtain ⟨rfl, rfl⟩ : w0.heap.size = b1' ∧ 0 = o1 := by simpa using hbe
      have HY := Lib.hid (fun W => Within_any l[k] (-10000000) 10000000 W)
      generalize l[k] = y at *
      rw [Nat.zero_add] at c
      clear hbe hl4 HL N0 N1
      cases hb : withinB y (-10000000) 10000000
      · rw [hb, Bool.false_and] at H
        rw [hb] at HY
        have hz := HSB.out
        rw [H.out, Bool.and_false] at hz
        subst hz
        have HQ2 := HQ.out
        rw [if_pos rfl] at HQ2
        have HQ3 := Lib.hid HQ2
        clear hb HQ2 HQ
        go_wp2_with (fail)
        refine (HY.out _).mono ?_
        rintro e w' ⟨rfl, rfl⟩
        go_wp2_with (fail)
        go_ret2
        rw [HQ3.out]
        exact ⟨rfl, h1⟩
      · rw [hb, Bool.true_and] at H
        rw [hb] at HY
        clear hb
        go_wp2_with (fail)
        refine (HY.out _).mono ?_
        rintro e w' ⟨rfl, rfl⟩
        go_wp2_with (fail)
        go_round
        case rel => exact ⟨k + 1, by omega, by go_num, H.out⟩
        case measure => simp [intOf]; omega
    · have e : l.drop k = [] := List.drop_eq_nil_of_le (by omega)
      rw [e, List.all_nil] at H
      have hz := HSB.out
      rw [H.out, Bool.and_true] at hz
      obtain rfl : k = 4 := by omega
      subst hz
      clear e HL hA H HSB
      have hkl : ((4 : Nat) : Int) = (l.length : Int) := by omega
      cases sb
      · have HQ2 := HQ.out
        rw [if_pos rfl] at HQ2
        have HQ3 := Lib.hid HQ2
        clear HQ2 HQ N0 N1
        go_wp2_with (fail)
        refine (HW.out _).mono ?_
        rintro e w' ⟨rfl, rfl⟩
        go_wp2_with (fail)
        go_ret2
        rw [HQ3.out]
        exact ⟨rfl, h1⟩
      obtain ⟨⟨d0, d1⟩, so, se⟩ := HSP.out (by first | rfl | trivial)
      have DV := Lib.hid (fun W => HDV.out so se d0 d1 W)
      have MX := Lib.hid (fun W => HMA.out so se W)
      have GG0 := Lib.hid (fun W => G0.out d0 d1 W)
      have GG1 := Lib.hid (fun W => G1.out d0 d1 W)
      have HQ2 := HQ.out
      rw [if_neg (by decide)] at HQ2
      have HQ3 := Lib.hid HQ2
      clear HQ2 HQ HSP HDV HMA G0 G1 so se
      go_wp2_with (fail)
      refine (HW.out _).mono ?_
      rintro e w' ⟨rfl, rfl⟩
      go_wp2_with (fail)
      refine (DV.out _).mono ?_
      rintro e w1 ⟨rfl, hb1⟩
      have h2 : Below w.heap.size w w1 := (h1).trans ((hb1).mono (h1).size)
      replace m0 := cell_below' hb1 m0
      replace m1 := cell_below' hb1 m1
      replace m2 := cell_below' hb1 m2
      replace m3 := cell_below' hb1 m3
      replace zm := Nat.lt_of_lt_of_le zm (hb1).size
      replace x0 := cell_below' hb1 x0
      replace x1 := cell_below' hb1 x1
      replace x2 := cell_below' hb1 x2
      replace x3 := cell_below' hb1 x3
      replace zx := Nat.lt_of_lt_of_le zx (hb1).size
      replace p0 := cell_below' hb1 p0
      replace p1 := cell_below' hb1 p1
      replace p2 := cell_below' hb1 p2
      replace p3 := cell_below' hb1 p3
      replace p4 := cell_below' hb1 p4
      replace zp := Nat.lt_of_lt_of_le zp (hb1).size
      clear hb1 h1
      clear DV HW
      by_cases hg : gs = 1
      rotate_left 1
      · have e9 : (((gs : Nat) : Int) != 1) = true := by simp; omega
        have HQ4 := Lib.hid (HQ3.out.trans (if_pos hg))
        clear HQ3 N0 N1
        go_wp2_with (fail)
        go_ret2
        rw [HQ4.out]
        exact ⟨rfl, h2⟩
      subst hg
      have HQ4 := Lib.hid ((HQ3.out.trans (if_neg (by simp))).trans HAC.out)
      clear HQ3 HAC
      go_wp2_with (fail)
      refine (MX.out _).mono ?_
      rintro e w2 ⟨rfl, hb2⟩
      have h3 : Below w.heap.size w w2 := (h2).trans ((hb2).mono (h2).size)
      replace m0 := cell_below' hb2 m0
      replace m1 := cell_below' hb2 m1
      replace m2 := cell_below' hb2 m2
      replace m3 := cell_below' hb2 m3
      replace zm := Nat.lt_of_lt_of_le zm (hb2).size
      replace x0 := cell_below' hb2 x0
      replace x1 := cell_below' hb2 x1
      replace x2 := cell_below' hb2 x2
      replace x3 := cell_below' hb2 x3
      replace zx := Nat.lt_of_lt_of_le zx (hb2).size
      replace p0 := cell_below' hb2 p0
      replace p1 := cell_below' hb2 p1
      replace p2 := cell_below' hb2 p2
      replace p3 := cell_below' hb2 p3
      replace p4 := cell_below' hb2 p4
      replace zp := Nat.lt_of_lt_of_le zp (hb2).size
      clear hb2 h2
      clear MX m0 m1 m2 m3 zm
      go_upto_region 12 with (fail)
      have hb3 : Below w2.heap.size w2 (w2.alloc (.cells #[.int .i64 q10, .int .i64 q11, .int .i64 q20, .int .i64 q21] 57)) := below_alloc _ (Nat.le_refl _) (Below.refl _ _)
      have y0 : (w2.alloc (.cells #[.int .i64 q10, .int .i64 q11, .int .i64 q20, .int .i64 q21] 57)).cell? ⟨w2.heap.size, 0, none⟩ = some (.int .i64 q10) := cell_new (by simp) rfl
      have y1 : (w2.alloc (.cells #[.int .i64 q10, .int .i64 q11, .int .i64 q20, .int .i64 q21] 57)).cell? ⟨w2.heap.size, 1, none⟩ = some (.int .i64 q11) := cell_new (by simp) rfl
      have y2 : (w2.alloc (.cells #[.int .i64 q10, .int .i64 q11, .int .i64 q20, .int .i64 q21] 57)).cell? ⟨w2.heap.size, 2, none⟩ = some (.int .i64 q20) := cell_new (by simp) rfl
      have y3 : (w2.alloc (.cells #[.int .i64 q10, .int .i64 q11, .int .i64 q20, .int .i64 q21] 57)).cell? ⟨w2.heap.size, 3, none⟩ = some (.int .i64 q21) := cell_new (by simp) rfl
      have zy : w2.heap.size < (w2.alloc (.cells #[.int .i64 q10, .int .i64 q11, .int .i64 q20, .int .i64 q21] 57)).heap.size := World.block_lt_of_cell? _ _ y0
      generalize (w2.alloc (.cells #[.int .i64 q10, .int .i64 q11, .int .i64 q20, .int .i64 q21] 57)) = w3 at *
      have h4 : Below w.heap.size w w3 := (h3).trans ((hb3).mono (h3).size)
      replace x0 := cell_below' hb3 x0
      replace x1 := cell_below' hb3 x1
      replace x2 := cell_below' hb3 x2
      replace x3 := cell_below' hb3 x3
      replace zx := Nat.lt_of_lt_of_le zx (hb3).size
      replace p0 := cell_below' hb3 p0
      replace p1 := cell_below' hb3 p1
      replace p2 := cell_below' hb3 p2
      replace p3 := cell_below' hb3 p3
      replace p4 := cell_below' hb3 p4
      replace zp := Nat.lt_of_lt_of_le zp (hb3).size
      clear hb3 h3
      generalize w2.heap.size = yb at *
      go_wp2_with (fail)
      go_loopw [11] (fun i wr => ∃ m : Int, 0 ≤ m ∧ m ≤ 2 ∧ i = .int .i64 m ∧ (1 ≤ m → c0 = false) ∧ (2 ≤ m → c1 = false) ∧ Below w3.heap.size w3 wr) (fun i _ => 2 - (intOf i).toNat)
      case atStart => exact ⟨0, by decide, by decide, rfl, fun h => by omega, fun h => by omega, Below.refl _ _⟩
      case round =>
        obtain ⟨m, hm0, hm2, rfl, hc0, hc1, hbr⟩ := hrel
        obtain ⟨wo, rfl⟩ : ∃ wo : World, wo = wr := ⟨_, rfl⟩
        have hbr' := hbr
        have h5 : Below w.heap.size w wo := (h4).trans ((hbr).mono (h4).size)
        replace x0 := cell_below' hbr x0
        replace x1 := cell_below' hbr x1
        replace x2 := cell_below' hbr x2
        replace x3 := cell_below' hbr x3
        replace zx := Nat.lt_of_lt_of_le zx (hbr).size
        replace p0 := cell_below' hbr p0
        replace p1 := cell_below' hbr p1
        replace p2 := cell_below' hbr p2
        replace p3 := cell_below' hbr p3
        replace p4 := cell_below' hbr p4
        replace zp := Nat.lt_of_lt_of_le zp (hbr).size
        replace y0 := cell_below' hbr y0
        replace y1 := cell_below' hbr y1
        replace y2 := cell_below' hbr y2
        replace y3 := cell_below' hbr y3
        replace zy := Nat.lt_of_lt_of_le zy (hbr).size
        clear hbr h4
        have h4' : m = 0 ∨ m = 1 ∨ m = 2 := by omega
        rcases h4' with rfl | rfl | rfl
        · clear hc0 hc1 N1
          go_upto_region 15 with (fail)
          (refine region_extx 10 (by kernel_rfl) (by kernel_rfl) fun hx => ?_; simp only [List.take_succ_cons, List.take_zero, List.drop_succ_cons, List.drop_zero]; (repeat (any_goals (first | go_big_quiet_step (((go_at_call 22; with_reducible exact ext_call (GG0.out _)))) | quiet_step (((go_at_call 22; with_reducible exact ext_call (GG0.out _))))))))
          (refine wpQuiet_nil ?_; clear hx; intro u; have hbw5 := ext_bel _ u; have hxw5 := ext_cell _ u; generalize ext _ u = w5 at *; clear u; have hsw5 := hbw5.size; (try simp at hsw5))
          have h6 := h5.trans (hbw5.mono h5.size)
          clear hxw5 hsw5
          cases c0
          · go_wp2_with (fail)
            exact ⟨⟨1, by decide, by decide, rfl, fun _ => (by trivial), fun h => (by omega), hbr'.trans (hbw5.mono hbr'.size)⟩, by decide⟩
          · go_wp2_with (fail)
            go_ret2
            rw [HQ4.out]
            exact ⟨rfl, h6⟩
        · (have hc := hc0 (by decide)); subst hc; clear hc0 hc1 N0
          go_upto_region 15 with (fail)
          (refine region_extx 10 (by kernel_rfl) (by kernel_rfl) fun hx => ?_; simp only [List.take_succ_cons, List.take_zero, List.drop_succ_cons, List.drop_zero]; (repeat (any_goals (first | go_big_quiet_step (((go_at_call 22; with_reducible exact ext_call (GG1.out _)))) | quiet_step (((go_at_call 22; with_reducible exact ext_call (GG1.out _))))))))
          (refine wpQuiet_nil ?_; clear hx; intro u; have hbw5 := ext_bel _ u; have hxw5 := ext_cell _ u; generalize ext _ u = w5 at *; clear u; have hsw5 := hbw5.size; (try simp at hsw5))
          have h6 := h5.trans (hbw5.mono h5.size)
          clear hxw5 hsw5
          cases c1
          · go_wp2_with (fail)
            exact ⟨⟨2, by decide, by decide, rfl, fun _ => (by trivial), fun h => (by trivial), hbr'.trans (hbw5.mono hbr'.size)⟩, by decide⟩
          · go_wp2_with (fail)
            go_ret2
            rw [HQ4.out]
            exact ⟨rfl, h6⟩
        · have hc := hc0 (by decide)
          have hc' := hc1 (by decide)
          subst hc
          subst hc'
          clear hc0 hc1 N0 N1
          go_wp2_with (fail)
          go_ret2
          rw [HQ4.out]
          exact ⟨rfl, h5⟩
end Go.Proofs.YtppghnbabnhnbaaDoor
