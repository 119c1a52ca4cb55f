/-
  Chapter 2: EchoSeparated, walked.
-/
import Derived.Test.YtppghnbabnhnbaaDoorESpW
namespace Go.Proofs.YtppghnbabnhnbaaDoor
open Go.ChangeShapes Go.WideShapes Go.ChangeAt Go.RowKit
set_option linter.unusedVariables false
set_option linter.unusedSimpArgs false

abbrev gv22 (a b c d : Gs) : Value := .agg #[.int .i64 a.re, .int .i64 a.im, .int .i64 b.re, .int .i64 b.im, .int .i64 c.re, .int .i64 c.im, .int .i64 d.re, .int .i64 d.im]
theorem mix_small {mo me p0 p1 : Gs} (h : OkM mo me) (h0 : gprt p0 ≤ 200) (h1 : gprt p1 ≤ 200) : mixE mo me (mixA p0 p1) (mixB mo me p0 p1) = 0 := by
  rw [gprt_le] at h0 h1
  have a : Sz 10000 (mixA p0 p1) := (h0.add h1).mono (by decide)
  have b : Sz 10000 (mixB mo me p0 p1) := ((h.o.mul h0).add (h.e.mul h1)).mono (by decide)
  unfold mixE
  rw [mdsE_of h, firstE_z, firstE1]
  unfold pairE
  rw [smpE_of a, smpE_of b]
  rfl
theorem sepP_R {mo me x0 x1 : Gs} (h : OkM mo me) (k0 : Sz 10000 x0) (k1 : Sz 10000 x1) : SplR (sepP mo me x0 x1) := by
  obtain ⟨⟨o0, o1, o2, o3⟩, ⟨e0, e1, e2, e3⟩, d0, d1⟩ := sepP_sz h k0 k1
  refine ⟨⟨?_, ?_⟩, ⟨?_, ?_⟩, ⟨?_, ?_⟩, ⟨?_, ?_⟩, ⟨?_, ?_⟩⟩ <;> omega
theorem mixE_of {mo me x0 x1 : Gs} (h1 : mdsE mo me = 0) (h2 : pairE x0 x1 = 0) : mixE mo me x0 x1 = 0 := by
  unfold mixE; rw [h1, firstE_z, firstE1, h2]
theorem csT_eq {mo me x0 x1 : Gs} {s : Spl} (h : OkM mo me) (k0 : Sz 10000 x0) (k1 : Sz 10000 x1) : ((csT mo me x0 x1 s).2 == 0) = eqSp s (sepP mo me x0 x1) := by
  rw [Bool.eq_iff_iff, beq_iff_eq, csT_acc h k0 k1, eqSp_iff]
set_option maxRecDepth 100000 in
set_option maxHeartbeats 16000000 in
theorem EchoSeparated_any (mo me p0 p1 x0 x1 : Gs) (s : Spl) (w : World) (ht : Tab w) (hr : SplR s) :
    Calls Tryd.prog 12 #[gv2 mo me, gv22 p0 p1 x0 x1, spv s] w fun e w' => e = .returned (.bool true) ∧ Below w.heap.size w w' := by
  have HT := Lib.hid ht
  have M1 := Lib.hid (fun W => RCheckModes_any mo me W)
  have P1 := Lib.hid (fun W => RPairErr_any p0 p1 W)
  have P2 := Lib.hid (fun W => RPairErr_any x0 x1 W)
  by_cases hm : mdsE mo me = 0
  rotate_left 1
  · have e1 : (mdsE mo me != 0) = true := by simpa using hm
    clear ht hm
    generalize mdsE mo me = ms at *
    obtain ⟨mo0, mo1⟩ := mo
    obtain ⟨me0, me1⟩ := me
    obtain ⟨p00, p01⟩ := p0
    obtain ⟨p10, p11⟩ := p1
    obtain ⟨x00, x01⟩ := x0
    obtain ⟨x10, x11⟩ := x1
    obtain ⟨⟨s0, s1⟩, ⟨s2, s3⟩, d⟩ := s
    simp only [gv, gv2, spv, gv22] at *
    go_enter Tryd.func12, Tryd.ntmps12
    go_upto_region 1 with (fail)
    have hb0 : Below w.heap.size w (((w.alloc (.cells #[.int .i64 mo0, .int .i64 mo1, .int .i64 me0, .int .i64 me1] 54)).alloc (.cells #[.int .i64 p00, .int .i64 p01, .int .i64 p10, .int .i64 p11, .int .i64 x00, .int .i64 x01, .int .i64 x10, .int .i64 x11] 118)).alloc (.cells #[.int .i64 s0, .int .i64 s1, .int .i64 s2, .int .i64 s3, .int .i64 d] 108)) := below_alloc _ (Nat.le_refl _) (below_alloc _ (Nat.le_refl _) (below_alloc _ (Nat.le_refl _) (Below.refl _ _)))
    have m0 : (((w.alloc (.cells #[.int .i64 mo0, .int .i64 mo1, .int .i64 me0, .int .i64 me1] 54)).alloc (.cells #[.int .i64 p00, .int .i64 p01, .int .i64 p10, .int .i64 p11, .int .i64 x00, .int .i64 x01, .int .i64 x10, .int .i64 x11] 118)).alloc (.cells #[.int .i64 s0, .int .i64 s1, .int .i64 s2, .int .i64 s3, .int .i64 d] 108)).cell? ⟨w.heap.size, 0, none⟩ = some (.int .i64 mo0) := cell_alloc _ (cell_alloc _ (cell_new (by simp) rfl))
    have m1 : (((w.alloc (.cells #[.int .i64 mo0, .int .i64 mo1, .int .i64 me0, .int .i64 me1] 54)).alloc (.cells #[.int .i64 p00, .int .i64 p01, .int .i64 p10, .int .i64 p11, .int .i64 x00, .int .i64 x01, .int .i64 x10, .int .i64 x11] 118)).alloc (.cells #[.int .i64 s0, .int .i64 s1, .int .i64 s2, .int .i64 s3, .int .i64 d] 108)).cell? ⟨w.heap.size, 1, none⟩ = some (.int .i64 mo1) := cell_alloc _ (cell_alloc _ (cell_new (by simp) rfl))
    have m2 : (((w.alloc (.cells #[.int .i64 mo0, .int .i64 mo1, .int .i64 me0, .int .i64 me1] 54)).alloc (.cells #[.int .i64 p00, .int .i64 p01, .int .i64 p10, .int .i64 p11, .int .i64 x00, .int .i64 x01, .int .i64 x10, .int .i64 x11] 118)).alloc (.cells #[.int .i64 s0, .int .i64 s1, .int .i64 s2, .int .i64 s3, .int .i64 d] 108)).cell? ⟨w.heap.size, 2, none⟩ = some (.int .i64 me0) := cell_alloc _ (cell_alloc _ (cell_new (by simp) rfl))
    have m3 : (((w.alloc (.cells #[.int .i64 mo0, .int .i64 mo1, .int .i64 me0, .int .i64 me1] 54)).alloc (.cells #[.int .i64 p00, .int .i64 p01, .int .i64 p10, .int .i64 p11, .int .i64 x00, .int .i64 x01, .int .i64 x10, .int .i64 x11] 118)).alloc (.cells #[.int .i64 s0, .int .i64 s1, .int .i64 s2, .int .i64 s3, .int .i64 d] 108)).cell? ⟨w.heap.size, 3, none⟩ = some (.int .i64 me1) := cell_alloc _ (cell_alloc _ (cell_new (by simp) rfl))
    have zm : w.heap.size < (((w.alloc (.cells #[.int .i64 mo0, .int .i64 mo1, .int .i64 me0, .int .i64 me1] 54)).alloc (.cells #[.int .i64 p00, .int .i64 p01, .int .i64 p10, .int .i64 p11, .int .i64 x00, .int .i64 x01, .int .i64 x10, .int .i64 x11] 118)).alloc (.cells #[.int .i64 s0, .int .i64 s1, .int .i64 s2, .int .i64 s3, .int .i64 d] 108)).heap.size := World.block_lt_of_cell? _ _ m0
    have q0 : (((w.alloc (.cells #[.int .i64 mo0, .int .i64 mo1, .int .i64 me0, .int .i64 me1] 54)).alloc (.cells #[.int .i64 p00, .int .i64 p01, .int .i64 p10, .int .i64 p11, .int .i64 x00, .int .i64 x01, .int .i64 x10, .int .i64 x11] 118)).alloc (.cells #[.int .i64 s0, .int .i64 s1, .int .i64 s2, .int .i64 s3, .int .i64 d] 108)).cell? ⟨w.heap.size + 1, 0, none⟩ = some (.int .i64 p00) := cell_alloc _ (cell_new (by simp) rfl)
    have q1 : (((w.alloc (.cells #[.int .i64 mo0, .int .i64 mo1, .int .i64 me0, .int .i64 me1] 54)).alloc (.cells #[.int .i64 p00, .int .i64 p01, .int .i64 p10, .int .i64 p11, .int .i64 x00, .int .i64 x01, .int .i64 x10, .int .i64 x11] 118)).alloc (.cells #[.int .i64 s0, .int .i64 s1, .int .i64 s2, .int .i64 s3, .int .i64 d] 108)).cell? ⟨w.heap.size + 1, 1, none⟩ = some (.int .i64 p01) := cell_alloc _ (cell_new (by simp) rfl)
    have q2 : (((w.alloc (.cells #[.int .i64 mo0, .int .i64 mo1, .int .i64 me0, .int .i64 me1] 54)).alloc (.cells #[.int .i64 p00, .int .i64 p01, .int .i64 p10, .int .i64 p11, .int .i64 x00, .int .i64 x01, .int .i64 x10, .int .i64 x11] 118)).alloc (.cells #[.int .i64 s0, .int .i64 s1, .int .i64 s2, .int .i64 s3, .int .i64 d] 108)).cell? ⟨w.heap.size + 1, 2, none⟩ = some (.int .i64 p10) := cell_alloc _ (cell_new (by simp) rfl)
    have q3 : (((w.alloc (.cells #[.int .i64 mo0, .int .i64 mo1, .int .i64 me0, .int .i64 me1] 54)).alloc (.cells #[.int .i64 p00, .int .i64 p01, .int .i64 p10, .int .i64 p11, .int .i64 x00, .int .i64 x01, .int .i64 x10, .int .i64 x11] 118)).alloc (.cells #[.int .i64 s0, .int .i64 s1, .int .i64 s2, .int .i64 s3, .int .i64 d] 108)).cell? ⟨w.heap.size + 1, 3, none⟩ = some (.int .i64 p11) := cell_alloc _ (cell_new (by simp) rfl)
    have q4 : (((w.alloc (.cells #[.int .i64 mo0, .int .i64 mo1, .int .i64 me0, .int .i64 me1] 54)).alloc (.cells #[.int .i64 p00, .int .i64 p01, .int .i64 p10, .int .i64 p11, .int .i64 x00, .int .i64 x01, .int .i64 x10, .int .i64 x11] 118)).alloc (.cells #[.int .i64 s0, .int .i64 s1, .int .i64 s2, .int .i64 s3, .int .i64 d] 108)).cell? ⟨w.heap.size + 1, 4, none⟩ = some (.int .i64 x00) := cell_alloc _ (cell_new (by simp) rfl)
    have q5 : (((w.alloc (.cells #[.int .i64 mo0, .int .i64 mo1, .int .i64 me0, .int .i64 me1] 54)).alloc (.cells #[.int .i64 p00, .int .i64 p01, .int .i64 p10, .int .i64 p11, .int .i64 x00, .int .i64 x01, .int .i64 x10, .int .i64 x11] 118)).alloc (.cells #[.int .i64 s0, .int .i64 s1, .int .i64 s2, .int .i64 s3, .int .i64 d] 108)).cell? ⟨w.heap.size + 1, 5, none⟩ = some (.int .i64 x01) := cell_alloc _ (cell_new (by simp) rfl)
    have q6 : (((w.alloc (.cells #[.int .i64 mo0, .int .i64 mo1, .int .i64 me0, .int .i64 me1] 54)).alloc (.cells #[.int .i64 p00, .int .i64 p01, .int .i64 p10, .int .i64 p11, .int .i64 x00, .int .i64 x01, .int .i64 x10, .int .i64 x11] 118)).alloc (.cells #[.int .i64 s0, .int .i64 s1, .int .i64 s2, .int .i64 s3, .int .i64 d] 108)).cell? ⟨w.heap.size + 1, 6, none⟩ = some (.int .i64 x10) := cell_alloc _ (cell_new (by simp) rfl)
    have q7 : (((w.alloc (.cells #[.int .i64 mo0, .int .i64 mo1, .int .i64 me0, .int .i64 me1] 54)).alloc (.cells #[.int .i64 p00, .int .i64 p01, .int .i64 p10, .int .i64 p11, .int .i64 x00, .int .i64 x01, .int .i64 x10, .int .i64 x11] 118)).alloc (.cells #[.int .i64 s0, .int .i64 s1, .int .i64 s2, .int .i64 s3, .int .i64 d] 108)).cell? ⟨w.heap.size + 1, 7, none⟩ = some (.int .i64 x11) := cell_alloc _ (cell_new (by simp) rfl)
    have zq : w.heap.size + 1 < (((w.alloc (.cells #[.int .i64 mo0, .int .i64 mo1, .int .i64 me0, .int .i64 me1] 54)).alloc (.cells #[.int .i64 p00, .int .i64 p01, .int .i64 p10, .int .i64 p11, .int .i64 x00, .int .i64 x01, .int .i64 x10, .int .i64 x11] 118)).alloc (.cells #[.int .i64 s0, .int .i64 s1, .int .i64 s2, .int .i64 s3, .int .i64 d] 108)).heap.size := World.block_lt_of_cell? _ _ q0
    have p0 : (((w.alloc (.cells #[.int .i64 mo0, .int .i64 mo1, .int .i64 me0, .int .i64 me1] 54)).alloc (.cells #[.int .i64 p00, .int .i64 p01, .int .i64 p10, .int .i64 p11, .int .i64 x00, .int .i64 x01, .int .i64 x10, .int .i64 x11] 118)).alloc (.cells #[.int .i64 s0, .int .i64 s1, .int .i64 s2, .int .i64 s3, .int .i64 d] 108)).cell? ⟨w.heap.size + 1 + 1, 0, none⟩ = some (.int .i64 s0) := cell_new (by simp) rfl
    have p1 : (((w.alloc (.cells #[.int .i64 mo0, .int .i64 mo1, .int .i64 me0, .int .i64 me1] 54)).alloc (.cells #[.int .i64 p00, .int .i64 p01, .int .i64 p10, .int .i64 p11, .int .i64 x00, .int .i64 x01, .int .i64 x10, .int .i64 x11] 118)).alloc (.cells #[.int .i64 s0, .int .i64 s1, .int .i64 s2, .int .i64 s3, .int .i64 d] 108)).cell? ⟨w.heap.size + 1 + 1, 1, none⟩ = some (.int .i64 s1) := cell_new (by simp) rfl
    have p2 : (((w.alloc (.cells #[.int .i64 mo0, .int .i64 mo1, .int .i64 me0, .int .i64 me1] 54)).alloc (.cells #[.int .i64 p00, .int .i64 p01, .int .i64 p10, .int .i64 p11, .int .i64 x00, .int .i64 x01, .int .i64 x10, .int .i64 x11] 118)).alloc (.cells #[.int .i64 s0, .int .i64 s1, .int .i64 s2, .int .i64 s3, .int .i64 d] 108)).cell? ⟨w.heap.size + 1 + 1, 2, none⟩ = some (.int .i64 s2) := cell_new (by simp) rfl
    have p3 : (((w.alloc (.cells #[.int .i64 mo0, .int .i64 mo1, .int .i64 me0, .int .i64 me1] 54)).alloc (.cells #[.int .i64 p00, .int .i64 p01, .int .i64 p10, .int .i64 p11, .int .i64 x00, .int .i64 x01, .int .i64 x10, .int .i64 x11] 118)).alloc (.cells #[.int .i64 s0, .int .i64 s1, .int .i64 s2, .int .i64 s3, .int .i64 d] 108)).cell? ⟨w.heap.size + 1 + 1, 3, none⟩ = some (.int .i64 s3) := cell_new (by simp) rfl
    have p4 : (((w.alloc (.cells #[.int .i64 mo0, .int .i64 mo1, .int .i64 me0, .int .i64 me1] 54)).alloc (.cells #[.int .i64 p00, .int .i64 p01, .int .i64 p10, .int .i64 p11, .int .i64 x00, .int .i64 x01, .int .i64 x10, .int .i64 x11] 118)).alloc (.cells #[.int .i64 s0, .int .i64 s1, .int .i64 s2, .int .i64 s3, .int .i64 d] 108)).cell? ⟨w.heap.size + 1 + 1, 4, none⟩ = some (.int .i64 d) := cell_new (by simp) rfl
    have zp : w.heap.size + 1 + 1 < (((w.alloc (.cells #[.int .i64 mo0, .int .i64 mo1, .int .i64 me0, .int .i64 me1] 54)).alloc (.cells #[.int .i64 p00, .int .i64 p01, .int .i64 p10, .int .i64 p11, .int .i64 x00, .int .i64 x01, .int .i64 x10, .int .i64 x11] 118)).alloc (.cells #[.int .i64 s0, .int .i64 s1, .int .i64 s2, .int .i64 s3, .int .i64 d] 108)).heap.size := World.block_lt_of_cell? _ _ p0
    generalize (((w.alloc (.cells #[.int .i64 mo0, .int .i64 mo1, .int .i64 me0, .int .i64 me1] 54)).alloc (.cells #[.int .i64 p00, .int .i64 p01, .int .i64 p10, .int .i64 p11, .int .i64 x00, .int .i64 x01, .int .i64 x10, .int .i64 x11] 118)).alloc (.cells #[.int .i64 s0, .int .i64 s1, .int .i64 s2, .int .i64 s3, .int .i64 d] 108)) = w0 at *
    have HT0 := Lib.hid (HT.out.below hb0)
    go_wp2_with (fail)
    refine (awake_any w0 HT0.out).mono ?_
    rintro e w1 ⟨rfl, hb1⟩
    have h1 : Below w.heap.size w w1 := (hb0).trans ((hb1).mono (hb0).size)
    replace m0 := cell_below' hb1 m0
    replace m1 := cell_below' hb1 m1
    replace m2 := cell_below' hb1 m2
    replace m3 := cell_below' hb1 m3
    replace zm := Nat.lt_of_lt_of_le zm (hb1).size
    replace q0 := cell_below' hb1 q0
    replace q1 := cell_below' hb1 q1
    replace q2 := cell_below' hb1 q2
    replace q3 := cell_below' hb1 q3
    replace q4 := cell_below' hb1 q4
    replace q5 := cell_below' hb1 q5
    replace q6 := cell_below' hb1 q6
    replace q7 := cell_below' hb1 q7
    replace zq := Nat.lt_of_lt_of_le zq (hb1).size
    replace p0 := cell_below' hb1 p0
    replace p1 := cell_below' hb1 p1
    replace p2 := cell_below' hb1 p2
    replace p3 := cell_below' hb1 p3
    replace p4 := cell_below' hb1 p4
    replace zp := Nat.lt_of_lt_of_le zp (hb1).size
    clear hb1 hb0
    clear HT HT0
    go_upto_region 3 with (fail)
    go_cut [7, 8] from 21 to 24 (fun s t wx => ∃ (na nb : Nat), s = .pointer (some ⟨na, 0, none⟩) ∧ t = .pointer (some ⟨nb, 0, none⟩) ∧ Below w1.heap.size w1 wx ∧ wx.cell? ⟨na, 0, none⟩ = some (.int .i64 p00) ∧ wx.cell? ⟨na, 1, none⟩ = some (.int .i64 p01) ∧ wx.cell? ⟨na, 2, none⟩ = some (.int .i64 p10) ∧ wx.cell? ⟨na, 3, none⟩ = some (.int .i64 p11) ∧ wx.cell? ⟨nb, 0, none⟩ = some (.int .i64 x00) ∧ wx.cell? ⟨nb, 1, none⟩ = some (.int .i64 x01) ∧ wx.cell? ⟨nb, 2, none⟩ = some (.int .i64 x10) ∧ wx.cell? ⟨nb, 3, none⟩ = some (.int .i64 x11))
    case first =>
      go_region_held3 (fun w' => w'.cell? ⟨w.heap.size + 1, 0, none⟩ = some (.int .i64 p00) ∧ w'.cell? ⟨w.heap.size + 1, 1, none⟩ = some (.int .i64 p01) ∧ w'.cell? ⟨w.heap.size + 1, 2, none⟩ = some (.int .i64 p10) ∧ w'.cell? ⟨w.heap.size + 1, 3, none⟩ = some (.int .i64 p11) ∧ w'.cell? ⟨w.heap.size + 1, 4, none⟩ = some (.int .i64 x00) ∧ w'.cell? ⟨w.heap.size + 1, 5, none⟩ = some (.int .i64 x01) ∧ w'.cell? ⟨w.heap.size + 1, 6, none⟩ = some (.int .i64 x10) ∧ w'.cell? ⟨w.heap.size + 1, 7, none⟩ = some (.int .i64 x11)) ((((try go_split_ands); (repeat' (apply And.intro)) <;> (repeat (first | (with_reducible assumption) | (with_reducible refine cell_drew ?_) | (with_reducible refine cell_alloc _ ?_) | (with_reducible refine cell_below' (by with_reducible assumption) ?_) | (with_reducible refine cell_far ?_ ?_; focus (first | omega | (simp; omega) | (simp; done)))))))) (fail)
      all_goals
        go_wp2_with (fail)
        go_meet
        exact ⟨_, _, rfl, rfl, (by repeat (first | assumption | exact Below.refl _ _ | refine Below.drew ?_ | (refine below_alloc _ ?_ ?_; focus (first | omega | (simp; done) | (simp; omega) | (simp at *; omega))) | (refine below_set _ ?_ ?_; focus (first | omega | (simp; done) | (simp; omega) | (simp at *; omega))) | refine below_drewN ?_ _ | (refine below_call (by assumption) ?_ ?_; focus (first | omega | (simp; done) | (simp; omega) | (simp at *; omega))) | (refine below_call' (by assumption) ?_ ?_; focus (first | omega | (simp; done) | (simp; omega) | (simp at *; omega))))), (by repeat (first | assumption | (refine cell_new ?_ rfl; focus (simp; done)) | refine cell_drew ?_ | refine cell_alloc _ ?_ | refine cell_drewN _ ?_ | (refine cell_far ?_ ?_; focus (first | omega | (simp; omega) | (simp; done))) | refine cell_below' (by assumption) ?_)), (by repeat (first | assumption | (refine cell_new ?_ rfl; focus (simp; done)) | refine cell_drew ?_ | refine cell_alloc _ ?_ | refine cell_drewN _ ?_ | (refine cell_far ?_ ?_; focus (first | omega | (simp; omega) | (simp; done))) | refine cell_below' (by assumption) ?_)), (by repeat (first | assumption | (refine cell_new ?_ rfl; focus (simp; done)) | refine cell_drew ?_ | refine cell_alloc _ ?_ | refine cell_drewN _ ?_ | (refine cell_far ?_ ?_; focus (first | omega | (simp; omega) | (simp; done))) | refine cell_below' (by assumption) ?_)), (by repeat (first | assumption | (refine cell_new ?_ rfl; focus (simp; done)) | refine cell_drew ?_ | refine cell_alloc _ ?_ | refine cell_drewN _ ?_ | (refine cell_far ?_ ?_; focus (first | omega | (simp; omega) | (simp; done))) | refine cell_below' (by assumption) ?_)), (by repeat (first | assumption | (refine cell_new ?_ rfl; focus (simp; done)) | refine cell_drew ?_ | refine cell_alloc _ ?_ | refine cell_drewN _ ?_ | (refine cell_far ?_ ?_; focus (first | omega | (simp; omega) | (simp; done))) | refine cell_below' (by assumption) ?_)), (by repeat (first | assumption | (refine cell_new ?_ rfl; focus (simp; done)) | refine cell_drew ?_ | refine cell_alloc _ ?_ | refine cell_drewN _ ?_ | (refine cell_far ?_ ?_; focus (first | omega | (simp; omega) | (simp; done))) | refine cell_below' (by assumption) ?_)), (by repeat (first | assumption | (refine cell_new ?_ rfl; focus (simp; done)) | refine cell_drew ?_ | refine cell_alloc _ ?_ | refine cell_drewN _ ?_ | (refine cell_far ?_ ?_; focus (first | omega | (simp; omega) | (simp; done))) | refine cell_below' (by assumption) ?_)), (by repeat (first | assumption | (refine cell_new ?_ rfl; focus (simp; done)) | refine cell_drew ?_ | refine cell_alloc _ ?_ | refine cell_drewN _ ?_ | (refine cell_far ?_ ?_; focus (first | omega | (simp; omega) | (simp; done))) | refine cell_below' (by assumption) ?_))⟩
    case rest =>
    obtain ⟨w2, rfl⟩ : ∃ w2 : World, w2 = wc := ⟨_, rfl⟩
    obtain ⟨na, nb, rfl, rfl, hb2, a0, a1, a2, a3, b0, b1, b2, b3⟩ := hcut
    have za : na < w2.heap.size := World.block_lt_of_cell? _ _ a0
    have zb : nb < w2.heap.size := World.block_lt_of_cell? _ _ b0
    have h2 : Below w.heap.size w w2 := (h1).trans ((hb2).mono (h1).size)
    replace m0 := cell_below' hb2 m0
    replace m1 := cell_below' hb2 m1
    replace m2 := cell_below' hb2 m2
    replace m3 := cell_below' hb2 m3
    replace zm := Nat.lt_of_lt_of_le zm (hb2).size
    replace p0 := cell_below' hb2 p0
    replace p1 := cell_below' hb2 p1
    replace p2 := cell_below' hb2 p2
    replace p3 := cell_below' hb2 p3
    replace p4 := cell_below' hb2 p4
    replace zp := Nat.lt_of_lt_of_le zp (hb2).size
    clear hb2 h1
    clear q0 q1 q2 q3 q4 q5 q6 q7 zq
    go_wp2_with (fail)
    refine (M1.out _).mono ?_
    rintro e w3 ⟨rfl, hb3⟩
    have h3 : Below w.heap.size w w3 := (h2).trans ((hb3).mono (h2).size)
    replace m0 := cell_below' hb3 m0
    replace m1 := cell_below' hb3 m1
    replace m2 := cell_below' hb3 m2
    replace m3 := cell_below' hb3 m3
    replace zm := Nat.lt_of_lt_of_le zm (hb3).size
    clear hb3 h2
    go_wp2_with (fail)
    go_ret
    exact ⟨rfl, h3⟩
  by_cases hp : pairE p0 p1 = 0
  rotate_left 1
  · have e1 : (pairE p0 p1 != 0) = true := by simpa using hp
    rw [hm] at M1
    clear ht hm hp
    generalize pairE p0 p1 = ps at *
    obtain ⟨mo0, mo1⟩ := mo
    obtain ⟨me0, me1⟩ := me
    obtain ⟨p00, p01⟩ := p0
    obtain ⟨p10, p11⟩ := p1
    obtain ⟨x00, x01⟩ := x0
    obtain ⟨x10, x11⟩ := x1
    obtain ⟨⟨s0, s1⟩, ⟨s2, s3⟩, d⟩ := s
    simp only [gv, gv2, spv, gv22] at *
    go_enter Tryd.func12, Tryd.ntmps12
    go_upto_region 1 with (fail)
    have hb0 : Below w.heap.size w (((w.alloc (.cells #[.int .i64 mo0, .int .i64 mo1, .int .i64 me0, .int .i64 me1] 54)).alloc (.cells #[.int .i64 p00, .int .i64 p01, .int .i64 p10, .int .i64 p11, .int .i64 x00, .int .i64 x01, .int .i64 x10, .int .i64 x11] 118)).alloc (.cells #[.int .i64 s0, .int .i64 s1, .int .i64 s2, .int .i64 s3, .int .i64 d] 108)) := below_alloc _ (Nat.le_refl _) (below_alloc _ (Nat.le_refl _) (below_alloc _ (Nat.le_refl _) (Below.refl _ _)))
    have m0 : (((w.alloc (.cells #[.int .i64 mo0, .int .i64 mo1, .int .i64 me0, .int .i64 me1] 54)).alloc (.cells #[.int .i64 p00, .int .i64 p01, .int .i64 p10, .int .i64 p11, .int .i64 x00, .int .i64 x01, .int .i64 x10, .int .i64 x11] 118)).alloc (.cells #[.int .i64 s0, .int .i64 s1, .int .i64 s2, .int .i64 s3, .int .i64 d] 108)).cell? ⟨w.heap.size, 0, none⟩ = some (.int .i64 mo0) := cell_alloc _ (cell_alloc _ (cell_new (by simp) rfl))
    have m1 : (((w.alloc (.cells #[.int .i64 mo0, .int .i64 mo1, .int .i64 me0, .int .i64 me1] 54)).alloc (.cells #[.int .i64 p00, .int .i64 p01, .int .i64 p10, .int .i64 p11, .int .i64 x00, .int .i64 x01, .int .i64 x10, .int .i64 x11] 118)).alloc (.cells #[.int .i64 s0, .int .i64 s1, .int .i64 s2, .int .i64 s3, .int .i64 d] 108)).cell? ⟨w.heap.size, 1, none⟩ = some (.int .i64 mo1) := cell_alloc _ (cell_alloc _ (cell_new (by simp) rfl))
    have m2 : (((w.alloc (.cells #[.int .i64 mo0, .int .i64 mo1, .int .i64 me0, .int .i64 me1] 54)).alloc (.cells #[.int .i64 p00, .int .i64 p01, .int .i64 p10, .int .i64 p11, .int .i64 x00, .int .i64 x01, .int .i64 x10, .int .i64 x11] 118)).alloc (.cells #[.int .i64 s0, .int .i64 s1, .int .i64 s2, .int .i64 s3, .int .i64 d] 108)).cell? ⟨w.heap.size, 2, none⟩ = some (.int .i64 me0) := cell_alloc _ (cell_alloc _ (cell_new (by simp) rfl))
    have m3 : (((w.alloc (.cells #[.int .i64 mo0, .int .i64 mo1, .int .i64 me0, .int .i64 me1] 54)).alloc (.cells #[.int .i64 p00, .int .i64 p01, .int .i64 p10, .int .i64 p11, .int .i64 x00, .int .i64 x01, .int .i64 x10, .int .i64 x11] 118)).alloc (.cells #[.int .i64 s0, .int .i64 s1, .int .i64 s2, .int .i64 s3, .int .i64 d] 108)).cell? ⟨w.heap.size, 3, none⟩ = some (.int .i64 me1) := cell_alloc _ (cell_alloc _ (cell_new (by simp) rfl))
    have zm : w.heap.size < (((w.alloc (.cells #[.int .i64 mo0, .int .i64 mo1, .int .i64 me0, .int .i64 me1] 54)).alloc (.cells #[.int .i64 p00, .int .i64 p01, .int .i64 p10, .int .i64 p11, .int .i64 x00, .int .i64 x01, .int .i64 x10, .int .i64 x11] 118)).alloc (.cells #[.int .i64 s0, .int .i64 s1, .int .i64 s2, .int .i64 s3, .int .i64 d] 108)).heap.size := World.block_lt_of_cell? _ _ m0
    have q0 : (((w.alloc (.cells #[.int .i64 mo0, .int .i64 mo1, .int .i64 me0, .int .i64 me1] 54)).alloc (.cells #[.int .i64 p00, .int .i64 p01, .int .i64 p10, .int .i64 p11, .int .i64 x00, .int .i64 x01, .int .i64 x10, .int .i64 x11] 118)).alloc (.cells #[.int .i64 s0, .int .i64 s1, .int .i64 s2, .int .i64 s3, .int .i64 d] 108)).cell? ⟨w.heap.size + 1, 0, none⟩ = some (.int .i64 p00) := cell_alloc _ (cell_new (by simp) rfl)
    have q1 : (((w.alloc (.cells #[.int .i64 mo0, .int .i64 mo1, .int .i64 me0, .int .i64 me1] 54)).alloc (.cells #[.int .i64 p00, .int .i64 p01, .int .i64 p10, .int .i64 p11, .int .i64 x00, .int .i64 x01, .int .i64 x10, .int .i64 x11] 118)).alloc (.cells #[.int .i64 s0, .int .i64 s1, .int .i64 s2, .int .i64 s3, .int .i64 d] 108)).cell? ⟨w.heap.size + 1, 1, none⟩ = some (.int .i64 p01) := cell_alloc _ (cell_new (by simp) rfl)
    have q2 : (((w.alloc (.cells #[.int .i64 mo0, .int .i64 mo1, .int .i64 me0, .int .i64 me1] 54)).alloc (.cells #[.int .i64 p00, .int .i64 p01, .int .i64 p10, .int .i64 p11, .int .i64 x00, .int .i64 x01, .int .i64 x10, .int .i64 x11] 118)).alloc (.cells #[.int .i64 s0, .int .i64 s1, .int .i64 s2, .int .i64 s3, .int .i64 d] 108)).cell? ⟨w.heap.size + 1, 2, none⟩ = some (.int .i64 p10) := cell_alloc _ (cell_new (by simp) rfl)
    have q3 : (((w.alloc (.cells #[.int .i64 mo0, .int .i64 mo1, .int .i64 me0, .int .i64 me1] 54)).alloc (.cells #[.int .i64 p00, .int .i64 p01, .int .i64 p10, .int .i64 p11, .int .i64 x00, .int .i64 x01, .int .i64 x10, .int .i64 x11] 118)).alloc (.cells #[.int .i64 s0, .int .i64 s1, .int .i64 s2, .int .i64 s3, .int .i64 d] 108)).cell? ⟨w.heap.size + 1, 3, none⟩ = some (.int .i64 p11) := cell_alloc _ (cell_new (by simp) rfl)
    have q4 : (((w.alloc (.cells #[.int .i64 mo0, .int .i64 mo1, .int .i64 me0, .int .i64 me1] 54)).alloc (.cells #[.int .i64 p00, .int .i64 p01, .int .i64 p10, .int .i64 p11, .int .i64 x00, .int .i64 x01, .int .i64 x10, .int .i64 x11] 118)).alloc (.cells #[.int .i64 s0, .int .i64 s1, .int .i64 s2, .int .i64 s3, .int .i64 d] 108)).cell? ⟨w.heap.size + 1, 4, none⟩ = some (.int .i64 x00) := cell_alloc _ (cell_new (by simp) rfl)
    have q5 : (((w.alloc (.cells #[.int .i64 mo0, .int .i64 mo1, .int .i64 me0, .int .i64 me1] 54)).alloc (.cells #[.int .i64 p00, .int .i64 p01, .int .i64 p10, .int .i64 p11, .int .i64 x00, .int .i64 x01, .int .i64 x10, .int .i64 x11] 118)).alloc (.cells #[.int .i64 s0, .int .i64 s1, .int .i64 s2, .int .i64 s3, .int .i64 d] 108)).cell? ⟨w.heap.size + 1, 5, none⟩ = some (.int .i64 x01) := cell_alloc _ (cell_new (by simp) rfl)
    have q6 : (((w.alloc (.cells #[.int .i64 mo0, .int .i64 mo1, .int .i64 me0, .int .i64 me1] 54)).alloc (.cells #[.int .i64 p00, .int .i64 p01, .int .i64 p10, .int .i64 p11, .int .i64 x00, .int .i64 x01, .int .i64 x10, .int .i64 x11] 118)).alloc (.cells #[.int .i64 s0, .int .i64 s1, .int .i64 s2, .int .i64 s3, .int .i64 d] 108)).cell? ⟨w.heap.size + 1, 6, none⟩ = some (.int .i64 x10) := cell_alloc _ (cell_new (by simp) rfl)
    have q7 : (((w.alloc (.cells #[.int .i64 mo0, .int .i64 mo1, .int .i64 me0, .int .i64 me1] 54)).alloc (.cells #[.int .i64 p00, .int .i64 p01, .int .i64 p10, .int .i64 p11, .int .i64 x00, .int .i64 x01, .int .i64 x10, .int .i64 x11] 118)).alloc (.cells #[.int .i64 s0, .int .i64 s1, .int .i64 s2, .int .i64 s3, .int .i64 d] 108)).cell? ⟨w.heap.size + 1, 7, none⟩ = some (.int .i64 x11) := cell_alloc _ (cell_new (by simp) rfl)
    have zq : w.heap.size + 1 < (((w.alloc (.cells #[.int .i64 mo0, .int .i64 mo1, .int .i64 me0, .int .i64 me1] 54)).alloc (.cells #[.int .i64 p00, .int .i64 p01, .int .i64 p10, .int .i64 p11, .int .i64 x00, .int .i64 x01, .int .i64 x10, .int .i64 x11] 118)).alloc (.cells #[.int .i64 s0, .int .i64 s1, .int .i64 s2, .int .i64 s3, .int .i64 d] 108)).heap.size := World.block_lt_of_cell? _ _ q0
    have p0 : (((w.alloc (.cells #[.int .i64 mo0, .int .i64 mo1, .int .i64 me0, .int .i64 me1] 54)).alloc (.cells #[.int .i64 p00, .int .i64 p01, .int .i64 p10, .int .i64 p11, .int .i64 x00, .int .i64 x01, .int .i64 x10, .int .i64 x11] 118)).alloc (.cells #[.int .i64 s0, .int .i64 s1, .int .i64 s2, .int .i64 s3, .int .i64 d] 108)).cell? ⟨w.heap.size + 1 + 1, 0, none⟩ = some (.int .i64 s0) := cell_new (by simp) rfl
    have p1 : (((w.alloc (.cells #[.int .i64 mo0, .int .i64 mo1, .int .i64 me0, .int .i64 me1] 54)).alloc (.cells #[.int .i64 p00, .int .i64 p01, .int .i64 p10, .int .i64 p11, .int .i64 x00, .int .i64 x01, .int .i64 x10, .int .i64 x11] 118)).alloc (.cells #[.int .i64 s0, .int .i64 s1, .int .i64 s2, .int .i64 s3, .int .i64 d] 108)).cell? ⟨w.heap.size + 1 + 1, 1, none⟩ = some (.int .i64 s1) := cell_new (by simp) rfl
    have p2 : (((w.alloc (.cells #[.int .i64 mo0, .int .i64 mo1, .int .i64 me0, .int .i64 me1] 54)).alloc (.cells #[.int .i64 p00, .int .i64 p01, .int .i64 p10, .int .i64 p11, .int .i64 x00, .int .i64 x01, .int .i64 x10, .int .i64 x11] 118)).alloc (.cells #[.int .i64 s0, .int .i64 s1, .int .i64 s2, .int .i64 s3, .int .i64 d] 108)).cell? ⟨w.heap.size + 1 + 1, 2, none⟩ = some (.int .i64 s2) := cell_new (by simp) rfl
    have p3 : (((w.alloc (.cells #[.int .i64 mo0, .int .i64 mo1, .int .i64 me0, .int .i64 me1] 54)).alloc (.cells #[.int .i64 p00, .int .i64 p01, .int .i64 p10, .int .i64 p11, .int .i64 x00, .int .i64 x01, .int .i64 x10, .int .i64 x11] 118)).alloc (.cells #[.int .i64 s0, .int .i64 s1, .int .i64 s2, .int .i64 s3, .int .i64 d] 108)).cell? ⟨w.heap.size + 1 + 1, 3, none⟩ = some (.int .i64 s3) := cell_new (by simp) rfl
    have p4 : (((w.alloc (.cells #[.int .i64 mo0, .int .i64 mo1, .int .i64 me0, .int .i64 me1] 54)).alloc (.cells #[.int .i64 p00, .int .i64 p01, .int .i64 p10, .int .i64 p11, .int .i64 x00, .int .i64 x01, .int .i64 x10, .int .i64 x11] 118)).alloc (.cells #[.int .i64 s0, .int .i64 s1, .int .i64 s2, .int .i64 s3, .int .i64 d] 108)).cell? ⟨w.heap.size + 1 + 1, 4, none⟩ = some (.int .i64 d) := cell_new (by simp) rfl
    have zp : w.heap.size + 1 + 1 < (((w.alloc (.cells #[.int .i64 mo0, .int .i64 mo1, .int .i64 me0, .int .i64 me1] 54)).alloc (.cells #[.int .i64 p00, .int .i64 p01, .int .i64 p10, .int .i64 p11, .int .i64 x00, .int .i64 x01, .int .i64 x10, .int .i64 x11] 118)).alloc (.cells #[.int .i64 s0, .int .i64 s1, .int .i64 s2, .int .i64 s3, .int .i64 d] 108)).heap.size := World.block_lt_of_cell? _ _ p0
    generalize (((w.alloc (.cells #[.int .i64 mo0, .int .i64 mo1, .int .i64 me0, .int .i64 me1] 54)).alloc (.cells #[.int .i64 p00, .int .i64 p01, .int .i64 p10, .int .i64 p11, .int .i64 x00, .int .i64 x01, .int .i64 x10, .int .i64 x11] 118)).alloc (.cells #[.int .i64 s0, .int .i64 s1, .int .i64 s2, .int .i64 s3, .int .i64 d] 108)) = w0 at *
    have HT0 := Lib.hid (HT.out.below hb0)
    go_wp2_with (fail)
    refine (awake_any w0 HT0.out).mono ?_
    rintro e w1 ⟨rfl, hb1⟩
    have h1 : Below w.heap.size w w1 := (hb0).trans ((hb1).mono (hb0).size)
    replace m0 := cell_below' hb1 m0
    replace m1 := cell_below' hb1 m1
    replace m2 := cell_below' hb1 m2
    replace m3 := cell_below' hb1 m3
    replace zm := Nat.lt_of_lt_of_le zm (hb1).size
    replace q0 := cell_below' hb1 q0
    replace q1 := cell_below' hb1 q1
    replace q2 := cell_below' hb1 q2
    replace q3 := cell_below' hb1 q3
    replace q4 := cell_below' hb1 q4
    replace q5 := cell_below' hb1 q5
    replace q6 := cell_below' hb1 q6
    replace q7 := cell_below' hb1 q7
    replace zq := Nat.lt_of_lt_of_le zq (hb1).size
    replace p0 := cell_below' hb1 p0
    replace p1 := cell_below' hb1 p1
    replace p2 := cell_below' hb1 p2
    replace p3 := cell_below' hb1 p3
    replace p4 := cell_below' hb1 p4
    replace zp := Nat.lt_of_lt_of_le zp (hb1).size
    clear hb1 hb0
    clear HT HT0
    go_upto_region 3 with (fail)
    go_cut [7, 8] from 21 to 24 (fun s t wx => ∃ (na nb : Nat), s = .pointer (some ⟨na, 0, none⟩) ∧ t = .pointer (some ⟨nb, 0, none⟩) ∧ Below w1.heap.size w1 wx ∧ wx.cell? ⟨na, 0, none⟩ = some (.int .i64 p00) ∧ wx.cell? ⟨na, 1, none⟩ = some (.int .i64 p01) ∧ wx.cell? ⟨na, 2, none⟩ = some (.int .i64 p10) ∧ wx.cell? ⟨na, 3, none⟩ = some (.int .i64 p11) ∧ wx.cell? ⟨nb, 0, none⟩ = some (.int .i64 x00) ∧ wx.cell? ⟨nb, 1, none⟩ = some (.int .i64 x01) ∧ wx.cell? ⟨nb, 2, none⟩ = some (.int .i64 x10) ∧ wx.cell? ⟨nb, 3, none⟩ = some (.int .i64 x11))
    case first =>
      go_region_held3 (fun w' => w'.cell? ⟨w.heap.size + 1, 0, none⟩ = some (.int .i64 p00) ∧ w'.cell? ⟨w.heap.size + 1, 1, none⟩ = some (.int .i64 p01) ∧ w'.cell? ⟨w.heap.size + 1, 2, none⟩ = some (.int .i64 p10) ∧ w'.cell? ⟨w.heap.size + 1, 3, none⟩ = some (.int .i64 p11) ∧ w'.cell? ⟨w.heap.size + 1, 4, none⟩ = some (.int .i64 x00) ∧ w'.cell? ⟨w.heap.size + 1, 5, none⟩ = some (.int .i64 x01) ∧ w'.cell? ⟨w.heap.size + 1, 6, none⟩ = some (.int .i64 x10) ∧ w'.cell? ⟨w.heap.size + 1, 7, none⟩ = some (.int .i64 x11)) ((((try go_split_ands); (repeat' (apply And.intro)) <;> (repeat (first | (with_reducible assumption) | (with_reducible refine cell_drew ?_) | (with_reducible refine cell_alloc _ ?_) | (with_reducible refine cell_below' (by with_reducible assumption) ?_) | (with_reducible refine cell_far ?_ ?_; focus (first | omega | (simp; omega) | (simp; done)))))))) (fail)
      all_goals
        go_wp2_with (fail)
        go_meet
        exact ⟨_, _, rfl, rfl, (by repeat (first | assumption | exact Below.refl _ _ | refine Below.drew ?_ | (refine below_alloc _ ?_ ?_; focus (first | omega | (simp; done) | (simp; omega) | (simp at *; omega))) | (refine below_set _ ?_ ?_; focus (first | omega | (simp; done) | (simp; omega) | (simp at *; omega))) | refine below_drewN ?_ _ | (refine below_call (by assumption) ?_ ?_; focus (first | omega | (simp; done) | (simp; omega) | (simp at *; omega))) | (refine below_call' (by assumption) ?_ ?_; focus (first | omega | (simp; done) | (simp; omega) | (simp at *; omega))))), (by repeat (first | assumption | (refine cell_new ?_ rfl; focus (simp; done)) | refine cell_drew ?_ | refine cell_alloc _ ?_ | refine cell_drewN _ ?_ | (refine cell_far ?_ ?_; focus (first | omega | (simp; omega) | (simp; done))) | refine cell_below' (by assumption) ?_)), (by repeat (first | assumption | (refine cell_new ?_ rfl; focus (simp; done)) | refine cell_drew ?_ | refine cell_alloc _ ?_ | refine cell_drewN _ ?_ | (refine cell_far ?_ ?_; focus (first | omega | (simp; omega) | (simp; done))) | refine cell_below' (by assumption) ?_)), (by repeat (first | assumption | (refine cell_new ?_ rfl; focus (simp; done)) | refine cell_drew ?_ | refine cell_alloc _ ?_ | refine cell_drewN _ ?_ | (refine cell_far ?_ ?_; focus (first | omega | (simp; omega) | (simp; done))) | refine cell_below' (by assumption) ?_)), (by repeat (first | assumption | (refine cell_new ?_ rfl; focus (simp; done)) | refine cell_drew ?_ | refine cell_alloc _ ?_ | refine cell_drewN _ ?_ | (refine cell_far ?_ ?_; focus (first | omega | (simp; omega) | (simp; done))) | refine cell_below' (by assumption) ?_)), (by repeat (first | assumption | (refine cell_new ?_ rfl; focus (simp; done)) | refine cell_drew ?_ | refine cell_alloc _ ?_ | refine cell_drewN _ ?_ | (refine cell_far ?_ ?_; focus (first | omega | (simp; omega) | (simp; done))) | refine cell_below' (by assumption) ?_)), (by repeat (first | assumption | (refine cell_new ?_ rfl; focus (simp; done)) | refine cell_drew ?_ | refine cell_alloc _ ?_ | refine cell_drewN _ ?_ | (refine cell_far ?_ ?_; focus (first | omega | (simp; omega) | (simp; done))) | refine cell_below' (by assumption) ?_)), (by repeat (first | assumption | (refine cell_new ?_ rfl; focus (simp; done)) | refine cell_drew ?_ | refine cell_alloc _ ?_ | refine cell_drewN _ ?_ | (refine cell_far ?_ ?_; focus (first | omega | (simp; omega) | (simp; done))) | refine cell_below' (by assumption) ?_)), (by repeat (first | assumption | (refine cell_new ?_ rfl; focus (simp; done)) | refine cell_drew ?_ | refine cell_alloc _ ?_ | refine cell_drewN _ ?_ | (refine cell_far ?_ ?_; focus (first | omega | (simp; omega) | (simp; done))) | refine cell_below' (by assumption) ?_))⟩
    case rest =>
    obtain ⟨w2, rfl⟩ : ∃ w2 : World, w2 = wc := ⟨_, rfl⟩
    obtain ⟨na, nb, rfl, rfl, hb2, a0, a1, a2, a3, b0, b1, b2, b3⟩ := hcut
    have za : na < w2.heap.size := World.block_lt_of_cell? _ _ a0
    have zb : nb < w2.heap.size := World.block_lt_of_cell? _ _ b0
    have h2 : Below w.heap.size w w2 := (h1).trans ((hb2).mono (h1).size)
    replace m0 := cell_below' hb2 m0
    replace m1 := cell_below' hb2 m1
    replace m2 := cell_below' hb2 m2
    replace m3 := cell_below' hb2 m3
    replace zm := Nat.lt_of_lt_of_le zm (hb2).size
    replace p0 := cell_below' hb2 p0
    replace p1 := cell_below' hb2 p1
    replace p2 := cell_below' hb2 p2
    replace p3 := cell_below' hb2 p3
    replace p4 := cell_below' hb2 p4
    replace zp := Nat.lt_of_lt_of_le zp (hb2).size
    clear hb2 h1
    clear q0 q1 q2 q3 q4 q5 q6 q7 zq
    go_wp2_with (fail)
    refine (M1.out _).mono ?_
    rintro e w3 ⟨rfl, hb3⟩
    have h3 : Below w.heap.size w w3 := (h2).trans ((hb3).mono (h2).size)
    replace m0 := cell_below' hb3 m0
    replace m1 := cell_below' hb3 m1
    replace m2 := cell_below' hb3 m2
    replace m3 := cell_below' hb3 m3
    replace zm := Nat.lt_of_lt_of_le zm (hb3).size
    replace a0 := cell_below' hb3 a0
    replace a1 := cell_below' hb3 a1
    replace a2 := cell_below' hb3 a2
    replace a3 := cell_below' hb3 a3
    replace za := Nat.lt_of_lt_of_le za (hb3).size
    replace b0 := cell_below' hb3 b0
    replace b1 := cell_below' hb3 b1
    replace b2 := cell_below' hb3 b2
    replace b3 := cell_below' hb3 b3
    replace zb := Nat.lt_of_lt_of_le zb (hb3).size
    clear hb3 h2
    go_wp2_with (fail)
    refine (P1.out _).mono ?_
    rintro e w4 ⟨rfl, hb4⟩
    have h4 : Below w.heap.size w w4 := (h3).trans ((hb4).mono (h3).size)
    replace m0 := cell_below' hb4 m0
    replace m1 := cell_below' hb4 m1
    replace m2 := cell_below' hb4 m2
    replace m3 := cell_below' hb4 m3
    replace zm := Nat.lt_of_lt_of_le zm (hb4).size
    clear hb4 h3
    go_wp2_with (fail)
    go_ret
    exact ⟨rfl, h4⟩
  by_cases hx : pairE x0 x1 = 0
  rotate_left 1
  · have e1 : (pairE x0 x1 != 0) = true := by simpa using hx
    rw [hm] at M1
    rw [hp] at P1
    clear ht hm hp hx
    generalize pairE x0 x1 = ps at *
    obtain ⟨mo0, mo1⟩ := mo
    obtain ⟨me0, me1⟩ := me
    obtain ⟨p00, p01⟩ := p0
    obtain ⟨p10, p11⟩ := p1
    obtain ⟨x00, x01⟩ := x0
    obtain ⟨x10, x11⟩ := x1
    obtain ⟨⟨s0, s1⟩, ⟨s2, s3⟩, d⟩ := s
    simp only [gv, gv2, spv, gv22] at *
    go_enter Tryd.func12, Tryd.ntmps12
    go_upto_region 1 with (fail)
    have hb0 : Below w.heap.size w (((w.alloc (.cells #[.int .i64 mo0, .int .i64 mo1, .int .i64 me0, .int .i64 me1] 54)).alloc (.cells #[.int .i64 p00, .int .i64 p01, .int .i64 p10, .int .i64 p11, .int .i64 x00, .int .i64 x01, .int .i64 x10, .int .i64 x11] 118)).alloc (.cells #[.int .i64 s0, .int .i64 s1, .int .i64 s2, .int .i64 s3, .int .i64 d] 108)) := below_alloc _ (Nat.le_refl _) (below_alloc _ (Nat.le_refl _) (below_alloc _ (Nat.le_refl _) (Below.refl _ _)))
    have m0 : (((w.alloc (.cells #[.int .i64 mo0, .int .i64 mo1, .int .i64 me0, .int .i64 me1] 54)).alloc (.cells #[.int .i64 p00, .int .i64 p01, .int .i64 p10, .int .i64 p11, .int .i64 x00, .int .i64 x01, .int .i64 x10, .int .i64 x11] 118)).alloc (.cells #[.int .i64 s0, .int .i64 s1, .int .i64 s2, .int .i64 s3, .int .i64 d] 108)).cell? ⟨w.heap.size, 0, none⟩ = some (.int .i64 mo0) := cell_alloc _ (cell_alloc _ (cell_new (by simp) rfl))
    have m1 : (((w.alloc (.cells #[.int .i64 mo0, .int .i64 mo1, .int .i64 me0, .int .i64 me1] 54)).alloc (.cells #[.int .i64 p00, .int .i64 p01, .int .i64 p10, .int .i64 p11, .int .i64 x00, .int .i64 x01, .int .i64 x10, .int .i64 x11] 118)).alloc (.cells #[.int .i64 s0, .int .i64 s1, .int .i64 s2, .int .i64 s3, .int .i64 d] 108)).cell? ⟨w.heap.size, 1, none⟩ = some (.int .i64 mo1) := cell_alloc _ (cell_alloc _ (cell_new (by simp) rfl))
    have m2 : (((w.alloc (.cells #[.int .i64 mo0, .int .i64 mo1, .int .i64 me0, .int .i64 me1] 54)).alloc (.cells #[.int .i64 p00, .int .i64 p01, .int .i64 p10, .int .i64 p11, .int .i64 x00, .int .i64 x01, .int .i64 x10, .int .i64 x11] 118)).alloc (.cells #[.int .i64 s0, .int .i64 s1, .int .i64 s2, .int .i64 s3, .int .i64 d] 108)).cell? ⟨w.heap.size, 2, none⟩ = some (.int .i64 me0) := cell_alloc _ (cell_alloc _ (cell_new (by simp) rfl))
    have m3 : (((w.alloc (.cells #[.int .i64 mo0, .int .i64 mo1, .int .i64 me0, .int .i64 me1] 54)).alloc (.cells #[.int .i64 p00, .int .i64 p01, .int .i64 p10, .int .i64 p11, .int .i64 x00, .int .i64 x01, .int .i64 x10, .int .i64 x11] 118)).alloc (.cells #[.int .i64 s0, .int .i64 s1, .int .i64 s2, .int .i64 s3, .int .i64 d] 108)).cell? ⟨w.heap.size, 3, none⟩ = some (.int .i64 me1) := cell_alloc _ (cell_alloc _ (cell_new (by simp) rfl))
    have zm : w.heap.size < (((w.alloc (.cells #[.int .i64 mo0, .int .i64 mo1, .int .i64 me0, .int .i64 me1] 54)).alloc (.cells #[.int .i64 p00, .int .i64 p01, .int .i64 p10, .int .i64 p11, .int .i64 x00, .int .i64 x01, .int .i64 x10, .int .i64 x11] 118)).alloc (.cells #[.int .i64 s0, .int .i64 s1, .int .i64 s2, .int .i64 s3, .int .i64 d] 108)).heap.size := World.block_lt_of_cell? _ _ m0
    have q0 : (((w.alloc (.cells #[.int .i64 mo0, .int .i64 mo1, .int .i64 me0, .int .i64 me1] 54)).alloc (.cells #[.int .i64 p00, .int .i64 p01, .int .i64 p10, .int .i64 p11, .int .i64 x00, .int .i64 x01, .int .i64 x10, .int .i64 x11] 118)).alloc (.cells #[.int .i64 s0, .int .i64 s1, .int .i64 s2, .int .i64 s3, .int .i64 d] 108)).cell? ⟨w.heap.size + 1, 0, none⟩ = some (.int .i64 p00) := cell_alloc _ (cell_new (by simp) rfl)
    have q1 : (((w.alloc (.cells #[.int .i64 mo0, .int .i64 mo1, .int .i64 me0, .int .i64 me1] 54)).alloc (.cells #[.int .i64 p00, .int .i64 p01, .int .i64 p10, .int .i64 p11, .int .i64 x00, .int .i64 x01, .int .i64 x10, .int .i64 x11] 118)).alloc (.cells #[.int .i64 s0, .int .i64 s1, .int .i64 s2, .int .i64 s3, .int .i64 d] 108)).cell? ⟨w.heap.size + 1, 1, none⟩ = some (.int .i64 p01) := cell_alloc _ (cell_new (by simp) rfl)
    have q2 : (((w.alloc (.cells #[.int .i64 mo0, .int .i64 mo1, .int .i64 me0, .int .i64 me1] 54)).alloc (.cells #[.int .i64 p00, .int .i64 p01, .int .i64 p10, .int .i64 p11, .int .i64 x00, .int .i64 x01, .int .i64 x10, .int .i64 x11] 118)).alloc (.cells #[.int .i64 s0, .int .i64 s1, .int .i64 s2, .int .i64 s3, .int .i64 d] 108)).cell? ⟨w.heap.size + 1, 2, none⟩ = some (.int .i64 p10) := cell_alloc _ (cell_new (by simp) rfl)
    have q3 : (((w.alloc (.cells #[.int .i64 mo0, .int .i64 mo1, .int .i64 me0, .int .i64 me1] 54)).alloc (.cells #[.int .i64 p00, .int .i64 p01, .int .i64 p10, .int .i64 p11, .int .i64 x00, .int .i64 x01, .int .i64 x10, .int .i64 x11] 118)).alloc (.cells #[.int .i64 s0, .int .i64 s1, .int .i64 s2, .int .i64 s3, .int .i64 d] 108)).cell? ⟨w.heap.size + 1, 3, none⟩ = some (.int .i64 p11) := cell_alloc _ (cell_new (by simp) rfl)
    have q4 : (((w.alloc (.cells #[.int .i64 mo0, .int .i64 mo1, .int .i64 me0, .int .i64 me1] 54)).alloc (.cells #[.int .i64 p00, .int .i64 p01, .int .i64 p10, .int .i64 p11, .int .i64 x00, .int .i64 x01, .int .i64 x10, .int .i64 x11] 118)).alloc (.cells #[.int .i64 s0, .int .i64 s1, .int .i64 s2, .int .i64 s3, .int .i64 d] 108)).cell? ⟨w.heap.size + 1, 4, none⟩ = some (.int .i64 x00) := cell_alloc _ (cell_new (by simp) rfl)
    have q5 : (((w.alloc (.cells #[.int .i64 mo0, .int .i64 mo1, .int .i64 me0, .int .i64 me1] 54)).alloc (.cells #[.int .i64 p00, .int .i64 p01, .int .i64 p10, .int .i64 p11, .int .i64 x00, .int .i64 x01, .int .i64 x10, .int .i64 x11] 118)).alloc (.cells #[.int .i64 s0, .int .i64 s1, .int .i64 s2, .int .i64 s3, .int .i64 d] 108)).cell? ⟨w.heap.size + 1, 5, none⟩ = some (.int .i64 x01) := cell_alloc _ (cell_new (by simp) rfl)
    have q6 : (((w.alloc (.cells #[.int .i64 mo0, .int .i64 mo1, .int .i64 me0, .int .i64 me1] 54)).alloc (.cells #[.int .i64 p00, .int .i64 p01, .int .i64 p10, .int .i64 p11, .int .i64 x00, .int .i64 x01, .int .i64 x10, .int .i64 x11] 118)).alloc (.cells #[.int .i64 s0, .int .i64 s1, .int .i64 s2, .int .i64 s3, .int .i64 d] 108)).cell? ⟨w.heap.size + 1, 6, none⟩ = some (.int .i64 x10) := cell_alloc _ (cell_new (by simp) rfl)
    have q7 : (((w.alloc (.cells #[.int .i64 mo0, .int .i64 mo1, .int .i64 me0, .int .i64 me1] 54)).alloc (.cells #[.int .i64 p00, .int .i64 p01, .int .i64 p10, .int .i64 p11, .int .i64 x00, .int .i64 x01, .int .i64 x10, .int .i64 x11] 118)).alloc (.cells #[.int .i64 s0, .int .i64 s1, .int .i64 s2, .int .i64 s3, .int .i64 d] 108)).cell? ⟨w.heap.size + 1, 7, none⟩ = some (.int .i64 x11) := cell_alloc _ (cell_new (by simp) rfl)
    have zq : w.heap.size + 1 < (((w.alloc (.cells #[.int .i64 mo0, .int .i64 mo1, .int .i64 me0, .int .i64 me1] 54)).alloc (.cells #[.int .i64 p00, .int .i64 p01, .int .i64 p10, .int .i64 p11, .int .i64 x00, .int .i64 x01, .int .i64 x10, .int .i64 x11] 118)).alloc (.cells #[.int .i64 s0, .int .i64 s1, .int .i64 s2, .int .i64 s3, .int .i64 d] 108)).heap.size := World.block_lt_of_cell? _ _ q0
    have p0 : (((w.alloc (.cells #[.int .i64 mo0, .int .i64 mo1, .int .i64 me0, .int .i64 me1] 54)).alloc (.cells #[.int .i64 p00, .int .i64 p01, .int .i64 p10, .int .i64 p11, .int .i64 x00, .int .i64 x01, .int .i64 x10, .int .i64 x11] 118)).alloc (.cells #[.int .i64 s0, .int .i64 s1, .int .i64 s2, .int .i64 s3, .int .i64 d] 108)).cell? ⟨w.heap.size + 1 + 1, 0, none⟩ = some (.int .i64 s0) := cell_new (by simp) rfl
    have p1 : (((w.alloc (.cells #[.int .i64 mo0, .int .i64 mo1, .int .i64 me0, .int .i64 me1] 54)).alloc (.cells #[.int .i64 p00, .int .i64 p01, .int .i64 p10, .int .i64 p11, .int .i64 x00, .int .i64 x01, .int .i64 x10, .int .i64 x11] 118)).alloc (.cells #[.int .i64 s0, .int .i64 s1, .int .i64 s2, .int .i64 s3, .int .i64 d] 108)).cell? ⟨w.heap.size + 1 + 1, 1, none⟩ = some (.int .i64 s1) := cell_new (by simp) rfl
    have p2 : (((w.alloc (.cells #[.int .i64 mo0, .int .i64 mo1, .int .i64 me0, .int .i64 me1] 54)).alloc (.cells #[.int .i64 p00, .int .i64 p01, .int .i64 p10, .int .i64 p11, .int .i64 x00, .int .i64 x01, .int .i64 x10, .int .i64 x11] 118)).alloc (.cells #[.int .i64 s0, .int .i64 s1, .int .i64 s2, .int .i64 s3, .int .i64 d] 108)).cell? ⟨w.heap.size + 1 + 1, 2, none⟩ = some (.int .i64 s2) := cell_new (by simp) rfl
    have p3 : (((w.alloc (.cells #[.int .i64 mo0, .int .i64 mo1, .int .i64 me0, .int .i64 me1] 54)).alloc (.cells #[.int .i64 p00, .int .i64 p01, .int .i64 p10, .int .i64 p11, .int .i64 x00, .int .i64 x01, .int .i64 x10, .int .i64 x11] 118)).alloc (.cells #[.int .i64 s0, .int .i64 s1, .int .i64 s2, .int .i64 s3, .int .i64 d] 108)).cell? ⟨w.heap.size + 1 + 1, 3, none⟩ = some (.int .i64 s3) := cell_new (by simp) rfl
    have p4 : (((w.alloc (.cells #[.int .i64 mo0, .int .i64 mo1, .int .i64 me0, .int .i64 me1] 54)).alloc (.cells #[.int .i64 p00, .int .i64 p01, .int .i64 p10, .int .i64 p11, .int .i64 x00, .int .i64 x01, .int .i64 x10, .int .i64 x11] 118)).alloc (.cells #[.int .i64 s0, .int .i64 s1, .int .i64 s2, .int .i64 s3, .int .i64 d] 108)).cell? ⟨w.heap.size + 1 + 1, 4, none⟩ = some (.int .i64 d) := cell_new (by simp) rfl
    have zp : w.heap.size + 1 + 1 < (((w.alloc (.cells #[.int .i64 mo0, .int .i64 mo1, .int .i64 me0, .int .i64 me1] 54)).alloc (.cells #[.int .i64 p00, .int .i64 p01, .int .i64 p10, .int .i64 p11, .int .i64 x00, .int .i64 x01, .int .i64 x10, .int .i64 x11] 118)).alloc (.cells #[.int .i64 s0, .int .i64 s1, .int .i64 s2, .int .i64 s3, .int .i64 d] 108)).heap.size := World.block_lt_of_cell? _ _ p0
    generalize (((w.alloc (.cells #[.int .i64 mo0, .int .i64 mo1, .int .i64 me0, .int .i64 me1] 54)).alloc (.cells #[.int .i64 p00, .int .i64 p01, .int .i64 p10, .int .i64 p11, .int .i64 x00, .int .i64 x01, .int .i64 x10, .int .i64 x11] 118)).alloc (.cells #[.int .i64 s0, .int .i64 s1, .int .i64 s2, .int .i64 s3, .int .i64 d] 108)) = w0 at *
    have HT0 := Lib.hid (HT.out.below hb0)
    go_wp2_with (fail)
    refine (awake_any w0 HT0.out).mono ?_
    rintro e w1 ⟨rfl, hb1⟩
    have h1 : Below w.heap.size w w1 := (hb0).trans ((hb1).mono (hb0).size)
    replace m0 := cell_below' hb1 m0
    replace m1 := cell_below' hb1 m1
    replace m2 := cell_below' hb1 m2
    replace m3 := cell_below' hb1 m3
    replace zm := Nat.lt_of_lt_of_le zm (hb1).size
    replace q0 := cell_below' hb1 q0
    replace q1 := cell_below' hb1 q1
    replace q2 := cell_below' hb1 q2
    replace q3 := cell_below' hb1 q3
    replace q4 := cell_below' hb1 q4
    replace q5 := cell_below' hb1 q5
    replace q6 := cell_below' hb1 q6
    replace q7 := cell_below' hb1 q7
    replace zq := Nat.lt_of_lt_of_le zq (hb1).size
    replace p0 := cell_below' hb1 p0
    replace p1 := cell_below' hb1 p1
    replace p2 := cell_below' hb1 p2
    replace p3 := cell_below' hb1 p3
    replace p4 := cell_below' hb1 p4
    replace zp := Nat.lt_of_lt_of_le zp (hb1).size
    clear hb1 hb0
    clear HT HT0
    go_upto_region 3 with (fail)
    go_cut [7, 8] from 21 to 24 (fun s t wx => ∃ (na nb : Nat), s = .pointer (some ⟨na, 0, none⟩) ∧ t = .pointer (some ⟨nb, 0, none⟩) ∧ Below w1.heap.size w1 wx ∧ wx.cell? ⟨na, 0, none⟩ = some (.int .i64 p00) ∧ wx.cell? ⟨na, 1, none⟩ = some (.int .i64 p01) ∧ wx.cell? ⟨na, 2, none⟩ = some (.int .i64 p10) ∧ wx.cell? ⟨na, 3, none⟩ = some (.int .i64 p11) ∧ wx.cell? ⟨nb, 0, none⟩ = some (.int .i64 x00) ∧ wx.cell? ⟨nb, 1, none⟩ = some (.int .i64 x01) ∧ wx.cell? ⟨nb, 2, none⟩ = some (.int .i64 x10) ∧ wx.cell? ⟨nb, 3, none⟩ = some (.int .i64 x11))
    case first =>
      go_region_held3 (fun w' => w'.cell? ⟨w.heap.size + 1, 0, none⟩ = some (.int .i64 p00) ∧ w'.cell? ⟨w.heap.size + 1, 1, none⟩ = some (.int .i64 p01) ∧ w'.cell? ⟨w.heap.size + 1, 2, none⟩ = some (.int .i64 p10) ∧ w'.cell? ⟨w.heap.size + 1, 3, none⟩ = some (.int .i64 p11) ∧ w'.cell? ⟨w.heap.size + 1, 4, none⟩ = some (.int .i64 x00) ∧ w'.cell? ⟨w.heap.size + 1, 5, none⟩ = some (.int .i64 x01) ∧ w'.cell? ⟨w.heap.size + 1, 6, none⟩ = some (.int .i64 x10) ∧ w'.cell? ⟨w.heap.size + 1, 7, none⟩ = some (.int .i64 x11)) ((((try go_split_ands); (repeat' (apply And.intro)) <;> (repeat (first | (with_reducible assumption) | (with_reducible refine cell_drew ?_) | (with_reducible refine cell_alloc _ ?_) | (with_reducible refine cell_below' (by with_reducible assumption) ?_) | (with_reducible refine cell_far ?_ ?_; focus (first | omega | (simp; omega) | (simp; done)))))))) (fail)
      all_goals
        go_wp2_with (fail)
        go_meet
        exact ⟨_, _, rfl, rfl, (by repeat (first | assumption | exact Below.refl _ _ | refine Below.drew ?_ | (refine below_alloc _ ?_ ?_; focus (first | omega | (simp; done) | (simp; omega) | (simp at *; omega))) | (refine below_set _ ?_ ?_; focus (first | omega | (simp; done) | (simp; omega) | (simp at *; omega))) | refine below_drewN ?_ _ | (refine below_call (by assumption) ?_ ?_; focus (first | omega | (simp; done) | (simp; omega) | (simp at *; omega))) | (refine below_call' (by assumption) ?_ ?_; focus (first | omega | (simp; done) | (simp; omega) | (simp at *; omega))))), (by repeat (first | assumption | (refine cell_new ?_ rfl; focus (simp; done)) | refine cell_drew ?_ | refine cell_alloc _ ?_ | refine cell_drewN _ ?_ | (refine cell_far ?_ ?_; focus (first | omega | (simp; omega) | (simp; done))) | refine cell_below' (by assumption) ?_)), (by repeat (first | assumption | (refine cell_new ?_ rfl; focus (simp; done)) | refine cell_drew ?_ | refine cell_alloc _ ?_ | refine cell_drewN _ ?_ | (refine cell_far ?_ ?_; focus (first | omega | (simp; omega) | (simp; done))) | refine cell_below' (by assumption) ?_)), (by repeat (first | assumption | (refine cell_new ?_ rfl; focus (simp; done)) | refine cell_drew ?_ | refine cell_alloc _ ?_ | refine cell_drewN _ ?_ | (refine cell_far ?_ ?_; focus (first | omega | (simp; omega) | (simp; done))) | refine cell_below' (by assumption) ?_)), (by repeat (first | assumption | (refine cell_new ?_ rfl; focus (simp; done)) | refine cell_drew ?_ | refine cell_alloc _ ?_ | refine cell_drewN _ ?_ | (refine cell_far ?_ ?_; focus (first | omega | (simp; omega) | (simp; done))) | refine cell_below' (by assumption) ?_)), (by repeat (first | assumption | (refine cell_new ?_ rfl; focus (simp; done)) | refine cell_drew ?_ | refine cell_alloc _ ?_ | refine cell_drewN _ ?_ | (refine cell_far ?_ ?_; focus (first | omega | (simp; omega) | (simp; done))) | refine cell_below' (by assumption) ?_)), (by repeat (first | assumption | (refine cell_new ?_ rfl; focus (simp; done)) | refine cell_drew ?_ | refine cell_alloc _ ?_ | refine cell_drewN _ ?_ | (refine cell_far ?_ ?_; focus (first | omega | (simp; omega) | (simp; done))) | refine cell_below' (by assumption) ?_)), (by repeat (first | assumption | (refine cell_new ?_ rfl; focus (simp; done)) | refine cell_drew ?_ | refine cell_alloc _ ?_ | refine cell_drewN _ ?_ | (refine cell_far ?_ ?_; focus (first | omega | (simp; omega) | (simp; done))) | refine cell_below' (by assumption) ?_)), (by repeat (first | assumption | (refine cell_new ?_ rfl; focus (simp; done)) | refine cell_drew ?_ | refine cell_alloc _ ?_ | refine cell_drewN _ ?_ | (refine cell_far ?_ ?_; focus (first | omega | (simp; omega) | (simp; done))) | refine cell_below' (by assumption) ?_))⟩
    case rest =>
    obtain ⟨w2, rfl⟩ : ∃ w2 : World, w2 = wc := ⟨_, rfl⟩
    obtain ⟨na, nb, rfl, rfl, hb2, a0, a1, a2, a3, b0, b1, b2, b3⟩ := hcut
    have za : na < w2.heap.size := World.block_lt_of_cell? _ _ a0
    have zb : nb < w2.heap.size := World.block_lt_of_cell? _ _ b0
    have h2 : Below w.heap.size w w2 := (h1).trans ((hb2).mono (h1).size)
    replace m0 := cell_below' hb2 m0
    replace m1 := cell_below' hb2 m1
    replace m2 := cell_below' hb2 m2
    replace m3 := cell_below' hb2 m3
    replace zm := Nat.lt_of_lt_of_le zm (hb2).size
    replace p0 := cell_below' hb2 p0
    replace p1 := cell_below' hb2 p1
    replace p2 := cell_below' hb2 p2
    replace p3 := cell_below' hb2 p3
    replace p4 := cell_below' hb2 p4
    replace zp := Nat.lt_of_lt_of_le zp (hb2).size
    clear hb2 h1
    clear q0 q1 q2 q3 q4 q5 q6 q7 zq
    go_wp2_with (fail)
    refine (M1.out _).mono ?_
    rintro e w3 ⟨rfl, hb3⟩
    have h3 : Below w.heap.size w w3 := (h2).trans ((hb3).mono (h2).size)
    replace m0 := cell_below' hb3 m0
    replace m1 := cell_below' hb3 m1
    replace m2 := cell_below' hb3 m2
    replace m3 := cell_below' hb3 m3
    replace zm := Nat.lt_of_lt_of_le zm (hb3).size
    replace a0 := cell_below' hb3 a0
    replace a1 := cell_below' hb3 a1
    replace a2 := cell_below' hb3 a2
    replace a3 := cell_below' hb3 a3
    replace za := Nat.lt_of_lt_of_le za (hb3).size
    replace b0 := cell_below' hb3 b0
    replace b1 := cell_below' hb3 b1
    replace b2 := cell_below' hb3 b2
    replace b3 := cell_below' hb3 b3
    replace zb := Nat.lt_of_lt_of_le zb (hb3).size
    clear hb3 h2
    go_wp2_with (fail)
    refine (P1.out _).mono ?_
    rintro e w4 ⟨rfl, hb4⟩
    have h4 : Below w.heap.size w w4 := (h3).trans ((hb4).mono (h3).size)
    replace m0 := cell_below' hb4 m0
    replace m1 := cell_below' hb4 m1
    replace m2 := cell_below' hb4 m2
    replace m3 := cell_below' hb4 m3
    replace zm := Nat.lt_of_lt_of_le zm (hb4).size
    replace a0 := cell_below' hb4 a0
    replace a1 := cell_below' hb4 a1
    replace a2 := cell_below' hb4 a2
    replace a3 := cell_below' hb4 a3
    replace za := Nat.lt_of_lt_of_le za (hb4).size
    replace b0 := cell_below' hb4 b0
    replace b1 := cell_below' hb4 b1
    replace b2 := cell_below' hb4 b2
    replace b3 := cell_below' hb4 b3
    replace zb := Nat.lt_of_lt_of_le zb (hb4).size
    clear hb4 h3
    go_wp2_with (fail)
    refine (P2.out _).mono ?_
    rintro e w5 ⟨rfl, hb5⟩
    have h5 : Below w.heap.size w w5 := (h4).trans ((hb5).mono (h4).size)
    replace m0 := cell_below' hb5 m0
    replace m1 := cell_below' hb5 m1
    replace m2 := cell_below' hb5 m2
    replace m3 := cell_below' hb5 m3
    replace zm := Nat.lt_of_lt_of_le zm (hb5).size
    clear hb5 h4
    go_wp2_with (fail)
    go_ret
    exact ⟨rfl, h5⟩
  obtain ⟨kp0, kp1⟩ := pairE_zero hp
  obtain ⟨kx0, kx1⟩ := pairE_zero hx
  have hok := mdsE_zero hm
  have hmp := mixE_of hm hp
  have hmx := mixE_of hm hx
  rw [hm] at M1
  rw [hp] at P1
  rw [hx] at P2
  have GP0 := Lib.hid (fun W => GPart_any p0 W (kp0.mono (by decide)))
  have GP1 := Lib.hid (fun W => GPart_any p1 W (kp1.mono (by decide)))
  have MX := Lib.hid (fun W => Mixed_any mo me p0 p1 W)
  rw [mixQ_z hmp] at MX
  have S1 := Lib.hid (fun W (g0 : gprt p0 ≤ 200) (g1 : gprt p1 ≤ 200) => by
    have h := Separated_any mo me (mixA p0 p1) (mixB mo me p0 p1) W
    rw [sepQ_z (mix_small hok g0 g1), sep_mixed hok] at h
    exact h)
  have S2 := Lib.hid (fun W => Separated_any mo me x0 x1 W)
  rw [sepQ_z hmx] at S2
  have C1 := Lib.hid (fun W => CheckSplit_any mo me x0 x1 (sepP mo me x0 x1) W (sepP_R hok kx0 kx1))
  rw [csQ_z hmx, csT_own hok kx0 kx1] at C1
  have C2 := Lib.hid (fun W => CheckSplit_any mo me x0 x1 s W hr)
  rw [csQ_z hmx] at C2
  have hcs := csT_eq (s := s) hok kx0 kx1
  have hse := eqS s (sepP mo me x0 x1)
  have hsn := neS ⟨p0, p1, 1⟩ ⟨p0, p1, 1⟩
  rw [eqSp_self] at hsn
  clear ht hr hm hp hx kp0 kp1 kx0 kx1 hok hmp hmx
  generalize mixA p0 p1 = qa at *
  generalize mixB mo me p0 p1 = qb at *
  generalize sepP mo me x0 x1 = u at *
  generalize eqSp s u = bs at *
  generalize gprt p0 = n0 at *
  generalize gprt p1 = n1 at *
  rcases hct : csT mo me x0 x1 s with ⟨v, e3⟩
  rw [hct] at C2 hcs
  clear hct
  simp only at hcs
  obtain ⟨mo0, mo1⟩ := mo
  obtain ⟨me0, me1⟩ := me
  obtain ⟨p00, p01⟩ := p0
  obtain ⟨p10, p11⟩ := p1
  obtain ⟨x00, x01⟩ := x0
  obtain ⟨x10, x11⟩ := x1
  obtain ⟨⟨s0, s1⟩, ⟨s2, s3⟩, d⟩ := s
  obtain ⟨qa0, qa1⟩ := qa
  obtain ⟨qb0, qb1⟩ := qb
  obtain ⟨⟨u0, u1⟩, ⟨u2, u3⟩, u4⟩ := u
  simp only [gv, gv2, spv, gv22] at *
  go_enter Tryd.func12, Tryd.ntmps12
  go_upto_region 1 with (fail)
  have hb0 : Below w.heap.size w (((w.alloc (.cells #[.int .i64 mo0, .int .i64 mo1, .int .i64 me0, .int .i64 me1] 54)).alloc (.cells #[.int .i64 p00, .int .i64 p01, .int .i64 p10, .int .i64 p11, .int .i64 x00, .int .i64 x01, .int .i64 x10, .int .i64 x11] 118)).alloc (.cells #[.int .i64 s0, .int .i64 s1, .int .i64 s2, .int .i64 s3, .int .i64 d] 108)) := below_alloc _ (Nat.le_refl _) (below_alloc _ (Nat.le_refl _) (below_alloc _ (Nat.le_refl _) (Below.refl _ _)))
  have m0 : (((w.alloc (.cells #[.int .i64 mo0, .int .i64 mo1, .int .i64 me0, .int .i64 me1] 54)).alloc (.cells #[.int .i64 p00, .int .i64 p01, .int .i64 p10, .int .i64 p11, .int .i64 x00, .int .i64 x01, .int .i64 x10, .int .i64 x11] 118)).alloc (.cells #[.int .i64 s0, .int .i64 s1, .int .i64 s2, .int .i64 s3, .int .i64 d] 108)).cell? ⟨w.heap.size, 0, none⟩ = some (.int .i64 mo0) := cell_alloc _ (cell_alloc _ (cell_new (by simp) rfl))
  have m1 : (((w.alloc (.cells #[.int .i64 mo0, .int .i64 mo1, .int .i64 me0, .int .i64 me1] 54)).alloc (.cells #[.int .i64 p00, .int .i64 p01, .int .i64 p10, .int .i64 p11, .int .i64 x00, .int .i64 x01, .int .i64 x10, .int .i64 x11] 118)).alloc (.cells #[.int .i64 s0, .int .i64 s1, .int .i64 s2, .int .i64 s3, .int .i64 d] 108)).cell? ⟨w.heap.size, 1, none⟩ = some (.int .i64 mo1) := cell_alloc _ (cell_alloc _ (cell_new (by simp) rfl))
  have m2 : (((w.alloc (.cells #[.int .i64 mo0, .int .i64 mo1, .int .i64 me0, .int .i64 me1] 54)).alloc (.cells #[.int .i64 p00, .int .i64 p01, .int .i64 p10, .int .i64 p11, .int .i64 x00, .int .i64 x01, .int .i64 x10, .int .i64 x11] 118)).alloc (.cells #[.int .i64 s0, .int .i64 s1, .int .i64 s2, .int .i64 s3, .int .i64 d] 108)).cell? ⟨w.heap.size, 2, none⟩ = some (.int .i64 me0) := cell_alloc _ (cell_alloc _ (cell_new (by simp) rfl))
  have m3 : (((w.alloc (.cells #[.int .i64 mo0, .int .i64 mo1, .int .i64 me0, .int .i64 me1] 54)).alloc (.cells #[.int .i64 p00, .int .i64 p01, .int .i64 p10, .int .i64 p11, .int .i64 x00, .int .i64 x01, .int .i64 x10, .int .i64 x11] 118)).alloc (.cells #[.int .i64 s0, .int .i64 s1, .int .i64 s2, .int .i64 s3, .int .i64 d] 108)).cell? ⟨w.heap.size, 3, none⟩ = some (.int .i64 me1) := cell_alloc _ (cell_alloc _ (cell_new (by simp) rfl))
  have zm : w.heap.size < (((w.alloc (.cells #[.int .i64 mo0, .int .i64 mo1, .int .i64 me0, .int .i64 me1] 54)).alloc (.cells #[.int .i64 p00, .int .i64 p01, .int .i64 p10, .int .i64 p11, .int .i64 x00, .int .i64 x01, .int .i64 x10, .int .i64 x11] 118)).alloc (.cells #[.int .i64 s0, .int .i64 s1, .int .i64 s2, .int .i64 s3, .int .i64 d] 108)).heap.size := World.block_lt_of_cell? _ _ m0
  have q0 : (((w.alloc (.cells #[.int .i64 mo0, .int .i64 mo1, .int .i64 me0, .int .i64 me1] 54)).alloc (.cells #[.int .i64 p00, .int .i64 p01, .int .i64 p10, .int .i64 p11, .int .i64 x00, .int .i64 x01, .int .i64 x10, .int .i64 x11] 118)).alloc (.cells #[.int .i64 s0, .int .i64 s1, .int .i64 s2, .int .i64 s3, .int .i64 d] 108)).cell? ⟨w.heap.size + 1, 0, none⟩ = some (.int .i64 p00) := cell_alloc _ (cell_new (by simp) rfl)
  have q1 : (((w.alloc (.cells #[.int .i64 mo0, .int .i64 mo1, .int .i64 me0, .int .i64 me1] 54)).alloc (.cells #[.int .i64 p00, .int .i64 p01, .int .i64 p10, .int .i64 p11, .int .i64 x00, .int .i64 x01, .int .i64 x10, .int .i64 x11] 118)).alloc (.cells #[.int .i64 s0, .int .i64 s1, .int .i64 s2, .int .i64 s3, .int .i64 d] 108)).cell? ⟨w.heap.size + 1, 1, none⟩ = some (.int .i64 p01) := cell_alloc _ (cell_new (by simp) rfl)
  have q2 : (((w.alloc (.cells #[.int .i64 mo0, .int .i64 mo1, .int .i64 me0, .int .i64 me1] 54)).alloc (.cells #[.int .i64 p00, .int .i64 p01, .int .i64 p10, .int .i64 p11, .int .i64 x00, .int .i64 x01, .int .i64 x10, .int .i64 x11] 118)).alloc (.cells #[.int .i64 s0, .int .i64 s1, .int .i64 s2, .int .i64 s3, .int .i64 d] 108)).cell? ⟨w.heap.size + 1, 2, none⟩ = some (.int .i64 p10) := cell_alloc _ (cell_new (by simp) rfl)
  have q3 : (((w.alloc (.cells #[.int .i64 mo0, .int .i64 mo1, .int .i64 me0, .int .i64 me1] 54)).alloc (.cells #[.int .i64 p00, .int .i64 p01, .int .i64 p10, .int .i64 p11, .int .i64 x00, .int .i64 x01, .int .i64 x10, .int .i64 x11] 118)).alloc (.cells #[.int .i64 s0, .int .i64 s1, .int .i64 s2, .int .i64 s3, .int .i64 d] 108)).cell? ⟨w.heap.size + 1, 3, none⟩ = some (.int .i64 p11) := cell_alloc _ (cell_new (by simp) rfl)
  have q4 : (((w.alloc (.cells #[.int .i64 mo0, .int .i64 mo1, .int .i64 me0, .int .i64 me1] 54)).alloc (.cells #[.int .i64 p00, .int .i64 p01, .int .i64 p10, .int .i64 p11, .int .i64 x00, .int .i64 x01, .int .i64 x10, .int .i64 x11] 118)).alloc (.cells #[.int .i64 s0, .int .i64 s1, .int .i64 s2, .int .i64 s3, .int .i64 d] 108)).cell? ⟨w.heap.size + 1, 4, none⟩ = some (.int .i64 x00) := cell_alloc _ (cell_new (by simp) rfl)
  have q5 : (((w.alloc (.cells #[.int .i64 mo0, .int .i64 mo1, .int .i64 me0, .int .i64 me1] 54)).alloc (.cells #[.int .i64 p00, .int .i64 p01, .int .i64 p10, .int .i64 p11, .int .i64 x00, .int .i64 x01, .int .i64 x10, .int .i64 x11] 118)).alloc (.cells #[.int .i64 s0, .int .i64 s1, .int .i64 s2, .int .i64 s3, .int .i64 d] 108)).cell? ⟨w.heap.size + 1, 5, none⟩ = some (.int .i64 x01) := cell_alloc _ (cell_new (by simp) rfl)
  have q6 : (((w.alloc (.cells #[.int .i64 mo0, .int .i64 mo1, .int .i64 me0, .int .i64 me1] 54)).alloc (.cells #[.int .i64 p00, .int .i64 p01, .int .i64 p10, .int .i64 p11, .int .i64 x00, .int .i64 x01, .int .i64 x10, .int .i64 x11] 118)).alloc (.cells #[.int .i64 s0, .int .i64 s1, .int .i64 s2, .int .i64 s3, .int .i64 d] 108)).cell? ⟨w.heap.size + 1, 6, none⟩ = some (.int .i64 x10) := cell_alloc _ (cell_new (by simp) rfl)
  have q7 : (((w.alloc (.cells #[.int .i64 mo0, .int .i64 mo1, .int .i64 me0, .int .i64 me1] 54)).alloc (.cells #[.int .i64 p00, .int .i64 p01, .int .i64 p10, .int .i64 p11, .int .i64 x00, .int .i64 x01, .int .i64 x10, .int .i64 x11] 118)).alloc (.cells #[.int .i64 s0, .int .i64 s1, .int .i64 s2, .int .i64 s3, .int .i64 d] 108)).cell? ⟨w.heap.size + 1, 7, none⟩ = some (.int .i64 x11) := cell_alloc _ (cell_new (by simp) rfl)
  have zq : w.heap.size + 1 < (((w.alloc (.cells #[.int .i64 mo0, .int .i64 mo1, .int .i64 me0, .int .i64 me1] 54)).alloc (.cells #[.int .i64 p00, .int .i64 p01, .int .i64 p10, .int .i64 p11, .int .i64 x00, .int .i64 x01, .int .i64 x10, .int .i64 x11] 118)).alloc (.cells #[.int .i64 s0, .int .i64 s1, .int .i64 s2, .int .i64 s3, .int .i64 d] 108)).heap.size := World.block_lt_of_cell? _ _ q0
  have p0 : (((w.alloc (.cells #[.int .i64 mo0, .int .i64 mo1, .int .i64 me0, .int .i64 me1] 54)).alloc (.cells #[.int .i64 p00, .int .i64 p01, .int .i64 p10, .int .i64 p11, .int .i64 x00, .int .i64 x01, .int .i64 x10, .int .i64 x11] 118)).alloc (.cells #[.int .i64 s0, .int .i64 s1, .int .i64 s2, .int .i64 s3, .int .i64 d] 108)).cell? ⟨w.heap.size + 1 + 1, 0, none⟩ = some (.int .i64 s0) := cell_new (by simp) rfl
  have p1 : (((w.alloc (.cells #[.int .i64 mo0, .int .i64 mo1, .int .i64 me0, .int .i64 me1] 54)).alloc (.cells #[.int .i64 p00, .int .i64 p01, .int .i64 p10, .int .i64 p11, .int .i64 x00, .int .i64 x01, .int .i64 x10, .int .i64 x11] 118)).alloc (.cells #[.int .i64 s0, .int .i64 s1, .int .i64 s2, .int .i64 s3, .int .i64 d] 108)).cell? ⟨w.heap.size + 1 + 1, 1, none⟩ = some (.int .i64 s1) := cell_new (by simp) rfl
  have p2 : (((w.alloc (.cells #[.int .i64 mo0, .int .i64 mo1, .int .i64 me0, .int .i64 me1] 54)).alloc (.cells #[.int .i64 p00, .int .i64 p01, .int .i64 p10, .int .i64 p11, .int .i64 x00, .int .i64 x01, .int .i64 x10, .int .i64 x11] 118)).alloc (.cells #[.int .i64 s0, .int .i64 s1, .int .i64 s2, .int .i64 s3, .int .i64 d] 108)).cell? ⟨w.heap.size + 1 + 1, 2, none⟩ = some (.int .i64 s2) := cell_new (by simp) rfl
  have p3 : (((w.alloc (.cells #[.int .i64 mo0, .int .i64 mo1, .int .i64 me0, .int .i64 me1] 54)).alloc (.cells #[.int .i64 p00, .int .i64 p01, .int .i64 p10, .int .i64 p11, .int .i64 x00, .int .i64 x01, .int .i64 x10, .int .i64 x11] 118)).alloc (.cells #[.int .i64 s0, .int .i64 s1, .int .i64 s2, .int .i64 s3, .int .i64 d] 108)).cell? ⟨w.heap.size + 1 + 1, 3, none⟩ = some (.int .i64 s3) := cell_new (by simp) rfl
  have p4 : (((w.alloc (.cells #[.int .i64 mo0, .int .i64 mo1, .int .i64 me0, .int .i64 me1] 54)).alloc (.cells #[.int .i64 p00, .int .i64 p01, .int .i64 p10, .int .i64 p11, .int .i64 x00, .int .i64 x01, .int .i64 x10, .int .i64 x11] 118)).alloc (.cells #[.int .i64 s0, .int .i64 s1, .int .i64 s2, .int .i64 s3, .int .i64 d] 108)).cell? ⟨w.heap.size + 1 + 1, 4, none⟩ = some (.int .i64 d) := cell_new (by simp) rfl
  have zp : w.heap.size + 1 + 1 < (((w.alloc (.cells #[.int .i64 mo0, .int .i64 mo1, .int .i64 me0, .int .i64 me1] 54)).alloc (.cells #[.int .i64 p00, .int .i64 p01, .int .i64 p10, .int .i64 p11, .int .i64 x00, .int .i64 x01, .int .i64 x10, .int .i64 x11] 118)).alloc (.cells #[.int .i64 s0, .int .i64 s1, .int .i64 s2, .int .i64 s3, .int .i64 d] 108)).heap.size := World.block_lt_of_cell? _ _ p0
  generalize (((w.alloc (.cells #[.int .i64 mo0, .int .i64 mo1, .int .i64 me0, .int .i64 me1] 54)).alloc (.cells #[.int .i64 p00, .int .i64 p01, .int .i64 p10, .int .i64 p11, .int .i64 x00, .int .i64 x01, .int .i64 x10, .int .i64 x11] 118)).alloc (.cells #[.int .i64 s0, .int .i64 s1, .int .i64 s2, .int .i64 s3, .int .i64 d] 108)) = w0 at *
  have HT0 := Lib.hid (HT.out.below hb0)
  go_wp2_with (fail)
  refine (awake_any w0 HT0.out).mono ?_
  rintro e w1 ⟨rfl, hb1⟩
  have h1 : Below w.heap.size w w1 := (hb0).trans ((hb1).mono (hb0).size)
  replace m0 := cell_below' hb1 m0
  replace m1 := cell_below' hb1 m1
  replace m2 := cell_below' hb1 m2
  replace m3 := cell_below' hb1 m3
  replace zm := Nat.lt_of_lt_of_le zm (hb1).size
  replace q0 := cell_below' hb1 q0
  replace q1 := cell_below' hb1 q1
  replace q2 := cell_below' hb1 q2
  replace q3 := cell_below' hb1 q3
  replace q4 := cell_below' hb1 q4
  replace q5 := cell_below' hb1 q5
  replace q6 := cell_below' hb1 q6
  replace q7 := cell_below' hb1 q7
  replace zq := Nat.lt_of_lt_of_le zq (hb1).size
  replace p0 := cell_below' hb1 p0
  replace p1 := cell_below' hb1 p1
  replace p2 := cell_below' hb1 p2
  replace p3 := cell_below' hb1 p3
  replace p4 := cell_below' hb1 p4
  replace zp := Nat.lt_of_lt_of_le zp (hb1).size
  clear hb1 hb0
  clear HT HT0
  go_upto_region 3 with (fail)
  go_cut [7, 8] from 21 to 24 (fun s t wx => ∃ (na nb : Nat), s = .pointer (some ⟨na, 0, none⟩) ∧ t = .pointer (some ⟨nb, 0, none⟩) ∧ Below w1.heap.size w1 wx ∧ wx.cell? ⟨na, 0, none⟩ = some (.int .i64 p00) ∧ wx.cell? ⟨na, 1, none⟩ = some (.int .i64 p01) ∧ wx.cell? ⟨na, 2, none⟩ = some (.int .i64 p10) ∧ wx.cell? ⟨na, 3, none⟩ = some (.int .i64 p11) ∧ wx.cell? ⟨nb, 0, none⟩ = some (.int .i64 x00) ∧ wx.cell? ⟨nb, 1, none⟩ = some (.int .i64 x01) ∧ wx.cell? ⟨nb, 2, none⟩ = some (.int .i64 x10) ∧ wx.cell? ⟨nb, 3, none⟩ = some (.int .i64 x11))
  case first =>
    go_region_held3 (fun w' => w'.cell? ⟨w.heap.size + 1, 0, none⟩ = some (.int .i64 p00) ∧ w'.cell? ⟨w.heap.size + 1, 1, none⟩ = some (.int .i64 p01) ∧ w'.cell? ⟨w.heap.size + 1, 2, none⟩ = some (.int .i64 p10) ∧ w'.cell? ⟨w.heap.size + 1, 3, none⟩ = some (.int .i64 p11) ∧ w'.cell? ⟨w.heap.size + 1, 4, none⟩ = some (.int .i64 x00) ∧ w'.cell? ⟨w.heap.size + 1, 5, none⟩ = some (.int .i64 x01) ∧ w'.cell? ⟨w.heap.size + 1, 6, none⟩ = some (.int .i64 x10) ∧ w'.cell? ⟨w.heap.size + 1, 7, none⟩ = some (.int .i64 x11)) ((((try go_split_ands); (repeat' (apply And.intro)) <;> (repeat (first | (with_reducible assumption) | (with_reducible refine cell_drew ?_) | (with_reducible refine cell_alloc _ ?_) | (with_reducible refine cell_below' (by with_reducible assumption) ?_) | (with_reducible refine cell_far ?_ ?_; focus (first | omega | (simp; omega) | (simp; done)))))))) (fail)
    all_goals
      go_wp2_with (fail)
      go_meet
      exact ⟨_, _, rfl, rfl, (by repeat (first | assumption | exact Below.refl _ _ | refine Below.drew ?_ | (refine below_alloc _ ?_ ?_; focus (first | omega | (simp; done) | (simp; omega) | (simp at *; omega))) | (refine below_set _ ?_ ?_; focus (first | omega | (simp; done) | (simp; omega) | (simp at *; omega))) | refine below_drewN ?_ _ | (refine below_call (by assumption) ?_ ?_; focus (first | omega | (simp; done) | (simp; omega) | (simp at *; omega))) | (refine below_call' (by assumption) ?_ ?_; focus (first | omega | (simp; done) | (simp; omega) | (simp at *; omega))))), (by repeat (first | assumption | (refine cell_new ?_ rfl; focus (simp; done)) | refine cell_drew ?_ | refine cell_alloc _ ?_ | refine cell_drewN _ ?_ | (refine cell_far ?_ ?_; focus (first | omega | (simp; omega) | (simp; done))) | refine cell_below' (by assumption) ?_)), (by repeat (first | assumption | (refine cell_new ?_ rfl; focus (simp; done)) | refine cell_drew ?_ | refine cell_alloc _ ?_ | refine cell_drewN _ ?_ | (refine cell_far ?_ ?_; focus (first | omega | (simp; omega) | (simp; done))) | refine cell_below' (by assumption) ?_)), (by repeat (first | assumption | (refine cell_new ?_ rfl; focus (simp; done)) | refine cell_drew ?_ | refine cell_alloc _ ?_ | refine cell_drewN _ ?_ | (refine cell_far ?_ ?_; focus (first | omega | (simp; omega) | (simp; done))) | refine cell_below' (by assumption) ?_)), (by repeat (first | assumption | (refine cell_new ?_ rfl; focus (simp; done)) | refine cell_drew ?_ | refine cell_alloc _ ?_ | refine cell_drewN _ ?_ | (refine cell_far ?_ ?_; focus (first | omega | (simp; omega) | (simp; done))) | refine cell_below' (by assumption) ?_)), (by repeat (first | assumption | (refine cell_new ?_ rfl; focus (simp; done)) | refine cell_drew ?_ | refine cell_alloc _ ?_ | refine cell_drewN _ ?_ | (refine cell_far ?_ ?_; focus (first | omega | (simp; omega) | (simp; done))) | refine cell_below' (by assumption) ?_)), (by repeat (first | assumption | (refine cell_new ?_ rfl; focus (simp; done)) | refine cell_drew ?_ | refine cell_alloc _ ?_ | refine cell_drewN _ ?_ | (refine cell_far ?_ ?_; focus (first | omega | (simp; omega) | (simp; done))) | refine cell_below' (by assumption) ?_)), (by repeat (first | assumption | (refine cell_new ?_ rfl; focus (simp; done)) | refine cell_drew ?_ | refine cell_alloc _ ?_ | refine cell_drewN _ ?_ | (refine cell_far ?_ ?_; focus (first | omega | (simp; omega) | (simp; done))) | refine cell_below' (by assumption) ?_)), (by repeat (first | assumption | (refine cell_new ?_ rfl; focus (simp; done)) | refine cell_drew ?_ | refine cell_alloc _ ?_ | refine cell_drewN _ ?_ | (refine cell_far ?_ ?_; focus (first | omega | (simp; omega) | (simp; done))) | refine cell_below' (by assumption) ?_))⟩
  case rest =>
  obtain ⟨w2, rfl⟩ : ∃ w2 : World, w2 = wc := ⟨_, rfl⟩
  obtain ⟨na, nb, rfl, rfl, hb2, a0, a1, a2, a3, b0, b1, b2, b3⟩ := hcut
  have za : na < w2.heap.size := World.block_lt_of_cell? _ _ a0
  have zb : nb < w2.heap.size := World.block_lt_of_cell? _ _ b0
  have h2 : Below w.heap.size w w2 := (h1).trans ((hb2).mono (h1).size)
  replace m0 := cell_below' hb2 m0
  replace m1 := cell_below' hb2 m1
  replace m2 := cell_below' hb2 m2
  replace m3 := cell_below' hb2 m3
  replace zm := Nat.lt_of_lt_of_le zm (hb2).size
  replace p0 := cell_below' hb2 p0
  replace p1 := cell_below' hb2 p1
  replace p2 := cell_below' hb2 p2
  replace p3 := cell_below' hb2 p3
  replace p4 := cell_below' hb2 p4
  replace zp := Nat.lt_of_lt_of_le zp (hb2).size
  clear hb2 h1
  clear q0 q1 q2 q3 q4 q5 q6 q7 zq
  go_wp2_with (fail)
  refine (M1.out _).mono ?_
  rintro e w3 ⟨rfl, hb3⟩
  have h3 : Below w.heap.size w w3 := (h2).trans ((hb3).mono (h2).size)
  replace m0 := cell_below' hb3 m0
  replace m1 := cell_below' hb3 m1
  replace m2 := cell_below' hb3 m2
  replace m3 := cell_below' hb3 m3
  replace zm := Nat.lt_of_lt_of_le zm (hb3).size
  replace p0 := cell_below' hb3 p0
  replace p1 := cell_below' hb3 p1
  replace p2 := cell_below' hb3 p2
  replace p3 := cell_below' hb3 p3
  replace p4 := cell_below' hb3 p4
  replace zp := Nat.lt_of_lt_of_le zp (hb3).size
  replace a0 := cell_below' hb3 a0
  replace a1 := cell_below' hb3 a1
  replace a2 := cell_below' hb3 a2
  replace a3 := cell_below' hb3 a3
  replace za := Nat.lt_of_lt_of_le za (hb3).size
  replace b0 := cell_below' hb3 b0
  replace b1 := cell_below' hb3 b1
  replace b2 := cell_below' hb3 b2
  replace b3 := cell_below' hb3 b3
  replace zb := Nat.lt_of_lt_of_le zb (hb3).size
  clear hb3 h2
  go_wp2_with (fail)
  refine (P1.out _).mono ?_
  rintro e w4 ⟨rfl, hb4⟩
  have h4 : Below w.heap.size w w4 := (h3).trans ((hb4).mono (h3).size)
  replace m0 := cell_below' hb4 m0
  replace m1 := cell_below' hb4 m1
  replace m2 := cell_below' hb4 m2
  replace m3 := cell_below' hb4 m3
  replace zm := Nat.lt_of_lt_of_le zm (hb4).size
  replace p0 := cell_below' hb4 p0
  replace p1 := cell_below' hb4 p1
  replace p2 := cell_below' hb4 p2
  replace p3 := cell_below' hb4 p3
  replace p4 := cell_below' hb4 p4
  replace zp := Nat.lt_of_lt_of_le zp (hb4).size
  replace a0 := cell_below' hb4 a0
  replace a1 := cell_below' hb4 a1
  replace a2 := cell_below' hb4 a2
  replace a3 := cell_below' hb4 a3
  replace za := Nat.lt_of_lt_of_le za (hb4).size
  replace b0 := cell_below' hb4 b0
  replace b1 := cell_below' hb4 b1
  replace b2 := cell_below' hb4 b2
  replace b3 := cell_below' hb4 b3
  replace zb := Nat.lt_of_lt_of_le zb (hb4).size
  clear hb4 h3
  go_wp2_with (fail)
  refine (P2.out _).mono ?_
  rintro e w5 ⟨rfl, hb5⟩
  have h5 : Below w.heap.size w w5 := (h4).trans ((hb5).mono (h4).size)
  replace m0 := cell_below' hb5 m0
  replace m1 := cell_below' hb5 m1
  replace m2 := cell_below' hb5 m2
  replace m3 := cell_below' hb5 m3
  replace zm := Nat.lt_of_lt_of_le zm (hb5).size
  replace p0 := cell_below' hb5 p0
  replace p1 := cell_below' hb5 p1
  replace p2 := cell_below' hb5 p2
  replace p3 := cell_below' hb5 p3
  replace p4 := cell_below' hb5 p4
  replace zp := Nat.lt_of_lt_of_le zp (hb5).size
  replace a0 := cell_below' hb5 a0
  replace a1 := cell_below' hb5 a1
  replace a2 := cell_below' hb5 a2
  replace a3 := cell_below' hb5 a3
  replace za := Nat.lt_of_lt_of_le za (hb5).size
  replace b0 := cell_below' hb5 b0
  replace b1 := cell_below' hb5 b1
  replace b2 := cell_below' hb5 b2
  replace b3 := cell_below' hb5 b3
  replace zb := Nat.lt_of_lt_of_le zb (hb5).size
  clear hb5 h4
  clear M1 P1 P2
  go_upto_region 6 with (fail)
  go_cut [47] from 38 to 47 (fun t wx => t = .bool (decide (n0 ≤ 200) && decide (n1 ≤ 200)) ∧ Below w5.heap.size w5 wx)
  case first =>
    clear MX S1 S2 C1 C2 hcs hse hsn
    go_wp2_with (fail)
    refine (GP0.out _).mono ?_
    rintro e w6 ⟨rfl, hb6⟩
    have hk := hb6
    have h6 : Below w.heap.size w w6 := (h5).trans ((hb6).mono (h5).size)
    replace a0 := cell_below' hb6 a0
    replace a1 := cell_below' hb6 a1
    replace a2 := cell_below' hb6 a2
    replace a3 := cell_below' hb6 a3
    replace za := Nat.lt_of_lt_of_le za (hb6).size
    clear hb6 h5
    by_cases hn : n0 ≤ 200
    · have e1 : decide (n0 ≤ 200) = true := by simpa using hn
      go_wp2_with (fail)
      refine (GP1.out _).mono ?_
      rintro e w7 ⟨rfl, hb7⟩
      have hk7 := hk.trans (hb7.mono hk.size)
      go_wp2_with (fail)
      go_meet
      exact ⟨by simp [e1], hk7⟩
    · have e1 : decide (n0 ≤ 200) = false := by simpa using hn
      go_wp2_with (fail)
      go_meet
      exact ⟨by simp [e1], hk⟩
  case rest =>
  obtain ⟨w6, rfl⟩ : ∃ w6 : World, w6 = wc := ⟨_, rfl⟩
  obtain ⟨rfl, hb6⟩ := hcut
  have h6 : Below w.heap.size w w6 := (h5).trans ((hb6).mono (h5).size)
  replace m0 := cell_below' hb6 m0
  replace m1 := cell_below' hb6 m1
  replace m2 := cell_below' hb6 m2
  replace m3 := cell_below' hb6 m3
  replace zm := Nat.lt_of_lt_of_le zm (hb6).size
  replace p0 := cell_below' hb6 p0
  replace p1 := cell_below' hb6 p1
  replace p2 := cell_below' hb6 p2
  replace p3 := cell_below' hb6 p3
  replace p4 := cell_below' hb6 p4
  replace zp := Nat.lt_of_lt_of_le zp (hb6).size
  replace a0 := cell_below' hb6 a0
  replace a1 := cell_below' hb6 a1
  replace a2 := cell_below' hb6 a2
  replace a3 := cell_below' hb6 a3
  replace za := Nat.lt_of_lt_of_le za (hb6).size
  replace b0 := cell_below' hb6 b0
  replace b1 := cell_below' hb6 b1
  replace b2 := cell_below' hb6 b2
  replace b3 := cell_below' hb6 b3
  replace zb := Nat.lt_of_lt_of_le zb (hb6).size
  clear hb6 h5
  clear GP0 GP1
  go_upto_if 47 with (fail)
  go_cut [] from 47 to 72 (fun wx => Below w6.heap.size w6 wx)
  case first =>
    clear S2 C1 C2 hcs hse
    by_cases hn : n0 ≤ 200 ∧ n1 ≤ 200
    rotate_left 1
    · have e1 : (decide (n0 ≤ 200) && decide (n1 ≤ 200)) = false := by
        rw [Bool.eq_false_iff]; intro h; rw [Bool.and_eq_true, decide_eq_true_eq, decide_eq_true_eq] at h; exact hn h
      rw [e1]
      go_wp2_with (fail)
      go_meet
      exact Below.refl _ _
    · have e1 : (decide (n0 ≤ 200) && decide (n1 ≤ 200)) = true := by
        rw [Bool.and_eq_true, decide_eq_true_eq, decide_eq_true_eq]; exact hn
      rw [e1]
      have SS1 := Lib.hid (fun W => S1.out W hn.1 hn.2)
      clear S1 e1 hn
      go_wp2_with (fail)
      refine (MX.out _).mono ?_
      rintro e w7 ⟨rfl, hb7⟩
      have hk7 := hb7
      have h7 : Below w.heap.size w w7 := (h6).trans ((hb7).mono (h6).size)
      replace m0 := cell_below' hb7 m0
      replace m1 := cell_below' hb7 m1
      replace m2 := cell_below' hb7 m2
      replace m3 := cell_below' hb7 m3
      replace zm := Nat.lt_of_lt_of_le zm (hb7).size
      replace a0 := cell_below' hb7 a0
      replace a1 := cell_below' hb7 a1
      replace a2 := cell_below' hb7 a2
      replace a3 := cell_below' hb7 a3
      replace za := Nat.lt_of_lt_of_le za (hb7).size
      clear hb7 h6
      go_upto_region 8 with (fail)
      have hb8 : Below w7.heap.size w7 (w7.alloc (.cells #[.int .i64 qa0, .int .i64 qa1, .int .i64 qb0, .int .i64 qb1] 57)) := below_alloc _ (Nat.le_refl _) (Below.refl _ _)
      have y0 : (w7.alloc (.cells #[.int .i64 qa0, .int .i64 qa1, .int .i64 qb0, .int .i64 qb1] 57)).cell? ⟨w7.heap.size, 0, none⟩ = some (.int .i64 qa0) := cell_new (by simp) rfl
      have y1 : (w7.alloc (.cells #[.int .i64 qa0, .int .i64 qa1, .int .i64 qb0, .int .i64 qb1] 57)).cell? ⟨w7.heap.size, 1, none⟩ = some (.int .i64 qa1) := cell_new (by simp) rfl
      have y2 : (w7.alloc (.cells #[.int .i64 qa0, .int .i64 qa1, .int .i64 qb0, .int .i64 qb1] 57)).cell? ⟨w7.heap.size, 2, none⟩ = some (.int .i64 qb0) := cell_new (by simp) rfl
      have y3 : (w7.alloc (.cells #[.int .i64 qa0, .int .i64 qa1, .int .i64 qb0, .int .i64 qb1] 57)).cell? ⟨w7.heap.size, 3, none⟩ = some (.int .i64 qb1) := cell_new (by simp) rfl
      have zy : w7.heap.size < (w7.alloc (.cells #[.int .i64 qa0, .int .i64 qa1, .int .i64 qb0, .int .i64 qb1] 57)).heap.size := World.block_lt_of_cell? _ _ y0
      generalize (w7.alloc (.cells #[.int .i64 qa0, .int .i64 qa1, .int .i64 qb0, .int .i64 qb1] 57)) = w8 at *
      have hk8 := hk7.trans (hb8.mono hk7.size)
      have h8 : Below w.heap.size w w8 := (h7).trans ((hb8).mono (h7).size)
      replace m0 := cell_below' hb8 m0
      replace m1 := cell_below' hb8 m1
      replace m2 := cell_below' hb8 m2
      replace m3 := cell_below' hb8 m3
      replace zm := Nat.lt_of_lt_of_le zm (hb8).size
      replace a0 := cell_below' hb8 a0
      replace a1 := cell_below' hb8 a1
      replace a2 := cell_below' hb8 a2
      replace a3 := cell_below' hb8 a3
      replace za := Nat.lt_of_lt_of_le za (hb8).size
      clear hb8 h7
      go_wp2_with (fail)
      refine (SS1.out _).mono ?_
      rintro e w9 ⟨rfl, hb9⟩
      have hk9 := hk8.trans (hb9.mono hk8.size)
      have h9 : Below w.heap.size w w9 := (h8).trans ((hb9).mono (h8).size)
      replace m0 := cell_below' hb9 m0
      replace m1 := cell_below' hb9 m1
      replace m2 := cell_below' hb9 m2
      replace m3 := cell_below' hb9 m3
      replace zm := Nat.lt_of_lt_of_le zm (hb9).size
      replace a0 := cell_below' hb9 a0
      replace a1 := cell_below' hb9 a1
      replace a2 := cell_below' hb9 a2
      replace a3 := cell_below' hb9 a3
      replace za := Nat.lt_of_lt_of_le za (hb9).size
      clear hb9 h8
      go_upto_region 11 with (fail)
      have hba : Below w9.heap.size w9 (w9.alloc (.cells #[.int .i64 p00, .int .i64 p01, .int .i64 p10, .int .i64 p11, .int .i64 1] 108)) := below_alloc _ (Nat.le_refl _) (Below.refl _ _)
      have z0 : (w9.alloc (.cells #[.int .i64 p00, .int .i64 p01, .int .i64 p10, .int .i64 p11, .int .i64 1] 108)).cell? ⟨w9.heap.size, 0, none⟩ = some (.int .i64 p00) := cell_new (by simp) rfl
      have z1 : (w9.alloc (.cells #[.int .i64 p00, .int .i64 p01, .int .i64 p10, .int .i64 p11, .int .i64 1] 108)).cell? ⟨w9.heap.size, 1, none⟩ = some (.int .i64 p01) := cell_new (by simp) rfl
      have z2 : (w9.alloc (.cells #[.int .i64 p00, .int .i64 p01, .int .i64 p10, .int .i64 p11, .int .i64 1] 108)).cell? ⟨w9.heap.size, 2, none⟩ = some (.int .i64 p10) := cell_new (by simp) rfl
      have z3 : (w9.alloc (.cells #[.int .i64 p00, .int .i64 p01, .int .i64 p10, .int .i64 p11, .int .i64 1] 108)).cell? ⟨w9.heap.size, 3, none⟩ = some (.int .i64 p11) := cell_new (by simp) rfl
      have z4 : (w9.alloc (.cells #[.int .i64 p00, .int .i64 p01, .int .i64 p10, .int .i64 p11, .int .i64 1] 108)).cell? ⟨w9.heap.size, 4, none⟩ = some (.int .i64 1) := cell_new (by simp) rfl
      have zz : w9.heap.size < (w9.alloc (.cells #[.int .i64 p00, .int .i64 p01, .int .i64 p10, .int .i64 p11, .int .i64 1] 108)).heap.size := World.block_lt_of_cell? _ _ z0
      generalize (w9.alloc (.cells #[.int .i64 p00, .int .i64 p01, .int .i64 p10, .int .i64 p11, .int .i64 1] 108)) = wa at *
      have hka := hk9.trans (hba.mono hk9.size)
      have ha : Below w.heap.size w wa := (h9).trans ((hba).mono (h9).size)
      replace m0 := cell_below' hba m0
      replace m1 := cell_below' hba m1
      replace m2 := cell_below' hba m2
      replace m3 := cell_below' hba m3
      replace zm := Nat.lt_of_lt_of_le zm (hba).size
      replace a0 := cell_below' hba a0
      replace a1 := cell_below' hba a1
      replace a2 := cell_below' hba a2
      replace a3 := cell_below' hba a3
      replace za := Nat.lt_of_lt_of_le za (hba).size
      clear hba h9
      go_wp2_with (fail)
      go_meet
      exact hka
  case rest =>
  obtain ⟨w7, rfl⟩ : ∃ w7 : World, w7 = wc := ⟨_, rfl⟩
  have hb7 : Below w6.heap.size w6 w7 := hcut
  clear hcut MX S1 hsn
  have h7 : Below w.heap.size w w7 := (h6).trans ((hb7).mono (h6).size)
  replace m0 := cell_below' hb7 m0
  replace m1 := cell_below' hb7 m1
  replace m2 := cell_below' hb7 m2
  replace m3 := cell_below' hb7 m3
  replace zm := Nat.lt_of_lt_of_le zm (hb7).size
  replace p0 := cell_below' hb7 p0
  replace p1 := cell_below' hb7 p1
  replace p2 := cell_below' hb7 p2
  replace p3 := cell_below' hb7 p3
  replace p4 := cell_below' hb7 p4
  replace zp := Nat.lt_of_lt_of_le zp (hb7).size
  replace a0 := cell_below' hb7 a0
  replace a1 := cell_below' hb7 a1
  replace a2 := cell_below' hb7 a2
  replace a3 := cell_below' hb7 a3
  replace za := Nat.lt_of_lt_of_le za (hb7).size
  replace b0 := cell_below' hb7 b0
  replace b1 := cell_below' hb7 b1
  replace b2 := cell_below' hb7 b2
  replace b3 := cell_below' hb7 b3
  replace zb := Nat.lt_of_lt_of_le zb (hb7).size
  clear hb7 h6
  go_wp2_with (fail)
  refine (S2.out _).mono ?_
  rintro e w8 ⟨rfl, hb8⟩
  have h8 : Below w.heap.size w w8 := (h7).trans ((hb8).mono (h7).size)
  replace m0 := cell_below' hb8 m0
  replace m1 := cell_below' hb8 m1
  replace m2 := cell_below' hb8 m2
  replace m3 := cell_below' hb8 m3
  replace zm := Nat.lt_of_lt_of_le zm (hb8).size
  replace p0 := cell_below' hb8 p0
  replace p1 := cell_below' hb8 p1
  replace p2 := cell_below' hb8 p2
  replace p3 := cell_below' hb8 p3
  replace p4 := cell_below' hb8 p4
  replace zp := Nat.lt_of_lt_of_le zp (hb8).size
  replace b0 := cell_below' hb8 b0
  replace b1 := cell_below' hb8 b1
  replace b2 := cell_below' hb8 b2
  replace b3 := cell_below' hb8 b3
  replace zb := Nat.lt_of_lt_of_le zb (hb8).size
  clear hb8 h7
  go_upto_region 14 with (fail)
  have hb9 : Below w8.heap.size w8 (w8.alloc (.cells #[.int .i64 u0, .int .i64 u1, .int .i64 u2, .int .i64 u3, .int .i64 u4] 108)) := below_alloc _ (Nat.le_refl _) (Below.refl _ _)
  have z0 : (w8.alloc (.cells #[.int .i64 u0, .int .i64 u1, .int .i64 u2, .int .i64 u3, .int .i64 u4] 108)).cell? ⟨w8.heap.size, 0, none⟩ = some (.int .i64 u0) := cell_new (by simp) rfl
  have z1 : (w8.alloc (.cells #[.int .i64 u0, .int .i64 u1, .int .i64 u2, .int .i64 u3, .int .i64 u4] 108)).cell? ⟨w8.heap.size, 1, none⟩ = some (.int .i64 u1) := cell_new (by simp) rfl
  have z2 : (w8.alloc (.cells #[.int .i64 u0, .int .i64 u1, .int .i64 u2, .int .i64 u3, .int .i64 u4] 108)).cell? ⟨w8.heap.size, 2, none⟩ = some (.int .i64 u2) := cell_new (by simp) rfl
  have z3 : (w8.alloc (.cells #[.int .i64 u0, .int .i64 u1, .int .i64 u2, .int .i64 u3, .int .i64 u4] 108)).cell? ⟨w8.heap.size, 3, none⟩ = some (.int .i64 u3) := cell_new (by simp) rfl
  have z4 : (w8.alloc (.cells #[.int .i64 u0, .int .i64 u1, .int .i64 u2, .int .i64 u3, .int .i64 u4] 108)).cell? ⟨w8.heap.size, 4, none⟩ = some (.int .i64 u4) := cell_new (by simp) rfl
  have zz : w8.heap.size < (w8.alloc (.cells #[.int .i64 u0, .int .i64 u1, .int .i64 u2, .int .i64 u3, .int .i64 u4] 108)).heap.size := World.block_lt_of_cell? _ _ z0
  generalize (w8.alloc (.cells #[.int .i64 u0, .int .i64 u1, .int .i64 u2, .int .i64 u3, .int .i64 u4] 108)) = w9 at *
  have h9 : Below w.heap.size w w9 := (h8).trans ((hb9).mono (h8).size)
  replace m0 := cell_below' hb9 m0
  replace m1 := cell_below' hb9 m1
  replace m2 := cell_below' hb9 m2
  replace m3 := cell_below' hb9 m3
  replace zm := Nat.lt_of_lt_of_le zm (hb9).size
  replace p0 := cell_below' hb9 p0
  replace p1 := cell_below' hb9 p1
  replace p2 := cell_below' hb9 p2
  replace p3 := cell_below' hb9 p3
  replace p4 := cell_below' hb9 p4
  replace zp := Nat.lt_of_lt_of_le zp (hb9).size
  replace b0 := cell_below' hb9 b0
  replace b1 := cell_below' hb9 b1
  replace b2 := cell_below' hb9 b2
  replace b3 := cell_below' hb9 b3
  replace zb := Nat.lt_of_lt_of_le zb (hb9).size
  clear hb9 h8
  generalize w8.heap.size = zbk at *
  go_wp2_with (fail)
  refine (C1.out _).mono ?_
  rintro e wa ⟨rfl, hba⟩
  have ha : Below w.heap.size w wa := (h9).trans ((hba).mono (h9).size)
  replace m0 := cell_below' hba m0
  replace m1 := cell_below' hba m1
  replace m2 := cell_below' hba m2
  replace m3 := cell_below' hba m3
  replace zm := Nat.lt_of_lt_of_le zm (hba).size
  replace p0 := cell_below' hba p0
  replace p1 := cell_below' hba p1
  replace p2 := cell_below' hba p2
  replace p3 := cell_below' hba p3
  replace p4 := cell_below' hba p4
  replace zp := Nat.lt_of_lt_of_le zp (hba).size
  replace b0 := cell_below' hba b0
  replace b1 := cell_below' hba b1
  replace b2 := cell_below' hba b2
  replace b3 := cell_below' hba b3
  replace zb := Nat.lt_of_lt_of_le zb (hba).size
  replace z0 := cell_below' hba z0
  replace z1 := cell_below' hba z1
  replace z2 := cell_below' hba z2
  replace z3 := cell_below' hba z3
  replace z4 := cell_below' hba z4
  replace zz := Nat.lt_of_lt_of_le zz (hba).size
  clear hba h9
  go_wp2_with (fail)
  refine (C2.out _).mono ?_
  rintro e wb ⟨rfl, hbb⟩
  have hb : Below w.heap.size w wb := (ha).trans ((hbb).mono (ha).size)
  replace p0 := cell_below' hbb p0
  replace p1 := cell_below' hbb p1
  replace p2 := cell_below' hbb p2
  replace p3 := cell_below' hbb p3
  replace p4 := cell_below' hbb p4
  replace zp := Nat.lt_of_lt_of_le zp (hbb).size
  replace z0 := cell_below' hbb z0
  replace z1 := cell_below' hbb z1
  replace z2 := cell_below' hbb z2
  replace z3 := cell_below' hbb z3
  replace z4 := cell_below' hbb z4
  replace zz := Nat.lt_of_lt_of_le zz (hbb).size
  clear hbb ha
  clear S2 C1 C2
  have hbb : (bs == bs) = true := by cases bs <;> rfl
  go_wp2_with (fail)
  go_ret
  exact ⟨rfl, hb⟩
end Go.Proofs.YtppghnbabnhnbaaDoor
