/-
  Chapter 2: TagOf, HeightsOf, the reference heights.
-/
import Derived.Test.YtlnbbioponmcfaaGreatDoorETag
namespace Go.Proofs.YtlnbbioponmcfaaGreatDoor
open Go.ChangeShapes Go.WideShapes Go.ChangeAt Go.RowKit
set_option linter.unusedVariables false
set_option linter.unusedSimpArgs false

def tagE (r : Ru) (x0 x1 : Gs) : Int := firstE [ruE r, pairE x0 x1]
def tagQ (r : Ru) (x0 x1 : Gs) : Int × Int := if tagE r x0 x1 = 0 then (tagP r x0 x1, 0) else (0, tagE r x0 x1)
theorem tagE_zero {r : Ru} {x0 x1 : Gs} (h : tagE r x0 x1 = 0) : ruE r = 0 ∧ pairE x0 x1 = 0 := by
  unfold tagE at h
  by_cases h1 : ruE r = 0
  · rw [h1, firstE_z, firstE1] at h; exact ⟨h1, h⟩
  · rw [firstE_nz h1] at h; exact absurd h h1
def hgtE (r : Ru) (lag : Int) : Int := firstE [ruE r, unl (withinB lag 0 1000000) 2]
def hgtQ (r : Ru) (lag : Int) : Gs × Int := if hgtE r lag = 0 then (hgtP r lag, 0) else (gz, hgtE r lag)
theorem hgtE_zero {r : Ru} {lag : Int} (h : hgtE r lag = 0) : ruE r = 0 ∧ withinB lag 0 1000000 = true := by
  unfold hgtE at h
  by_cases h1 : ruE r = 0
  · rw [h1, firstE_z, firstE1] at h
    cases hb : withinB lag 0 1000000
    · rw [hb] at h; cases h
    · exact ⟨h1, rfl⟩
  · rw [firstE_nz h1] at h; exact absurd h h1
set_option maxRecDepth 100000 in
set_option maxHeartbeats 8000000 in
theorem RCheckRules_any (r : Ru) (w : World) :
    Calls Tryz.prog 6 #[ruv r] w fun e w' => e = .returned (.int .i64 (ruE r)) ∧ Below w.heap.size w w' := by
  have hq : ruE r = firstE [mdsE r.mo r.me, unl (ruB r) 2] := rfl
  have hr : ruB r = (withinB r.ra 1 100 && (withinB r.no 0 1000000000 && (withinB r.po 1 1000000000 && (withinB r.ce 1 1000 && (withinB r.st (-1000000) 1000000 && withinB r.du 0 1000000))))) := rfl
  have HM := Lib.hid (fun W => RCheckModes_any r.mo r.me W)
  have H1 := Lib.hid (fun W => Within_any r.ra 1 100 W)
  have H2 := Lib.hid (fun W => Within_any r.no 0 1000000000 W)
  have H3 := Lib.hid (fun W => Within_any r.po 1 1000000000 W)
  have H4 := Lib.hid (fun W => Within_any r.ce 1 1000 W)
  have H5 := Lib.hid (fun W => Within_any r.st (-1000000) 1000000 W)
  have H6 := Lib.hid (fun W => Within_any r.du 0 1000000 W)
  generalize withinB r.ra 1 100 = b1 at *
  generalize withinB r.no 0 1000000000 = b2 at *
  generalize withinB r.po 1 1000000000 = b3 at *
  generalize withinB r.ce 1 1000 = b4 at *
  generalize withinB r.st (-1000000) 1000000 = b5 at *
  generalize withinB r.du 0 1000000 = b6 at *
  generalize mdsE r.mo r.me = m1 at *
  have HQ := Lib.hid hq
  have HR := Lib.hid hr
  clear hq hr
  generalize ruB r = rb at *
  generalize ruE r = E at *
  obtain ⟨⟨mo0, mo1⟩, ⟨me0, me1⟩, ra, no, po, ce, st, du⟩ := r
  simp only [ruv, gv2] at *
  go_enter Tryz.func6, Tryz.ntmps6
  go_upto_region 1 with (fail)
  have hb0 : Below w.heap.size w (w.alloc (.cells #[.int .i64 mo0, .int .i64 mo1, .int .i64 me0, .int .i64 me1, .int .i64 ra, .int .i64 no, .int .i64 po, .int .i64 ce, .int .i64 st, .int .i64 du] 27)) := below_alloc _ (Nat.le_refl _) (Below.refl _ _)
  have r0 : (w.alloc (.cells #[.int .i64 mo0, .int .i64 mo1, .int .i64 me0, .int .i64 me1, .int .i64 ra, .int .i64 no, .int .i64 po, .int .i64 ce, .int .i64 st, .int .i64 du] 27)).cell? ⟨w.heap.size, 0, none⟩ = some (.int .i64 mo0) := cell_new (by simp) rfl
  have r1 : (w.alloc (.cells #[.int .i64 mo0, .int .i64 mo1, .int .i64 me0, .int .i64 me1, .int .i64 ra, .int .i64 no, .int .i64 po, .int .i64 ce, .int .i64 st, .int .i64 du] 27)).cell? ⟨w.heap.size, 1, none⟩ = some (.int .i64 mo1) := cell_new (by simp) rfl
  have r2 : (w.alloc (.cells #[.int .i64 mo0, .int .i64 mo1, .int .i64 me0, .int .i64 me1, .int .i64 ra, .int .i64 no, .int .i64 po, .int .i64 ce, .int .i64 st, .int .i64 du] 27)).cell? ⟨w.heap.size, 2, none⟩ = some (.int .i64 me0) := cell_new (by simp) rfl
  have r3 : (w.alloc (.cells #[.int .i64 mo0, .int .i64 mo1, .int .i64 me0, .int .i64 me1, .int .i64 ra, .int .i64 no, .int .i64 po, .int .i64 ce, .int .i64 st, .int .i64 du] 27)).cell? ⟨w.heap.size, 3, none⟩ = some (.int .i64 me1) := cell_new (by simp) rfl
  have r4 : (w.alloc (.cells #[.int .i64 mo0, .int .i64 mo1, .int .i64 me0, .int .i64 me1, .int .i64 ra, .int .i64 no, .int .i64 po, .int .i64 ce, .int .i64 st, .int .i64 du] 27)).cell? ⟨w.heap.size, 4, none⟩ = some (.int .i64 ra) := cell_new (by simp) rfl
  have r5 : (w.alloc (.cells #[.int .i64 mo0, .int .i64 mo1, .int .i64 me0, .int .i64 me1, .int .i64 ra, .int .i64 no, .int .i64 po, .int .i64 ce, .int .i64 st, .int .i64 du] 27)).cell? ⟨w.heap.size, 5, none⟩ = some (.int .i64 no) := cell_new (by simp) rfl
  have r6 : (w.alloc (.cells #[.int .i64 mo0, .int .i64 mo1, .int .i64 me0, .int .i64 me1, .int .i64 ra, .int .i64 no, .int .i64 po, .int .i64 ce, .int .i64 st, .int .i64 du] 27)).cell? ⟨w.heap.size, 6, none⟩ = some (.int .i64 po) := cell_new (by simp) rfl
  have r7 : (w.alloc (.cells #[.int .i64 mo0, .int .i64 mo1, .int .i64 me0, .int .i64 me1, .int .i64 ra, .int .i64 no, .int .i64 po, .int .i64 ce, .int .i64 st, .int .i64 du] 27)).cell? ⟨w.heap.size, 7, none⟩ = some (.int .i64 ce) := cell_new (by simp) rfl
  have r8 : (w.alloc (.cells #[.int .i64 mo0, .int .i64 mo1, .int .i64 me0, .int .i64 me1, .int .i64 ra, .int .i64 no, .int .i64 po, .int .i64 ce, .int .i64 st, .int .i64 du] 27)).cell? ⟨w.heap.size, 8, none⟩ = some (.int .i64 st) := cell_new (by simp) rfl
  have r9 : (w.alloc (.cells #[.int .i64 mo0, .int .i64 mo1, .int .i64 me0, .int .i64 me1, .int .i64 ra, .int .i64 no, .int .i64 po, .int .i64 ce, .int .i64 st, .int .i64 du] 27)).cell? ⟨w.heap.size, 9, none⟩ = some (.int .i64 du) := cell_new (by simp) rfl
  have zr : w.heap.size < (w.alloc (.cells #[.int .i64 mo0, .int .i64 mo1, .int .i64 me0, .int .i64 me1, .int .i64 ra, .int .i64 no, .int .i64 po, .int .i64 ce, .int .i64 st, .int .i64 du] 27)).heap.size := World.block_lt_of_cell? _ _ r0
  generalize (w.alloc (.cells #[.int .i64 mo0, .int .i64 mo1, .int .i64 me0, .int .i64 me1, .int .i64 ra, .int .i64 no, .int .i64 po, .int .i64 ce, .int .i64 st, .int .i64 du] 27)) = w0 at *
  go_wp2_with (fail)
  refine (HM.out _).mono ?_
  rintro e w1 ⟨rfl, hb1⟩
  have hw1 : Below w.heap.size w w1 := (hb0).trans ((hb1).mono (hb0).size)
  replace r0 := cell_below' hb1 r0
  replace r1 := cell_below' hb1 r1
  replace r2 := cell_below' hb1 r2
  replace r3 := cell_below' hb1 r3
  replace r4 := cell_below' hb1 r4
  replace r5 := cell_below' hb1 r5
  replace r6 := cell_below' hb1 r6
  replace r7 := cell_below' hb1 r7
  replace r8 := cell_below' hb1 r8
  replace r9 := cell_below' hb1 r9
  replace zr := Nat.lt_of_lt_of_le zr (hb1).size
  clear hb1 hb0
  clear HM
  by_cases hm : m1 = 0
  rotate_left 1
  · have e9 : (m1 != 0) = true := by simpa using hm
    go_wp2_with (fail)
    go_ret
    exact ⟨ret_int (by rw [HQ.out, firstE_nz hm]), hw1⟩
  subst hm
  go_upto_region 4 with (fail)
  go_cut [43] from 10 to 43 (fun t wx => ∃ b : Bool, t = .bool b ∧ b = !(b1 && (b2 && (b3 && (b4 && (b5 && b6))))) ∧ Below w.heap.size w wx)
  case first =>
    clear HQ HR
    go_wp2_with (fail)
    refine (H1.out _).mono ?_
    rintro e w' ⟨rfl, rfl⟩
    cases b1
    · go_wp2_with (fail)
      go_meet
      exact ⟨true, rfl, by simp, hw1⟩
    go_wp2_with (fail)
    refine (H2.out _).mono ?_
    rintro e w' ⟨rfl, rfl⟩
    cases b2
    · go_wp2_with (fail)
      go_meet
      exact ⟨true, rfl, by simp, hw1⟩
    go_wp2_with (fail)
    refine (H3.out _).mono ?_
    rintro e w' ⟨rfl, rfl⟩
    cases b3
    · go_wp2_with (fail)
      go_meet
      exact ⟨true, rfl, by simp, hw1⟩
    go_wp2_with (fail)
    refine (H4.out _).mono ?_
    rintro e w' ⟨rfl, rfl⟩
    cases b4
    · go_wp2_with (fail)
      go_meet
      exact ⟨true, rfl, by simp, hw1⟩
    go_wp2_with (fail)
    refine (H5.out _).mono ?_
    rintro e w' ⟨rfl, rfl⟩
    cases b5
    · go_wp2_with (fail)
      go_meet
      exact ⟨true, rfl, by simp, hw1⟩
    go_wp2_with (fail)
    refine (H6.out _).mono ?_
    rintro e w' ⟨rfl, rfl⟩
    cases b6
    all_goals
      go_wp2_with (fail)
      go_meet
      exact ⟨_, rfl, by simp, hw1⟩
  case rest =>
  obtain ⟨wd, rfl⟩ : ∃ wd : World, wd = wc := ⟨_, rfl⟩
  obtain ⟨b, rfl, hb, hwd⟩ := hcut
  rw [← HR.out] at hb
  clear HR H1 H2 H3 H4 H5 H6
  cases b
  · obtain rfl : rb = true := by simpa using hb.symm
    go_wp2_with (fail)
    go_ret
    exact ⟨ret_int (by rw [HQ.out]; rfl), hwd⟩
  · obtain rfl : rb = false := by simpa using hb.symm
    go_wp2_with (fail)
    go_ret
    exact ⟨ret_int (by rw [HQ.out]; rfl), hwd⟩
end Go.Proofs.YtlnbbioponmcfaaGreatDoor
