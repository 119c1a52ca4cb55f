/-
  Chapter 2: EchoFound, walked.
-/
import Derived.Test.YtppghnbabnhnbaaGreatDoorEFeR
import Derived.Test.YtppghnbabnhnbaaGreatDoorEAwk
import Derived.Test.YtppghnbabnhnbaaGreatDoorERul
namespace Go.Proofs.YtppghnbabnhnbaaGreatDoor
open Go.ChangeShapes Go.WideShapes Go.ChangeAt Go.RowKit
set_option linter.unusedVariables false
set_option linter.unusedSimpArgs false

theorem few66_any (A : Option Addr) (l : List Gs) (ca : Nat) (w : World) (b : Bool) (hb : decide ((l.length : Int) ≤ 66) = b) :
    Calls Tryz.prog 23 #[.slice A l.length ca] w fun e w' => e = .returned (.bool b) ∧ w = w' := by
  go_enter Tryz.func23, Tryz.ntmps23
  go_wp2_with (fail)
  go_ret
  exact ⟨rfl, rfl⟩
theorem n0_map (fs : List Frw) : n0 fs = ((fs.map (·.l)).head?.map (·.length)).getD 0 := by
  cases fs <;> rfl
theorem frsE_congr {fs gs : List Frw} (h : gs.map (·.l) = fs.map (·.l)) (ts : List Int) : frsE gs ts = frsE fs ts ∧ cohQ gs ts = cohQ fs ts := by
  have hl : gs.length = fs.length := by have := congrArg List.length h; simpa using this
  have hz : fz gs ts = fz fs ts := by unfold fz; rw [h]
  have hn : n0 gs = n0 fs := by rw [n0_map, n0_map, h]
  have he : frsE gs ts = frsE fs ts := by unfold frsE; rw [hl, hz, hn]
  refine ⟨he, ?_⟩
  unfold cohQ
  rw [he, hz, hn]
theorem echQ_1 {r : Ru} {f s : List Gs} (h : ruE r ≠ 0) : echQ r f s = ([], ruE r) := by
  have e : echE r f s = ruE r := by unfold echE; rw [firstE_nz h]
  unfold echQ; rw [if_neg (by rw [e]; exact h), e]
theorem echQ_2 {r : Ru} {f s : List Gs} (h : ruE r = 0) (h2 : frmE f s ≠ 0) : echQ r f s = ([], frmE f s) := by
  have e : echE r f s = frmE f s := by unfold echE; rw [h, firstE_z]; rfl
  unfold echQ; rw [if_neg (by rw [e]; exact h2), e]
theorem echQ_3 {r : Ru} {f s : List Gs} (h : ruE r = 0) (h2 : frmE f s = 0) : echQ r f s = (echA r f s, 0) ∧ OkF r f s := by
  have e : echE r f s = 0 := by unfold echE; rw [h, firstE_z]; exact h2
  exact ⟨by unfold echQ; rw [if_pos e], echE_zero e⟩
set_option maxRecDepth 100000 in
set_option maxHeartbeats 8000000 in
theorem EchoFound_any (R : Ru) (A : Option Addr) (f : List Gs) (ca : Nat) (B : Option Addr) (s : List Gs) (cb : Nat) (C : Option Addr) (fs : List Frw) (cc : Nat) (D : Option Addr) (ts : List Int) (cd : Nat) (w : World) (ht : Tab w) (hA : GsAt w A f) (hB : GsAt w B s) (hC : FrsAt w C fs) (hD : IntsAt w D ts) :
    Calls Tryz.prog 4 #[ruv R, frv A f ca B s cb, .agg #[.slice C fs.length cc, .slice D ts.length cd]] w fun e w' => e = .returned (.bool true) ∧ Below w.heap.size w w' := by
  have HT := Lib.hid ht
  clear ht
  by_cases hf : f.length ≤ 66
  rotate_left 1
  · have H1 := Lib.hid (fun W => few66_any A f ca W false (by simp; omega))
    simp only [ruv, frv] at *
    go_enter Tryz.func4, Tryz.ntmps4
    go_upto_region 1 with (fail)
    have hb0 : Below w.heap.size w (((w.alloc (.cells #[.int .i64 R.mo.re, .int .i64 R.mo.im, .int .i64 R.me.re, .int .i64 R.me.im, .int .i64 R.ra, .int .i64 R.no, .int .i64 R.po, .int .i64 R.ce, .int .i64 R.st, .int .i64 R.du] 27)).alloc (.cells #[.slice A f.length ca, .slice B s.length cb] 40)).alloc (.cells #[.slice C fs.length cc, .slice D ts.length cd] 67)) := below_alloc _ (Nat.le_refl _) (below_alloc _ (Nat.le_refl _) (below_alloc _ (Nat.le_refl _) (Below.refl _ _)))
    have r0 : (((w.alloc (.cells #[.int .i64 R.mo.re, .int .i64 R.mo.im, .int .i64 R.me.re, .int .i64 R.me.im, .int .i64 R.ra, .int .i64 R.no, .int .i64 R.po, .int .i64 R.ce, .int .i64 R.st, .int .i64 R.du] 27)).alloc (.cells #[.slice A f.length ca, .slice B s.length cb] 40)).alloc (.cells #[.slice C fs.length cc, .slice D ts.length cd] 67)).cell? ⟨w.heap.size, 0, none⟩ = some (.int .i64 R.mo.re) := cell_alloc _ (cell_alloc _ (cell_new (by simp) rfl))
    have r1 : (((w.alloc (.cells #[.int .i64 R.mo.re, .int .i64 R.mo.im, .int .i64 R.me.re, .int .i64 R.me.im, .int .i64 R.ra, .int .i64 R.no, .int .i64 R.po, .int .i64 R.ce, .int .i64 R.st, .int .i64 R.du] 27)).alloc (.cells #[.slice A f.length ca, .slice B s.length cb] 40)).alloc (.cells #[.slice C fs.length cc, .slice D ts.length cd] 67)).cell? ⟨w.heap.size, 1, none⟩ = some (.int .i64 R.mo.im) := cell_alloc _ (cell_alloc _ (cell_new (by simp) rfl))
    have r2 : (((w.alloc (.cells #[.int .i64 R.mo.re, .int .i64 R.mo.im, .int .i64 R.me.re, .int .i64 R.me.im, .int .i64 R.ra, .int .i64 R.no, .int .i64 R.po, .int .i64 R.ce, .int .i64 R.st, .int .i64 R.du] 27)).alloc (.cells #[.slice A f.length ca, .slice B s.length cb] 40)).alloc (.cells #[.slice C fs.length cc, .slice D ts.length cd] 67)).cell? ⟨w.heap.size, 2, none⟩ = some (.int .i64 R.me.re) := cell_alloc _ (cell_alloc _ (cell_new (by simp) rfl))
    have r3 : (((w.alloc (.cells #[.int .i64 R.mo.re, .int .i64 R.mo.im, .int .i64 R.me.re, .int .i64 R.me.im, .int .i64 R.ra, .int .i64 R.no, .int .i64 R.po, .int .i64 R.ce, .int .i64 R.st, .int .i64 R.du] 27)).alloc (.cells #[.slice A f.length ca, .slice B s.length cb] 40)).alloc (.cells #[.slice C fs.length cc, .slice D ts.length cd] 67)).cell? ⟨w.heap.size, 3, none⟩ = some (.int .i64 R.me.im) := cell_alloc _ (cell_alloc _ (cell_new (by simp) rfl))
    have r4 : (((w.alloc (.cells #[.int .i64 R.mo.re, .int .i64 R.mo.im, .int .i64 R.me.re, .int .i64 R.me.im, .int .i64 R.ra, .int .i64 R.no, .int .i64 R.po, .int .i64 R.ce, .int .i64 R.st, .int .i64 R.du] 27)).alloc (.cells #[.slice A f.length ca, .slice B s.length cb] 40)).alloc (.cells #[.slice C fs.length cc, .slice D ts.length cd] 67)).cell? ⟨w.heap.size, 4, none⟩ = some (.int .i64 R.ra) := cell_alloc _ (cell_alloc _ (cell_new (by simp) rfl))
    have r5 : (((w.alloc (.cells #[.int .i64 R.mo.re, .int .i64 R.mo.im, .int .i64 R.me.re, .int .i64 R.me.im, .int .i64 R.ra, .int .i64 R.no, .int .i64 R.po, .int .i64 R.ce, .int .i64 R.st, .int .i64 R.du] 27)).alloc (.cells #[.slice A f.length ca, .slice B s.length cb] 40)).alloc (.cells #[.slice C fs.length cc, .slice D ts.length cd] 67)).cell? ⟨w.heap.size, 5, none⟩ = some (.int .i64 R.no) := cell_alloc _ (cell_alloc _ (cell_new (by simp) rfl))
    have r6 : (((w.alloc (.cells #[.int .i64 R.mo.re, .int .i64 R.mo.im, .int .i64 R.me.re, .int .i64 R.me.im, .int .i64 R.ra, .int .i64 R.no, .int .i64 R.po, .int .i64 R.ce, .int .i64 R.st, .int .i64 R.du] 27)).alloc (.cells #[.slice A f.length ca, .slice B s.length cb] 40)).alloc (.cells #[.slice C fs.length cc, .slice D ts.length cd] 67)).cell? ⟨w.heap.size, 6, none⟩ = some (.int .i64 R.po) := cell_alloc _ (cell_alloc _ (cell_new (by simp) rfl))
    have r7 : (((w.alloc (.cells #[.int .i64 R.mo.re, .int .i64 R.mo.im, .int .i64 R.me.re, .int .i64 R.me.im, .int .i64 R.ra, .int .i64 R.no, .int .i64 R.po, .int .i64 R.ce, .int .i64 R.st, .int .i64 R.du] 27)).alloc (.cells #[.slice A f.length ca, .slice B s.length cb] 40)).alloc (.cells #[.slice C fs.length cc, .slice D ts.length cd] 67)).cell? ⟨w.heap.size, 7, none⟩ = some (.int .i64 R.ce) := cell_alloc _ (cell_alloc _ (cell_new (by simp) rfl))
    have r8 : (((w.alloc (.cells #[.int .i64 R.mo.re, .int .i64 R.mo.im, .int .i64 R.me.re, .int .i64 R.me.im, .int .i64 R.ra, .int .i64 R.no, .int .i64 R.po, .int .i64 R.ce, .int .i64 R.st, .int .i64 R.du] 27)).alloc (.cells #[.slice A f.length ca, .slice B s.length cb] 40)).alloc (.cells #[.slice C fs.length cc, .slice D ts.length cd] 67)).cell? ⟨w.heap.size, 8, none⟩ = some (.int .i64 R.st) := cell_alloc _ (cell_alloc _ (cell_new (by simp) rfl))
    have r9 : (((w.alloc (.cells #[.int .i64 R.mo.re, .int .i64 R.mo.im, .int .i64 R.me.re, .int .i64 R.me.im, .int .i64 R.ra, .int .i64 R.no, .int .i64 R.po, .int .i64 R.ce, .int .i64 R.st, .int .i64 R.du] 27)).alloc (.cells #[.slice A f.length ca, .slice B s.length cb] 40)).alloc (.cells #[.slice C fs.length cc, .slice D ts.length cd] 67)).cell? ⟨w.heap.size, 9, none⟩ = some (.int .i64 R.du) := cell_alloc _ (cell_alloc _ (cell_new (by simp) rfl))
    have zr : w.heap.size < (((w.alloc (.cells #[.int .i64 R.mo.re, .int .i64 R.mo.im, .int .i64 R.me.re, .int .i64 R.me.im, .int .i64 R.ra, .int .i64 R.no, .int .i64 R.po, .int .i64 R.ce, .int .i64 R.st, .int .i64 R.du] 27)).alloc (.cells #[.slice A f.length ca, .slice B s.length cb] 40)).alloc (.cells #[.slice C fs.length cc, .slice D ts.length cd] 67)).heap.size := World.block_lt_of_cell? _ _ r0
    have y0 : (((w.alloc (.cells #[.int .i64 R.mo.re, .int .i64 R.mo.im, .int .i64 R.me.re, .int .i64 R.me.im, .int .i64 R.ra, .int .i64 R.no, .int .i64 R.po, .int .i64 R.ce, .int .i64 R.st, .int .i64 R.du] 27)).alloc (.cells #[.slice A f.length ca, .slice B s.length cb] 40)).alloc (.cells #[.slice C fs.length cc, .slice D ts.length cd] 67)).cell? ⟨w.heap.size + 1, 0, none⟩ = some (.slice A f.length ca) := cell_alloc _ (cell_new (by simp) rfl)
    have y1 : (((w.alloc (.cells #[.int .i64 R.mo.re, .int .i64 R.mo.im, .int .i64 R.me.re, .int .i64 R.me.im, .int .i64 R.ra, .int .i64 R.no, .int .i64 R.po, .int .i64 R.ce, .int .i64 R.st, .int .i64 R.du] 27)).alloc (.cells #[.slice A f.length ca, .slice B s.length cb] 40)).alloc (.cells #[.slice C fs.length cc, .slice D ts.length cd] 67)).cell? ⟨w.heap.size + 1, 1, none⟩ = some (.slice B s.length cb) := cell_alloc _ (cell_new (by simp) rfl)
    have zy : w.heap.size + 1 < (((w.alloc (.cells #[.int .i64 R.mo.re, .int .i64 R.mo.im, .int .i64 R.me.re, .int .i64 R.me.im, .int .i64 R.ra, .int .i64 R.no, .int .i64 R.po, .int .i64 R.ce, .int .i64 R.st, .int .i64 R.du] 27)).alloc (.cells #[.slice A f.length ca, .slice B s.length cb] 40)).alloc (.cells #[.slice C fs.length cc, .slice D ts.length cd] 67)).heap.size := World.block_lt_of_cell? _ _ y0
    have x0 : (((w.alloc (.cells #[.int .i64 R.mo.re, .int .i64 R.mo.im, .int .i64 R.me.re, .int .i64 R.me.im, .int .i64 R.ra, .int .i64 R.no, .int .i64 R.po, .int .i64 R.ce, .int .i64 R.st, .int .i64 R.du] 27)).alloc (.cells #[.slice A f.length ca, .slice B s.length cb] 40)).alloc (.cells #[.slice C fs.length cc, .slice D ts.length cd] 67)).cell? ⟨w.heap.size + 1 + 1, 0, none⟩ = some (.slice C fs.length cc) := cell_new (by simp) rfl
    have x1 : (((w.alloc (.cells #[.int .i64 R.mo.re, .int .i64 R.mo.im, .int .i64 R.me.re, .int .i64 R.me.im, .int .i64 R.ra, .int .i64 R.no, .int .i64 R.po, .int .i64 R.ce, .int .i64 R.st, .int .i64 R.du] 27)).alloc (.cells #[.slice A f.length ca, .slice B s.length cb] 40)).alloc (.cells #[.slice C fs.length cc, .slice D ts.length cd] 67)).cell? ⟨w.heap.size + 1 + 1, 1, none⟩ = some (.slice D ts.length cd) := cell_new (by simp) rfl
    have zx : w.heap.size + 1 + 1 < (((w.alloc (.cells #[.int .i64 R.mo.re, .int .i64 R.mo.im, .int .i64 R.me.re, .int .i64 R.me.im, .int .i64 R.ra, .int .i64 R.no, .int .i64 R.po, .int .i64 R.ce, .int .i64 R.st, .int .i64 R.du] 27)).alloc (.cells #[.slice A f.length ca, .slice B s.length cb] 40)).alloc (.cells #[.slice C fs.length cc, .slice D ts.length cd] 67)).heap.size := World.block_lt_of_cell? _ _ x0
    generalize (((w.alloc (.cells #[.int .i64 R.mo.re, .int .i64 R.mo.im, .int .i64 R.me.re, .int .i64 R.me.im, .int .i64 R.ra, .int .i64 R.no, .int .i64 R.po, .int .i64 R.ce, .int .i64 R.st, .int .i64 R.du] 27)).alloc (.cells #[.slice A f.length ca, .slice B s.length cb] 40)).alloc (.cells #[.slice C fs.length cc, .slice D ts.length cd] 67)) = w0 at *
    have HT0 := Lib.hid (HT.out.below hb0)
    go_wp2_with (fail)
    refine (awake_any w0 HT0.out).mono ?_
    rintro e w1 ⟨rfl, k1⟩
    have h1 : Below w.heap.size w w1 := (hb0).trans ((k1).mono (hb0).size)
    replace r0 := cell_below' k1 r0
    replace r1 := cell_below' k1 r1
    replace r2 := cell_below' k1 r2
    replace r3 := cell_below' k1 r3
    replace r4 := cell_below' k1 r4
    replace r5 := cell_below' k1 r5
    replace r6 := cell_below' k1 r6
    replace r7 := cell_below' k1 r7
    replace r8 := cell_below' k1 r8
    replace r9 := cell_below' k1 r9
    replace zr := Nat.lt_of_lt_of_le zr (k1).size
    replace y0 := cell_below' k1 y0
    replace y1 := cell_below' k1 y1
    replace zy := Nat.lt_of_lt_of_le zy (k1).size
    replace x0 := cell_below' k1 x0
    replace x1 := cell_below' k1 x1
    replace zx := Nat.lt_of_lt_of_le zx (k1).size
    clear k1 hb0
    clear HT0
    go_wp2_with (fail)
    refine (H1.out _).mono ?_
    rintro e w' ⟨rfl, rfl⟩
    go_wp2_with (fail)
    go_ret
    exact ⟨rfl, h1⟩
  have H1 := Lib.hid (fun W => few66_any A f ca W true (by simp; omega))
  by_cases hs : s.length ≤ 66
  rotate_left 1
  · have H2 := Lib.hid (fun W => few66_any B s cb W false (by simp; omega))
    simp only [ruv, frv] at *
    go_enter Tryz.func4, Tryz.ntmps4
    go_upto_region 1 with (fail)
    have hb0 : Below w.heap.size w (((w.alloc (.cells #[.int .i64 R.mo.re, .int .i64 R.mo.im, .int .i64 R.me.re, .int .i64 R.me.im, .int .i64 R.ra, .int .i64 R.no, .int .i64 R.po, .int .i64 R.ce, .int .i64 R.st, .int .i64 R.du] 27)).alloc (.cells #[.slice A f.length ca, .slice B s.length cb] 40)).alloc (.cells #[.slice C fs.length cc, .slice D ts.length cd] 67)) := below_alloc _ (Nat.le_refl _) (below_alloc _ (Nat.le_refl _) (below_alloc _ (Nat.le_refl _) (Below.refl _ _)))
    have r0 : (((w.alloc (.cells #[.int .i64 R.mo.re, .int .i64 R.mo.im, .int .i64 R.me.re, .int .i64 R.me.im, .int .i64 R.ra, .int .i64 R.no, .int .i64 R.po, .int .i64 R.ce, .int .i64 R.st, .int .i64 R.du] 27)).alloc (.cells #[.slice A f.length ca, .slice B s.length cb] 40)).alloc (.cells #[.slice C fs.length cc, .slice D ts.length cd] 67)).cell? ⟨w.heap.size, 0, none⟩ = some (.int .i64 R.mo.re) := cell_alloc _ (cell_alloc _ (cell_new (by simp) rfl))
    have r1 : (((w.alloc (.cells #[.int .i64 R.mo.re, .int .i64 R.mo.im, .int .i64 R.me.re, .int .i64 R.me.im, .int .i64 R.ra, .int .i64 R.no, .int .i64 R.po, .int .i64 R.ce, .int .i64 R.st, .int .i64 R.du] 27)).alloc (.cells #[.slice A f.length ca, .slice B s.length cb] 40)).alloc (.cells #[.slice C fs.length cc, .slice D ts.length cd] 67)).cell? ⟨w.heap.size, 1, none⟩ = some (.int .i64 R.mo.im) := cell_alloc _ (cell_alloc _ (cell_new (by simp) rfl))
    have r2 : (((w.alloc (.cells #[.int .i64 R.mo.re, .int .i64 R.mo.im, .int .i64 R.me.re, .int .i64 R.me.im, .int .i64 R.ra, .int .i64 R.no, .int .i64 R.po, .int .i64 R.ce, .int .i64 R.st, .int .i64 R.du] 27)).alloc (.cells #[.slice A f.length ca, .slice B s.length cb] 40)).alloc (.cells #[.slice C fs.length cc, .slice D ts.length cd] 67)).cell? ⟨w.heap.size, 2, none⟩ = some (.int .i64 R.me.re) := cell_alloc _ (cell_alloc _ (cell_new (by simp) rfl))
    have r3 : (((w.alloc (.cells #[.int .i64 R.mo.re, .int .i64 R.mo.im, .int .i64 R.me.re, .int .i64 R.me.im, .int .i64 R.ra, .int .i64 R.no, .int .i64 R.po, .int .i64 R.ce, .int .i64 R.st, .int .i64 R.du] 27)).alloc (.cells #[.slice A f.length ca, .slice B s.length cb] 40)).alloc (.cells #[.slice C fs.length cc, .slice D ts.length cd] 67)).cell? ⟨w.heap.size, 3, none⟩ = some (.int .i64 R.me.im) := cell_alloc _ (cell_alloc _ (cell_new (by simp) rfl))
    have r4 : (((w.alloc (.cells #[.int .i64 R.mo.re, .int .i64 R.mo.im, .int .i64 R.me.re, .int .i64 R.me.im, .int .i64 R.ra, .int .i64 R.no, .int .i64 R.po, .int .i64 R.ce, .int .i64 R.st, .int .i64 R.du] 27)).alloc (.cells #[.slice A f.length ca, .slice B s.length cb] 40)).alloc (.cells #[.slice C fs.length cc, .slice D ts.length cd] 67)).cell? ⟨w.heap.size, 4, none⟩ = some (.int .i64 R.ra) := cell_alloc _ (cell_alloc _ (cell_new (by simp) rfl))
    have r5 : (((w.alloc (.cells #[.int .i64 R.mo.re, .int .i64 R.mo.im, .int .i64 R.me.re, .int .i64 R.me.im, .int .i64 R.ra, .int .i64 R.no, .int .i64 R.po, .int .i64 R.ce, .int .i64 R.st, .int .i64 R.du] 27)).alloc (.cells #[.slice A f.length ca, .slice B s.length cb] 40)).alloc (.cells #[.slice C fs.length cc, .slice D ts.length cd] 67)).cell? ⟨w.heap.size, 5, none⟩ = some (.int .i64 R.no) := cell_alloc _ (cell_alloc _ (cell_new (by simp) rfl))
    have r6 : (((w.alloc (.cells #[.int .i64 R.mo.re, .int .i64 R.mo.im, .int .i64 R.me.re, .int .i64 R.me.im, .int .i64 R.ra, .int .i64 R.no, .int .i64 R.po, .int .i64 R.ce, .int .i64 R.st, .int .i64 R.du] 27)).alloc (.cells #[.slice A f.length ca, .slice B s.length cb] 40)).alloc (.cells #[.slice C fs.length cc, .slice D ts.length cd] 67)).cell? ⟨w.heap.size, 6, none⟩ = some (.int .i64 R.po) := cell_alloc _ (cell_alloc _ (cell_new (by simp) rfl))
    have r7 : (((w.alloc (.cells #[.int .i64 R.mo.re, .int .i64 R.mo.im, .int .i64 R.me.re, .int .i64 R.me.im, .int .i64 R.ra, .int .i64 R.no, .int .i64 R.po, .int .i64 R.ce, .int .i64 R.st, .int .i64 R.du] 27)).alloc (.cells #[.slice A f.length ca, .slice B s.length cb] 40)).alloc (.cells #[.slice C fs.length cc, .slice D ts.length cd] 67)).cell? ⟨w.heap.size, 7, none⟩ = some (.int .i64 R.ce) := cell_alloc _ (cell_alloc _ (cell_new (by simp) rfl))
    have r8 : (((w.alloc (.cells #[.int .i64 R.mo.re, .int .i64 R.mo.im, .int .i64 R.me.re, .int .i64 R.me.im, .int .i64 R.ra, .int .i64 R.no, .int .i64 R.po, .int .i64 R.ce, .int .i64 R.st, .int .i64 R.du] 27)).alloc (.cells #[.slice A f.length ca, .slice B s.length cb] 40)).alloc (.cells #[.slice C fs.length cc, .slice D ts.length cd] 67)).cell? ⟨w.heap.size, 8, none⟩ = some (.int .i64 R.st) := cell_alloc _ (cell_alloc _ (cell_new (by simp) rfl))
    have r9 : (((w.alloc (.cells #[.int .i64 R.mo.re, .int .i64 R.mo.im, .int .i64 R.me.re, .int .i64 R.me.im, .int .i64 R.ra, .int .i64 R.no, .int .i64 R.po, .int .i64 R.ce, .int .i64 R.st, .int .i64 R.du] 27)).alloc (.cells #[.slice A f.length ca, .slice B s.length cb] 40)).alloc (.cells #[.slice C fs.length cc, .slice D ts.length cd] 67)).cell? ⟨w.heap.size, 9, none⟩ = some (.int .i64 R.du) := cell_alloc _ (cell_alloc _ (cell_new (by simp) rfl))
    have zr : w.heap.size < (((w.alloc (.cells #[.int .i64 R.mo.re, .int .i64 R.mo.im, .int .i64 R.me.re, .int .i64 R.me.im, .int .i64 R.ra, .int .i64 R.no, .int .i64 R.po, .int .i64 R.ce, .int .i64 R.st, .int .i64 R.du] 27)).alloc (.cells #[.slice A f.length ca, .slice B s.length cb] 40)).alloc (.cells #[.slice C fs.length cc, .slice D ts.length cd] 67)).heap.size := World.block_lt_of_cell? _ _ r0
    have y0 : (((w.alloc (.cells #[.int .i64 R.mo.re, .int .i64 R.mo.im, .int .i64 R.me.re, .int .i64 R.me.im, .int .i64 R.ra, .int .i64 R.no, .int .i64 R.po, .int .i64 R.ce, .int .i64 R.st, .int .i64 R.du] 27)).alloc (.cells #[.slice A f.length ca, .slice B s.length cb] 40)).alloc (.cells #[.slice C fs.length cc, .slice D ts.length cd] 67)).cell? ⟨w.heap.size + 1, 0, none⟩ = some (.slice A f.length ca) := cell_alloc _ (cell_new (by simp) rfl)
    have y1 : (((w.alloc (.cells #[.int .i64 R.mo.re, .int .i64 R.mo.im, .int .i64 R.me.re, .int .i64 R.me.im, .int .i64 R.ra, .int .i64 R.no, .int .i64 R.po, .int .i64 R.ce, .int .i64 R.st, .int .i64 R.du] 27)).alloc (.cells #[.slice A f.length ca, .slice B s.length cb] 40)).alloc (.cells #[.slice C fs.length cc, .slice D ts.length cd] 67)).cell? ⟨w.heap.size + 1, 1, none⟩ = some (.slice B s.length cb) := cell_alloc _ (cell_new (by simp) rfl)
    have zy : w.heap.size + 1 < (((w.alloc (.cells #[.int .i64 R.mo.re, .int .i64 R.mo.im, .int .i64 R.me.re, .int .i64 R.me.im, .int .i64 R.ra, .int .i64 R.no, .int .i64 R.po, .int .i64 R.ce, .int .i64 R.st, .int .i64 R.du] 27)).alloc (.cells #[.slice A f.length ca, .slice B s.length cb] 40)).alloc (.cells #[.slice C fs.length cc, .slice D ts.length cd] 67)).heap.size := World.block_lt_of_cell? _ _ y0
    have x0 : (((w.alloc (.cells #[.int .i64 R.mo.re, .int .i64 R.mo.im, .int .i64 R.me.re, .int .i64 R.me.im, .int .i64 R.ra, .int .i64 R.no, .int .i64 R.po, .int .i64 R.ce, .int .i64 R.st, .int .i64 R.du] 27)).alloc (.cells #[.slice A f.length ca, .slice B s.length cb] 40)).alloc (.cells #[.slice C fs.length cc, .slice D ts.length cd] 67)).cell? ⟨w.heap.size + 1 + 1, 0, none⟩ = some (.slice C fs.length cc) := cell_new (by simp) rfl
    have x1 : (((w.alloc (.cells #[.int .i64 R.mo.re, .int .i64 R.mo.im, .int .i64 R.me.re, .int .i64 R.me.im, .int .i64 R.ra, .int .i64 R.no, .int .i64 R.po, .int .i64 R.ce, .int .i64 R.st, .int .i64 R.du] 27)).alloc (.cells #[.slice A f.length ca, .slice B s.length cb] 40)).alloc (.cells #[.slice C fs.length cc, .slice D ts.length cd] 67)).cell? ⟨w.heap.size + 1 + 1, 1, none⟩ = some (.slice D ts.length cd) := cell_new (by simp) rfl
    have zx : w.heap.size + 1 + 1 < (((w.alloc (.cells #[.int .i64 R.mo.re, .int .i64 R.mo.im, .int .i64 R.me.re, .int .i64 R.me.im, .int .i64 R.ra, .int .i64 R.no, .int .i64 R.po, .int .i64 R.ce, .int .i64 R.st, .int .i64 R.du] 27)).alloc (.cells #[.slice A f.length ca, .slice B s.length cb] 40)).alloc (.cells #[.slice C fs.length cc, .slice D ts.length cd] 67)).heap.size := World.block_lt_of_cell? _ _ x0
    generalize (((w.alloc (.cells #[.int .i64 R.mo.re, .int .i64 R.mo.im, .int .i64 R.me.re, .int .i64 R.me.im, .int .i64 R.ra, .int .i64 R.no, .int .i64 R.po, .int .i64 R.ce, .int .i64 R.st, .int .i64 R.du] 27)).alloc (.cells #[.slice A f.length ca, .slice B s.length cb] 40)).alloc (.cells #[.slice C fs.length cc, .slice D ts.length cd] 67)) = w0 at *
    have HT0 := Lib.hid (HT.out.below hb0)
    go_wp2_with (fail)
    refine (awake_any w0 HT0.out).mono ?_
    rintro e w1 ⟨rfl, k1⟩
    have h1 : Below w.heap.size w w1 := (hb0).trans ((k1).mono (hb0).size)
    replace r0 := cell_below' k1 r0
    replace r1 := cell_below' k1 r1
    replace r2 := cell_below' k1 r2
    replace r3 := cell_below' k1 r3
    replace r4 := cell_below' k1 r4
    replace r5 := cell_below' k1 r5
    replace r6 := cell_below' k1 r6
    replace r7 := cell_below' k1 r7
    replace r8 := cell_below' k1 r8
    replace r9 := cell_below' k1 r9
    replace zr := Nat.lt_of_lt_of_le zr (k1).size
    replace y0 := cell_below' k1 y0
    replace y1 := cell_below' k1 y1
    replace zy := Nat.lt_of_lt_of_le zy (k1).size
    replace x0 := cell_below' k1 x0
    replace x1 := cell_below' k1 x1
    replace zx := Nat.lt_of_lt_of_le zx (k1).size
    clear k1 hb0
    clear HT0
    go_wp2_with (fail)
    refine (H1.out _).mono ?_
    rintro e w' ⟨rfl, rfl⟩
    go_wp2_with (fail)
    refine (H2.out _).mono ?_
    rintro e w' ⟨rfl, rfl⟩
    go_wp2_with (fail)
    go_ret
    exact ⟨rfl, h1⟩
  have H2 := Lib.hid (fun W => few66_any B s cb W true (by simp; omega))
  by_cases hfs : fs.length ≤ 10
  rotate_left 1
  · have e1 : decide ((10 : Int) < (fs.length : Int)) = true := by simp; omega
    simp only [ruv, frv] at *
    go_enter Tryz.func4, Tryz.ntmps4
    go_upto_region 1 with (fail)
    have hb0 : Below w.heap.size w (((w.alloc (.cells #[.int .i64 R.mo.re, .int .i64 R.mo.im, .int .i64 R.me.re, .int .i64 R.me.im, .int .i64 R.ra, .int .i64 R.no, .int .i64 R.po, .int .i64 R.ce, .int .i64 R.st, .int .i64 R.du] 27)).alloc (.cells #[.slice A f.length ca, .slice B s.length cb] 40)).alloc (.cells #[.slice C fs.length cc, .slice D ts.length cd] 67)) := below_alloc _ (Nat.le_refl _) (below_alloc _ (Nat.le_refl _) (below_alloc _ (Nat.le_refl _) (Below.refl _ _)))
    have r0 : (((w.alloc (.cells #[.int .i64 R.mo.re, .int .i64 R.mo.im, .int .i64 R.me.re, .int .i64 R.me.im, .int .i64 R.ra, .int .i64 R.no, .int .i64 R.po, .int .i64 R.ce, .int .i64 R.st, .int .i64 R.du] 27)).alloc (.cells #[.slice A f.length ca, .slice B s.length cb] 40)).alloc (.cells #[.slice C fs.length cc, .slice D ts.length cd] 67)).cell? ⟨w.heap.size, 0, none⟩ = some (.int .i64 R.mo.re) := cell_alloc _ (cell_alloc _ (cell_new (by simp) rfl))
    have r1 : (((w.alloc (.cells #[.int .i64 R.mo.re, .int .i64 R.mo.im, .int .i64 R.me.re, .int .i64 R.me.im, .int .i64 R.ra, .int .i64 R.no, .int .i64 R.po, .int .i64 R.ce, .int .i64 R.st, .int .i64 R.du] 27)).alloc (.cells #[.slice A f.length ca, .slice B s.length cb] 40)).alloc (.cells #[.slice C fs.length cc, .slice D ts.length cd] 67)).cell? ⟨w.heap.size, 1, none⟩ = some (.int .i64 R.mo.im) := cell_alloc _ (cell_alloc _ (cell_new (by simp) rfl))
    have r2 : (((w.alloc (.cells #[.int .i64 R.mo.re, .int .i64 R.mo.im, .int .i64 R.me.re, .int .i64 R.me.im, .int .i64 R.ra, .int .i64 R.no, .int .i64 R.po, .int .i64 R.ce, .int .i64 R.st, .int .i64 R.du] 27)).alloc (.cells #[.slice A f.length ca, .slice B s.length cb] 40)).alloc (.cells #[.slice C fs.length cc, .slice D ts.length cd] 67)).cell? ⟨w.heap.size, 2, none⟩ = some (.int .i64 R.me.re) := cell_alloc _ (cell_alloc _ (cell_new (by simp) rfl))
    have r3 : (((w.alloc (.cells #[.int .i64 R.mo.re, .int .i64 R.mo.im, .int .i64 R.me.re, .int .i64 R.me.im, .int .i64 R.ra, .int .i64 R.no, .int .i64 R.po, .int .i64 R.ce, .int .i64 R.st, .int .i64 R.du] 27)).alloc (.cells #[.slice A f.length ca, .slice B s.length cb] 40)).alloc (.cells #[.slice C fs.length cc, .slice D ts.length cd] 67)).cell? ⟨w.heap.size, 3, none⟩ = some (.int .i64 R.me.im) := cell_alloc _ (cell_alloc _ (cell_new (by simp) rfl))
    have r4 : (((w.alloc (.cells #[.int .i64 R.mo.re, .int .i64 R.mo.im, .int .i64 R.me.re, .int .i64 R.me.im, .int .i64 R.ra, .int .i64 R.no, .int .i64 R.po, .int .i64 R.ce, .int .i64 R.st, .int .i64 R.du] 27)).alloc (.cells #[.slice A f.length ca, .slice B s.length cb] 40)).alloc (.cells #[.slice C fs.length cc, .slice D ts.length cd] 67)).cell? ⟨w.heap.size, 4, none⟩ = some (.int .i64 R.ra) := cell_alloc _ (cell_alloc _ (cell_new (by simp) rfl))
    have r5 : (((w.alloc (.cells #[.int .i64 R.mo.re, .int .i64 R.mo.im, .int .i64 R.me.re, .int .i64 R.me.im, .int .i64 R.ra, .int .i64 R.no, .int .i64 R.po, .int .i64 R.ce, .int .i64 R.st, .int .i64 R.du] 27)).alloc (.cells #[.slice A f.length ca, .slice B s.length cb] 40)).alloc (.cells #[.slice C fs.length cc, .slice D ts.length cd] 67)).cell? ⟨w.heap.size, 5, none⟩ = some (.int .i64 R.no) := cell_alloc _ (cell_alloc _ (cell_new (by simp) rfl))
    have r6 : (((w.alloc (.cells #[.int .i64 R.mo.re, .int .i64 R.mo.im, .int .i64 R.me.re, .int .i64 R.me.im, .int .i64 R.ra, .int .i64 R.no, .int .i64 R.po, .int .i64 R.ce, .int .i64 R.st, .int .i64 R.du] 27)).alloc (.cells #[.slice A f.length ca, .slice B s.length cb] 40)).alloc (.cells #[.slice C fs.length cc, .slice D ts.length cd] 67)).cell? ⟨w.heap.size, 6, none⟩ = some (.int .i64 R.po) := cell_alloc _ (cell_alloc _ (cell_new (by simp) rfl))
    have r7 : (((w.alloc (.cells #[.int .i64 R.mo.re, .int .i64 R.mo.im, .int .i64 R.me.re, .int .i64 R.me.im, .int .i64 R.ra, .int .i64 R.no, .int .i64 R.po, .int .i64 R.ce, .int .i64 R.st, .int .i64 R.du] 27)).alloc (.cells #[.slice A f.length ca, .slice B s.length cb] 40)).alloc (.cells #[.slice C fs.length cc, .slice D ts.length cd] 67)).cell? ⟨w.heap.size, 7, none⟩ = some (.int .i64 R.ce) := cell_alloc _ (cell_alloc _ (cell_new (by simp) rfl))
    have r8 : (((w.alloc (.cells #[.int .i64 R.mo.re, .int .i64 R.mo.im, .int .i64 R.me.re, .int .i64 R.me.im, .int .i64 R.ra, .int .i64 R.no, .int .i64 R.po, .int .i64 R.ce, .int .i64 R.st, .int .i64 R.du] 27)).alloc (.cells #[.slice A f.length ca, .slice B s.length cb] 40)).alloc (.cells #[.slice C fs.length cc, .slice D ts.length cd] 67)).cell? ⟨w.heap.size, 8, none⟩ = some (.int .i64 R.st) := cell_alloc _ (cell_alloc _ (cell_new (by simp) rfl))
    have r9 : (((w.alloc (.cells #[.int .i64 R.mo.re, .int .i64 R.mo.im, .int .i64 R.me.re, .int .i64 R.me.im, .int .i64 R.ra, .int .i64 R.no, .int .i64 R.po, .int .i64 R.ce, .int .i64 R.st, .int .i64 R.du] 27)).alloc (.cells #[.slice A f.length ca, .slice B s.length cb] 40)).alloc (.cells #[.slice C fs.length cc, .slice D ts.length cd] 67)).cell? ⟨w.heap.size, 9, none⟩ = some (.int .i64 R.du) := cell_alloc _ (cell_alloc _ (cell_new (by simp) rfl))
    have zr : w.heap.size < (((w.alloc (.cells #[.int .i64 R.mo.re, .int .i64 R.mo.im, .int .i64 R.me.re, .int .i64 R.me.im, .int .i64 R.ra, .int .i64 R.no, .int .i64 R.po, .int .i64 R.ce, .int .i64 R.st, .int .i64 R.du] 27)).alloc (.cells #[.slice A f.length ca, .slice B s.length cb] 40)).alloc (.cells #[.slice C fs.length cc, .slice D ts.length cd] 67)).heap.size := World.block_lt_of_cell? _ _ r0
    have y0 : (((w.alloc (.cells #[.int .i64 R.mo.re, .int .i64 R.mo.im, .int .i64 R.me.re, .int .i64 R.me.im, .int .i64 R.ra, .int .i64 R.no, .int .i64 R.po, .int .i64 R.ce, .int .i64 R.st, .int .i64 R.du] 27)).alloc (.cells #[.slice A f.length ca, .slice B s.length cb] 40)).alloc (.cells #[.slice C fs.length cc, .slice D ts.length cd] 67)).cell? ⟨w.heap.size + 1, 0, none⟩ = some (.slice A f.length ca) := cell_alloc _ (cell_new (by simp) rfl)
    have y1 : (((w.alloc (.cells #[.int .i64 R.mo.re, .int .i64 R.mo.im, .int .i64 R.me.re, .int .i64 R.me.im, .int .i64 R.ra, .int .i64 R.no, .int .i64 R.po, .int .i64 R.ce, .int .i64 R.st, .int .i64 R.du] 27)).alloc (.cells #[.slice A f.length ca, .slice B s.length cb] 40)).alloc (.cells #[.slice C fs.length cc, .slice D ts.length cd] 67)).cell? ⟨w.heap.size + 1, 1, none⟩ = some (.slice B s.length cb) := cell_alloc _ (cell_new (by simp) rfl)
    have zy : w.heap.size + 1 < (((w.alloc (.cells #[.int .i64 R.mo.re, .int .i64 R.mo.im, .int .i64 R.me.re, .int .i64 R.me.im, .int .i64 R.ra, .int .i64 R.no, .int .i64 R.po, .int .i64 R.ce, .int .i64 R.st, .int .i64 R.du] 27)).alloc (.cells #[.slice A f.length ca, .slice B s.length cb] 40)).alloc (.cells #[.slice C fs.length cc, .slice D ts.length cd] 67)).heap.size := World.block_lt_of_cell? _ _ y0
    have x0 : (((w.alloc (.cells #[.int .i64 R.mo.re, .int .i64 R.mo.im, .int .i64 R.me.re, .int .i64 R.me.im, .int .i64 R.ra, .int .i64 R.no, .int .i64 R.po, .int .i64 R.ce, .int .i64 R.st, .int .i64 R.du] 27)).alloc (.cells #[.slice A f.length ca, .slice B s.length cb] 40)).alloc (.cells #[.slice C fs.length cc, .slice D ts.length cd] 67)).cell? ⟨w.heap.size + 1 + 1, 0, none⟩ = some (.slice C fs.length cc) := cell_new (by simp) rfl
    have x1 : (((w.alloc (.cells #[.int .i64 R.mo.re, .int .i64 R.mo.im, .int .i64 R.me.re, .int .i64 R.me.im, .int .i64 R.ra, .int .i64 R.no, .int .i64 R.po, .int .i64 R.ce, .int .i64 R.st, .int .i64 R.du] 27)).alloc (.cells #[.slice A f.length ca, .slice B s.length cb] 40)).alloc (.cells #[.slice C fs.length cc, .slice D ts.length cd] 67)).cell? ⟨w.heap.size + 1 + 1, 1, none⟩ = some (.slice D ts.length cd) := cell_new (by simp) rfl
    have zx : w.heap.size + 1 + 1 < (((w.alloc (.cells #[.int .i64 R.mo.re, .int .i64 R.mo.im, .int .i64 R.me.re, .int .i64 R.me.im, .int .i64 R.ra, .int .i64 R.no, .int .i64 R.po, .int .i64 R.ce, .int .i64 R.st, .int .i64 R.du] 27)).alloc (.cells #[.slice A f.length ca, .slice B s.length cb] 40)).alloc (.cells #[.slice C fs.length cc, .slice D ts.length cd] 67)).heap.size := World.block_lt_of_cell? _ _ x0
    generalize (((w.alloc (.cells #[.int .i64 R.mo.re, .int .i64 R.mo.im, .int .i64 R.me.re, .int .i64 R.me.im, .int .i64 R.ra, .int .i64 R.no, .int .i64 R.po, .int .i64 R.ce, .int .i64 R.st, .int .i64 R.du] 27)).alloc (.cells #[.slice A f.length ca, .slice B s.length cb] 40)).alloc (.cells #[.slice C fs.length cc, .slice D ts.length cd] 67)) = w0 at *
    have HT0 := Lib.hid (HT.out.below hb0)
    go_wp2_with (fail)
    refine (awake_any w0 HT0.out).mono ?_
    rintro e w1 ⟨rfl, k1⟩
    have h1 : Below w.heap.size w w1 := (hb0).trans ((k1).mono (hb0).size)
    replace r0 := cell_below' k1 r0
    replace r1 := cell_below' k1 r1
    replace r2 := cell_below' k1 r2
    replace r3 := cell_below' k1 r3
    replace r4 := cell_below' k1 r4
    replace r5 := cell_below' k1 r5
    replace r6 := cell_below' k1 r6
    replace r7 := cell_below' k1 r7
    replace r8 := cell_below' k1 r8
    replace r9 := cell_below' k1 r9
    replace zr := Nat.lt_of_lt_of_le zr (k1).size
    replace y0 := cell_below' k1 y0
    replace y1 := cell_below' k1 y1
    replace zy := Nat.lt_of_lt_of_le zy (k1).size
    replace x0 := cell_below' k1 x0
    replace x1 := cell_below' k1 x1
    replace zx := Nat.lt_of_lt_of_le zx (k1).size
    clear k1 hb0
    clear HT0
    go_wp2_with (fail)
    refine (H1.out _).mono ?_
    rintro e w' ⟨rfl, rfl⟩
    go_wp2_with (fail)
    refine (H2.out _).mono ?_
    rintro e w' ⟨rfl, rfl⟩
    go_wp2_with (fail)
    go_ret
    exact ⟨rfl, h1⟩
  have e1 : decide ((10 : Int) < (fs.length : Int)) = false := by simp; omega
  by_cases hts : ts.length ≤ 10
  rotate_left 1
  · have e2 : decide ((10 : Int) < (ts.length : Int)) = true := by simp; omega
    simp only [ruv, frv] at *
    go_enter Tryz.func4, Tryz.ntmps4
    go_upto_region 1 with (fail)
    have hb0 : Below w.heap.size w (((w.alloc (.cells #[.int .i64 R.mo.re, .int .i64 R.mo.im, .int .i64 R.me.re, .int .i64 R.me.im, .int .i64 R.ra, .int .i64 R.no, .int .i64 R.po, .int .i64 R.ce, .int .i64 R.st, .int .i64 R.du] 27)).alloc (.cells #[.slice A f.length ca, .slice B s.length cb] 40)).alloc (.cells #[.slice C fs.length cc, .slice D ts.length cd] 67)) := below_alloc _ (Nat.le_refl _) (below_alloc _ (Nat.le_refl _) (below_alloc _ (Nat.le_refl _) (Below.refl _ _)))
    have r0 : (((w.alloc (.cells #[.int .i64 R.mo.re, .int .i64 R.mo.im, .int .i64 R.me.re, .int .i64 R.me.im, .int .i64 R.ra, .int .i64 R.no, .int .i64 R.po, .int .i64 R.ce, .int .i64 R.st, .int .i64 R.du] 27)).alloc (.cells #[.slice A f.length ca, .slice B s.length cb] 40)).alloc (.cells #[.slice C fs.length cc, .slice D ts.length cd] 67)).cell? ⟨w.heap.size, 0, none⟩ = some (.int .i64 R.mo.re) := cell_alloc _ (cell_alloc _ (cell_new (by simp) rfl))
    have r1 : (((w.alloc (.cells #[.int .i64 R.mo.re, .int .i64 R.mo.im, .int .i64 R.me.re, .int .i64 R.me.im, .int .i64 R.ra, .int .i64 R.no, .int .i64 R.po, .int .i64 R.ce, .int .i64 R.st, .int .i64 R.du] 27)).alloc (.cells #[.slice A f.length ca, .slice B s.length cb] 40)).alloc (.cells #[.slice C fs.length cc, .slice D ts.length cd] 67)).cell? ⟨w.heap.size, 1, none⟩ = some (.int .i64 R.mo.im) := cell_alloc _ (cell_alloc _ (cell_new (by simp) rfl))
    have r2 : (((w.alloc (.cells #[.int .i64 R.mo.re, .int .i64 R.mo.im, .int .i64 R.me.re, .int .i64 R.me.im, .int .i64 R.ra, .int .i64 R.no, .int .i64 R.po, .int .i64 R.ce, .int .i64 R.st, .int .i64 R.du] 27)).alloc (.cells #[.slice A f.length ca, .slice B s.length cb] 40)).alloc (.cells #[.slice C fs.length cc, .slice D ts.length cd] 67)).cell? ⟨w.heap.size, 2, none⟩ = some (.int .i64 R.me.re) := cell_alloc _ (cell_alloc _ (cell_new (by simp) rfl))
    have r3 : (((w.alloc (.cells #[.int .i64 R.mo.re, .int .i64 R.mo.im, .int .i64 R.me.re, .int .i64 R.me.im, .int .i64 R.ra, .int .i64 R.no, .int .i64 R.po, .int .i64 R.ce, .int .i64 R.st, .int .i64 R.du] 27)).alloc (.cells #[.slice A f.length ca, .slice B s.length cb] 40)).alloc (.cells #[.slice C fs.length cc, .slice D ts.length cd] 67)).cell? ⟨w.heap.size, 3, none⟩ = some (.int .i64 R.me.im) := cell_alloc _ (cell_alloc _ (cell_new (by simp) rfl))
    have r4 : (((w.alloc (.cells #[.int .i64 R.mo.re, .int .i64 R.mo.im, .int .i64 R.me.re, .int .i64 R.me.im, .int .i64 R.ra, .int .i64 R.no, .int .i64 R.po, .int .i64 R.ce, .int .i64 R.st, .int .i64 R.du] 27)).alloc (.cells #[.slice A f.length ca, .slice B s.length cb] 40)).alloc (.cells #[.slice C fs.length cc, .slice D ts.length cd] 67)).cell? ⟨w.heap.size, 4, none⟩ = some (.int .i64 R.ra) := cell_alloc _ (cell_alloc _ (cell_new (by simp) rfl))
    have r5 : (((w.alloc (.cells #[.int .i64 R.mo.re, .int .i64 R.mo.im, .int .i64 R.me.re, .int .i64 R.me.im, .int .i64 R.ra, .int .i64 R.no, .int .i64 R.po, .int .i64 R.ce, .int .i64 R.st, .int .i64 R.du] 27)).alloc (.cells #[.slice A f.length ca, .slice B s.length cb] 40)).alloc (.cells #[.slice C fs.length cc, .slice D ts.length cd] 67)).cell? ⟨w.heap.size, 5, none⟩ = some (.int .i64 R.no) := cell_alloc _ (cell_alloc _ (cell_new (by simp) rfl))
    have r6 : (((w.alloc (.cells #[.int .i64 R.mo.re, .int .i64 R.mo.im, .int .i64 R.me.re, .int .i64 R.me.im, .int .i64 R.ra, .int .i64 R.no, .int .i64 R.po, .int .i64 R.ce, .int .i64 R.st, .int .i64 R.du] 27)).alloc (.cells #[.slice A f.length ca, .slice B s.length cb] 40)).alloc (.cells #[.slice C fs.length cc, .slice D ts.length cd] 67)).cell? ⟨w.heap.size, 6, none⟩ = some (.int .i64 R.po) := cell_alloc _ (cell_alloc _ (cell_new (by simp) rfl))
    have r7 : (((w.alloc (.cells #[.int .i64 R.mo.re, .int .i64 R.mo.im, .int .i64 R.me.re, .int .i64 R.me.im, .int .i64 R.ra, .int .i64 R.no, .int .i64 R.po, .int .i64 R.ce, .int .i64 R.st, .int .i64 R.du] 27)).alloc (.cells #[.slice A f.length ca, .slice B s.length cb] 40)).alloc (.cells #[.slice C fs.length cc, .slice D ts.length cd] 67)).cell? ⟨w.heap.size, 7, none⟩ = some (.int .i64 R.ce) := cell_alloc _ (cell_alloc _ (cell_new (by simp) rfl))
    have r8 : (((w.alloc (.cells #[.int .i64 R.mo.re, .int .i64 R.mo.im, .int .i64 R.me.re, .int .i64 R.me.im, .int .i64 R.ra, .int .i64 R.no, .int .i64 R.po, .int .i64 R.ce, .int .i64 R.st, .int .i64 R.du] 27)).alloc (.cells #[.slice A f.length ca, .slice B s.length cb] 40)).alloc (.cells #[.slice C fs.length cc, .slice D ts.length cd] 67)).cell? ⟨w.heap.size, 8, none⟩ = some (.int .i64 R.st) := cell_alloc _ (cell_alloc _ (cell_new (by simp) rfl))
    have r9 : (((w.alloc (.cells #[.int .i64 R.mo.re, .int .i64 R.mo.im, .int .i64 R.me.re, .int .i64 R.me.im, .int .i64 R.ra, .int .i64 R.no, .int .i64 R.po, .int .i64 R.ce, .int .i64 R.st, .int .i64 R.du] 27)).alloc (.cells #[.slice A f.length ca, .slice B s.length cb] 40)).alloc (.cells #[.slice C fs.length cc, .slice D ts.length cd] 67)).cell? ⟨w.heap.size, 9, none⟩ = some (.int .i64 R.du) := cell_alloc _ (cell_alloc _ (cell_new (by simp) rfl))
    have zr : w.heap.size < (((w.alloc (.cells #[.int .i64 R.mo.re, .int .i64 R.mo.im, .int .i64 R.me.re, .int .i64 R.me.im, .int .i64 R.ra, .int .i64 R.no, .int .i64 R.po, .int .i64 R.ce, .int .i64 R.st, .int .i64 R.du] 27)).alloc (.cells #[.slice A f.length ca, .slice B s.length cb] 40)).alloc (.cells #[.slice C fs.length cc, .slice D ts.length cd] 67)).heap.size := World.block_lt_of_cell? _ _ r0
    have y0 : (((w.alloc (.cells #[.int .i64 R.mo.re, .int .i64 R.mo.im, .int .i64 R.me.re, .int .i64 R.me.im, .int .i64 R.ra, .int .i64 R.no, .int .i64 R.po, .int .i64 R.ce, .int .i64 R.st, .int .i64 R.du] 27)).alloc (.cells #[.slice A f.length ca, .slice B s.length cb] 40)).alloc (.cells #[.slice C fs.length cc, .slice D ts.length cd] 67)).cell? ⟨w.heap.size + 1, 0, none⟩ = some (.slice A f.length ca) := cell_alloc _ (cell_new (by simp) rfl)
    have y1 : (((w.alloc (.cells #[.int .i64 R.mo.re, .int .i64 R.mo.im, .int .i64 R.me.re, .int .i64 R.me.im, .int .i64 R.ra, .int .i64 R.no, .int .i64 R.po, .int .i64 R.ce, .int .i64 R.st, .int .i64 R.du] 27)).alloc (.cells #[.slice A f.length ca, .slice B s.length cb] 40)).alloc (.cells #[.slice C fs.length cc, .slice D ts.length cd] 67)).cell? ⟨w.heap.size + 1, 1, none⟩ = some (.slice B s.length cb) := cell_alloc _ (cell_new (by simp) rfl)
    have zy : w.heap.size + 1 < (((w.alloc (.cells #[.int .i64 R.mo.re, .int .i64 R.mo.im, .int .i64 R.me.re, .int .i64 R.me.im, .int .i64 R.ra, .int .i64 R.no, .int .i64 R.po, .int .i64 R.ce, .int .i64 R.st, .int .i64 R.du] 27)).alloc (.cells #[.slice A f.length ca, .slice B s.length cb] 40)).alloc (.cells #[.slice C fs.length cc, .slice D ts.length cd] 67)).heap.size := World.block_lt_of_cell? _ _ y0
    have x0 : (((w.alloc (.cells #[.int .i64 R.mo.re, .int .i64 R.mo.im, .int .i64 R.me.re, .int .i64 R.me.im, .int .i64 R.ra, .int .i64 R.no, .int .i64 R.po, .int .i64 R.ce, .int .i64 R.st, .int .i64 R.du] 27)).alloc (.cells #[.slice A f.length ca, .slice B s.length cb] 40)).alloc (.cells #[.slice C fs.length cc, .slice D ts.length cd] 67)).cell? ⟨w.heap.size + 1 + 1, 0, none⟩ = some (.slice C fs.length cc) := cell_new (by simp) rfl
    have x1 : (((w.alloc (.cells #[.int .i64 R.mo.re, .int .i64 R.mo.im, .int .i64 R.me.re, .int .i64 R.me.im, .int .i64 R.ra, .int .i64 R.no, .int .i64 R.po, .int .i64 R.ce, .int .i64 R.st, .int .i64 R.du] 27)).alloc (.cells #[.slice A f.length ca, .slice B s.length cb] 40)).alloc (.cells #[.slice C fs.length cc, .slice D ts.length cd] 67)).cell? ⟨w.heap.size + 1 + 1, 1, none⟩ = some (.slice D ts.length cd) := cell_new (by simp) rfl
    have zx : w.heap.size + 1 + 1 < (((w.alloc (.cells #[.int .i64 R.mo.re, .int .i64 R.mo.im, .int .i64 R.me.re, .int .i64 R.me.im, .int .i64 R.ra, .int .i64 R.no, .int .i64 R.po, .int .i64 R.ce, .int .i64 R.st, .int .i64 R.du] 27)).alloc (.cells #[.slice A f.length ca, .slice B s.length cb] 40)).alloc (.cells #[.slice C fs.length cc, .slice D ts.length cd] 67)).heap.size := World.block_lt_of_cell? _ _ x0
    generalize (((w.alloc (.cells #[.int .i64 R.mo.re, .int .i64 R.mo.im, .int .i64 R.me.re, .int .i64 R.me.im, .int .i64 R.ra, .int .i64 R.no, .int .i64 R.po, .int .i64 R.ce, .int .i64 R.st, .int .i64 R.du] 27)).alloc (.cells #[.slice A f.length ca, .slice B s.length cb] 40)).alloc (.cells #[.slice C fs.length cc, .slice D ts.length cd] 67)) = w0 at *
    have HT0 := Lib.hid (HT.out.below hb0)
    go_wp2_with (fail)
    refine (awake_any w0 HT0.out).mono ?_
    rintro e w1 ⟨rfl, k1⟩
    have h1 : Below w.heap.size w w1 := (hb0).trans ((k1).mono (hb0).size)
    replace r0 := cell_below' k1 r0
    replace r1 := cell_below' k1 r1
    replace r2 := cell_below' k1 r2
    replace r3 := cell_below' k1 r3
    replace r4 := cell_below' k1 r4
    replace r5 := cell_below' k1 r5
    replace r6 := cell_below' k1 r6
    replace r7 := cell_below' k1 r7
    replace r8 := cell_below' k1 r8
    replace r9 := cell_below' k1 r9
    replace zr := Nat.lt_of_lt_of_le zr (k1).size
    replace y0 := cell_below' k1 y0
    replace y1 := cell_below' k1 y1
    replace zy := Nat.lt_of_lt_of_le zy (k1).size
    replace x0 := cell_below' k1 x0
    replace x1 := cell_below' k1 x1
    replace zx := Nat.lt_of_lt_of_le zx (k1).size
    clear k1 hb0
    clear HT0
    go_wp2_with (fail)
    refine (H1.out _).mono ?_
    rintro e w' ⟨rfl, rfl⟩
    go_wp2_with (fail)
    refine (H2.out _).mono ?_
    rintro e w' ⟨rfl, rfl⟩
    go_wp2_with (fail)
    go_ret
    exact ⟨rfl, h1⟩
  have e2 : decide ((10 : Int) < (ts.length : Int)) = false := by simp; omega
  have HEO := Lib.hid (fun (A' : Option Addr) (a : Nat) (B' : Option Addr) (b : Nat) W (h : GsAt W A' f) (h' : GsAt W B' s) => EchoesOf_any R A' f a B' s b W (by omega) (by omega) h h')
  have HCF := Lib.hid (fun W (h : GsAt W A f) (h' : GsAt W B s) => CopyFrame_any A f ca B s cb W (by omega) (by omega) h h')
  have HRF := Lib.hid (fun W (h : FrsAt W C fs) (h' : IntsAt W D ts) => RFramesErr_any C fs cc D ts cd W h h')
  have HCI := Lib.hid (fun W (h : IntsAt W D ts) => CopyInts_any D ts cd W (by omega) h)
  have HCR := Lib.hid (fun W => RCheckRules_any R W)
  have HFE := Lib.hid (fun W (h : GsAt W A f) (h' : GsAt W B s) => RFrameErr_any A f ca B s cb W h h')
  have HRE := Lib.hid (fun (o : OkF R f s) W (h : GsAt W A f) (h' : GsAt W B s) => REchoes_any R A f ca B s cb W o.r o.e o.l o.f o.s h h')
  have hfl : (fs.length : Int) ≤ 10 := by omega
  have hnl : ([] : List Gs).length = 0 := rfl
  have hnl2 : ([] : List It).length = 0 := rfl
  simp only [ruv, frv] at *
  go_enter Tryz.func4, Tryz.ntmps4
  go_upto_region 1 with (fail)
  have hb0 : Below w.heap.size w (((w.alloc (.cells #[.int .i64 R.mo.re, .int .i64 R.mo.im, .int .i64 R.me.re, .int .i64 R.me.im, .int .i64 R.ra, .int .i64 R.no, .int .i64 R.po, .int .i64 R.ce, .int .i64 R.st, .int .i64 R.du] 27)).alloc (.cells #[.slice A f.length ca, .slice B s.length cb] 40)).alloc (.cells #[.slice C fs.length cc, .slice D ts.length cd] 67)) := below_alloc _ (Nat.le_refl _) (below_alloc _ (Nat.le_refl _) (below_alloc _ (Nat.le_refl _) (Below.refl _ _)))
  have r0 : (((w.alloc (.cells #[.int .i64 R.mo.re, .int .i64 R.mo.im, .int .i64 R.me.re, .int .i64 R.me.im, .int .i64 R.ra, .int .i64 R.no, .int .i64 R.po, .int .i64 R.ce, .int .i64 R.st, .int .i64 R.du] 27)).alloc (.cells #[.slice A f.length ca, .slice B s.length cb] 40)).alloc (.cells #[.slice C fs.length cc, .slice D ts.length cd] 67)).cell? ⟨w.heap.size, 0, none⟩ = some (.int .i64 R.mo.re) := cell_alloc _ (cell_alloc _ (cell_new (by simp) rfl))
  have r1 : (((w.alloc (.cells #[.int .i64 R.mo.re, .int .i64 R.mo.im, .int .i64 R.me.re, .int .i64 R.me.im, .int .i64 R.ra, .int .i64 R.no, .int .i64 R.po, .int .i64 R.ce, .int .i64 R.st, .int .i64 R.du] 27)).alloc (.cells #[.slice A f.length ca, .slice B s.length cb] 40)).alloc (.cells #[.slice C fs.length cc, .slice D ts.length cd] 67)).cell? ⟨w.heap.size, 1, none⟩ = some (.int .i64 R.mo.im) := cell_alloc _ (cell_alloc _ (cell_new (by simp) rfl))
  have r2 : (((w.alloc (.cells #[.int .i64 R.mo.re, .int .i64 R.mo.im, .int .i64 R.me.re, .int .i64 R.me.im, .int .i64 R.ra, .int .i64 R.no, .int .i64 R.po, .int .i64 R.ce, .int .i64 R.st, .int .i64 R.du] 27)).alloc (.cells #[.slice A f.length ca, .slice B s.length cb] 40)).alloc (.cells #[.slice C fs.length cc, .slice D ts.length cd] 67)).cell? ⟨w.heap.size, 2, none⟩ = some (.int .i64 R.me.re) := cell_alloc _ (cell_alloc _ (cell_new (by simp) rfl))
  have r3 : (((w.alloc (.cells #[.int .i64 R.mo.re, .int .i64 R.mo.im, .int .i64 R.me.re, .int .i64 R.me.im, .int .i64 R.ra, .int .i64 R.no, .int .i64 R.po, .int .i64 R.ce, .int .i64 R.st, .int .i64 R.du] 27)).alloc (.cells #[.slice A f.length ca, .slice B s.length cb] 40)).alloc (.cells #[.slice C fs.length cc, .slice D ts.length cd] 67)).cell? ⟨w.heap.size, 3, none⟩ = some (.int .i64 R.me.im) := cell_alloc _ (cell_alloc _ (cell_new (by simp) rfl))
  have r4 : (((w.alloc (.cells #[.int .i64 R.mo.re, .int .i64 R.mo.im, .int .i64 R.me.re, .int .i64 R.me.im, .int .i64 R.ra, .int .i64 R.no, .int .i64 R.po, .int .i64 R.ce, .int .i64 R.st, .int .i64 R.du] 27)).alloc (.cells #[.slice A f.length ca, .slice B s.length cb] 40)).alloc (.cells #[.slice C fs.length cc, .slice D ts.length cd] 67)).cell? ⟨w.heap.size, 4, none⟩ = some (.int .i64 R.ra) := cell_alloc _ (cell_alloc _ (cell_new (by simp) rfl))
  have r5 : (((w.alloc (.cells #[.int .i64 R.mo.re, .int .i64 R.mo.im, .int .i64 R.me.re, .int .i64 R.me.im, .int .i64 R.ra, .int .i64 R.no, .int .i64 R.po, .int .i64 R.ce, .int .i64 R.st, .int .i64 R.du] 27)).alloc (.cells #[.slice A f.length ca, .slice B s.length cb] 40)).alloc (.cells #[.slice C fs.length cc, .slice D ts.length cd] 67)).cell? ⟨w.heap.size, 5, none⟩ = some (.int .i64 R.no) := cell_alloc _ (cell_alloc _ (cell_new (by simp) rfl))
  have r6 : (((w.alloc (.cells #[.int .i64 R.mo.re, .int .i64 R.mo.im, .int .i64 R.me.re, .int .i64 R.me.im, .int .i64 R.ra, .int .i64 R.no, .int .i64 R.po, .int .i64 R.ce, .int .i64 R.st, .int .i64 R.du] 27)).alloc (.cells #[.slice A f.length ca, .slice B s.length cb] 40)).alloc (.cells #[.slice C fs.length cc, .slice D ts.length cd] 67)).cell? ⟨w.heap.size, 6, none⟩ = some (.int .i64 R.po) := cell_alloc _ (cell_alloc _ (cell_new (by simp) rfl))
  have r7 : (((w.alloc (.cells #[.int .i64 R.mo.re, .int .i64 R.mo.im, .int .i64 R.me.re, .int .i64 R.me.im, .int .i64 R.ra, .int .i64 R.no, .int .i64 R.po, .int .i64 R.ce, .int .i64 R.st, .int .i64 R.du] 27)).alloc (.cells #[.slice A f.length ca, .slice B s.length cb] 40)).alloc (.cells #[.slice C fs.length cc, .slice D ts.length cd] 67)).cell? ⟨w.heap.size, 7, none⟩ = some (.int .i64 R.ce) := cell_alloc _ (cell_alloc _ (cell_new (by simp) rfl))
  have r8 : (((w.alloc (.cells #[.int .i64 R.mo.re, .int .i64 R.mo.im, .int .i64 R.me.re, .int .i64 R.me.im, .int .i64 R.ra, .int .i64 R.no, .int .i64 R.po, .int .i64 R.ce, .int .i64 R.st, .int .i64 R.du] 27)).alloc (.cells #[.slice A f.length ca, .slice B s.length cb] 40)).alloc (.cells #[.slice C fs.length cc, .slice D ts.length cd] 67)).cell? ⟨w.heap.size, 8, none⟩ = some (.int .i64 R.st) := cell_alloc _ (cell_alloc _ (cell_new (by simp) rfl))
  have r9 : (((w.alloc (.cells #[.int .i64 R.mo.re, .int .i64 R.mo.im, .int .i64 R.me.re, .int .i64 R.me.im, .int .i64 R.ra, .int .i64 R.no, .int .i64 R.po, .int .i64 R.ce, .int .i64 R.st, .int .i64 R.du] 27)).alloc (.cells #[.slice A f.length ca, .slice B s.length cb] 40)).alloc (.cells #[.slice C fs.length cc, .slice D ts.length cd] 67)).cell? ⟨w.heap.size, 9, none⟩ = some (.int .i64 R.du) := cell_alloc _ (cell_alloc _ (cell_new (by simp) rfl))
  have zr : w.heap.size < (((w.alloc (.cells #[.int .i64 R.mo.re, .int .i64 R.mo.im, .int .i64 R.me.re, .int .i64 R.me.im, .int .i64 R.ra, .int .i64 R.no, .int .i64 R.po, .int .i64 R.ce, .int .i64 R.st, .int .i64 R.du] 27)).alloc (.cells #[.slice A f.length ca, .slice B s.length cb] 40)).alloc (.cells #[.slice C fs.length cc, .slice D ts.length cd] 67)).heap.size := World.block_lt_of_cell? _ _ r0
  have y0 : (((w.alloc (.cells #[.int .i64 R.mo.re, .int .i64 R.mo.im, .int .i64 R.me.re, .int .i64 R.me.im, .int .i64 R.ra, .int .i64 R.no, .int .i64 R.po, .int .i64 R.ce, .int .i64 R.st, .int .i64 R.du] 27)).alloc (.cells #[.slice A f.length ca, .slice B s.length cb] 40)).alloc (.cells #[.slice C fs.length cc, .slice D ts.length cd] 67)).cell? ⟨w.heap.size + 1, 0, none⟩ = some (.slice A f.length ca) := cell_alloc _ (cell_new (by simp) rfl)
  have y1 : (((w.alloc (.cells #[.int .i64 R.mo.re, .int .i64 R.mo.im, .int .i64 R.me.re, .int .i64 R.me.im, .int .i64 R.ra, .int .i64 R.no, .int .i64 R.po, .int .i64 R.ce, .int .i64 R.st, .int .i64 R.du] 27)).alloc (.cells #[.slice A f.length ca, .slice B s.length cb] 40)).alloc (.cells #[.slice C fs.length cc, .slice D ts.length cd] 67)).cell? ⟨w.heap.size + 1, 1, none⟩ = some (.slice B s.length cb) := cell_alloc _ (cell_new (by simp) rfl)
  have zy : w.heap.size + 1 < (((w.alloc (.cells #[.int .i64 R.mo.re, .int .i64 R.mo.im, .int .i64 R.me.re, .int .i64 R.me.im, .int .i64 R.ra, .int .i64 R.no, .int .i64 R.po, .int .i64 R.ce, .int .i64 R.st, .int .i64 R.du] 27)).alloc (.cells #[.slice A f.length ca, .slice B s.length cb] 40)).alloc (.cells #[.slice C fs.length cc, .slice D ts.length cd] 67)).heap.size := World.block_lt_of_cell? _ _ y0
  have x0 : (((w.alloc (.cells #[.int .i64 R.mo.re, .int .i64 R.mo.im, .int .i64 R.me.re, .int .i64 R.me.im, .int .i64 R.ra, .int .i64 R.no, .int .i64 R.po, .int .i64 R.ce, .int .i64 R.st, .int .i64 R.du] 27)).alloc (.cells #[.slice A f.length ca, .slice B s.length cb] 40)).alloc (.cells #[.slice C fs.length cc, .slice D ts.length cd] 67)).cell? ⟨w.heap.size + 1 + 1, 0, none⟩ = some (.slice C fs.length cc) := cell_new (by simp) rfl
  have x1 : (((w.alloc (.cells #[.int .i64 R.mo.re, .int .i64 R.mo.im, .int .i64 R.me.re, .int .i64 R.me.im, .int .i64 R.ra, .int .i64 R.no, .int .i64 R.po, .int .i64 R.ce, .int .i64 R.st, .int .i64 R.du] 27)).alloc (.cells #[.slice A f.length ca, .slice B s.length cb] 40)).alloc (.cells #[.slice C fs.length cc, .slice D ts.length cd] 67)).cell? ⟨w.heap.size + 1 + 1, 1, none⟩ = some (.slice D ts.length cd) := cell_new (by simp) rfl
  have zx : w.heap.size + 1 + 1 < (((w.alloc (.cells #[.int .i64 R.mo.re, .int .i64 R.mo.im, .int .i64 R.me.re, .int .i64 R.me.im, .int .i64 R.ra, .int .i64 R.no, .int .i64 R.po, .int .i64 R.ce, .int .i64 R.st, .int .i64 R.du] 27)).alloc (.cells #[.slice A f.length ca, .slice B s.length cb] 40)).alloc (.cells #[.slice C fs.length cc, .slice D ts.length cd] 67)).heap.size := World.block_lt_of_cell? _ _ x0
  generalize (((w.alloc (.cells #[.int .i64 R.mo.re, .int .i64 R.mo.im, .int .i64 R.me.re, .int .i64 R.me.im, .int .i64 R.ra, .int .i64 R.no, .int .i64 R.po, .int .i64 R.ce, .int .i64 R.st, .int .i64 R.du] 27)).alloc (.cells #[.slice A f.length ca, .slice B s.length cb] 40)).alloc (.cells #[.slice C fs.length cc, .slice D ts.length cd] 67)) = w0 at *
  have HT0 := Lib.hid (HT.out.below hb0)
  go_wp2_with (fail)
  refine (awake_any w0 HT0.out).mono ?_
  rintro e w1 ⟨rfl, k1⟩
  have h1 : Below w.heap.size w w1 := (hb0).trans ((k1).mono (hb0).size)
  replace r0 := cell_below' k1 r0
  replace r1 := cell_below' k1 r1
  replace r2 := cell_below' k1 r2
  replace r3 := cell_below' k1 r3
  replace r4 := cell_below' k1 r4
  replace r5 := cell_below' k1 r5
  replace r6 := cell_below' k1 r6
  replace r7 := cell_below' k1 r7
  replace r8 := cell_below' k1 r8
  replace r9 := cell_below' k1 r9
  replace zr := Nat.lt_of_lt_of_le zr (k1).size
  replace y0 := cell_below' k1 y0
  replace y1 := cell_below' k1 y1
  replace zy := Nat.lt_of_lt_of_le zy (k1).size
  replace x0 := cell_below' k1 x0
  replace x1 := cell_below' k1 x1
  replace zx := Nat.lt_of_lt_of_le zx (k1).size
  clear k1 hb0
  clear HT0
  go_wp2_with (fail)
  refine (H1.out _).mono ?_
  rintro e w' ⟨rfl, rfl⟩
  go_wp2_with (fail)
  refine (H2.out _).mono ?_
  rintro e w' ⟨rfl, rfl⟩
  have hA1 := RowsAt.below hA h1
  have hB1 := RowsAt.below hB h1
  have hC1 := hC.below h1
  have hD1 := RowsAt.below hD h1
  clear H1 H2 HT hA hB hC hD
  go_wp2_with (fail)
  clear e1 e2
  go_loopw [7] (fun i wr => ∃ j : Nat, j ≤ fs.length ∧ i = .int .i64 j ∧ (∀ k (hk : k < fs.length), k < j → fs[k].l.length ≤ 66) ∧ w1 = wr) (fun i _ => fs.length - (intOf i).toNat)
  case atStart => exact ⟨0, Nat.zero_le _, rfl, fun k hk h => absurd h (by omega), rfl⟩
  case round =>
    obtain ⟨j, hj, rfl, hall, rfl⟩ := hrel
    have HALL := Lib.hid hall
    clear hall
    by_cases hjl : j < fs.length
    · have hjI : (j : Int) < (fs.length : Int) := by omega
      obtain ⟨b1, o1, rfl, hb1, cx, hX⟩ := hC1.at_ hjl
      by_cases h66 : fs[j].l.length ≤ 66
      rotate_left 1
      · have H := Lib.hid (fun W => few66_any fs[j].a fs[j].l fs[j].c W false (by simp; omega))
        clear h66 hX
        generalize fs[j] = q at *
        go_wp2_with (fail)
        refine (H.out _).mono ?_
        rintro e w' ⟨rfl, rfl⟩
        go_wp2_with (fail)
        go_ret
        exact ⟨rfl, h1⟩
      have H := Lib.hid (fun W => few66_any fs[j].a fs[j].l fs[j].c W true (by simp; omega))
      have hall2 : ∀ k (hk : k < fs.length), k < j + 1 → fs[k].l.length ≤ 66 := fun k hk h => by
        by_cases e : k = j
        · subst e; exact h66
        · exact HALL.out k hk (by omega)
      have HALL2 := Lib.hid hall2
      clear hall2 h66 hX HALL
      generalize fs[j] = q at *
      go_wp2_with (fail)
      refine (H.out _).mono ?_
      rintro e w' ⟨rfl, rfl⟩
      go_wp2_with (fail)
      exact ⟨⟨j + 1, by omega, by go_num, HALL2.out, by first | rfl | trivial⟩, by simp [intOf]; omega⟩
    · obtain rfl : j = fs.length := by omega
      have hfl2 : ∀ q ∈ fs, q.l.length ≤ 1000 := fun q hq => by
        obtain ⟨k, hk, rfl⟩ := List.getElem_of_mem hq
        exact Nat.le_trans (HALL.out k hk hk) (by decide)
      have HFL := Lib.hid hfl2
      have HCFS := Lib.hid (fun W (h : FrsAt W C fs) => CopyFrames_any C fs cc W (by omega) hfl2 h)
      have HCS := Lib.hid (fun (C' : Option Addr) (gs : List Frw) (a : Nat) (D' : Option Addr) (b : Nat) W (hg : gs.map (·.l) = fs.map (·.l)) (h : FrsAt W C' gs) (h' : IntsAt W D' ts) => by
        have hl : gs.length = fs.length := by have := congrArg List.length hg; simpa using this
        have hq := (frsE_congr hg ts).2
        have h1 := CoherentSum_any C' gs a D' ts b W (by omega) (by omega) (fun q hq => by
          obtain ⟨k, hk, rfl⟩ := List.getElem_of_mem hq
          have e : gs[k].l = fs[k].l := by
            have := congrArg (fun l => l[k]?) hg
            simpa [List.getElem?_eq_getElem hk, List.getElem?_eq_getElem (show k < fs.length by omega)] using this
          rw [e]; exact hfl2 _ (List.getElem_mem (by omega))) h h'
        rw [hq, hl] at h1
        exact h1)
      clear hfl2 HALL
      go_upto_region 10 with (fail)
      go_cut [8, 9] from 52 to 58 (fun a b wx => ∃ (X : Option Addr) (c : Nat), a = .slice X (echQ R f s).1.length c ∧ b = .int .i64 (echQ R f s).2 ∧ ItsAt wx X (echQ R f s).1 ∧ Below w1.heap.size w1 wx)
      case first =>
        clear HRF HCI HCR HFE HRE HCFS HCS HFL hD1
        go_region_held3 (fun w' => w'.cell? ⟨w.heap.size, 0, none⟩ = some (.int .i64 R.mo.re) ∧ w'.cell? ⟨w.heap.size, 1, none⟩ = some (.int .i64 R.mo.im) ∧ w'.cell? ⟨w.heap.size, 2, none⟩ = some (.int .i64 R.me.re) ∧ w'.cell? ⟨w.heap.size, 3, none⟩ = some (.int .i64 R.me.im) ∧ w'.cell? ⟨w.heap.size, 4, none⟩ = some (.int .i64 R.ra) ∧ w'.cell? ⟨w.heap.size, 5, none⟩ = some (.int .i64 R.no) ∧ w'.cell? ⟨w.heap.size, 6, none⟩ = some (.int .i64 R.po) ∧ w'.cell? ⟨w.heap.size, 7, none⟩ = some (.int .i64 R.ce) ∧ w'.cell? ⟨w.heap.size, 8, none⟩ = some (.int .i64 R.st) ∧ w'.cell? ⟨w.heap.size, 9, none⟩ = some (.int .i64 R.du) ∧ w'.cell? ⟨w.heap.size + 1, 0, none⟩ = some (.slice A f.length ca) ∧ w'.cell? ⟨w.heap.size + 1, 1, none⟩ = some (.slice B s.length cb)) ((((try go_split_ands); (repeat' (apply And.intro)) <;> (repeat (first | (with_reducible assumption) | (with_reducible refine cell_drew ?_) | (with_reducible refine cell_alloc _ ?_) | (with_reducible refine cell_below' (by with_reducible assumption) ?_) | (with_reducible refine cell_far ?_ ?_; focus (first | omega | (simp; omega) | (simp; done)))))))) (first
          | (go_at_call 16; (with_reducible refine (HCF.out _ ?_ ?_).mono ?_); (focus (exact RowsAt.below hA1 (by repeat (first | assumption | exact Below.refl _ _ | refine Below.drew ?_ | (refine below_alloc _ ?_ ?_; focus (first | omega | (simp; done) | (simp; omega) | (simp at *; omega))) | (refine below_set _ ?_ ?_; focus (first | omega | (simp; done) | (simp; omega) | (simp at *; omega))) | refine below_drewN ?_ _ | (refine below_call (by assumption) ?_ ?_; focus (first | omega | (simp; done) | (simp; omega) | (simp at *; omega))) | (refine below_call' (by assumption) ?_ ?_; focus (first | omega | (simp; done) | (simp; omega) | (simp at *; omega))))))); (focus (exact RowsAt.below hB1 (by repeat (first | assumption | exact Below.refl _ _ | refine Below.drew ?_ | (refine below_alloc _ ?_ ?_; focus (first | omega | (simp; done) | (simp; omega) | (simp at *; omega))) | (refine below_set _ ?_ ?_; focus (first | omega | (simp; done) | (simp; omega) | (simp at *; omega))) | refine below_drewN ?_ _ | (refine below_call (by assumption) ?_ ?_; focus (first | omega | (simp; done) | (simp; omega) | (simp at *; omega))) | (refine below_call' (by assumption) ?_ ?_; focus (first | omega | (simp; done) | (simp; omega) | (simp at *; omega))))))); rintro e w4 ⟨A4, c4, B4, d4, rfl, F4, G4, k4⟩)
          | (go_at_call 15; (with_reducible refine (HEO.out A4 c4 B4 d4 _ ?_ ?_).mono ?_); (focus (exact F4)); (focus (exact G4)); rintro e w5 ⟨X5, c5, rfl, I5, k5⟩))
        have hbw : Below w1.heap.size w1 w5 := (by repeat (first | assumption | exact Below.refl _ _ | refine Below.drew ?_ | (refine below_alloc _ ?_ ?_; focus (first | omega | (simp; done) | (simp; omega) | (simp at *; omega))) | (refine below_set _ ?_ ?_; focus (first | omega | (simp; done) | (simp; omega) | (simp at *; omega))) | refine below_drewN ?_ _ | (refine below_call (by assumption) ?_ ?_; focus (first | omega | (simp; done) | (simp; omega) | (simp at *; omega))) | (refine below_call' (by assumption) ?_ ?_; focus (first | omega | (simp; done) | (simp; omega) | (simp at *; omega)))))
        go_wp2_with (fail)
        go_meet
        exact ⟨_, _, rfl, rfl, I5, hbw⟩
      case rest =>
      obtain ⟨w2, rfl⟩ : ∃ w2 : World, w2 = wc := ⟨_, rfl⟩
      obtain ⟨X, cX, rfl, rfl, IX, k2⟩ := hcut
      have hA2 := RowsAt.below hA1 k2
      have hB2 := RowsAt.below hB1 k2
      have hC2 := hC1.below k2
      have hD2 := RowsAt.below hD1 k2
      have h2 : Below w.heap.size w w2 := (h1).trans ((k2).mono (h1).size)
      replace r0 := cell_below' k2 r0
      replace r1 := cell_below' k2 r1
      replace r2 := cell_below' k2 r2
      replace r3 := cell_below' k2 r3
      replace r4 := cell_below' k2 r4
      replace r5 := cell_below' k2 r5
      replace r6 := cell_below' k2 r6
      replace r7 := cell_below' k2 r7
      replace r8 := cell_below' k2 r8
      replace r9 := cell_below' k2 r9
      replace zr := Nat.lt_of_lt_of_le zr (k2).size
      replace y0 := cell_below' k2 y0
      replace y1 := cell_below' k2 y1
      replace zy := Nat.lt_of_lt_of_le zy (k2).size
      replace x0 := cell_below' k2 x0
      replace x1 := cell_below' k2 x1
      replace zx := Nat.lt_of_lt_of_le zx (k2).size
      clear k2 h1
      clear hA1 hB1 hC1 hD1 HCF HEO
      go_upto_region 11 with (fail)
      go_cut [10, 11] from 59 to 68 (fun a b wx => ∃ (Y : Option Addr) (c : Nat), a = .slice Y (cohQ fs ts).1.length c ∧ b = .int .i64 (cohQ fs ts).2 ∧ GsAt wx Y (cohQ fs ts).1 ∧ Below w2.heap.size w2 wx)
      case first =>
        clear HRF HCR HFE HRE HFL IX
        go_region_held3 (fun w' => w'.cell? ⟨w.heap.size + 1 + 1, 0, none⟩ = some (.slice C fs.length cc) ∧ w'.cell? ⟨w.heap.size + 1 + 1, 1, none⟩ = some (.slice D ts.length cd)) ((((try go_split_ands); (repeat' (apply And.intro)) <;> (repeat (first | (with_reducible assumption) | (with_reducible refine cell_drew ?_) | (with_reducible refine cell_alloc _ ?_) | (with_reducible refine cell_below' (by with_reducible assumption) ?_) | (with_reducible refine cell_far ?_ ?_; focus (first | omega | (simp; omega) | (simp; done)))))))) (first
          | (go_at_call 25; (with_reducible refine (HCFS.out _ ?_).mono ?_); (focus (exact FrsAt.below hC2 (by repeat (first | assumption | exact Below.refl _ _ | refine Below.drew ?_ | (refine below_alloc _ ?_ ?_; focus (first | omega | (simp; done) | (simp; omega) | (simp at *; omega))) | (refine below_set _ ?_ ?_; focus (first | omega | (simp; done) | (simp; omega) | (simp at *; omega))) | refine below_drewN ?_ _ | (refine below_call (by assumption) ?_ ?_; focus (first | omega | (simp; done) | (simp; omega) | (simp at *; omega))) | (refine below_call' (by assumption) ?_ ?_; focus (first | omega | (simp; done) | (simp; omega) | (simp at *; omega))))))); rintro e w4 ⟨A4, c4, gs4, rfl, M4, F4, k4⟩)
          | (go_at_call 26; (with_reducible refine (HCI.out _ ?_).mono ?_); (focus (exact RowsAt.below hD2 (by repeat (first | assumption | exact Below.refl _ _ | refine Below.drew ?_ | (refine below_alloc _ ?_ ?_; focus (first | omega | (simp; done) | (simp; omega) | (simp at *; omega))) | (refine below_set _ ?_ ?_; focus (first | omega | (simp; done) | (simp; omega) | (simp at *; omega))) | refine below_drewN ?_ _ | (refine below_call (by assumption) ?_ ?_; focus (first | omega | (simp; done) | (simp; omega) | (simp at *; omega))) | (refine below_call' (by assumption) ?_ ?_; focus (first | omega | (simp; done) | (simp; omega) | (simp at *; omega))))))); rintro e w5 ⟨B5, c5, rfl, own5, k5⟩)
          | (go_at_call 24; (with_reducible refine (HCS.out A4 gs4 c4 B5 c5 _ M4 ?_ ?_).mono ?_); (focus (exact FrsAt.below F4 (by repeat (first | assumption | exact Below.refl _ _ | refine Below.drew ?_ | (refine below_alloc _ ?_ ?_; focus (first | omega | (simp; done) | (simp; omega) | (simp at *; omega))) | (refine below_set _ ?_ ?_; focus (first | omega | (simp; done) | (simp; omega) | (simp at *; omega))) | refine below_drewN ?_ _ | (refine below_call (by assumption) ?_ ?_; focus (first | omega | (simp; done) | (simp; omega) | (simp at *; omega))) | (refine below_call' (by assumption) ?_ ?_; focus (first | omega | (simp; done) | (simp; omega) | (simp at *; omega))))))); (focus (exact rowsAt_of_own own5 rfl (by decide))); rintro e w6 ⟨Y6, c6, rfl, I6, k6⟩))
        have hbw : Below w2.heap.size w2 w6 := (by repeat (first | assumption | exact Below.refl _ _ | refine Below.drew ?_ | (refine below_alloc _ ?_ ?_; focus (first | omega | (simp; done) | (simp; omega) | (simp at *; omega))) | (refine below_set _ ?_ ?_; focus (first | omega | (simp; done) | (simp; omega) | (simp at *; omega))) | refine below_drewN ?_ _ | (refine below_call (by assumption) ?_ ?_; focus (first | omega | (simp; done) | (simp; omega) | (simp at *; omega))) | (refine below_call' (by assumption) ?_ ?_; focus (first | omega | (simp; done) | (simp; omega) | (simp at *; omega)))))
        go_wp2_with (fail)
        go_meet
        exact ⟨_, _, rfl, rfl, I6, hbw⟩
      case rest =>
      obtain ⟨w3, rfl⟩ : ∃ w3 : World, w3 = wc := ⟨_, rfl⟩
      obtain ⟨Y, cY, rfl, rfl, IY, k3⟩ := hcut
      have hA3 := RowsAt.below hA2 k3
      have hB3 := RowsAt.below hB2 k3
      have hC3 := hC2.below k3
      have hD3 := RowsAt.below hD2 k3
      have IX3 := RowsAt.below IX k3
      have h3 : Below w.heap.size w w3 := (h2).trans ((k3).mono (h2).size)
      replace r0 := cell_below' k3 r0
      replace r1 := cell_below' k3 r1
      replace r2 := cell_below' k3 r2
      replace r3 := cell_below' k3 r3
      replace r4 := cell_below' k3 r4
      replace r5 := cell_below' k3 r5
      replace r6 := cell_below' k3 r6
      replace r7 := cell_below' k3 r7
      replace r8 := cell_below' k3 r8
      replace r9 := cell_below' k3 r9
      replace zr := Nat.lt_of_lt_of_le zr (k3).size
      replace y0 := cell_below' k3 y0
      replace y1 := cell_below' k3 y1
      replace zy := Nat.lt_of_lt_of_le zy (k3).size
      replace x0 := cell_below' k3 x0
      replace x1 := cell_below' k3 x1
      replace zx := Nat.lt_of_lt_of_le zx (k3).size
      clear k3 h2
      clear hA2 hB2 hC2 hD2 IX HCFS HCS HCI HFL
      go_wp2_with (fail)
      refine (HRF.out _ hC3 hD3).mono ?_
      rintro e w4 ⟨rfl, k4⟩
      have hA4 := RowsAt.below hA3 k4
      have hB4 := RowsAt.below hB3 k4
      have hC4 := hC3.below k4
      have hD4 := RowsAt.below hD3 k4
      have IX4 := RowsAt.below IX3 k4
      have IY4 := RowsAt.below IY k4
      have h4 : Below w.heap.size w w4 := (h3).trans ((k4).mono (h3).size)
      replace r0 := cell_below' k4 r0
      replace r1 := cell_below' k4 r1
      replace r2 := cell_below' k4 r2
      replace r3 := cell_below' k4 r3
      replace r4 := cell_below' k4 r4
      replace r5 := cell_below' k4 r5
      replace r6 := cell_below' k4 r6
      replace r7 := cell_below' k4 r7
      replace r8 := cell_below' k4 r8
      replace r9 := cell_below' k4 r9
      replace zr := Nat.lt_of_lt_of_le zr (k4).size
      replace y0 := cell_below' k4 y0
      replace y1 := cell_below' k4 y1
      replace zy := Nat.lt_of_lt_of_le zy (k4).size
      replace x0 := cell_below' k4 x0
      replace x1 := cell_below' k4 x1
      replace zx := Nat.lt_of_lt_of_le zx (k4).size
      clear k4 h3
      clear hA3 hB3 hC3 hD3 IX3 IY HRF
      go_upto_region 13 with (fail)
      generalize hm : (cohQ fs ts).1.length = m at *
      generalize hg : (cohQ fs ts).2 = g at *
      generalize hE : frsE fs ts = E at *
      have HM := Lib.hid hm
      have HG := Lib.hid hg
      have HE := Lib.hid hE
      clear hm hg hE
      go_cut [103] from 74 to 103 (fun t wx => t = .bool false ∧ Below w4.heap.size w4 wx)
      case first =>
        clear HCR HFE HRE IX4 hA4 hB4
        by_cases hfe : frsE fs ts = 0
        rotate_left 1
        · have e3 : (E != 0) = true := by rw [← HE.out]; simpa using hfe
          have e4 : (E == 0) = false := by rw [← HE.out]; simpa using hfe
          have e5 : (g != E) = false := by rw [← HG.out, ← HE.out, cohQ_bad hfe]; simp
          have e6 : ((m : Int) != 0) = false := by rw [← HM.out, cohQ_bad hfe]; rfl
          have e7 : (m != 0) = false := by rw [← HM.out, cohQ_bad hfe]; rfl
          clear hfe IY4
          go_wp2_with (fail)
          go_meet
          exact ⟨rfl, Below.refl _ _⟩
        · have HRC := Lib.hid (RCoherent_any C fs cc D ts cd w4 hfe hC4 hD4)
          have hn64 : n0 fs ≤ 1000 := by
            have ho := frsE_ok hfe
            rw [← n0_at ho.p]
            exact Nat.le_trans (smpsE_zero (frE_zero (frsE_at hfe ho.p (by have := ho.e; have := ho.p; omega))).2.1).1 (by decide)
          have hcl : (cohL (fz fs ts) (n0 fs)).length ≤ 1000 := by rw [cohL_len]; exact hn64
          have HGR := Lib.hid (fun (Z : Option Addr) (cZ : Nat) W (h : GsAt W Y (cohL (fz fs ts) (n0 fs))) (h' : GsAt W Z (cohL (fz fs ts) (n0 fs))) => Gausses_refl Y Z (cohL (fz fs ts) (n0 fs)) cY cZ W hcl h h')
          have e3 : (E != 0) = false := by rw [← HE.out, hfe]; rfl
          have e4 : (E == 0) = true := by rw [← HE.out, hfe]; rfl
          have e5 : (g != 0) = false := by rw [← HG.out, cohQ_ok hfe]; rfl
          have hmm : (cohL (fz fs ts) (n0 fs)).length = m := by rw [← HM.out, cohQ_ok hfe]
          rw [cohQ_ok hfe] at IY4
          rw [hmm] at HGR
          have HRC2 : Hid (Calls Tryz.prog 29 #[.slice C fs.length cc, .slice D ts.length cd] w4 (fun e w' => ∃ A' c', e = .returned (.slice A' m c') ∧ GsAt w' A' (cohL (fz fs ts) (n0 fs)) ∧ Below w4.heap.size w4 w')) := Lib.hid (HRC.out.mono fun e w' ⟨A', c', h1, h2, h3⟩ => ⟨A', c', by rw [h1, hmm], h2, h3⟩)
          have HIY := Lib.hid IY4
          clear hfe hn64 hmm IY4 HRC hcl
          generalize cohL (fz fs ts) (n0 fs) = cl at *
          go_wp2_with (fail)
          refine HRC2.out.mono ?_
          rintro e w5 ⟨Z, cZ, rfl, IZ, k5⟩
          go_wp2_with (fail)
          refine (HGR.out Z cZ w5 (RowsAt.below HIY.out k5) IZ).mono ?_
          rintro e w6 ⟨rfl, k6⟩
          go_wp2_with (fail)
          go_meet
          exact ⟨rfl, k5.trans (k6.mono k5.size)⟩
      case rest =>
      obtain ⟨w5, rfl⟩ : ∃ w5 : World, w5 = wc := ⟨_, rfl⟩
      obtain ⟨rfl, k5⟩ := hcut
      have hA5 := RowsAt.below hA4 k5
      have hB5 := RowsAt.below hB4 k5
      have IX5 := RowsAt.below IX4 k5
      have h5 : Below w.heap.size w w5 := (h4).trans ((k5).mono (h4).size)
      replace r0 := cell_below' k5 r0
      replace r1 := cell_below' k5 r1
      replace r2 := cell_below' k5 r2
      replace r3 := cell_below' k5 r3
      replace r4 := cell_below' k5 r4
      replace r5 := cell_below' k5 r5
      replace r6 := cell_below' k5 r6
      replace r7 := cell_below' k5 r7
      replace r8 := cell_below' k5 r8
      replace r9 := cell_below' k5 r9
      replace zr := Nat.lt_of_lt_of_le zr (k5).size
      replace y0 := cell_below' k5 y0
      replace y1 := cell_below' k5 y1
      replace zy := Nat.lt_of_lt_of_le zy (k5).size
      clear k5 h4
      clear hA4 hB4 hC4 hD4 IX4 IY4 x0 x1 zx
      go_wp2_with (fail)
      refine (HCR.out _).mono ?_
      rintro e w6 ⟨rfl, k6⟩
      have hA6 := RowsAt.below hA5 k6
      have hB6 := RowsAt.below hB5 k6
      have IX6 := RowsAt.below IX5 k6
      have h6 : Below w.heap.size w w6 := (h5).trans ((k6).mono (h5).size)
      replace r0 := cell_below' k6 r0
      replace r1 := cell_below' k6 r1
      replace r2 := cell_below' k6 r2
      replace r3 := cell_below' k6 r3
      replace r4 := cell_below' k6 r4
      replace r5 := cell_below' k6 r5
      replace r6 := cell_below' k6 r6
      replace r7 := cell_below' k6 r7
      replace r8 := cell_below' k6 r8
      replace r9 := cell_below' k6 r9
      replace zr := Nat.lt_of_lt_of_le zr (k6).size
      replace y0 := cell_below' k6 y0
      replace y1 := cell_below' k6 y1
      replace zy := Nat.lt_of_lt_of_le zy (k6).size
      clear k6 h5
      clear hA5 hB5 IX5 HCR
      by_cases hru : ruE R = 0
      rotate_left 1
      · have e3 : (ruE R != 0) = true := by simpa using hru
        have e4 : (ruE R == 0) = false := by simpa using hru
        rw [echQ_1 hru]
        clear hru IX6 HRE HFE
        generalize ruE R = E at *
        go_wp2_with (fail)
        go_ret
        exact ⟨rfl, h6⟩
      by_cases hfr : frmE f s = 0
      rotate_left 1
      · have e3 : (frmE f s != 0) = true := by simpa using hfr
        have e4 : (frmE f s == 0) = false := by simpa using hfr
        rw [echQ_2 hru hfr, hru]
        clear hru hfr IX6 HRE
        generalize frmE f s = E at *
        go_wp2_with (fail)
        refine (HFE.out _ hA6 hB6).mono ?_
        rintro e w7 ⟨rfl, k7⟩
        have h7 := h6.trans (k7.mono h6.size)
        go_wp2_with (fail)
        go_ret
        exact ⟨rfl, h7⟩
      obtain ⟨hq, hok⟩ := echQ_3 hru hfr
      have hln := echK_len R f s f.length
      have hea : (echA R f s).length ≤ 1000 := Nat.le_trans hln (by omega)
      have HRE2 := Lib.hid (fun W (h : GsAt W A f) (h' : GsAt W B s) => HRE.out hok W h h')
      rw [hq] at IX6 ⊢
      rw [hfr] at HFE
      rw [hru]
      clear hq hok hru hfr HRE hln
      generalize echA R f s = ea at *
      go_wp2_with (fail)
      refine (HFE.out _ hA6 hB6).mono ?_
      rintro e w7 ⟨rfl, k7⟩
      have hA7 := RowsAt.below hA6 k7
      have hB7 := RowsAt.below hB6 k7
      have IX7 := RowsAt.below IX6 k7
      have h7 : Below w.heap.size w w7 := (h6).trans ((k7).mono (h6).size)
      replace r0 := cell_below' k7 r0
      replace r1 := cell_below' k7 r1
      replace r2 := cell_below' k7 r2
      replace r3 := cell_below' k7 r3
      replace r4 := cell_below' k7 r4
      replace r5 := cell_below' k7 r5
      replace r6 := cell_below' k7 r6
      replace r7 := cell_below' k7 r7
      replace r8 := cell_below' k7 r8
      replace r9 := cell_below' k7 r9
      replace zr := Nat.lt_of_lt_of_le zr (k7).size
      replace y0 := cell_below' k7 y0
      replace y1 := cell_below' k7 y1
      replace zy := Nat.lt_of_lt_of_le zy (k7).size
      clear k7 h6
      go_wp2_with (fail)
      refine (HRE2.out _ hA7 hB7).mono ?_
      rintro e w8 ⟨Z, cZ, rfl, IZ, k8⟩
      have h8 := h7.trans (k8.mono h7.size)
      go_wp2_with (fail)
      refine (SameEchoes_refl X Z ea cX cZ w8 hea (RowsAt.below IX7 k8) IZ).mono ?_
      rintro e w9 ⟨rfl, k9⟩
      have h9 := h8.trans (k9.mono h8.size)
      go_wp2_with (fail)
      go_ret
      exact ⟨rfl, h9⟩
end Go.Proofs.YtppghnbabnhnbaaGreatDoor
