/-
  Chapter 2: CheckModes and the reference's; Separated.
-/
import Derived.Test.YtlnbbioponmcfaaDoorESeq
import Derived.Laws.StructEq
namespace Go.Proofs.YtlnbbioponmcfaaDoor
open Go.ChangeShapes Go.WideShapes Go.ChangeAt Go.RowKit
set_option linter.unusedVariables false
set_option linter.unusedSimpArgs false

theorem eqG (a b : Gs) (w : World) : (binOp .eql 30 (.agg #[.int .i64 a.re, .int .i64 a.im]) (.agg #[.int .i64 b.re, .int .i64 b.im])).run Tryd.prog w = .ok (.bool (eqB a b)) w := by
  have hS : Tryd.prog.underlying 30 = some (.struct (Tryd.prog.fieldsOf 30)) := by kernel_rfl
  have hp : Tryd.prog.stoodInHeld 30 = false := by kernel_rfl
  rw [run_eql_struct, show (10000 : Nat) = 9999 + 1 from rfl, run_equalIn_agg w 9999 30 _ _ hS hp]
  simp only [Program.fieldsOf, Tryd.underlying30]
  unfold eqB
  cases h0 : (a.re == b.re) <;> cases h1 : (a.im == b.im) <;> go_simp
theorem neG (a b : Gs) (w : World) : (binOp .neq 30 (.agg #[.int .i64 a.re, .int .i64 a.im]) (.agg #[.int .i64 b.re, .int .i64 b.im])).run Tryd.prog w = .ok (.bool (neB a b)) w := by
  have hS : Tryd.prog.underlying 30 = some (.struct (Tryd.prog.fieldsOf 30)) := by kernel_rfl
  have hp : Tryd.prog.stoodInHeld 30 = false := by kernel_rfl
  rw [run_neq_struct, show (10000 : Nat) = 9999 + 1 from rfl, run_equalIn_agg w 9999 30 _ _ hS hp]
  simp only [Program.fieldsOf, Tryd.underlying30]
  unfold neB eqB
  cases h0 : (a.re == b.re) <;> cases h1 : (a.im == b.im) <;> go_simp
set_option maxRecDepth 100000 in
set_option maxHeartbeats 4000000 in
theorem CheckModes_any (mo me : Gs) (w : World) :
    Calls Tryd.prog 42 #[gv2 mo me] w fun e w' => e = .returned (.int .i64 (mdsE mo me)) ∧ Below w.heap.size w w' := by
  have hq : mdsE mo me = firstE [unl (prtB 10 mo && prtB 10 me) 2, unl (neB mo me) 11] := rfl
  have H1 := Lib.hid (fun W => isPart_any mo 10 (by decide) (by decide) W)
  have H2 := Lib.hid (fun W => isPart_any me 10 (by decide) (by decide) W)
  have hne := neG mo me
  generalize prtB 10 mo = b1 at *
  generalize prtB 10 me = b2 at *
  generalize neB mo me = b3 at *
  obtain ⟨mo0, mo1⟩ := mo
  obtain ⟨me0, me1⟩ := me
  simp only [gv] at *
  cases b1
  all_goals
    have HQ := Lib.hid hq
    clear hq
    go_enter Tryd.func42, Tryd.ntmps42
    go_wp2_with (fail)
    (refine region_extx 15 (by kernel_rfl) (by kernel_rfl) fun hx => ?_; simp only [List.take_succ_cons, List.take_zero, List.drop_succ_cons, List.drop_zero]; (repeat (any_goals (first | go_big_quiet_step ((first | ((go_at_call 59; with_reducible exact ext_call (H1.out _))) | ((go_at_call 59; with_reducible exact ext_call (H2.out _))) | ((go_at_call 28; with_reducible exact ext_same (unless_any _ _ _))))) | quiet_step ((first | ((go_at_call 59; with_reducible exact ext_call (H1.out _))) | ((go_at_call 59; with_reducible exact ext_call (H2.out _))) | ((go_at_call 28; with_reducible exact ext_same (unless_any _ _ _)))))))))
    (refine wpQuiet_nil ?_; clear hx; intro u; have hbw2 := ext_bel _ u; have hxw2 := ext_cell _ u; generalize ext _ u = w2 at *; clear u; have hsw2 := hbw2.size; (try simp at hsw2))
    go_wp2_with (go_at_call 27; refine (first2 _ _ _ _ (by simp) (cell_new (by simp) rfl) (cell_new (by simp) rfl)).mono ?_; rintro e w' ⟨rfl, rfl⟩)
    go_ret
    exact ⟨ret_int (by rw [HQ.out]; rfl), (by repeat (first | assumption | exact Below.refl _ _ | refine Below.drew ?_ | (refine below_alloc _ ?_ ?_; focus (first | omega | (simp; done) | (simp; omega) | (simp at *; omega))) | (refine below_set _ ?_ ?_; focus (first | omega | (simp; done) | (simp; omega) | (simp at *; omega))) | refine below_drewN ?_ _ | (refine below_call (by assumption) ?_ ?_; focus (first | omega | (simp; done) | (simp; omega) | (simp at *; omega))) | (refine below_call' (by assumption) ?_ ?_; focus (first | omega | (simp; done) | (simp; omega) | (simp at *; omega)))))⟩
def splz : Spl := ⟨gz, gz, 0⟩
def sepE2 (mo me x0 x1 : Gs) : Int := firstE [mdsE mo me, pairE x0 x1]
theorem sepE2_zero {mo me x0 x1 : Gs} (h : sepE2 mo me x0 x1 = 0) : OkM mo me ∧ Sz 10000 x0 ∧ Sz 10000 x1 := by
  unfold sepE2 at h
  by_cases h1 : mdsE mo me = 0
  · rw [h1, firstE_z, firstE1] at h
    exact ⟨mdsE_zero h1, pairE_zero h⟩
  · rw [firstE_nz h1] at h; exact absurd h h1
/-- the separation, or the error -/
def sepQ (mo me x0 x1 : Gs) : Spl × Int := if sepE2 mo me x0 x1 = 0 then (sepP mo me x0 x1, 0) else (splz, sepE2 mo me x0 x1)
set_option maxRecDepth 100000 in
set_option maxHeartbeats 4000000 in
theorem Separated_any (mo me x0 x1 : Gs) (w : World) :
    Calls Tryd.prog 18 #[gv2 mo me, gv2 x0 x1] w fun e w' => e = .returned (.tuple #[spv (sepQ mo me x0 x1).1, .int .i64 (sepQ mo me x0 x1).2]) ∧ Below w.heap.size w w' := by
  have hq : sepQ mo me x0 x1 = if sepE2 mo me x0 x1 = 0 then (sepP mo me x0 x1, 0) else (splz, sepE2 mo me x0 x1) := rfl
  have hE : sepE2 mo me x0 x1 = firstE [mdsE mo me, pairE x0 x1] := rfl
  have H1 := Lib.hid (fun W => CheckModes_any mo me W)
  have H2 := Lib.hid (fun W => bothErr_any x0 x1 W)
  by_cases h0 : sepE2 mo me x0 x1 = 0
  · rw [if_pos h0] at hq
    rw [h0] at hE
    obtain ⟨hm, k0, k1⟩ := sepE2_zero h0
    have HS := Lib.hid (fun W => separated_any mo me x0 x1 W hm k0 k1)
    have HQ := Lib.hid hq
    have HE := Lib.hid hE
    clear hq hE h0 hm k0 k1
    generalize mdsE mo me = e1 at *
    generalize pairE x0 x1 = e2 at *
    generalize sepP mo me x0 x1 = sp at *
    obtain ⟨mo0, mo1⟩ := mo
    obtain ⟨me0, me1⟩ := me
    obtain ⟨x00, x01⟩ := x0
    obtain ⟨x10, x11⟩ := x1
    obtain ⟨⟨s0, s1⟩, ⟨s2, s3⟩, s4⟩ := sp
    simp only [gv2, spv] at H1 H2 HS ⊢
    go_enter Tryd.func18, Tryd.ntmps18
    go_upto_region 1 with (fail)
    have hb0 : Below w.heap.size w (((w.alloc (.cells #[.int .i64 mo0, .int .i64 mo1, .int .i64 me0, .int .i64 me1] 56)).alloc (.cells #[.int .i64 x00, .int .i64 x01, .int .i64 x10, .int .i64 x11] 60)).alloc (.cells #[.int .i64 0, .int .i64 0, .int .i64 0, .int .i64 0, .int .i64 0] 52)) := below_alloc _ (Nat.le_refl _) (below_alloc _ (Nat.le_refl _) (below_alloc _ (Nat.le_refl _) (Below.refl _ _)))
    have m0 : (((w.alloc (.cells #[.int .i64 mo0, .int .i64 mo1, .int .i64 me0, .int .i64 me1] 56)).alloc (.cells #[.int .i64 x00, .int .i64 x01, .int .i64 x10, .int .i64 x11] 60)).alloc (.cells #[.int .i64 0, .int .i64 0, .int .i64 0, .int .i64 0, .int .i64 0] 52)).cell? ⟨w.heap.size, 0, none⟩ = some (.int .i64 mo0) := cell_alloc _ (cell_alloc _ (cell_new (by simp) rfl))
    have m1 : (((w.alloc (.cells #[.int .i64 mo0, .int .i64 mo1, .int .i64 me0, .int .i64 me1] 56)).alloc (.cells #[.int .i64 x00, .int .i64 x01, .int .i64 x10, .int .i64 x11] 60)).alloc (.cells #[.int .i64 0, .int .i64 0, .int .i64 0, .int .i64 0, .int .i64 0] 52)).cell? ⟨w.heap.size, 1, none⟩ = some (.int .i64 mo1) := cell_alloc _ (cell_alloc _ (cell_new (by simp) rfl))
    have m2 : (((w.alloc (.cells #[.int .i64 mo0, .int .i64 mo1, .int .i64 me0, .int .i64 me1] 56)).alloc (.cells #[.int .i64 x00, .int .i64 x01, .int .i64 x10, .int .i64 x11] 60)).alloc (.cells #[.int .i64 0, .int .i64 0, .int .i64 0, .int .i64 0, .int .i64 0] 52)).cell? ⟨w.heap.size, 2, none⟩ = some (.int .i64 me0) := cell_alloc _ (cell_alloc _ (cell_new (by simp) rfl))
    have m3 : (((w.alloc (.cells #[.int .i64 mo0, .int .i64 mo1, .int .i64 me0, .int .i64 me1] 56)).alloc (.cells #[.int .i64 x00, .int .i64 x01, .int .i64 x10, .int .i64 x11] 60)).alloc (.cells #[.int .i64 0, .int .i64 0, .int .i64 0, .int .i64 0, .int .i64 0] 52)).cell? ⟨w.heap.size, 3, none⟩ = some (.int .i64 me1) := cell_alloc _ (cell_alloc _ (cell_new (by simp) rfl))
    have zm : w.heap.size < (((w.alloc (.cells #[.int .i64 mo0, .int .i64 mo1, .int .i64 me0, .int .i64 me1] 56)).alloc (.cells #[.int .i64 x00, .int .i64 x01, .int .i64 x10, .int .i64 x11] 60)).alloc (.cells #[.int .i64 0, .int .i64 0, .int .i64 0, .int .i64 0, .int .i64 0] 52)).heap.size := World.block_lt_of_cell? _ _ m0
    have x0 : (((w.alloc (.cells #[.int .i64 mo0, .int .i64 mo1, .int .i64 me0, .int .i64 me1] 56)).alloc (.cells #[.int .i64 x00, .int .i64 x01, .int .i64 x10, .int .i64 x11] 60)).alloc (.cells #[.int .i64 0, .int .i64 0, .int .i64 0, .int .i64 0, .int .i64 0] 52)).cell? ⟨w.heap.size + 1, 0, none⟩ = some (.int .i64 x00) := cell_alloc _ (cell_new (by simp) rfl)
    have x1 : (((w.alloc (.cells #[.int .i64 mo0, .int .i64 mo1, .int .i64 me0, .int .i64 me1] 56)).alloc (.cells #[.int .i64 x00, .int .i64 x01, .int .i64 x10, .int .i64 x11] 60)).alloc (.cells #[.int .i64 0, .int .i64 0, .int .i64 0, .int .i64 0, .int .i64 0] 52)).cell? ⟨w.heap.size + 1, 1, none⟩ = some (.int .i64 x01) := cell_alloc _ (cell_new (by simp) rfl)
    have x2 : (((w.alloc (.cells #[.int .i64 mo0, .int .i64 mo1, .int .i64 me0, .int .i64 me1] 56)).alloc (.cells #[.int .i64 x00, .int .i64 x01, .int .i64 x10, .int .i64 x11] 60)).alloc (.cells #[.int .i64 0, .int .i64 0, .int .i64 0, .int .i64 0, .int .i64 0] 52)).cell? ⟨w.heap.size + 1, 2, none⟩ = some (.int .i64 x10) := cell_alloc _ (cell_new (by simp) rfl)
    have x3 : (((w.alloc (.cells #[.int .i64 mo0, .int .i64 mo1, .int .i64 me0, .int .i64 me1] 56)).alloc (.cells #[.int .i64 x00, .int .i64 x01, .int .i64 x10, .int .i64 x11] 60)).alloc (.cells #[.int .i64 0, .int .i64 0, .int .i64 0, .int .i64 0, .int .i64 0] 52)).cell? ⟨w.heap.size + 1, 3, none⟩ = some (.int .i64 x11) := cell_alloc _ (cell_new (by simp) rfl)
    have zx : w.heap.size + 1 < (((w.alloc (.cells #[.int .i64 mo0, .int .i64 mo1, .int .i64 me0, .int .i64 me1] 56)).alloc (.cells #[.int .i64 x00, .int .i64 x01, .int .i64 x10, .int .i64 x11] 60)).alloc (.cells #[.int .i64 0, .int .i64 0, .int .i64 0, .int .i64 0, .int .i64 0] 52)).heap.size := World.block_lt_of_cell? _ _ x0
    have r0 : (((w.alloc (.cells #[.int .i64 mo0, .int .i64 mo1, .int .i64 me0, .int .i64 me1] 56)).alloc (.cells #[.int .i64 x00, .int .i64 x01, .int .i64 x10, .int .i64 x11] 60)).alloc (.cells #[.int .i64 0, .int .i64 0, .int .i64 0, .int .i64 0, .int .i64 0] 52)).cell? ⟨w.heap.size + 1 + 1, 0, none⟩ = some (.int .i64 0) := cell_new (by simp) rfl
    have rf0 : (((w.alloc (.cells #[.int .i64 mo0, .int .i64 mo1, .int .i64 me0, .int .i64 me1] 56)).alloc (.cells #[.int .i64 x00, .int .i64 x01, .int .i64 x10, .int .i64 x11] 60)).alloc (.cells #[.int .i64 0, .int .i64 0, .int .i64 0, .int .i64 0, .int .i64 0] 52)).frozen? ⟨w.heap.size + 1 + 1, 0, none⟩ = false := frozen_new (by simp)
    have r1 : (((w.alloc (.cells #[.int .i64 mo0, .int .i64 mo1, .int .i64 me0, .int .i64 me1] 56)).alloc (.cells #[.int .i64 x00, .int .i64 x01, .int .i64 x10, .int .i64 x11] 60)).alloc (.cells #[.int .i64 0, .int .i64 0, .int .i64 0, .int .i64 0, .int .i64 0] 52)).cell? ⟨w.heap.size + 1 + 1, 1, none⟩ = some (.int .i64 0) := cell_new (by simp) rfl
    have rf1 : (((w.alloc (.cells #[.int .i64 mo0, .int .i64 mo1, .int .i64 me0, .int .i64 me1] 56)).alloc (.cells #[.int .i64 x00, .int .i64 x01, .int .i64 x10, .int .i64 x11] 60)).alloc (.cells #[.int .i64 0, .int .i64 0, .int .i64 0, .int .i64 0, .int .i64 0] 52)).frozen? ⟨w.heap.size + 1 + 1, 1, none⟩ = false := frozen_new (by simp)
    have r2 : (((w.alloc (.cells #[.int .i64 mo0, .int .i64 mo1, .int .i64 me0, .int .i64 me1] 56)).alloc (.cells #[.int .i64 x00, .int .i64 x01, .int .i64 x10, .int .i64 x11] 60)).alloc (.cells #[.int .i64 0, .int .i64 0, .int .i64 0, .int .i64 0, .int .i64 0] 52)).cell? ⟨w.heap.size + 1 + 1, 2, none⟩ = some (.int .i64 0) := cell_new (by simp) rfl
    have rf2 : (((w.alloc (.cells #[.int .i64 mo0, .int .i64 mo1, .int .i64 me0, .int .i64 me1] 56)).alloc (.cells #[.int .i64 x00, .int .i64 x01, .int .i64 x10, .int .i64 x11] 60)).alloc (.cells #[.int .i64 0, .int .i64 0, .int .i64 0, .int .i64 0, .int .i64 0] 52)).frozen? ⟨w.heap.size + 1 + 1, 2, none⟩ = false := frozen_new (by simp)
    have r3 : (((w.alloc (.cells #[.int .i64 mo0, .int .i64 mo1, .int .i64 me0, .int .i64 me1] 56)).alloc (.cells #[.int .i64 x00, .int .i64 x01, .int .i64 x10, .int .i64 x11] 60)).alloc (.cells #[.int .i64 0, .int .i64 0, .int .i64 0, .int .i64 0, .int .i64 0] 52)).cell? ⟨w.heap.size + 1 + 1, 3, none⟩ = some (.int .i64 0) := cell_new (by simp) rfl
    have rf3 : (((w.alloc (.cells #[.int .i64 mo0, .int .i64 mo1, .int .i64 me0, .int .i64 me1] 56)).alloc (.cells #[.int .i64 x00, .int .i64 x01, .int .i64 x10, .int .i64 x11] 60)).alloc (.cells #[.int .i64 0, .int .i64 0, .int .i64 0, .int .i64 0, .int .i64 0] 52)).frozen? ⟨w.heap.size + 1 + 1, 3, none⟩ = false := frozen_new (by simp)
    have r4 : (((w.alloc (.cells #[.int .i64 mo0, .int .i64 mo1, .int .i64 me0, .int .i64 me1] 56)).alloc (.cells #[.int .i64 x00, .int .i64 x01, .int .i64 x10, .int .i64 x11] 60)).alloc (.cells #[.int .i64 0, .int .i64 0, .int .i64 0, .int .i64 0, .int .i64 0] 52)).cell? ⟨w.heap.size + 1 + 1, 4, none⟩ = some (.int .i64 0) := cell_new (by simp) rfl
    have rf4 : (((w.alloc (.cells #[.int .i64 mo0, .int .i64 mo1, .int .i64 me0, .int .i64 me1] 56)).alloc (.cells #[.int .i64 x00, .int .i64 x01, .int .i64 x10, .int .i64 x11] 60)).alloc (.cells #[.int .i64 0, .int .i64 0, .int .i64 0, .int .i64 0, .int .i64 0] 52)).frozen? ⟨w.heap.size + 1 + 1, 4, none⟩ = false := frozen_new (by simp)
    have zr : w.heap.size + 1 + 1 < (((w.alloc (.cells #[.int .i64 mo0, .int .i64 mo1, .int .i64 me0, .int .i64 me1] 56)).alloc (.cells #[.int .i64 x00, .int .i64 x01, .int .i64 x10, .int .i64 x11] 60)).alloc (.cells #[.int .i64 0, .int .i64 0, .int .i64 0, .int .i64 0, .int .i64 0] 52)).heap.size := World.block_lt_of_cell? _ _ r0
    generalize (((w.alloc (.cells #[.int .i64 mo0, .int .i64 mo1, .int .i64 me0, .int .i64 me1] 56)).alloc (.cells #[.int .i64 x00, .int .i64 x01, .int .i64 x10, .int .i64 x11] 60)).alloc (.cells #[.int .i64 0, .int .i64 0, .int .i64 0, .int .i64 0, .int .i64 0] 52)) = w0 at *
    (refine region_extx 4 (by kernel_rfl) (by kernel_rfl) fun hx => ?_; simp only [List.take_succ_cons, List.take_zero, List.drop_succ_cons, List.drop_zero]; (repeat (any_goals (first | go_big_quiet_step ((first | ((go_at_call 42; with_reducible exact ext_call (H1.out _))) | ((go_at_call 43; with_reducible exact ext_call (H2.out _))))) | quiet_step ((first | ((go_at_call 42; with_reducible exact ext_call (H1.out _))) | ((go_at_call 43; with_reducible exact ext_call (H2.out _)))))))))
    (refine wpQuiet_nil ?_; clear hx; intro u; have hbw2 := ext_bel _ u; have hxw2 := ext_cell _ u; generalize ext _ u = w2 at *; clear u; have hsw2 := hbw2.size; (try simp at hsw2))
    have h1 : Below w.heap.size w w2 := (hb0).trans ((hbw2).mono (hb0).size)
    replace m0 := cell_below' hbw2 m0
    replace m1 := cell_below' hbw2 m1
    replace m2 := cell_below' hbw2 m2
    replace m3 := cell_below' hbw2 m3
    replace zm := Nat.lt_of_lt_of_le zm (hbw2).size
    replace x0 := cell_below' hbw2 x0
    replace x1 := cell_below' hbw2 x1
    replace x2 := cell_below' hbw2 x2
    replace x3 := cell_below' hbw2 x3
    replace zx := Nat.lt_of_lt_of_le zx (hbw2).size
    replace rf0 := frozen_below hbw2 (World.block_lt_of_cell? _ _ r0) rf0
    replace rf1 := frozen_below hbw2 (World.block_lt_of_cell? _ _ r1) rf1
    replace rf2 := frozen_below hbw2 (World.block_lt_of_cell? _ _ r2) rf2
    replace rf3 := frozen_below hbw2 (World.block_lt_of_cell? _ _ r3) rf3
    replace rf4 := frozen_below hbw2 (World.block_lt_of_cell? _ _ r4) rf4
    replace r0 := cell_below' hbw2 r0
    replace r1 := cell_below' hbw2 r1
    replace r2 := cell_below' hbw2 r2
    replace r3 := cell_below' hbw2 r3
    replace r4 := cell_below' hbw2 r4
    replace zr := Nat.lt_of_lt_of_le zr (hbw2).size
    clear hbw2 hb0
    clear hxw2 hsw2
    go_wp2_with (go_at_call 27; refine (first2 _ _ _ _ (by simp) (cell_new (by simp) rfl) (cell_new (by simp) rfl)).mono ?_; rintro e w' ⟨rfl, rfl⟩; rw [← HE.out])
    have hbv : Below w2.heap.size w2 (w2.alloc (.cells #[.int .i64 e1, .int .i64 e2] 34)) := (by repeat (first | assumption | exact Below.refl _ _ | refine Below.drew ?_ | (refine below_alloc _ ?_ ?_; focus (first | omega | (simp; done) | (simp; omega) | (simp at *; omega))) | (refine below_set _ ?_ ?_; focus (first | omega | (simp; done) | (simp; omega) | (simp at *; omega))) | refine below_drewN ?_ _ | (refine below_call (by assumption) ?_ ?_; focus (first | omega | (simp; done) | (simp; omega) | (simp at *; omega))) | (refine below_call' (by assumption) ?_ ?_; focus (first | omega | (simp; done) | (simp; omega) | (simp at *; omega)))))
    generalize (w2.alloc (.cells #[.int .i64 e1, .int .i64 e2] 34)) = w3 at *
    have h2 : Below w.heap.size w w3 := (h1).trans ((hbv).mono (h1).size)
    replace m0 := cell_below' hbv m0
    replace m1 := cell_below' hbv m1
    replace m2 := cell_below' hbv m2
    replace m3 := cell_below' hbv m3
    replace zm := Nat.lt_of_lt_of_le zm (hbv).size
    replace x0 := cell_below' hbv x0
    replace x1 := cell_below' hbv x1
    replace x2 := cell_below' hbv x2
    replace x3 := cell_below' hbv x3
    replace zx := Nat.lt_of_lt_of_le zx (hbv).size
    replace rf0 := frozen_below hbv (World.block_lt_of_cell? _ _ r0) rf0
    replace rf1 := frozen_below hbv (World.block_lt_of_cell? _ _ r1) rf1
    replace rf2 := frozen_below hbv (World.block_lt_of_cell? _ _ r2) rf2
    replace rf3 := frozen_below hbv (World.block_lt_of_cell? _ _ r3) rf3
    replace rf4 := frozen_below hbv (World.block_lt_of_cell? _ _ r4) rf4
    replace r0 := cell_below' hbv r0
    replace r1 := cell_below' hbv r1
    replace r2 := cell_below' hbv r2
    replace r3 := cell_below' hbv r3
    replace r4 := cell_below' hbv r4
    replace zr := Nat.lt_of_lt_of_le zr (hbv).size
    clear hbv h1
    refine (HS.out _).mono ?_
    rintro e w4 ⟨rfl, hb4⟩
    have h3 : Below w.heap.size w w4 := (h2).trans ((hb4).mono (h2).size)
    replace rf0 := frozen_below hb4 (World.block_lt_of_cell? _ _ r0) rf0
    replace rf1 := frozen_below hb4 (World.block_lt_of_cell? _ _ r1) rf1
    replace rf2 := frozen_below hb4 (World.block_lt_of_cell? _ _ r2) rf2
    replace rf3 := frozen_below hb4 (World.block_lt_of_cell? _ _ r3) rf3
    replace rf4 := frozen_below hb4 (World.block_lt_of_cell? _ _ r4) rf4
    replace r0 := cell_below' hb4 r0
    replace r1 := cell_below' hb4 r1
    replace r2 := cell_below' hb4 r2
    replace r3 := cell_below' hb4 r3
    replace r4 := cell_below' hb4 r4
    replace zr := Nat.lt_of_lt_of_le zr (hb4).size
    clear hb4 h2
    go_wp2_with (fail)
    obtain ⟨q0, q1, q2, q3, q4⟩ := set5 (v0 := .int .i64 s0) (v1 := .int .i64 s1) (v2 := .int .i64 s2) (v3 := .int .i64 s3) (v4 := .int .i64 s4) r0 r1 r2 r3 r4
    refine bodyPost_ret (v := .tuple #[.agg #[.int .i64 s0, .int .i64 s1, .int .i64 s2, .int .i64 s3, .int .i64 s4], .int .i64 0]) (by simp [results, Tryd.results18, go_sem, q0, q1, q2, q3, q4]) rfl ?_
    rw [HQ.out]
    have hle : w.heap.size ≤ w.heap.size + 1 + 1 := by omega
    exact ⟨rfl, below_set _ hle (below_set _ hle (below_set _ hle (below_set _ hle (below_set _ hle h3))))⟩
  · rw [if_neg h0] at hq
    have HQ := Lib.hid hq
    have HE := Lib.hid hE
    have e9 : (sepE2 mo me x0 x1 != 0) = true := by simpa using h0
    clear hq hE h0
    generalize sepE2 mo me x0 x1 = E at *
    generalize mdsE mo me = e1 at *
    generalize pairE x0 x1 = e2 at *
    obtain ⟨mo0, mo1⟩ := mo
    obtain ⟨me0, me1⟩ := me
    obtain ⟨x00, x01⟩ := x0
    obtain ⟨x10, x11⟩ := x1
    simp only [gv2] at H1 H2
    go_enter Tryd.func18, Tryd.ntmps18
    go_upto_region 1 with (fail)
    have hb0 : Below w.heap.size w (((w.alloc (.cells #[.int .i64 mo0, .int .i64 mo1, .int .i64 me0, .int .i64 me1] 56)).alloc (.cells #[.int .i64 x00, .int .i64 x01, .int .i64 x10, .int .i64 x11] 60)).alloc (.cells #[.int .i64 0, .int .i64 0, .int .i64 0, .int .i64 0, .int .i64 0] 52)) := below_alloc _ (Nat.le_refl _) (below_alloc _ (Nat.le_refl _) (below_alloc _ (Nat.le_refl _) (Below.refl _ _)))
    have m0 : (((w.alloc (.cells #[.int .i64 mo0, .int .i64 mo1, .int .i64 me0, .int .i64 me1] 56)).alloc (.cells #[.int .i64 x00, .int .i64 x01, .int .i64 x10, .int .i64 x11] 60)).alloc (.cells #[.int .i64 0, .int .i64 0, .int .i64 0, .int .i64 0, .int .i64 0] 52)).cell? ⟨w.heap.size, 0, none⟩ = some (.int .i64 mo0) := cell_alloc _ (cell_alloc _ (cell_new (by simp) rfl))
    have m1 : (((w.alloc (.cells #[.int .i64 mo0, .int .i64 mo1, .int .i64 me0, .int .i64 me1] 56)).alloc (.cells #[.int .i64 x00, .int .i64 x01, .int .i64 x10, .int .i64 x11] 60)).alloc (.cells #[.int .i64 0, .int .i64 0, .int .i64 0, .int .i64 0, .int .i64 0] 52)).cell? ⟨w.heap.size, 1, none⟩ = some (.int .i64 mo1) := cell_alloc _ (cell_alloc _ (cell_new (by simp) rfl))
    have m2 : (((w.alloc (.cells #[.int .i64 mo0, .int .i64 mo1, .int .i64 me0, .int .i64 me1] 56)).alloc (.cells #[.int .i64 x00, .int .i64 x01, .int .i64 x10, .int .i64 x11] 60)).alloc (.cells #[.int .i64 0, .int .i64 0, .int .i64 0, .int .i64 0, .int .i64 0] 52)).cell? ⟨w.heap.size, 2, none⟩ = some (.int .i64 me0) := cell_alloc _ (cell_alloc _ (cell_new (by simp) rfl))
    have m3 : (((w.alloc (.cells #[.int .i64 mo0, .int .i64 mo1, .int .i64 me0, .int .i64 me1] 56)).alloc (.cells #[.int .i64 x00, .int .i64 x01, .int .i64 x10, .int .i64 x11] 60)).alloc (.cells #[.int .i64 0, .int .i64 0, .int .i64 0, .int .i64 0, .int .i64 0] 52)).cell? ⟨w.heap.size, 3, none⟩ = some (.int .i64 me1) := cell_alloc _ (cell_alloc _ (cell_new (by simp) rfl))
    have zm : w.heap.size < (((w.alloc (.cells #[.int .i64 mo0, .int .i64 mo1, .int .i64 me0, .int .i64 me1] 56)).alloc (.cells #[.int .i64 x00, .int .i64 x01, .int .i64 x10, .int .i64 x11] 60)).alloc (.cells #[.int .i64 0, .int .i64 0, .int .i64 0, .int .i64 0, .int .i64 0] 52)).heap.size := World.block_lt_of_cell? _ _ m0
    have x0 : (((w.alloc (.cells #[.int .i64 mo0, .int .i64 mo1, .int .i64 me0, .int .i64 me1] 56)).alloc (.cells #[.int .i64 x00, .int .i64 x01, .int .i64 x10, .int .i64 x11] 60)).alloc (.cells #[.int .i64 0, .int .i64 0, .int .i64 0, .int .i64 0, .int .i64 0] 52)).cell? ⟨w.heap.size + 1, 0, none⟩ = some (.int .i64 x00) := cell_alloc _ (cell_new (by simp) rfl)
    have x1 : (((w.alloc (.cells #[.int .i64 mo0, .int .i64 mo1, .int .i64 me0, .int .i64 me1] 56)).alloc (.cells #[.int .i64 x00, .int .i64 x01, .int .i64 x10, .int .i64 x11] 60)).alloc (.cells #[.int .i64 0, .int .i64 0, .int .i64 0, .int .i64 0, .int .i64 0] 52)).cell? ⟨w.heap.size + 1, 1, none⟩ = some (.int .i64 x01) := cell_alloc _ (cell_new (by simp) rfl)
    have x2 : (((w.alloc (.cells #[.int .i64 mo0, .int .i64 mo1, .int .i64 me0, .int .i64 me1] 56)).alloc (.cells #[.int .i64 x00, .int .i64 x01, .int .i64 x10, .int .i64 x11] 60)).alloc (.cells #[.int .i64 0, .int .i64 0, .int .i64 0, .int .i64 0, .int .i64 0] 52)).cell? ⟨w.heap.size + 1, 2, none⟩ = some (.int .i64 x10) := cell_alloc _ (cell_new (by simp) rfl)
    have x3 : (((w.alloc (.cells #[.int .i64 mo0, .int .i64 mo1, .int .i64 me0, .int .i64 me1] 56)).alloc (.cells #[.int .i64 x00, .int .i64 x01, .int .i64 x10, .int .i64 x11] 60)).alloc (.cells #[.int .i64 0, .int .i64 0, .int .i64 0, .int .i64 0, .int .i64 0] 52)).cell? ⟨w.heap.size + 1, 3, none⟩ = some (.int .i64 x11) := cell_alloc _ (cell_new (by simp) rfl)
    have zx : w.heap.size + 1 < (((w.alloc (.cells #[.int .i64 mo0, .int .i64 mo1, .int .i64 me0, .int .i64 me1] 56)).alloc (.cells #[.int .i64 x00, .int .i64 x01, .int .i64 x10, .int .i64 x11] 60)).alloc (.cells #[.int .i64 0, .int .i64 0, .int .i64 0, .int .i64 0, .int .i64 0] 52)).heap.size := World.block_lt_of_cell? _ _ x0
    have r0 : (((w.alloc (.cells #[.int .i64 mo0, .int .i64 mo1, .int .i64 me0, .int .i64 me1] 56)).alloc (.cells #[.int .i64 x00, .int .i64 x01, .int .i64 x10, .int .i64 x11] 60)).alloc (.cells #[.int .i64 0, .int .i64 0, .int .i64 0, .int .i64 0, .int .i64 0] 52)).cell? ⟨w.heap.size + 1 + 1, 0, none⟩ = some (.int .i64 0) := cell_new (by simp) rfl
    have rf0 : (((w.alloc (.cells #[.int .i64 mo0, .int .i64 mo1, .int .i64 me0, .int .i64 me1] 56)).alloc (.cells #[.int .i64 x00, .int .i64 x01, .int .i64 x10, .int .i64 x11] 60)).alloc (.cells #[.int .i64 0, .int .i64 0, .int .i64 0, .int .i64 0, .int .i64 0] 52)).frozen? ⟨w.heap.size + 1 + 1, 0, none⟩ = false := frozen_new (by simp)
    have r1 : (((w.alloc (.cells #[.int .i64 mo0, .int .i64 mo1, .int .i64 me0, .int .i64 me1] 56)).alloc (.cells #[.int .i64 x00, .int .i64 x01, .int .i64 x10, .int .i64 x11] 60)).alloc (.cells #[.int .i64 0, .int .i64 0, .int .i64 0, .int .i64 0, .int .i64 0] 52)).cell? ⟨w.heap.size + 1 + 1, 1, none⟩ = some (.int .i64 0) := cell_new (by simp) rfl
    have rf1 : (((w.alloc (.cells #[.int .i64 mo0, .int .i64 mo1, .int .i64 me0, .int .i64 me1] 56)).alloc (.cells #[.int .i64 x00, .int .i64 x01, .int .i64 x10, .int .i64 x11] 60)).alloc (.cells #[.int .i64 0, .int .i64 0, .int .i64 0, .int .i64 0, .int .i64 0] 52)).frozen? ⟨w.heap.size + 1 + 1, 1, none⟩ = false := frozen_new (by simp)
    have r2 : (((w.alloc (.cells #[.int .i64 mo0, .int .i64 mo1, .int .i64 me0, .int .i64 me1] 56)).alloc (.cells #[.int .i64 x00, .int .i64 x01, .int .i64 x10, .int .i64 x11] 60)).alloc (.cells #[.int .i64 0, .int .i64 0, .int .i64 0, .int .i64 0, .int .i64 0] 52)).cell? ⟨w.heap.size + 1 + 1, 2, none⟩ = some (.int .i64 0) := cell_new (by simp) rfl
    have rf2 : (((w.alloc (.cells #[.int .i64 mo0, .int .i64 mo1, .int .i64 me0, .int .i64 me1] 56)).alloc (.cells #[.int .i64 x00, .int .i64 x01, .int .i64 x10, .int .i64 x11] 60)).alloc (.cells #[.int .i64 0, .int .i64 0, .int .i64 0, .int .i64 0, .int .i64 0] 52)).frozen? ⟨w.heap.size + 1 + 1, 2, none⟩ = false := frozen_new (by simp)
    have r3 : (((w.alloc (.cells #[.int .i64 mo0, .int .i64 mo1, .int .i64 me0, .int .i64 me1] 56)).alloc (.cells #[.int .i64 x00, .int .i64 x01, .int .i64 x10, .int .i64 x11] 60)).alloc (.cells #[.int .i64 0, .int .i64 0, .int .i64 0, .int .i64 0, .int .i64 0] 52)).cell? ⟨w.heap.size + 1 + 1, 3, none⟩ = some (.int .i64 0) := cell_new (by simp) rfl
    have rf3 : (((w.alloc (.cells #[.int .i64 mo0, .int .i64 mo1, .int .i64 me0, .int .i64 me1] 56)).alloc (.cells #[.int .i64 x00, .int .i64 x01, .int .i64 x10, .int .i64 x11] 60)).alloc (.cells #[.int .i64 0, .int .i64 0, .int .i64 0, .int .i64 0, .int .i64 0] 52)).frozen? ⟨w.heap.size + 1 + 1, 3, none⟩ = false := frozen_new (by simp)
    have r4 : (((w.alloc (.cells #[.int .i64 mo0, .int .i64 mo1, .int .i64 me0, .int .i64 me1] 56)).alloc (.cells #[.int .i64 x00, .int .i64 x01, .int .i64 x10, .int .i64 x11] 60)).alloc (.cells #[.int .i64 0, .int .i64 0, .int .i64 0, .int .i64 0, .int .i64 0] 52)).cell? ⟨w.heap.size + 1 + 1, 4, none⟩ = some (.int .i64 0) := cell_new (by simp) rfl
    have rf4 : (((w.alloc (.cells #[.int .i64 mo0, .int .i64 mo1, .int .i64 me0, .int .i64 me1] 56)).alloc (.cells #[.int .i64 x00, .int .i64 x01, .int .i64 x10, .int .i64 x11] 60)).alloc (.cells #[.int .i64 0, .int .i64 0, .int .i64 0, .int .i64 0, .int .i64 0] 52)).frozen? ⟨w.heap.size + 1 + 1, 4, none⟩ = false := frozen_new (by simp)
    have zr : w.heap.size + 1 + 1 < (((w.alloc (.cells #[.int .i64 mo0, .int .i64 mo1, .int .i64 me0, .int .i64 me1] 56)).alloc (.cells #[.int .i64 x00, .int .i64 x01, .int .i64 x10, .int .i64 x11] 60)).alloc (.cells #[.int .i64 0, .int .i64 0, .int .i64 0, .int .i64 0, .int .i64 0] 52)).heap.size := World.block_lt_of_cell? _ _ r0
    generalize (((w.alloc (.cells #[.int .i64 mo0, .int .i64 mo1, .int .i64 me0, .int .i64 me1] 56)).alloc (.cells #[.int .i64 x00, .int .i64 x01, .int .i64 x10, .int .i64 x11] 60)).alloc (.cells #[.int .i64 0, .int .i64 0, .int .i64 0, .int .i64 0, .int .i64 0] 52)) = w0 at *
    (refine region_extx 4 (by kernel_rfl) (by kernel_rfl) fun hx => ?_; simp only [List.take_succ_cons, List.take_zero, List.drop_succ_cons, List.drop_zero]; (repeat (any_goals (first | go_big_quiet_step ((first | ((go_at_call 42; with_reducible exact ext_call (H1.out _))) | ((go_at_call 43; with_reducible exact ext_call (H2.out _))))) | quiet_step ((first | ((go_at_call 42; with_reducible exact ext_call (H1.out _))) | ((go_at_call 43; with_reducible exact ext_call (H2.out _)))))))))
    (refine wpQuiet_nil ?_; clear hx; intro u; have hbw2 := ext_bel _ u; have hxw2 := ext_cell _ u; generalize ext _ u = w2 at *; clear u; have hsw2 := hbw2.size; (try simp at hsw2))
    have h1 : Below w.heap.size w w2 := (hb0).trans ((hbw2).mono (hb0).size)
    replace rf0 := frozen_below hbw2 (World.block_lt_of_cell? _ _ r0) rf0
    replace rf1 := frozen_below hbw2 (World.block_lt_of_cell? _ _ r1) rf1
    replace rf2 := frozen_below hbw2 (World.block_lt_of_cell? _ _ r2) rf2
    replace rf3 := frozen_below hbw2 (World.block_lt_of_cell? _ _ r3) rf3
    replace rf4 := frozen_below hbw2 (World.block_lt_of_cell? _ _ r4) rf4
    replace r0 := cell_below' hbw2 r0
    replace r1 := cell_below' hbw2 r1
    replace r2 := cell_below' hbw2 r2
    replace r3 := cell_below' hbw2 r3
    replace r4 := cell_below' hbw2 r4
    replace zr := Nat.lt_of_lt_of_le zr (hbw2).size
    clear hbw2 hb0
    clear hxw2 hsw2
    go_wp2_with (go_at_call 27; refine (first2 _ _ _ _ (by simp) (cell_new (by simp) rfl) (cell_new (by simp) rfl)).mono ?_; rintro e w' ⟨rfl, rfl⟩; rw [← HE.out])
    obtain ⟨q0, q1, q2, q3, q4⟩ := set5 (v0 := .int .i64 0) (v1 := .int .i64 0) (v2 := .int .i64 0) (v3 := .int .i64 0) (v4 := .int .i64 0) r0 r1 r2 r3 r4
    have hle : w.heap.size ≤ w.heap.size + 1 + 1 := by omega
    have hbf := below_set (.int .i64 0) (p := ⟨w.heap.size + 1 + 1, 4, none⟩) hle (below_set (.int .i64 0) (p := ⟨w.heap.size + 1 + 1, 3, none⟩) hle (below_set (.int .i64 0) (p := ⟨w.heap.size + 1 + 1, 2, none⟩) hle (below_set (.int .i64 0) (p := ⟨w.heap.size + 1 + 1, 1, none⟩) hle (below_set (.int .i64 0) (p := ⟨w.heap.size + 1 + 1, 0, none⟩) hle h1))))
    replace q0 := cell_alloc (.cells #[.int .i64 e1, .int .i64 e2] 34) q0
    replace q1 := cell_alloc (.cells #[.int .i64 e1, .int .i64 e2] 34) q1
    replace q2 := cell_alloc (.cells #[.int .i64 e1, .int .i64 e2] 34) q2
    replace q3 := cell_alloc (.cells #[.int .i64 e1, .int .i64 e2] 34) q3
    replace q4 := cell_alloc (.cells #[.int .i64 e1, .int .i64 e2] 34) q4
    refine bodyPost_ret (v := .tuple #[.agg #[.int .i64 0, .int .i64 0, .int .i64 0, .int .i64 0, .int .i64 0], .int .i64 E]) (by simp [results, Tryd.results18, go_sem, q0, q1, q2, q3, q4]) rfl ?_
    rw [HQ.out]
    exact ⟨rfl, below_alloc _ (Nat.le_refl _) hbf⟩
end Go.Proofs.YtlnbbioponmcfaaDoor
