/-
  Chapter 2: TagOf, HeightsOf, the reference heights.
-/
import Derived.Test.YtppghnbabnhnbaaDoorETag
namespace Go.Proofs.YtppghnbabnhnbaaDoor
open Go.ChangeShapes Go.WideShapes Go.ChangeAt Go.RowKit
set_option linter.unusedVariables false
set_option linter.unusedSimpArgs false

def tagE (r : Ru) (x0 x1 : Gs) : Int := firstE [ruE r, pairE x0 x1]
def tagQ (r : Ru) (x0 x1 : Gs) : Int × Int := if tagE r x0 x1 = 0 then (tagP r x0 x1, 0) else (0, tagE r x0 x1)
theorem tagE_zero {r : Ru} {x0 x1 : Gs} (h : tagE r x0 x1 = 0) : ruE r = 0 ∧ pairE x0 x1 = 0 := by
  unfold tagE at h
  by_cases h1 : ruE r = 0
  · rw [h1, firstE_z, firstE1] at h; exact ⟨h1, h⟩
  · rw [firstE_nz h1] at h; exact absurd h h1
set_option maxRecDepth 100000 in
set_option maxHeartbeats 8000000 in
theorem TagOf_any (r : Ru) (x0 x1 : Gs) (w : World) :
    Calls Tryd.prog 34 #[ruv r, gv2 x0 x1] w fun e w' => e = .returned (.tuple #[.int .i64 (tagQ r x0 x1).1, .int .i64 (tagQ r x0 x1).2]) ∧ Below w.heap.size w w' := by
  have hq : tagQ r x0 x1 = if tagE r x0 x1 = 0 then (tagP r x0 x1, 0) else (0, tagE r x0 x1) := rfl
  have hE : tagE r x0 x1 = firstE [ruE r, pairE x0 x1] := rfl
  have H1 := Lib.hid (fun W => CheckRules_any r W)
  have H2 := Lib.hid (fun W => bothErr_any x0 x1 W)
  by_cases h0 : tagE r x0 x1 = 0
  · rw [if_pos h0] at hq
    obtain ⟨hr, hp⟩ := tagE_zero h0
    rw [h0] at hE
    have HG := Lib.hid (fun W => tag_any r x0 x1 W (ruE_zero hr) (pairE_zero hp).1 (pairE_zero hp).2)
    have HQ := Lib.hid hq
    have HE := Lib.hid hE
    clear hq hE h0 hr hp
    generalize ruE r = e1 at *
    generalize pairE x0 x1 = e2 at *
    generalize tagP r x0 x1 = tg at *
    obtain ⟨⟨mo0, mo1⟩, ⟨me0, me1⟩, ra, no, po, ce, st, du⟩ := r
    obtain ⟨x00, x01⟩ := x0
    obtain ⟨x10, x11⟩ := x1
    simp only [gv2, ruv] at *
    go_enter Tryd.func34, Tryd.ntmps34
    go_upto_region 1 with (fail)
    have hb0 : Below w.heap.size w ((w.alloc (.cells #[.int .i64 mo0, .int .i64 mo1, .int .i64 me0, .int .i64 me1, .int .i64 ra, .int .i64 no, .int .i64 po, .int .i64 ce, .int .i64 st, .int .i64 du] 56)).alloc (.cells #[.int .i64 x00, .int .i64 x01, .int .i64 x10, .int .i64 x11] 57)) := below_alloc _ (Nat.le_refl _) (below_alloc _ (Nat.le_refl _) (Below.refl _ _))
    have r0 : ((w.alloc (.cells #[.int .i64 mo0, .int .i64 mo1, .int .i64 me0, .int .i64 me1, .int .i64 ra, .int .i64 no, .int .i64 po, .int .i64 ce, .int .i64 st, .int .i64 du] 56)).alloc (.cells #[.int .i64 x00, .int .i64 x01, .int .i64 x10, .int .i64 x11] 57)).cell? ⟨w.heap.size, 0, none⟩ = some (.int .i64 mo0) := cell_alloc _ (cell_new (by simp) rfl)
    have r1 : ((w.alloc (.cells #[.int .i64 mo0, .int .i64 mo1, .int .i64 me0, .int .i64 me1, .int .i64 ra, .int .i64 no, .int .i64 po, .int .i64 ce, .int .i64 st, .int .i64 du] 56)).alloc (.cells #[.int .i64 x00, .int .i64 x01, .int .i64 x10, .int .i64 x11] 57)).cell? ⟨w.heap.size, 1, none⟩ = some (.int .i64 mo1) := cell_alloc _ (cell_new (by simp) rfl)
    have r2 : ((w.alloc (.cells #[.int .i64 mo0, .int .i64 mo1, .int .i64 me0, .int .i64 me1, .int .i64 ra, .int .i64 no, .int .i64 po, .int .i64 ce, .int .i64 st, .int .i64 du] 56)).alloc (.cells #[.int .i64 x00, .int .i64 x01, .int .i64 x10, .int .i64 x11] 57)).cell? ⟨w.heap.size, 2, none⟩ = some (.int .i64 me0) := cell_alloc _ (cell_new (by simp) rfl)
    have r3 : ((w.alloc (.cells #[.int .i64 mo0, .int .i64 mo1, .int .i64 me0, .int .i64 me1, .int .i64 ra, .int .i64 no, .int .i64 po, .int .i64 ce, .int .i64 st, .int .i64 du] 56)).alloc (.cells #[.int .i64 x00, .int .i64 x01, .int .i64 x10, .int .i64 x11] 57)).cell? ⟨w.heap.size, 3, none⟩ = some (.int .i64 me1) := cell_alloc _ (cell_new (by simp) rfl)
    have r4 : ((w.alloc (.cells #[.int .i64 mo0, .int .i64 mo1, .int .i64 me0, .int .i64 me1, .int .i64 ra, .int .i64 no, .int .i64 po, .int .i64 ce, .int .i64 st, .int .i64 du] 56)).alloc (.cells #[.int .i64 x00, .int .i64 x01, .int .i64 x10, .int .i64 x11] 57)).cell? ⟨w.heap.size, 4, none⟩ = some (.int .i64 ra) := cell_alloc _ (cell_new (by simp) rfl)
    have r5 : ((w.alloc (.cells #[.int .i64 mo0, .int .i64 mo1, .int .i64 me0, .int .i64 me1, .int .i64 ra, .int .i64 no, .int .i64 po, .int .i64 ce, .int .i64 st, .int .i64 du] 56)).alloc (.cells #[.int .i64 x00, .int .i64 x01, .int .i64 x10, .int .i64 x11] 57)).cell? ⟨w.heap.size, 5, none⟩ = some (.int .i64 no) := cell_alloc _ (cell_new (by simp) rfl)
    have r6 : ((w.alloc (.cells #[.int .i64 mo0, .int .i64 mo1, .int .i64 me0, .int .i64 me1, .int .i64 ra, .int .i64 no, .int .i64 po, .int .i64 ce, .int .i64 st, .int .i64 du] 56)).alloc (.cells #[.int .i64 x00, .int .i64 x01, .int .i64 x10, .int .i64 x11] 57)).cell? ⟨w.heap.size, 6, none⟩ = some (.int .i64 po) := cell_alloc _ (cell_new (by simp) rfl)
    have r7 : ((w.alloc (.cells #[.int .i64 mo0, .int .i64 mo1, .int .i64 me0, .int .i64 me1, .int .i64 ra, .int .i64 no, .int .i64 po, .int .i64 ce, .int .i64 st, .int .i64 du] 56)).alloc (.cells #[.int .i64 x00, .int .i64 x01, .int .i64 x10, .int .i64 x11] 57)).cell? ⟨w.heap.size, 7, none⟩ = some (.int .i64 ce) := cell_alloc _ (cell_new (by simp) rfl)
    have r8 : ((w.alloc (.cells #[.int .i64 mo0, .int .i64 mo1, .int .i64 me0, .int .i64 me1, .int .i64 ra, .int .i64 no, .int .i64 po, .int .i64 ce, .int .i64 st, .int .i64 du] 56)).alloc (.cells #[.int .i64 x00, .int .i64 x01, .int .i64 x10, .int .i64 x11] 57)).cell? ⟨w.heap.size, 8, none⟩ = some (.int .i64 st) := cell_alloc _ (cell_new (by simp) rfl)
    have r9 : ((w.alloc (.cells #[.int .i64 mo0, .int .i64 mo1, .int .i64 me0, .int .i64 me1, .int .i64 ra, .int .i64 no, .int .i64 po, .int .i64 ce, .int .i64 st, .int .i64 du] 56)).alloc (.cells #[.int .i64 x00, .int .i64 x01, .int .i64 x10, .int .i64 x11] 57)).cell? ⟨w.heap.size, 9, none⟩ = some (.int .i64 du) := cell_alloc _ (cell_new (by simp) rfl)
    have zr : w.heap.size < ((w.alloc (.cells #[.int .i64 mo0, .int .i64 mo1, .int .i64 me0, .int .i64 me1, .int .i64 ra, .int .i64 no, .int .i64 po, .int .i64 ce, .int .i64 st, .int .i64 du] 56)).alloc (.cells #[.int .i64 x00, .int .i64 x01, .int .i64 x10, .int .i64 x11] 57)).heap.size := World.block_lt_of_cell? _ _ r0
    have x0 : ((w.alloc (.cells #[.int .i64 mo0, .int .i64 mo1, .int .i64 me0, .int .i64 me1, .int .i64 ra, .int .i64 no, .int .i64 po, .int .i64 ce, .int .i64 st, .int .i64 du] 56)).alloc (.cells #[.int .i64 x00, .int .i64 x01, .int .i64 x10, .int .i64 x11] 57)).cell? ⟨w.heap.size + 1, 0, none⟩ = some (.int .i64 x00) := cell_new (by simp) rfl
    have x1 : ((w.alloc (.cells #[.int .i64 mo0, .int .i64 mo1, .int .i64 me0, .int .i64 me1, .int .i64 ra, .int .i64 no, .int .i64 po, .int .i64 ce, .int .i64 st, .int .i64 du] 56)).alloc (.cells #[.int .i64 x00, .int .i64 x01, .int .i64 x10, .int .i64 x11] 57)).cell? ⟨w.heap.size + 1, 1, none⟩ = some (.int .i64 x01) := cell_new (by simp) rfl
    have x2 : ((w.alloc (.cells #[.int .i64 mo0, .int .i64 mo1, .int .i64 me0, .int .i64 me1, .int .i64 ra, .int .i64 no, .int .i64 po, .int .i64 ce, .int .i64 st, .int .i64 du] 56)).alloc (.cells #[.int .i64 x00, .int .i64 x01, .int .i64 x10, .int .i64 x11] 57)).cell? ⟨w.heap.size + 1, 2, none⟩ = some (.int .i64 x10) := cell_new (by simp) rfl
    have x3 : ((w.alloc (.cells #[.int .i64 mo0, .int .i64 mo1, .int .i64 me0, .int .i64 me1, .int .i64 ra, .int .i64 no, .int .i64 po, .int .i64 ce, .int .i64 st, .int .i64 du] 56)).alloc (.cells #[.int .i64 x00, .int .i64 x01, .int .i64 x10, .int .i64 x11] 57)).cell? ⟨w.heap.size + 1, 3, none⟩ = some (.int .i64 x11) := cell_new (by simp) rfl
    have zx : w.heap.size + 1 < ((w.alloc (.cells #[.int .i64 mo0, .int .i64 mo1, .int .i64 me0, .int .i64 me1, .int .i64 ra, .int .i64 no, .int .i64 po, .int .i64 ce, .int .i64 st, .int .i64 du] 56)).alloc (.cells #[.int .i64 x00, .int .i64 x01, .int .i64 x10, .int .i64 x11] 57)).heap.size := World.block_lt_of_cell? _ _ x0
    generalize ((w.alloc (.cells #[.int .i64 mo0, .int .i64 mo1, .int .i64 me0, .int .i64 me1, .int .i64 ra, .int .i64 no, .int .i64 po, .int .i64 ce, .int .i64 st, .int .i64 du] 56)).alloc (.cells #[.int .i64 x00, .int .i64 x01, .int .i64 x10, .int .i64 x11] 57)) = w0 at *
    (refine region_extx 4 (by kernel_rfl) (by kernel_rfl) fun hx => ?_; simp only [List.take_succ_cons, List.take_zero, List.drop_succ_cons, List.drop_zero]; (repeat (any_goals (first | go_big_quiet_step ((first | ((go_at_call 37; with_reducible exact ext_call (H1.out _))) | ((go_at_call 103; with_reducible exact ext_call (H2.out _))))) | quiet_step ((first | ((go_at_call 37; with_reducible exact ext_call (H1.out _))) | ((go_at_call 103; with_reducible exact ext_call (H2.out _)))))))))
    (refine wpQuiet_nil ?_; clear hx; intro u; have hbw2 := ext_bel _ u; have hxw2 := ext_cell _ u; generalize ext _ u = w2 at *; clear u; have hsw2 := hbw2.size; (try simp at hsw2))
    have h1 : Below w.heap.size w w2 := (hb0).trans ((hbw2).mono (hb0).size)
    replace r0 := cell_below' hbw2 r0
    replace r1 := cell_below' hbw2 r1
    replace r2 := cell_below' hbw2 r2
    replace r3 := cell_below' hbw2 r3
    replace r4 := cell_below' hbw2 r4
    replace r5 := cell_below' hbw2 r5
    replace r6 := cell_below' hbw2 r6
    replace r7 := cell_below' hbw2 r7
    replace r8 := cell_below' hbw2 r8
    replace r9 := cell_below' hbw2 r9
    replace zr := Nat.lt_of_lt_of_le zr (hbw2).size
    replace x0 := cell_below' hbw2 x0
    replace x1 := cell_below' hbw2 x1
    replace x2 := cell_below' hbw2 x2
    replace x3 := cell_below' hbw2 x3
    replace zx := Nat.lt_of_lt_of_le zx (hbw2).size
    clear hbw2 hb0
    clear hxw2 hsw2
    go_wp2_with (go_at_call 87; refine (first2 _ _ _ _ (by simp) (cell_new (by simp) rfl) (cell_new (by simp) rfl)).mono ?_; rintro e w' ⟨rfl, rfl⟩; rw [← HE.out])
    refine (HG.out _).mono ?_
    rintro e w4 ⟨rfl, hb4⟩
    have h4 : Below w.heap.size w w4 := (below_alloc _ (Nat.le_refl _) h1).trans (hb4.mono (by have := h1.size; simp; omega))
    go_wp2_with (fail)
    go_ret2
    rw [HQ.out]
    exact ⟨rfl, h4⟩
  · rw [if_neg h0] at hq
    have HQ := Lib.hid hq
    have HE := Lib.hid hE
    have e9 : (tagE r x0 x1 != 0) = true := by simpa using h0
    clear hq hE h0
    generalize tagE r x0 x1 = E at *
    generalize ruE r = e1 at *
    generalize pairE x0 x1 = e2 at *
    obtain ⟨⟨mo0, mo1⟩, ⟨me0, me1⟩, ra, no, po, ce, st, du⟩ := r
    obtain ⟨x00, x01⟩ := x0
    obtain ⟨x10, x11⟩ := x1
    simp only [gv2, ruv] at *
    go_enter Tryd.func34, Tryd.ntmps34
    go_wp2_with (fail)
    (refine region_extx 4 (by kernel_rfl) (by kernel_rfl) fun hx => ?_; simp only [List.take_succ_cons, List.take_zero, List.drop_succ_cons, List.drop_zero]; (repeat (any_goals (first | go_big_quiet_step ((first | ((go_at_call 37; with_reducible exact ext_call (H1.out _))) | ((go_at_call 103; with_reducible exact ext_call (H2.out _))))) | quiet_step ((first | ((go_at_call 37; with_reducible exact ext_call (H1.out _))) | ((go_at_call 103; with_reducible exact ext_call (H2.out _)))))))))
    (refine wpQuiet_nil ?_; clear hx; intro u; have hbw2 := ext_bel _ u; have hxw2 := ext_cell _ u; generalize ext _ u = w2 at *; clear u; have hsw2 := hbw2.size; (try simp at hsw2))
    have h2 : Below w.heap.size w w2 := (by repeat (first | assumption | exact Below.refl _ _ | refine Below.drew ?_ | (refine below_alloc _ ?_ ?_; focus (first | omega | (simp; done) | (simp; omega) | (simp at *; omega))) | (refine below_set _ ?_ ?_; focus (first | omega | (simp; done) | (simp; omega) | (simp at *; omega))) | refine below_drewN ?_ _ | (refine below_call (by assumption) ?_ ?_; focus (first | omega | (simp; done) | (simp; omega) | (simp at *; omega))) | (refine below_call' (by assumption) ?_ ?_; focus (first | omega | (simp; done) | (simp; omega) | (simp at *; omega)))))
    clear hxw2 hsw2
    go_wp2_with (go_at_call 87; refine (first2 _ _ _ _ (by simp) (cell_new (by simp) rfl) (cell_new (by simp) rfl)).mono ?_; rintro e w' ⟨rfl, rfl⟩; rw [← HE.out])
    go_ret2
    rw [HQ.out]
    exact ⟨rfl, below_alloc _ (Nat.le_refl _) h2⟩
set_option maxHeartbeats 4000000 in
theorem RHeights_any (r : Ru) (lag : Int) (w : World) (hr : OkRu r) (l0 : 0 ≤ lag) (l1 : lag ≤ 1000000) :
    Calls Tryd.prog 38 #[ruv r, .int .i64 lag] w fun e w' => e = .returned (gv (hgtP r lag)) ∧ Below w.heap.size w w' := by
  obtain ⟨-, -, -, -, -, -, -, ce0, ce1, st0, st1, du0, du1⟩ := hr
  have q1 := mul_bd (a := r.ce) (b := lag) (M := 1000) (N := 1000000) (by omega) (by omega) (by omega) (by omega)
  obtain ⟨⟨mo0, mo1⟩, ⟨me0, me1⟩, ra, no, po, ce, st, du⟩ := r
  simp only [ruv, gv, hgtP] at *
  go_enter Tryd.func38, Tryd.ntmps38
  go_wp2_with (fail)
  refine bodyPost_ret (v := .agg #[.int .i64 (st + ce * lag - du), .int .i64 (st + ce * lag + du)]) (by simp [results, Tryd.results38, go_sem]) rfl ?_
  exact ⟨rfl, (by repeat (first | assumption | exact Below.refl _ _ | refine Below.drew ?_ | (refine below_alloc _ ?_ ?_; focus (first | omega | (simp; done) | (simp; omega) | (simp at *; omega))) | (refine below_set _ ?_ ?_; focus (first | omega | (simp; done) | (simp; omega) | (simp at *; omega))) | refine below_drewN ?_ _ | (refine below_call (by assumption) ?_ ?_; focus (first | omega | (simp; done) | (simp; omega) | (simp at *; omega))) | (refine below_call' (by assumption) ?_ ?_; focus (first | omega | (simp; done) | (simp; omega) | (simp at *; omega)))))⟩
def hgtE (r : Ru) (lag : Int) : Int := firstE [ruE r, unl (withinB lag 0 1000000) 2]
def hgtQ (r : Ru) (lag : Int) : Gs × Int := if hgtE r lag = 0 then (hgtP r lag, 0) else (gz, hgtE r lag)
theorem hgtE_zero {r : Ru} {lag : Int} (h : hgtE r lag = 0) : ruE r = 0 ∧ withinB lag 0 1000000 = true := by
  unfold hgtE at h
  by_cases h1 : ruE r = 0
  · rw [h1, firstE_z, firstE1] at h
    cases hb : withinB lag 0 1000000
    · rw [hb] at h; cases h
    · exact ⟨h1, rfl⟩
  · rw [firstE_nz h1] at h; exact absurd h h1
set_option maxRecDepth 100000 in
set_option maxHeartbeats 8000000 in
theorem HeightsOf_any (r : Ru) (lag : Int) (w : World) :
    Calls Tryd.prog 35 #[ruv r, .int .i64 lag] w fun e w' => e = .returned (.tuple #[gv (hgtQ r lag).1, .int .i64 (hgtQ r lag).2]) ∧ Below w.heap.size w w' := by
  have hq : hgtQ r lag = if hgtE r lag = 0 then (hgtP r lag, 0) else (gz, hgtE r lag) := rfl
  have hE : hgtE r lag = firstE [ruE r, unl (withinB lag 0 1000000) 2] := rfl
  have H1 := Lib.hid (fun W => CheckRules_any r W)
  have H2 := Lib.hid (fun W => within_any lag 0 1000000 W)
  by_cases h0 : hgtE r lag = 0
  · rw [if_pos h0] at hq
    obtain ⟨hr, hp⟩ := hgtE_zero h0
    obtain ⟨l0, l1⟩ := withinB_true.1 hp
    rw [h0] at hE
    have HG := Lib.hid (fun W => heights_any r lag W (ruE_zero hr) l0 l1)
    have HQ := Lib.hid hq
    have HE := Lib.hid hE
    clear hq hE h0 hr hp
    generalize ruE r = e1 at *
    generalize withinB lag 0 1000000 = b2 at *
    generalize hgtP r lag = tg at *
    obtain ⟨⟨mo0, mo1⟩, ⟨me0, me1⟩, ra, no, po, ce, st, du⟩ := r
    obtain ⟨t0, t1⟩ := tg
    simp only [gv, ruv] at *
    go_enter Tryd.func35, Tryd.ntmps35
    go_upto_region 1 with (fail)
    have hb0 : Below w.heap.size w ((w.alloc (.cells #[.int .i64 mo0, .int .i64 mo1, .int .i64 me0, .int .i64 me1, .int .i64 ra, .int .i64 no, .int .i64 po, .int .i64 ce, .int .i64 st, .int .i64 du] 56)).alloc (.cells #[.int .i64 0, .int .i64 0] 60)) := below_alloc _ (Nat.le_refl _) (below_alloc _ (Nat.le_refl _) (Below.refl _ _))
    have r0 : ((w.alloc (.cells #[.int .i64 mo0, .int .i64 mo1, .int .i64 me0, .int .i64 me1, .int .i64 ra, .int .i64 no, .int .i64 po, .int .i64 ce, .int .i64 st, .int .i64 du] 56)).alloc (.cells #[.int .i64 0, .int .i64 0] 60)).cell? ⟨w.heap.size, 0, none⟩ = some (.int .i64 mo0) := cell_alloc _ (cell_new (by simp) rfl)
    have r1 : ((w.alloc (.cells #[.int .i64 mo0, .int .i64 mo1, .int .i64 me0, .int .i64 me1, .int .i64 ra, .int .i64 no, .int .i64 po, .int .i64 ce, .int .i64 st, .int .i64 du] 56)).alloc (.cells #[.int .i64 0, .int .i64 0] 60)).cell? ⟨w.heap.size, 1, none⟩ = some (.int .i64 mo1) := cell_alloc _ (cell_new (by simp) rfl)
    have r2 : ((w.alloc (.cells #[.int .i64 mo0, .int .i64 mo1, .int .i64 me0, .int .i64 me1, .int .i64 ra, .int .i64 no, .int .i64 po, .int .i64 ce, .int .i64 st, .int .i64 du] 56)).alloc (.cells #[.int .i64 0, .int .i64 0] 60)).cell? ⟨w.heap.size, 2, none⟩ = some (.int .i64 me0) := cell_alloc _ (cell_new (by simp) rfl)
    have r3 : ((w.alloc (.cells #[.int .i64 mo0, .int .i64 mo1, .int .i64 me0, .int .i64 me1, .int .i64 ra, .int .i64 no, .int .i64 po, .int .i64 ce, .int .i64 st, .int .i64 du] 56)).alloc (.cells #[.int .i64 0, .int .i64 0] 60)).cell? ⟨w.heap.size, 3, none⟩ = some (.int .i64 me1) := cell_alloc _ (cell_new (by simp) rfl)
    have r4 : ((w.alloc (.cells #[.int .i64 mo0, .int .i64 mo1, .int .i64 me0, .int .i64 me1, .int .i64 ra, .int .i64 no, .int .i64 po, .int .i64 ce, .int .i64 st, .int .i64 du] 56)).alloc (.cells #[.int .i64 0, .int .i64 0] 60)).cell? ⟨w.heap.size, 4, none⟩ = some (.int .i64 ra) := cell_alloc _ (cell_new (by simp) rfl)
    have r5 : ((w.alloc (.cells #[.int .i64 mo0, .int .i64 mo1, .int .i64 me0, .int .i64 me1, .int .i64 ra, .int .i64 no, .int .i64 po, .int .i64 ce, .int .i64 st, .int .i64 du] 56)).alloc (.cells #[.int .i64 0, .int .i64 0] 60)).cell? ⟨w.heap.size, 5, none⟩ = some (.int .i64 no) := cell_alloc _ (cell_new (by simp) rfl)
    have r6 : ((w.alloc (.cells #[.int .i64 mo0, .int .i64 mo1, .int .i64 me0, .int .i64 me1, .int .i64 ra, .int .i64 no, .int .i64 po, .int .i64 ce, .int .i64 st, .int .i64 du] 56)).alloc (.cells #[.int .i64 0, .int .i64 0] 60)).cell? ⟨w.heap.size, 6, none⟩ = some (.int .i64 po) := cell_alloc _ (cell_new (by simp) rfl)
    have r7 : ((w.alloc (.cells #[.int .i64 mo0, .int .i64 mo1, .int .i64 me0, .int .i64 me1, .int .i64 ra, .int .i64 no, .int .i64 po, .int .i64 ce, .int .i64 st, .int .i64 du] 56)).alloc (.cells #[.int .i64 0, .int .i64 0] 60)).cell? ⟨w.heap.size, 7, none⟩ = some (.int .i64 ce) := cell_alloc _ (cell_new (by simp) rfl)
    have r8 : ((w.alloc (.cells #[.int .i64 mo0, .int .i64 mo1, .int .i64 me0, .int .i64 me1, .int .i64 ra, .int .i64 no, .int .i64 po, .int .i64 ce, .int .i64 st, .int .i64 du] 56)).alloc (.cells #[.int .i64 0, .int .i64 0] 60)).cell? ⟨w.heap.size, 8, none⟩ = some (.int .i64 st) := cell_alloc _ (cell_new (by simp) rfl)
    have r9 : ((w.alloc (.cells #[.int .i64 mo0, .int .i64 mo1, .int .i64 me0, .int .i64 me1, .int .i64 ra, .int .i64 no, .int .i64 po, .int .i64 ce, .int .i64 st, .int .i64 du] 56)).alloc (.cells #[.int .i64 0, .int .i64 0] 60)).cell? ⟨w.heap.size, 9, none⟩ = some (.int .i64 du) := cell_alloc _ (cell_new (by simp) rfl)
    have zr : w.heap.size < ((w.alloc (.cells #[.int .i64 mo0, .int .i64 mo1, .int .i64 me0, .int .i64 me1, .int .i64 ra, .int .i64 no, .int .i64 po, .int .i64 ce, .int .i64 st, .int .i64 du] 56)).alloc (.cells #[.int .i64 0, .int .i64 0] 60)).heap.size := World.block_lt_of_cell? _ _ r0
    have y0 : ((w.alloc (.cells #[.int .i64 mo0, .int .i64 mo1, .int .i64 me0, .int .i64 me1, .int .i64 ra, .int .i64 no, .int .i64 po, .int .i64 ce, .int .i64 st, .int .i64 du] 56)).alloc (.cells #[.int .i64 0, .int .i64 0] 60)).cell? ⟨w.heap.size + 1, 0, none⟩ = some (.int .i64 0) := cell_new (by simp) rfl
    have yf0 : ((w.alloc (.cells #[.int .i64 mo0, .int .i64 mo1, .int .i64 me0, .int .i64 me1, .int .i64 ra, .int .i64 no, .int .i64 po, .int .i64 ce, .int .i64 st, .int .i64 du] 56)).alloc (.cells #[.int .i64 0, .int .i64 0] 60)).frozen? ⟨w.heap.size + 1, 0, none⟩ = false := frozen_new (by simp)
    have y1 : ((w.alloc (.cells #[.int .i64 mo0, .int .i64 mo1, .int .i64 me0, .int .i64 me1, .int .i64 ra, .int .i64 no, .int .i64 po, .int .i64 ce, .int .i64 st, .int .i64 du] 56)).alloc (.cells #[.int .i64 0, .int .i64 0] 60)).cell? ⟨w.heap.size + 1, 1, none⟩ = some (.int .i64 0) := cell_new (by simp) rfl
    have yf1 : ((w.alloc (.cells #[.int .i64 mo0, .int .i64 mo1, .int .i64 me0, .int .i64 me1, .int .i64 ra, .int .i64 no, .int .i64 po, .int .i64 ce, .int .i64 st, .int .i64 du] 56)).alloc (.cells #[.int .i64 0, .int .i64 0] 60)).frozen? ⟨w.heap.size + 1, 1, none⟩ = false := frozen_new (by simp)
    have zy : w.heap.size + 1 < ((w.alloc (.cells #[.int .i64 mo0, .int .i64 mo1, .int .i64 me0, .int .i64 me1, .int .i64 ra, .int .i64 no, .int .i64 po, .int .i64 ce, .int .i64 st, .int .i64 du] 56)).alloc (.cells #[.int .i64 0, .int .i64 0] 60)).heap.size := World.block_lt_of_cell? _ _ y0
    generalize ((w.alloc (.cells #[.int .i64 mo0, .int .i64 mo1, .int .i64 me0, .int .i64 me1, .int .i64 ra, .int .i64 no, .int .i64 po, .int .i64 ce, .int .i64 st, .int .i64 du] 56)).alloc (.cells #[.int .i64 0, .int .i64 0] 60)) = w0 at *
    go_wp2_with (fail)
    refine (H1.out _).mono ?_
    rintro e w2 ⟨rfl, hbw2⟩
    have h1 : Below w.heap.size w w2 := (hb0).trans ((hbw2).mono (hb0).size)
    replace r0 := cell_below' hbw2 r0
    replace r1 := cell_below' hbw2 r1
    replace r2 := cell_below' hbw2 r2
    replace r3 := cell_below' hbw2 r3
    replace r4 := cell_below' hbw2 r4
    replace r5 := cell_below' hbw2 r5
    replace r6 := cell_below' hbw2 r6
    replace r7 := cell_below' hbw2 r7
    replace r8 := cell_below' hbw2 r8
    replace r9 := cell_below' hbw2 r9
    replace zr := Nat.lt_of_lt_of_le zr (hbw2).size
    replace yf0 := frozen_below hbw2 (World.block_lt_of_cell? _ _ y0) yf0
    replace yf1 := frozen_below hbw2 (World.block_lt_of_cell? _ _ y1) yf1
    replace y0 := cell_below' hbw2 y0
    replace y1 := cell_below' hbw2 y1
    replace zy := Nat.lt_of_lt_of_le zy (hbw2).size
    clear hbw2 hb0
    go_wp2_with (first | (go_at_call 100; with_reducible refine (H2.out _).mono ?_; rintro e w' ⟨rfl, rfl⟩) | (go_at_call 89; refine (unless_any _ _ _).mono ?_; rintro e w' ⟨rfl, rfl⟩) | (go_at_call 87; refine (first2 _ _ _ _ (by simp) (cell_new (by simp) rfl) (cell_new (by simp) rfl)).mono ?_; rintro e w' ⟨rfl, rfl⟩; rw [← HE.out]))
    have hbv : Below w2.heap.size w2 (w2.alloc (.cells #[.int .i64 e1, .int .i64 (unl b2 2)] 30)) := (by repeat (first | assumption | exact Below.refl _ _ | refine Below.drew ?_ | (refine below_alloc _ ?_ ?_; focus (first | omega | (simp; done) | (simp; omega) | (simp at *; omega))) | (refine below_set _ ?_ ?_; focus (first | omega | (simp; done) | (simp; omega) | (simp at *; omega))) | refine below_drewN ?_ _ | (refine below_call (by assumption) ?_ ?_; focus (first | omega | (simp; done) | (simp; omega) | (simp at *; omega))) | (refine below_call' (by assumption) ?_ ?_; focus (first | omega | (simp; done) | (simp; omega) | (simp at *; omega)))))
    generalize (w2.alloc (.cells #[.int .i64 e1, .int .i64 (unl b2 2)] 30)) = w3 at *
    have h2 : Below w.heap.size w w3 := (h1).trans ((hbv).mono (h1).size)
    replace yf0 := frozen_below hbv (World.block_lt_of_cell? _ _ y0) yf0
    replace yf1 := frozen_below hbv (World.block_lt_of_cell? _ _ y1) yf1
    replace y0 := cell_below' hbv y0
    replace y1 := cell_below' hbv y1
    replace zy := Nat.lt_of_lt_of_le zy (hbv).size
    clear hbv h1
    refine (HG.out _).mono ?_
    rintro e w4 ⟨rfl, hb4⟩
    have h3 : Below w.heap.size w w4 := (h2).trans ((hb4).mono (h2).size)
    replace yf0 := frozen_below hb4 (World.block_lt_of_cell? _ _ y0) yf0
    replace yf1 := frozen_below hb4 (World.block_lt_of_cell? _ _ y1) yf1
    replace y0 := cell_below' hb4 y0
    replace y1 := cell_below' hb4 y1
    replace zy := Nat.lt_of_lt_of_le zy (hb4).size
    clear hb4 h2
    go_wp2_with (fail)
    obtain ⟨q0, q1⟩ := set2 (v0 := .int .i64 t0) (v1 := .int .i64 t1) y0 y1
    refine bodyPost_ret (v := .tuple #[.agg #[.int .i64 t0, .int .i64 t1], .int .i64 0]) (by simp [results, Tryd.results35, go_sem, q0, q1]) rfl ?_
    rw [HQ.out]
    have hle : w.heap.size ≤ w.heap.size + 1 := by omega
    exact ⟨rfl, below_set _ hle (below_set _ hle h3)⟩
  · rw [if_neg h0] at hq
    have HQ := Lib.hid hq
    have HE := Lib.hid hE
    have e9 : (hgtE r lag != 0) = true := by simpa using h0
    clear hq hE h0
    generalize hgtE r lag = E at *
    generalize ruE r = e1 at *
    generalize withinB lag 0 1000000 = b2 at *
    obtain ⟨⟨mo0, mo1⟩, ⟨me0, me1⟩, ra, no, po, ce, st, du⟩ := r
    simp only [gv, ruv] at *
    go_enter Tryd.func35, Tryd.ntmps35
    go_upto_region 1 with (fail)
    have hb0 : Below w.heap.size w ((w.alloc (.cells #[.int .i64 mo0, .int .i64 mo1, .int .i64 me0, .int .i64 me1, .int .i64 ra, .int .i64 no, .int .i64 po, .int .i64 ce, .int .i64 st, .int .i64 du] 56)).alloc (.cells #[.int .i64 0, .int .i64 0] 60)) := below_alloc _ (Nat.le_refl _) (below_alloc _ (Nat.le_refl _) (Below.refl _ _))
    have r0 : ((w.alloc (.cells #[.int .i64 mo0, .int .i64 mo1, .int .i64 me0, .int .i64 me1, .int .i64 ra, .int .i64 no, .int .i64 po, .int .i64 ce, .int .i64 st, .int .i64 du] 56)).alloc (.cells #[.int .i64 0, .int .i64 0] 60)).cell? ⟨w.heap.size, 0, none⟩ = some (.int .i64 mo0) := cell_alloc _ (cell_new (by simp) rfl)
    have r1 : ((w.alloc (.cells #[.int .i64 mo0, .int .i64 mo1, .int .i64 me0, .int .i64 me1, .int .i64 ra, .int .i64 no, .int .i64 po, .int .i64 ce, .int .i64 st, .int .i64 du] 56)).alloc (.cells #[.int .i64 0, .int .i64 0] 60)).cell? ⟨w.heap.size, 1, none⟩ = some (.int .i64 mo1) := cell_alloc _ (cell_new (by simp) rfl)
    have r2 : ((w.alloc (.cells #[.int .i64 mo0, .int .i64 mo1, .int .i64 me0, .int .i64 me1, .int .i64 ra, .int .i64 no, .int .i64 po, .int .i64 ce, .int .i64 st, .int .i64 du] 56)).alloc (.cells #[.int .i64 0, .int .i64 0] 60)).cell? ⟨w.heap.size, 2, none⟩ = some (.int .i64 me0) := cell_alloc _ (cell_new (by simp) rfl)
    have r3 : ((w.alloc (.cells #[.int .i64 mo0, .int .i64 mo1, .int .i64 me0, .int .i64 me1, .int .i64 ra, .int .i64 no, .int .i64 po, .int .i64 ce, .int .i64 st, .int .i64 du] 56)).alloc (.cells #[.int .i64 0, .int .i64 0] 60)).cell? ⟨w.heap.size, 3, none⟩ = some (.int .i64 me1) := cell_alloc _ (cell_new (by simp) rfl)
    have r4 : ((w.alloc (.cells #[.int .i64 mo0, .int .i64 mo1, .int .i64 me0, .int .i64 me1, .int .i64 ra, .int .i64 no, .int .i64 po, .int .i64 ce, .int .i64 st, .int .i64 du] 56)).alloc (.cells #[.int .i64 0, .int .i64 0] 60)).cell? ⟨w.heap.size, 4, none⟩ = some (.int .i64 ra) := cell_alloc _ (cell_new (by simp) rfl)
    have r5 : ((w.alloc (.cells #[.int .i64 mo0, .int .i64 mo1, .int .i64 me0, .int .i64 me1, .int .i64 ra, .int .i64 no, .int .i64 po, .int .i64 ce, .int .i64 st, .int .i64 du] 56)).alloc (.cells #[.int .i64 0, .int .i64 0] 60)).cell? ⟨w.heap.size, 5, none⟩ = some (.int .i64 no) := cell_alloc _ (cell_new (by simp) rfl)
    have r6 : ((w.alloc (.cells #[.int .i64 mo0, .int .i64 mo1, .int .i64 me0, .int .i64 me1, .int .i64 ra, .int .i64 no, .int .i64 po, .int .i64 ce, .int .i64 st, .int .i64 du] 56)).alloc (.cells #[.int .i64 0, .int .i64 0] 60)).cell? ⟨w.heap.size, 6, none⟩ = some (.int .i64 po) := cell_alloc _ (cell_new (by simp) rfl)
    have r7 : ((w.alloc (.cells #[.int .i64 mo0, .int .i64 mo1, .int .i64 me0, .int .i64 me1, .int .i64 ra, .int .i64 no, .int .i64 po, .int .i64 ce, .int .i64 st, .int .i64 du] 56)).alloc (.cells #[.int .i64 0, .int .i64 0] 60)).cell? ⟨w.heap.size, 7, none⟩ = some (.int .i64 ce) := cell_alloc _ (cell_new (by simp) rfl)
    have r8 : ((w.alloc (.cells #[.int .i64 mo0, .int .i64 mo1, .int .i64 me0, .int .i64 me1, .int .i64 ra, .int .i64 no, .int .i64 po, .int .i64 ce, .int .i64 st, .int .i64 du] 56)).alloc (.cells #[.int .i64 0, .int .i64 0] 60)).cell? ⟨w.heap.size, 8, none⟩ = some (.int .i64 st) := cell_alloc _ (cell_new (by simp) rfl)
    have r9 : ((w.alloc (.cells #[.int .i64 mo0, .int .i64 mo1, .int .i64 me0, .int .i64 me1, .int .i64 ra, .int .i64 no, .int .i64 po, .int .i64 ce, .int .i64 st, .int .i64 du] 56)).alloc (.cells #[.int .i64 0, .int .i64 0] 60)).cell? ⟨w.heap.size, 9, none⟩ = some (.int .i64 du) := cell_alloc _ (cell_new (by simp) rfl)
    have zr : w.heap.size < ((w.alloc (.cells #[.int .i64 mo0, .int .i64 mo1, .int .i64 me0, .int .i64 me1, .int .i64 ra, .int .i64 no, .int .i64 po, .int .i64 ce, .int .i64 st, .int .i64 du] 56)).alloc (.cells #[.int .i64 0, .int .i64 0] 60)).heap.size := World.block_lt_of_cell? _ _ r0
    have y0 : ((w.alloc (.cells #[.int .i64 mo0, .int .i64 mo1, .int .i64 me0, .int .i64 me1, .int .i64 ra, .int .i64 no, .int .i64 po, .int .i64 ce, .int .i64 st, .int .i64 du] 56)).alloc (.cells #[.int .i64 0, .int .i64 0] 60)).cell? ⟨w.heap.size + 1, 0, none⟩ = some (.int .i64 0) := cell_new (by simp) rfl
    have yf0 : ((w.alloc (.cells #[.int .i64 mo0, .int .i64 mo1, .int .i64 me0, .int .i64 me1, .int .i64 ra, .int .i64 no, .int .i64 po, .int .i64 ce, .int .i64 st, .int .i64 du] 56)).alloc (.cells #[.int .i64 0, .int .i64 0] 60)).frozen? ⟨w.heap.size + 1, 0, none⟩ = false := frozen_new (by simp)
    have y1 : ((w.alloc (.cells #[.int .i64 mo0, .int .i64 mo1, .int .i64 me0, .int .i64 me1, .int .i64 ra, .int .i64 no, .int .i64 po, .int .i64 ce, .int .i64 st, .int .i64 du] 56)).alloc (.cells #[.int .i64 0, .int .i64 0] 60)).cell? ⟨w.heap.size + 1, 1, none⟩ = some (.int .i64 0) := cell_new (by simp) rfl
    have yf1 : ((w.alloc (.cells #[.int .i64 mo0, .int .i64 mo1, .int .i64 me0, .int .i64 me1, .int .i64 ra, .int .i64 no, .int .i64 po, .int .i64 ce, .int .i64 st, .int .i64 du] 56)).alloc (.cells #[.int .i64 0, .int .i64 0] 60)).frozen? ⟨w.heap.size + 1, 1, none⟩ = false := frozen_new (by simp)
    have zy : w.heap.size + 1 < ((w.alloc (.cells #[.int .i64 mo0, .int .i64 mo1, .int .i64 me0, .int .i64 me1, .int .i64 ra, .int .i64 no, .int .i64 po, .int .i64 ce, .int .i64 st, .int .i64 du] 56)).alloc (.cells #[.int .i64 0, .int .i64 0] 60)).heap.size := World.block_lt_of_cell? _ _ y0
    generalize ((w.alloc (.cells #[.int .i64 mo0, .int .i64 mo1, .int .i64 me0, .int .i64 me1, .int .i64 ra, .int .i64 no, .int .i64 po, .int .i64 ce, .int .i64 st, .int .i64 du] 56)).alloc (.cells #[.int .i64 0, .int .i64 0] 60)) = w0 at *
    go_wp2_with (fail)
    refine (H1.out _).mono ?_
    rintro e w2 ⟨rfl, hbw2⟩
    have h1 : Below w.heap.size w w2 := (hb0).trans ((hbw2).mono (hb0).size)
    replace yf0 := frozen_below hbw2 (World.block_lt_of_cell? _ _ y0) yf0
    replace yf1 := frozen_below hbw2 (World.block_lt_of_cell? _ _ y1) yf1
    replace y0 := cell_below' hbw2 y0
    replace y1 := cell_below' hbw2 y1
    replace zy := Nat.lt_of_lt_of_le zy (hbw2).size
    clear hbw2 hb0
    go_wp2_with (first | (go_at_call 100; with_reducible refine (H2.out _).mono ?_; rintro e w' ⟨rfl, rfl⟩) | (go_at_call 89; refine (unless_any _ _ _).mono ?_; rintro e w' ⟨rfl, rfl⟩) | (go_at_call 87; refine (first2 _ _ _ _ (by simp) (cell_new (by simp) rfl) (cell_new (by simp) rfl)).mono ?_; rintro e w' ⟨rfl, rfl⟩; rw [← HE.out]))
    obtain ⟨q0, q1⟩ := set2 (v0 := .int .i64 0) (v1 := .int .i64 0) y0 y1
    have p0 := fun o => cell_alloc o q0
    have p1 := fun o => cell_alloc o q1
    refine bodyPost_ret (v := .tuple #[.agg #[.int .i64 0, .int .i64 0], .int .i64 E]) (by simp only [results, Tryd.results35]; simp [go_sem, p0, p1]) rfl ?_
    rw [HQ.out]
    have hle : w.heap.size ≤ w.heap.size + 1 := by omega
    exact ⟨rfl, below_alloc _ (Nat.le_refl _) (below_set _ hle (below_set _ hle h1))⟩
set_option maxRecDepth 100000 in
set_option maxHeartbeats 8000000 in
theorem RCheckRules_any (r : Ru) (w : World) :
    Calls Tryd.prog 36 #[ruv r] w fun e w' => e = .returned (.int .i64 (ruE r)) ∧ Below w.heap.size w w' := by
  have hq : ruE r = firstE [mdsE r.mo r.me, unl (ruB r) 2] := rfl
  have hr : ruB r = (withinB r.ra 1 100 && (withinB r.no 0 1000000000 && (withinB r.po 1 1000000000 && (withinB r.ce 1 1000 && (withinB r.st (-1000000) 1000000 && withinB r.du 0 1000000))))) := rfl
  have HM := Lib.hid (fun W => RCheckModes_any r.mo r.me W)
  have H1 := Lib.hid (fun W => Within_any r.ra 1 100 W)
  have H2 := Lib.hid (fun W => Within_any r.no 0 1000000000 W)
  have H3 := Lib.hid (fun W => Within_any r.po 1 1000000000 W)
  have H4 := Lib.hid (fun W => Within_any r.ce 1 1000 W)
  have H5 := Lib.hid (fun W => Within_any r.st (-1000000) 1000000 W)
  have H6 := Lib.hid (fun W => Within_any r.du 0 1000000 W)
  generalize withinB r.ra 1 100 = b1 at *
  generalize withinB r.no 0 1000000000 = b2 at *
  generalize withinB r.po 1 1000000000 = b3 at *
  generalize withinB r.ce 1 1000 = b4 at *
  generalize withinB r.st (-1000000) 1000000 = b5 at *
  generalize withinB r.du 0 1000000 = b6 at *
  generalize mdsE r.mo r.me = m1 at *
  have HQ := Lib.hid hq
  have HR := Lib.hid hr
  clear hq hr
  generalize ruB r = rb at *
  generalize ruE r = E at *
  obtain ⟨⟨mo0, mo1⟩, ⟨me0, me1⟩, ra, no, po, ce, st, du⟩ := r
  simp only [ruv, gv2] at *
  go_enter Tryd.func36, Tryd.ntmps36
  go_upto_region 1 with (fail)
  have hb0 : Below w.heap.size w (w.alloc (.cells #[.int .i64 mo0, .int .i64 mo1, .int .i64 me0, .int .i64 me1, .int .i64 ra, .int .i64 no, .int .i64 po, .int .i64 ce, .int .i64 st, .int .i64 du] 56)) := below_alloc _ (Nat.le_refl _) (Below.refl _ _)
  have r0 : (w.alloc (.cells #[.int .i64 mo0, .int .i64 mo1, .int .i64 me0, .int .i64 me1, .int .i64 ra, .int .i64 no, .int .i64 po, .int .i64 ce, .int .i64 st, .int .i64 du] 56)).cell? ⟨w.heap.size, 0, none⟩ = some (.int .i64 mo0) := cell_new (by simp) rfl
  have r1 : (w.alloc (.cells #[.int .i64 mo0, .int .i64 mo1, .int .i64 me0, .int .i64 me1, .int .i64 ra, .int .i64 no, .int .i64 po, .int .i64 ce, .int .i64 st, .int .i64 du] 56)).cell? ⟨w.heap.size, 1, none⟩ = some (.int .i64 mo1) := cell_new (by simp) rfl
  have r2 : (w.alloc (.cells #[.int .i64 mo0, .int .i64 mo1, .int .i64 me0, .int .i64 me1, .int .i64 ra, .int .i64 no, .int .i64 po, .int .i64 ce, .int .i64 st, .int .i64 du] 56)).cell? ⟨w.heap.size, 2, none⟩ = some (.int .i64 me0) := cell_new (by simp) rfl
  have r3 : (w.alloc (.cells #[.int .i64 mo0, .int .i64 mo1, .int .i64 me0, .int .i64 me1, .int .i64 ra, .int .i64 no, .int .i64 po, .int .i64 ce, .int .i64 st, .int .i64 du] 56)).cell? ⟨w.heap.size, 3, none⟩ = some (.int .i64 me1) := cell_new (by simp) rfl
  have r4 : (w.alloc (.cells #[.int .i64 mo0, .int .i64 mo1, .int .i64 me0, .int .i64 me1, .int .i64 ra, .int .i64 no, .int .i64 po, .int .i64 ce, .int .i64 st, .int .i64 du] 56)).cell? ⟨w.heap.size, 4, none⟩ = some (.int .i64 ra) := cell_new (by simp) rfl
  have r5 : (w.alloc (.cells #[.int .i64 mo0, .int .i64 mo1, .int .i64 me0, .int .i64 me1, .int .i64 ra, .int .i64 no, .int .i64 po, .int .i64 ce, .int .i64 st, .int .i64 du] 56)).cell? ⟨w.heap.size, 5, none⟩ = some (.int .i64 no) := cell_new (by simp) rfl
  have r6 : (w.alloc (.cells #[.int .i64 mo0, .int .i64 mo1, .int .i64 me0, .int .i64 me1, .int .i64 ra, .int .i64 no, .int .i64 po, .int .i64 ce, .int .i64 st, .int .i64 du] 56)).cell? ⟨w.heap.size, 6, none⟩ = some (.int .i64 po) := cell_new (by simp) rfl
  have r7 : (w.alloc (.cells #[.int .i64 mo0, .int .i64 mo1, .int .i64 me0, .int .i64 me1, .int .i64 ra, .int .i64 no, .int .i64 po, .int .i64 ce, .int .i64 st, .int .i64 du] 56)).cell? ⟨w.heap.size, 7, none⟩ = some (.int .i64 ce) := cell_new (by simp) rfl
  have r8 : (w.alloc (.cells #[.int .i64 mo0, .int .i64 mo1, .int .i64 me0, .int .i64 me1, .int .i64 ra, .int .i64 no, .int .i64 po, .int .i64 ce, .int .i64 st, .int .i64 du] 56)).cell? ⟨w.heap.size, 8, none⟩ = some (.int .i64 st) := cell_new (by simp) rfl
  have r9 : (w.alloc (.cells #[.int .i64 mo0, .int .i64 mo1, .int .i64 me0, .int .i64 me1, .int .i64 ra, .int .i64 no, .int .i64 po, .int .i64 ce, .int .i64 st, .int .i64 du] 56)).cell? ⟨w.heap.size, 9, none⟩ = some (.int .i64 du) := cell_new (by simp) rfl
  have zr : w.heap.size < (w.alloc (.cells #[.int .i64 mo0, .int .i64 mo1, .int .i64 me0, .int .i64 me1, .int .i64 ra, .int .i64 no, .int .i64 po, .int .i64 ce, .int .i64 st, .int .i64 du] 56)).heap.size := World.block_lt_of_cell? _ _ r0
  generalize (w.alloc (.cells #[.int .i64 mo0, .int .i64 mo1, .int .i64 me0, .int .i64 me1, .int .i64 ra, .int .i64 no, .int .i64 po, .int .i64 ce, .int .i64 st, .int .i64 du] 56)) = w0 at *
  go_wp2_with (fail)
  refine (HM.out _).mono ?_
  rintro e w1 ⟨rfl, hb1⟩
  have hw1 : Below w.heap.size w w1 := (hb0).trans ((hb1).mono (hb0).size)
  replace r0 := cell_below' hb1 r0
  replace r1 := cell_below' hb1 r1
  replace r2 := cell_below' hb1 r2
  replace r3 := cell_below' hb1 r3
  replace r4 := cell_below' hb1 r4
  replace r5 := cell_below' hb1 r5
  replace r6 := cell_below' hb1 r6
  replace r7 := cell_below' hb1 r7
  replace r8 := cell_below' hb1 r8
  replace r9 := cell_below' hb1 r9
  replace zr := Nat.lt_of_lt_of_le zr (hb1).size
  clear hb1 hb0
  clear HM
  by_cases hm : m1 = 0
  rotate_left 1
  · have e9 : (m1 != 0) = true := by simpa using hm
    go_wp2_with (fail)
    go_ret
    exact ⟨ret_int (by rw [HQ.out, firstE_nz hm]), hw1⟩
  subst hm
  go_upto_region 4 with (fail)
  go_cut [43] from 10 to 43 (fun t wx => ∃ b : Bool, t = .bool b ∧ b = !(b1 && (b2 && (b3 && (b4 && (b5 && b6))))) ∧ Below w.heap.size w wx)
  case first =>
    clear HQ HR
    go_wp2_with (fail)
    refine (H1.out _).mono ?_
    rintro e w' ⟨rfl, rfl⟩
    cases b1
    · go_wp2_with (fail)
      go_meet
      exact ⟨true, rfl, by simp, hw1⟩
    go_wp2_with (fail)
    refine (H2.out _).mono ?_
    rintro e w' ⟨rfl, rfl⟩
    cases b2
    · go_wp2_with (fail)
      go_meet
      exact ⟨true, rfl, by simp, hw1⟩
    go_wp2_with (fail)
    refine (H3.out _).mono ?_
    rintro e w' ⟨rfl, rfl⟩
    cases b3
    · go_wp2_with (fail)
      go_meet
      exact ⟨true, rfl, by simp, hw1⟩
    go_wp2_with (fail)
    refine (H4.out _).mono ?_
    rintro e w' ⟨rfl, rfl⟩
    cases b4
    · go_wp2_with (fail)
      go_meet
      exact ⟨true, rfl, by simp, hw1⟩
    go_wp2_with (fail)
    refine (H5.out _).mono ?_
    rintro e w' ⟨rfl, rfl⟩
    cases b5
    · go_wp2_with (fail)
      go_meet
      exact ⟨true, rfl, by simp, hw1⟩
    go_wp2_with (fail)
    refine (H6.out _).mono ?_
    rintro e w' ⟨rfl, rfl⟩
    cases b6
    all_goals
      go_wp2_with (fail)
      go_meet
      exact ⟨_, rfl, by simp, hw1⟩
  case rest =>
  obtain ⟨wd, rfl⟩ : ∃ wd : World, wd = wc := ⟨_, rfl⟩
  obtain ⟨b, rfl, hb, hwd⟩ := hcut
  rw [← HR.out] at hb
  clear HR H1 H2 H3 H4 H5 H6
  cases b
  · obtain rfl : rb = true := by simpa using hb.symm
    go_wp2_with (fail)
    go_ret
    exact ⟨ret_int (by rw [HQ.out]; rfl), hwd⟩
  · obtain rfl : rb = false := by simpa using hb.symm
    go_wp2_with (fail)
    go_ret
    exact ⟨ret_int (by rw [HQ.out]; rfl), hwd⟩
end Go.Proofs.YtppghnbabnhnbaaDoor
