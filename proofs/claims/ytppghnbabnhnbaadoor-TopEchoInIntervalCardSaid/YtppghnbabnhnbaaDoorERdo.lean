/-
  Chapter 2: a reading of two samples.
-/
import Derived.Test.YtppghnbabnhnbaaDoorEOct
namespace Go.Proofs.YtppghnbabnhnbaaDoor
open Go.ChangeShapes Go.WideShapes Go.ChangeAt Go.RowKit
set_option linter.unusedVariables false
set_option linter.unusedSimpArgs false

theorem nz_sq {x y : Int} (h : nzP x y) : 0 < x * x + y * y := by
  have h1 : 0 ≤ x * x := by rw [← Int.natAbs_mul_self]; exact Int.natCast_nonneg _
  have h2 : 0 ≤ y * y := by rw [← Int.natAbs_mul_self]; exact Int.natCast_nonneg _
  rcases h with h | h
  · have : x * x ≠ 0 := Int.mul_ne_zero h h
    omega
  · have : y * y ≠ 0 := Int.mul_ne_zero h h
    omega
def rdG2 (a b : Gs) : Gs := gmul b (gconj a)
theorem nz_mul {a b : Gs} (ha : nzP a.re a.im) (hb : nzP b.re b.im) : nzP (rdG2 a b).re (rdG2 a b).im := by
  have hs := nz_sq ha
  obtain ⟨p, q⟩ := a
  obtain ⟨r, s⟩ := b
  simp only [rdG2, gmul, gconj] at *
  have key : ∀ t : Int, t * (p * p + q * q) = 0 → t = 0 := fun t ht => by
    rcases Int.mul_eq_zero.1 ht with h | h
    · exact h
    · omega
  by_cases h1 : r * p - s * -q = 0
  · right
    intro h2
    have hr : r * (p * p + q * q) = 0 := by grind
    have hq : s * (p * p + q * q) = 0 := by grind
    have := key r hr
    have := key s hq
    unfold nzP at hb
    omega
  · exact .inl h1
/-- the error of ReadingOf -/
def rdoE (a b : Gs) (s : Int) : Int := firstE [smpE a, smpE b, unl (withinB s (-360) 360) 2, unl (neB a gz && neB b gz) 11]
structure RdoOk (a b : Gs) (s : Int) : Prop where
  ka : Sz 10000 a
  kb : Sz 10000 b
  ks : withinB s (-360) 360 = true
  na : neB a gz = true
  nb : neB b gz = true
theorem rdoE_zero {a b : Gs} {s : Int} (h : rdoE a b s = 0) : RdoOk a b s := by
  unfold rdoE at h
  by_cases h1 : smpE a = 0
  · rw [h1, firstE_z] at h
    by_cases h2 : smpE b = 0
    · rw [h2, firstE_z] at h
      cases h3 : withinB s (-360) 360
      · rw [h3, unl_false, firstE_nz (by decide)] at h; cases h
      · rw [h3, unl_true, firstE_z, firstE1] at h
        cases h4 : neB a gz
        · rw [h4] at h; cases h
        · cases h5 : neB b gz
          · rw [h4, h5] at h; cases h
          · exact ⟨smpE_zero h1, smpE_zero h2, h3, h4, h5⟩
    · rw [firstE_nz h2] at h; exact absurd h h2
  · rw [firstE_nz h1] at h; exact absurd h h1
def rdoP (a b : Gs) (s : Int) : Rd := ⟨s, 90 * octG (rdG2 a b) + 45, 45⟩
def rdoQ (a b : Gs) (s : Int) : Rd × Int := if rdoE a b s = 0 then (rdoP a b s, 0) else (⟨0, 0, 0⟩, rdoE a b s)
theorem rdG2_sz {a b : Gs} (ha : Sz 10000 a) (hb : Sz 10000 b) : Sz 200000000 (rdG2 a b) := by
  obtain ⟨h0, h1, h2, h3⟩ := ha
  obtain ⟨k0, k1, k2, k3⟩ := hb
  have m1 := mul_bd k0 k1 h0 h1
  have m2 := mul_bd k2 k3 h2 h3
  have m3 := mul_bd k0 k1 h2 h3
  have m4 := mul_bd k2 k3 h0 h1
  simp only [rdG2, gmul, gconj]
  have e1 : b.im * -a.im = -(b.im * a.im) := Int.mul_neg _ _
  have e2 : b.re * -a.im = -(b.re * a.im) := Int.mul_neg _ _
  exact ⟨by simp only; omega, by simp only; omega, by simp only; omega, by simp only; omega⟩
theorem set3 {w : World} {b : Nat} {a0 a1 a2 v0 v1 v2 : Value} (h0 : w.cell? ⟨b, 0, none⟩ = some a0) (h1 : w.cell? ⟨b, 1, none⟩ = some a1) (h2 : w.cell? ⟨b, 2, none⟩ = some a2) :
    (((w.setCell ⟨b, 0, none⟩ v0).setCell ⟨b, 1, none⟩ v1).setCell ⟨b, 2, none⟩ v2).cell? ⟨b, 0, none⟩ = some v0 ∧ (((w.setCell ⟨b, 0, none⟩ v0).setCell ⟨b, 1, none⟩ v1).setCell ⟨b, 2, none⟩ v2).cell? ⟨b, 1, none⟩ = some v1 ∧ (((w.setCell ⟨b, 0, none⟩ v0).setCell ⟨b, 1, none⟩ v1).setCell ⟨b, 2, none⟩ v2).cell? ⟨b, 2, none⟩ = some v2 :=
  ⟨cell_next (by decide) (cell_next (by decide) (cell_same h0)), cell_next (by decide) (cell_same (cell_next (by decide) h1)), cell_same (cell_next (by decide) (cell_next (by decide) h2))⟩
set_option maxRecDepth 100000 in
set_option maxHeartbeats 8000000 in
theorem ReadingOf_any (a b : Gs) (s : Int) (w : World) :
    Calls Tryd.prog 21 #[gv a, gv b, .int .i64 s] w fun e w' => e = .returned (.tuple #[rv (rdoQ a b s).1, .int .i64 (rdoQ a b s).2]) ∧ Below w.heap.size w w' := by
  have hq : rdoQ a b s = if rdoE a b s = 0 then (rdoP a b s, 0) else (⟨0, 0, 0⟩, rdoE a b s) := rfl
  have hp : rdoP a b s = ⟨s, 90 * octG (rdG2 a b) + 45, 45⟩ := rfl
  have hE : rdoE a b s = firstE [smpE a, smpE b, unl (withinB s (-360) 360) 2, unl (neB a gz && neB b gz) 11] := rfl
  have H1 := Lib.hid (fun W => sampleErr_any a W)
  have H2 := Lib.hid (fun W => sampleErr_any b W)
  have H3 := Lib.hid (fun W => spacingErr_any s W)
  have hna : ∀ W, (binOp .neq 24 (.agg #[.int .i64 a.re, .int .i64 a.im]) (.agg #[.int .i64 0, .int .i64 0])).run Tryd.prog W = .ok (.bool (neB a gz)) W := fun W => neG a gz W
  have hnb : ∀ W, (binOp .neq 24 (.agg #[.int .i64 b.re, .int .i64 b.im]) (.agg #[.int .i64 0, .int .i64 0])).run Tryd.prog W = .ok (.bool (neB b gz)) W := fun W => neG b gz W
  have HOC := Lib.hid (oct_bd (rdG2 a b).re (rdG2 a b).im)
  by_cases h0 : rdoE a b s = 0
  · rw [if_pos h0, hp] at hq
    obtain ⟨sa, sb, ws, na, nb⟩ := rdoE_zero h0
    obtain ⟨s0, s1⟩ := withinB_true.1 ws
    rw [h0, na, nb] at hE
    rw [na] at hna
    rw [nb] at hnb
    have HC := Lib.hid (fun W => conj_any a W (sa.mono (by decide)))
    have HM := Lib.hid (fun W => times_any b (gconj a) W (sb.mono (by decide)) (sa.conj.mono (by decide)))
    have HO := Lib.hid (fun W => octant_any (rdG2 a b) W ((rdG2_sz sa sb).mono (by decide)) (nz_mul (neB_nz na) (neB_nz nb)))
    rw [show gmul b (gconj a) = rdG2 a b from rfl] at HM
    have HQ := Lib.hid hq
    have HE := Lib.hid hE
    have HOC2 : Hid (0 ≤ octG (rdG2 a b) ∧ octG (rdG2 a b) ≤ 7) := Lib.hid HOC.out
    obtain ⟨o0, o1⟩ := HOC2.out
    clear hq hp hE h0 ws sa sb na nb HOC HOC2
    generalize smpE a = e1 at *
    generalize smpE b = e2 at *
    generalize octG (rdG2 a b) = oc at *
    generalize rdG2 a b = g2 at *
    generalize gconj a = ga at *
    obtain ⟨a0, a1⟩ := a
    obtain ⟨b0, b1⟩ := b
    have HE2 : Hid (0 = firstE [e1, e2, unl (withinB s (-360) 360) 2, unl true 11]) := Lib.hid HE.out
    obtain ⟨m0, m1⟩ := g2
    obtain ⟨q0, q1⟩ := ga
    simp only [gv] at *
    go_enter Tryd.func21, Tryd.ntmps21
    go_upto_region 1 with (fail)
    have hb0 : Below w.heap.size w (((w.alloc (.cells #[.int .i64 a0, .int .i64 a1] 24)).alloc (.cells #[.int .i64 b0, .int .i64 b1] 24)).alloc (.cells #[.int .i64 0, .int .i64 0, .int .i64 0] 34)) := below_alloc _ (Nat.le_refl _) (below_alloc _ (Nat.le_refl _) (below_alloc _ (Nat.le_refl _) (Below.refl _ _)))
    have ca0 : (((w.alloc (.cells #[.int .i64 a0, .int .i64 a1] 24)).alloc (.cells #[.int .i64 b0, .int .i64 b1] 24)).alloc (.cells #[.int .i64 0, .int .i64 0, .int .i64 0] 34)).cell? ⟨w.heap.size, 0, none⟩ = some (.int .i64 a0) := cell_alloc _ (cell_alloc _ (cell_new (by simp) rfl))
    have ca1 : (((w.alloc (.cells #[.int .i64 a0, .int .i64 a1] 24)).alloc (.cells #[.int .i64 b0, .int .i64 b1] 24)).alloc (.cells #[.int .i64 0, .int .i64 0, .int .i64 0] 34)).cell? ⟨w.heap.size, 1, none⟩ = some (.int .i64 a1) := cell_alloc _ (cell_alloc _ (cell_new (by simp) rfl))
    have zca : w.heap.size < (((w.alloc (.cells #[.int .i64 a0, .int .i64 a1] 24)).alloc (.cells #[.int .i64 b0, .int .i64 b1] 24)).alloc (.cells #[.int .i64 0, .int .i64 0, .int .i64 0] 34)).heap.size := World.block_lt_of_cell? _ _ ca0
    have cb0 : (((w.alloc (.cells #[.int .i64 a0, .int .i64 a1] 24)).alloc (.cells #[.int .i64 b0, .int .i64 b1] 24)).alloc (.cells #[.int .i64 0, .int .i64 0, .int .i64 0] 34)).cell? ⟨w.heap.size + 1, 0, none⟩ = some (.int .i64 b0) := cell_alloc _ (cell_new (by simp) rfl)
    have cb1 : (((w.alloc (.cells #[.int .i64 a0, .int .i64 a1] 24)).alloc (.cells #[.int .i64 b0, .int .i64 b1] 24)).alloc (.cells #[.int .i64 0, .int .i64 0, .int .i64 0] 34)).cell? ⟨w.heap.size + 1, 1, none⟩ = some (.int .i64 b1) := cell_alloc _ (cell_new (by simp) rfl)
    have zcb : w.heap.size + 1 < (((w.alloc (.cells #[.int .i64 a0, .int .i64 a1] 24)).alloc (.cells #[.int .i64 b0, .int .i64 b1] 24)).alloc (.cells #[.int .i64 0, .int .i64 0, .int .i64 0] 34)).heap.size := World.block_lt_of_cell? _ _ cb0
    have r0 : (((w.alloc (.cells #[.int .i64 a0, .int .i64 a1] 24)).alloc (.cells #[.int .i64 b0, .int .i64 b1] 24)).alloc (.cells #[.int .i64 0, .int .i64 0, .int .i64 0] 34)).cell? ⟨w.heap.size + 1 + 1, 0, none⟩ = some (.int .i64 0) := cell_new (by simp) rfl
    have rf0 : (((w.alloc (.cells #[.int .i64 a0, .int .i64 a1] 24)).alloc (.cells #[.int .i64 b0, .int .i64 b1] 24)).alloc (.cells #[.int .i64 0, .int .i64 0, .int .i64 0] 34)).frozen? ⟨w.heap.size + 1 + 1, 0, none⟩ = false := frozen_new (by simp)
    have r1 : (((w.alloc (.cells #[.int .i64 a0, .int .i64 a1] 24)).alloc (.cells #[.int .i64 b0, .int .i64 b1] 24)).alloc (.cells #[.int .i64 0, .int .i64 0, .int .i64 0] 34)).cell? ⟨w.heap.size + 1 + 1, 1, none⟩ = some (.int .i64 0) := cell_new (by simp) rfl
    have rf1 : (((w.alloc (.cells #[.int .i64 a0, .int .i64 a1] 24)).alloc (.cells #[.int .i64 b0, .int .i64 b1] 24)).alloc (.cells #[.int .i64 0, .int .i64 0, .int .i64 0] 34)).frozen? ⟨w.heap.size + 1 + 1, 1, none⟩ = false := frozen_new (by simp)
    have r2 : (((w.alloc (.cells #[.int .i64 a0, .int .i64 a1] 24)).alloc (.cells #[.int .i64 b0, .int .i64 b1] 24)).alloc (.cells #[.int .i64 0, .int .i64 0, .int .i64 0] 34)).cell? ⟨w.heap.size + 1 + 1, 2, none⟩ = some (.int .i64 0) := cell_new (by simp) rfl
    have rf2 : (((w.alloc (.cells #[.int .i64 a0, .int .i64 a1] 24)).alloc (.cells #[.int .i64 b0, .int .i64 b1] 24)).alloc (.cells #[.int .i64 0, .int .i64 0, .int .i64 0] 34)).frozen? ⟨w.heap.size + 1 + 1, 2, none⟩ = false := frozen_new (by simp)
    have zr : w.heap.size + 1 + 1 < (((w.alloc (.cells #[.int .i64 a0, .int .i64 a1] 24)).alloc (.cells #[.int .i64 b0, .int .i64 b1] 24)).alloc (.cells #[.int .i64 0, .int .i64 0, .int .i64 0] 34)).heap.size := World.block_lt_of_cell? _ _ r0
    generalize (((w.alloc (.cells #[.int .i64 a0, .int .i64 a1] 24)).alloc (.cells #[.int .i64 b0, .int .i64 b1] 24)).alloc (.cells #[.int .i64 0, .int .i64 0, .int .i64 0] 34)) = w0 at *
    (refine region_extx 15 (by kernel_rfl) (by kernel_rfl) fun hx => ?_; simp only [List.take_succ_cons, List.take_zero, List.drop_succ_cons, List.drop_zero]; (repeat (any_goals (first | go_big_quiet_step ((first | ((go_at_call 92; with_reducible exact ext_call (H1.out _))) | ((go_at_call 92; with_reducible exact ext_call (H2.out _))) | ((go_at_call 88; with_reducible exact ext_same (H3.out _))) | ((go_at_call 89; with_reducible exact ext_same (unless_any _ _ _))))) | quiet_step ((first | ((go_at_call 92; with_reducible exact ext_call (H1.out _))) | ((go_at_call 92; with_reducible exact ext_call (H2.out _))) | ((go_at_call 88; with_reducible exact ext_same (H3.out _))) | ((go_at_call 89; with_reducible exact ext_same (unless_any _ _ _)))))))))
    (refine wpQuiet_nil ?_; clear hx; intro u; have hbw2 := ext_bel _ u; have hxw2 := ext_cell _ u; generalize ext _ u = w2 at *; clear u; have hsw2 := hbw2.size; (try simp at hsw2))
    have h1 : Below w.heap.size w w2 := (hb0).trans ((hbw2).mono (hb0).size)
    replace ca0 := cell_below' hbw2 ca0
    replace ca1 := cell_below' hbw2 ca1
    replace zca := Nat.lt_of_lt_of_le zca (hbw2).size
    replace cb0 := cell_below' hbw2 cb0
    replace cb1 := cell_below' hbw2 cb1
    replace zcb := Nat.lt_of_lt_of_le zcb (hbw2).size
    replace rf0 := frozen_below hbw2 (World.block_lt_of_cell? _ _ r0) rf0
    replace rf1 := frozen_below hbw2 (World.block_lt_of_cell? _ _ r1) rf1
    replace rf2 := frozen_below hbw2 (World.block_lt_of_cell? _ _ r2) rf2
    replace r0 := cell_below' hbw2 r0
    replace r1 := cell_below' hbw2 r1
    replace r2 := cell_below' hbw2 r2
    replace zr := Nat.lt_of_lt_of_le zr (hbw2).size
    clear hbw2 hb0
    clear hxw2 hsw2
    go_wp2_with (go_at_call 87; refine (first4 _ _ _ _ _ _ (by simp) (cell_new (by simp) rfl) (cell_new (by simp) rfl) (cell_new (by simp) rfl) (cell_new (by simp) rfl)).mono ?_; rintro e w' ⟨rfl, rfl⟩; rw [← HE2.out])
    have hbv : Below w2.heap.size w2 (w2.alloc (.cells #[.int .i64 e1, .int .i64 e2, .int .i64 (unl (withinB s (-360) 360) 2), .int .i64 (unl true 11)] 30)) := (by repeat (first | assumption | exact Below.refl _ _ | refine Below.drew ?_ | (refine below_alloc _ ?_ ?_; focus (first | omega | (simp; done) | (simp; omega) | (simp at *; omega))) | (refine below_set _ ?_ ?_; focus (first | omega | (simp; done) | (simp; omega) | (simp at *; omega))) | refine below_drewN ?_ _ | (refine below_call (by assumption) ?_ ?_; focus (first | omega | (simp; done) | (simp; omega) | (simp at *; omega))) | (refine below_call' (by assumption) ?_ ?_; focus (first | omega | (simp; done) | (simp; omega) | (simp at *; omega)))))
    generalize (w2.alloc (.cells #[.int .i64 e1, .int .i64 e2, .int .i64 (unl (withinB s (-360) 360) 2), .int .i64 (unl true 11)] 30)) = w3 at *
    have h2 : Below w.heap.size w w3 := (h1).trans ((hbv).mono (h1).size)
    replace ca0 := cell_below' hbv ca0
    replace ca1 := cell_below' hbv ca1
    replace zca := Nat.lt_of_lt_of_le zca (hbv).size
    replace cb0 := cell_below' hbv cb0
    replace cb1 := cell_below' hbv cb1
    replace zcb := Nat.lt_of_lt_of_le zcb (hbv).size
    replace rf0 := frozen_below hbv (World.block_lt_of_cell? _ _ r0) rf0
    replace rf1 := frozen_below hbv (World.block_lt_of_cell? _ _ r1) rf1
    replace rf2 := frozen_below hbv (World.block_lt_of_cell? _ _ r2) rf2
    replace r0 := cell_below' hbv r0
    replace r1 := cell_below' hbv r1
    replace r2 := cell_below' hbv r2
    replace zr := Nat.lt_of_lt_of_le zr (hbv).size
    clear hbv h1
    clear H1 H2 H3 HE HE2
    (refine region_extx 5 (by kernel_rfl) (by kernel_rfl) fun hx => ?_; simp only [List.take_succ_cons, List.take_zero, List.drop_succ_cons, List.drop_zero]; (repeat (any_goals (first | go_big_quiet_step ((first | ((go_at_call 94; with_reducible exact ext_call (HC.out _))) | ((go_at_call 93; with_reducible exact ext_call (HM.out _))) | ((go_at_call 95; with_reducible exact ext_call (HO.out _))))) | quiet_step ((first | ((go_at_call 94; with_reducible exact ext_call (HC.out _))) | ((go_at_call 93; with_reducible exact ext_call (HM.out _))) | ((go_at_call 95; with_reducible exact ext_call (HO.out _)))))))))
    (refine wpQuiet_nil ?_; clear hx; intro u; have hbw5 := ext_bel _ u; have hxw5 := ext_cell _ u; generalize ext _ u = w5 at *; clear u; have hsw5 := hbw5.size; (try simp at hsw5))
    have h3 : Below w.heap.size w w5 := (h2).trans ((hbw5).mono (h2).size)
    replace rf0 := frozen_below hbw5 (World.block_lt_of_cell? _ _ r0) rf0
    replace rf1 := frozen_below hbw5 (World.block_lt_of_cell? _ _ r1) rf1
    replace rf2 := frozen_below hbw5 (World.block_lt_of_cell? _ _ r2) rf2
    replace r0 := cell_below' hbw5 r0
    replace r1 := cell_below' hbw5 r1
    replace r2 := cell_below' hbw5 r2
    replace zr := Nat.lt_of_lt_of_le zr (hbw5).size
    clear hbw5 h2
    clear hxw5 hsw5
    go_wp2_with (fail)
    obtain ⟨q0, q1, q2⟩ := set3 (v0 := .int .i64 s) (v1 := .int .i64 (90 * oc + 45)) (v2 := .int .i64 45) r0 r1 r2
    refine bodyPost_ret (v := .tuple #[.agg #[.int .i64 s, .int .i64 (90 * oc + 45), .int .i64 45], .int .i64 0]) (by simp [results, Tryd.results21, go_sem, q0, q1, q2]) rfl ?_
    rw [HQ.out]
    have hle : w.heap.size ≤ w.heap.size + 1 + 1 := by omega
    exact ⟨rfl, below_set _ hle (below_set _ hle (below_set _ hle h3))⟩
  · rw [if_neg h0] at hq
    have HQ := Lib.hid hq
    have HE := Lib.hid hE
    have e9 : (rdoE a b s != 0) = true := by simpa using h0
    clear hq hp hE h0 HOC
    generalize rdoE a b s = E at *
    generalize smpE a = e1 at *
    generalize smpE b = e2 at *
    generalize neB a gz = b3 at *
    generalize neB b gz = b4 at *
    obtain ⟨a0, a1⟩ := a
    obtain ⟨b0, b1⟩ := b
    simp only [gv] at *
    cases b3
    all_goals
      simp only [Bool.false_and, Bool.true_and] at HE
      go_enter Tryd.func21, Tryd.ntmps21
      go_upto_region 1 with (fail)
      have hb0 : Below w.heap.size w (((w.alloc (.cells #[.int .i64 a0, .int .i64 a1] 24)).alloc (.cells #[.int .i64 b0, .int .i64 b1] 24)).alloc (.cells #[.int .i64 0, .int .i64 0, .int .i64 0] 34)) := below_alloc _ (Nat.le_refl _) (below_alloc _ (Nat.le_refl _) (below_alloc _ (Nat.le_refl _) (Below.refl _ _)))
      have ca0 : (((w.alloc (.cells #[.int .i64 a0, .int .i64 a1] 24)).alloc (.cells #[.int .i64 b0, .int .i64 b1] 24)).alloc (.cells #[.int .i64 0, .int .i64 0, .int .i64 0] 34)).cell? ⟨w.heap.size, 0, none⟩ = some (.int .i64 a0) := cell_alloc _ (cell_alloc _ (cell_new (by simp) rfl))
      have ca1 : (((w.alloc (.cells #[.int .i64 a0, .int .i64 a1] 24)).alloc (.cells #[.int .i64 b0, .int .i64 b1] 24)).alloc (.cells #[.int .i64 0, .int .i64 0, .int .i64 0] 34)).cell? ⟨w.heap.size, 1, none⟩ = some (.int .i64 a1) := cell_alloc _ (cell_alloc _ (cell_new (by simp) rfl))
      have zca : w.heap.size < (((w.alloc (.cells #[.int .i64 a0, .int .i64 a1] 24)).alloc (.cells #[.int .i64 b0, .int .i64 b1] 24)).alloc (.cells #[.int .i64 0, .int .i64 0, .int .i64 0] 34)).heap.size := World.block_lt_of_cell? _ _ ca0
      have cb0 : (((w.alloc (.cells #[.int .i64 a0, .int .i64 a1] 24)).alloc (.cells #[.int .i64 b0, .int .i64 b1] 24)).alloc (.cells #[.int .i64 0, .int .i64 0, .int .i64 0] 34)).cell? ⟨w.heap.size + 1, 0, none⟩ = some (.int .i64 b0) := cell_alloc _ (cell_new (by simp) rfl)
      have cb1 : (((w.alloc (.cells #[.int .i64 a0, .int .i64 a1] 24)).alloc (.cells #[.int .i64 b0, .int .i64 b1] 24)).alloc (.cells #[.int .i64 0, .int .i64 0, .int .i64 0] 34)).cell? ⟨w.heap.size + 1, 1, none⟩ = some (.int .i64 b1) := cell_alloc _ (cell_new (by simp) rfl)
      have zcb : w.heap.size + 1 < (((w.alloc (.cells #[.int .i64 a0, .int .i64 a1] 24)).alloc (.cells #[.int .i64 b0, .int .i64 b1] 24)).alloc (.cells #[.int .i64 0, .int .i64 0, .int .i64 0] 34)).heap.size := World.block_lt_of_cell? _ _ cb0
      have r0 : (((w.alloc (.cells #[.int .i64 a0, .int .i64 a1] 24)).alloc (.cells #[.int .i64 b0, .int .i64 b1] 24)).alloc (.cells #[.int .i64 0, .int .i64 0, .int .i64 0] 34)).cell? ⟨w.heap.size + 1 + 1, 0, none⟩ = some (.int .i64 0) := cell_new (by simp) rfl
      have rf0 : (((w.alloc (.cells #[.int .i64 a0, .int .i64 a1] 24)).alloc (.cells #[.int .i64 b0, .int .i64 b1] 24)).alloc (.cells #[.int .i64 0, .int .i64 0, .int .i64 0] 34)).frozen? ⟨w.heap.size + 1 + 1, 0, none⟩ = false := frozen_new (by simp)
      have r1 : (((w.alloc (.cells #[.int .i64 a0, .int .i64 a1] 24)).alloc (.cells #[.int .i64 b0, .int .i64 b1] 24)).alloc (.cells #[.int .i64 0, .int .i64 0, .int .i64 0] 34)).cell? ⟨w.heap.size + 1 + 1, 1, none⟩ = some (.int .i64 0) := cell_new (by simp) rfl
      have rf1 : (((w.alloc (.cells #[.int .i64 a0, .int .i64 a1] 24)).alloc (.cells #[.int .i64 b0, .int .i64 b1] 24)).alloc (.cells #[.int .i64 0, .int .i64 0, .int .i64 0] 34)).frozen? ⟨w.heap.size + 1 + 1, 1, none⟩ = false := frozen_new (by simp)
      have r2 : (((w.alloc (.cells #[.int .i64 a0, .int .i64 a1] 24)).alloc (.cells #[.int .i64 b0, .int .i64 b1] 24)).alloc (.cells #[.int .i64 0, .int .i64 0, .int .i64 0] 34)).cell? ⟨w.heap.size + 1 + 1, 2, none⟩ = some (.int .i64 0) := cell_new (by simp) rfl
      have rf2 : (((w.alloc (.cells #[.int .i64 a0, .int .i64 a1] 24)).alloc (.cells #[.int .i64 b0, .int .i64 b1] 24)).alloc (.cells #[.int .i64 0, .int .i64 0, .int .i64 0] 34)).frozen? ⟨w.heap.size + 1 + 1, 2, none⟩ = false := frozen_new (by simp)
      have zr : w.heap.size + 1 + 1 < (((w.alloc (.cells #[.int .i64 a0, .int .i64 a1] 24)).alloc (.cells #[.int .i64 b0, .int .i64 b1] 24)).alloc (.cells #[.int .i64 0, .int .i64 0, .int .i64 0] 34)).heap.size := World.block_lt_of_cell? _ _ r0
      generalize (((w.alloc (.cells #[.int .i64 a0, .int .i64 a1] 24)).alloc (.cells #[.int .i64 b0, .int .i64 b1] 24)).alloc (.cells #[.int .i64 0, .int .i64 0, .int .i64 0] 34)) = w0 at *
      (refine region_extx 15 (by kernel_rfl) (by kernel_rfl) fun hx => ?_; simp only [List.take_succ_cons, List.take_zero, List.drop_succ_cons, List.drop_zero]; (repeat (any_goals (first | go_big_quiet_step ((first | ((go_at_call 92; with_reducible exact ext_call (H1.out _))) | ((go_at_call 92; with_reducible exact ext_call (H2.out _))) | ((go_at_call 88; with_reducible exact ext_same (H3.out _))) | ((go_at_call 89; with_reducible exact ext_same (unless_any _ _ _))))) | quiet_step ((first | ((go_at_call 92; with_reducible exact ext_call (H1.out _))) | ((go_at_call 92; with_reducible exact ext_call (H2.out _))) | ((go_at_call 88; with_reducible exact ext_same (H3.out _))) | ((go_at_call 89; with_reducible exact ext_same (unless_any _ _ _)))))))))
      (refine wpQuiet_nil ?_; clear hx; intro u; have hbw2 := ext_bel _ u; have hxw2 := ext_cell _ u; generalize ext _ u = w2 at *; clear u; have hsw2 := hbw2.size; (try simp at hsw2))
      have h1 : Below w.heap.size w w2 := (hb0).trans ((hbw2).mono (hb0).size)
      replace rf0 := frozen_below hbw2 (World.block_lt_of_cell? _ _ r0) rf0
      replace rf1 := frozen_below hbw2 (World.block_lt_of_cell? _ _ r1) rf1
      replace rf2 := frozen_below hbw2 (World.block_lt_of_cell? _ _ r2) rf2
      replace r0 := cell_below' hbw2 r0
      replace r1 := cell_below' hbw2 r1
      replace r2 := cell_below' hbw2 r2
      replace zr := Nat.lt_of_lt_of_le zr (hbw2).size
      clear hbw2 hb0
      clear hxw2 hsw2
      go_wp2_with (go_at_call 87; refine (first4 _ _ _ _ _ _ (by simp) (cell_new (by simp) rfl) (cell_new (by simp) rfl) (cell_new (by simp) rfl) (cell_new (by simp) rfl)).mono ?_; rintro e w' ⟨rfl, rfl⟩; rw [← HE.out])
      obtain ⟨q0, q1, q2⟩ := set3 (v0 := .int .i64 0) (v1 := .int .i64 0) (v2 := .int .i64 0) r0 r1 r2
      have p0 := fun o => cell_alloc o q0
      have p1 := fun o => cell_alloc o q1
      have p2 := fun o => cell_alloc o q2
      refine bodyPost_ret (v := .tuple #[.agg #[.int .i64 0, .int .i64 0, .int .i64 0], .int .i64 E]) (by simp only [results, Tryd.results21]; simp [go_sem, p0, p1, p2]) rfl ?_
      rw [HQ.out]
      have hle : w.heap.size ≤ w.heap.size + 1 + 1 := by omega
      exact ⟨rfl, below_alloc _ (Nat.le_refl _) (below_set _ hle (below_set _ hle (below_set _ hle h1)))⟩
/-- the reading of the reference -/
theorem RReading_any (a b : Gs) (s : Int) (w : World) (sa : Sz 10000 a) (sb : Sz 10000 b) (na : nzP a.re a.im) (nb : nzP b.re b.im) :
    Calls Tryd.prog 75 #[gv a, gv b, .int .i64 s] w fun e w' => e = .returned (rv (rdoP a b s)) ∧ Below w.heap.size w w' := by
  have hp : rdoP a b s = ⟨s, 90 * octG (rdG2 a b) + 45, 45⟩ := rfl
  have HC := Lib.hid (fun W => GConj_any a W (sa.mono (by decide)))
  have HM := Lib.hid (fun W => GMul_any b (gconj a) W (sb.mono (by decide)) (sa.conj.mono (by decide)))
  have HO := Lib.hid (fun W => ROctant_any (rdG2 a b) W ((rdG2_sz sa sb).mono (by decide)) (nz_mul na nb))
  rw [show gmul b (gconj a) = rdG2 a b from rfl] at HM
  have HOC := Lib.hid (oct_bd (rdG2 a b).re (rdG2 a b).im)
  have HOC2 : Hid (0 ≤ octG (rdG2 a b) ∧ octG (rdG2 a b) ≤ 7) := Lib.hid HOC.out
  obtain ⟨o0, o1⟩ := HOC2.out
  have HQ := Lib.hid hp
  clear hp sa sb na nb HOC HOC2
  generalize octG (rdG2 a b) = oc at *
  generalize rdG2 a b = g2 at *
  generalize gconj a = ga at *
  obtain ⟨a0, a1⟩ := a
  obtain ⟨b0, b1⟩ := b
  obtain ⟨m0, m1⟩ := g2
  obtain ⟨q0, q1⟩ := ga
  simp only [gv] at *
  go_enter Tryd.func75, Tryd.ntmps75
  go_upto_region 1 with (fail)
  have hb0 : Below w.heap.size w (((w.alloc (.cells #[.int .i64 a0, .int .i64 a1] 24)).alloc (.cells #[.int .i64 b0, .int .i64 b1] 24)).alloc (.cells #[.int .i64 0, .int .i64 0, .int .i64 0] 34)) := below_alloc _ (Nat.le_refl _) (below_alloc _ (Nat.le_refl _) (below_alloc _ (Nat.le_refl _) (Below.refl _ _)))
  have ca0 : (((w.alloc (.cells #[.int .i64 a0, .int .i64 a1] 24)).alloc (.cells #[.int .i64 b0, .int .i64 b1] 24)).alloc (.cells #[.int .i64 0, .int .i64 0, .int .i64 0] 34)).cell? ⟨w.heap.size, 0, none⟩ = some (.int .i64 a0) := cell_alloc _ (cell_alloc _ (cell_new (by simp) rfl))
  have ca1 : (((w.alloc (.cells #[.int .i64 a0, .int .i64 a1] 24)).alloc (.cells #[.int .i64 b0, .int .i64 b1] 24)).alloc (.cells #[.int .i64 0, .int .i64 0, .int .i64 0] 34)).cell? ⟨w.heap.size, 1, none⟩ = some (.int .i64 a1) := cell_alloc _ (cell_alloc _ (cell_new (by simp) rfl))
  have zca : w.heap.size < (((w.alloc (.cells #[.int .i64 a0, .int .i64 a1] 24)).alloc (.cells #[.int .i64 b0, .int .i64 b1] 24)).alloc (.cells #[.int .i64 0, .int .i64 0, .int .i64 0] 34)).heap.size := World.block_lt_of_cell? _ _ ca0
  have cb0 : (((w.alloc (.cells #[.int .i64 a0, .int .i64 a1] 24)).alloc (.cells #[.int .i64 b0, .int .i64 b1] 24)).alloc (.cells #[.int .i64 0, .int .i64 0, .int .i64 0] 34)).cell? ⟨w.heap.size + 1, 0, none⟩ = some (.int .i64 b0) := cell_alloc _ (cell_new (by simp) rfl)
  have cb1 : (((w.alloc (.cells #[.int .i64 a0, .int .i64 a1] 24)).alloc (.cells #[.int .i64 b0, .int .i64 b1] 24)).alloc (.cells #[.int .i64 0, .int .i64 0, .int .i64 0] 34)).cell? ⟨w.heap.size + 1, 1, none⟩ = some (.int .i64 b1) := cell_alloc _ (cell_new (by simp) rfl)
  have zcb : w.heap.size + 1 < (((w.alloc (.cells #[.int .i64 a0, .int .i64 a1] 24)).alloc (.cells #[.int .i64 b0, .int .i64 b1] 24)).alloc (.cells #[.int .i64 0, .int .i64 0, .int .i64 0] 34)).heap.size := World.block_lt_of_cell? _ _ cb0
  have r0 : (((w.alloc (.cells #[.int .i64 a0, .int .i64 a1] 24)).alloc (.cells #[.int .i64 b0, .int .i64 b1] 24)).alloc (.cells #[.int .i64 0, .int .i64 0, .int .i64 0] 34)).cell? ⟨w.heap.size + 1 + 1, 0, none⟩ = some (.int .i64 0) := cell_new (by simp) rfl
  have rf0 : (((w.alloc (.cells #[.int .i64 a0, .int .i64 a1] 24)).alloc (.cells #[.int .i64 b0, .int .i64 b1] 24)).alloc (.cells #[.int .i64 0, .int .i64 0, .int .i64 0] 34)).frozen? ⟨w.heap.size + 1 + 1, 0, none⟩ = false := frozen_new (by simp)
  have r1 : (((w.alloc (.cells #[.int .i64 a0, .int .i64 a1] 24)).alloc (.cells #[.int .i64 b0, .int .i64 b1] 24)).alloc (.cells #[.int .i64 0, .int .i64 0, .int .i64 0] 34)).cell? ⟨w.heap.size + 1 + 1, 1, none⟩ = some (.int .i64 0) := cell_new (by simp) rfl
  have rf1 : (((w.alloc (.cells #[.int .i64 a0, .int .i64 a1] 24)).alloc (.cells #[.int .i64 b0, .int .i64 b1] 24)).alloc (.cells #[.int .i64 0, .int .i64 0, .int .i64 0] 34)).frozen? ⟨w.heap.size + 1 + 1, 1, none⟩ = false := frozen_new (by simp)
  have r2 : (((w.alloc (.cells #[.int .i64 a0, .int .i64 a1] 24)).alloc (.cells #[.int .i64 b0, .int .i64 b1] 24)).alloc (.cells #[.int .i64 0, .int .i64 0, .int .i64 0] 34)).cell? ⟨w.heap.size + 1 + 1, 2, none⟩ = some (.int .i64 0) := cell_new (by simp) rfl
  have rf2 : (((w.alloc (.cells #[.int .i64 a0, .int .i64 a1] 24)).alloc (.cells #[.int .i64 b0, .int .i64 b1] 24)).alloc (.cells #[.int .i64 0, .int .i64 0, .int .i64 0] 34)).frozen? ⟨w.heap.size + 1 + 1, 2, none⟩ = false := frozen_new (by simp)
  have zr : w.heap.size + 1 + 1 < (((w.alloc (.cells #[.int .i64 a0, .int .i64 a1] 24)).alloc (.cells #[.int .i64 b0, .int .i64 b1] 24)).alloc (.cells #[.int .i64 0, .int .i64 0, .int .i64 0] 34)).heap.size := World.block_lt_of_cell? _ _ r0
  generalize (((w.alloc (.cells #[.int .i64 a0, .int .i64 a1] 24)).alloc (.cells #[.int .i64 b0, .int .i64 b1] 24)).alloc (.cells #[.int .i64 0, .int .i64 0, .int .i64 0] 34)) = w0 at *
  (refine region_extx 9 (by kernel_rfl) (by kernel_rfl) fun hx => ?_; simp only [List.take_succ_cons, List.take_zero, List.drop_succ_cons, List.drop_zero]; (repeat (any_goals (first | go_big_quiet_step ((first | ((go_at_call 117; with_reducible exact ext_call (HC.out _))) | ((go_at_call 22; with_reducible exact ext_call (HM.out _))) | ((go_at_call 74; with_reducible exact ext_call (HO.out _))))) | quiet_step ((first | ((go_at_call 117; with_reducible exact ext_call (HC.out _))) | ((go_at_call 22; with_reducible exact ext_call (HM.out _))) | ((go_at_call 74; with_reducible exact ext_call (HO.out _)))))))))
  (refine wpQuiet_nil ?_; clear hx; intro u; have hbw2 := ext_bel _ u; have hxw2 := ext_cell _ u; generalize ext _ u = w2 at *; clear u; have hsw2 := hbw2.size; (try simp at hsw2))
  have h1 : Below w.heap.size w w2 := (hb0).trans ((hbw2).mono (hb0).size)
  replace rf0 := frozen_below hbw2 (World.block_lt_of_cell? _ _ r0) rf0
  replace rf1 := frozen_below hbw2 (World.block_lt_of_cell? _ _ r1) rf1
  replace rf2 := frozen_below hbw2 (World.block_lt_of_cell? _ _ r2) rf2
  replace r0 := cell_below' hbw2 r0
  replace r1 := cell_below' hbw2 r1
  replace r2 := cell_below' hbw2 r2
  replace zr := Nat.lt_of_lt_of_le zr (hbw2).size
  clear hbw2 hb0
  clear hxw2 hsw2
  go_wp2_with (fail)
  obtain ⟨q0, q1, q2⟩ := set3 (v0 := .int .i64 s) (v1 := .int .i64 (90 * oc + 45)) (v2 := .int .i64 45) r0 r1 r2
  refine bodyPost_ret (v := .agg #[.int .i64 s, .int .i64 (90 * oc + 45), .int .i64 45]) (by simp [results, Tryd.results75, go_sem, q0, q1, q2]) rfl ?_
  rw [HQ.out]
  have hle : w.heap.size ≤ w.heap.size + 1 + 1 := by omega
  exact ⟨rfl, below_set _ hle (below_set _ hle (below_set _ hle h1))⟩
end Go.Proofs.YtppghnbabnhnbaaDoor
