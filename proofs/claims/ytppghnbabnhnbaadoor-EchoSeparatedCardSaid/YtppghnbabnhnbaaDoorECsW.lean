/-
  Chapter 2: CheckSplit, walked.
-/
import Derived.Test.YtppghnbabnhnbaaDoorECsp
namespace Go.Proofs.YtppghnbabnhnbaaDoor
open Go.ChangeShapes Go.WideShapes Go.ChangeAt Go.RowKit
set_option linter.unusedVariables false
set_option linter.unusedSimpArgs false

theorem first4E (a b c d : Int) : firstE [a, b, c, d] = if firstE [a, b] ≠ 0 then firstE [a, b] else if c ≠ 0 then c else d := by
  by_cases h1 : a = 0
  · subst h1
    by_cases h2 : b = 0
    · subst h2
      simp only [firstE_z, firstE1, ne_eq, not_true_eq_false, if_false]
      by_cases h3 : c = 0
      · subst h3; simp only [firstE_z, firstE1, ne_eq, not_true_eq_false, if_false]
      · rw [firstE_nz h3, if_pos h3]
    · simp only [firstE_z, firstE1]
      rw [firstE_nz h2, if_pos h2]
  · rw [firstE_nz h1, firstE_nz h1, if_pos h1]
theorem cs_err {mo me x0 x1 : Gs} {s : Spl} {n : Int} (hn : spB s = true → n = gS s) : (firstE [mdsE mo me, pairE x0 x1, unl (spB s) 2, unl (n == 1) 3] ≠ 0 → csQ mo me x0 x1 s = (0, firstE [mdsE mo me, pairE x0 x1, unl (spB s) 2, unl (n == 1) 3])) ∧
    (firstE [mdsE mo me, pairE x0 x1, unl (spB s) 2, unl (n == 1) 3] = 0 → mixE mo me x0 x1 = 0 ∧ spB s = true ∧ csQ mo me x0 x1 s = accQ mo me x0 x1 s) := by
  rw [first4E]
  have e : firstE [mdsE mo me, pairE x0 x1] = mixE mo me x0 x1 := rfl
  rw [e]
  by_cases h1 : mixE mo me x0 x1 = 0
  · have q1 : csQ mo me x0 x1 s = csT mo me x0 x1 s := if_neg (by simpa using h1)
    rw [q1, if_neg (by simpa using h1)]
    cases hb : spB s
    · have q2 : csT mo me x0 x1 s = (0, 2) := if_pos hb
      rw [q2]
      exact ⟨fun _ => rfl, fun h => absurd h (by simp [unl])⟩
    · have hg := hn hb
      have q2 : csT mo me x0 x1 s = if gS s ≠ 1 then (0, 3) else accQ mo me x0 x1 s := if_neg (by rw [hb]; decide)
      rw [q2]
      have hu : unl true 2 = 0 := rfl
      rw [hu, if_neg (show ¬ ((0 : Int) ≠ 0) by decide)]
      by_cases h2 : gS s = 1
      · have h3 : n = 1 := by omega
        subst h3
        rw [if_neg (by simpa using h2)]
        exact ⟨fun h => absurd rfl h, fun _ => ⟨h1, rfl, rfl⟩⟩
      · have h3 : (n == 1) = false := by rw [beq_eq_false_iff_ne]; omega
        rw [if_pos (by simpa using h2), h3]
        exact ⟨fun _ => rfl, fun h => absurd h (by simp [unl])⟩
  · have q1 : csQ mo me x0 x1 s = (0, mixE mo me x0 x1) := if_pos (by simpa using h1)
    rw [q1, if_pos (by simpa using h1)]
    exact ⟨fun _ => rfl, fun h => absurd h h1⟩
set_option maxRecDepth 100000 in
set_option maxHeartbeats 16000000 in
theorem CheckSplit_any (mo me x0 x1 : Gs) (s : Spl) (w : World) (hr : SplR s) :
    Calls Tryd.prog 66 #[gv2 mo me, gv2 x0 x1, spv s] w fun e w' => e = .returned (.tuple #[.int .i64 (csQ mo me x0 x1 s).1, .int .i64 (csQ mo me x0 x1 s).2]) ∧ Below w.heap.size w w' := by
  have hsb : spB s = (withinB s.d 1 1000 && (prtB 10000000 s.o && prtB 10000000 s.e)) := rfl
  have HSB := Lib.hid hsb
  have HCE := Lib.hid (fun n => @cs_err mo me x0 x1 s n)
  have HDL := Lib.hid (gcdL5 s)
  have HSP := Lib.hid (@spB_true s)
  have HMX := Lib.hid (fun (h : mixE mo me x0 x1 = 0) => mixE_zero h)
  have hac : accQ mo me x0 x1 s = if neB (mixA s.o s.e) (scG x0 s.d) = true then (0, 19) else if neB (mixB mo me s.o s.e) (scG x1 s.d) = true then (1, 19) else (0, 0) := rfl
  have HAC := Lib.hid hac
  have H1 := Lib.hid (fun W => CheckModes_any mo me W)
  have H2 := Lib.hid (fun W => bothErr_any x0 x1 W)
  have H3 := Lib.hid (fun W => within_any s.d 1 1000 W)
  have H4 := Lib.hid (fun W => isPart_any s.o 10000000 (by decide) (by decide) W)
  have H5 := Lib.hid (fun W => isPart_any s.e 10000000 (by decide) (by decide) W)
  have HB : Hid (∀ x ∈ [s.d, s.o.re, s.o.im, s.e.re, s.e.im], N64 x) := Lib.hid fun x hx => by
    simp only [List.mem_cons, List.not_mem_nil, or_false] at hx
    rcases hx with rfl | rfl | rfl | rfl | rfl
    · exact hr.d
    · exact hr.o0
    · exact hr.o1
    · exact hr.e0
    · exact hr.e1
  have HBB : Hid (spB s = true → ∀ x ∈ [s.d, s.o.re, s.o.im, s.e.re, s.e.im], -1000000000000 ≤ x ∧ x ≤ 1000000000000) := Lib.hid fun h x hx => by
    obtain ⟨⟨d0, d1⟩, ⟨o0, o1, o2, o3⟩, ⟨e0, e1, e2, e3⟩⟩ := spB_true h
    simp only [List.mem_cons, List.not_mem_nil, or_false] at hx
    rcases hx with rfl | rfl | rfl | rfl | rfl <;> omega
  have HMA := Lib.hid (fun (h : OkM mo me) (h2 : Sz 10000000 s.o) (h3 : Sz 10000000 s.e) W => mixed_any mo me s.o s.e W h h2 h3)
  have N0 := neN (mixA s.o s.e) (scG x0 s.d)
  have N1 := neN (mixB mo me s.o s.e) (scG x1 s.d)
  clear hsb hac hr
  generalize mdsE mo me = e1 at *
  generalize pairE x0 x1 = e2 at *
  generalize withinB s.d 1 1000 = b1 at *
  generalize prtB 10000000 s.o = b2 at *
  generalize prtB 10000000 s.e = b3 at *
  generalize neB (mixA s.o s.e) (scG x0 s.d) = c0 at *
  generalize neB (mixB mo me s.o s.e) (scG x1 s.d) = c1 at *
  generalize mixA s.o s.e = q1 at *
  generalize mixB mo me s.o s.e = q2 at *
  generalize mixE mo me x0 x1 = mE at *
  generalize spB s = sb at *
  generalize gS s = gs at *
  generalize accQ mo me x0 x1 s = aq at *
  generalize csQ mo me x0 x1 s = cq at *
  obtain ⟨mo0, mo1⟩ := mo
  obtain ⟨me0, me1⟩ := me
  obtain ⟨x00, x01⟩ := x0
  obtain ⟨x10, x11⟩ := x1
  obtain ⟨⟨s0, s1⟩, ⟨s2, s3⟩, d⟩ := s
  obtain ⟨q10, q11⟩ := q1
  obtain ⟨q20, q21⟩ := q2
  simp only [gv, gv2, spv, scG] at *
  go_enter Tryd.func66, Tryd.ntmps66
  go_upto_region 1 with (fail)
  have hb0 : Below w.heap.size w (((w.alloc (.cells #[.int .i64 mo0, .int .i64 mo1, .int .i64 me0, .int .i64 me1] 54)).alloc (.cells #[.int .i64 x00, .int .i64 x01, .int .i64 x10, .int .i64 x11] 57)).alloc (.cells #[.int .i64 s0, .int .i64 s1, .int .i64 s2, .int .i64 s3, .int .i64 d] 108)) := below_alloc _ (Nat.le_refl _) (below_alloc _ (Nat.le_refl _) (below_alloc _ (Nat.le_refl _) (Below.refl _ _)))
  have m0 : (((w.alloc (.cells #[.int .i64 mo0, .int .i64 mo1, .int .i64 me0, .int .i64 me1] 54)).alloc (.cells #[.int .i64 x00, .int .i64 x01, .int .i64 x10, .int .i64 x11] 57)).alloc (.cells #[.int .i64 s0, .int .i64 s1, .int .i64 s2, .int .i64 s3, .int .i64 d] 108)).cell? ⟨w.heap.size, 0, none⟩ = some (.int .i64 mo0) := cell_alloc _ (cell_alloc _ (cell_new (by simp) rfl))
  have m1 : (((w.alloc (.cells #[.int .i64 mo0, .int .i64 mo1, .int .i64 me0, .int .i64 me1] 54)).alloc (.cells #[.int .i64 x00, .int .i64 x01, .int .i64 x10, .int .i64 x11] 57)).alloc (.cells #[.int .i64 s0, .int .i64 s1, .int .i64 s2, .int .i64 s3, .int .i64 d] 108)).cell? ⟨w.heap.size, 1, none⟩ = some (.int .i64 mo1) := cell_alloc _ (cell_alloc _ (cell_new (by simp) rfl))
  have m2 : (((w.alloc (.cells #[.int .i64 mo0, .int .i64 mo1, .int .i64 me0, .int .i64 me1] 54)).alloc (.cells #[.int .i64 x00, .int .i64 x01, .int .i64 x10, .int .i64 x11] 57)).alloc (.cells #[.int .i64 s0, .int .i64 s1, .int .i64 s2, .int .i64 s3, .int .i64 d] 108)).cell? ⟨w.heap.size, 2, none⟩ = some (.int .i64 me0) := cell_alloc _ (cell_alloc _ (cell_new (by simp) rfl))
  have m3 : (((w.alloc (.cells #[.int .i64 mo0, .int .i64 mo1, .int .i64 me0, .int .i64 me1] 54)).alloc (.cells #[.int .i64 x00, .int .i64 x01, .int .i64 x10, .int .i64 x11] 57)).alloc (.cells #[.int .i64 s0, .int .i64 s1, .int .i64 s2, .int .i64 s3, .int .i64 d] 108)).cell? ⟨w.heap.size, 3, none⟩ = some (.int .i64 me1) := cell_alloc _ (cell_alloc _ (cell_new (by simp) rfl))
  have zm : w.heap.size < (((w.alloc (.cells #[.int .i64 mo0, .int .i64 mo1, .int .i64 me0, .int .i64 me1] 54)).alloc (.cells #[.int .i64 x00, .int .i64 x01, .int .i64 x10, .int .i64 x11] 57)).alloc (.cells #[.int .i64 s0, .int .i64 s1, .int .i64 s2, .int .i64 s3, .int .i64 d] 108)).heap.size := World.block_lt_of_cell? _ _ m0
  have x0 : (((w.alloc (.cells #[.int .i64 mo0, .int .i64 mo1, .int .i64 me0, .int .i64 me1] 54)).alloc (.cells #[.int .i64 x00, .int .i64 x01, .int .i64 x10, .int .i64 x11] 57)).alloc (.cells #[.int .i64 s0, .int .i64 s1, .int .i64 s2, .int .i64 s3, .int .i64 d] 108)).cell? ⟨w.heap.size + 1, 0, none⟩ = some (.int .i64 x00) := cell_alloc _ (cell_new (by simp) rfl)
  have x1 : (((w.alloc (.cells #[.int .i64 mo0, .int .i64 mo1, .int .i64 me0, .int .i64 me1] 54)).alloc (.cells #[.int .i64 x00, .int .i64 x01, .int .i64 x10, .int .i64 x11] 57)).alloc (.cells #[.int .i64 s0, .int .i64 s1, .int .i64 s2, .int .i64 s3, .int .i64 d] 108)).cell? ⟨w.heap.size + 1, 1, none⟩ = some (.int .i64 x01) := cell_alloc _ (cell_new (by simp) rfl)
  have x2 : (((w.alloc (.cells #[.int .i64 mo0, .int .i64 mo1, .int .i64 me0, .int .i64 me1] 54)).alloc (.cells #[.int .i64 x00, .int .i64 x01, .int .i64 x10, .int .i64 x11] 57)).alloc (.cells #[.int .i64 s0, .int .i64 s1, .int .i64 s2, .int .i64 s3, .int .i64 d] 108)).cell? ⟨w.heap.size + 1, 2, none⟩ = some (.int .i64 x10) := cell_alloc _ (cell_new (by simp) rfl)
  have x3 : (((w.alloc (.cells #[.int .i64 mo0, .int .i64 mo1, .int .i64 me0, .int .i64 me1] 54)).alloc (.cells #[.int .i64 x00, .int .i64 x01, .int .i64 x10, .int .i64 x11] 57)).alloc (.cells #[.int .i64 s0, .int .i64 s1, .int .i64 s2, .int .i64 s3, .int .i64 d] 108)).cell? ⟨w.heap.size + 1, 3, none⟩ = some (.int .i64 x11) := cell_alloc _ (cell_new (by simp) rfl)
  have zx : w.heap.size + 1 < (((w.alloc (.cells #[.int .i64 mo0, .int .i64 mo1, .int .i64 me0, .int .i64 me1] 54)).alloc (.cells #[.int .i64 x00, .int .i64 x01, .int .i64 x10, .int .i64 x11] 57)).alloc (.cells #[.int .i64 s0, .int .i64 s1, .int .i64 s2, .int .i64 s3, .int .i64 d] 108)).heap.size := World.block_lt_of_cell? _ _ x0
  have p0 : (((w.alloc (.cells #[.int .i64 mo0, .int .i64 mo1, .int .i64 me0, .int .i64 me1] 54)).alloc (.cells #[.int .i64 x00, .int .i64 x01, .int .i64 x10, .int .i64 x11] 57)).alloc (.cells #[.int .i64 s0, .int .i64 s1, .int .i64 s2, .int .i64 s3, .int .i64 d] 108)).cell? ⟨w.heap.size + 1 + 1, 0, none⟩ = some (.int .i64 s0) := cell_new (by simp) rfl
  have p1 : (((w.alloc (.cells #[.int .i64 mo0, .int .i64 mo1, .int .i64 me0, .int .i64 me1] 54)).alloc (.cells #[.int .i64 x00, .int .i64 x01, .int .i64 x10, .int .i64 x11] 57)).alloc (.cells #[.int .i64 s0, .int .i64 s1, .int .i64 s2, .int .i64 s3, .int .i64 d] 108)).cell? ⟨w.heap.size + 1 + 1, 1, none⟩ = some (.int .i64 s1) := cell_new (by simp) rfl
  have p2 : (((w.alloc (.cells #[.int .i64 mo0, .int .i64 mo1, .int .i64 me0, .int .i64 me1] 54)).alloc (.cells #[.int .i64 x00, .int .i64 x01, .int .i64 x10, .int .i64 x11] 57)).alloc (.cells #[.int .i64 s0, .int .i64 s1, .int .i64 s2, .int .i64 s3, .int .i64 d] 108)).cell? ⟨w.heap.size + 1 + 1, 2, none⟩ = some (.int .i64 s2) := cell_new (by simp) rfl
  have p3 : (((w.alloc (.cells #[.int .i64 mo0, .int .i64 mo1, .int .i64 me0, .int .i64 me1] 54)).alloc (.cells #[.int .i64 x00, .int .i64 x01, .int .i64 x10, .int .i64 x11] 57)).alloc (.cells #[.int .i64 s0, .int .i64 s1, .int .i64 s2, .int .i64 s3, .int .i64 d] 108)).cell? ⟨w.heap.size + 1 + 1, 3, none⟩ = some (.int .i64 s3) := cell_new (by simp) rfl
  have p4 : (((w.alloc (.cells #[.int .i64 mo0, .int .i64 mo1, .int .i64 me0, .int .i64 me1] 54)).alloc (.cells #[.int .i64 x00, .int .i64 x01, .int .i64 x10, .int .i64 x11] 57)).alloc (.cells #[.int .i64 s0, .int .i64 s1, .int .i64 s2, .int .i64 s3, .int .i64 d] 108)).cell? ⟨w.heap.size + 1 + 1, 4, none⟩ = some (.int .i64 d) := cell_new (by simp) rfl
  have zp : w.heap.size + 1 + 1 < (((w.alloc (.cells #[.int .i64 mo0, .int .i64 mo1, .int .i64 me0, .int .i64 me1] 54)).alloc (.cells #[.int .i64 x00, .int .i64 x01, .int .i64 x10, .int .i64 x11] 57)).alloc (.cells #[.int .i64 s0, .int .i64 s1, .int .i64 s2, .int .i64 s3, .int .i64 d] 108)).heap.size := World.block_lt_of_cell? _ _ p0
  generalize (((w.alloc (.cells #[.int .i64 mo0, .int .i64 mo1, .int .i64 me0, .int .i64 me1] 54)).alloc (.cells #[.int .i64 x00, .int .i64 x01, .int .i64 x10, .int .i64 x11] 57)).alloc (.cells #[.int .i64 s0, .int .i64 s1, .int .i64 s2, .int .i64 s3, .int .i64 d] 108)) = w0 at *
  go_cut [8] from 11 to 48 (fun t wx => ∃ n : Int, t = .int .i64 (firstE [e1, e2, unl sb 2, unl (n == 1) 3]) ∧ (sb = true → n = gs) ∧ Below w0.heap.size w0 wx)
  case first =>
    clear N0 N1 HMA HCE HSP HMX HAC
    cases b1 <;> cases b2 <;> cases b3
    all_goals
      obtain rfl := HSB.out
      (refine region_alloc (T := ?_) (obj := (.cells #[.int .i64 d, .int .i64 s0, .int .i64 s1, .int .i64 s2, .int .i64 s3] 3)) (val := (fun nb => .slice (some ⟨nb, 0, none⟩) 5 5)) 32 43 (by kernel_rfl) (by kernel_rfl) rfl rfl rfl (Nat.le_of_ble_eq_true rfl) ?_ ?_ ?_; rotate_left 1)
      focus (intro W0 hB0 hx; simp only [List.take_succ_cons, List.take_zero]; (repeat (any_goals (first | go_big_quiet_step (first | ((go_at_call 68; with_reducible exact ext_call (H1.out _))) | ((go_at_call 103; with_reducible exact ext_call (H2.out _))) | ((go_at_call 100; with_reducible exact ext_same (H3.out _))) | ((go_at_call 112; with_reducible exact ext_call (H4.out _))) | ((go_at_call 112; with_reducible exact ext_call (H5.out _))) | ((go_at_call 89; with_reducible exact ext_same (unless_any _ _ _)))) | quiet_step (first | ((go_at_call 68; with_reducible exact ext_call (H1.out _))) | ((go_at_call 103; with_reducible exact ext_call (H2.out _))) | ((go_at_call 100; with_reducible exact ext_same (H3.out _))) | ((go_at_call 112; with_reducible exact ext_call (H4.out _))) | ((go_at_call 112; with_reducible exact ext_call (H5.out _))) | ((go_at_call 89; with_reducible exact ext_same (unless_any _ _ _))))))); refine wpQuiet_nil ?_; exact rfl)
      focus (intro W; go_simp; done)
      (intro W0 w1 hB0 hB1; obtain ⟨hbw1, hnw1, hsw1, hkw1⟩ := alloc_out hB0 hB1; clear hB0 hB1; simp only [List.drop_succ_cons, List.drop_zero]; generalize W0.heap.size = nb at *; clear W0)
      have hA := rows_blk (f := fun (x : Int) _ => Value.int .i64 x) (m := 1) (l := [d, s0, s1, s2, s3]) hkw1 rfl
      clear hnw1 hkw1 hsw1
      go_wp2_with (fail)
      refine (divisor_wild _ [d, s0, s1, s2, s3] _ _ (by simp) HB.out hA).mono ?_
      rintro e w2 ⟨n, rfl, hn, hb2⟩
      have h2 := hbw1.trans (hb2.mono hbw1.size)
      have HN := Lib.hid hn
      clear hbw1 hb2 hA hn
      go_wp2_with (first | (go_at_call 89; refine (unless_any _ _ _).mono ?_; rintro e w' ⟨rfl, rfl⟩) | (go_at_call 87; refine (first4 _ _ _ _ _ _ (by simp) (cell_new (by simp) rfl) (cell_new (by simp) rfl) (cell_new (by simp) rfl) (cell_new (by simp) rfl)).mono ?_; rintro e w' ⟨rfl, rfl⟩))
      go_meet
      exact ⟨n, rfl, fun h => by rw [HN.out (HBB.out h), HDL.out], (by repeat (first | assumption | exact Below.refl _ _ | refine Below.drew ?_ | (refine below_alloc _ ?_ ?_; focus (first | omega | (simp; done) | (simp; omega) | (simp at *; omega))) | (refine below_set _ ?_ ?_; focus (first | omega | (simp; done) | (simp; omega) | (simp at *; omega))) | refine below_drewN ?_ _ | (refine below_call (by assumption) ?_ ?_; focus (first | omega | (simp; done) | (simp; omega) | (simp at *; omega))) | (refine below_call' (by assumption) ?_ ?_; focus (first | omega | (simp; done) | (simp; omega) | (simp at *; omega)))))⟩
  case rest =>
  obtain ⟨w1, rfl⟩ : ∃ w1 : World, w1 = wc := ⟨_, rfl⟩
  obtain ⟨n, rfl, hn, hb1⟩ := hcut
  obtain ⟨he1, he2⟩ := HCE.out n hn
  have HE1 := Lib.hid he1
  have HE2 := Lib.hid he2
  clear he1 he2 hn HCE H1 H2 H3 H4 H5 HB HBB HDL HSB
  have h1 : Below w.heap.size w w1 := (hb0).trans ((hb1).mono (hb0).size)
  replace m0 := cell_below' hb1 m0
  replace m1 := cell_below' hb1 m1
  replace m2 := cell_below' hb1 m2
  replace m3 := cell_below' hb1 m3
  replace zm := Nat.lt_of_lt_of_le zm (hb1).size
  replace x0 := cell_below' hb1 x0
  replace x1 := cell_below' hb1 x1
  replace x2 := cell_below' hb1 x2
  replace x3 := cell_below' hb1 x3
  replace zx := Nat.lt_of_lt_of_le zx (hb1).size
  replace p0 := cell_below' hb1 p0
  replace p1 := cell_below' hb1 p1
  replace p2 := cell_below' hb1 p2
  replace p3 := cell_below' hb1 p3
  replace p4 := cell_below' hb1 p4
  replace zp := Nat.lt_of_lt_of_le zp (hb1).size
  clear hb1 hb0
  generalize firstE [e1, e2, unl sb 2, unl (n == 1) 3] = E at *
  by_cases hE : E = 0
  rotate_left 1
  · have HQ := Lib.hid (HE1.out hE)
    have e9 : (E != 0) = true := by simpa using hE
    clear HE1 HE2 hE N0 N1 HMA
    go_wp2_with (fail)
    go_ret2
    rw [HQ.out]
    exact ⟨rfl, h1⟩
  subst hE
  obtain ⟨hm, hs, hq⟩ := HE2.out rfl
  obtain ⟨hok, k0, k1⟩ := HMX.out hm
  obtain ⟨⟨d0, d1⟩, so, se⟩ := HSP.out hs
  have HMX2 := Lib.hid (fun W => HMA.out hok so se W)
  obtain ⟨i0, i1, i2, i3⟩ := k0
  obtain ⟨j0, j1, j2, j3⟩ := k1
  simp only at i0 i1 i2 i3 j0 j1 j2 j3 d0 d1
  have u0 := mul_bd i0 i1 (show -1000 ≤ d by omega) d1
  have u1 := mul_bd i2 i3 (show -1000 ≤ d by omega) d1
  have u2 := mul_bd j0 j1 (show -1000 ≤ d by omega) d1
  have u3 := mul_bd j2 j3 (show -1000 ≤ d by omega) d1
  rw [HAC.out] at hq
  have HQ := Lib.hid hq
  clear HE1 HE2 HMA HMX HSP HAC hm hs hq hok so se
  go_wp2_with (fail)
  refine (HMX2.out _).mono ?_
  rintro e w2 ⟨rfl, hb2⟩
  have h2 : Below w.heap.size w w2 := (h1).trans ((hb2).mono (h1).size)
  replace m0 := cell_below' hb2 m0
  replace m1 := cell_below' hb2 m1
  replace m2 := cell_below' hb2 m2
  replace m3 := cell_below' hb2 m3
  replace zm := Nat.lt_of_lt_of_le zm (hb2).size
  replace x0 := cell_below' hb2 x0
  replace x1 := cell_below' hb2 x1
  replace x2 := cell_below' hb2 x2
  replace x3 := cell_below' hb2 x3
  replace zx := Nat.lt_of_lt_of_le zx (hb2).size
  replace p0 := cell_below' hb2 p0
  replace p1 := cell_below' hb2 p1
  replace p2 := cell_below' hb2 p2
  replace p3 := cell_below' hb2 p3
  replace p4 := cell_below' hb2 p4
  replace zp := Nat.lt_of_lt_of_le zp (hb2).size
  clear hb2 h1
  clear HMX2 m0 m1 m2 m3 zm
  go_wp2_with (fail)
  go_loopw [58] (fun i wr => ∃ m : Int, 0 ≤ m ∧ m ≤ 2 ∧ i = .int .i64 m ∧ (1 ≤ m → c0 = false) ∧ (2 ≤ m → c1 = false) ∧ Below w2.heap.size w2 wr) (fun i _ => 2 - (intOf i).toNat)
  case atStart => exact ⟨0, by decide, by decide, rfl, fun h => by omega, fun h => by omega, Below.refl _ _⟩
  case round =>
    obtain ⟨m, hm0, hm2, rfl, hc0, hc1, hbr⟩ := hrel
    obtain ⟨wo, rfl⟩ : ∃ wo : World, wo = wr := ⟨_, rfl⟩
    have hbr' := hbr
    have h3 : Below w.heap.size w wo := (h2).trans ((hbr).mono (h2).size)
    replace x0 := cell_below' hbr x0
    replace x1 := cell_below' hbr x1
    replace x2 := cell_below' hbr x2
    replace x3 := cell_below' hbr x3
    replace zx := Nat.lt_of_lt_of_le zx (hbr).size
    replace p0 := cell_below' hbr p0
    replace p1 := cell_below' hbr p1
    replace p2 := cell_below' hbr p2
    replace p3 := cell_below' hbr p3
    replace p4 := cell_below' hbr p4
    replace zp := Nat.lt_of_lt_of_le zp (hbr).size
    clear hbr h2
    have h4 : m = 0 ∨ m = 1 ∨ m = 2 := by omega
    rcases h4 with rfl | rfl | rfl
    · have hix : ∀ W, (Instr.index 168 (.agg #[.int .i64 q10, .int .i64 q11, .int .i64 q20, .int .i64 q21]) (.int .i64 0)).run Tryd.prog W = .ok (.agg #[.int .i64 q10, .int .i64 q11]) W := fun W => by kernel_rfl
      clear hc0 hc1 N1
      go_upto_region 7 with (fail)
      have hb4 : Below wo.heap.size wo (wo.alloc (.cells #[.int .i64 q10, .int .i64 q11] 147)) := below_alloc _ (Nat.le_refl _) (Below.refl _ _)
      have y0 : (wo.alloc (.cells #[.int .i64 q10, .int .i64 q11] 147)).cell? ⟨wo.heap.size, 0, none⟩ = some (.int .i64 q10) := cell_new (by simp) rfl
      have y1 : (wo.alloc (.cells #[.int .i64 q10, .int .i64 q11] 147)).cell? ⟨wo.heap.size, 1, none⟩ = some (.int .i64 q11) := cell_new (by simp) rfl
      have zy : wo.heap.size < (wo.alloc (.cells #[.int .i64 q10, .int .i64 q11] 147)).heap.size := World.block_lt_of_cell? _ _ y0
      generalize (wo.alloc (.cells #[.int .i64 q10, .int .i64 q11] 147)) = w4 at *
      have hb4' := hb4
      have h5 : Below w.heap.size w w4 := (h3).trans ((hb4).mono (h3).size)
      replace x0 := cell_below' hb4 x0
      replace x1 := cell_below' hb4 x1
      replace x2 := cell_below' hb4 x2
      replace x3 := cell_below' hb4 x3
      replace zx := Nat.lt_of_lt_of_le zx (hb4).size
      replace p0 := cell_below' hb4 p0
      replace p1 := cell_below' hb4 p1
      replace p2 := cell_below' hb4 p2
      replace p3 := cell_below' hb4 p3
      replace p4 := cell_below' hb4 p4
      replace zp := Nat.lt_of_lt_of_le zp (hb4).size
      clear hb4 h3
      (refine region_extx 16 (by kernel_rfl) (by kernel_rfl) fun hx => ?_; simp only [List.take_succ_cons, List.take_zero, List.drop_succ_cons, List.drop_zero]; (repeat (any_goals (first | go_big_quiet_step (fail) | quiet_step (fail)))))
      (refine wpQuiet_nil ?_; clear hx; intro u; have hbw5 := ext_bel _ u; have hxw5 := ext_cell _ u; generalize ext _ u = w5 at *; clear u; have hsw5 := hbw5.size; (try simp at hsw5))
      have hb5' := hbw5
      have h6 : Below w.heap.size w w5 := (h5).trans ((hbw5).mono (h5).size)
      replace x0 := cell_below' hbw5 x0
      replace x1 := cell_below' hbw5 x1
      replace x2 := cell_below' hbw5 x2
      replace x3 := cell_below' hbw5 x3
      replace zx := Nat.lt_of_lt_of_le zx (hbw5).size
      replace p0 := cell_below' hbw5 p0
      replace p1 := cell_below' hbw5 p1
      replace p2 := cell_below' hbw5 p2
      replace p3 := cell_below' hbw5 p3
      replace p4 := cell_below' hbw5 p4
      replace zp := Nat.lt_of_lt_of_le zp (hbw5).size
      clear hbw5 h5
      clear hxw5 hsw5
      cases c0
      · go_wp2_with (fail)
        exact ⟨⟨1, by decide, by decide, rfl, fun _ => (by trivial), fun h => (by omega), (hbr'.trans (hb4'.mono hbr'.size)).trans (hb5'.mono ((hbr'.trans (hb4'.mono hbr'.size)).size))⟩, by decide⟩
      · go_wp2_with (fail)
        go_ret2
        rw [HQ.out]
        exact ⟨rfl, h6⟩
    · have hix : ∀ W, (Instr.index 168 (.agg #[.int .i64 q10, .int .i64 q11, .int .i64 q20, .int .i64 q21]) (.int .i64 1)).run Tryd.prog W = .ok (.agg #[.int .i64 q20, .int .i64 q21]) W := fun W => by kernel_rfl
      have hc := hc0 (by decide)
      subst hc
      clear hc0 hc1 N0
      go_upto_region 7 with (fail)
      have hb4 : Below wo.heap.size wo (wo.alloc (.cells #[.int .i64 q20, .int .i64 q21] 147)) := below_alloc _ (Nat.le_refl _) (Below.refl _ _)
      have y0 : (wo.alloc (.cells #[.int .i64 q20, .int .i64 q21] 147)).cell? ⟨wo.heap.size, 0, none⟩ = some (.int .i64 q20) := cell_new (by simp) rfl
      have y1 : (wo.alloc (.cells #[.int .i64 q20, .int .i64 q21] 147)).cell? ⟨wo.heap.size, 1, none⟩ = some (.int .i64 q21) := cell_new (by simp) rfl
      have zy : wo.heap.size < (wo.alloc (.cells #[.int .i64 q20, .int .i64 q21] 147)).heap.size := World.block_lt_of_cell? _ _ y0
      generalize (wo.alloc (.cells #[.int .i64 q20, .int .i64 q21] 147)) = w4 at *
      have hb4' := hb4
      have h5 : Below w.heap.size w w4 := (h3).trans ((hb4).mono (h3).size)
      replace x0 := cell_below' hb4 x0
      replace x1 := cell_below' hb4 x1
      replace x2 := cell_below' hb4 x2
      replace x3 := cell_below' hb4 x3
      replace zx := Nat.lt_of_lt_of_le zx (hb4).size
      replace p0 := cell_below' hb4 p0
      replace p1 := cell_below' hb4 p1
      replace p2 := cell_below' hb4 p2
      replace p3 := cell_below' hb4 p3
      replace p4 := cell_below' hb4 p4
      replace zp := Nat.lt_of_lt_of_le zp (hb4).size
      clear hb4 h3
      (refine region_extx 16 (by kernel_rfl) (by kernel_rfl) fun hx => ?_; simp only [List.take_succ_cons, List.take_zero, List.drop_succ_cons, List.drop_zero]; (repeat (any_goals (first | go_big_quiet_step (fail) | quiet_step (fail)))))
      (refine wpQuiet_nil ?_; clear hx; intro u; have hbw5 := ext_bel _ u; have hxw5 := ext_cell _ u; generalize ext _ u = w5 at *; clear u; have hsw5 := hbw5.size; (try simp at hsw5))
      have hb5' := hbw5
      have h6 : Below w.heap.size w w5 := (h5).trans ((hbw5).mono (h5).size)
      replace x0 := cell_below' hbw5 x0
      replace x1 := cell_below' hbw5 x1
      replace x2 := cell_below' hbw5 x2
      replace x3 := cell_below' hbw5 x3
      replace zx := Nat.lt_of_lt_of_le zx (hbw5).size
      replace p0 := cell_below' hbw5 p0
      replace p1 := cell_below' hbw5 p1
      replace p2 := cell_below' hbw5 p2
      replace p3 := cell_below' hbw5 p3
      replace p4 := cell_below' hbw5 p4
      replace zp := Nat.lt_of_lt_of_le zp (hbw5).size
      clear hbw5 h5
      clear hxw5 hsw5
      cases c1
      · go_wp2_with (fail)
        exact ⟨⟨2, by decide, by decide, rfl, fun _ => (by trivial), fun h => (by trivial), (hbr'.trans (hb4'.mono hbr'.size)).trans (hb5'.mono ((hbr'.trans (hb4'.mono hbr'.size)).size))⟩, by decide⟩
      · go_wp2_with (fail)
        go_ret2
        rw [HQ.out]
        exact ⟨rfl, h6⟩
    · have hc := hc0 (by decide)
      have hc' := hc1 (by decide)
      subst hc
      subst hc'
      clear hc0 hc1 N0 N1
      go_wp2_with (fail)
      go_ret2
      rw [HQ.out]
      exact ⟨rfl, h3⟩
end Go.Proofs.YtppghnbabnhnbaaDoor
