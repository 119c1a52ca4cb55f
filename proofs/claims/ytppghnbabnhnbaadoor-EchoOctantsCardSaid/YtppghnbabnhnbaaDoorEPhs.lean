/-
  Chapter 2: EchoPhases, walked.
-/
import Derived.Test.YtppghnbabnhnbaaDoorERdo
import Derived.Test.YtppghnbabnhnbaaDoorEAwk
import Derived.Deep.CutBlock
namespace Go.Proofs.YtppghnbabnhnbaaDoor
open Go.ChangeShapes Go.WideShapes Go.ChangeAt Go.RowKit
set_option linter.unusedVariables false
set_option linter.unusedSimpArgs false

theorem eqRd (a b c : Int) (w : World) : (binOp .eql 34 (.agg #[.int .i64 a, .int .i64 b, .int .i64 c]) (.agg #[.int .i64 a, .int .i64 b, .int .i64 c])).run Tryd.prog w = .ok (.bool true) w := by
  have hS : Tryd.prog.underlying 34 = some (.struct (Tryd.prog.fieldsOf 34)) := by kernel_rfl
  have hp : Tryd.prog.stoodInHeld 34 = false := by kernel_rfl
  rw [run_eql_struct, show (10000 : Nat) = 9999 + 1 from rfl, run_equalIn_agg w 9999 34 _ _ hS hp]
  simp only [Program.fieldsOf, Tryd.underlying34]
  have h0 : (a == a) = true := by simp
  have h1 : (b == b) = true := by simp
  have h2 : (c == c) = true := by simp
  go_simp
theorem octQ_1 {g : Gs} (h : prtB 1000000000 g = false) : octQ g = (0, 2) := by
  have e : ocE g = 2 := by unfold ocE; rw [h, unl_false, firstE_nz (by decide)]
  unfold octQ; rw [if_neg (by rw [e]; decide), e]
theorem octQ_2 {g : Gs} (h : prtB 1000000000 g = true) (h2 : neB g gz = false) : octQ g = (0, 11) := by
  have e : ocE g = 11 := by unfold ocE; rw [h, unl_true, firstE_z, firstE1, h2, unl_false]
  unfold octQ; rw [if_neg (by rw [e]; decide), e]
theorem octQ_3 {g : Gs} (h : prtB 1000000000 g = true) (h2 : neB g gz = true) : octQ g = (octG g, 0) := by
  have e : ocE g = 0 := by unfold ocE; rw [h, unl_true, firstE_z, firstE1, h2, unl_true]
  unfold octQ; rw [if_pos e]
theorem rdoE_pair (a b : Gs) (s : Int) : rdoE a b s = firstE [pairE a b, unl (withinB s (-360) 360) 2, unl (neB a gz && neB b gz) 11] := by
  unfold rdoE pairE
  by_cases h1 : smpE a = 0
  · rw [h1, firstE_z]
    by_cases h2 : smpE b = 0
    · rw [h2]; simp only [firstE_z, firstE1]
    · rw [firstE_nz h2, firstE_z, firstE1, firstE_nz h2]
  · rw [firstE_nz h1, firstE_nz h1, firstE_nz h1]
theorem pairE_val (a b : Gs) : pairE a b = 0 ∨ pairE a b = 2 := by
  unfold pairE smpE
  cases prtB 10000 a <;> cases prtB 10000 b
  · exact .inr rfl
  · exact .inr rfl
  · exact .inr rfl
  · exact .inl rfl
theorem rdoQ_1 {a b : Gs} {s : Int} (h : pairE a b = 2) : rdoQ a b s = (⟨0, 0, 0⟩, 2) := by
  have e : rdoE a b s = 2 := by rw [rdoE_pair, h, firstE_nz (by decide)]
  unfold rdoQ; rw [if_neg (by rw [e]; decide), e]
theorem rdoQ_2 {a b : Gs} {s : Int} (h : pairE a b = 0) (h2 : withinB s (-360) 360 = false) : rdoQ a b s = (⟨0, 0, 0⟩, 2) := by
  have e : rdoE a b s = 2 := by rw [rdoE_pair, h, firstE_z, h2, unl_false, firstE_nz (by decide)]
  unfold rdoQ; rw [if_neg (by rw [e]; decide), e]
theorem rdoQ_3 {a b : Gs} {s : Int} (h : pairE a b = 0) (h2 : withinB s (-360) 360 = true) (h3 : (neB a gz && neB b gz) = false) : rdoQ a b s = (⟨0, 0, 0⟩, 11) := by
  have e : rdoE a b s = 11 := by rw [rdoE_pair, h, firstE_z, h2, unl_true, firstE_z, firstE1, h3, unl_false]
  unfold rdoQ; rw [if_neg (by rw [e]; decide), e]
theorem rdoQ_4 {a b : Gs} {s : Int} (h : pairE a b = 0) (h2 : withinB s (-360) 360 = true) (h3 : (neB a gz && neB b gz) = true) : rdoQ a b s = (rdoP a b s, 0) := by
  have e : rdoE a b s = 0 := by rw [rdoE_pair, h, firstE_z, h2, unl_true, firstE_z, firstE1, h3, unl_true]
  unfold rdoQ; rw [if_pos e]
theorem eqGn (g : Gs) (W : World) : (binOp .eql 24 (.agg #[.int .i64 g.re, .int .i64 g.im]) (.agg #[.int .i64 0, .int .i64 0])).run Tryd.prog W = .ok (.bool (!(neB g gz))) W := by
  have h := eqG g gz W
  have e : eqB g gz = !(neB g gz) := by unfold neB; simp
  rw [e] at h
  exact h
set_option maxRecDepth 100000 in
set_option maxHeartbeats 16000000 in
theorem EchoPhases_any (r : Rd) (d : Int) (x0 x1 : Gs) (w : World) (ht : Tab w) :
    Calls Tryd.prog 13 #[rv r, .int .i64 d, gv2 x0 x1] w fun e w' => e = .returned (.bool true) ∧ Below w.heap.size w w' := by
  have HT := Lib.hid ht
  have HP := Lib.hid (fun W => PhaseOf_any r.s d W)
  have HO := Lib.hid (fun W => OctantOf_any x0 W)
  have HR := Lib.hid (fun W => ReadingOf_any x0 x1 r.s W)
  have HC1 := Lib.hid (fun W => CheckReading_any r W)
  have HC2 := Lib.hid (fun W => RCheckReading_any r W)
  have HS := Lib.hid (fun W => IsSpacing_any r.s W)
  have HD := Lib.hid (fun W => IsDirection_any d W)
  have HW0 := Lib.hid (fun W => Within_any x0.re (-1000000000) 1000000000 W)
  have HW1 := Lib.hid (fun W => Within_any x0.im (-1000000000) 1000000000 W)
  have HPE := Lib.hid (fun W => RPairErr_any x0 x1 W)
  have hz0 := eqGn x0
  have hz1 := eqGn x1
  have HPH : Hid (phaseQ r.s d = if withinB r.s (-360) 360 && withinB d (-90) 90 then (r.s * d % 720, 0) else (0, 2)) := Lib.hid rfl
  have HPR := Lib.hid (fun (h : withinB r.s (-360) 360 = true) (h2 : withinB d (-90) 90 = true) W => Phase_any r.s d W (withinB_true.1 h).1 (withinB_true.1 h).2 (withinB_true.1 h2).1 (withinB_true.1 h2).2)
  have HPB : Hid (prtB 1000000000 x0 = (withinB x0.re (-1000000000) 1000000000 && withinB x0.im (-1000000000) 1000000000)) := Lib.hid rfl
  have HO1 := Lib.hid (@octQ_1 x0)
  have HO2 := Lib.hid (@octQ_2 x0)
  have HO3 := Lib.hid (@octQ_3 x0)
  have HRO := Lib.hid (fun (h : prtB 1000000000 x0 = true) (h2 : neB x0 gz = true) W => ROctant_any x0 W ((prtB_true h).mono (by decide)) (neB_nz h2))
  have HQ1 := Lib.hid (@rdoQ_1 x0 x1 r.s)
  have HQ2 := Lib.hid (@rdoQ_2 x0 x1 r.s)
  have HQ3 := Lib.hid (@rdoQ_3 x0 x1 r.s)
  have HQ4 := Lib.hid (@rdoQ_4 x0 x1 r.s)
  have HRR := Lib.hid (fun (h : pairE x0 x1 = 0) (h2 : neB x0 gz = true) (h3 : neB x1 gz = true) W => RReading_any x0 x1 r.s W (pairE_zero h).1 (pairE_zero h).2 (neB_nz h2) (neB_nz h3))
  have HPV := Lib.hid (pairE_val x0 x1)
  clear ht
  rcases hph : phaseQ r.s d with ⟨p1, p2⟩
  rcases hoc : octQ x0 with ⟨o1, o2⟩
  rcases hro : rdoQ x0 x1 r.s with ⟨⟨v0, v1, v2⟩, v3⟩
  rw [hph] at HP HPH
  rw [hoc] at HO HO1 HO2 HO3
  rw [hro] at HR HQ1 HQ2 HQ3 HQ4
  clear hph hoc hro
  generalize withinB r.s (-360) 360 = bS at *
  generalize withinB d (-90) 90 = bD at *
  generalize withinB x0.re (-1000000000) 1000000000 = bR at *
  generalize withinB x0.im (-1000000000) 1000000000 = bI at *
  generalize rdE r = E at *
  generalize pairE x0 x1 = PE at *
  generalize neB x0 gz = n0 at *
  generalize neB x1 gz = n1 at *
  generalize prtB 1000000000 x0 = bP at *
  generalize r.s * d % 720 = ph at *
  generalize octG x0 = og at *
  obtain ⟨rs, rp, re⟩ := r
  obtain ⟨x00, x01⟩ := x0
  obtain ⟨x10, x11⟩ := x1
  simp only [gv, gv2, rv] at *
  go_enter Tryd.func13, Tryd.ntmps13
  go_upto_region 1 with (fail)
  have hb0 : Below w.heap.size w ((w.alloc (.cells #[.int .i64 rs, .int .i64 rp, .int .i64 re] 34)).alloc (.cells #[.int .i64 x00, .int .i64 x01, .int .i64 x10, .int .i64 x11] 57)) := below_alloc _ (Nat.le_refl _) (below_alloc _ (Nat.le_refl _) (Below.refl _ _))
  have r0 : ((w.alloc (.cells #[.int .i64 rs, .int .i64 rp, .int .i64 re] 34)).alloc (.cells #[.int .i64 x00, .int .i64 x01, .int .i64 x10, .int .i64 x11] 57)).cell? ⟨w.heap.size, 0, none⟩ = some (.int .i64 rs) := cell_alloc _ (cell_new (by simp) rfl)
  have r1 : ((w.alloc (.cells #[.int .i64 rs, .int .i64 rp, .int .i64 re] 34)).alloc (.cells #[.int .i64 x00, .int .i64 x01, .int .i64 x10, .int .i64 x11] 57)).cell? ⟨w.heap.size, 1, none⟩ = some (.int .i64 rp) := cell_alloc _ (cell_new (by simp) rfl)
  have r2 : ((w.alloc (.cells #[.int .i64 rs, .int .i64 rp, .int .i64 re] 34)).alloc (.cells #[.int .i64 x00, .int .i64 x01, .int .i64 x10, .int .i64 x11] 57)).cell? ⟨w.heap.size, 2, none⟩ = some (.int .i64 re) := cell_alloc _ (cell_new (by simp) rfl)
  have zr : w.heap.size < ((w.alloc (.cells #[.int .i64 rs, .int .i64 rp, .int .i64 re] 34)).alloc (.cells #[.int .i64 x00, .int .i64 x01, .int .i64 x10, .int .i64 x11] 57)).heap.size := World.block_lt_of_cell? _ _ r0
  have x0 : ((w.alloc (.cells #[.int .i64 rs, .int .i64 rp, .int .i64 re] 34)).alloc (.cells #[.int .i64 x00, .int .i64 x01, .int .i64 x10, .int .i64 x11] 57)).cell? ⟨w.heap.size + 1, 0, none⟩ = some (.int .i64 x00) := cell_new (by simp) rfl
  have x1 : ((w.alloc (.cells #[.int .i64 rs, .int .i64 rp, .int .i64 re] 34)).alloc (.cells #[.int .i64 x00, .int .i64 x01, .int .i64 x10, .int .i64 x11] 57)).cell? ⟨w.heap.size + 1, 1, none⟩ = some (.int .i64 x01) := cell_new (by simp) rfl
  have x2 : ((w.alloc (.cells #[.int .i64 rs, .int .i64 rp, .int .i64 re] 34)).alloc (.cells #[.int .i64 x00, .int .i64 x01, .int .i64 x10, .int .i64 x11] 57)).cell? ⟨w.heap.size + 1, 2, none⟩ = some (.int .i64 x10) := cell_new (by simp) rfl
  have x3 : ((w.alloc (.cells #[.int .i64 rs, .int .i64 rp, .int .i64 re] 34)).alloc (.cells #[.int .i64 x00, .int .i64 x01, .int .i64 x10, .int .i64 x11] 57)).cell? ⟨w.heap.size + 1, 3, none⟩ = some (.int .i64 x11) := cell_new (by simp) rfl
  have zx : w.heap.size + 1 < ((w.alloc (.cells #[.int .i64 rs, .int .i64 rp, .int .i64 re] 34)).alloc (.cells #[.int .i64 x00, .int .i64 x01, .int .i64 x10, .int .i64 x11] 57)).heap.size := World.block_lt_of_cell? _ _ x0
  generalize ((w.alloc (.cells #[.int .i64 rs, .int .i64 rp, .int .i64 re] 34)).alloc (.cells #[.int .i64 x00, .int .i64 x01, .int .i64 x10, .int .i64 x11] 57)) = w0 at *
  have HT0 := Lib.hid (HT.out.below hb0)
  go_wp2_with (fail)
  refine (awake_any w0 HT0.out).mono ?_
  rintro e w1 ⟨rfl, hb1⟩
  have h1 : Below w.heap.size w w1 := (hb0).trans ((hb1).mono (hb0).size)
  replace r0 := cell_below' hb1 r0
  replace r1 := cell_below' hb1 r1
  replace r2 := cell_below' hb1 r2
  replace zr := Nat.lt_of_lt_of_le zr (hb1).size
  replace x0 := cell_below' hb1 x0
  replace x1 := cell_below' hb1 x1
  replace x2 := cell_below' hb1 x2
  replace x3 := cell_below' hb1 x3
  replace zx := Nat.lt_of_lt_of_le zx (hb1).size
  clear hb1 hb0
  clear HT HT0
  go_wp2_with (fail)
  refine (HP.out _).mono ?_
  rintro e w2 ⟨rfl, hb2⟩
  have h2 : Below w.heap.size w w2 := (h1).trans ((hb2).mono (h1).size)
  replace r0 := cell_below' hb2 r0
  replace r1 := cell_below' hb2 r1
  replace r2 := cell_below' hb2 r2
  replace zr := Nat.lt_of_lt_of_le zr (hb2).size
  replace x0 := cell_below' hb2 x0
  replace x1 := cell_below' hb2 x1
  replace x2 := cell_below' hb2 x2
  replace x3 := cell_below' hb2 x3
  replace zx := Nat.lt_of_lt_of_le zx (hb2).size
  clear hb2 h1
  go_wp2_with (fail)
  refine (HO.out _).mono ?_
  rintro e w3 ⟨rfl, hb3⟩
  have h3 : Below w.heap.size w w3 := (h2).trans ((hb3).mono (h2).size)
  replace r0 := cell_below' hb3 r0
  replace r1 := cell_below' hb3 r1
  replace r2 := cell_below' hb3 r2
  replace zr := Nat.lt_of_lt_of_le zr (hb3).size
  replace x0 := cell_below' hb3 x0
  replace x1 := cell_below' hb3 x1
  replace x2 := cell_below' hb3 x2
  replace x3 := cell_below' hb3 x3
  replace zx := Nat.lt_of_lt_of_le zx (hb3).size
  clear hb3 h2
  go_wp2_with (fail)
  refine (HR.out _).mono ?_
  rintro e w4 ⟨rfl, hb4⟩
  have h4 : Below w.heap.size w w4 := (h3).trans ((hb4).mono (h3).size)
  replace r0 := cell_below' hb4 r0
  replace r1 := cell_below' hb4 r1
  replace r2 := cell_below' hb4 r2
  replace zr := Nat.lt_of_lt_of_le zr (hb4).size
  replace x0 := cell_below' hb4 x0
  replace x1 := cell_below' hb4 x1
  replace x2 := cell_below' hb4 x2
  replace x3 := cell_below' hb4 x3
  replace zx := Nat.lt_of_lt_of_le zx (hb4).size
  clear hb4 h3
  clear HP HO HR
  go_upto_region 6 with (fail)
  have hb5 : Below w4.heap.size w4 (w4.alloc (.cells #[.int .i64 v0, .int .i64 v1, .int .i64 v2] 34)) := below_alloc _ (Nat.le_refl _) (Below.refl _ _)
  have y0 : (w4.alloc (.cells #[.int .i64 v0, .int .i64 v1, .int .i64 v2] 34)).cell? ⟨w4.heap.size, 0, none⟩ = some (.int .i64 v0) := cell_new (by simp) rfl
  have y1 : (w4.alloc (.cells #[.int .i64 v0, .int .i64 v1, .int .i64 v2] 34)).cell? ⟨w4.heap.size, 1, none⟩ = some (.int .i64 v1) := cell_new (by simp) rfl
  have y2 : (w4.alloc (.cells #[.int .i64 v0, .int .i64 v1, .int .i64 v2] 34)).cell? ⟨w4.heap.size, 2, none⟩ = some (.int .i64 v2) := cell_new (by simp) rfl
  have zy : w4.heap.size < (w4.alloc (.cells #[.int .i64 v0, .int .i64 v1, .int .i64 v2] 34)).heap.size := World.block_lt_of_cell? _ _ y0
  generalize (w4.alloc (.cells #[.int .i64 v0, .int .i64 v1, .int .i64 v2] 34)) = w5 at *
  have h5 : Below w.heap.size w w5 := (h4).trans ((hb5).mono (h4).size)
  replace r0 := cell_below' hb5 r0
  replace r1 := cell_below' hb5 r1
  replace r2 := cell_below' hb5 r2
  replace zr := Nat.lt_of_lt_of_le zr (hb5).size
  replace x0 := cell_below' hb5 x0
  replace x1 := cell_below' hb5 x1
  replace x2 := cell_below' hb5 x2
  replace x3 := cell_below' hb5 x3
  replace zx := Nat.lt_of_lt_of_le zx (hb5).size
  clear hb5 h4
  generalize w4.heap.size = yb at *
  (refine region_full (by kernel_rfl) (by kernel_rfl) fun hx => ?_; (repeat (any_goals (first | go_big_quiet_step (first | ((go_at_call 72; with_reducible exact ext_call (HC1.out _))) | ((go_at_call 23; with_reducible exact ext_call (HC2.out _)))) | quiet_step (first | ((go_at_call 72; with_reducible exact ext_call (HC1.out _))) | ((go_at_call 23; with_reducible exact ext_call (HC2.out _))))))))
  (refine wpQuiet_nil ?_; clear hx; intro u; have hbw6 := ext_bel _ u; have hxw6 := ext_cell _ u; generalize ext _ u = w6 at *; clear u; have hsw6 := hbw6.size; (try simp at hsw6))
  have h6 : Below w.heap.size w w6 := (h5).trans ((hbw6).mono (h5).size)
  replace r0 := cell_below' hbw6 r0
  replace r1 := cell_below' hbw6 r1
  replace r2 := cell_below' hbw6 r2
  replace zr := Nat.lt_of_lt_of_le zr (hbw6).size
  replace x0 := cell_below' hbw6 x0
  replace x1 := cell_below' hbw6 x1
  replace x2 := cell_below' hbw6 x2
  replace x3 := cell_below' hbw6 x3
  replace zx := Nat.lt_of_lt_of_le zx (hbw6).size
  replace y0 := cell_below' hbw6 y0
  replace y1 := cell_below' hbw6 y1
  replace y2 := cell_below' hbw6 y2
  replace zy := Nat.lt_of_lt_of_le zy (hbw6).size
  clear hbw6 h5
  clear hxw6 hsw6 HC1 HC2
  go_upto_region 8 with (fail)
  go_cut [52] from 44 to 52 (fun t wx => t = .bool (!bS || !bD) ∧ w6 = wx)
  case first =>
    clear HO1 HO2 HO3 HRO HQ1 HQ2 HQ3 HQ4 HRR HPV HPH HPR HPB HPE HW0 HW1 hz0 hz1
    go_wp2_with (fail)
    refine (HS.out _).mono ?_
    rintro e w' ⟨rfl, rfl⟩
    cases bS
    · go_wp2_with (fail)
      go_meet
      exact ⟨rfl, rfl⟩
    go_wp2_with (fail)
    refine (HD.out _).mono ?_
    rintro e w' ⟨rfl, rfl⟩
    cases bD
    all_goals
      go_wp2_with (fail)
      go_meet
      exact ⟨rfl, rfl⟩
  case rest =>
  obtain ⟨rfl, rfl⟩ := hcut
  go_upto_if 52 with (fail)
  go_cut [] from 53 to 68 (fun wx => w6 = wx)
  case first =>
    clear HO1 HO2 HO3 HRO HQ1 HQ2 HQ3 HQ4 HRR HPV HPB HPE HW0 HW1 hz0 hz1
    cases bS
    · obtain ⟨rfl, rfl⟩ : p1 = 0 ∧ p2 = 2 := by simpa using HPH.out
      cases bD
      all_goals
        go_wp2_with (fail)
        go_meet
        exact rfl
    cases bD
    · obtain ⟨rfl, rfl⟩ : p1 = 0 ∧ p2 = 2 := by simpa using HPH.out
      go_wp2_with (fail)
      go_meet
      exact rfl
    · obtain ⟨rfl, rfl⟩ : p1 = ph ∧ p2 = 0 := by simpa using HPH.out
      go_wp2_with (fail)
      refine (HPR.out (by first | rfl | trivial) (by first | rfl | trivial) _).mono ?_
      rintro e w' ⟨rfl, rfl⟩
      go_wp2_with (fail)
      go_meet
      exact rfl
  case rest =>
  obtain rfl := hcut
  clear HPH HPR HD
  go_upto_block 0 with (fail)
  have hb7 : Below w6.heap.size w6 (w6.alloc (.cells #[.int .i64 0, .int .i64 0] 24)) := below_alloc _ (Nat.le_refl _) (Below.refl _ _)
  have z0 : (w6.alloc (.cells #[.int .i64 0, .int .i64 0] 24)).cell? ⟨w6.heap.size, 0, none⟩ = some (.int .i64 0) := cell_new (by simp) rfl
  have z1 : (w6.alloc (.cells #[.int .i64 0, .int .i64 0] 24)).cell? ⟨w6.heap.size, 1, none⟩ = some (.int .i64 0) := cell_new (by simp) rfl
  have zz : w6.heap.size < (w6.alloc (.cells #[.int .i64 0, .int .i64 0] 24)).heap.size := World.block_lt_of_cell? _ _ z0
  generalize (w6.alloc (.cells #[.int .i64 0, .int .i64 0] 24)) = w7 at *
  have h7 : Below w.heap.size w w7 := (h6).trans ((hb7).mono (h6).size)
  replace r0 := cell_below' hb7 r0
  replace r1 := cell_below' hb7 r1
  replace r2 := cell_below' hb7 r2
  replace zr := Nat.lt_of_lt_of_le zr (hb7).size
  replace x0 := cell_below' hb7 x0
  replace x1 := cell_below' hb7 x1
  replace x2 := cell_below' hb7 x2
  replace x3 := cell_below' hb7 x3
  replace zx := Nat.lt_of_lt_of_le zx (hb7).size
  replace y0 := cell_below' hb7 y0
  replace y1 := cell_below' hb7 y1
  replace y2 := cell_below' hb7 y2
  replace zy := Nat.lt_of_lt_of_le zy (hb7).size
  clear hb7 h6
  generalize w6.heap.size = zb at *
  go_cut [] from 70 to 109 (fun wx => Below w7.heap.size w7 wx)
  case first =>
    clear HQ1 HQ2 HQ3 HQ4 HRR HPV HPE hz1 y0 y1 y2
    cases bR
    · obtain ⟨rfl, rfl⟩ : o1 = 0 ∧ o2 = 2 := by simpa using HO1.out HPB.out
      clear HO1 HO2 HO3 HPB HRO
      go_wp2_with (fail)
      refine (HW0.out _).mono ?_
      rintro e w' ⟨rfl, rfl⟩
      go_wp2_with (fail)
      go_meet
      exact Below.refl _ _
    cases bI
    · obtain ⟨rfl, rfl⟩ : o1 = 0 ∧ o2 = 2 := by simpa using HO1.out HPB.out
      clear HO1 HO2 HO3 HPB HRO
      go_wp2_with (fail)
      refine (HW0.out _).mono ?_
      rintro e w' ⟨rfl, rfl⟩
      go_wp2_with (fail)
      refine (HW1.out _).mono ?_
      rintro e w' ⟨rfl, rfl⟩
      go_wp2_with (fail)
      go_meet
      exact Below.refl _ _
    have HPB2 : bP = true := HPB.out
    cases n0
    · obtain ⟨rfl, rfl⟩ : o1 = 0 ∧ o2 = 11 := by simpa using HO2.out HPB2 (by first | rfl | trivial)
      clear HO1 HO2 HO3 HPB HPB2 HRO
      go_wp2_with (fail)
      refine (HW0.out _).mono ?_
      rintro e w' ⟨rfl, rfl⟩
      go_wp2_with (fail)
      refine (HW1.out _).mono ?_
      rintro e w' ⟨rfl, rfl⟩
      go_wp2_with (fail)
      go_meet
      exact Below.refl _ _
    · obtain ⟨rfl, rfl⟩ : o1 = og ∧ o2 = 0 := by simpa using HO3.out HPB2 (by first | rfl | trivial)
      have HRO2 := Lib.hid (fun W => HRO.out HPB2 (by first | rfl | trivial) W)
      clear HO1 HO2 HO3 HPB HPB2 HRO
      go_wp2_with (fail)
      refine (HW0.out _).mono ?_
      rintro e w' ⟨rfl, rfl⟩
      go_wp2_with (fail)
      refine (HW1.out _).mono ?_
      rintro e w' ⟨rfl, rfl⟩
      go_wp2_with (fail)
      refine (HRO2.out _).mono ?_
      rintro e w8 ⟨rfl, hb8⟩
      clear HRO2
      go_wp2_with (fail)
      go_meet
      exact hb8
  case rest =>
  obtain ⟨w8, rfl⟩ : ∃ w8 : World, w8 = wc := ⟨_, rfl⟩
  have hb8 : Below w7.heap.size w7 w8 := hcut
  clear hcut HW0 HW1 HO1 HO2 HO3 HRO HPB
  have h8 : Below w.heap.size w w8 := (h7).trans ((hb8).mono (h7).size)
  replace r0 := cell_below' hb8 r0
  replace r1 := cell_below' hb8 r1
  replace r2 := cell_below' hb8 r2
  replace zr := Nat.lt_of_lt_of_le zr (hb8).size
  replace x0 := cell_below' hb8 x0
  replace x1 := cell_below' hb8 x1
  replace x2 := cell_below' hb8 x2
  replace x3 := cell_below' hb8 x3
  replace zx := Nat.lt_of_lt_of_le zx (hb8).size
  replace y0 := cell_below' hb8 y0
  replace y1 := cell_below' hb8 y1
  replace y2 := cell_below' hb8 y2
  replace zy := Nat.lt_of_lt_of_le zy (hb8).size
  replace z0 := cell_below' hb8 z0
  replace z1 := cell_below' hb8 z1
  replace zz := Nat.lt_of_lt_of_le zz (hb8).size
  clear hb8 h7
  go_upto_region 22 with (fail)
  go_cut [118] from 110 to 118 (fun t wx => ∃ bC : Bool, t = .bool bC ∧ (bC = false → PE = 0 ∧ bS = true) ∧ (bC = true → PE = 2 ∨ (PE = 0 ∧ bS = false)) ∧ Below w8.heap.size w8 wx)
  case first =>
    clear HQ1 HQ2 HQ3 HQ4 HRR hz0 hz1 y0 y1 y2 z0 z1
    go_wp2_with (fail)
    refine (HPE.out _).mono ?_
    rintro e w9 ⟨rfl, hb9⟩
    have hk := hb9
    have h9 : Below w.heap.size w w9 := (h8).trans ((hb9).mono (h8).size)
    replace r0 := cell_below' hb9 r0
    replace r1 := cell_below' hb9 r1
    replace r2 := cell_below' hb9 r2
    replace zr := Nat.lt_of_lt_of_le zr (hb9).size
    clear hb9 h8
    rcases HPV.out with rfl | rfl
    · go_wp2_with (fail)
      refine (HS.out _).mono ?_
      rintro e w' ⟨rfl, rfl⟩
      cases bS
      · go_wp2_with (fail)
        go_meet
        exact ⟨true, rfl, fun h => (by cases h), fun _ => .inr (by simp), hk⟩
      · go_wp2_with (fail)
        go_meet
        exact ⟨false, rfl, fun _ => (by simp), fun h => (by cases h), hk⟩
    · go_wp2_with (fail)
      go_meet
      exact ⟨true, rfl, fun h => (by cases h), fun _ => .inl (by first | rfl | trivial), hk⟩
  case rest =>
  obtain ⟨w9, rfl⟩ : ∃ w9 : World, w9 = wc := ⟨_, rfl⟩
  obtain ⟨bC, rfl, hF, hT, hb9⟩ := hcut
  clear HPE HPV HS
  have h9 : Below w.heap.size w w9 := (h8).trans ((hb9).mono (h8).size)
  replace r0 := cell_below' hb9 r0
  replace r1 := cell_below' hb9 r1
  replace r2 := cell_below' hb9 r2
  replace zr := Nat.lt_of_lt_of_le zr (hb9).size
  replace x0 := cell_below' hb9 x0
  replace x1 := cell_below' hb9 x1
  replace x2 := cell_below' hb9 x2
  replace x3 := cell_below' hb9 x3
  replace zx := Nat.lt_of_lt_of_le zx (hb9).size
  replace y0 := cell_below' hb9 y0
  replace y1 := cell_below' hb9 y1
  replace y2 := cell_below' hb9 y2
  replace zy := Nat.lt_of_lt_of_le zy (hb9).size
  replace z0 := cell_below' hb9 z0
  replace z1 := cell_below' hb9 z1
  replace zz := Nat.lt_of_lt_of_le zz (hb9).size
  clear hb9 h8
  cases bC
  rotate_left 1
  · have hv : v0 = 0 ∧ v1 = 0 ∧ v2 = 0 ∧ v3 = 2 := by
      rcases hT rfl with h | ⟨h, h'⟩
      · simpa [and_assoc] using HQ1.out h
      · simpa [and_assoc] using HQ2.out h h'
    obtain ⟨rfl, rfl, rfl, rfl⟩ := hv
    clear HQ1 HQ2 HQ3 HQ4 HRR hz0 hz1 hF hT
    go_wp2_with (fail)
    go_ret
    exact ⟨rfl, h9⟩
  · obtain ⟨rfl, rfl⟩ := hF rfl
    have HQ3' := Lib.hid (fun h => HQ3.out (by first | rfl | trivial) (by first | rfl | trivial) h)
    have HQ4' := Lib.hid (fun h => HQ4.out (by first | rfl | trivial) (by first | rfl | trivial) h)
    have HRR' := Lib.hid (fun h h2 W => HRR.out (by first | rfl | trivial) h h2 W)
    clear HQ1 HQ2 HQ3 HQ4 HRR hF hT
    by_cases hn : (n0 && n1) = true
    · have hv : rdoP ⟨x00, x01⟩ ⟨x10, x11⟩ rs = ⟨v0, v1, v2⟩ ∧ v3 = 0 := by
        have h := HQ4'.out hn
        rw [Prod.mk.injEq] at h
        exact ⟨h.1.symm, h.2⟩
      obtain ⟨hv, rfl⟩ := hv
      rw [hv] at HRR'
      obtain ⟨rfl, rfl⟩ : n0 = true ∧ n1 = true := by simpa using hn
      have HRD := Lib.hid (fun W => HRR'.out (by first | rfl | trivial) (by first | rfl | trivial) W)
      have hqr := eqRd v0 v1 v2
      clear HQ3' HQ4' HRR' hn hv
      go_upto_region 26 with (fail)
      (refine region_extx 13 (by kernel_rfl) (by kernel_rfl) fun hx => ?_; simp only [List.take_succ_cons, List.take_zero, List.drop_succ_cons, List.drop_zero]; (repeat (any_goals (first | go_big_quiet_step (((go_at_call 75; with_reducible exact ext_call (HRD.out _)))) | quiet_step (((go_at_call 75; with_reducible exact ext_call (HRD.out _))))))))
      (refine wpQuiet_nil ?_; clear hx; intro u; have hbwa := ext_bel _ u; have hxwa := ext_cell _ u; generalize ext _ u = wa at *; clear u; have hswa := hbwa.size; (try simp at hswa))
      have ha := h9.trans (hbwa.mono h9.size)
      go_wp2_with (fail)
      go_ret
      exact ⟨rfl, ha⟩
    · have hv : v0 = 0 ∧ v1 = 0 ∧ v2 = 0 ∧ v3 = 11 := by
        have h := HQ3'.out (by simpa using hn)
        simpa [and_assoc] using h
      obtain ⟨rfl, rfl, rfl, rfl⟩ := hv
      clear HQ3' HQ4' HRR'
      cases n0
      · clear hn hz1
        go_wp2_with (fail)
        go_ret
        exact ⟨rfl, h9⟩
      · obtain rfl : n1 = false := by simpa using hn
        clear hn
        go_wp2_with (fail)
        go_ret
        exact ⟨rfl, h9⟩
end Go.Proofs.YtppghnbabnhnbaaDoor
