/-
  Chapter 2: EchoOctants, walked.
-/
import Derived.Test.YtppghnbabnhnbaaDoorEOcL
import Derived.Test.YtppghnbabnhnbaaDoorEPhs
namespace Go.Proofs.YtppghnbabnhnbaaDoor
open Go.ChangeShapes Go.WideShapes Go.ChangeAt Go.RowKit
set_option linter.unusedVariables false
set_option linter.unusedSimpArgs false

theorem octQ_ok {g : Gs} (h : Sz 1000000000 g) (hn : nzP g.re g.im) : octQ g = (octG g, 0) := by
  have h1 : prtB 1000000000 g = true := prtB_of h
  have h2 : neB g gz = true := by
    refine neB_of fun e => ?_
    rw [e] at hn
    unfold nzP gz at hn
    simp at hn
  exact octQ_3 h1 h2
theorem neB_ff {g : Gs} (h : neB g gz = false) : g = gz := by
  by_cases e : g = gz
  · exact e
  · rw [neB_of e] at h; cases h
/-- the law's second number -/
def mod100 (g : Gs) : Gs := ⟨g.re % 100, g.im % 100⟩
set_option maxRecDepth 100000 in
set_option maxHeartbeats 16000000 in
theorem EchoOctants_any (g : Gs) (k m : Int) (w : World) (ht : Tab w) :
    Calls Tryd.prog 8 #[gv g, .int .i64 k, .int .i64 m] w fun e w' => e = .returned (.bool true) ∧ Below w.heap.size w w' := by
  have HT := Lib.hid ht
  have HSE := Lib.hid (fun W => RSampleErr_any g W)
  have HK := Lib.hid (fun W => Within_any k 0 3 W)
  have HM := Lib.hid (fun W => Within_any m 1 1000 W)
  have hz := eqGn g
  clear ht
  by_cases hok : neB g gz = true ∧ smpE g = 0 ∧ withinB k 0 3 = true ∧ withinB m 1 1000 = true
  rotate_left 1
  · generalize neB g gz = n0 at *
    generalize smpE g = E at *
    generalize withinB k 0 3 = bk at *
    generalize withinB m 1 1000 = bm at *
    obtain ⟨g0, g1⟩ := g
    simp only [gv] at *
    have HOK := Lib.hid hok
    clear hok
    go_enter Tryd.func8, Tryd.ntmps8
    go_upto_region 1 with (fail)
    have hb0 : Below w.heap.size w (w.alloc (.cells #[.int .i64 g0, .int .i64 g1] 24)) := below_alloc _ (Nat.le_refl _) (Below.refl _ _)
    have c0 : (w.alloc (.cells #[.int .i64 g0, .int .i64 g1] 24)).cell? ⟨w.heap.size, 0, none⟩ = some (.int .i64 g0) := cell_new (by simp) rfl
    have c1 : (w.alloc (.cells #[.int .i64 g0, .int .i64 g1] 24)).cell? ⟨w.heap.size, 1, none⟩ = some (.int .i64 g1) := cell_new (by simp) rfl
    have zc : w.heap.size < (w.alloc (.cells #[.int .i64 g0, .int .i64 g1] 24)).heap.size := World.block_lt_of_cell? _ _ c0
    generalize (w.alloc (.cells #[.int .i64 g0, .int .i64 g1] 24)) = w0 at *
    have HT0 := Lib.hid (HT.out.below hb0)
    go_wp2_with (fail)
    refine (awake_any w0 HT0.out).mono ?_
    rintro e w1 ⟨rfl, hb1⟩
    have h1 : Below w.heap.size w w1 := (hb0).trans ((hb1).mono (hb0).size)
    replace c0 := cell_below' hb1 c0
    replace c1 := cell_below' hb1 c1
    replace zc := Nat.lt_of_lt_of_le zc (hb1).size
    clear hb1 hb0
    clear HT HT0
    cases n0
    · go_wp2_with (fail)
      go_ret
      exact ⟨rfl, h1⟩
    go_wp2_with (fail)
    refine (HSE.out _).mono ?_
    rintro e w2 ⟨rfl, hb2⟩
    have h2 : Below w.heap.size w w2 := (h1).trans ((hb2).mono (h1).size)
    replace c0 := cell_below' hb2 c0
    replace c1 := cell_below' hb2 c1
    replace zc := Nat.lt_of_lt_of_le zc (hb2).size
    clear hb2 h1
    by_cases hE : E = 0
    rotate_left 1
    · have e1 : (E != 0) = true := by simpa using hE
      go_wp2_with (fail)
      go_ret
      exact ⟨rfl, h2⟩
    subst hE
    go_wp2_with (fail)
    refine (HK.out _).mono ?_
    rintro e w' ⟨rfl, rfl⟩
    cases bk
    · go_wp2_with (fail)
      go_ret
      exact ⟨rfl, h2⟩
    go_wp2_with (fail)
    refine (HM.out _).mono ?_
    rintro e w' ⟨rfl, rfl⟩
    cases bm
    · go_wp2_with (fail)
      go_ret
      exact ⟨rfl, h2⟩
    · exact absurd ⟨by first | rfl | trivial, by first | rfl | trivial, by first | rfl | trivial, by first | rfl | trivial⟩ HOK.out
  obtain ⟨hn0, hs0, hk0, hm0⟩ := hok
  have hnz := neB_nz hn0
  have hsz := smpE_zero hs0
  obtain ⟨k0, k3⟩ := withinB_true.1 hk0
  obtain ⟨m1, m1000⟩ := withinB_true.1 hm0
  obtain ⟨kn, rfl⟩ : ∃ kn : Nat, k = kn := ⟨k.toNat, by omega⟩
  have hk4 : kn < 4 := by omega
  rw [hn0] at hz
  rw [hs0] at HSE
  rw [hk0] at HK
  rw [hm0] at HM
  have q1 := octQ_ok (hsz.mono (by decide)) hnz
  have HO1 := Lib.hid (fun W => OctantOf_any g W)
  rw [q1] at HO1
  have HTM := Lib.hid (fun W => RTimes_any g kn W hk4 (hsz.mono (by decide)))
  have q2 := octQ_ok ((Sz.rotN hsz kn).mono (by decide)) (nz_rotN hnz kn)
  have HO2 := Lib.hid (fun W => OctantOf_any (rotN kn g) W)
  rw [q2, oct_rotN hnz kn] at HO2
  have hnm : nzP (m * g.re) (m * g.im) := by
    rcases hnz with h | h
    · exact .inl (Int.mul_ne_zero (by omega) h)
    · exact .inr (Int.mul_ne_zero (by omega) h)
  obtain ⟨gr0, gr1, gi0, gi1⟩ := hsz
  obtain ⟨u0, u1⟩ := mul_bd (a := m) (b := g.re) (M := 1000) (N := 10000) (by omega) m1000 gr0 gr1
  obtain ⟨u2, u3⟩ := mul_bd (a := m) (b := g.im) (M := 1000) (N := 10000) (by omega) m1000 gi0 gi1
  have q3 := octQ_ok (g := ⟨m * g.re, m * g.im⟩) ⟨by simp only; omega, by simp only; omega, by simp only; omega, by simp only; omega⟩ hnm
  have HO3 := Lib.hid (fun W => OctantOf_any ⟨m * g.re, m * g.im⟩ W)
  rw [q3, show octG ⟨m * g.re, m * g.im⟩ = octG g from oct_scale (by omega) hnz] at HO3
  obtain ⟨og0, og7⟩ : 0 ≤ octG g ∧ octG g ≤ 7 := oct_bd g.re g.im
  have HW := Lib.hid (fun W => Within_any (octG g) 0 7 W)
  rw [withinB_true.2 ⟨og0, og7⟩] at HW
  have hrem : (octG g + 2 * (kn : Int)).tmod 8 = (octG g + 2 * (kn : Int)) % 8 := Int.tmod_eq_emod_of_nonneg (by omega)
  have HM0 := Lib.hid (fun W => Mod_any g.re 100 W (by decide) (by decide))
  have HM1 := Lib.hid (fun W => Mod_any g.im 100 W (by decide) (by decide))
  have HM2 := Lib.hid (fun W => Mod_any m 100 W (by decide) (by decide))
  have b00 := Int.emod_nonneg g.re (show (100 : Int) ≠ 0 by decide)
  have b01 := Int.emod_lt_of_pos g.re (show (0 : Int) < 100 by decide)
  have b10 := Int.emod_nonneg g.im (show (100 : Int) ≠ 0 by decide)
  have b11 := Int.emod_lt_of_pos g.im (show (0 : Int) < 100 by decide)
  have l0 := Int.emod_nonneg m (show (100 : Int) ≠ 0 by decide)
  have l1 := Int.emod_lt_of_pos m (show (0 : Int) < 100 by decide)
  clear q1 q2 q3 hnm hnz hn0 hs0 hk0 hm0
  generalize (octG g + 2 * (kn : Int)) % 8 = o2 at *
  generalize octG g = og at *
  generalize rotN kn g = gt at *
  generalize g.re % 100 = b0 at *
  generalize g.im % 100 = b1 at *
  generalize m % 100 = ml at *
  have hkk : (kn : Int) ≤ 3 := by omega
  obtain ⟨g0, g1⟩ := g
  obtain ⟨t0, t1⟩ := gt
  simp only [gv] at *
  go_enter Tryd.func8, Tryd.ntmps8
  go_upto_region 1 with (fail)
  have hb0 : Below w.heap.size w (w.alloc (.cells #[.int .i64 g0, .int .i64 g1] 24)) := below_alloc _ (Nat.le_refl _) (Below.refl _ _)
  have c0 : (w.alloc (.cells #[.int .i64 g0, .int .i64 g1] 24)).cell? ⟨w.heap.size, 0, none⟩ = some (.int .i64 g0) := cell_new (by simp) rfl
  have c1 : (w.alloc (.cells #[.int .i64 g0, .int .i64 g1] 24)).cell? ⟨w.heap.size, 1, none⟩ = some (.int .i64 g1) := cell_new (by simp) rfl
  have zc : w.heap.size < (w.alloc (.cells #[.int .i64 g0, .int .i64 g1] 24)).heap.size := World.block_lt_of_cell? _ _ c0
  generalize (w.alloc (.cells #[.int .i64 g0, .int .i64 g1] 24)) = w0 at *
  have HT0 := Lib.hid (HT.out.below hb0)
  go_wp2_with (fail)
  refine (awake_any w0 HT0.out).mono ?_
  rintro e w1 ⟨rfl, hb1⟩
  have h1 : Below w.heap.size w w1 := (hb0).trans ((hb1).mono (hb0).size)
  replace c0 := cell_below' hb1 c0
  replace c1 := cell_below' hb1 c1
  replace zc := Nat.lt_of_lt_of_le zc (hb1).size
  clear hb1 hb0
  clear HT HT0
  go_wp2_with (fail)
  refine (HSE.out _).mono ?_
  rintro e w2 ⟨rfl, hb2⟩
  have h2 : Below w.heap.size w w2 := (h1).trans ((hb2).mono (h1).size)
  replace c0 := cell_below' hb2 c0
  replace c1 := cell_below' hb2 c1
  replace zc := Nat.lt_of_lt_of_le zc (hb2).size
  clear hb2 h1
  go_wp2_with (fail)
  refine (HK.out _).mono ?_
  rintro e w' ⟨rfl, rfl⟩
  go_wp2_with (fail)
  refine (HM.out _).mono ?_
  rintro e w' ⟨rfl, rfl⟩
  go_wp2_with (fail)
  refine (HO1.out _).mono ?_
  rintro e w3 ⟨rfl, hb3⟩
  have h3 : Below w.heap.size w w3 := (h2).trans ((hb3).mono (h2).size)
  replace c0 := cell_below' hb3 c0
  replace c1 := cell_below' hb3 c1
  replace zc := Nat.lt_of_lt_of_le zc (hb3).size
  clear hb3 h2
  clear HO1 HK HM HSE hz
  go_wp2_with (fail)
  refine (HTM.out _).mono ?_
  rintro e w4 ⟨rfl, hb4⟩
  have h4 : Below w.heap.size w w4 := (h3).trans ((hb4).mono (h3).size)
  replace c0 := cell_below' hb4 c0
  replace c1 := cell_below' hb4 c1
  replace zc := Nat.lt_of_lt_of_le zc (hb4).size
  clear hb4 h3
  go_wp2_with (fail)
  have hb5 : Below w4.heap.size w4 (w4.alloc (.cells #[.int .i64 t0, .int .i64 t1] 24)) := below_alloc _ (Nat.le_refl _) (Below.refl _ _)
  have d0 : (w4.alloc (.cells #[.int .i64 t0, .int .i64 t1] 24)).cell? ⟨w4.heap.size, 0, none⟩ = some (.int .i64 t0) := cell_new (by simp) rfl
  have d1 : (w4.alloc (.cells #[.int .i64 t0, .int .i64 t1] 24)).cell? ⟨w4.heap.size, 1, none⟩ = some (.int .i64 t1) := cell_new (by simp) rfl
  have zd : w4.heap.size < (w4.alloc (.cells #[.int .i64 t0, .int .i64 t1] 24)).heap.size := World.block_lt_of_cell? _ _ d0
  generalize (w4.alloc (.cells #[.int .i64 t0, .int .i64 t1] 24)) = w5 at *
  have h5 : Below w.heap.size w w5 := (h4).trans ((hb5).mono (h4).size)
  replace c0 := cell_below' hb5 c0
  replace c1 := cell_below' hb5 c1
  replace zc := Nat.lt_of_lt_of_le zc (hb5).size
  clear hb5 h4
  generalize w4.heap.size = db at *
  refine (HO2.out _).mono ?_
  rintro e w6 ⟨rfl, hb6⟩
  have h6 : Below w.heap.size w w6 := (h5).trans ((hb6).mono (h5).size)
  replace c0 := cell_below' hb6 c0
  replace c1 := cell_below' hb6 c1
  replace zc := Nat.lt_of_lt_of_le zc (hb6).size
  clear hb6 h5
  clear d0 d1 zd HTM HO2
  go_wp2_with (fail)
  refine (HO3.out _).mono ?_
  rintro e w7 ⟨rfl, hb7⟩
  have h7 : Below w.heap.size w w7 := (h6).trans ((hb7).mono (h6).size)
  replace c0 := cell_below' hb7 c0
  replace c1 := cell_below' hb7 c1
  replace zc := Nat.lt_of_lt_of_le zc (hb7).size
  clear hb7 h6
  clear HO3
  go_wp2_with (fail)
  refine (HW.out _).mono ?_
  rintro e w' ⟨rfl, rfl⟩
  clear HW
  go_upto_region 11 with (fail)
  (refine region_alloc (T := ?_) (obj := (.cells #[.int .i64 0, .int .i64 0] 24)) (val := (fun nb => .pointer (some ⟨nb, 0, none⟩))) 7 14 (by kernel_rfl) (by kernel_rfl) rfl rfl rfl (Nat.le_of_ble_eq_true rfl) ?_ ?_ ?_; rotate_left 1)
  focus (intro W0 hB0 hx; simp only [List.take_succ_cons, List.take_zero]; (repeat (any_goals (first | go_big_quiet_step (first | ((go_at_call 53; with_reducible exact ext_same (HM0.out _))) | ((go_at_call 53; with_reducible exact ext_same (HM1.out _)))) | quiet_step (first | ((go_at_call 53; with_reducible exact ext_same (HM0.out _))) | ((go_at_call 53; with_reducible exact ext_same (HM1.out _))))))); refine wpQuiet_nil ?_; exact rfl)
  focus (intro W; go_simp; done)
  (intro W0 w8 hB0 hB1; obtain ⟨hbw8, hnw8, hsw8, hkw8⟩ := alloc_out hB0 hB1; clear hB0 hB1; simp only [List.drop_succ_cons, List.drop_zero]; generalize W0.heap.size = nb at *; clear W0)
  have ob0 := blk_cell hkw8 (j := 0) rfl
  have ob1 := blk_cell hkw8 (j := 1) rfl
  have obf0 := blk_frozen (j := 0) hkw8
  have obf1 := blk_frozen (j := 1) hkw8
  have zob : nb < w8.heap.size := hsw8
  have qle : w.heap.size ≤ nb := Nat.le_trans h7.size hnw8
  have h8 : Below w.heap.size w w8 := h7.trans (hbw8.mono h7.size)
  clear hnw8 hkw8 hsw8 hbw8 h7 c0 c1 zc HM0 HM1
  go_upto_region 12 with (fail)
  have h9 : Below w.heap.size w ((w8.setCell ⟨nb, 0, none⟩ (.int .i64 b0)).setCell ⟨nb, 1, none⟩ (.int .i64 b1)) := below_set _ (by simp; try omega) (below_set _ (by simp; try omega) (h8))
  replace ob0 : ((w8.setCell ⟨nb, 0, none⟩ (.int .i64 b0)).setCell ⟨nb, 1, none⟩ (.int .i64 b1)).cell? ⟨nb, 0, none⟩ = some (.int .i64 b0) := cell_next (by decide) (cell_same (ob0))
  replace ob1 : ((w8.setCell ⟨nb, 0, none⟩ (.int .i64 b0)).setCell ⟨nb, 1, none⟩ (.int .i64 b1)).cell? ⟨nb, 1, none⟩ = some (.int .i64 b1) := cell_same (cell_next (by decide) (ob1))
  replace obf0 := (show World.frozen? ((w8.setCell ⟨nb, 0, none⟩ (.int .i64 b0)).setCell ⟨nb, 1, none⟩ (.int .i64 b1)) ⟨nb, 0, none⟩ = false from frozen_set _ _ (frozen_set _ _ (obf0)))
  replace obf1 := (show World.frozen? ((w8.setCell ⟨nb, 0, none⟩ (.int .i64 b0)).setCell ⟨nb, 1, none⟩ (.int .i64 b1)) ⟨nb, 1, none⟩ = false from frozen_set _ _ (frozen_set _ _ (obf1)))
  have hszQ : ((w8.setCell ⟨nb, 0, none⟩ (.int .i64 b0)).setCell ⟨nb, 1, none⟩ (.int .i64 b1)).heap.size = w8.heap.size := by simp
  replace zob : nb < ((w8.setCell ⟨nb, 0, none⟩ (.int .i64 b0)).setCell ⟨nb, 1, none⟩ (.int .i64 b1)).heap.size := by rw [hszQ]; exact zob
  clear hszQ h8
  generalize ((w8.setCell ⟨nb, 0, none⟩ (.int .i64 b0)).setCell ⟨nb, 1, none⟩ (.int .i64 b1)) = w9 at *
  have hz1 := eqGn ⟨b0, b1⟩
  simp only at hz1
  have HNZ := Lib.hid (@neB_nz ⟨b0, b1⟩)
  cases hn1 : neB ⟨b0, b1⟩ gz
  · rw [hn1] at hz1
    clear hn1
    go_wp2_with (fail)
    go_ret
    exact ⟨rfl, h9⟩
  rw [hn1] at hz1
  have hbz := HNZ.out hn1
  clear HNZ hn1
  have hbs : Sz 99 ⟨b0, b1⟩ := ⟨by simp only; omega, by simp only; omega, by simp only; omega, by simp only; omega⟩
  have HTB := Lib.hid (fun W => RTimes_any ⟨b0, b1⟩ kn W hk4 (hbs.mono (by decide)))
  have hts := Sz.rotN hbs kn
  have HGM := Lib.hid (fun W => GMul_any (rotN kn ⟨b0, b1⟩) ⟨ml + 1, 0⟩ W (hts.mono (by decide)) ⟨by simp only; omega, by simp only; omega, by simp only; omega, by simp only; omega⟩)
  have HRD := Lib.hid (fun W => ReadingOf_any ⟨b0, b1⟩ (gmul (rotN kn ⟨b0, b1⟩) ⟨ml + 1, 0⟩) 5 W)
  have hoc := rd_turn (n := ml + 1) hk4 (by omega) hbz
  have hpr : Sz 9900 (gmul (rotN kn ⟨b0, b1⟩) ⟨ml + 1, 0⟩) := by
    obtain ⟨a0, a1, a2, a3⟩ := hts
    generalize rotN kn ⟨b0, b1⟩ = tt at *
    obtain ⟨x, y⟩ := tt
    simp only at a0 a1 a2 a3
    obtain ⟨e0, e1⟩ := mul_bd (a := x) (b := ml + 1) (M := 99) (N := 100) a0 a1 (by omega) (by omega)
    obtain ⟨e2, e3⟩ := mul_bd (a := y) (b := ml + 1) (M := 99) (N := 100) a2 a3 (by omega) (by omega)
    exact ⟨by simp only [gmul]; omega, by simp only [gmul]; omega, by simp only [gmul]; omega, by simp only [gmul]; omega⟩
  have hprn : nzP (gmul (rotN kn ⟨b0, b1⟩) ⟨ml + 1, 0⟩).re (gmul (rotN kn ⟨b0, b1⟩) ⟨ml + 1, 0⟩).im := by
    have h1 := nz_rotN hbz kn
    generalize rotN kn ⟨b0, b1⟩ = tt at *
    obtain ⟨x, y⟩ := tt
    simp only [gmul, Int.mul_zero, Int.sub_zero, Int.zero_add] at h1 ⊢
    rcases h1 with h | h
    · exact .inl (Int.mul_ne_zero h (by omega))
    · exact .inr (Int.mul_ne_zero h (by omega))
  have hq : rdoQ ⟨b0, b1⟩ (gmul (rotN kn ⟨b0, b1⟩) ⟨ml + 1, 0⟩) 5 = (⟨5, 90 * (2 * (kn : Int)) + 45, 45⟩, 0) := by
    have e1 : pairE ⟨b0, b1⟩ (gmul (rotN kn ⟨b0, b1⟩) ⟨ml + 1, 0⟩) = 0 := by
      unfold pairE smpE
      rw [prtB_of (hbs.mono (by decide)), prtB_of (hpr.mono (by decide))]
      rfl
    have e2 : neB ⟨b0, b1⟩ gz = true := neB_of fun e => by rw [e] at hbz; simp [nzP, gz] at hbz
    have e3 : neB (gmul (rotN kn ⟨b0, b1⟩) ⟨ml + 1, 0⟩) gz = true := neB_of fun e => by rw [e] at hprn; simp [nzP, gz] at hprn
    rw [rdoQ_4 e1 (by rfl) (by rw [e2, e3]; rfl), rdoP, hoc]
  rw [hq] at HRD
  obtain ⟨P, hP⟩ : ∃ P : Int, P = 90 * (2 * (kn : Int)) + 45 := ⟨_, rfl⟩
  have HC := Lib.hid (fun W => RCheckReading_any ⟨5, P, 45⟩ W)
  rw [rdE_of (r := ⟨5, P, 45⟩) ⟨show (-360 : Int) ≤ 5 by decide, show (5 : Int) ≤ 360 by decide, by simp only; omega, by simp only; omega, show (0 : Int) ≤ 45 by decide, show (45 : Int) ≤ 360 by decide⟩] at HC
  have HA := Lib.hid (fun W => Apart_any P (180 * (kn : Int)) W (by omega) (by omega) (by omega) (by omega))
  have hd : dstP P (180 * (kn : Int)) = 45 := by
    have e : (P - 180 * (kn : Int)) % 720 = 45 := by omega
    unfold dstP
    rw [e]
    rfl
  rw [hd] at HA
  rw [← hP] at HRD
  clear hd hq hprn hpr hoc hts hbs hbz hP
  generalize gmul (rotN kn ⟨b0, b1⟩) ⟨ml + 1, 0⟩ = pr at *
  generalize rotN kn ⟨b0, b1⟩ = tb at *
  obtain ⟨tb0, tb1⟩ := tb
  obtain ⟨pr0, pr1⟩ := pr
  simp only [gv, rv] at HTB HGM HRD HC
  go_wp2_with (fail)
  refine (HM2.out _).mono ?_
  rintro e w' ⟨rfl, rfl⟩
  go_upto_region 15 with (fail)
  have hba : Below w9.heap.size w9 (w9.alloc (.cells #[.int .i64 (ml + 1), .int .i64 0] 24)) := below_alloc _ (Nat.le_refl _) (Below.refl _ _)
  have lx0 : (w9.alloc (.cells #[.int .i64 (ml + 1), .int .i64 0] 24)).cell? ⟨w9.heap.size, 0, none⟩ = some (.int .i64 (ml + 1)) := cell_new (by simp) rfl
  have lx1 : (w9.alloc (.cells #[.int .i64 (ml + 1), .int .i64 0] 24)).cell? ⟨w9.heap.size, 1, none⟩ = some (.int .i64 0) := cell_new (by simp) rfl
  have zlx : w9.heap.size < (w9.alloc (.cells #[.int .i64 (ml + 1), .int .i64 0] 24)).heap.size := World.block_lt_of_cell? _ _ lx0
  generalize (w9.alloc (.cells #[.int .i64 (ml + 1), .int .i64 0] 24)) = wa at *
  have ha : Below w.heap.size w wa := (h9).trans ((hba).mono (h9).size)
  replace ob0 := cell_below' hba ob0
  replace ob1 := cell_below' hba ob1
  replace zob := Nat.lt_of_lt_of_le zob (hba).size
  clear hba h9
  generalize w9.heap.size = lb at *
  go_cut [16, 17] from 107 to 116 (fun s t wx => ∃ nr : Nat, s = .pointer (some ⟨nr, 0, none⟩) ∧ t = .int .i64 0 ∧ w.heap.size ≤ nr ∧ wx.cell? ⟨nr, 0, none⟩ = some (.int .i64 5) ∧ wx.cell? ⟨nr, 1, none⟩ = some (.int .i64 P) ∧ wx.cell? ⟨nr, 2, none⟩ = some (.int .i64 45) ∧ Below w.heap.size w wx)
  case first =>
    clear HC HA hz1 l0 l1
    have qw : w.heap.size ≤ wa.heap.size := ha.size
    go_region_held3 (fun w' => w'.cell? ⟨nb, 0, none⟩ = some (.int .i64 b0) ∧ w'.cell? ⟨nb, 1, none⟩ = some (.int .i64 b1) ∧ w'.cell? ⟨lb, 0, none⟩ = some (.int .i64 (ml + 1)) ∧ w'.cell? ⟨lb, 1, none⟩ = some (.int .i64 0)) ((((try go_split_ands); (repeat' (apply And.intro)) <;> (repeat (first | (with_reducible assumption) | (with_reducible refine cell_drew ?_) | (with_reducible refine cell_alloc _ ?_) | (with_reducible refine cell_below' (by with_reducible assumption) ?_) | (with_reducible refine cell_far ?_ ?_; focus (first | omega | (simp; omega) | (simp; done)))))))) (first
      | (go_at_call 47; (with_reducible refine (HTB.out _).mono ?_); rintro e x1 ⟨rfl, hx1⟩; (have hy1 : wa.heap.size ≤ x1.heap.size := (by have := hx1.size; (try simp at this); omega)); (try have v0 : World.cell? x1 ⟨(wa).heap.size, 0, none⟩ = some (.int .i64 0) := cell_below' hx1 (cell_new (by simp) rfl)); (try have v1 : World.cell? x1 ⟨(wa).heap.size, 1, none⟩ = some (.int .i64 0) := cell_below' hx1 (cell_new (by simp) rfl)); (try have v2 : World.cell? x1 ⟨(wa).heap.size, 2, none⟩ = some (.int .i64 0) := cell_below' hx1 (cell_new (by simp) rfl)); (try have y0 : World.frozen? x1 ⟨(wa).heap.size, 0, none⟩ = false := frozen_below hx1 (by simp) (frozen_new (by simp))); (try have y1 : World.frozen? x1 ⟨(wa).heap.size, 1, none⟩ = false := frozen_below hx1 (by simp) (frozen_new (by simp))); (try have y2 : World.frozen? x1 ⟨(wa).heap.size, 2, none⟩ = false := frozen_below hx1 (by simp) (frozen_new (by simp))))
      | (go_at_call 22; (with_reducible refine (HGM.out _).mono ?_); rintro e x2 ⟨rfl, hx2⟩; (have hy2 : wa.heap.size ≤ x2.heap.size := (by have := hx2.size; (try simp at this); omega)); (try replace y0 := frozen_below hx2 (World.block_lt_of_cell? _ _ v0) y0); (try replace y1 := frozen_below hx2 (World.block_lt_of_cell? _ _ v1) y1); (try replace y2 := frozen_below hx2 (World.block_lt_of_cell? _ _ v2) y2); (try replace v0 := cell_below' hx2 v0); (try replace v1 := cell_below' hx2 v1); (try replace v2 := cell_below' hx2 v2); (try have v0 : World.cell? x2 ⟨(x1).heap.size, 0, none⟩ = some (.int .i64 0) := cell_below' hx2 (cell_new (by simp) rfl)); (try have v1 : World.cell? x2 ⟨(x1).heap.size, 1, none⟩ = some (.int .i64 0) := cell_below' hx2 (cell_new (by simp) rfl)); (try have v2 : World.cell? x2 ⟨(x1).heap.size, 2, none⟩ = some (.int .i64 0) := cell_below' hx2 (cell_new (by simp) rfl)); (try have y0 : World.frozen? x2 ⟨(x1).heap.size, 0, none⟩ = false := frozen_below hx2 (by simp) (frozen_new (by simp))); (try have y1 : World.frozen? x2 ⟨(x1).heap.size, 1, none⟩ = false := frozen_below hx2 (by simp) (frozen_new (by simp))); (try have y2 : World.frozen? x2 ⟨(x1).heap.size, 2, none⟩ = false := frozen_below hx2 (by simp) (frozen_new (by simp))))
      | (go_at_call 21; (with_reducible refine (HRD.out _).mono ?_); rintro e x3 ⟨rfl, hx3⟩; (have hy3 : wa.heap.size ≤ x3.heap.size := (by have := hx3.size; (try simp at this); omega)); (try replace y0 := frozen_below hx3 (World.block_lt_of_cell? _ _ v0) y0); (try replace y1 := frozen_below hx3 (World.block_lt_of_cell? _ _ v1) y1); (try replace y2 := frozen_below hx3 (World.block_lt_of_cell? _ _ v2) y2); (try replace v0 := cell_below' hx3 v0); (try replace v1 := cell_below' hx3 v1); (try replace v2 := cell_below' hx3 v2); (try have v0 : World.cell? x3 ⟨(x2).heap.size, 0, none⟩ = some (.int .i64 0) := cell_below' hx3 (cell_new (by simp) rfl)); (try have v1 : World.cell? x3 ⟨(x2).heap.size, 1, none⟩ = some (.int .i64 0) := cell_below' hx3 (cell_new (by simp) rfl)); (try have v2 : World.cell? x3 ⟨(x2).heap.size, 2, none⟩ = some (.int .i64 0) := cell_below' hx3 (cell_new (by simp) rfl)); (try have y0 : World.frozen? x3 ⟨(x2).heap.size, 0, none⟩ = false := frozen_below hx3 (by simp) (frozen_new (by simp))); (try have y1 : World.frozen? x3 ⟨(x2).heap.size, 1, none⟩ = false := frozen_below hx3 (by simp) (frozen_new (by simp))); (try have y2 : World.frozen? x3 ⟨(x2).heap.size, 2, none⟩ = false := frozen_below hx3 (by simp) (frozen_new (by simp)))))
    all_goals
      have hx : Below w.heap.size w x3 := ha.trans (Below.mono ((by repeat (first | assumption | exact Below.refl _ _ | refine Below.drew ?_ | (refine below_alloc _ ?_ ?_; focus (first | omega | (simp; done) | (simp; omega) | (simp at *; omega))) | (refine below_set _ ?_ ?_; focus (first | omega | (simp; done) | (simp; omega) | (simp at *; omega))) | refine below_drewN ?_ _ | (refine below_call (by assumption) ?_ ?_; focus (first | omega | (simp; done) | (simp; omega) | (simp at *; omega))) | (refine below_call' (by assumption) ?_ ?_; focus (first | omega | (simp; done) | (simp; omega) | (simp at *; omega))))) : Below wa.heap.size wa x3) qw)
      have qx1 : w.heap.size ≤ x1.heap.size := Nat.le_trans qw hy1
      have qx2 : w.heap.size ≤ x2.heap.size := Nat.le_trans qw hy2
      have qx3 : w.heap.size ≤ x3.heap.size := Nat.le_trans qw hy3
      go_wp2_with (fail)
      first
        | (obtain ⟨s0, s1, s2⟩ := set3 (v0 := .int .i64 5) (v1 := .int .i64 P) (v2 := .int .i64 45) v0 v1 v2
           go_meet
           exact ⟨_, rfl, rfl, by assumption, s0, s1, s2, below_set _ (by assumption) (below_set _ (by assumption) (below_set _ (by assumption) hx))⟩)
        | (go_meet
           exact ⟨_, rfl, rfl, qx3, cell_new rfl rfl, cell_new rfl rfl, cell_new rfl rfl, below_alloc _ (Nat.le_refl _) hx⟩)
  case rest =>
  obtain ⟨wd, rfl⟩ : ∃ wd : World, wd = wc := ⟨_, rfl⟩
  obtain ⟨nr, rfl, rfl, hnr, rr0, rr1, rr2, hd⟩ := hcut
  clear HTB HGM HRD ob0 ob1 zob lx0 lx1 zlx ha
  go_upto_region 16 with (fail)
  (refine region_extx 22 (by kernel_rfl) (by kernel_rfl) fun hx => ?_; simp only [List.take_succ_cons, List.take_zero, List.drop_succ_cons, List.drop_zero]; (repeat (any_goals (first | go_big_quiet_step ((first | ((go_at_call 23; with_reducible exact ext_call (HC.out _))) | ((go_at_call 54; with_reducible exact ext_same (HA.out _))))) | quiet_step ((first | ((go_at_call 23; with_reducible exact ext_call (HC.out _))) | ((go_at_call 54; with_reducible exact ext_same (HA.out _)))))))))
  (refine wpQuiet_nil ?_; clear hx; intro u; have hbwe := ext_bel _ u; have hxwe := ext_cell _ u; generalize ext _ u = we at *; clear u; have hswe := hbwe.size; (try simp at hswe))
  have he := hd.trans (hbwe.mono hd.size)
  go_wp2_with (fail)
  go_ret
  exact ⟨rfl, he⟩
end Go.Proofs.YtppghnbabnhnbaaDoor
