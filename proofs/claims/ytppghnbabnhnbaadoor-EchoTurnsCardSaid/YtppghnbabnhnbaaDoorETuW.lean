/-
  Chapter 2: EchoTurns, walked.
-/
import Derived.Test.YtppghnbabnhnbaaDoorETuL
import Derived.Test.YtppghnbabnhnbaaDoorELnW
namespace Go.Proofs.YtppghnbabnhnbaaDoor
open Go.ChangeShapes Go.WideShapes Go.ChangeAt Go.RowKit
set_option linter.unusedVariables false
set_option linter.unusedSimpArgs false

theorem newsG2 {w : World} {vb : Nat} {x : Gs} (hv : w.heap[vb]? = some (.cells #[.int .i64 x.re, .int .i64 x.im] 24)) : ∀ j u, [Value.int .i64 x.re, .int .i64 x.im][j]? = some u → w.cell? ((⟨vb, 0, none⟩ : Addr).add j) = some u := fun j u hu => by
  rw [Addr.add_lit, Nat.zero_add]
  exact blk_cell hv (by simpa using hu)
theorem eqGz (g : Gs) (W : World) : (binOp .eql 24 (.agg #[.int .i64 g.re, .int .i64 g.im]) (.agg #[.int .i64 0, .int .i64 0])).run Tryd.prog W = .ok (.bool (!(neB g gz))) W := by
  have h := eqG g gz W
  have e : eqB g gz = !(neB g gz) := by unfold neB; simp
  rw [e] at h
  exact h
theorem smsE_lines {x : List Gs} (hl : x.length ≤ 64) (hok : ∀ y ∈ x, Sz 10000 y) : smsE (linP x) = 0 ∧ ∀ q, q < 4 → smsV (linP x) q = qS x x.length q := by
  have hsv : ∀ q, q < 4 → sV (linP x) q = g4 4 (qS x x.length q) := fun q hq => by
    rw [← sums_lines x q hq x.length]; rfl
  have ho : sOk (linP x) = true := sOk_of fun j hj => prtB_of ((linP_sz hl hok j).mono (by decide))
  have hd : sDv (linP x) = true := sDv_of fun j hj => by
    rw [hsv j hj]
    unfold dB g4
    simp
  obtain ⟨e1, e2⟩ := sms_0 ho hd
  refine ⟨e1, fun q hq => ?_⟩
  rw [e2, hsv q hq]
  apply Gs.ext2
  · simp [gover, g4]
  · simp [gover, g4]
theorem turnL_ok {g : Gs} (hg : Sz 10000 g) (p n : Nat) : ∀ y ∈ turnL p g n, Sz 10000 y := fun y hy => by
  simp only [turnL, List.mem_map] at hy
  obtain ⟨k, _, rfl⟩ := hy
  exact hg.rotN _
theorem turn_facts {g : Gs} (hg : Sz 10000 g) (hz : g ≠ gz) {p m : Nat} (hp : p < 4) (hm : 1 ≤ m) (hm2 : m ≤ 16) : (∀ n, n < 4 → linP (turnL p g (4 * m)) n = if n = p then g4 (4 * m) g else gz) ∧ dopQ (turnL p g (4 * m)) = ((p : Int), 0) ∧ linE (turnL p g (4 * m)) = 0 := by
  have h1 : ∀ n, n < 4 → linP (turnL p g (4 * m)) n = if n = p then g4 (4 * m) g else gz := fun n hn => by
    unfold linP
    rw [turnL_len]
    exact turn_line p g (4 * m) n hp hn m (Nat.le_refl _)
  have hs : smpsE (turnL p g (4 * m)) = 0 := smpsE_of (by rw [turnL_len]; omega) (turnL_ok hg p _)
  have he : linE (turnL p g (4 * m)) = 0 := linE_of (by rw [turnL_len]; omega) hs
  have hn := gnorm_pos hz
  have hV : 0 < gnorm (g4 (4 * m) g) := by
    have e : gnorm (g4 (4 * m) g) = (4 * m) * (4 * m) * gnorm g := by simp only [gnorm, g4]; grind
    rw [e]
    exact Int.mul_pos (Int.mul_pos (by omega) (by omega)) (by omega)
  obtain ⟨d1, d2⟩ := one_line p (g4 (4 * m) g) hp hV _ h1
  refine ⟨h1, ?_, he⟩
  rw [dopQ_p he, d1, d2]
  rfl
set_option maxRecDepth 100000 in
set_option maxHeartbeats 16000000 in
theorem EchoTurns_short (A : Option Addr) (x : List Gs) (ca : Nat) (g : Gs) (p m : Int) (w : World) (ht : Tab w) (hA : GsAt w A x) (hxl : x.length ≤ 1000) :
    Calls Tryd.prog 6 #[.slice A x.length ca, gv g, .agg #[.int .i64 p, .int .i64 m]] w fun e w' => e = .returned (.bool true) ∧ Below w.heap.size w w' := by
  have HT := Lib.hid ht
  have HSE := Lib.hid (fun W (hB : GsAt W A x) => RSamplesErr_any A x ca W hxl hB)
  have HGE := Lib.hid (fun W => RSampleErr_any g W)
  have HPW := Lib.hid (fun W => Within_any p 0 3 W)
  have HMW := Lib.hid (fun W => Within_any m 1 16 W)
  have hge := eqGz g
  have HCP := Lib.hid (fun W (hB : GsAt W A x) => CopyG_cap A x ca W hxl hB)
  have HLN := Lib.hid (fun W B c (hB : GsAt W B x) => LinesOf_any B x c W hxl hB)
  have HS0 := Lib.hid (@smpsE_zero x)
  have HG0 := Lib.hid (@smpE_zero g)
  have HGZ := Lib.hid (fun (h : neB g gz = true) => neB_true h)
  have HPT := Lib.hid (fun (h : withinB p 0 3 = true) => withinB_true.1 h)
  have HMT := Lib.hid (fun (h : withinB m 1 16 = true) => withinB_true.1 h)
  have hxi : (x.length : Int) ≤ 1000 := by omega
  clear ht
  generalize smpE g = SE at *
  generalize neB g gz = gn at *
  generalize withinB p 0 3 = bp at *
  generalize withinB m 1 16 = bm at *
  obtain ⟨c, hc⟩ : ∃ c, c = smpsE x := ⟨_, rfl⟩
  rw [← hc] at HSE HS0
  have HCC := Lib.hid hc
  clear hc
  rcases hgg : g with ⟨g0, g1⟩
  rw [hgg] at HGE hge
  have HGG := Lib.hid hgg
  clear hgg
  simp only [gv] at HGE hge ⊢
  go_enter Tryd.func6, Tryd.ntmps6
  go_upto_region 1 with (fail)
  have hb0 : Below w.heap.size w ((w.alloc (.cells #[.int .i64 g0, .int .i64 g1] 24)).alloc (.cells #[.int .i64 p, .int .i64 m] 70)) := below_alloc _ (Nat.le_refl _) (below_alloc _ (Nat.le_refl _) (Below.refl _ _))
  have y0 : ((w.alloc (.cells #[.int .i64 g0, .int .i64 g1] 24)).alloc (.cells #[.int .i64 p, .int .i64 m] 70)).cell? ⟨w.heap.size, 0, none⟩ = some (.int .i64 g0) := cell_alloc _ (cell_new (by simp) rfl)
  have y1 : ((w.alloc (.cells #[.int .i64 g0, .int .i64 g1] 24)).alloc (.cells #[.int .i64 p, .int .i64 m] 70)).cell? ⟨w.heap.size, 1, none⟩ = some (.int .i64 g1) := cell_alloc _ (cell_new (by simp) rfl)
  have zy : w.heap.size < ((w.alloc (.cells #[.int .i64 g0, .int .i64 g1] 24)).alloc (.cells #[.int .i64 p, .int .i64 m] 70)).heap.size := World.block_lt_of_cell? _ _ y0
  have b0 : ((w.alloc (.cells #[.int .i64 g0, .int .i64 g1] 24)).alloc (.cells #[.int .i64 p, .int .i64 m] 70)).cell? ⟨w.heap.size + 1, 0, none⟩ = some (.int .i64 p) := cell_new (by simp) rfl
  have b1 : ((w.alloc (.cells #[.int .i64 g0, .int .i64 g1] 24)).alloc (.cells #[.int .i64 p, .int .i64 m] 70)).cell? ⟨w.heap.size + 1, 1, none⟩ = some (.int .i64 m) := cell_new (by simp) rfl
  have zb : w.heap.size + 1 < ((w.alloc (.cells #[.int .i64 g0, .int .i64 g1] 24)).alloc (.cells #[.int .i64 p, .int .i64 m] 70)).heap.size := World.block_lt_of_cell? _ _ b0
  generalize ((w.alloc (.cells #[.int .i64 g0, .int .i64 g1] 24)).alloc (.cells #[.int .i64 p, .int .i64 m] 70)) = w0 at *
  have HT0 := Lib.hid (HT.out.below hb0)
  have hA0 := RowsAt.below hA hb0
  go_wp2_with (fail)
  refine (awake_any w0 HT0.out).mono ?_
  rintro e w1 ⟨rfl, hb1⟩
  have k1 : Below w.heap.size w w1 := (hb0).trans ((hb1).mono (hb0).size)
  replace y0 := cell_below' hb1 y0
  replace y1 := cell_below' hb1 y1
  replace zy := Nat.lt_of_lt_of_le zy (hb1).size
  replace b0 := cell_below' hb1 b0
  replace b1 := cell_below' hb1 b1
  replace zb := Nat.lt_of_lt_of_le zb (hb1).size
  replace hA0 := RowsAt.below hA0 hb1
  clear hb1 hb0
  clear HT HT0 hA
  go_upto_region 3 with (fail)
  go_cut [52] from 23 to 52 (fun t wx => ∃ b : Bool, t = .bool b ∧ (b = false → 0 < x.length ∧ c = 0 ∧ SE = 0 ∧ gn = true ∧ bp = true ∧ bm = true) ∧ Below w1.heap.size w1 wx)
  case first =>
    clear HCP HLN HS0 HG0 HGZ HPT HMT HCC HGG
    by_cases h0 : x.length = 0
    · have e1 : ((x.length : Int) == 0) = true := by rw [beq_iff_eq]; omega
      clear h0
      go_wp2_with (fail)
      go_meet
      exact ⟨true, rfl, fun h => (by cases h), Below.refl _ _⟩
    have e1 : ((x.length : Int) == 0) = false := by rw [beq_eq_false_iff_ne]; omega
    go_wp2_with (fail)
    refine (HSE.out _ hA0).mono ?_
    rintro e w2 ⟨rfl, hb2⟩
    have i2 := hb2
    have k2 : Below w.heap.size w w2 := (k1).trans ((hb2).mono (k1).size)
    replace y0 := cell_below' hb2 y0
    replace y1 := cell_below' hb2 y1
    replace zy := Nat.lt_of_lt_of_le zy (hb2).size
    replace b0 := cell_below' hb2 b0
    replace b1 := cell_below' hb2 b1
    replace zb := Nat.lt_of_lt_of_le zb (hb2).size
    clear hb2 k1
    by_cases h1 : c = 0
    rotate_left 1
    · have e2 : (c != 0) = true := by simpa using h1
      go_wp2_with (fail)
      go_meet
      exact ⟨true, rfl, fun h => (by cases h), i2⟩
    subst h1
    go_wp2_with (fail)
    refine (HGE.out _).mono ?_
    rintro e w3 ⟨rfl, hb3⟩
    have i3 := i2.trans (hb3.mono i2.size)
    have k3 : Below w.heap.size w w3 := (k2).trans ((hb3).mono (k2).size)
    replace y0 := cell_below' hb3 y0
    replace y1 := cell_below' hb3 y1
    replace zy := Nat.lt_of_lt_of_le zy (hb3).size
    replace b0 := cell_below' hb3 b0
    replace b1 := cell_below' hb3 b1
    replace zb := Nat.lt_of_lt_of_le zb (hb3).size
    clear hb3 k2
    by_cases h2 : SE = 0
    rotate_left 1
    · have e2 : (SE != 0) = true := by simpa using h2
      go_wp2_with (fail)
      go_meet
      exact ⟨true, rfl, fun h => (by cases h), i3⟩
    subst h2
    cases gn
    · go_wp2_with (fail)
      go_meet
      exact ⟨true, rfl, fun h => (by cases h), i3⟩
    go_wp2_with (fail)
    refine (HPW.out _).mono ?_
    rintro e w' ⟨rfl, rfl⟩
    cases bp
    · go_wp2_with (fail)
      go_meet
      exact ⟨true, rfl, fun h => (by cases h), i3⟩
    go_wp2_with (fail)
    refine (HMW.out _).mono ?_
    rintro e w' ⟨rfl, rfl⟩
    cases bm
    · go_wp2_with (fail)
      go_meet
      exact ⟨true, rfl, fun h => (by cases h), i3⟩
    · go_wp2_with (fail)
      go_meet
      exact ⟨false, rfl, fun _ => ⟨by omega, by first | rfl | trivial, by first | rfl | trivial, by first | rfl | trivial, by first | rfl | trivial, by first | rfl | trivial⟩, i3⟩
  case rest =>
  obtain ⟨w2, rfl⟩ : ∃ w2 : World, w2 = wc := ⟨_, rfl⟩
  obtain ⟨b, rfl, hF, hb2⟩ := hcut
  clear HSE HGE HPW HMW hge
  have k2 : Below w.heap.size w w2 := (k1).trans ((hb2).mono (k1).size)
  replace y0 := cell_below' hb2 y0
  replace y1 := cell_below' hb2 y1
  replace zy := Nat.lt_of_lt_of_le zy (hb2).size
  replace b0 := cell_below' hb2 b0
  replace b1 := cell_below' hb2 b1
  replace zb := Nat.lt_of_lt_of_le zb (hb2).size
  replace hA0 := RowsAt.below hA0 hb2
  clear hb2 k1
  cases b
  rotate_left 1
  · clear hF
    go_wp2_with (fail)
    go_ret
    exact ⟨rfl, k2⟩
  obtain ⟨hn0, rfl, rfl, rfl, rfl, rfl⟩ := hF rfl
  obtain ⟨hx64, hok⟩ := HS0.out rfl
  have hgs := HG0.out rfl
  have hgz := HGZ.out rfl
  obtain ⟨hp0, hp1⟩ := HPT.out rfl
  obtain ⟨hm0, hm1⟩ := HMT.out rfl
  obtain ⟨pn, rfl⟩ : ∃ n : Nat, p = n := ⟨p.toNat, by omega⟩
  obtain ⟨mn, rfl⟩ : ∃ n : Nat, m = n := ⟨m.toNat, by omega⟩
  have hp4 : pn < 4 := by omega
  have hm16 : mn ≤ 16 := by omega
  have hl1 : linE x = 0 := linE_of hn0 HCC.out.symm
  obtain ⟨se, sv⟩ := smsE_lines hx64 hok
  have SUM := Lib.hid (fun W => SumsOf_any (linP x) W)
  have hgv : gv4 (smsV (linP x)) = gv4 (qS x x.length) := by
    simp only [gv4]
    rw [sv 0 (by decide), sv 1 (by decide), sv 2 (by decide), sv 3 (by decide)]
  rw [se, hgv] at SUM
  rw [linV_p hl1, hl1] at HLN
  obtain ⟨tf1, tf2, tf3⟩ := turn_facts hgs hgz hp4 (show 1 ≤ mn by omega) hm16
  have HQS : Hid (∀ k q, qS x (k + 1) q = if k % 4 = q then gadd (qS x k q) (gd x k) else qS x k q) := Lib.hid fun _ _ => rfl
  have HQ0 : Hid (∀ q, qS x 0 q = gz) := Lib.hid fun _ => rfl
  have hqz : ∀ (k : Nat) q, Sz (k * 10000) (qS x k q) := fun k q => by
    induction k with
    | zero => exact ⟨by simp [qS, gz], by simp [qS, gz], by simp [qS, gz], by simp [qS, gz]⟩
    | succ k ih =>
      have hd := gd_any (by decide) hok k
      rw [HQS.out]
      by_cases e : k % 4 = q
      · rw [if_pos e]; exact (ih.add hd).mono (by omega)
      · rw [if_neg e]; exact ih.mono (by omega)
  have HQZ := Lib.hid hqz
  have HOK := Lib.hid (gd_any (by decide) hok)
  have HLT := Lib.hid (fun W B c (hB : GsAt W B (turnL pn g (4 * mn))) => LinesOf_any B (turnL pn g (4 * mn)) c W (by rw [turnL_len]; omega) hB)
  rw [linV_p tf3, tf3] at HLT
  have HDT := Lib.hid (fun W B c (hB : GsAt W B (turnL pn g (4 * mn))) => DopplerOf_any B (turnL pn g (4 * mn)) c W (by rw [turnL_len]; omega) hB)
  rw [tf2] at HDT
  have HCT := Lib.hid (fun W B c (hB : GsAt W B (turnL pn g (4 * mn))) => CopyG_cap B (turnL pn g (4 * mn)) c W (by rw [turnL_len]; omega) hB)
  have HTF := Lib.hid tf1
  rw [turnL_len] at HLT HDT HCT
  have HTM := Lib.hid (fun W (k : Nat) (hk : k ≤ 64) => by
    have q0 := RTimesN_any g (pn * k) W (Nat.le_trans (Nat.mul_le_mul (show pn ≤ 3 by omega) hk) (by decide)) (hgs.mono (by decide))
    rw [Int.natCast_mul] at q0
    exact q0)
  have HTS : Hid (∀ k, turnL pn g (k + 1) = turnL pn g k ++ [rotN (pn * k % 4) g]) := Lib.hid fun k => turnL_snoc pn g k
  have HTL : Hid (∀ k, (turnL pn g k).length = k) := Lib.hid fun k => turnL_len pn g k
  have hgs' := hgs
  rw [HGG.out] at hgs'
  obtain ⟨u0, u1, u2, u3⟩ := hgs'
  have hg4 : g4 (4 * mn) g = ⟨4 * mn * g0, 4 * mn * g1⟩ := by rw [HGG.out]; rfl
  rw [hg4] at HTF
  simp only at u0 u1 u2 u3
  have hln := neL (qS x x.length) (qS x x.length)
  have hll : eqL4 (qS x x.length) (qS x x.length) = true := by simp [eqL4, eqB]
  rw [hll] at hln
  clear HS0 HG0 HGZ HPT HMT hF hok hgs hgz hl1 se sv hgv tf1 tf2 tf3 hqz hg4 hll HCC
  generalize linP (turnL pn g (4 * mn)) = tv at *
  generalize linP x = lv at *
  simp only [gv4, gv] at *
  rw [HGG.out] at HTM
  simp only at HTM
  go_wp2_with (fail)
  refine (HCP.out _ hA0).mono ?_
  rintro e w3 ⟨B3, c3, rfl, hc3, hB3, hb3⟩
  have k3 : Below w.heap.size w w3 := (k2).trans ((hb3).mono (k2).size)
  replace y0 := cell_below' hb3 y0
  replace y1 := cell_below' hb3 y1
  replace zy := Nat.lt_of_lt_of_le zy (hb3).size
  replace b0 := cell_below' hb3 b0
  replace b1 := cell_below' hb3 b1
  replace zb := Nat.lt_of_lt_of_le zb (hb3).size
  replace hA0 := RowsAt.below hA0 hb3
  clear hb3 k2
  go_wp2_with (fail)
  refine (HLN.out _ _ _ hB3).mono ?_
  rintro e w4 ⟨rfl, hb4⟩
  have k4 : Below w.heap.size w w4 := (k3).trans ((hb4).mono (k3).size)
  replace y0 := cell_below' hb4 y0
  replace y1 := cell_below' hb4 y1
  replace zy := Nat.lt_of_lt_of_le zy (hb4).size
  replace b0 := cell_below' hb4 b0
  replace b1 := cell_below' hb4 b1
  replace zb := Nat.lt_of_lt_of_le zb (hb4).size
  replace hA0 := RowsAt.below hA0 hb4
  clear hb4 k3
  clear HLN hB3 HCP
  go_upto_region 6 with (fail)
  have hb5 : Below w4.heap.size w4 (w4.alloc (.cells #[.int .i64 (lv 0).re, .int .i64 (lv 0).im, .int .i64 (lv 1).re, .int .i64 (lv 1).im, .int .i64 (lv 2).re, .int .i64 (lv 2).im, .int .i64 (lv 3).re, .int .i64 (lv 3).im] 73)) := below_alloc _ (Nat.le_refl _) (Below.refl _ _)
  have l0 : (w4.alloc (.cells #[.int .i64 (lv 0).re, .int .i64 (lv 0).im, .int .i64 (lv 1).re, .int .i64 (lv 1).im, .int .i64 (lv 2).re, .int .i64 (lv 2).im, .int .i64 (lv 3).re, .int .i64 (lv 3).im] 73)).cell? ⟨w4.heap.size, 0, none⟩ = some (.int .i64 (lv 0).re) := cell_new (by simp) rfl
  have l1 : (w4.alloc (.cells #[.int .i64 (lv 0).re, .int .i64 (lv 0).im, .int .i64 (lv 1).re, .int .i64 (lv 1).im, .int .i64 (lv 2).re, .int .i64 (lv 2).im, .int .i64 (lv 3).re, .int .i64 (lv 3).im] 73)).cell? ⟨w4.heap.size, 1, none⟩ = some (.int .i64 (lv 0).im) := cell_new (by simp) rfl
  have l2 : (w4.alloc (.cells #[.int .i64 (lv 0).re, .int .i64 (lv 0).im, .int .i64 (lv 1).re, .int .i64 (lv 1).im, .int .i64 (lv 2).re, .int .i64 (lv 2).im, .int .i64 (lv 3).re, .int .i64 (lv 3).im] 73)).cell? ⟨w4.heap.size, 2, none⟩ = some (.int .i64 (lv 1).re) := cell_new (by simp) rfl
  have l3 : (w4.alloc (.cells #[.int .i64 (lv 0).re, .int .i64 (lv 0).im, .int .i64 (lv 1).re, .int .i64 (lv 1).im, .int .i64 (lv 2).re, .int .i64 (lv 2).im, .int .i64 (lv 3).re, .int .i64 (lv 3).im] 73)).cell? ⟨w4.heap.size, 3, none⟩ = some (.int .i64 (lv 1).im) := cell_new (by simp) rfl
  have l4 : (w4.alloc (.cells #[.int .i64 (lv 0).re, .int .i64 (lv 0).im, .int .i64 (lv 1).re, .int .i64 (lv 1).im, .int .i64 (lv 2).re, .int .i64 (lv 2).im, .int .i64 (lv 3).re, .int .i64 (lv 3).im] 73)).cell? ⟨w4.heap.size, 4, none⟩ = some (.int .i64 (lv 2).re) := cell_new (by simp) rfl
  have l5 : (w4.alloc (.cells #[.int .i64 (lv 0).re, .int .i64 (lv 0).im, .int .i64 (lv 1).re, .int .i64 (lv 1).im, .int .i64 (lv 2).re, .int .i64 (lv 2).im, .int .i64 (lv 3).re, .int .i64 (lv 3).im] 73)).cell? ⟨w4.heap.size, 5, none⟩ = some (.int .i64 (lv 2).im) := cell_new (by simp) rfl
  have l6 : (w4.alloc (.cells #[.int .i64 (lv 0).re, .int .i64 (lv 0).im, .int .i64 (lv 1).re, .int .i64 (lv 1).im, .int .i64 (lv 2).re, .int .i64 (lv 2).im, .int .i64 (lv 3).re, .int .i64 (lv 3).im] 73)).cell? ⟨w4.heap.size, 6, none⟩ = some (.int .i64 (lv 3).re) := cell_new (by simp) rfl
  have l7 : (w4.alloc (.cells #[.int .i64 (lv 0).re, .int .i64 (lv 0).im, .int .i64 (lv 1).re, .int .i64 (lv 1).im, .int .i64 (lv 2).re, .int .i64 (lv 2).im, .int .i64 (lv 3).re, .int .i64 (lv 3).im] 73)).cell? ⟨w4.heap.size, 7, none⟩ = some (.int .i64 (lv 3).im) := cell_new (by simp) rfl
  have zl : w4.heap.size < (w4.alloc (.cells #[.int .i64 (lv 0).re, .int .i64 (lv 0).im, .int .i64 (lv 1).re, .int .i64 (lv 1).im, .int .i64 (lv 2).re, .int .i64 (lv 2).im, .int .i64 (lv 3).re, .int .i64 (lv 3).im] 73)).heap.size := World.block_lt_of_cell? _ _ l0
  generalize (w4.alloc (.cells #[.int .i64 (lv 0).re, .int .i64 (lv 0).im, .int .i64 (lv 1).re, .int .i64 (lv 1).im, .int .i64 (lv 2).re, .int .i64 (lv 2).im, .int .i64 (lv 3).re, .int .i64 (lv 3).im] 73)) = w5 at *
  have k5 : Below w.heap.size w w5 := (k4).trans ((hb5).mono (k4).size)
  replace y0 := cell_below' hb5 y0
  replace y1 := cell_below' hb5 y1
  replace zy := Nat.lt_of_lt_of_le zy (hb5).size
  replace b0 := cell_below' hb5 b0
  replace b1 := cell_below' hb5 b1
  replace zb := Nat.lt_of_lt_of_le zb (hb5).size
  replace hA0 := RowsAt.below hA0 hb5
  clear hb5 k4
  go_wp2_with (fail)
  refine (SUM.out _).mono ?_
  rintro e w6 ⟨rfl, hb6⟩
  have k6 : Below w.heap.size w w6 := (k5).trans ((hb6).mono (k5).size)
  replace y0 := cell_below' hb6 y0
  replace y1 := cell_below' hb6 y1
  replace zy := Nat.lt_of_lt_of_le zy (hb6).size
  replace b0 := cell_below' hb6 b0
  replace b1 := cell_below' hb6 b1
  replace zb := Nat.lt_of_lt_of_le zb (hb6).size
  replace hA0 := RowsAt.below hA0 hb6
  clear hb6 k5
  clear SUM l0 l1 l2 l3 l4 l5 l6 l7 zl
  go_upto_region 7 with (fail)
  have hb7 : Below w6.heap.size w6 (w6.alloc (.cells #[.int .i64 (qS x x.length 0).re, .int .i64 (qS x x.length 0).im, .int .i64 (qS x x.length 1).re, .int .i64 (qS x x.length 1).im, .int .i64 (qS x x.length 2).re, .int .i64 (qS x x.length 2).im, .int .i64 (qS x x.length 3).re, .int .i64 (qS x x.length 3).im] 73)) := below_alloc _ (Nat.le_refl _) (Below.refl _ _)
  have s0 : (w6.alloc (.cells #[.int .i64 (qS x x.length 0).re, .int .i64 (qS x x.length 0).im, .int .i64 (qS x x.length 1).re, .int .i64 (qS x x.length 1).im, .int .i64 (qS x x.length 2).re, .int .i64 (qS x x.length 2).im, .int .i64 (qS x x.length 3).re, .int .i64 (qS x x.length 3).im] 73)).cell? ⟨w6.heap.size, 0, none⟩ = some (.int .i64 (qS x x.length 0).re) := cell_new (by simp) rfl
  have s1 : (w6.alloc (.cells #[.int .i64 (qS x x.length 0).re, .int .i64 (qS x x.length 0).im, .int .i64 (qS x x.length 1).re, .int .i64 (qS x x.length 1).im, .int .i64 (qS x x.length 2).re, .int .i64 (qS x x.length 2).im, .int .i64 (qS x x.length 3).re, .int .i64 (qS x x.length 3).im] 73)).cell? ⟨w6.heap.size, 1, none⟩ = some (.int .i64 (qS x x.length 0).im) := cell_new (by simp) rfl
  have s2 : (w6.alloc (.cells #[.int .i64 (qS x x.length 0).re, .int .i64 (qS x x.length 0).im, .int .i64 (qS x x.length 1).re, .int .i64 (qS x x.length 1).im, .int .i64 (qS x x.length 2).re, .int .i64 (qS x x.length 2).im, .int .i64 (qS x x.length 3).re, .int .i64 (qS x x.length 3).im] 73)).cell? ⟨w6.heap.size, 2, none⟩ = some (.int .i64 (qS x x.length 1).re) := cell_new (by simp) rfl
  have s3 : (w6.alloc (.cells #[.int .i64 (qS x x.length 0).re, .int .i64 (qS x x.length 0).im, .int .i64 (qS x x.length 1).re, .int .i64 (qS x x.length 1).im, .int .i64 (qS x x.length 2).re, .int .i64 (qS x x.length 2).im, .int .i64 (qS x x.length 3).re, .int .i64 (qS x x.length 3).im] 73)).cell? ⟨w6.heap.size, 3, none⟩ = some (.int .i64 (qS x x.length 1).im) := cell_new (by simp) rfl
  have s4 : (w6.alloc (.cells #[.int .i64 (qS x x.length 0).re, .int .i64 (qS x x.length 0).im, .int .i64 (qS x x.length 1).re, .int .i64 (qS x x.length 1).im, .int .i64 (qS x x.length 2).re, .int .i64 (qS x x.length 2).im, .int .i64 (qS x x.length 3).re, .int .i64 (qS x x.length 3).im] 73)).cell? ⟨w6.heap.size, 4, none⟩ = some (.int .i64 (qS x x.length 2).re) := cell_new (by simp) rfl
  have s5 : (w6.alloc (.cells #[.int .i64 (qS x x.length 0).re, .int .i64 (qS x x.length 0).im, .int .i64 (qS x x.length 1).re, .int .i64 (qS x x.length 1).im, .int .i64 (qS x x.length 2).re, .int .i64 (qS x x.length 2).im, .int .i64 (qS x x.length 3).re, .int .i64 (qS x x.length 3).im] 73)).cell? ⟨w6.heap.size, 5, none⟩ = some (.int .i64 (qS x x.length 2).im) := cell_new (by simp) rfl
  have s6 : (w6.alloc (.cells #[.int .i64 (qS x x.length 0).re, .int .i64 (qS x x.length 0).im, .int .i64 (qS x x.length 1).re, .int .i64 (qS x x.length 1).im, .int .i64 (qS x x.length 2).re, .int .i64 (qS x x.length 2).im, .int .i64 (qS x x.length 3).re, .int .i64 (qS x x.length 3).im] 73)).cell? ⟨w6.heap.size, 6, none⟩ = some (.int .i64 (qS x x.length 3).re) := cell_new (by simp) rfl
  have s7 : (w6.alloc (.cells #[.int .i64 (qS x x.length 0).re, .int .i64 (qS x x.length 0).im, .int .i64 (qS x x.length 1).re, .int .i64 (qS x x.length 1).im, .int .i64 (qS x x.length 2).re, .int .i64 (qS x x.length 2).im, .int .i64 (qS x x.length 3).re, .int .i64 (qS x x.length 3).im] 73)).cell? ⟨w6.heap.size, 7, none⟩ = some (.int .i64 (qS x x.length 3).im) := cell_new (by simp) rfl
  have zs : w6.heap.size < (w6.alloc (.cells #[.int .i64 (qS x x.length 0).re, .int .i64 (qS x x.length 0).im, .int .i64 (qS x x.length 1).re, .int .i64 (qS x x.length 1).im, .int .i64 (qS x x.length 2).re, .int .i64 (qS x x.length 2).im, .int .i64 (qS x x.length 3).re, .int .i64 (qS x x.length 3).im] 73)).heap.size := World.block_lt_of_cell? _ _ s0
  generalize (w6.alloc (.cells #[.int .i64 (qS x x.length 0).re, .int .i64 (qS x x.length 0).im, .int .i64 (qS x x.length 1).re, .int .i64 (qS x x.length 1).im, .int .i64 (qS x x.length 2).re, .int .i64 (qS x x.length 2).im, .int .i64 (qS x x.length 3).re, .int .i64 (qS x x.length 3).im] 73)) = w7 at *
  have k7 : Below w.heap.size w w7 := (k6).trans ((hb7).mono (k6).size)
  replace y0 := cell_below' hb7 y0
  replace y1 := cell_below' hb7 y1
  replace zy := Nat.lt_of_lt_of_le zy (hb7).size
  replace b0 := cell_below' hb7 b0
  replace b1 := cell_below' hb7 b1
  replace zb := Nat.lt_of_lt_of_le zb (hb7).size
  replace hA0 := RowsAt.below hA0 hb7
  clear hb7 k6
  generalize w6.heap.size = sb at *
  go_upto_region 10 with (fail)
  have hb8 : Below w7.heap.size w7 (w7.alloc (.cells #[.int .i64 0, .int .i64 0, .int .i64 0, .int .i64 0, .int .i64 0, .int .i64 0, .int .i64 0, .int .i64 0] 73)) := below_alloc _ (Nat.le_refl _) (Below.refl _ _)
  have o0 : (w7.alloc (.cells #[.int .i64 0, .int .i64 0, .int .i64 0, .int .i64 0, .int .i64 0, .int .i64 0, .int .i64 0, .int .i64 0] 73)).cell? ⟨w7.heap.size, 0, none⟩ = some (.int .i64 0) := cell_new (by simp) rfl
  have of0 : (w7.alloc (.cells #[.int .i64 0, .int .i64 0, .int .i64 0, .int .i64 0, .int .i64 0, .int .i64 0, .int .i64 0, .int .i64 0] 73)).frozen? ⟨w7.heap.size, 0, none⟩ = false := frozen_new (by simp)
  have o1 : (w7.alloc (.cells #[.int .i64 0, .int .i64 0, .int .i64 0, .int .i64 0, .int .i64 0, .int .i64 0, .int .i64 0, .int .i64 0] 73)).cell? ⟨w7.heap.size, 1, none⟩ = some (.int .i64 0) := cell_new (by simp) rfl
  have of1 : (w7.alloc (.cells #[.int .i64 0, .int .i64 0, .int .i64 0, .int .i64 0, .int .i64 0, .int .i64 0, .int .i64 0, .int .i64 0] 73)).frozen? ⟨w7.heap.size, 1, none⟩ = false := frozen_new (by simp)
  have o2 : (w7.alloc (.cells #[.int .i64 0, .int .i64 0, .int .i64 0, .int .i64 0, .int .i64 0, .int .i64 0, .int .i64 0, .int .i64 0] 73)).cell? ⟨w7.heap.size, 2, none⟩ = some (.int .i64 0) := cell_new (by simp) rfl
  have of2 : (w7.alloc (.cells #[.int .i64 0, .int .i64 0, .int .i64 0, .int .i64 0, .int .i64 0, .int .i64 0, .int .i64 0, .int .i64 0] 73)).frozen? ⟨w7.heap.size, 2, none⟩ = false := frozen_new (by simp)
  have o3 : (w7.alloc (.cells #[.int .i64 0, .int .i64 0, .int .i64 0, .int .i64 0, .int .i64 0, .int .i64 0, .int .i64 0, .int .i64 0] 73)).cell? ⟨w7.heap.size, 3, none⟩ = some (.int .i64 0) := cell_new (by simp) rfl
  have of3 : (w7.alloc (.cells #[.int .i64 0, .int .i64 0, .int .i64 0, .int .i64 0, .int .i64 0, .int .i64 0, .int .i64 0, .int .i64 0] 73)).frozen? ⟨w7.heap.size, 3, none⟩ = false := frozen_new (by simp)
  have o4 : (w7.alloc (.cells #[.int .i64 0, .int .i64 0, .int .i64 0, .int .i64 0, .int .i64 0, .int .i64 0, .int .i64 0, .int .i64 0] 73)).cell? ⟨w7.heap.size, 4, none⟩ = some (.int .i64 0) := cell_new (by simp) rfl
  have of4 : (w7.alloc (.cells #[.int .i64 0, .int .i64 0, .int .i64 0, .int .i64 0, .int .i64 0, .int .i64 0, .int .i64 0, .int .i64 0] 73)).frozen? ⟨w7.heap.size, 4, none⟩ = false := frozen_new (by simp)
  have o5 : (w7.alloc (.cells #[.int .i64 0, .int .i64 0, .int .i64 0, .int .i64 0, .int .i64 0, .int .i64 0, .int .i64 0, .int .i64 0] 73)).cell? ⟨w7.heap.size, 5, none⟩ = some (.int .i64 0) := cell_new (by simp) rfl
  have of5 : (w7.alloc (.cells #[.int .i64 0, .int .i64 0, .int .i64 0, .int .i64 0, .int .i64 0, .int .i64 0, .int .i64 0, .int .i64 0] 73)).frozen? ⟨w7.heap.size, 5, none⟩ = false := frozen_new (by simp)
  have o6 : (w7.alloc (.cells #[.int .i64 0, .int .i64 0, .int .i64 0, .int .i64 0, .int .i64 0, .int .i64 0, .int .i64 0, .int .i64 0] 73)).cell? ⟨w7.heap.size, 6, none⟩ = some (.int .i64 0) := cell_new (by simp) rfl
  have of6 : (w7.alloc (.cells #[.int .i64 0, .int .i64 0, .int .i64 0, .int .i64 0, .int .i64 0, .int .i64 0, .int .i64 0, .int .i64 0] 73)).frozen? ⟨w7.heap.size, 6, none⟩ = false := frozen_new (by simp)
  have o7 : (w7.alloc (.cells #[.int .i64 0, .int .i64 0, .int .i64 0, .int .i64 0, .int .i64 0, .int .i64 0, .int .i64 0, .int .i64 0] 73)).cell? ⟨w7.heap.size, 7, none⟩ = some (.int .i64 0) := cell_new (by simp) rfl
  have of7 : (w7.alloc (.cells #[.int .i64 0, .int .i64 0, .int .i64 0, .int .i64 0, .int .i64 0, .int .i64 0, .int .i64 0, .int .i64 0] 73)).frozen? ⟨w7.heap.size, 7, none⟩ = false := frozen_new (by simp)
  have ok : (w7.alloc (.cells #[.int .i64 0, .int .i64 0, .int .i64 0, .int .i64 0, .int .i64 0, .int .i64 0, .int .i64 0, .int .i64 0] 73)).heap[w7.heap.size]? = some (.cells #[.int .i64 0, .int .i64 0, .int .i64 0, .int .i64 0, .int .i64 0, .int .i64 0, .int .i64 0, .int .i64 0] 73) := blk_new (by simp)
  have zo : w7.heap.size < (w7.alloc (.cells #[.int .i64 0, .int .i64 0, .int .i64 0, .int .i64 0, .int .i64 0, .int .i64 0, .int .i64 0, .int .i64 0] 73)).heap.size := World.block_lt_of_cell? _ _ o0
  generalize (w7.alloc (.cells #[.int .i64 0, .int .i64 0, .int .i64 0, .int .i64 0, .int .i64 0, .int .i64 0, .int .i64 0, .int .i64 0] 73)) = w8 at *
  have HGX : Hid (GxAt w7.heap.size (qS x 0) w8) := Lib.hid (by
    refine gx_of ?_ ?_ ?_ ?_ ?_ ?_ ?_ ?_ (fun j => blk_frozen ok)
    all_goals
      rw [HQ0.out]
      exact blk_cell ok rfl)
  clear ok o0 o1 o2 o3 o4 o5 o6 o7 of0 of1 of2 of3 of4 of5 of6 of7
  go_wp2_with (fail)
  go_loopw [12] (fun i wr => ∃ k : Nat, k ≤ x.length ∧ i = .int .i64 k ∧ GxAt w7.heap.size (qS x k) wr ∧ Below w7.heap.size w7 wr) (fun i _ => x.length - (intOf i).toNat)
  case atStart => exact ⟨0, Nat.zero_le _, rfl, HGX.out, hb8⟩
  case round =>
    obtain ⟨k, hk, rfl, hgx, hbr⟩ := hrel
    obtain ⟨wo, rfl⟩ : ∃ wo : World, wo = wr := ⟨_, rfl⟩
    have HGO := Lib.hid hgx
    have zo' := hgx.z
    have hbr' := hbr
    have k8 : Below w.heap.size w wo := (k7).trans ((hbr).mono (k7).size)
    replace y0 := cell_below' hbr y0
    replace y1 := cell_below' hbr y1
    replace zy := Nat.lt_of_lt_of_le zy (hbr).size
    replace b0 := cell_below' hbr b0
    replace b1 := cell_below' hbr b1
    replace zb := Nat.lt_of_lt_of_le zb (hbr).size
    replace s0 := cell_below' hbr s0
    replace s1 := cell_below' hbr s1
    replace s2 := cell_below' hbr s2
    replace s3 := cell_below' hbr s3
    replace s4 := cell_below' hbr s4
    replace s5 := cell_below' hbr s5
    replace s6 := cell_below' hbr s6
    replace s7 := cell_below' hbr s7
    replace zs := Nat.lt_of_lt_of_le zs (hbr).size
    replace hA0 := RowsAt.below hA0 hbr
    clear hbr k7
    clear hgx HGX hb8
    by_cases hlt : k < x.length
    · obtain ⟨b1, o1, rfl, hb1, c0, c1⟩ := GsAt.at_ hA0 hlt
      obtain ⟨r, hr⟩ : ∃ r, r = k % 4 := ⟨_, rfl⟩
      have hr4 : r < 4 := by omega
      have hkr : (k : Int).tmod 4 = (r : Int) := by rw [Int.tmod_eq_emod_of_nonneg (by omega)]; omega
      have hrI : (r : Int) < 4 := by omega
      obtain ⟨d0, d1⟩ := HGO.out.c r hr4
      have f0 := HGO.out.f (r * 2)
      have f1 := HGO.out.f (r * 2 + 1)
      have hgd := gd_eq hlt
      have hsz := HOK.out k
      rw [hgd] at hsz
      have hq := HQZ.out k r
      have HA := Lib.hid (fun W => GAdd_any (qS x k r) x[k] W (hq.mono (by omega)) (hsz.mono (by decide)))
      have hst : ∀ q, qS x (k + 1) q = if r = q then gadd (qS x k q) x[k] else qS x k q := fun q => by rw [HQS.out, hgd, ← hr]
      have HST := Lib.hid hst
      have hk1 : (k : Int) < (x.length : Int) := by omega
      clear hgd hsz hq hst hr
      generalize hqq : qS x k r = q at *
      generalize x[k] = h at *
      obtain ⟨t, htt⟩ : ∃ t, t = gadd q h := ⟨_, rfl⟩
      rw [← htt] at HA
      have HTT := Lib.hid htt
      have HQQ := Lib.hid hqq
      clear htt hqq
      obtain ⟨q0, q1⟩ := q
      obtain ⟨h0, h1⟩ := h
      obtain ⟨t0, t1⟩ := t
      simp only [gv] at *
      go_upto_region 13 with (fail)
      (refine region_extx 11 (by kernel_rfl) (by kernel_rfl) fun hx => ?_; simp only [List.take_succ_cons, List.take_zero, List.drop_succ_cons, List.drop_zero]; (repeat (any_goals (first | go_big_quiet_step (((go_at_call 46; with_reducible exact ext_call (HA.out _)))) | quiet_step (((go_at_call 46; with_reducible exact ext_call (HA.out _))))))))
      (refine wpQuiet_nil ?_; clear hx; intro u; have hbw9 := ext_bel _ u; have hxw9 := ext_cell _ u; generalize ext _ u = w9 at *; clear u; have hsw9 := hbw9.size; (try simp at hsw9))
      have HG9 := Lib.hid (HGO.out.below hbw9)
      have z9 := HG9.out.z
      replace d0 := cell_below' hbw9 d0
      replace d1 := cell_below' hbw9 d1
      replace f0 := frozen_below hbw9 zo' f0
      replace f1 := frozen_below hbw9 zo' f1
      have hbr9 : Below w7.heap.size w7 w9 := hbr'.trans (hbw9.mono hbr'.size)
      clear hxw9 hsw9 hbw9 HA c0 c1
      go_wp2_with (fail)
      exact ⟨⟨k + 1, by omega, by go_num, HG9.out.set (k := r) (q := qS x (k + 1)) hr4 (by rw [HST.out, if_pos rfl, HQQ.out, ← HTT.out]) (by rw [HST.out, if_pos rfl, HQQ.out, ← HTT.out]) (fun j hj => by rw [HST.out, if_neg (fun e => hj e.symm)]), below_set _ (Nat.le_refl _) (below_set _ (Nat.le_refl _) hbr9)⟩, by simp [intOf]; omega⟩
    · obtain rfl : k = x.length := by omega
      obtain ⟨o0, o1, o2, o3, o4, o5, o6, o7⟩ := gx8 HGO.out
      clear HGO HQS HQ0 HQZ HOK hA0 hbr'
      generalize qS x x.length = qv at *
      have hN64 : 4 * mn ≤ 64 := by omega
      have hml0 : (0 : Int) ≤ (mn : Int) := by omega
      have hml1 : (mn : Int) ≤ 16 := by omega
      go_wp2_with (fail)
      clear o0 o1 o2 o3 o4 o5 o6 o7 s0 s1 s2 s3 s4 s5 s6 s7 hln
      obtain ⟨i0, hi0, hz0, hz1, hz2⟩ := infoGs_
      have HI := Lib.hid hi0
      have HZ0 := Lib.hid hz0
      have HZ1 := Lib.hid hz1
      have HZ2 := Lib.hid hz2
      clear hi0 hz0 hz1 hz2
      go_loopw [13, 14] (fun o i wr => ∃ (k : Nat) (A' : Option Addr) (c' : Nat), k ≤ 4 * mn ∧ i = .int .i64 k ∧ o = .slice A' k c' ∧ wr.ownsRow wo.heap.size 24 2 (.slice A' k c') k (cellsOf 2 gC (turnL pn g k)) ∧ Below wo.heap.size wo wr) (fun _ i _ => 4 * mn - (intOf i).toNat)
      case atStart => exact ⟨0, none, 0, Nat.zero_le _, rfl, rfl, World.ownsRow_nil _ _ _ _, Below.refl _ _⟩
      case round =>
        obtain ⟨k, A', c', hk, rfl, rfl, own, hbx⟩ := hrel
        obtain ⟨v, rfl⟩ : ∃ v : World, v = wr := ⟨_, rfl⟩
        have OWN := Lib.hid own
        have hbx' := hbx
        clear own
        have k9 : Below w.heap.size w v := (k8).trans ((hbx).mono (k8).size)
        replace y0 := cell_below' hbx y0
        replace y1 := cell_below' hbx y1
        replace zy := Nat.lt_of_lt_of_le zy (hbx).size
        replace b0 := cell_below' hbx b0
        replace b1 := cell_below' hbx b1
        replace zb := Nat.lt_of_lt_of_le zb (hbx).size
        clear hbx k8
        by_cases hkl : k < 4 * mn
        · have hk1 : (k : Int) < 4 * (mn : Int) := by omega
          have hk0 : k ≤ 64 := by omega
          obtain ⟨z0, z1⟩ := mul_bd (a := (pn : Int)) (b := (k : Int)) (M := 3) (N := 64) (by omega) (by omega) (by omega) (by omega)
          have HTK := Lib.hid (fun W => HTM.out W k hk0)
          have hts := HTS.out k
          have htl := HTL.out k
          rcases hru : rotN (pn * k % 4) ⟨g0, g1⟩ with ⟨r0, r1⟩
          have hru2 : rotN (pn * k % 4) g = ⟨r0, r1⟩ := by rw [HGG.out]; exact hru
          rw [hru2] at hts
          rw [hru] at HTK
          have HTS2 := Lib.hid hts
          clear hru hru2 hts
          go_wp2_with (fail)
          refine (HTK.out _).mono ?_
          rintro e va ⟨rfl, hba⟩
          have OWNa := Lib.hid (own_below OWN.out hba)
          have hbxa : Below wo.heap.size wo va := hbx'.trans (hba.mono hbx'.size)
          have zx : wo.heap.size ≤ va.heap.size := hbxa.size
          clear OWN hba HTK hbx'
          go_wp2_with (at_builtin; (refine wpList_append_rows _ rfl (.tmp 98) (.tmp 105) 69 rfl wo.heap.size 24 i0 (.agg #[.int .i64 0, .int .i64 0]) 2 16 Tryd.underlying69 HI.out HZ0.out HZ1.out HZ2.out rfl (by decide) A' k c' (cellsOf 2 gC (turnL pn g k)) rfl (World.ownsRow.alloc OWNa.out _) (some ⟨_, 0, none⟩) 1 1 [.int .i64 r0, .int .i64 r1] rfl rfl (fun h => by cases h) (fun ad h => by cases h; exact newsG2 (x := ⟨r0, r1⟩) (blk_new rfl)) (fun u hu => by simp at hu; rcases hu with rfl | rfl <;> rfl) (by unfold maxLen; omega) (by omega) (by simp; omega) ?_; intro A2' c2' w3 h1 h2 h3))
          have h4 : w3.ownsRow wo.heap.size 24 2 (.slice A2' (k + 1) c2') (k + 1) (cellsOf 2 gC (turnL pn g (k + 1))) := by rw [HTS2.out, cellsOf_append]; exact h1
          have h5 : Below wo.heap.size wo w3 := below_own (below_alloc _ (Nat.le_refl _) hbxa) h2 (World.ownsRow.alloc OWNa.out _) (Nat.le_refl _) (by simp; omega)
          have H4 := Lib.hid h4
          clear h1 h2 h3 h4 OWNa HTS2
          go_wp2_with (fail)
          exact ⟨⟨k + 1, A2', c2', by omega, by go_num, by first | rfl | trivial, H4.out, h5⟩, by simp [intOf]; omega⟩
        · obtain rfl : k = 4 * mn := by omega
          have hT : GsAt v A' (turnL pn g (4 * mn)) := by
            have := rowsAt_of_own (f := gC) (m := 2) (l := turnL pn g (4 * mn)) (by rw [HTL.out]; exact OWN.out) rfl (by decide)
            exact this
          have hkk : ¬ ((4 * mn : Nat) : Int) < 4 * (mn : Int) := by omega
          have hpp : ((pn : Int) != pn) = false := by simp
          obtain ⟨z0, z1⟩ := mul_bd (a := 4 * (mn : Int)) (b := g0) (M := 64) (N := 10000) (by omega) (by omega) u0 u1
          obtain ⟨z2, z3⟩ := mul_bd (a := 4 * (mn : Int)) (b := g1) (M := 64) (N := 10000) (by omega) (by omega) u2 u3
          have hnY := neG ⟨4 * mn * g0, 4 * mn * g1⟩ ⟨4 * mn * g0, 4 * mn * g1⟩
          have hny : neB ⟨4 * mn * g0, 4 * mn * g1⟩ ⟨4 * mn * g0, 4 * mn * g1⟩ = false := by simp [neB, eqB]
          rw [hny] at hnY
          have hnZ := neG gz gz
          have hnz : neB gz gz = false := rfl
          rw [hnz] at hnZ
          simp only [gz] at hnZ HTF
          clear OWN HTM HTS hbx' hny hnz HTL
          go_wp2_with (fail)
          refine (HCT.out _ _ _ hT).mono ?_
          rintro e va ⟨B2, c2, rfl, -, hB2, hba⟩
          have ka : Below w.heap.size w va := (k9).trans ((hba).mono (k9).size)
          replace y0 := cell_below' hba y0
          replace y1 := cell_below' hba y1
          replace zy := Nat.lt_of_lt_of_le zy (hba).size
          replace b0 := cell_below' hba b0
          replace b1 := cell_below' hba b1
          replace zb := Nat.lt_of_lt_of_le zb (hba).size
          replace hT := RowsAt.below hT hba
          clear hba k9
          go_wp2_with (fail)
          refine (HLT.out _ _ _ hB2).mono ?_
          rintro e vb ⟨rfl, hbb⟩
          have kb : Below w.heap.size w vb := (ka).trans ((hbb).mono (ka).size)
          replace y0 := cell_below' hbb y0
          replace y1 := cell_below' hbb y1
          replace zy := Nat.lt_of_lt_of_le zy (hbb).size
          replace b0 := cell_below' hbb b0
          replace b1 := cell_below' hbb b1
          replace zb := Nat.lt_of_lt_of_le zb (hbb).size
          replace hT := RowsAt.below hT hbb
          clear hbb ka
          clear HLT hB2
          go_upto_region 22 with (fail)
          have hbc : Below vb.heap.size vb (vb.alloc (.cells #[.int .i64 (tv 0).re, .int .i64 (tv 0).im, .int .i64 (tv 1).re, .int .i64 (tv 1).im, .int .i64 (tv 2).re, .int .i64 (tv 2).im, .int .i64 (tv 3).re, .int .i64 (tv 3).im] 73)) := below_alloc _ (Nat.le_refl _) (Below.refl _ _)
          have l0 : (vb.alloc (.cells #[.int .i64 (tv 0).re, .int .i64 (tv 0).im, .int .i64 (tv 1).re, .int .i64 (tv 1).im, .int .i64 (tv 2).re, .int .i64 (tv 2).im, .int .i64 (tv 3).re, .int .i64 (tv 3).im] 73)).cell? ⟨vb.heap.size, 0, none⟩ = some (.int .i64 (tv 0).re) := cell_new (by simp) rfl
          have l1 : (vb.alloc (.cells #[.int .i64 (tv 0).re, .int .i64 (tv 0).im, .int .i64 (tv 1).re, .int .i64 (tv 1).im, .int .i64 (tv 2).re, .int .i64 (tv 2).im, .int .i64 (tv 3).re, .int .i64 (tv 3).im] 73)).cell? ⟨vb.heap.size, 1, none⟩ = some (.int .i64 (tv 0).im) := cell_new (by simp) rfl
          have l2 : (vb.alloc (.cells #[.int .i64 (tv 0).re, .int .i64 (tv 0).im, .int .i64 (tv 1).re, .int .i64 (tv 1).im, .int .i64 (tv 2).re, .int .i64 (tv 2).im, .int .i64 (tv 3).re, .int .i64 (tv 3).im] 73)).cell? ⟨vb.heap.size, 2, none⟩ = some (.int .i64 (tv 1).re) := cell_new (by simp) rfl
          have l3 : (vb.alloc (.cells #[.int .i64 (tv 0).re, .int .i64 (tv 0).im, .int .i64 (tv 1).re, .int .i64 (tv 1).im, .int .i64 (tv 2).re, .int .i64 (tv 2).im, .int .i64 (tv 3).re, .int .i64 (tv 3).im] 73)).cell? ⟨vb.heap.size, 3, none⟩ = some (.int .i64 (tv 1).im) := cell_new (by simp) rfl
          have l4 : (vb.alloc (.cells #[.int .i64 (tv 0).re, .int .i64 (tv 0).im, .int .i64 (tv 1).re, .int .i64 (tv 1).im, .int .i64 (tv 2).re, .int .i64 (tv 2).im, .int .i64 (tv 3).re, .int .i64 (tv 3).im] 73)).cell? ⟨vb.heap.size, 4, none⟩ = some (.int .i64 (tv 2).re) := cell_new (by simp) rfl
          have l5 : (vb.alloc (.cells #[.int .i64 (tv 0).re, .int .i64 (tv 0).im, .int .i64 (tv 1).re, .int .i64 (tv 1).im, .int .i64 (tv 2).re, .int .i64 (tv 2).im, .int .i64 (tv 3).re, .int .i64 (tv 3).im] 73)).cell? ⟨vb.heap.size, 5, none⟩ = some (.int .i64 (tv 2).im) := cell_new (by simp) rfl
          have l6 : (vb.alloc (.cells #[.int .i64 (tv 0).re, .int .i64 (tv 0).im, .int .i64 (tv 1).re, .int .i64 (tv 1).im, .int .i64 (tv 2).re, .int .i64 (tv 2).im, .int .i64 (tv 3).re, .int .i64 (tv 3).im] 73)).cell? ⟨vb.heap.size, 6, none⟩ = some (.int .i64 (tv 3).re) := cell_new (by simp) rfl
          have l7 : (vb.alloc (.cells #[.int .i64 (tv 0).re, .int .i64 (tv 0).im, .int .i64 (tv 1).re, .int .i64 (tv 1).im, .int .i64 (tv 2).re, .int .i64 (tv 2).im, .int .i64 (tv 3).re, .int .i64 (tv 3).im] 73)).cell? ⟨vb.heap.size, 7, none⟩ = some (.int .i64 (tv 3).im) := cell_new (by simp) rfl
          have lk : (vb.alloc (.cells #[.int .i64 (tv 0).re, .int .i64 (tv 0).im, .int .i64 (tv 1).re, .int .i64 (tv 1).im, .int .i64 (tv 2).re, .int .i64 (tv 2).im, .int .i64 (tv 3).re, .int .i64 (tv 3).im] 73)).heap[vb.heap.size]? = some (.cells #[.int .i64 (tv 0).re, .int .i64 (tv 0).im, .int .i64 (tv 1).re, .int .i64 (tv 1).im, .int .i64 (tv 2).re, .int .i64 (tv 2).im, .int .i64 (tv 3).re, .int .i64 (tv 3).im] 73) := blk_new (by simp)
          have zl : vb.heap.size < (vb.alloc (.cells #[.int .i64 (tv 0).re, .int .i64 (tv 0).im, .int .i64 (tv 1).re, .int .i64 (tv 1).im, .int .i64 (tv 2).re, .int .i64 (tv 2).im, .int .i64 (tv 3).re, .int .i64 (tv 3).im] 73)).heap.size := World.block_lt_of_cell? _ _ l0
          generalize (vb.alloc (.cells #[.int .i64 (tv 0).re, .int .i64 (tv 0).im, .int .i64 (tv 1).re, .int .i64 (tv 1).im, .int .i64 (tv 2).re, .int .i64 (tv 2).im, .int .i64 (tv 3).re, .int .i64 (tv 3).im] 73)) = vc at *
          have kc : Below w.heap.size w vc := (kb).trans ((hbc).mono (kb).size)
          replace y0 := cell_below' hbc y0
          replace y1 := cell_below' hbc y1
          replace zy := Nat.lt_of_lt_of_le zy (hbc).size
          replace b0 := cell_below' hbc b0
          replace b1 := cell_below' hbc b1
          replace zb := Nat.lt_of_lt_of_le zb (hbc).size
          replace hT := RowsAt.below hT hbc
          clear hbc kb
          have HLX : Hid (GxAt vb.heap.size tv vc) := Lib.hid (gx_of l0 l1 l2 l3 l4 l5 l6 l7 (fun j => blk_frozen lk))
          clear lk l0 l1 l2 l3 l4 l5 l6 l7
          go_wp2_with (fail)
          refine (HCT.out _ _ _ hT).mono ?_
          rintro e vd ⟨B3, c3, rfl, -, hB3, hbd⟩
          have HLX2 := Lib.hid (HLX.out.below hbd)
          have kd : Below w.heap.size w vd := (kc).trans ((hbd).mono (kc).size)
          replace y0 := cell_below' hbd y0
          replace y1 := cell_below' hbd y1
          replace zy := Nat.lt_of_lt_of_le zy (hbd).size
          replace b0 := cell_below' hbd b0
          replace b1 := cell_below' hbd b1
          replace zb := Nat.lt_of_lt_of_le zb (hbd).size
          clear hbd kc
          clear HLX hT HCT
          go_wp2_with (fail)
          refine (HDT.out _ _ _ hB3).mono ?_
          rintro e ve ⟨rfl, hbe⟩
          have HLX3 := Lib.hid (HLX2.out.below hbe)
          have ke : Below w.heap.size w ve := (kd).trans ((hbe).mono (kd).size)
          replace y0 := cell_below' hbe y0
          replace y1 := cell_below' hbe y1
          replace zy := Nat.lt_of_lt_of_le zy (hbe).size
          replace b0 := cell_below' hbe b0
          replace b1 := cell_below' hbe b1
          replace zb := Nat.lt_of_lt_of_le zb (hbe).size
          clear hbe kd
          clear HLX2 hB3 HDT
          generalize vb.heap.size = lb at *
          go_wp2_with (fail)
          go_loopw [19] (fun i wr => ∃ k : Nat, k ≤ 4 ∧ i = .int .i64 k ∧ Below ve.heap.size ve wr) (fun i _ => 4 - (intOf i).toNat)
          case atStart => exact ⟨0, Nat.zero_le _, rfl, Below.refl _ _⟩
          case round =>
            obtain ⟨k, hk, rfl, hbq⟩ := hrel
            obtain ⟨vf, rfl⟩ : ∃ vf : World, vf = wr := ⟨_, rfl⟩
            have hbq' := hbq
            have HLX4 := Lib.hid (HLX3.out.below hbq)
            have kf : Below w.heap.size w vf := (ke).trans ((hbq).mono (ke).size)
            replace y0 := cell_below' hbq y0
            replace y1 := cell_below' hbq y1
            replace zy := Nat.lt_of_lt_of_le zy (hbq).size
            replace b0 := cell_below' hbq b0
            replace b1 := cell_below' hbq b1
            replace zb := Nat.lt_of_lt_of_le zb (hbq).size
            clear hbq ke
            by_cases hk4 : k < 4
            · have hkI : (k : Int) < 4 := by omega
              obtain ⟨c0, c1⟩ := HLX4.out.c k hk4
              have hlz := HLX4.out.z
              have hne0 : vf.heap.size ≠ lb := by omega
              have htk := HTF.out k hk4
              clear HLX4 HLX3
              go_upto_region 29 with (fail)
              have hbg : Below vf.heap.size vf (vf.alloc (.cells #[.int .i64 0, .int .i64 0] 24)) := below_alloc _ (Nat.le_refl _) (Below.refl _ _)
              have n0 : (vf.alloc (.cells #[.int .i64 0, .int .i64 0] 24)).cell? ⟨vf.heap.size, 0, none⟩ = some (.int .i64 0) := cell_new (by simp) rfl
              have nf0 : (vf.alloc (.cells #[.int .i64 0, .int .i64 0] 24)).frozen? ⟨vf.heap.size, 0, none⟩ = false := frozen_new (by simp)
              have n1 : (vf.alloc (.cells #[.int .i64 0, .int .i64 0] 24)).cell? ⟨vf.heap.size, 1, none⟩ = some (.int .i64 0) := cell_new (by simp) rfl
              have nf1 : (vf.alloc (.cells #[.int .i64 0, .int .i64 0] 24)).frozen? ⟨vf.heap.size, 1, none⟩ = false := frozen_new (by simp)
              have zn : vf.heap.size < (vf.alloc (.cells #[.int .i64 0, .int .i64 0] 24)).heap.size := World.block_lt_of_cell? _ _ n0
              generalize (vf.alloc (.cells #[.int .i64 0, .int .i64 0] 24)) = vg at *
              replace c0 := cell_below' hbg c0
              replace c1 := cell_below' hbg c1
              have zc := Nat.lt_of_lt_of_le hlz hbg.size
              have hbq2 : Below vf.heap.size vf vg := hbg
              have hne1 : vf.heap.size ≠ lb := hne0
              have kg : Below w.heap.size w vg := (kf).trans ((hbg).mono (kf).size)
              replace y0 := cell_below' hbg y0
              replace y1 := cell_below' hbg y1
              replace zy := Nat.lt_of_lt_of_le zy (hbg).size
              replace b0 := cell_below' hbg b0
              replace b1 := cell_below' hbg b1
              replace zb := Nat.lt_of_lt_of_le zb (hbg).size
              clear hbg kf
              by_cases hkp : k = pn
              · have e1 : ((k : Int) == pn) = true := by rw [beq_iff_eq]; omega
                rw [if_pos hkp] at htk
                rw [htk] at c0 c1
                simp only at c0 c1
                clear htk hkp
                go_upto_region 31 with (fail)
                have hbq3 : Below vf.heap.size vf ((vg.setCell ⟨vf.heap.size, 0, none⟩ (.int .i64 (4 * mn * g0))).setCell ⟨vf.heap.size, 1, none⟩ (.int .i64 (4 * mn * g1))) := below_set _ (by simp; try omega) (below_set _ (by simp; try omega) (hbq2))
                replace n0 : ((vg.setCell ⟨vf.heap.size, 0, none⟩ (.int .i64 (4 * mn * g0))).setCell ⟨vf.heap.size, 1, none⟩ (.int .i64 (4 * mn * g1))).cell? ⟨vf.heap.size, 0, none⟩ = some (.int .i64 (4 * mn * g0)) := cell_next (by decide) (cell_same (n0))
                replace n1 : ((vg.setCell ⟨vf.heap.size, 0, none⟩ (.int .i64 (4 * mn * g0))).setCell ⟨vf.heap.size, 1, none⟩ (.int .i64 (4 * mn * g1))).cell? ⟨vf.heap.size, 1, none⟩ = some (.int .i64 (4 * mn * g1)) := cell_same (cell_next (by decide) (n1))
                replace nf0 := (show World.frozen? ((vg.setCell ⟨vf.heap.size, 0, none⟩ (.int .i64 (4 * mn * g0))).setCell ⟨vf.heap.size, 1, none⟩ (.int .i64 (4 * mn * g1))) ⟨vf.heap.size, 0, none⟩ = false from frozen_set _ _ (frozen_set _ _ (nf0)))
                replace nf1 := (show World.frozen? ((vg.setCell ⟨vf.heap.size, 0, none⟩ (.int .i64 (4 * mn * g0))).setCell ⟨vf.heap.size, 1, none⟩ (.int .i64 (4 * mn * g1))) ⟨vf.heap.size, 1, none⟩ = false from frozen_set _ _ (frozen_set _ _ (nf1)))
                have hszQ : ((vg.setCell ⟨vf.heap.size, 0, none⟩ (.int .i64 (4 * mn * g0))).setCell ⟨vf.heap.size, 1, none⟩ (.int .i64 (4 * mn * g1))).heap.size = vg.heap.size := by simp
                replace zn : vf.heap.size < ((vg.setCell ⟨vf.heap.size, 0, none⟩ (.int .i64 (4 * mn * g0))).setCell ⟨vf.heap.size, 1, none⟩ (.int .i64 (4 * mn * g1))).heap.size := by rw [hszQ]; exact zn
                replace c0 := cell_far (u := .int .i64 (4 * mn * g1)) (q := ⟨vf.heap.size, 1, none⟩) hne1 (cell_far (u := .int .i64 (4 * mn * g0)) (q := ⟨vf.heap.size, 0, none⟩) hne1 (c0))
                replace c1 := cell_far (u := .int .i64 (4 * mn * g1)) (q := ⟨vf.heap.size, 1, none⟩) hne1 (cell_far (u := .int .i64 (4 * mn * g0)) (q := ⟨vf.heap.size, 0, none⟩) hne1 (c1))
                replace zc := Nat.lt_of_lt_of_eq zc hszQ.symm
                clear hszQ hbq2
                generalize ((vg.setCell ⟨vf.heap.size, 0, none⟩ (.int .i64 (4 * mn * g0))).setCell ⟨vf.heap.size, 1, none⟩ (.int .i64 (4 * mn * g1))) = vh at *
                (refine region_extx 4 (by kernel_rfl) (by kernel_rfl) fun hx => ?_; simp only [List.take_succ_cons, List.take_zero, List.drop_succ_cons, List.drop_zero]; (repeat (any_goals (first | go_big_quiet_step (fail) | quiet_step (fail)))))
                (refine wpQuiet_nil ?_; clear hx; intro u; have hbvi := ext_bel _ u; have hxvi := ext_cell _ u; generalize ext _ u = vi at *; clear u; have hsvi := hbvi.size; (try simp at hsvi))
                have hbq4 : Below ve.heap.size ve vi := hbq'.trans ((hbq3.trans (hbvi.mono hbq3.size)).mono hbq'.size)
                go_wp2_with (fail)
                exact ⟨⟨k + 1, by omega, by go_num, hbq4⟩, by simp [intOf]; omega⟩
              · have e1 : ((k : Int) == pn) = false := by rw [beq_eq_false_iff_ne]; omega
                rw [if_neg hkp] at htk
                rw [htk] at c0 c1
                simp only at c0 c1
                clear htk hkp
                go_upto_region 31 with (fail)
                (refine region_extx 4 (by kernel_rfl) (by kernel_rfl) fun hx => ?_; simp only [List.take_succ_cons, List.take_zero, List.drop_succ_cons, List.drop_zero]; (repeat (any_goals (first | go_big_quiet_step (fail) | quiet_step (fail)))))
                (refine wpQuiet_nil ?_; clear hx; intro u; have hbvi := ext_bel _ u; have hxvi := ext_cell _ u; generalize ext _ u = vi at *; clear u; have hsvi := hbvi.size; (try simp at hsvi))
                have hbq4 : Below ve.heap.size ve vi := hbq'.trans ((hbq2.trans (hbvi.mono hbq2.size)).mono hbq'.size)
                go_wp2_with (fail)
                exact ⟨⟨k + 1, by omega, by go_num, hbq4⟩, by simp [intOf]; omega⟩
            · obtain rfl : k = 4 := by omega
              clear HLX3 HLX4 HTF
              go_wp2_with (fail)
              go_ret
              exact ⟨rfl, kf⟩
theorem RSamplesErr_long (A : Option Addr) (l : List Gs) (cap : Nat) (w : World) (hl : 64 < l.length) :
    Calls Tryd.prog 41 #[.slice A l.length cap] w fun e w' => e = .returned (.int .i64 8) ∧ w = w' := by
  have h1 : decide ((64 : Int) < (l.length : Int)) = true := decide_eq_true (by omega)
  have h2 : (64 : Int) < (l.length : Int) := by omega
  go_enter Tryd.func41, Tryd.ntmps41
  go_wp2_with (fail)
  go_ret
  exact ⟨rfl, rfl⟩
set_option maxRecDepth 100000 in
set_option maxHeartbeats 8000000 in
theorem EchoTurns_any (A : Option Addr) (x : List Gs) (ca : Nat) (g : Gs) (p m : Int) (w : World) (ht : Tab w) (hA : GsAt w A x) :
    Calls Tryd.prog 6 #[.slice A x.length ca, gv g, .agg #[.int .i64 p, .int .i64 m]] w fun e w' => e = .returned (.bool true) ∧ Below w.heap.size w w' := by
  by_cases hl : x.length ≤ 64
  · exact EchoTurns_short A x ca g p m w ht hA (by omega)
  · have HT := Lib.hid ht
    have HSE := Lib.hid (fun W => RSamplesErr_long A x ca W (by omega))
    have e1 : ((x.length : Int) == 0) = false := by rw [beq_eq_false_iff_ne]; omega
    clear ht hl hA
    obtain ⟨g0, g1⟩ := g
    simp only [gv] at *
    go_enter Tryd.func6, Tryd.ntmps6
    go_upto_region 1 with (fail)
    have hb0 : Below w.heap.size w ((w.alloc (.cells #[.int .i64 g0, .int .i64 g1] 24)).alloc (.cells #[.int .i64 p, .int .i64 m] 70)) := below_alloc _ (Nat.le_refl _) (below_alloc _ (Nat.le_refl _) (Below.refl _ _))
    have y0 : ((w.alloc (.cells #[.int .i64 g0, .int .i64 g1] 24)).alloc (.cells #[.int .i64 p, .int .i64 m] 70)).cell? ⟨w.heap.size, 0, none⟩ = some (.int .i64 g0) := cell_alloc _ (cell_new (by simp) rfl)
    have y1 : ((w.alloc (.cells #[.int .i64 g0, .int .i64 g1] 24)).alloc (.cells #[.int .i64 p, .int .i64 m] 70)).cell? ⟨w.heap.size, 1, none⟩ = some (.int .i64 g1) := cell_alloc _ (cell_new (by simp) rfl)
    have zy : w.heap.size < ((w.alloc (.cells #[.int .i64 g0, .int .i64 g1] 24)).alloc (.cells #[.int .i64 p, .int .i64 m] 70)).heap.size := World.block_lt_of_cell? _ _ y0
    have b0 : ((w.alloc (.cells #[.int .i64 g0, .int .i64 g1] 24)).alloc (.cells #[.int .i64 p, .int .i64 m] 70)).cell? ⟨w.heap.size + 1, 0, none⟩ = some (.int .i64 p) := cell_new (by simp) rfl
    have b1 : ((w.alloc (.cells #[.int .i64 g0, .int .i64 g1] 24)).alloc (.cells #[.int .i64 p, .int .i64 m] 70)).cell? ⟨w.heap.size + 1, 1, none⟩ = some (.int .i64 m) := cell_new (by simp) rfl
    have zb : w.heap.size + 1 < ((w.alloc (.cells #[.int .i64 g0, .int .i64 g1] 24)).alloc (.cells #[.int .i64 p, .int .i64 m] 70)).heap.size := World.block_lt_of_cell? _ _ b0
    generalize ((w.alloc (.cells #[.int .i64 g0, .int .i64 g1] 24)).alloc (.cells #[.int .i64 p, .int .i64 m] 70)) = w0 at *
    have HT0 := Lib.hid (HT.out.below hb0)
    go_wp2_with (fail)
    refine (awake_any w0 HT0.out).mono ?_
    rintro e w1 ⟨rfl, hb1⟩
    have k1 : Below w.heap.size w w1 := (hb0).trans ((hb1).mono (hb0).size)
    replace y0 := cell_below' hb1 y0
    replace y1 := cell_below' hb1 y1
    replace zy := Nat.lt_of_lt_of_le zy (hb1).size
    replace b0 := cell_below' hb1 b0
    replace b1 := cell_below' hb1 b1
    replace zb := Nat.lt_of_lt_of_le zb (hb1).size
    clear hb1 hb0
    go_wp2_with (fail)
    refine (HSE.out _).mono ?_
    rintro e w' ⟨rfl, rfl⟩
    go_wp2_with (fail)
    go_ret
    exact ⟨rfl, k1⟩
end Go.Proofs.YtppghnbabnhnbaaDoor
