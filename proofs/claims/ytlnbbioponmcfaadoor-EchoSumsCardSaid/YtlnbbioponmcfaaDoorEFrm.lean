/-
  Chapter 2: turned numbers; the coherent sum of frames.
-/
import Derived.Test.YtlnbbioponmcfaaDoorEFrP
namespace Go.Proofs.YtlnbbioponmcfaaDoor
open Go.ChangeShapes Go.WideShapes Go.ChangeAt Go.RowKit
set_option linter.unusedVariables false
set_option linter.unusedSimpArgs false

set_option maxRecDepth 100000 in
set_option maxHeartbeats 4000000 in
theorem turned_any (g : Gs) (p : Int) (w : World) (hp0 : 0 ≤ p) (hp1 : p ≤ 3) (hg : Sz 1000000000 g) :
    Calls Tryd.prog 34 #[gv g, .int .i64 p] w fun e w' => e = .returned (gv (rot p g)) ∧ Below w.heap.size w w' := by
  obtain ⟨s, rfl⟩ : ∃ s : Nat, p = s := ⟨p.toNat, by omega⟩
  have hs3 : s ≤ 3 := by omega
  have hq : rot (s : Int) g = rotN s g := by unfold rot; rw [show ((s : Int) % 4).toNat = s by omega]
  rw [hq]
  clear hq
  have e1 : (s : Int).tmod 4 = s := by rw [Int.tmod_eq_emod_of_nonneg (by omega)]; omega
  have e2 : ((s : Int) + 4).tmod 4 = s := by rw [Int.tmod_eq_emod_of_nonneg (by omega)]; omega
  have e3 : (s : Int) % 4 = s := by omega
  have e4 : ((s : Int) + 4) % 4 = s := by omega
  have HSZ := Lib.hid (fun k => Sz.rotN hg k)
  have HR0 : Hid (rotN 0 g = g) := Lib.hid rfl
  have HR1 : Hid (∀ k, rotN (k + 1) g = tI (rotN k g)) := Lib.hid fun _ => rfl
  obtain ⟨g0, g1⟩ := g
  simp only [gv] at *
  go_enter Tryd.func34, Tryd.ntmps34
  go_upto_region 1 with (fail)
  have hb1 : Below w.heap.size w ((w.alloc (.cells #[.int .i64 g0, .int .i64 g1] 81)).alloc (.cells #[.int .i64 0, .int .i64 0] 81)) := below_alloc _ (Nat.le_refl _) (below_alloc _ (Nat.le_refl _) (Below.refl _ _))
  have c0 : ((w.alloc (.cells #[.int .i64 g0, .int .i64 g1] 81)).alloc (.cells #[.int .i64 0, .int .i64 0] 81)).cell? ⟨w.heap.size, 0, none⟩ = some (.int .i64 g0) := cell_alloc _ (cell_new (by simp) rfl)
  have cf0 : ((w.alloc (.cells #[.int .i64 g0, .int .i64 g1] 81)).alloc (.cells #[.int .i64 0, .int .i64 0] 81)).frozen? ⟨w.heap.size, 0, none⟩ = false := frozen_alloc _ (by first | (simp; done) | (simp; omega)) (frozen_new (by simp))
  have c1 : ((w.alloc (.cells #[.int .i64 g0, .int .i64 g1] 81)).alloc (.cells #[.int .i64 0, .int .i64 0] 81)).cell? ⟨w.heap.size, 1, none⟩ = some (.int .i64 g1) := cell_alloc _ (cell_new (by simp) rfl)
  have cf1 : ((w.alloc (.cells #[.int .i64 g0, .int .i64 g1] 81)).alloc (.cells #[.int .i64 0, .int .i64 0] 81)).frozen? ⟨w.heap.size, 1, none⟩ = false := frozen_alloc _ (by first | (simp; done) | (simp; omega)) (frozen_new (by simp))
  have zc : w.heap.size < ((w.alloc (.cells #[.int .i64 g0, .int .i64 g1] 81)).alloc (.cells #[.int .i64 0, .int .i64 0] 81)).heap.size := World.block_lt_of_cell? _ _ c0
  have r0 : ((w.alloc (.cells #[.int .i64 g0, .int .i64 g1] 81)).alloc (.cells #[.int .i64 0, .int .i64 0] 81)).cell? ⟨w.heap.size + 1, 0, none⟩ = some (.int .i64 0) := cell_new (by simp) rfl
  have rf0 : ((w.alloc (.cells #[.int .i64 g0, .int .i64 g1] 81)).alloc (.cells #[.int .i64 0, .int .i64 0] 81)).frozen? ⟨w.heap.size + 1, 0, none⟩ = false := frozen_new (by simp)
  have r1 : ((w.alloc (.cells #[.int .i64 g0, .int .i64 g1] 81)).alloc (.cells #[.int .i64 0, .int .i64 0] 81)).cell? ⟨w.heap.size + 1, 1, none⟩ = some (.int .i64 0) := cell_new (by simp) rfl
  have rf1 : ((w.alloc (.cells #[.int .i64 g0, .int .i64 g1] 81)).alloc (.cells #[.int .i64 0, .int .i64 0] 81)).frozen? ⟨w.heap.size + 1, 1, none⟩ = false := frozen_new (by simp)
  have zr : w.heap.size + 1 < ((w.alloc (.cells #[.int .i64 g0, .int .i64 g1] 81)).alloc (.cells #[.int .i64 0, .int .i64 0] 81)).heap.size := World.block_lt_of_cell? _ _ r0
  generalize ((w.alloc (.cells #[.int .i64 g0, .int .i64 g1] 81)).alloc (.cells #[.int .i64 0, .int .i64 0] 81)) = w1 at *
  go_wp2_with (fail)
  clear e1 e2 e3 e4
  go_loopw [9] (fun o wr => ∃ (k : Nat), k ≤ s ∧ o = .int .i64 k ∧ wr.cell? ⟨w.heap.size, 0, none⟩ = some (.int .i64 (rotN k ⟨g0, g1⟩).re) ∧ wr.cell? ⟨w.heap.size, 1, none⟩ = some (.int .i64 (rotN k ⟨g0, g1⟩).im) ∧ wr.frozen? ⟨w.heap.size, 0, none⟩ = false ∧ wr.frozen? ⟨w.heap.size, 1, none⟩ = false ∧ wr.cell? ⟨w.heap.size + 1, 0, none⟩ = some (.int .i64 0) ∧ wr.cell? ⟨w.heap.size + 1, 1, none⟩ = some (.int .i64 0) ∧ wr.frozen? ⟨w.heap.size + 1, 0, none⟩ = false ∧ wr.frozen? ⟨w.heap.size + 1, 1, none⟩ = false ∧ Below w.heap.size w wr) (fun o _ => s - (intOf o).toNat)
  case atStart => exact ⟨0, Nat.zero_le _, rfl, c0, c1, cf0, cf1, r0, r1, rf0, rf1, hb1⟩
  case round =>
    obtain ⟨k, hk, rfl, c0, c1, cf0, cf1, r0, r1, rf0, rf1, hbr⟩ := hrel
    obtain ⟨wo, rfl⟩ : ∃ wo : World, wo = wr := ⟨_, rfl⟩
    have S1 := Lib.hid (HR1.out k)
    obtain ⟨m0, m1, m2, m3⟩ := HSZ.out k
    have zc : w.heap.size < wo.heap.size := World.block_lt_of_cell? _ _ c0
    have zr : w.heap.size + 1 < wo.heap.size := World.block_lt_of_cell? _ _ r0
    by_cases hkp : k < s
    · rcases hcu : rotN k ⟨g0, g1⟩ with ⟨u, v⟩
      rw [hcu] at S1 c0 c1 m0 m1 m2 m3
      simp only [tI] at S1 c0 c1 m0 m1 m2 m3
      have hk1 : (k : Int) < s := by omega
      have hner : w.heap.size ≠ w.heap.size + 1 := by omega
      clear HSZ HR0 HR1 hcu
      go_wp2_with (fail)
      have h4 : Below w.heap.size w ((wo.setCell ⟨w.heap.size, 0, none⟩ (.int .i64 (-v))).setCell ⟨w.heap.size, 1, none⟩ (.int .i64 u)) := below_set _ (by simp; try omega) (below_set _ (by simp; try omega) (hbr))
      replace c0 : ((wo.setCell ⟨w.heap.size, 0, none⟩ (.int .i64 (-v))).setCell ⟨w.heap.size, 1, none⟩ (.int .i64 u)).cell? ⟨w.heap.size, 0, none⟩ = some (.int .i64 (-v)) := cell_next (by decide) (cell_same (c0))
      replace c1 : ((wo.setCell ⟨w.heap.size, 0, none⟩ (.int .i64 (-v))).setCell ⟨w.heap.size, 1, none⟩ (.int .i64 u)).cell? ⟨w.heap.size, 1, none⟩ = some (.int .i64 u) := cell_same (cell_next (by decide) (c1))
      replace cf0 := (show World.frozen? ((wo.setCell ⟨w.heap.size, 0, none⟩ (.int .i64 (-v))).setCell ⟨w.heap.size, 1, none⟩ (.int .i64 u)) ⟨w.heap.size, 0, none⟩ = false from frozen_set _ _ (frozen_set _ _ (cf0)))
      replace cf1 := (show World.frozen? ((wo.setCell ⟨w.heap.size, 0, none⟩ (.int .i64 (-v))).setCell ⟨w.heap.size, 1, none⟩ (.int .i64 u)) ⟨w.heap.size, 1, none⟩ = false from frozen_set _ _ (frozen_set _ _ (cf1)))
      have hszQ : ((wo.setCell ⟨w.heap.size, 0, none⟩ (.int .i64 (-v))).setCell ⟨w.heap.size, 1, none⟩ (.int .i64 u)).heap.size = wo.heap.size := by simp
      replace zc : w.heap.size < ((wo.setCell ⟨w.heap.size, 0, none⟩ (.int .i64 (-v))).setCell ⟨w.heap.size, 1, none⟩ (.int .i64 u)).heap.size := by rw [hszQ]; exact zc
      replace r0 := cell_far (u := .int .i64 u) (q := ⟨w.heap.size, 1, none⟩) hner (cell_far (u := .int .i64 (-v)) (q := ⟨w.heap.size, 0, none⟩) hner (r0))
      replace rf0 := frozen_set ⟨w.heap.size, 1, none⟩ (.int .i64 u) (frozen_set ⟨w.heap.size, 0, none⟩ (.int .i64 (-v)) (rf0))
      replace r1 := cell_far (u := .int .i64 u) (q := ⟨w.heap.size, 1, none⟩) hner (cell_far (u := .int .i64 (-v)) (q := ⟨w.heap.size, 0, none⟩) hner (r1))
      replace rf1 := frozen_set ⟨w.heap.size, 1, none⟩ (.int .i64 u) (frozen_set ⟨w.heap.size, 0, none⟩ (.int .i64 (-v)) (rf1))
      replace zr := Nat.lt_of_lt_of_eq zr hszQ.symm
      clear hszQ hbr
      generalize ((wo.setCell ⟨w.heap.size, 0, none⟩ (.int .i64 (-v))).setCell ⟨w.heap.size, 1, none⟩ (.int .i64 u)) = w4 at *
      exact ⟨⟨k + 1, by omega, by go_num, by rw [S1.out]; exact c0, by rw [S1.out]; exact c1, cf0, cf1, r0, r1, rf0, rf1, h4⟩, by simp [intOf]; omega⟩
    · obtain rfl : k = s := by omega
      clear HSZ HR0 HR1 S1
      rcases hcu : rotN k ⟨g0, g1⟩ with ⟨u, v⟩
      rw [hcu] at c0 c1
      have HCU := Lib.hid hcu
      simp only at c0 c1
      clear hcu
      go_wp2_with (fail)
      obtain ⟨q0, q1⟩ := set2 (v0 := .int .i64 u) (v1 := .int .i64 v) r0 r1
      refine bodyPost_ret (v := .agg #[.int .i64 u, .int .i64 v]) (by simp [results, Tryd.results34, go_sem, q0, q1]) rfl ?_
      have hle : w.heap.size ≤ w.heap.size + 1 := by omega
      exact ⟨by rw [HCU.out], below_set _ hle (below_set _ hle hbr)⟩
def GsE (q : List Gs × Int) (w : World) (e : Ending) (w' : World) : Prop := ∃ A' c', e = .returned (.tuple #[.slice A' q.1.length c', .int .i64 q.2]) ∧ GsAt w' A' q.1 ∧ Below w.heap.size w w'
set_option maxRecDepth 100000 in
set_option maxHeartbeats 8000000 in
theorem CoherentSum_any (A : Option Addr) (fs : List Frw) (ca : Nat) (B : Option Addr) (ts : List Int) (cb : Nat) (w : World) (hl : fs.length ≤ 1000) (ht : ts.length ≤ 1000) (hfl : ∀ x ∈ fs, x.l.length ≤ 1000) (hA : FrsAt w A fs) (hB : IntsAt w B ts) :
    Calls Tryd.prog 10 #[.slice A fs.length ca, .slice B ts.length cb] w (GsE (cohQ fs ts) w) := by
  have hli : (fs.length : Int) ≤ 1000 := by omega
  have hti : (ts.length : Int) ≤ 1000 := by omega
  have e0 : decide ((0 : Int) < (fs.length : Int)) = decide (0 < fs.length) := by by_cases h : 0 < fs.length <;> simp [h] <;> omega
  have e8 : decide ((fs.length : Int) ≤ 8) = decide (fs.length ≤ 8) := by by_cases h : fs.length ≤ 8 <;> simp [h] <;> omega
  have eq1 : ((ts.length : Int) == (fs.length : Int)) = decide (ts.length = fs.length) := by
    by_cases h : ts.length = fs.length
    · rw [decide_eq_true h, h]; simp
    · rw [decide_eq_false h, beq_eq_false_iff_ne]; omega
  have eq2 : (ts.length == fs.length) = decide (ts.length = fs.length) := by
    by_cases h : ts.length = fs.length
    · rw [decide_eq_true h, h]; simp
    · rw [decide_eq_false h, beq_eq_false_iff_ne]; omega
  by_cases hok : OkFs fs ts
  rotate_left 1
  · have hE : frsE fs ts = firstE [unl (decide (0 < fs.length) && decide (ts.length = fs.length)) 10, unl (decide (fs.length ≤ 8)) 8] ∧ frsE fs ts ≠ 0 := by
      cases h1 : (decide (0 < fs.length) && decide (ts.length = fs.length))
      · rw [frsE_1 h1]; exact ⟨by rw [unl_false, firstE_nz (by decide)], by decide⟩
      · by_cases h2 : fs.length ≤ 8
        · rw [Bool.and_eq_true, decide_eq_true_eq, decide_eq_true_eq] at h1
          exact absurd ⟨h1.1, h1.2, h2⟩ hok
        · rw [frsE_2 h1 h2, unl_true, firstE_z, decide_eq_false h2]; exact ⟨rfl, by decide⟩
    have HQ := Lib.hid (cohQ_bad hE.2)
    have HE := Lib.hid hE.1.symm
    have e9 : (frsE fs ts != 0) = true := by simpa using hE.2
    clear hE hok
    generalize frsE fs ts = E at *
    generalize decide (ts.length = fs.length) = bB at *
    generalize decide (fs.length ≤ 8) = bC at *
    cases hbA : decide (0 < fs.length)
    all_goals
      rw [hbA] at e0 HE
      have e0n : decide (0 < fs.length) = _ := hbA
      clear hbA
      go_enter Tryd.func10, Tryd.ntmps10
      go_wp2_with (first | (go_at_call 28; refine (unless_any _ _ _).mono ?_; rintro e w' ⟨rfl, rfl⟩) | (go_at_call 27; refine (first2 _ _ _ _ (by simp) (cell_new (by simp) rfl) (cell_new (by simp) rfl)).mono ?_; rintro e w' ⟨rfl, rfl⟩; first | rw [HE.out] | (simp only [Bool.false_and, Bool.true_and] at HE; rw [HE.out])))
      go_ret2
      rw [HQ.out]
      exact ⟨none, 0, rfl, RowsAt.nil, below_alloc _ (Nat.le_refl _) (Below.refl _ _)⟩
  obtain ⟨hp, he, hm⟩ := hok
  have hE3 := frsE_3 ⟨hp, he, hm⟩
  have HQB := Lib.hid (@cohQ_bad fs ts)
  have HQO := Lib.hid (@cohQ_ok fs ts)
  rw [hE3] at HQB HQO
  rw [decide_eq_true hp] at e0
  rw [decide_eq_true hm] at e8
  rw [decide_eq_true he] at eq1 eq2
  have e0n : decide (0 < fs.length) = true := decide_eq_true hp
  have hn0 := n0_at hp
  obtain ⟨N, hN⟩ : ∃ N, N = n0 fs := ⟨_, rfl⟩
  rw [← hN] at hn0 HQB HQO
  have hN1 : N ≤ 1000 := by rw [← hn0]; exact hfl _ (List.getElem_mem hp)
  have HN0 := Lib.hid hn0
  have HNN := Lib.hid hN.symm
  have HEQ := Lib.hid he
  have HFL := Lib.hid hfl
  have HDR := Lib.hid (fun (k : Nat) (h1 : k < fs.length) (h2 : k < ts.length) => fz_drop h1 h2)
  have HTK := Lib.hid (fun (k : Nat) (h1 : k < fs.length) (h2 : k < ts.length) => fz_take h1 h2)
  have HLN := Lib.hid (fz_len he)
  have hpI : (0 : Int) < (fs.length : Int) := by omega
  obtain ⟨bA, oA, rfl, hbA, cA, -⟩ := hA.at_ hp
  rw [hn0] at cA
  obtain ⟨aA, haA⟩ : ∃ a, a = fs[0].a := ⟨_, rfl⟩
  obtain ⟨kA, hkA⟩ : ∃ a, a = fs[0].c := ⟨_, rfl⟩
  rw [← haA, ← hkA] at cA
  simp only [Nat.add_zero] at cA
  have CA := Lib.hid cA
  clear hE3 hn0 haA hkA hfl he hN
  have hmk : ∀ w, (Instr.makeSlice 80 (.int .i64 (N : Int)) (.int .i64 (N : Int))).run Tryd.prog w = .ok (.slice (some ⟨w.heap.size, 0, none⟩) N N) (w.alloc (.cells (madeCells #[.int .i64 0, .int .i64 0] (N * 2)) 81)) := fun w => by
    obtain ⟨i, hi, hzz⟩ := Option.map_eq_some_iff.1 infoNum
    simp only [Prod.mk.injEq] at hzz
    obtain ⟨hz, hs, hb⟩ := hzz
    have hr := run_make (P := Tryd.prog) w 80 81 i _ Tryd.underlying80 hi hz .i64 .i64 N N (by omega) (Int.le_refl _) (by rw [hb]; omega) (by omega)
    simp only [Int.toNat_natCast, hs] at hr
    exact hr
  go_enter Tryd.func10, Tryd.ntmps10
  go_upto_region 4 with (first | (go_at_call 28; refine (unless_any _ _ _).mono ?_; rintro e w' ⟨rfl, rfl⟩) | (go_at_call 27; refine (first2 _ _ _ _ (by simp) (cell_new (by simp) rfl) (cell_new (by simp) rfl)).mono ?_; rintro e w' ⟨rfl, rfl⟩; rw [show firstE [unl true 10, unl true 8] = 0 from rfl]))
  have hb1 : Below w.heap.size w (w.alloc (.cells #[.int .i64 (unl true 10), .int .i64 (unl true 8)] 34)) := below_alloc _ (Nat.le_refl _) (Below.refl _ _)
  have er0 : (w.alloc (.cells #[.int .i64 (unl true 10), .int .i64 (unl true 8)] 34)).cell? ⟨w.heap.size, 0, none⟩ = some (.int .i64 (unl true 10)) := cell_new (by simp) rfl
  have er1 : (w.alloc (.cells #[.int .i64 (unl true 10), .int .i64 (unl true 8)] 34)).cell? ⟨w.heap.size, 1, none⟩ = some (.int .i64 (unl true 8)) := cell_new (by simp) rfl
  have zer : w.heap.size < (w.alloc (.cells #[.int .i64 (unl true 10), .int .i64 (unl true 8)] 34)).heap.size := World.block_lt_of_cell? _ _ er0
  generalize (w.alloc (.cells #[.int .i64 (unl true 10), .int .i64 (unl true 8)] 34)) = w1 at *
  clear er0 er1 zer e0 e8 eq1 eq2 e0n
  have h1w := hb1
  have hA1 : FrsAt w1 (some ⟨bA, oA, none⟩) fs := hA.below hb1
  have hB1 : IntsAt w1 B ts := RowsAt.below hB hb1
  replace cA := cell_below' hb1 cA
  replace hbA := Nat.lt_of_lt_of_le hbA hb1.size
  clear hA hB
  go_upto_region 5 with (fail)
  have hg0 : GnAt w1.heap.size N (cohG ((fz fs ts).take 0)) (w1.alloc (.cells (madeCells #[.int .i64 0, .int .i64 0] (N * 2)) 81)) := by
    rw [show cohG ((fz fs ts).take 0) = fun _ => gz from funext fun j => by rw [List.take_zero]; rfl]; exact GnAt.made
  have hbv : Below w1.heap.size w1 (w1.alloc (.cells (madeCells #[.int .i64 0, .int .i64 0] (N * 2)) 81)) := (by repeat (first | assumption | exact Below.refl _ _ | refine Below.drew ?_ | (refine below_alloc _ ?_ ?_; focus (first | omega | (simp; done) | (simp; omega) | (simp at *; omega))) | (refine below_set _ ?_ ?_; focus (first | omega | (simp; done) | (simp; omega) | (simp at *; omega))) | refine below_drewN ?_ _ | (refine below_call (by assumption) ?_ ?_; focus (first | omega | (simp; done) | (simp; omega) | (simp at *; omega))) | (refine below_call' (by assumption) ?_ ?_; focus (first | omega | (simp; done) | (simp; omega) | (simp at *; omega)))))
  clear hmk
  generalize (w1.alloc (.cells (madeCells #[.int .i64 0, .int .i64 0] (N * 2)) 81)) = w3 at *
  have HG0 := Lib.hid hg0
  have HQ0 : Hid (frG N (fz fs ts) = frG N ((fz fs ts).drop 0)) := Lib.hid rfl
  have HZ0 : Hid (OkZ N ((fz fs ts).take 0)) := Lib.hid fun p hp => by rw [List.take_zero] at hp; cases hp
  clear hg0 cA CA
  go_wp2_with (fail)
  go_loopw [43] (fun i wr => ∃ j : Nat, j ≤ fs.length ∧ i = .int .i64 j ∧ frG N (fz fs ts) = frG N ((fz fs ts).drop j) ∧ OkZ N ((fz fs ts).take j) ∧ GnAt w1.heap.size N (cohG ((fz fs ts).take j)) wr ∧ Below w1.heap.size w1 wr) (fun i _ => fs.length - (intOf i).toNat)
  case atStart => exact ⟨0, Nat.zero_le _, rfl, HQ0.out, HZ0.out, HG0.out, hbv⟩
  case round =>
    obtain ⟨j, hj, rfl, hfr, hoz, hgn, hbr⟩ := hrel
    obtain ⟨wo, rfl⟩ : ∃ wo : World, wo = wr := ⟨_, rfl⟩
    clear HG0 HQ0 HZ0 hbv
    have HFR := Lib.hid hfr
    have HOZ := Lib.hid hoz
    have HGN := Lib.hid hgn
    have zP := hgn.z
    clear hfr hoz hgn
    by_cases hjl : j < fs.length
    · have hjt : j < ts.length := by have := HEQ.out; omega
      have hjI : (j : Int) < (fs.length : Int) := by omega
      have hdr := HDR.out j hjl hjt
      have htk := HTK.out j hjl hjt
      have hx1 := HFL.out _ (List.getElem_mem hjl)
      obtain ⟨b1, o1, e1, hb1', cx, hX⟩ := hA1.at_ hjl
      cases e1
      obtain ⟨b9, o9, e9, -, c9, -⟩ := hA1.at_ hp
      cases e9
      rw [HN0.out] at c9
      obtain ⟨aA, haA⟩ : ∃ a, a = fs[0].a := ⟨_, rfl⟩
      obtain ⟨kA, hkA⟩ : ∃ a, a = fs[0].c := ⟨_, rfl⟩
      rw [← haA, ← hkA] at c9
      simp only [Nat.add_zero] at c9
      clear haA hkA
      obtain ⟨b2, o2, e2', hb2, y0⟩ := IntsAt.at_ hB1 hjt
      have hY := fun W (h : Below w1.heap.size w1 W) => cell_below' h y0
      have y1 := hY wo hbr
      replace cx := cell_below' hbr cx
      replace c9 := cell_below' hbr c9
      have hzA := Nat.lt_of_lt_of_le hb1' hbr.size
      have hzB := Nat.lt_of_lt_of_le hb2 hbr.size
      have hzB0 := hb2
      have HB2 := Lib.hid (hB1)
      clear hb1' hb2 y0
      subst e2'
      generalize fs[j] = x at *
      generalize ts[j] = t at *
      obtain ⟨ax, lx, cx'⟩ := x
      simp only at *
      have hE : frE N lx t = firstE [unl (decide (lx.length = N)) 10, smpsE lx, unl (withinB t 0 3) 2] := rfl
      have hel : ((lx.length : Int) == (N : Int)) = decide (lx.length = N) := by
        by_cases h : lx.length = N
        · rw [decide_eq_true h, h]; simp
        · rw [decide_eq_false h, beq_eq_false_iff_ne]; omega
      have hel2 : (lx.length == N) = decide (lx.length = N) := by
        by_cases h : lx.length = N
        · rw [decide_eq_true h, h]; simp
        · rw [decide_eq_false h, beq_eq_false_iff_ne]; omega
      obtain ⟨bX, hbX⟩ : ∃ b, decide (lx.length = N) = b := ⟨_, rfl⟩
      rw [hbX] at hE hel hel2
      clear hbX
      have HS := Lib.hid (fun W (h : GsAt W ax lx) => samplesErr_any ax lx cx' W hx1 h)
      have HWI := Lib.hid (fun W => within_any t 0 3 W)
      rw [hdr, frG_cons] at HFR
      have HE := Lib.hid hE
      have HTKJ := Lib.hid htk
      have HXX := Lib.hid (fun W (h : Below w1.heap.size w1 W) => RowsAt.below hX h)
      clear hE hdr htk hX
      by_cases hE0 : frE N lx t = 0
      rotate_left 1
      · rw [if_neg hE0] at HFR
        have HQ := Lib.hid (HQB.out (by rw [HFR.out]; exact hE0))
        rw [HFR.out] at HQ
        have e9 : (frE N lx t != 0) = true := by simpa using hE0
        clear hE0 HFR
        generalize frE N lx t = E at *
        generalize withinB t 0 3 = bT at *
        generalize smpsE lx = e2 at *
        go_upto_region 8 with (fail)
        (refine region_extx 16 (by kernel_rfl) (by kernel_rfl) fun hx => ?_; simp only [List.take_succ_cons, List.take_zero, List.drop_succ_cons, List.drop_zero]; (repeat (any_goals (first | go_big_quiet_step ((first | ((go_at_call 28; with_reducible exact ext_same (unless_any _ _ _))) | ((go_at_call 29; with_reducible exact ext_call (HS.out _ (RowsAt.below (HXX.out _ hbr) (ext_bel _ _))))) | ((go_at_call 32; with_reducible exact ext_same (HWI.out _))))) | quiet_step ((first | ((go_at_call 28; with_reducible exact ext_same (unless_any _ _ _))) | ((go_at_call 29; with_reducible exact ext_call (HS.out _ (RowsAt.below (HXX.out _ hbr) (ext_bel _ _))))) | ((go_at_call 32; with_reducible exact ext_same (HWI.out _)))))))))
        (refine wpQuiet_nil ?_; clear hx; intro u; have hbw4 := ext_bel _ u; have hxw4 := ext_cell _ u; generalize ext _ u = w4 at *; clear u; have hsw4 := hbw4.size; (try simp at hsw4))
        have hbo4 : Below wo.heap.size wo w4 := hbw4
        have hbr4 := hbr.trans (hbw4.mono hbr.size)
        clear hxw4 hsw4 hbw4
        go_wp2_with (go_at_call 27; refine (first3 _ _ _ _ _ (by simp) (cell_new (by simp) rfl) (cell_new (by simp) rfl) (cell_new (by simp) rfl)).mono ?_; rintro e w' ⟨rfl, rfl⟩; rw [← HE.out])
        go_ret2
        rw [HQ.out]
        exact ⟨none, 0, rfl, RowsAt.nil, below_alloc _ (Nat.le_refl _) (h1w.trans (hbr4.mono h1w.size))⟩
      have HE0 := Lib.hid hE0
      rw [if_pos hE0] at HFR
      obtain ⟨hN, hsm, ht0, ht1⟩ := frE_zero hE0
      have hsz := (smpsE_zero hsm).2
      have HSZ := Lib.hid hsz
      have HTU := Lib.hid (fun (g : Gs) W (h : Sz 10000 g) => turned_any g t W ht0 ht1 (h.mono (by decide)))
      rw [hE0] at HE
      have HE9 : Hid (0 = firstE [unl bX 10, smpsE lx, unl (withinB t 0 3) 2]) := HE
      have HNX := Lib.hid hN
      clear hE0 hsz hsm HE hN
      generalize withinB t 0 3 = bT at *
      generalize smpsE lx = e2 at *
      go_upto_region 8 with (fail)
      (refine region_extx 16 (by kernel_rfl) (by kernel_rfl) fun hx => ?_; simp only [List.take_succ_cons, List.take_zero, List.drop_succ_cons, List.drop_zero]; (repeat (any_goals (first | go_big_quiet_step ((first | ((go_at_call 28; with_reducible exact ext_same (unless_any _ _ _))) | ((go_at_call 29; with_reducible exact ext_call (HS.out _ (RowsAt.below (HXX.out _ hbr) (ext_bel _ _))))) | ((go_at_call 32; with_reducible exact ext_same (HWI.out _))))) | quiet_step ((first | ((go_at_call 28; with_reducible exact ext_same (unless_any _ _ _))) | ((go_at_call 29; with_reducible exact ext_call (HS.out _ (RowsAt.below (HXX.out _ hbr) (ext_bel _ _))))) | ((go_at_call 32; with_reducible exact ext_same (HWI.out _)))))))))
      (refine wpQuiet_nil ?_; clear hx; intro u; have hbw4 := ext_bel _ u; have hxw4 := ext_cell _ u; generalize ext _ u = w4 at *; clear u; have hsw4 := hbw4.size; (try simp at hsw4))
      have hbo4 : Below wo.heap.size wo w4 := hbw4
      have hbr4 := hbr.trans (hbw4.mono hbr.size)
      clear hxw4 hsw4 hbw4
      go_upto_region 9 with (go_at_call 27; refine (first3 _ _ _ _ _ (by simp) (cell_new (by simp) rfl) (cell_new (by simp) rfl) (cell_new (by simp) rfl)).mono ?_; rintro e w' ⟨rfl, rfl⟩; rw [← HE9.out])
      have hb5 : Below w4.heap.size w4 (w4.alloc (.cells #[.int .i64 (unl bX 10), .int .i64 e2, .int .i64 (unl bT 2)] 34)) := below_alloc _ (Nat.le_refl _) (Below.refl _ _)
      have er0 : (w4.alloc (.cells #[.int .i64 (unl bX 10), .int .i64 e2, .int .i64 (unl bT 2)] 34)).cell? ⟨w4.heap.size, 0, none⟩ = some (.int .i64 (unl bX 10)) := cell_new (by simp) rfl
      have er1 : (w4.alloc (.cells #[.int .i64 (unl bX 10), .int .i64 e2, .int .i64 (unl bT 2)] 34)).cell? ⟨w4.heap.size, 1, none⟩ = some (.int .i64 e2) := cell_new (by simp) rfl
      have er2 : (w4.alloc (.cells #[.int .i64 (unl bX 10), .int .i64 e2, .int .i64 (unl bT 2)] 34)).cell? ⟨w4.heap.size, 2, none⟩ = some (.int .i64 (unl bT 2)) := cell_new (by simp) rfl
      have zer : w4.heap.size < (w4.alloc (.cells #[.int .i64 (unl bX 10), .int .i64 e2, .int .i64 (unl bT 2)] 34)).heap.size := World.block_lt_of_cell? _ _ er0
      generalize (w4.alloc (.cells #[.int .i64 (unl bX 10), .int .i64 e2, .int .i64 (unl bT 2)] 34)) = w5 at *
      clear er0 er1 er2 zer
      have hbr5 := hbr4.trans (hb5.mono hbr4.size)
      have h45 : Below wo.heap.size wo w5 := hbo4.trans (hb5.mono hbo4.size)
      have hg5 := (HGN.out.below h45)
      rw [← sumV_zero _ (lx, t)] at hg5
      have HG5 := Lib.hid hg5
      have HY := Lib.hid hY
      clear hg5 HGN y1 hY hbo4 hb5 hbr4 h45 hbr c9 cx HS HWI
      have hN := HNX.out
      subst hN
      go_wp2_with (fail)
      go_loopw [71] (fun i wr => ∃ k : Nat, k ≤ lx.length ∧ i = .int .i64 k ∧ GnAt w1.heap.size lx.length (sumV ((fz fs ts).take j) (lx, t) k) wr ∧ Below w1.heap.size w1 wr) (fun i _ => lx.length - (intOf i).toNat)
      case atStart => exact ⟨0, Nat.zero_le _, rfl, HG5.out, hbr5⟩
      case round =>
        obtain ⟨k, hk, rfl, hgn, hbr⟩ := hrel
        obtain ⟨wi, rfl⟩ : ∃ wi : World, wi = wr := ⟨_, rfl⟩
        clear HG5 hbr5
        have HGN := Lib.hid hgn
        have zP := hgn.z
        clear hgn
        by_cases hkl : k < lx.length
        · have hkI : (k : Int) < (lx.length : Int) := by omega
          obtain ⟨b3, o3, rfl, hb3, c0, c1⟩ := GsAt.at_ (HXX.out _ hbr) hkl
          have hgk := gd_eq hkl
          have hsz := HSZ.out _ (List.getElem_mem hkl)
          have HTU2 := Lib.hid (fun W => HTU.out lx[k] W hsz)
          have hu := HOZ.out.sz k
          have htl : ((fz fs ts).take j).length ≤ 8 := by rw [List.length_take]; omega
          have hrs := hsz.rot t
          have HPL := Lib.hid (fun W => plus_any (cohG ((fz fs ts).take j) k) (rot t lx[k]) W (hu.mono (by omega)) (hrs.mono (by decide)))
          have hnew := sumV_new ((fz fs ts).take j) (lx, t) k
          simp only at hnew
          rw [hgk] at hnew
          have hold := fun i h => sumV_old ((fz fs ts).take j) (lx, t) k i h
          obtain ⟨p0, p1⟩ := HGN.out.c k hkl
          rw [sumV_at] at p0 p1
          have hf0 := HGN.out.f (k * 2)
          have hf1 := HGN.out.f (k * 2 + 1)
          have y1 := HY.out _ hbr
          have zy := Nat.lt_of_lt_of_le hzB0 hbr.size
          have HNEW := Lib.hid hnew
          have HOLD := Lib.hid hold
          clear hgk hu htl hrs hnew hold hsz
          generalize lx[k] = g at *
          generalize cohG ((fz fs ts).take j) k = u at *
          simp only [gv] at HTU2 HPL
          go_upto_region 14 with (fail)
          have hb7 : Below wi.heap.size wi (wi.alloc (.cells #[.int .i64 g.re, .int .i64 g.im] 30)) := below_alloc _ (Nat.le_refl _) (Below.refl _ _)
          have q0 : (wi.alloc (.cells #[.int .i64 g.re, .int .i64 g.im] 30)).cell? ⟨wi.heap.size, 0, none⟩ = some (.int .i64 g.re) := cell_new (by simp) rfl
          have q1 : (wi.alloc (.cells #[.int .i64 g.re, .int .i64 g.im] 30)).cell? ⟨wi.heap.size, 1, none⟩ = some (.int .i64 g.im) := cell_new (by simp) rfl
          have zq : wi.heap.size < (wi.alloc (.cells #[.int .i64 g.re, .int .i64 g.im] 30)).heap.size := World.block_lt_of_cell? _ _ q0
          generalize (wi.alloc (.cells #[.int .i64 g.re, .int .i64 g.im] 30)) = w7 at *
          replace p0 := cell_below' hb7 p0
          replace p1 := cell_below' hb7 p1
          replace hf0 := frozen_below hb7 zP hf0
          replace hf1 := frozen_below hb7 zP hf1
          replace y1 := cell_below' hb7 y1
          replace zy := Nat.lt_of_lt_of_le zy hb7.size
          have zP7 := Nat.lt_of_lt_of_le zP hb7.size
          have HG7 := Lib.hid (HGN.out.below hb7)
          (refine region_extx 13 (by kernel_rfl) (by kernel_rfl) fun hx => ?_; simp only [List.take_succ_cons, List.take_zero, List.drop_succ_cons, List.drop_zero]; (repeat (any_goals (first | go_big_quiet_step ((first | ((go_at_call 34; with_reducible exact ext_call (HTU2.out _))) | ((go_at_call 33; with_reducible exact ext_call (HPL.out _))))) | quiet_step ((first | ((go_at_call 34; with_reducible exact ext_call (HTU2.out _))) | ((go_at_call 33; with_reducible exact ext_call (HPL.out _)))))))))
          (refine wpQuiet_nil ?_; clear hx; intro u; have hbw8 := ext_bel _ u; have hxw8 := ext_cell _ u; generalize ext _ u = w8 at *; clear u; have hsw8 := hbw8.size; (try simp at hsw8))
          replace p0 := cell_below' hbw8 p0
          replace p1 := cell_below' hbw8 p1
          replace hf0 := frozen_below hbw8 zP7 hf0
          replace hf1 := frozen_below hbw8 zP7 hf1
          have HG8 := Lib.hid (HG7.out.below hbw8)
          have hbr8 := hbr.trans ((hb7.trans (hbw8.mono hb7.size)).mono hbr.size)
          clear hxw8 hsw8 hbw8 hb7 HGN HG7
          go_wp2_with (fail)
          exact ⟨⟨k + 1, by omega, by go_num, HG8.out.set (q := sumV ((fz fs ts).take j) (lx, t) (k + 1)) hkl (by rw [HNEW.out]) (by rw [HNEW.out]) HOLD.out, below_set _ (Nat.le_refl _) (below_set _ (Nat.le_refl _) hbr8)⟩, by simp [intOf]; omega⟩
        · obtain rfl : k = lx.length := by omega
          have H1 : Hid (frG lx.length (fz fs ts) = frG lx.length ((fz fs ts).drop (j + 1))) := HFR
          have H2 : Hid (OkZ lx.length ((fz fs ts).take (j + 1))) := Lib.hid (by rw [HTKJ.out]; exact HOZ.out.snoc HE0.out)
          have H3 : Hid (GnAt w1.heap.size lx.length (cohG ((fz fs ts).take (j + 1))) wi) := Lib.hid (HGN.out.congr fun i hi => by rw [HTKJ.out]; exact if_pos hi)
          clear HGN
          go_wp2_with (fail)
          exact ⟨⟨j + 1, by omega, by go_num, H1.out, H2.out, H3.out, hbr⟩, by simp [intOf]; omega⟩
    · obtain rfl : j = fs.length := by omega
      have hz : frG N (fz fs ts) = 0 := by
        rw [HFR.out, List.drop_eq_nil_of_le (by rw [HLN.out]; exact Nat.le_refl _)]; rfl
      have HQ := Lib.hid (HQO.out hz)
      have hta : (fz fs ts).take fs.length = fz fs ts := List.take_of_length_le (by rw [HLN.out]; exact Nat.le_refl _)
      rw [hta] at HGN
      obtain ⟨i0, hi0, hz0, hz1, hz2⟩ := infoGs_
      have HI := Lib.hid hi0
      have HZ0 := Lib.hid hz0
      have HZ1 := Lib.hid hz1
      have HZ2 := Lib.hid hz2
      have HLS := Lib.hid (fun k => cohL_succ (fz fs ts) k)
      have HLL := Lib.hid (fun k => cohL_len (fz fs ts) k)
      have HL0 : Hid (cohL (fz fs ts) 0 = []) := Lib.hid rfl
      have hw := h1w.trans (hbr.mono h1w.size)
      clear hi0 hz0 hz1 hz2 hta hz HFR HOZ HQB HQO HDR HTK HLN HFL HNN hbr hA1 hB1
      generalize hcl : cohL (fz fs ts) = cl at *
      generalize cohG (fz fs ts) = cg at *
      generalize cohQ fs ts = cq at *
      clear hcl
      go_wp2_with (fail)
      go_loopw [13, 94] (fun o i wr => ∃ (k : Nat) (A' : Option Addr) (c' : Nat), k ≤ N ∧ i = .int .i64 k ∧ o = .slice A' (cl k).length c' ∧ wr.ownsRow wo.heap.size 30 2 (.slice A' (cl k).length c') (cl k).length (cellsOf 2 gC (cl k)) ∧ Below wo.heap.size wo wr) (fun _ i _ => N - (intOf i).toNat)
      case atStart => exact ⟨0, none, 0, Nat.zero_le _, rfl, by rw [HL0.out] <;> rfl, by rw [HL0.out]; exact World.ownsRow_nil _ _ _ _, Below.refl _ _⟩
      case round =>
        obtain ⟨k, A', c', hk, rfl, rfl, own, hbr⟩ := hrel
        obtain ⟨wi, rfl⟩ : ∃ wi : World, wi = wr := ⟨_, rfl⟩
        have OWN := Lib.hid own
        have hlk := HLL.out k
        have hlk8 : (cl k).length ≤ 1000 := by omega
        have HLK := Lib.hid hlk
        clear own hlk
        by_cases hkl : k < N
        · have hkI : (k : Int) < (N : Int) := by omega
          obtain ⟨p0, p1⟩ := (HGN.out.below hbr).c k hkl
          have zP2 := (HGN.out.below hbr).z
          have HST := Lib.hid (HLS.out k)
          generalize cg k = u at *
          generalize cl k = sl at *
          go_upto_region 21 with (fail)
          have hb5 : Below wi.heap.size wi (wi.alloc (.cells #[.int .i64 u.re, .int .i64 u.im] 81)) := below_alloc _ (Nat.le_refl _) (Below.refl _ _)
          have y0 : (wi.alloc (.cells #[.int .i64 u.re, .int .i64 u.im] 81)).cell? ⟨wi.heap.size, 0, none⟩ = some (.int .i64 u.re) := cell_new (by simp) rfl
          have y1 : (wi.alloc (.cells #[.int .i64 u.re, .int .i64 u.im] 81)).cell? ⟨wi.heap.size, 1, none⟩ = some (.int .i64 u.im) := cell_new (by simp) rfl
          have zy : wi.heap.size < (wi.alloc (.cells #[.int .i64 u.re, .int .i64 u.im] 81)).heap.size := World.block_lt_of_cell? _ _ y0
          generalize (wi.alloc (.cells #[.int .i64 u.re, .int .i64 u.im] 81)) = w5 at *
          have OWN5 := Lib.hid (own_below OWN.out hb5)
          have hbr5 := hbr.trans (hb5.mono hbr.size)
          have zx5 := hbr5.size
          clear p0 p1 zP2 OWN hb5
          go_wp2_with (at_builtin; (refine wpList_append_rows _ rfl (.tmp 98) (.tmp 100) 28 rfl wo.heap.size 30 i0 (.agg #[.int .i64 0, .int .i64 0]) 2 16 Tryd.underlying28 HI.out HZ0.out HZ1.out HZ2.out rfl (by decide) A' sl.length c' (cellsOf 2 gC sl) rfl (World.ownsRow.alloc OWN5.out _) (some ⟨_, 0, none⟩) 1 1 [.int .i64 u.re, .int .i64 u.im] rfl rfl (fun h => by cases h) (fun ad h => by cases h; exact newsG (x := u) (blk_new rfl)) (fun u hu => by simp at hu; rcases hu with rfl | rfl <;> rfl) (by unfold maxLen; omega) (by omega) (by simp; omega) ?_; intro A2 c2' w6 h1 h2 h3))
          have r3 : Below wo.heap.size wo w6 := below_own (below_alloc _ (Nat.le_refl _) hbr5) h2 (World.ownsRow.alloc OWN5.out _) (Nat.le_refl _) (by simp; omega)
          have hL1 : (cl (k + 1)).length = sl.length + 1 := by rw [HST.out]; simp
          have HL1 := Lib.hid hL1
          have H1 : Hid (w6.ownsRow wo.heap.size 30 2 (.slice A2 (cl (k + 1)).length c2') (cl (k + 1)).length (cellsOf 2 gC (cl (k + 1)))) := Lib.hid (by rw [hL1, HST.out, cellsOf_append]; exact h1)
          clear h1 h2 h3 OWN5 hL1 hbr5 zx5
          go_wp2_with (fail)
          go_roundw
          case rel => exact ⟨k + 1, A2, c2', by omega, by go_num, by rw [HL1.out], H1.out, r3⟩
          case measure => simp [intOf]; omega
        · have hkN : N = k := by omega
          subst hkN
          have hR : GsAt wi A' (cl N) := rowsAt_of_own OWN.out rfl (by decide)
          have HR := Lib.hid hR
          clear hR OWN
          go_wp2_with (fail)
          go_ret2
          rw [HQ.out]
          exact ⟨A', c', rfl, HR.out, hw.trans (hbr.mono hw.size)⟩
end Go.Proofs.YtlnbbioponmcfaaDoor
