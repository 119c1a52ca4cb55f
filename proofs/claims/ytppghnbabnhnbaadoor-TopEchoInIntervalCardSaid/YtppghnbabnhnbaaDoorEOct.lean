/-
  Chapter 2: octants.
-/
import Derived.Test.YtppghnbabnhnbaaDoorEMod
namespace Go.Proofs.YtppghnbabnhnbaaDoor
open Go.ChangeShapes Go.WideShapes Go.ChangeAt Go.RowKit
set_option linter.unusedVariables false
set_option linter.unusedSimpArgs false

/-- the octant of a number -/
def octP (x y : Int) : Int := if 0 < x ∧ 0 ≤ y then (if y < x then 0 else 1) else if 0 < y ∧ x ≤ 0 then (if -x < y then 2 else 3) else if x < 0 ∧ y ≤ 0 then (if -y < -x then 4 else 5) else (if x < -y then 6 else 7)
def trnP (x y : Int) : Nat := if 0 < x ∧ 0 ≤ y then 0 else if 0 < y ∧ x ≤ 0 then 1 else if x < 0 ∧ y ≤ 0 then 2 else 3
def nzP (x y : Int) : Prop := x ≠ 0 ∨ y ≠ 0
theorem oct_step {x y : Int} (hn : nzP x y) (h : ¬ (0 < x ∧ 0 ≤ y)) : octP x y = 2 + octP y (-x) ∧ trnP x y = 1 + trnP y (-x) ∧ nzP y (-x) := by
  unfold nzP at *
  refine ⟨?_, ?_, by omega⟩
  · unfold octP
    repeat' split
    all_goals omega
  · unfold trnP
    repeat' split
    all_goals omega
theorem oct_end {x y : Int} (h : 0 < x ∧ 0 ≤ y) : octP x y = if y < x then 0 else 1 := by
  unfold octP; rw [if_pos h]
theorem oct_bd (x y : Int) : 0 ≤ octP x y ∧ octP x y ≤ 7 := by
  unfold octP
  repeat' split
  all_goals omega
theorem trn_bd (x y : Int) : trnP x y ≤ 3 := by
  unfold trnP
  repeat' split
  all_goals omega
def octG (g : Gs) : Int := octP g.re g.im
set_option maxRecDepth 100000 in
set_option maxHeartbeats 4000000 in
theorem octant_any (g : Gs) (w : World) (hg : Sz 1000000000000000 g) (hn : nzP g.re g.im) :
    Calls Tryd.prog 95 #[gv g] w fun e w' => e = .returned (.int .i64 (octG g)) ∧ Below w.heap.size w w' := by
  obtain ⟨r0, r1, i0, i1⟩ := hg
  have HN := Lib.hid hn
  have HQ : Hid (octG g = octP g.re g.im) := Lib.hid rfl
  have HB := Lib.hid (trn_bd g.re g.im)
  clear hn
  obtain ⟨gx, gy⟩ := g
  simp only at *
  go_enter Tryd.func95, Tryd.ntmps95
  go_wp2_with (fail)
  have hb1 : Below w.heap.size w (w.alloc (.cells #[.int .i64 gx, .int .i64 gy] 147)) := below_alloc _ (Nat.le_refl _) (Below.refl _ _)
  have g0 : (w.alloc (.cells #[.int .i64 gx, .int .i64 gy] 147)).cell? ⟨w.heap.size, 0, none⟩ = some (.int .i64 gx) := cell_new (by simp) rfl
  have gf0 : (w.alloc (.cells #[.int .i64 gx, .int .i64 gy] 147)).frozen? ⟨w.heap.size, 0, none⟩ = false := frozen_new (by simp)
  have g1 : (w.alloc (.cells #[.int .i64 gx, .int .i64 gy] 147)).cell? ⟨w.heap.size, 1, none⟩ = some (.int .i64 gy) := cell_new (by simp) rfl
  have gf1 : (w.alloc (.cells #[.int .i64 gx, .int .i64 gy] 147)).frozen? ⟨w.heap.size, 1, none⟩ = false := frozen_new (by simp)
  have zg : w.heap.size < (w.alloc (.cells #[.int .i64 gx, .int .i64 gy] 147)).heap.size := World.block_lt_of_cell? _ _ g0
  generalize (w.alloc (.cells #[.int .i64 gx, .int .i64 gy] 147)) = w1 at *
  go_loopw [3] (fun o wr => ∃ (x y : Int) (k : Nat), o = .int .i64 (2 * (k : Int)) ∧ wr.cell? ⟨w.heap.size, 0, none⟩ = some (.int .i64 x) ∧ wr.cell? ⟨w.heap.size, 1, none⟩ = some (.int .i64 y) ∧ wr.frozen? ⟨w.heap.size, 0, none⟩ = false ∧ wr.frozen? ⟨w.heap.size, 1, none⟩ = false ∧ w.heap.size < wr.heap.size ∧ Below w.heap.size w wr ∧ octP gx gy = 2 * k + octP x y ∧ trnP gx gy = k + trnP x y ∧ nzP x y ∧ Sz 1000000000000000 ⟨x, y⟩) (fun o _ => 8 - (intOf o).toNat)
  case atStart => exact ⟨gx, gy, 0, rfl, g0, g1, gf0, gf1, zg, hb1, by simp, by simp, HN.out, ⟨r0, r1, i0, i1⟩⟩
  case round =>
    obtain ⟨x, y, k, rfl, c0, c1, cf0, cf1, zc, hbr, hoc, htr, hnz, ⟨x0, x1, y0, y1⟩⟩ := hrel
    obtain ⟨wo, rfl⟩ : ∃ wo : World, wo = wr := ⟨_, rfl⟩
    simp only at x0 x1 y0 y1
    clear r0 r1 i0 i1 g0 g1 gf0 gf1 zg hb1
    have HOC := Lib.hid hoc
    have HTR := Lib.hid htr
    have hk3 : (k : Int) ≤ 3 := by have := HB.out; omega
    clear hoc htr
    by_cases hc : 0 < x ∧ 0 ≤ y
    · have HE := Lib.hid (oct_end hc)
      obtain ⟨hx, hy⟩ := hc
      have e1 : decide (x ≤ 0) = false := by simpa using hx
      have e2 : decide (y < 0) = false := by simpa using hy
      clear hnz
      by_cases hyx : y < x
      · have e3 : decide (x ≤ y) = false := by simpa using hyx
        have H2 := Lib.hid (HE.out.trans (if_pos hyx))
        go_wp2_with (fail)
        go_ret
        exact ⟨ret_int (by rw [HQ.out, HOC.out, H2.out]; omega), hbr⟩
      · have e3 : decide (x ≤ y) = true := by simp; omega
        have hxy : x ≤ y := by omega
        have H2 := Lib.hid (HE.out.trans (if_neg hyx))
        clear hyx
        go_wp2_with (fail)
        go_ret
        exact ⟨ret_int (by rw [HQ.out, HOC.out, H2.out]), hbr⟩
    · obtain ⟨s1, s2, s3⟩ := oct_step hnz hc
      have S1 := Lib.hid (show octP gx gy = 2 * ((k + 1 : Nat) : Int) + octP y (-x) by rw [HOC.out, s1]; omega)
      have S2 := Lib.hid (show trnP gx gy = (k + 1) + trnP y (-x) by rw [HTR.out, s2]; omega)
      have S3 := Lib.hid s3
      have hk2 : (2 : Int) * k + 2 = 2 * ((k + 1 : Nat) : Int) := by omega
      have HK := Lib.hid hk2
      have hkk : k + 1 ≤ 3 := by have := S2.out; have := HB.out; omega
      clear s1 s2 s3 hk2 hnz
      by_cases hx : x ≤ 0
      · have e1 : decide (x ≤ 0) = true := by simpa using hx
        clear hc
        go_wp2_with (fail)
        have h4 : Below w.heap.size w ((wo.setCell ⟨w.heap.size, 0, none⟩ (.int .i64 y)).setCell ⟨w.heap.size, 1, none⟩ (.int .i64 (-x))) := below_set _ (by simp; try omega) (below_set _ (by simp; try omega) (hbr))
        replace c0 : ((wo.setCell ⟨w.heap.size, 0, none⟩ (.int .i64 y)).setCell ⟨w.heap.size, 1, none⟩ (.int .i64 (-x))).cell? ⟨w.heap.size, 0, none⟩ = some (.int .i64 y) := cell_next (by decide) (cell_same (c0))
        replace c1 : ((wo.setCell ⟨w.heap.size, 0, none⟩ (.int .i64 y)).setCell ⟨w.heap.size, 1, none⟩ (.int .i64 (-x))).cell? ⟨w.heap.size, 1, none⟩ = some (.int .i64 (-x)) := cell_same (cell_next (by decide) (c1))
        replace cf0 := (show World.frozen? ((wo.setCell ⟨w.heap.size, 0, none⟩ (.int .i64 y)).setCell ⟨w.heap.size, 1, none⟩ (.int .i64 (-x))) ⟨w.heap.size, 0, none⟩ = false from frozen_set _ _ (frozen_set _ _ (cf0)))
        replace cf1 := (show World.frozen? ((wo.setCell ⟨w.heap.size, 0, none⟩ (.int .i64 y)).setCell ⟨w.heap.size, 1, none⟩ (.int .i64 (-x))) ⟨w.heap.size, 1, none⟩ = false from frozen_set _ _ (frozen_set _ _ (cf1)))
        have hszQ : ((wo.setCell ⟨w.heap.size, 0, none⟩ (.int .i64 y)).setCell ⟨w.heap.size, 1, none⟩ (.int .i64 (-x))).heap.size = wo.heap.size := by simp
        replace zc : w.heap.size < ((wo.setCell ⟨w.heap.size, 0, none⟩ (.int .i64 y)).setCell ⟨w.heap.size, 1, none⟩ (.int .i64 (-x))).heap.size := by rw [hszQ]; exact zc
        clear hszQ hbr
        generalize ((wo.setCell ⟨w.heap.size, 0, none⟩ (.int .i64 y)).setCell ⟨w.heap.size, 1, none⟩ (.int .i64 (-x))) = w4 at *
        exact ⟨⟨y, -x, k + 1, by rw [HK.out], c0, c1, cf0, cf1, zc, h4, S1.out, S2.out, S3.out, ⟨y0, y1, by simp only; omega, by simp only; omega⟩⟩, by simp [intOf]; omega⟩
      · have e1 : decide (x ≤ 0) = false := by simpa using hx
        have hy : y < 0 := by omega
        have e2 : decide (y < 0) = true := by simpa using hy
        clear hc
        go_wp2_with (fail)
        have h4 : Below w.heap.size w ((wo.setCell ⟨w.heap.size, 0, none⟩ (.int .i64 y)).setCell ⟨w.heap.size, 1, none⟩ (.int .i64 (-x))) := below_set _ (by simp; try omega) (below_set _ (by simp; try omega) (hbr))
        replace c0 : ((wo.setCell ⟨w.heap.size, 0, none⟩ (.int .i64 y)).setCell ⟨w.heap.size, 1, none⟩ (.int .i64 (-x))).cell? ⟨w.heap.size, 0, none⟩ = some (.int .i64 y) := cell_next (by decide) (cell_same (c0))
        replace c1 : ((wo.setCell ⟨w.heap.size, 0, none⟩ (.int .i64 y)).setCell ⟨w.heap.size, 1, none⟩ (.int .i64 (-x))).cell? ⟨w.heap.size, 1, none⟩ = some (.int .i64 (-x)) := cell_same (cell_next (by decide) (c1))
        replace cf0 := (show World.frozen? ((wo.setCell ⟨w.heap.size, 0, none⟩ (.int .i64 y)).setCell ⟨w.heap.size, 1, none⟩ (.int .i64 (-x))) ⟨w.heap.size, 0, none⟩ = false from frozen_set _ _ (frozen_set _ _ (cf0)))
        replace cf1 := (show World.frozen? ((wo.setCell ⟨w.heap.size, 0, none⟩ (.int .i64 y)).setCell ⟨w.heap.size, 1, none⟩ (.int .i64 (-x))) ⟨w.heap.size, 1, none⟩ = false from frozen_set _ _ (frozen_set _ _ (cf1)))
        have hszQ : ((wo.setCell ⟨w.heap.size, 0, none⟩ (.int .i64 y)).setCell ⟨w.heap.size, 1, none⟩ (.int .i64 (-x))).heap.size = wo.heap.size := by simp
        replace zc : w.heap.size < ((wo.setCell ⟨w.heap.size, 0, none⟩ (.int .i64 y)).setCell ⟨w.heap.size, 1, none⟩ (.int .i64 (-x))).heap.size := by rw [hszQ]; exact zc
        clear hszQ hbr
        generalize ((wo.setCell ⟨w.heap.size, 0, none⟩ (.int .i64 y)).setCell ⟨w.heap.size, 1, none⟩ (.int .i64 (-x))) = w4 at *
        exact ⟨⟨y, -x, k + 1, by rw [HK.out], c0, c1, cf0, cf1, zc, h4, S1.out, S2.out, S3.out, ⟨y0, y1, by simp only; omega, by simp only; omega⟩⟩, by simp [intOf]; omega⟩
set_option maxRecDepth 100000 in
set_option maxHeartbeats 4000000 in
theorem ROctant_any (g : Gs) (w : World) (hg : Sz 1000000000000000 g) (hn : nzP g.re g.im) :
    Calls Tryd.prog 74 #[gv g] w fun e w' => e = .returned (.int .i64 (octG g)) ∧ Below w.heap.size w w' := by
  obtain ⟨r0, r1, i0, i1⟩ := hg
  have HN := Lib.hid hn
  have HQ : Hid (octG g = octP g.re g.im) := Lib.hid rfl
  have HB := Lib.hid (trn_bd g.re g.im)
  clear hn
  obtain ⟨gx, gy⟩ := g
  simp only at *
  go_enter Tryd.func74, Tryd.ntmps74
  go_wp2_with (fail)
  have hb1 : Below w.heap.size w (w.alloc (.cells #[.int .i64 gx, .int .i64 gy] 24)) := below_alloc _ (Nat.le_refl _) (Below.refl _ _)
  have g0 : (w.alloc (.cells #[.int .i64 gx, .int .i64 gy] 24)).cell? ⟨w.heap.size, 0, none⟩ = some (.int .i64 gx) := cell_new (by simp) rfl
  have gf0 : (w.alloc (.cells #[.int .i64 gx, .int .i64 gy] 24)).frozen? ⟨w.heap.size, 0, none⟩ = false := frozen_new (by simp)
  have g1 : (w.alloc (.cells #[.int .i64 gx, .int .i64 gy] 24)).cell? ⟨w.heap.size, 1, none⟩ = some (.int .i64 gy) := cell_new (by simp) rfl
  have gf1 : (w.alloc (.cells #[.int .i64 gx, .int .i64 gy] 24)).frozen? ⟨w.heap.size, 1, none⟩ = false := frozen_new (by simp)
  have zg : w.heap.size < (w.alloc (.cells #[.int .i64 gx, .int .i64 gy] 24)).heap.size := World.block_lt_of_cell? _ _ g0
  generalize (w.alloc (.cells #[.int .i64 gx, .int .i64 gy] 24)) = w1 at *
  go_loopw [3] (fun o wr => ∃ (x y : Int) (k : Nat), o = .int .i64 (2 * (k : Int)) ∧ wr.cell? ⟨w.heap.size, 0, none⟩ = some (.int .i64 x) ∧ wr.cell? ⟨w.heap.size, 1, none⟩ = some (.int .i64 y) ∧ wr.frozen? ⟨w.heap.size, 0, none⟩ = false ∧ wr.frozen? ⟨w.heap.size, 1, none⟩ = false ∧ w.heap.size < wr.heap.size ∧ Below w.heap.size w wr ∧ octP gx gy = 2 * k + octP x y ∧ trnP gx gy = k + trnP x y ∧ nzP x y ∧ Sz 1000000000000000 ⟨x, y⟩) (fun o _ => 8 - (intOf o).toNat)
  case atStart => exact ⟨gx, gy, 0, rfl, g0, g1, gf0, gf1, zg, hb1, by simp, by simp, HN.out, ⟨r0, r1, i0, i1⟩⟩
  case round =>
    obtain ⟨x, y, k, rfl, c0, c1, cf0, cf1, zc, hbr, hoc, htr, hnz, ⟨x0, x1, y0, y1⟩⟩ := hrel
    obtain ⟨wo, rfl⟩ : ∃ wo : World, wo = wr := ⟨_, rfl⟩
    simp only at x0 x1 y0 y1
    clear r0 r1 i0 i1 g0 g1 gf0 gf1 zg hb1
    have HOC := Lib.hid hoc
    have HTR := Lib.hid htr
    have hk3 : (2 : Int) * (k : Int) < 8 := by have := HB.out; omega
    clear hoc htr
    by_cases hc : 0 < x ∧ 0 ≤ y
    · have HE := Lib.hid (oct_end hc)
      obtain ⟨hx, hy⟩ := hc
      have e1 : decide (0 < x) = true := by simpa using hx
      have e2 : decide (0 ≤ y) = true := by simpa using hy
      clear hnz
      by_cases hyx : y < x
      · have e3 : decide (y < x) = true := by simpa using hyx
        have H2 := Lib.hid (HE.out.trans (if_pos hyx))
        go_wp2_with (fail)
        go_ret
        exact ⟨ret_int (by rw [HQ.out, HOC.out, H2.out]; omega), hbr⟩
      · have e3 : decide (y < x) = false := by simp; omega
        have hxy : x ≤ y := by omega
        have H2 := Lib.hid (HE.out.trans (if_neg hyx))
        clear hyx
        go_wp2_with (fail)
        go_ret
        exact ⟨ret_int (by rw [HQ.out, HOC.out, H2.out]), hbr⟩
    · obtain ⟨s1, s2, s3⟩ := oct_step hnz hc
      have S1 := Lib.hid (show octP gx gy = 2 * ((k + 1 : Nat) : Int) + octP y (-x) by rw [HOC.out, s1]; omega)
      have S2 := Lib.hid (show trnP gx gy = (k + 1) + trnP y (-x) by rw [HTR.out, s2]; omega)
      have S3 := Lib.hid s3
      have hk2 : (2 : Int) * k + 2 = 2 * ((k + 1 : Nat) : Int) := by omega
      have HK := Lib.hid hk2
      have hkk : k + 1 ≤ 3 := by have := S2.out; have := HB.out; omega
      clear s1 s2 s3 hk2 hnz
      by_cases hx : x ≤ 0
      · have e1 : decide (0 < x) = false := by simp; omega
        clear hc
        go_wp2_with (fail)
        have h4 : Below w.heap.size w ((wo.setCell ⟨w.heap.size, 0, none⟩ (.int .i64 y)).setCell ⟨w.heap.size, 1, none⟩ (.int .i64 (-x))) := below_set _ (by simp; try omega) (below_set _ (by simp; try omega) (hbr))
        replace c0 : ((wo.setCell ⟨w.heap.size, 0, none⟩ (.int .i64 y)).setCell ⟨w.heap.size, 1, none⟩ (.int .i64 (-x))).cell? ⟨w.heap.size, 0, none⟩ = some (.int .i64 y) := cell_next (by decide) (cell_same (c0))
        replace c1 : ((wo.setCell ⟨w.heap.size, 0, none⟩ (.int .i64 y)).setCell ⟨w.heap.size, 1, none⟩ (.int .i64 (-x))).cell? ⟨w.heap.size, 1, none⟩ = some (.int .i64 (-x)) := cell_same (cell_next (by decide) (c1))
        replace cf0 := (show World.frozen? ((wo.setCell ⟨w.heap.size, 0, none⟩ (.int .i64 y)).setCell ⟨w.heap.size, 1, none⟩ (.int .i64 (-x))) ⟨w.heap.size, 0, none⟩ = false from frozen_set _ _ (frozen_set _ _ (cf0)))
        replace cf1 := (show World.frozen? ((wo.setCell ⟨w.heap.size, 0, none⟩ (.int .i64 y)).setCell ⟨w.heap.size, 1, none⟩ (.int .i64 (-x))) ⟨w.heap.size, 1, none⟩ = false from frozen_set _ _ (frozen_set _ _ (cf1)))
        have hszQ : ((wo.setCell ⟨w.heap.size, 0, none⟩ (.int .i64 y)).setCell ⟨w.heap.size, 1, none⟩ (.int .i64 (-x))).heap.size = wo.heap.size := by simp
        replace zc : w.heap.size < ((wo.setCell ⟨w.heap.size, 0, none⟩ (.int .i64 y)).setCell ⟨w.heap.size, 1, none⟩ (.int .i64 (-x))).heap.size := by rw [hszQ]; exact zc
        clear hszQ hbr
        generalize ((wo.setCell ⟨w.heap.size, 0, none⟩ (.int .i64 y)).setCell ⟨w.heap.size, 1, none⟩ (.int .i64 (-x))) = w4 at *
        exact ⟨⟨y, -x, k + 1, by rw [HK.out], c0, c1, cf0, cf1, zc, h4, S1.out, S2.out, S3.out, ⟨y0, y1, by simp only; omega, by simp only; omega⟩⟩, by simp [intOf]; omega⟩
      · have hx2 : 0 < x := by omega
        have e1 : decide (0 < x) = true := by simpa using hx2
        have hy : y < 0 := by omega
        have e2 : decide (0 ≤ y) = false := by simp; omega
        clear hc
        go_wp2_with (fail)
        have h4 : Below w.heap.size w ((wo.setCell ⟨w.heap.size, 0, none⟩ (.int .i64 y)).setCell ⟨w.heap.size, 1, none⟩ (.int .i64 (-x))) := below_set _ (by simp; try omega) (below_set _ (by simp; try omega) (hbr))
        replace c0 : ((wo.setCell ⟨w.heap.size, 0, none⟩ (.int .i64 y)).setCell ⟨w.heap.size, 1, none⟩ (.int .i64 (-x))).cell? ⟨w.heap.size, 0, none⟩ = some (.int .i64 y) := cell_next (by decide) (cell_same (c0))
        replace c1 : ((wo.setCell ⟨w.heap.size, 0, none⟩ (.int .i64 y)).setCell ⟨w.heap.size, 1, none⟩ (.int .i64 (-x))).cell? ⟨w.heap.size, 1, none⟩ = some (.int .i64 (-x)) := cell_same (cell_next (by decide) (c1))
        replace cf0 := (show World.frozen? ((wo.setCell ⟨w.heap.size, 0, none⟩ (.int .i64 y)).setCell ⟨w.heap.size, 1, none⟩ (.int .i64 (-x))) ⟨w.heap.size, 0, none⟩ = false from frozen_set _ _ (frozen_set _ _ (cf0)))
        replace cf1 := (show World.frozen? ((wo.setCell ⟨w.heap.size, 0, none⟩ (.int .i64 y)).setCell ⟨w.heap.size, 1, none⟩ (.int .i64 (-x))) ⟨w.heap.size, 1, none⟩ = false from frozen_set _ _ (frozen_set _ _ (cf1)))
        have hszQ : ((wo.setCell ⟨w.heap.size, 0, none⟩ (.int .i64 y)).setCell ⟨w.heap.size, 1, none⟩ (.int .i64 (-x))).heap.size = wo.heap.size := by simp
        replace zc : w.heap.size < ((wo.setCell ⟨w.heap.size, 0, none⟩ (.int .i64 y)).setCell ⟨w.heap.size, 1, none⟩ (.int .i64 (-x))).heap.size := by rw [hszQ]; exact zc
        clear hszQ hbr
        generalize ((wo.setCell ⟨w.heap.size, 0, none⟩ (.int .i64 y)).setCell ⟨w.heap.size, 1, none⟩ (.int .i64 (-x))) = w4 at *
        exact ⟨⟨y, -x, k + 1, by rw [HK.out], c0, c1, cf0, cf1, zc, h4, S1.out, S2.out, S3.out, ⟨y0, y1, by simp only; omega, by simp only; omega⟩⟩, by simp [intOf]; omega⟩
/-- the error of OctantOf -/
def ocE (g : Gs) : Int := firstE [unl (prtB 1000000000 g) 2, unl (neB g gz) 11]
theorem neB_nz {g : Gs} (h : neB g gz = true) : nzP g.re g.im := by
  have h1 := neB_true h
  unfold nzP
  by_cases h0 : g.re = 0
  · right
    intro h2
    exact h1 (by obtain ⟨x, y⟩ := g; simp only at h0 h2; subst h0 h2; rfl)
  · exact .inl h0
theorem ocE_zero {g : Gs} (h : ocE g = 0) : Sz 1000000000 g ∧ nzP g.re g.im := by
  unfold ocE at h
  cases h1 : prtB 1000000000 g
  · rw [h1, unl_false, firstE_nz (by decide)] at h; cases h
  · rw [h1, unl_true, firstE_z, firstE1] at h
    cases h2 : neB g gz
    · rw [h2, unl_false] at h; cases h
    · exact ⟨prtB_true h1, neB_nz h2⟩
def octQ (g : Gs) : Int × Int := if ocE g = 0 then (octG g, 0) else (0, ocE g)
set_option maxRecDepth 100000 in
set_option maxHeartbeats 4000000 in
theorem OctantOf_any (g : Gs) (w : World) :
    Calls Tryd.prog 52 #[gv g] w fun e w' => e = .returned (.tuple #[.int .i64 (octQ g).1, .int .i64 (octQ g).2]) ∧ Below w.heap.size w w' := by
  have hq : octQ g = if ocE g = 0 then (octG g, 0) else (0, ocE g) := rfl
  have HE : Hid (ocE g = firstE [unl (prtB 1000000000 g) 2, unl (neB g gz) 11]) := Lib.hid rfl
  have H1 := Lib.hid (fun W => isPart_any g 1000000000 (by decide) (by decide) W)
  have hne : ∀ W, (binOp .neq 24 (.agg #[.int .i64 g.re, .int .i64 g.im]) (.agg #[.int .i64 0, .int .i64 0])).run Tryd.prog W = .ok (.bool (neB g gz)) W := fun W => neG g gz W
  have HO := Lib.hid (fun (h : ocE g = 0) W => octant_any g W ((ocE_zero h).1.mono (by decide)) (ocE_zero h).2)
  generalize prtB 1000000000 g = b1 at *
  generalize neB g gz = b3 at *
  generalize octG g = oc at *
  by_cases h0 : ocE g = 0
  · rw [if_pos h0] at hq
    rw [h0] at HE
    have HQ := Lib.hid hq
    have HO2 := Lib.hid (HO.out h0)
    clear hq h0 HO
    obtain ⟨g0, g1⟩ := g
    simp only [gv] at *
    go_enter Tryd.func52, Tryd.ntmps52
    go_wp2_with (fail)
    (refine region_extx 7 (by kernel_rfl) (by kernel_rfl) fun hx => ?_; simp only [List.take_succ_cons, List.take_zero, List.drop_succ_cons, List.drop_zero]; (repeat (any_goals (first | go_big_quiet_step ((first | ((go_at_call 112; with_reducible exact ext_call (H1.out _))) | ((go_at_call 89; with_reducible exact ext_same (unless_any _ _ _))))) | quiet_step ((first | ((go_at_call 112; with_reducible exact ext_call (H1.out _))) | ((go_at_call 89; with_reducible exact ext_same (unless_any _ _ _)))))))))
    (refine wpQuiet_nil ?_; clear hx; intro u; have hbw2 := ext_bel _ u; have hxw2 := ext_cell _ u; generalize ext _ u = w2 at *; clear u; have hsw2 := hbw2.size; (try simp at hsw2))
    have h2 : Below w.heap.size w w2 := (by repeat (first | assumption | exact Below.refl _ _ | refine Below.drew ?_ | (refine below_alloc _ ?_ ?_; focus (first | omega | (simp; done) | (simp; omega) | (simp at *; omega))) | (refine below_set _ ?_ ?_; focus (first | omega | (simp; done) | (simp; omega) | (simp at *; omega))) | refine below_drewN ?_ _ | (refine below_call (by assumption) ?_ ?_; focus (first | omega | (simp; done) | (simp; omega) | (simp at *; omega))) | (refine below_call' (by assumption) ?_ ?_; focus (first | omega | (simp; done) | (simp; omega) | (simp at *; omega)))))
    have hg0 : w2.cell? ⟨w.heap.size, 0, none⟩ = some (.int .i64 g0) := by rw [hxw2 _ (by simp)]; exact cell_new rfl rfl
    have hg1 : w2.cell? ⟨w.heap.size, 1, none⟩ = some (.int .i64 g1) := by rw [hxw2 _ (by simp)]; exact cell_new rfl rfl
    have hz2 : w.heap.size < w2.heap.size := World.block_lt_of_cell? _ _ hg0
    clear hxw2 hsw2 hbw2
    go_wp2_with (go_at_call 87; refine (first2 _ _ _ _ (by simp) (cell_new (by simp) rfl) (cell_new (by simp) rfl)).mono ?_; rintro e w' ⟨rfl, rfl⟩; rw [← HE.out])
    have hbv : Below w.heap.size w (w2.alloc (.cells #[.int .i64 (unl b1 2), .int .i64 (unl b3 11)] 30)) := (by repeat (first | assumption | exact Below.refl _ _ | refine Below.drew ?_ | (refine below_alloc _ ?_ ?_; focus (first | omega | (simp; done) | (simp; omega) | (simp at *; omega))) | (refine below_set _ ?_ ?_; focus (first | omega | (simp; done) | (simp; omega) | (simp at *; omega))) | refine below_drewN ?_ _ | (refine below_call (by assumption) ?_ ?_; focus (first | omega | (simp; done) | (simp; omega) | (simp at *; omega))) | (refine below_call' (by assumption) ?_ ?_; focus (first | omega | (simp; done) | (simp; omega) | (simp at *; omega)))))
    refine (HO2.out _).mono ?_
    rintro e w4 ⟨rfl, hb4⟩
    have h4 := hbv.trans (hb4.mono hbv.size)
    go_wp2_with (fail)
    go_ret2
    rw [HQ.out]
    exact ⟨rfl, h4⟩
  · rw [if_neg h0] at hq
    have HQ := Lib.hid hq
    have e2 : (ocE g != 0) = true := by simpa using h0
    clear hq h0 HO
    generalize ocE g = E at *
    obtain ⟨g0, g1⟩ := g
    simp only [gv] at *
    go_enter Tryd.func52, Tryd.ntmps52
    go_wp2_with (fail)
    (refine region_extx 7 (by kernel_rfl) (by kernel_rfl) fun hx => ?_; simp only [List.take_succ_cons, List.take_zero, List.drop_succ_cons, List.drop_zero]; (repeat (any_goals (first | go_big_quiet_step ((first | ((go_at_call 112; with_reducible exact ext_call (H1.out _))) | ((go_at_call 89; with_reducible exact ext_same (unless_any _ _ _))))) | quiet_step ((first | ((go_at_call 112; with_reducible exact ext_call (H1.out _))) | ((go_at_call 89; with_reducible exact ext_same (unless_any _ _ _)))))))))
    (refine wpQuiet_nil ?_; clear hx; intro u; have hbw2 := ext_bel _ u; have hxw2 := ext_cell _ u; generalize ext _ u = w2 at *; clear u; have hsw2 := hbw2.size; (try simp at hsw2))
    have h2 : Below w.heap.size w w2 := (by repeat (first | assumption | exact Below.refl _ _ | refine Below.drew ?_ | (refine below_alloc _ ?_ ?_; focus (first | omega | (simp; done) | (simp; omega) | (simp at *; omega))) | (refine below_set _ ?_ ?_; focus (first | omega | (simp; done) | (simp; omega) | (simp at *; omega))) | refine below_drewN ?_ _ | (refine below_call (by assumption) ?_ ?_; focus (first | omega | (simp; done) | (simp; omega) | (simp at *; omega))) | (refine below_call' (by assumption) ?_ ?_; focus (first | omega | (simp; done) | (simp; omega) | (simp at *; omega)))))
    clear hxw2 hsw2 hbw2
    go_wp2_with (go_at_call 87; refine (first2 _ _ _ _ (by simp) (cell_new (by simp) rfl) (cell_new (by simp) rfl)).mono ?_; rintro e w' ⟨rfl, rfl⟩; rw [← HE.out])
    go_ret2
    rw [HQ.out]
    exact ⟨rfl, (by repeat (first | assumption | exact Below.refl _ _ | refine Below.drew ?_ | (refine below_alloc _ ?_ ?_; focus (first | omega | (simp; done) | (simp; omega) | (simp at *; omega))) | (refine below_set _ ?_ ?_; focus (first | omega | (simp; done) | (simp; omega) | (simp at *; omega))) | refine below_drewN ?_ _ | (refine below_call (by assumption) ?_ ?_; focus (first | omega | (simp; done) | (simp; omega) | (simp at *; omega))) | (refine below_call' (by assumption) ?_ ?_; focus (first | omega | (simp; done) | (simp; omega) | (simp at *; omega)))))⟩
end Go.Proofs.YtppghnbabnhnbaaDoor
