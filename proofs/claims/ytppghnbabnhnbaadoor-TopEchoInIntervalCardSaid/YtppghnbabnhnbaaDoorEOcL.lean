/-
  Chapter 2: octants of turned and of stretched numbers.
-/
import Derived.Test.YtppghnbabnhnbaaDoorERdo
import Derived.Test.YtppghnbabnhnbaaDoorETra
namespace Go.Proofs.YtppghnbabnhnbaaDoor
open Go.ChangeShapes Go.WideShapes Go.ChangeAt Go.RowKit
set_option linter.unusedVariables false
set_option linter.unusedSimpArgs false

/-- the sectors -/
def sec (c : Nat) (x y : Int) : Prop := match c with
  | 0 => 0 ≤ y ∧ y < x
  | 1 => 0 < x ∧ x ≤ y
  | 2 => x ≤ 0 ∧ -x < y
  | 3 => 0 < y ∧ y ≤ -x
  | 4 => y ≤ 0 ∧ -y < -x
  | 5 => x < 0 ∧ -x ≤ -y
  | 6 => 0 ≤ x ∧ x < -y
  | _ => y < 0 ∧ -y ≤ x
theorem sec_ex {x y : Int} (hn : nzP x y) : sec 0 x y ∨ sec 1 x y ∨ sec 2 x y ∨ sec 3 x y ∨ sec 4 x y ∨ sec 5 x y ∨ sec 6 x y ∨ sec 7 x y := by
  unfold nzP at hn
  simp only [sec]
  omega
theorem oct_0 {x y : Int} (h : sec 0 x y) : octP x y = 0 := by simp only [sec] at h; unfold octP; rw [if_pos (by omega), if_pos (by omega)]
theorem oct_1 {x y : Int} (h : sec 1 x y) : octP x y = 1 := by simp only [sec] at h; unfold octP; rw [if_pos (by omega), if_neg (by omega)]
theorem oct_2 {x y : Int} (h : sec 2 x y) : octP x y = 2 := by simp only [sec] at h; unfold octP; rw [if_neg (by omega), if_pos (by omega), if_pos (by omega)]
theorem oct_3 {x y : Int} (h : sec 3 x y) : octP x y = 3 := by simp only [sec] at h; unfold octP; rw [if_neg (by omega), if_pos (by omega), if_neg (by omega)]
theorem oct_4 {x y : Int} (h : sec 4 x y) : octP x y = 4 := by simp only [sec] at h; unfold octP; rw [if_neg (by omega), if_neg (by omega), if_pos (by omega), if_pos (by omega)]
theorem oct_5 {x y : Int} (h : sec 5 x y) : octP x y = 5 := by simp only [sec] at h; unfold octP; rw [if_neg (by omega), if_neg (by omega), if_pos (by omega), if_neg (by omega)]
theorem oct_6 {x y : Int} (h : sec 6 x y) : octP x y = 6 := by simp only [sec] at h; unfold octP; rw [if_neg (by omega), if_neg (by omega), if_neg (by omega), if_pos (by omega)]
theorem oct_7 {x y : Int} (h : sec 7 x y) : octP x y = 7 := by simp only [sec] at h; unfold octP; rw [if_neg (by omega), if_neg (by omega), if_neg (by omega), if_neg (by omega)]
theorem oct_tI {x y : Int} (hn : nzP x y) : octP (-y) x = (octP x y + 2) % 8 := by
  rcases sec_ex hn with h | h | h | h | h | h | h | h
  · rw [oct_0 h, oct_2 (x := -y) (y := x) (by simp only [sec] at *; omega)]; rfl
  · rw [oct_1 h, oct_3 (x := -y) (y := x) (by simp only [sec] at *; omega)]; rfl
  · rw [oct_2 h, oct_4 (x := -y) (y := x) (by simp only [sec] at *; omega)]; rfl
  · rw [oct_3 h, oct_5 (x := -y) (y := x) (by simp only [sec] at *; omega)]; rfl
  · rw [oct_4 h, oct_6 (x := -y) (y := x) (by simp only [sec] at *; omega)]; rfl
  · rw [oct_5 h, oct_7 (x := -y) (y := x) (by simp only [sec] at *; omega)]; rfl
  · rw [oct_6 h, oct_0 (x := -y) (y := x) (by simp only [sec] at *; omega)]; rfl
  · rw [oct_7 h, oct_1 (x := -y) (y := x) (by simp only [sec] at *; omega)]; rfl
theorem nz_tI {x y : Int} (hn : nzP x y) : nzP (-y) x := by unfold nzP at *; omega
theorem nz_rotN {g : Gs} (hn : nzP g.re g.im) : ∀ k, nzP (rotN k g).re (rotN k g).im
  | 0 => hn
  | k + 1 => nz_tI (nz_rotN hn k)
theorem oct_rotN {g : Gs} (hn : nzP g.re g.im) : ∀ k : Nat, octG (rotN k g) = (octG g + 2 * k) % 8
  | 0 => by
    have := oct_bd g.re g.im
    show octG g = (octG g + 2 * ((0 : Nat) : Int)) % 8
    unfold octG
    omega
  | k + 1 => by
    have h := oct_rotN hn k
    have h2 := oct_tI (nz_rotN hn k)
    have e : octG (rotN (k + 1) g) = (octG (rotN k g) + 2) % 8 := h2
    rw [e, h]
    omega
theorem oct_scale {m x y : Int} (hm : 0 < m) (hn : nzP x y) : octP (m * x) (m * y) = octP x y := by
  have lt : ∀ a b : Int, a < b → m * a < m * b := fun a b h => Int.mul_lt_mul_of_pos_left h hm
  have le : ∀ a b : Int, a ≤ b → m * a ≤ m * b := fun a b h => Int.mul_le_mul_of_nonneg_left h (Int.le_of_lt hm)
  have z : m * 0 = 0 := Int.mul_zero m
  have gx : m * (-x) = -(m * x) := Int.mul_neg m x
  have gy : m * (-y) = -(m * y) := Int.mul_neg m y
  rcases sec_ex hn with h | h | h | h | h | h | h | h
  · rw [oct_0 h, oct_0]; simp only [sec] at *; exact ⟨by have := le _ _ h.1; omega, lt _ _ h.2⟩
  · rw [oct_1 h, oct_1]; simp only [sec] at *; exact ⟨by have := lt _ _ h.1; omega, le _ _ h.2⟩
  · rw [oct_2 h, oct_2]; simp only [sec] at *; exact ⟨by have := le _ _ h.1; omega, by have := lt _ _ h.2; omega⟩
  · rw [oct_3 h, oct_3]; simp only [sec] at *; exact ⟨by have := lt _ _ h.1; omega, by have := le _ _ h.2; omega⟩
  · rw [oct_4 h, oct_4]; simp only [sec] at *; exact ⟨by have := le _ _ h.1; omega, by have := lt _ _ h.2; omega⟩
  · rw [oct_5 h, oct_5]; simp only [sec] at *; exact ⟨by have := lt _ _ h.1; omega, by have := le _ _ h.2; omega⟩
  · rw [oct_6 h, oct_6]; simp only [sec] at *; exact ⟨by have := le _ _ h.1; omega, by have := lt _ _ h.2; omega⟩
  · rw [oct_7 h, oct_7]; simp only [sec] at *; exact ⟨by have := lt _ _ h.1; omega, by have := le _ _ h.2; omega⟩
/-- the reading of a number and of itself turned and stretched -/
theorem rd_turn {b : Gs} {k : Nat} {n : Int} (hk : k < 4) (hn : 0 < n) (hb : nzP b.re b.im) : octG (rdG2 b (gmul (rotN k b) ⟨n, 0⟩)) = 2 * k := by
  have hs := nz_sq hb
  have hp : 0 < n * (b.re * b.re + b.im * b.im) := Int.mul_pos hn hs
  obtain ⟨x, y⟩ := b
  have hk4 : k = 0 ∨ k = 1 ∨ k = 2 ∨ k = 3 := by omega
  simp only at hp
  rcases hk4 with rfl | rfl | rfl | rfl
  · have e1 : (rdG2 ⟨x, y⟩ (gmul (rotN 0 ⟨x, y⟩) ⟨n, 0⟩)).re = n * (x * x + y * y) := by simp only [rdG2, gmul, gconj, rotN]; grind
    have e2 : (rdG2 ⟨x, y⟩ (gmul (rotN 0 ⟨x, y⟩) ⟨n, 0⟩)).im = 0 := by simp only [rdG2, gmul, gconj, rotN]; grind
    unfold octG octP
    rw [e1, e2]
    repeat' split
    all_goals omega
  · have e1 : (rdG2 ⟨x, y⟩ (gmul (rotN 1 ⟨x, y⟩) ⟨n, 0⟩)).re = 0 := by simp only [rdG2, gmul, gconj, rotN, tI]; grind
    have e2 : (rdG2 ⟨x, y⟩ (gmul (rotN 1 ⟨x, y⟩) ⟨n, 0⟩)).im = n * (x * x + y * y) := by simp only [rdG2, gmul, gconj, rotN, tI]; grind
    unfold octG octP
    rw [e1, e2]
    repeat' split
    all_goals omega
  · have e1 : (rdG2 ⟨x, y⟩ (gmul (rotN 2 ⟨x, y⟩) ⟨n, 0⟩)).re = -(n * (x * x + y * y)) := by simp only [rdG2, gmul, gconj, rotN, tI]; grind
    have e2 : (rdG2 ⟨x, y⟩ (gmul (rotN 2 ⟨x, y⟩) ⟨n, 0⟩)).im = 0 := by simp only [rdG2, gmul, gconj, rotN, tI]; grind
    unfold octG octP
    rw [e1, e2]
    repeat' split
    all_goals omega
  · have e1 : (rdG2 ⟨x, y⟩ (gmul (rotN 3 ⟨x, y⟩) ⟨n, 0⟩)).re = 0 := by simp only [rdG2, gmul, gconj, rotN, tI]; grind
    have e2 : (rdG2 ⟨x, y⟩ (gmul (rotN 3 ⟨x, y⟩) ⟨n, 0⟩)).im = -(n * (x * x + y * y)) := by simp only [rdG2, gmul, gconj, rotN, tI]; grind
    unfold octG octP
    rw [e1, e2]
    repeat' split
    all_goals omega
set_option maxRecDepth 100000 in
set_option maxHeartbeats 4000000 in
theorem RTimes_any (g : Gs) (p : Nat) (w : World) (hp : p < 4) (hg : Sz 1000000000 g) :
    Calls Tryd.prog 47 #[gv g, .int .i64 p] w fun e w' => e = .returned (gv (rotN p g)) ∧ Below w.heap.size w w' := by
  have hp4 : (p : Int).tmod 4 = p := by rw [Int.tmod_eq_emod_of_nonneg (by omega)]; omega
  have HSZ := Lib.hid (fun k => Sz.rotN hg k)
  have HR0 : Hid (rotN 0 g = g) := Lib.hid rfl
  have HR1 : Hid (∀ k, rotN (k + 1) g = tI (rotN k g)) := Lib.hid fun _ => rfl
  have hp5 : (p : Int) ≤ 3 := by omega
  obtain ⟨g0, g1⟩ := g
  simp only [gv] at *
  go_enter Tryd.func47, Tryd.ntmps47
  go_wp2_with (fail)
  have hb1 : Below w.heap.size w ((w.alloc (.cells #[.int .i64 g0, .int .i64 g1] 24)).alloc (.cells #[.int .i64 0, .int .i64 0] 24)) := below_alloc _ (Nat.le_refl _) (below_alloc _ (Nat.le_refl _) (Below.refl _ _))
  have c0 : ((w.alloc (.cells #[.int .i64 g0, .int .i64 g1] 24)).alloc (.cells #[.int .i64 0, .int .i64 0] 24)).cell? ⟨w.heap.size, 0, none⟩ = some (.int .i64 g0) := cell_alloc _ (cell_new (by simp) rfl)
  have cf0 : ((w.alloc (.cells #[.int .i64 g0, .int .i64 g1] 24)).alloc (.cells #[.int .i64 0, .int .i64 0] 24)).frozen? ⟨w.heap.size, 0, none⟩ = false := frozen_alloc _ (by first | (simp; done) | (simp; omega)) (frozen_new (by simp))
  have c1 : ((w.alloc (.cells #[.int .i64 g0, .int .i64 g1] 24)).alloc (.cells #[.int .i64 0, .int .i64 0] 24)).cell? ⟨w.heap.size, 1, none⟩ = some (.int .i64 g1) := cell_alloc _ (cell_new (by simp) rfl)
  have cf1 : ((w.alloc (.cells #[.int .i64 g0, .int .i64 g1] 24)).alloc (.cells #[.int .i64 0, .int .i64 0] 24)).frozen? ⟨w.heap.size, 1, none⟩ = false := frozen_alloc _ (by first | (simp; done) | (simp; omega)) (frozen_new (by simp))
  have zc : w.heap.size < ((w.alloc (.cells #[.int .i64 g0, .int .i64 g1] 24)).alloc (.cells #[.int .i64 0, .int .i64 0] 24)).heap.size := World.block_lt_of_cell? _ _ c0
  have r0 : ((w.alloc (.cells #[.int .i64 g0, .int .i64 g1] 24)).alloc (.cells #[.int .i64 0, .int .i64 0] 24)).cell? ⟨w.heap.size + 1, 0, none⟩ = some (.int .i64 0) := cell_new (by simp) rfl
  have rf0 : ((w.alloc (.cells #[.int .i64 g0, .int .i64 g1] 24)).alloc (.cells #[.int .i64 0, .int .i64 0] 24)).frozen? ⟨w.heap.size + 1, 0, none⟩ = false := frozen_new (by simp)
  have r1 : ((w.alloc (.cells #[.int .i64 g0, .int .i64 g1] 24)).alloc (.cells #[.int .i64 0, .int .i64 0] 24)).cell? ⟨w.heap.size + 1, 1, none⟩ = some (.int .i64 0) := cell_new (by simp) rfl
  have rf1 : ((w.alloc (.cells #[.int .i64 g0, .int .i64 g1] 24)).alloc (.cells #[.int .i64 0, .int .i64 0] 24)).frozen? ⟨w.heap.size + 1, 1, none⟩ = false := frozen_new (by simp)
  have zr : w.heap.size + 1 < ((w.alloc (.cells #[.int .i64 g0, .int .i64 g1] 24)).alloc (.cells #[.int .i64 0, .int .i64 0] 24)).heap.size := World.block_lt_of_cell? _ _ r0
  generalize ((w.alloc (.cells #[.int .i64 g0, .int .i64 g1] 24)).alloc (.cells #[.int .i64 0, .int .i64 0] 24)) = w1 at *
  go_loopw [5] (fun o wr => ∃ (k : Nat), k ≤ p ∧ o = .int .i64 k ∧ wr.cell? ⟨w.heap.size, 0, none⟩ = some (.int .i64 (rotN k ⟨g0, g1⟩).re) ∧ wr.cell? ⟨w.heap.size, 1, none⟩ = some (.int .i64 (rotN k ⟨g0, g1⟩).im) ∧ wr.frozen? ⟨w.heap.size, 0, none⟩ = false ∧ wr.frozen? ⟨w.heap.size, 1, none⟩ = false ∧ wr.cell? ⟨w.heap.size + 1, 0, none⟩ = some (.int .i64 0) ∧ wr.cell? ⟨w.heap.size + 1, 1, none⟩ = some (.int .i64 0) ∧ wr.frozen? ⟨w.heap.size + 1, 0, none⟩ = false ∧ wr.frozen? ⟨w.heap.size + 1, 1, none⟩ = false ∧ Below w.heap.size w wr) (fun o _ => p - (intOf o).toNat)
  case atStart => exact ⟨0, Nat.zero_le _, rfl, c0, c1, cf0, cf1, r0, r1, rf0, rf1, hb1⟩
  case round =>
    obtain ⟨k, hk, rfl, c0, c1, cf0, cf1, r0, r1, rf0, rf1, hbr⟩ := hrel
    obtain ⟨wo, rfl⟩ : ∃ wo : World, wo = wr := ⟨_, rfl⟩
    have S1 := Lib.hid (HR1.out k)
    obtain ⟨m0, m1, m2, m3⟩ := HSZ.out k
    have zc : w.heap.size < wo.heap.size := World.block_lt_of_cell? _ _ c0
    have zr : w.heap.size + 1 < wo.heap.size := World.block_lt_of_cell? _ _ r0
    by_cases hkp : k < p
    · rcases hcu : rotN k ⟨g0, g1⟩ with ⟨u, v⟩
      rw [hcu] at S1 c0 c1 m0 m1 m2 m3
      simp only [tI] at S1 c0 c1 m0 m1 m2 m3
      have hk1 : (k : Int) < p := by omega
      have hner : w.heap.size ≠ w.heap.size + 1 := by omega
      clear HSZ HR0 HR1 hcu
      go_wp2_with (fail)
      have h4 : Below w.heap.size w ((wo.setCell ⟨w.heap.size, 0, none⟩ (.int .i64 (-v))).setCell ⟨w.heap.size, 1, none⟩ (.int .i64 u)) := below_set _ (by simp; try omega) (below_set _ (by simp; try omega) (hbr))
      replace c0 : ((wo.setCell ⟨w.heap.size, 0, none⟩ (.int .i64 (-v))).setCell ⟨w.heap.size, 1, none⟩ (.int .i64 u)).cell? ⟨w.heap.size, 0, none⟩ = some (.int .i64 (-v)) := cell_next (by decide) (cell_same (c0))
      replace c1 : ((wo.setCell ⟨w.heap.size, 0, none⟩ (.int .i64 (-v))).setCell ⟨w.heap.size, 1, none⟩ (.int .i64 u)).cell? ⟨w.heap.size, 1, none⟩ = some (.int .i64 u) := cell_same (cell_next (by decide) (c1))
      replace cf0 := (show World.frozen? ((wo.setCell ⟨w.heap.size, 0, none⟩ (.int .i64 (-v))).setCell ⟨w.heap.size, 1, none⟩ (.int .i64 u)) ⟨w.heap.size, 0, none⟩ = false from frozen_set _ _ (frozen_set _ _ (cf0)))
      replace cf1 := (show World.frozen? ((wo.setCell ⟨w.heap.size, 0, none⟩ (.int .i64 (-v))).setCell ⟨w.heap.size, 1, none⟩ (.int .i64 u)) ⟨w.heap.size, 1, none⟩ = false from frozen_set _ _ (frozen_set _ _ (cf1)))
      have hszQ : ((wo.setCell ⟨w.heap.size, 0, none⟩ (.int .i64 (-v))).setCell ⟨w.heap.size, 1, none⟩ (.int .i64 u)).heap.size = wo.heap.size := by simp
      replace zc : w.heap.size < ((wo.setCell ⟨w.heap.size, 0, none⟩ (.int .i64 (-v))).setCell ⟨w.heap.size, 1, none⟩ (.int .i64 u)).heap.size := by rw [hszQ]; exact zc
      replace r0 := cell_far (u := .int .i64 u) (q := ⟨w.heap.size, 1, none⟩) hner (cell_far (u := .int .i64 (-v)) (q := ⟨w.heap.size, 0, none⟩) hner (r0))
      replace rf0 := frozen_set ⟨w.heap.size, 1, none⟩ (.int .i64 u) (frozen_set ⟨w.heap.size, 0, none⟩ (.int .i64 (-v)) (rf0))
      replace r1 := cell_far (u := .int .i64 u) (q := ⟨w.heap.size, 1, none⟩) hner (cell_far (u := .int .i64 (-v)) (q := ⟨w.heap.size, 0, none⟩) hner (r1))
      replace rf1 := frozen_set ⟨w.heap.size, 1, none⟩ (.int .i64 u) (frozen_set ⟨w.heap.size, 0, none⟩ (.int .i64 (-v)) (rf1))
      replace zr := Nat.lt_of_lt_of_eq zr hszQ.symm
      clear hszQ hbr
      generalize ((wo.setCell ⟨w.heap.size, 0, none⟩ (.int .i64 (-v))).setCell ⟨w.heap.size, 1, none⟩ (.int .i64 u)) = w4 at *
      exact ⟨⟨k + 1, by omega, by go_num, by rw [S1.out]; exact c0, by rw [S1.out]; exact c1, cf0, cf1, r0, r1, rf0, rf1, h4⟩, by simp [intOf]; omega⟩
    · obtain rfl : k = p := by omega
      clear HSZ HR0 HR1 S1
      rcases hcu : rotN k ⟨g0, g1⟩ with ⟨u, v⟩
      rw [hcu] at c0 c1
      have HCU := Lib.hid hcu
      simp only at c0 c1
      clear hcu
      go_wp2_with (fail)
      obtain ⟨q0, q1⟩ := set2 (v0 := .int .i64 u) (v1 := .int .i64 v) r0 r1
      refine bodyPost_ret (v := .agg #[.int .i64 u, .int .i64 v]) (by simp [results, Tryd.results47, go_sem, q0, q1]) rfl ?_
      have hle : w.heap.size ≤ w.heap.size + 1 := by omega
      exact ⟨by rw [HCU.out], below_set _ hle (below_set _ hle hbr)⟩
end Go.Proofs.YtppghnbabnhnbaaDoor
