/-
  Chapter 2: the lines of samples, by floats.
-/
import Derived.Test.YtlnbbioponmcfaaDoorEEch
import Derived.Test.YtlnbbioponmcfaaDoorFlt
namespace Go.Proofs.YtlnbbioponmcfaaDoor
open Go.ChangeShapes Go.WideShapes Go.ChangeAt Go.RowKit
set_option linter.unusedVariables false
set_option linter.unusedSimpArgs false

theorem run_store_cx {P : Program} (w : World) (a : Addr) (m : Mode) (k : FloatKind) (x y : Nat) : (store a (.complex k x y) m).run P w = stored P w a (.complex k x y) m := run_store P w a _ m rfl
attribute [local go_sem] run_store_cx
/-- times i -/
def tI (g : Gs) : Gs := ⟨-g.im, g.re⟩
def rotN : Nat → Gs → Gs
  | 0, g => g
  | n + 1, g => tI (rotN n g)
def rot (n : Int) (g : Gs) : Gs := rotN (n % 4).toNat g
theorem Sz.tI {M : Int} {g : Gs} (h : Sz M g) : Sz M (tI g) := by
  obtain ⟨h0, h1, h2, h3⟩ := h
  exact ⟨by show -M ≤ -g.im; omega, by show -g.im ≤ M; omega, h0, h1⟩
theorem Sz.rotN {M : Int} {g : Gs} (h : Sz M g) : ∀ n, Sz M (rotN n g)
  | 0 => h
  | n + 1 => (Sz.rotN h n).tI
theorem Sz.rot {M : Int} {g : Gs} (h : Sz M g) (n : Int) : Sz M (rot n g) := h.rotN _
/-- the powers of i -/
def unit (q : Nat) : Gs := match q with
  | 0 => ⟨1, 0⟩
  | 1 => ⟨0, 1⟩
  | 2 => ⟨-1, 0⟩
  | _ => ⟨0, -1⟩
def unitB (q : Nat) : Nat × Nat := match q with
  | 0 => (4607182418800017408, 0)
  | 1 => (0, 4607182418800017408)
  | 2 => (13830554455654793216, 0)
  | _ => (0, 13830554455654793216)
theorem unit_mul (g : Gs) (q : Nat) (h : q < 4) : gmul g (unit q) = rotN q g := by
  have hq : q = 0 ∨ q = 1 ∨ q = 2 ∨ q = 3 := by omega
  rcases hq with rfl | rfl | rfl | rfl <;> apply Gs.ext2 <;> simp [gmul, unit, rotN, tI]
theorem unit_rep (q : Nat) (h : q < 4) : Rep (unitB q).1 (unit q).re ∧ Rep (unitB q).2 (unit q).im := by
  have hq : q = 0 ∨ q = 1 ∨ q = 2 ∨ q = 3 := by omega
  rcases hq with rfl | rfl | rfl | rfl
  · exact ⟨rep_one, rep_zero⟩
  · exact ⟨rep_zero, rep_one⟩
  · exact ⟨rep_neg, rep_zero⟩
  · exact ⟨rep_zero, rep_neg⟩
/-- the sum of the first k, each turned -/
def lnK (x : List Gs) (sg n : Int) : Nat → Gs
  | 0 => gz
  | k + 1 => gadd (lnK x sg n k) (rot (sg * n * k) (gd x k))
theorem lnK_sz {x : List Gs} {M : Int} (hM : 0 ≤ M) (h : ∀ i, Sz M (gd x i)) (sg n : Int) : ∀ k : Nat, Sz (k * M) (lnK x sg n k)
  | 0 => ⟨by simp [lnK, gz], by simp [lnK, gz], by simp [lnK, gz], by simp [lnK, gz]⟩
  | k + 1 => by
    have := (lnK_sz hM h sg n k).add ((h k).rot (sg * n * k))
    refine this.mono ?_
    rw [Int.natCast_succ, Int.add_mul, Int.one_mul]
    exact Int.le_refl _
/-- four complex numbers in memory -/
structure CxAt (O : Nat) (v : Nat → Gs) (w : World) : Prop where
  c : ∀ j, j < 4 → ∃ a b, w.cell? ⟨O, j, none⟩ = some (.complex .f64 a b) ∧ Rep a (v j).re ∧ Rep b (v j).im
  f : ∀ j, w.frozen? ⟨O, j, none⟩ = false
  z : O < w.heap.size
theorem CxAt.below {O : Nat} {v : Nat → Gs} {w w' : World} (h : CxAt O v w) (hb : Below w.heap.size w w') : CxAt O v w' :=
  ⟨fun j hj => by obtain ⟨a, b, h1, h2, h3⟩ := h.c j hj; exact ⟨a, b, cell_below' hb h1, h2, h3⟩, fun j => frozen_below hb h.z (h.f j), Nat.lt_of_lt_of_le h.z hb.size⟩
theorem CxAt.set {O k : Nat} {v q : Nat → Gs} {w : World} {a b : Nat} (h : CxAt O v w) (hk : k < 4) (h1 : Rep a (q k).re) (h1' : Rep b (q k).im) (h2 : ∀ j, j ≠ k → q j = v j) : CxAt O q (w.setCell ⟨O, k, none⟩ (.complex .f64 a b)) := by
  refine ⟨fun j hj => ?_, fun j => frozen_set _ _ (h.f j), by simpa using h.z⟩
  by_cases e : j = k
  · subst e
    obtain ⟨a', b', h3, _, _⟩ := h.c j hj
    exact ⟨a, b, cell_same h3, h1, h1'⟩
  · obtain ⟨a', b', h3, h4, h5⟩ := h.c j hj
    rw [← h2 j e] at h4 h5
    exact ⟨a', b', cell_next (fun h => e h.symm) h3, h4, h5⟩
theorem cx_q (P : Int) : ∃ q : Nat, (P.tmod 4 + 4) % 4 = (q : Int) ∧ q < 4 ∧ (P % 4).toNat = q := by
  obtain ⟨h1, h2, h3⟩ := tmod_bd P 4 (by decide)
  refine ⟨(P % 4).toNat, ?_, ?_, rfl⟩ <;> omega
theorem rot_k (sg n : Int) (k : Nat) (g : Gs) : rot (sg * n * ((k : Int) % 4)) g = rot (sg * n * k) g := by
  unfold rot
  have h : (sg * n * ((k : Int) % 4)) % 4 = (sg * n * (k : Int)) % 4 := by
    rw [Int.mul_emod, Int.emod_emod_of_dvd _ (by decide : (4 : Int) ∣ 4), ← Int.mul_emod]
  rw [h]
theorem set4 {w : World} {b : Nat} {a0 a1 a2 a3 v0 v1 v2 v3 : Value} (h0 : w.cell? ⟨b, 0, none⟩ = some a0) (h1 : w.cell? ⟨b, 1, none⟩ = some a1) (h2 : w.cell? ⟨b, 2, none⟩ = some a2) (h3 : w.cell? ⟨b, 3, none⟩ = some a3) :
    ((((w.setCell ⟨b, 0, none⟩ v0).setCell ⟨b, 1, none⟩ v1).setCell ⟨b, 2, none⟩ v2).setCell ⟨b, 3, none⟩ v3).cell? ⟨b, 0, none⟩ = some v0 ∧
    ((((w.setCell ⟨b, 0, none⟩ v0).setCell ⟨b, 1, none⟩ v1).setCell ⟨b, 2, none⟩ v2).setCell ⟨b, 3, none⟩ v3).cell? ⟨b, 1, none⟩ = some v1 ∧
    ((((w.setCell ⟨b, 0, none⟩ v0).setCell ⟨b, 1, none⟩ v1).setCell ⟨b, 2, none⟩ v2).setCell ⟨b, 3, none⟩ v3).cell? ⟨b, 2, none⟩ = some v2 ∧
    ((((w.setCell ⟨b, 0, none⟩ v0).setCell ⟨b, 1, none⟩ v1).setCell ⟨b, 2, none⟩ v2).setCell ⟨b, 3, none⟩ v3).cell? ⟨b, 3, none⟩ = some v3 :=
  ⟨cell_next (by decide) (cell_next (by decide) (cell_next (by decide) (cell_same h0))), cell_next (by decide) (cell_next (by decide) (cell_same (cell_next (by decide) h1))), cell_next (by decide) (cell_same (cell_next (by decide) (cell_next (by decide) h2))), cell_same (cell_next (by decide) (cell_next (by decide) (cell_next (by decide) h3)))⟩
/-- what transform gives -/
def cxv (a b : Nat) : Value := .complex .f64 a b
def TraPost (v : Nat → Gs) (w : World) (e : Ending) (w' : World) : Prop := ∃ a0 b0 a1 b1 a2 b2 a3 b3 : Nat, e = .returned (.agg #[.complex .f64 a0 b0, .complex .f64 a1 b1, .complex .f64 a2 b2, .complex .f64 a3 b3]) ∧ (Rep a0 (v 0).re ∧ Rep b0 (v 0).im) ∧ (Rep a1 (v 1).re ∧ Rep b1 (v 1).im) ∧ (Rep a2 (v 2).re ∧ Rep b2 (v 2).im) ∧ (Rep a3 (v 3).re ∧ Rep b3 (v 3).im) ∧ Below w.heap.size w w'
def valN (x : List Gs) (sg : Int) (n k : Nat) (j : Nat) : Gs := if j < n then lnK x sg j x.length else if j = n then lnK x sg n k else gz
theorem valN_zero (x : List Gs) (sg : Int) : valN x sg 0 0 = fun _ => gz := funext fun j => by
  unfold valN
  rw [if_neg (by omega)]
  split <;> rfl
theorem valN_next (x : List Gs) (sg : Int) (n : Nat) : valN x sg n x.length = valN x sg (n + 1) 0 := funext fun j => by
  unfold valN
  by_cases h1 : j < n
  · rw [if_pos h1, if_pos (by omega)]
  · rw [if_neg h1]
    by_cases h2 : j = n
    · rw [if_pos h2, if_pos (by omega), h2]
    · rw [if_neg h2, if_neg (by omega)]
      split <;> rfl
theorem valN_at (x : List Gs) (sg : Int) (n k : Nat) : valN x sg n k n = lnK x sg n k := by
  unfold valN
  rw [if_neg (by omega), if_pos rfl]
theorem valN_other (x : List Gs) (sg : Int) (n k k' j : Nat) (h : j ≠ n) : valN x sg n k' j = valN x sg n k j := by
  unfold valN
  rw [if_neg h, if_neg h]
theorem valN_end (x : List Gs) (sg : Int) (j : Nat) (h : j < 4) : valN x sg 4 0 j = lnK x sg j x.length := by
  unfold valN
  rw [if_pos h]
set_option maxRecDepth 100000 in
set_option maxHeartbeats 8000000 in
theorem transform_any (A : Option Addr) (x : List Gs) (ca : Nat) (sg : Int) (M : Int) (w : World) (hx : x.length ≤ 64) (hs0 : -1 ≤ sg) (hs1 : sg ≤ 1) (hM0 : 0 ≤ M) (hM : M ≤ 1000000) (hok : ∀ i, Sz M (gd x i)) (hA : GsAt w A x) :
    Calls Tryd.prog 30 #[.slice A x.length ca, .int .i64 sg] w (TraPost (fun n => lnK x sg n x.length) w) := by
  have hlz := fun (n : Int) k => lnK_sz hM0 hok sg n k
  have HLZ := Lib.hid hlz
  have HOK := Lib.hid hok
  have hxl : (x.length : Int) ≤ 64 := by omega
  clear hok hlz
  go_enter Tryd.func30, Tryd.ntmps30
  go_upto_region 3 with (fail)
  have hb0 : Below w.heap.size w (((w.alloc (.cells #[.complex .f64 0 0, .complex .f64 0 0, .complex .f64 0 0, .complex .f64 0 0] 77)).alloc (.cells #[.complex .f64 4607182418800017408 0, .complex .f64 0 4607182418800017408, .complex .f64 13830554455654793216 0, .complex .f64 0 13830554455654793216] 77)).alloc (.cells #[.complex .f64 0 0, .complex .f64 0 0, .complex .f64 0 0, .complex .f64 0 0] 77)) := below_alloc _ (Nat.le_refl _) (below_alloc _ (Nat.le_refl _) (below_alloc _ (Nat.le_refl _) (Below.refl _ _)))
  have r0 : (((w.alloc (.cells #[.complex .f64 0 0, .complex .f64 0 0, .complex .f64 0 0, .complex .f64 0 0] 77)).alloc (.cells #[.complex .f64 4607182418800017408 0, .complex .f64 0 4607182418800017408, .complex .f64 13830554455654793216 0, .complex .f64 0 13830554455654793216] 77)).alloc (.cells #[.complex .f64 0 0, .complex .f64 0 0, .complex .f64 0 0, .complex .f64 0 0] 77)).cell? ⟨w.heap.size, 0, none⟩ = some (.complex .f64 0 0) := cell_alloc _ (cell_alloc _ (cell_new (by simp) rfl))
  have rf0 : (((w.alloc (.cells #[.complex .f64 0 0, .complex .f64 0 0, .complex .f64 0 0, .complex .f64 0 0] 77)).alloc (.cells #[.complex .f64 4607182418800017408 0, .complex .f64 0 4607182418800017408, .complex .f64 13830554455654793216 0, .complex .f64 0 13830554455654793216] 77)).alloc (.cells #[.complex .f64 0 0, .complex .f64 0 0, .complex .f64 0 0, .complex .f64 0 0] 77)).frozen? ⟨w.heap.size, 0, none⟩ = false := frozen_alloc _ (by first | (simp; done) | (simp; omega)) (frozen_alloc _ (by first | (simp; done) | (simp; omega)) (frozen_new (by simp)))
  have r1 : (((w.alloc (.cells #[.complex .f64 0 0, .complex .f64 0 0, .complex .f64 0 0, .complex .f64 0 0] 77)).alloc (.cells #[.complex .f64 4607182418800017408 0, .complex .f64 0 4607182418800017408, .complex .f64 13830554455654793216 0, .complex .f64 0 13830554455654793216] 77)).alloc (.cells #[.complex .f64 0 0, .complex .f64 0 0, .complex .f64 0 0, .complex .f64 0 0] 77)).cell? ⟨w.heap.size, 1, none⟩ = some (.complex .f64 0 0) := cell_alloc _ (cell_alloc _ (cell_new (by simp) rfl))
  have rf1 : (((w.alloc (.cells #[.complex .f64 0 0, .complex .f64 0 0, .complex .f64 0 0, .complex .f64 0 0] 77)).alloc (.cells #[.complex .f64 4607182418800017408 0, .complex .f64 0 4607182418800017408, .complex .f64 13830554455654793216 0, .complex .f64 0 13830554455654793216] 77)).alloc (.cells #[.complex .f64 0 0, .complex .f64 0 0, .complex .f64 0 0, .complex .f64 0 0] 77)).frozen? ⟨w.heap.size, 1, none⟩ = false := frozen_alloc _ (by first | (simp; done) | (simp; omega)) (frozen_alloc _ (by first | (simp; done) | (simp; omega)) (frozen_new (by simp)))
  have r2 : (((w.alloc (.cells #[.complex .f64 0 0, .complex .f64 0 0, .complex .f64 0 0, .complex .f64 0 0] 77)).alloc (.cells #[.complex .f64 4607182418800017408 0, .complex .f64 0 4607182418800017408, .complex .f64 13830554455654793216 0, .complex .f64 0 13830554455654793216] 77)).alloc (.cells #[.complex .f64 0 0, .complex .f64 0 0, .complex .f64 0 0, .complex .f64 0 0] 77)).cell? ⟨w.heap.size, 2, none⟩ = some (.complex .f64 0 0) := cell_alloc _ (cell_alloc _ (cell_new (by simp) rfl))
  have rf2 : (((w.alloc (.cells #[.complex .f64 0 0, .complex .f64 0 0, .complex .f64 0 0, .complex .f64 0 0] 77)).alloc (.cells #[.complex .f64 4607182418800017408 0, .complex .f64 0 4607182418800017408, .complex .f64 13830554455654793216 0, .complex .f64 0 13830554455654793216] 77)).alloc (.cells #[.complex .f64 0 0, .complex .f64 0 0, .complex .f64 0 0, .complex .f64 0 0] 77)).frozen? ⟨w.heap.size, 2, none⟩ = false := frozen_alloc _ (by first | (simp; done) | (simp; omega)) (frozen_alloc _ (by first | (simp; done) | (simp; omega)) (frozen_new (by simp)))
  have r3 : (((w.alloc (.cells #[.complex .f64 0 0, .complex .f64 0 0, .complex .f64 0 0, .complex .f64 0 0] 77)).alloc (.cells #[.complex .f64 4607182418800017408 0, .complex .f64 0 4607182418800017408, .complex .f64 13830554455654793216 0, .complex .f64 0 13830554455654793216] 77)).alloc (.cells #[.complex .f64 0 0, .complex .f64 0 0, .complex .f64 0 0, .complex .f64 0 0] 77)).cell? ⟨w.heap.size, 3, none⟩ = some (.complex .f64 0 0) := cell_alloc _ (cell_alloc _ (cell_new (by simp) rfl))
  have rf3 : (((w.alloc (.cells #[.complex .f64 0 0, .complex .f64 0 0, .complex .f64 0 0, .complex .f64 0 0] 77)).alloc (.cells #[.complex .f64 4607182418800017408 0, .complex .f64 0 4607182418800017408, .complex .f64 13830554455654793216 0, .complex .f64 0 13830554455654793216] 77)).alloc (.cells #[.complex .f64 0 0, .complex .f64 0 0, .complex .f64 0 0, .complex .f64 0 0] 77)).frozen? ⟨w.heap.size, 3, none⟩ = false := frozen_alloc _ (by first | (simp; done) | (simp; omega)) (frozen_alloc _ (by first | (simp; done) | (simp; omega)) (frozen_new (by simp)))
  have zr : w.heap.size < (((w.alloc (.cells #[.complex .f64 0 0, .complex .f64 0 0, .complex .f64 0 0, .complex .f64 0 0] 77)).alloc (.cells #[.complex .f64 4607182418800017408 0, .complex .f64 0 4607182418800017408, .complex .f64 13830554455654793216 0, .complex .f64 0 13830554455654793216] 77)).alloc (.cells #[.complex .f64 0 0, .complex .f64 0 0, .complex .f64 0 0, .complex .f64 0 0] 77)).heap.size := World.block_lt_of_cell? _ _ r0
  have u0 : (((w.alloc (.cells #[.complex .f64 0 0, .complex .f64 0 0, .complex .f64 0 0, .complex .f64 0 0] 77)).alloc (.cells #[.complex .f64 4607182418800017408 0, .complex .f64 0 4607182418800017408, .complex .f64 13830554455654793216 0, .complex .f64 0 13830554455654793216] 77)).alloc (.cells #[.complex .f64 0 0, .complex .f64 0 0, .complex .f64 0 0, .complex .f64 0 0] 77)).cell? ⟨w.heap.size + 1, 0, none⟩ = some (.complex .f64 4607182418800017408 0) := cell_alloc _ (cell_new (by simp) rfl)
  have u1 : (((w.alloc (.cells #[.complex .f64 0 0, .complex .f64 0 0, .complex .f64 0 0, .complex .f64 0 0] 77)).alloc (.cells #[.complex .f64 4607182418800017408 0, .complex .f64 0 4607182418800017408, .complex .f64 13830554455654793216 0, .complex .f64 0 13830554455654793216] 77)).alloc (.cells #[.complex .f64 0 0, .complex .f64 0 0, .complex .f64 0 0, .complex .f64 0 0] 77)).cell? ⟨w.heap.size + 1, 1, none⟩ = some (.complex .f64 0 4607182418800017408) := cell_alloc _ (cell_new (by simp) rfl)
  have u2 : (((w.alloc (.cells #[.complex .f64 0 0, .complex .f64 0 0, .complex .f64 0 0, .complex .f64 0 0] 77)).alloc (.cells #[.complex .f64 4607182418800017408 0, .complex .f64 0 4607182418800017408, .complex .f64 13830554455654793216 0, .complex .f64 0 13830554455654793216] 77)).alloc (.cells #[.complex .f64 0 0, .complex .f64 0 0, .complex .f64 0 0, .complex .f64 0 0] 77)).cell? ⟨w.heap.size + 1, 2, none⟩ = some (.complex .f64 13830554455654793216 0) := cell_alloc _ (cell_new (by simp) rfl)
  have u3 : (((w.alloc (.cells #[.complex .f64 0 0, .complex .f64 0 0, .complex .f64 0 0, .complex .f64 0 0] 77)).alloc (.cells #[.complex .f64 4607182418800017408 0, .complex .f64 0 4607182418800017408, .complex .f64 13830554455654793216 0, .complex .f64 0 13830554455654793216] 77)).alloc (.cells #[.complex .f64 0 0, .complex .f64 0 0, .complex .f64 0 0, .complex .f64 0 0] 77)).cell? ⟨w.heap.size + 1, 3, none⟩ = some (.complex .f64 0 13830554455654793216) := cell_alloc _ (cell_new (by simp) rfl)
  have zu : w.heap.size + 1 < (((w.alloc (.cells #[.complex .f64 0 0, .complex .f64 0 0, .complex .f64 0 0, .complex .f64 0 0] 77)).alloc (.cells #[.complex .f64 4607182418800017408 0, .complex .f64 0 4607182418800017408, .complex .f64 13830554455654793216 0, .complex .f64 0 13830554455654793216] 77)).alloc (.cells #[.complex .f64 0 0, .complex .f64 0 0, .complex .f64 0 0, .complex .f64 0 0] 77)).heap.size := World.block_lt_of_cell? _ _ u0
  have o0 : (((w.alloc (.cells #[.complex .f64 0 0, .complex .f64 0 0, .complex .f64 0 0, .complex .f64 0 0] 77)).alloc (.cells #[.complex .f64 4607182418800017408 0, .complex .f64 0 4607182418800017408, .complex .f64 13830554455654793216 0, .complex .f64 0 13830554455654793216] 77)).alloc (.cells #[.complex .f64 0 0, .complex .f64 0 0, .complex .f64 0 0, .complex .f64 0 0] 77)).cell? ⟨w.heap.size + 1 + 1, 0, none⟩ = some (.complex .f64 0 0) := cell_new (by simp) rfl
  have of0 : (((w.alloc (.cells #[.complex .f64 0 0, .complex .f64 0 0, .complex .f64 0 0, .complex .f64 0 0] 77)).alloc (.cells #[.complex .f64 4607182418800017408 0, .complex .f64 0 4607182418800017408, .complex .f64 13830554455654793216 0, .complex .f64 0 13830554455654793216] 77)).alloc (.cells #[.complex .f64 0 0, .complex .f64 0 0, .complex .f64 0 0, .complex .f64 0 0] 77)).frozen? ⟨w.heap.size + 1 + 1, 0, none⟩ = false := frozen_new (by simp)
  have o1 : (((w.alloc (.cells #[.complex .f64 0 0, .complex .f64 0 0, .complex .f64 0 0, .complex .f64 0 0] 77)).alloc (.cells #[.complex .f64 4607182418800017408 0, .complex .f64 0 4607182418800017408, .complex .f64 13830554455654793216 0, .complex .f64 0 13830554455654793216] 77)).alloc (.cells #[.complex .f64 0 0, .complex .f64 0 0, .complex .f64 0 0, .complex .f64 0 0] 77)).cell? ⟨w.heap.size + 1 + 1, 1, none⟩ = some (.complex .f64 0 0) := cell_new (by simp) rfl
  have of1 : (((w.alloc (.cells #[.complex .f64 0 0, .complex .f64 0 0, .complex .f64 0 0, .complex .f64 0 0] 77)).alloc (.cells #[.complex .f64 4607182418800017408 0, .complex .f64 0 4607182418800017408, .complex .f64 13830554455654793216 0, .complex .f64 0 13830554455654793216] 77)).alloc (.cells #[.complex .f64 0 0, .complex .f64 0 0, .complex .f64 0 0, .complex .f64 0 0] 77)).frozen? ⟨w.heap.size + 1 + 1, 1, none⟩ = false := frozen_new (by simp)
  have o2 : (((w.alloc (.cells #[.complex .f64 0 0, .complex .f64 0 0, .complex .f64 0 0, .complex .f64 0 0] 77)).alloc (.cells #[.complex .f64 4607182418800017408 0, .complex .f64 0 4607182418800017408, .complex .f64 13830554455654793216 0, .complex .f64 0 13830554455654793216] 77)).alloc (.cells #[.complex .f64 0 0, .complex .f64 0 0, .complex .f64 0 0, .complex .f64 0 0] 77)).cell? ⟨w.heap.size + 1 + 1, 2, none⟩ = some (.complex .f64 0 0) := cell_new (by simp) rfl
  have of2 : (((w.alloc (.cells #[.complex .f64 0 0, .complex .f64 0 0, .complex .f64 0 0, .complex .f64 0 0] 77)).alloc (.cells #[.complex .f64 4607182418800017408 0, .complex .f64 0 4607182418800017408, .complex .f64 13830554455654793216 0, .complex .f64 0 13830554455654793216] 77)).alloc (.cells #[.complex .f64 0 0, .complex .f64 0 0, .complex .f64 0 0, .complex .f64 0 0] 77)).frozen? ⟨w.heap.size + 1 + 1, 2, none⟩ = false := frozen_new (by simp)
  have o3 : (((w.alloc (.cells #[.complex .f64 0 0, .complex .f64 0 0, .complex .f64 0 0, .complex .f64 0 0] 77)).alloc (.cells #[.complex .f64 4607182418800017408 0, .complex .f64 0 4607182418800017408, .complex .f64 13830554455654793216 0, .complex .f64 0 13830554455654793216] 77)).alloc (.cells #[.complex .f64 0 0, .complex .f64 0 0, .complex .f64 0 0, .complex .f64 0 0] 77)).cell? ⟨w.heap.size + 1 + 1, 3, none⟩ = some (.complex .f64 0 0) := cell_new (by simp) rfl
  have of3 : (((w.alloc (.cells #[.complex .f64 0 0, .complex .f64 0 0, .complex .f64 0 0, .complex .f64 0 0] 77)).alloc (.cells #[.complex .f64 4607182418800017408 0, .complex .f64 0 4607182418800017408, .complex .f64 13830554455654793216 0, .complex .f64 0 13830554455654793216] 77)).alloc (.cells #[.complex .f64 0 0, .complex .f64 0 0, .complex .f64 0 0, .complex .f64 0 0] 77)).frozen? ⟨w.heap.size + 1 + 1, 3, none⟩ = false := frozen_new (by simp)
  have ok : (((w.alloc (.cells #[.complex .f64 0 0, .complex .f64 0 0, .complex .f64 0 0, .complex .f64 0 0] 77)).alloc (.cells #[.complex .f64 4607182418800017408 0, .complex .f64 0 4607182418800017408, .complex .f64 13830554455654793216 0, .complex .f64 0 13830554455654793216] 77)).alloc (.cells #[.complex .f64 0 0, .complex .f64 0 0, .complex .f64 0 0, .complex .f64 0 0] 77)).heap[w.heap.size + 1 + 1]? = some (.cells #[.complex .f64 0 0, .complex .f64 0 0, .complex .f64 0 0, .complex .f64 0 0] 77) := blk_new (by simp)
  have zo : w.heap.size + 1 + 1 < (((w.alloc (.cells #[.complex .f64 0 0, .complex .f64 0 0, .complex .f64 0 0, .complex .f64 0 0] 77)).alloc (.cells #[.complex .f64 4607182418800017408 0, .complex .f64 0 4607182418800017408, .complex .f64 13830554455654793216 0, .complex .f64 0 13830554455654793216] 77)).alloc (.cells #[.complex .f64 0 0, .complex .f64 0 0, .complex .f64 0 0, .complex .f64 0 0] 77)).heap.size := World.block_lt_of_cell? _ _ o0
  generalize (((w.alloc (.cells #[.complex .f64 0 0, .complex .f64 0 0, .complex .f64 0 0, .complex .f64 0 0] 77)).alloc (.cells #[.complex .f64 4607182418800017408 0, .complex .f64 0 4607182418800017408, .complex .f64 13830554455654793216 0, .complex .f64 0 13830554455654793216] 77)).alloc (.cells #[.complex .f64 0 0, .complex .f64 0 0, .complex .f64 0 0, .complex .f64 0 0] 77)) = w0 at *
  have hcx : CxAt (w.heap.size + 1 + 1) (valN x sg 0 0) w0 := by
    rw [valN_zero]
    refine ⟨fun j hj => ?_, fun j => ?_, zo⟩
    · have h4 : j = 0 ∨ j = 1 ∨ j = 2 ∨ j = 3 := by omega
      rcases h4 with rfl | rfl | rfl | rfl
      · exact ⟨0, 0, o0, rep_zero, rep_zero⟩
      · exact ⟨0, 0, o1, rep_zero, rep_zero⟩
      · exact ⟨0, 0, o2, rep_zero, rep_zero⟩
      · exact ⟨0, 0, o3, rep_zero, rep_zero⟩
    · exact blk_frozen ok
  have hut : ∀ q, q < 4 → w0.cell? ⟨w.heap.size + 1, q, none⟩ = some (.complex .f64 (unitB q).1 (unitB q).2) := fun q hq => by
    have h4 : q = 0 ∨ q = 1 ∨ q = 2 ∨ q = 3 := by omega
    rcases h4 with rfl | rfl | rfl | rfl
    · exact u0
    · exact u1
    · exact u2
    · exact u3
  have HCX := Lib.hid hcx
  have HUT := Lib.hid hut
  clear hcx hut ok o0 o1 o2 o3 of0 of1 of2 of3 u0 u1 u2 u3
  go_wp2_with (fail)
  go_loopw [11] (fun i wr => ∃ n : Nat, n ≤ 4 ∧ i = .int .i64 n ∧ CxAt (w.heap.size + 1 + 1) (valN x sg n 0) wr ∧ Below (w.heap.size + 1 + 1) w0 wr) (fun i _ => 4 - (intOf i).toNat)
  case atStart => exact ⟨0, Nat.zero_le _, rfl, HCX.out, Below.refl _ _⟩
  case round =>
    obtain ⟨n, hn, rfl, hcx, hbr⟩ := hrel
    obtain ⟨wo, rfl⟩ : ∃ wo : World, wo = wr := ⟨_, rfl⟩
    have HC := Lib.hid hcx
    clear hcx
    by_cases hn4 : n < 4
    · have hn5 : (n : Int) < 4 := by omega
      go_wp2_with (fail)
      go_loopw [16] (fun i wr => ∃ k : Nat, k ≤ x.length ∧ i = .int .i64 k ∧ CxAt (w.heap.size + 1 + 1) (valN x sg n k) wr ∧ Below (w.heap.size + 1 + 1) w0 wr) (fun i _ => x.length - (intOf i).toNat)
      case atStart => exact ⟨0, Nat.zero_le _, rfl, HC.out, hbr⟩
      case round =>
        obtain ⟨k, hk, rfl, hcx, hbk⟩ := hrel
        obtain ⟨v, rfl⟩ : ∃ v : World, v = wr := ⟨_, rfl⟩
        have hbw : Below w.heap.size w v := hb0.trans (hbk.mono (by omega))
        have hut : ∀ q, q < 4 → v.cell? ⟨w.heap.size + 1, q, none⟩ = some (.complex .f64 (unitB q).1 (unitB q).2) := fun q hq => cell_below hbk (HUT.out q hq) (by simp)
        have HUK := Lib.hid hut
        have HCK := Lib.hid hcx
        have zk := hcx.z
        clear hut hcx
        by_cases hlt : k < x.length
        · have hAk := RowsAt.below hA hbw
          obtain ⟨b1, o1, rfl, hb1, c0, c1⟩ := GsAt.at_ hAk hlt
          have hgd := gd_eq hlt
          have hsz := HOK.out k
          rw [hgd] at hsz
          have hl1 := HLZ.out n k
          obtain ⟨av, bv, hav, ra, rb⟩ := HCK.out.c n hn4
          rw [valN_at] at ra rb
          have hfr := HCK.out.f n
          have hla : lnK x sg n (k + 1) = gadd (lnK x sg n k) (rot (sg * n * k) (gd x k)) := rfl
          rw [hgd] at hla
          generalize x[k] = g at *
          have hkm := mul_bd (a := (k : Int)) (b := M) (M := 64) (N := 1000000) (by omega) (by omega) (by omega) (by omega)
          obtain ⟨z0, z1⟩ := mul_bd (a := sg) (b := (n : Int)) (M := 1) (N := 3) (by omega) (by omega) (by omega) (by omega)
          obtain ⟨z2, z3⟩ := mul_bd (a := sg * n) (b := (k : Int) % 4) (M := 3) (N := 3) (by omega) (by omega) (by omega) (by omega)
          obtain ⟨q, hq, hq4, hqn⟩ := cx_q (sg * n * ((k : Int) % 4))
          obtain ⟨t1, t2, -⟩ := tmod_bd (sg * n * ((k : Int) % 4)) 4 (by decide)
          have hrt : rot (sg * n * k) g = gmul g (unit q) := by
            rw [unit_mul g q hq4, ← rot_k, rot, hqn]
          rw [hrt] at hla
          have hsu : Sz M (gmul g (unit q)) := by rw [unit_mul g q hq4]; exact hsz.rotN q
          have huq := HUK.out q hq4
          obtain ⟨ru, rv⟩ := unit_rep q hq4
          have RA := rep_int g.re (by have := hsz.r0; have := hsz.r1; omega)
          have RB := rep_int g.im (by have := hsz.i0; have := hsz.i1; omega)
          have hub : (unit q).re.natAbs ≤ 1 ∧ (unit q).im.natAbs ≤ 1 := by
            have h4 : q = 0 ∨ q = 1 ∨ q = 2 ∨ q = 3 := by omega
            rcases h4 with rfl | rfl | rfl | rfl <;> exact ⟨by decide, by decide⟩
          have hmm : ∀ a b : Int, -M ≤ a → a ≤ M → b.natAbs ≤ 1 → (a * b).natAbs < 9007199254740992 := fun a b h1 h2 h3 => by
            have := mul_bd (a := a) (b := b) (M := M) (N := 1) h1 h2 (by omega) (by omega)
            omega
          obtain ⟨re, im, hmul, r1, r2⟩ := Rep.cmul RA RB ru rv (hmm _ _ hsz.r0 hsz.r1 hub.1) (hmm _ _ hsz.i0 hsz.i1 hub.2) (hmm _ _ hsz.r0 hsz.r1 hub.2) (hmm _ _ hsz.i0 hsz.i1 hub.1) (by have h1 : -M ≤ g.re * (unit q).re - g.im * (unit q).im := hsu.r0; have h2 : g.re * (unit q).re - g.im * (unit q).im ≤ M := hsu.r1; omega) (by have h1 : -M ≤ g.re * (unit q).im + g.im * (unit q).re := hsu.i0; have h2 : g.re * (unit q).im + g.im * (unit q).re ≤ M := hsu.i1; omega)
          replace r1 : Rep re (gmul g (unit q)).re := r1
          replace r2 : Rep im (gmul g (unit q)).im := r2
          obtain ⟨re2, im2, hsum, y1, y2⟩ := Rep.csum ra rb r1 r2 (by have := hl1.r0; have := hl1.r1; have := hsu.r0; have := hsu.r1; omega) (by have := hl1.i0; have := hl1.i1; have := hsu.i0; have := hsu.i1; omega)
          have hmr : ∀ W, (binOp .mul 76 (.complex .f64 (floatOfInt .f64 g.re) (floatOfInt .f64 g.im)) (.complex .f64 (unitB q).1 (unitB q).2)).run Tryd.prog W = .ok (.complex .f64 re im) W := fun W => run_complex_mul W _ _ _ _ _ _ _ hmul
          have hsr : ∀ W, (binOp .add 76 (.complex .f64 av bv) (.complex .f64 re im)).run Tryd.prog W = .ok (.complex .f64 re2 im2) W := fun W => run_complex_sum W .add (Or.inl rfl) _ _ _ _ _ _ _ _ hsum
          have hy : Rep re2 (lnK x sg n (k + 1)).re ∧ Rep im2 (lnK x sg n (k + 1)).im := by rw [hla]; exact ⟨y1, y2⟩
          have HY := Lib.hid hy
          have hk1 : (k : Int) < (x.length : Int) := by omega
          clear hla hrt hsu ru rv RA RB hub hmm hmul r1 r2 hsum y1 y2 hy ra rb hl1 hsz hgd hqn hkm HUK HUT HLZ
          go_upto_region 9 with (fail)
          have hb4 : Below v.heap.size v (v.alloc (.cells #[.int .i64 g.re, .int .i64 g.im] 30)) := below_alloc _ (Nat.le_refl _) (Below.refl _ _)
          have t0 : (v.alloc (.cells #[.int .i64 g.re, .int .i64 g.im] 30)).cell? ⟨v.heap.size, 0, none⟩ = some (.int .i64 g.re) := cell_new (by simp) rfl
          have t1 : (v.alloc (.cells #[.int .i64 g.re, .int .i64 g.im] 30)).cell? ⟨v.heap.size, 1, none⟩ = some (.int .i64 g.im) := cell_new (by simp) rfl
          have zt : v.heap.size < (v.alloc (.cells #[.int .i64 g.re, .int .i64 g.im] 30)).heap.size := World.block_lt_of_cell? _ _ t0
          generalize (v.alloc (.cells #[.int .i64 g.re, .int .i64 g.im] 30)) = w4 at *
          replace huq := cell_below' hb4 huq
          replace hav := cell_below' hb4 hav
          replace hfr := frozen_below hb4 zk hfr
          have zk4 := Nat.lt_of_lt_of_le zk hb4.size
          have zu4 : w.heap.size + 1 < w4.heap.size := by omega
          have hn3 : (0 : Int) ≤ (n : Int) := by omega
          (refine region_extx 23 (by kernel_rfl) (by kernel_rfl) fun hx => ?_; simp only [List.take_succ_cons, List.take_zero, List.drop_succ_cons, List.drop_zero]; (repeat (any_goals (first | go_big_quiet_step (fail) | quiet_step (fail)))))
          (refine wpQuiet_nil ?_; clear hx; intro u; have hbw5 := ext_bel _ u; have hxw5 := ext_cell _ u; generalize ext _ u = w5 at *; clear u; have hsw5 := hbw5.size; (try simp at hsw5))
          replace hav := cell_below' hbw5 hav
          replace hfr := frozen_below hbw5 zk4 hfr
          have hb45 : Below v.heap.size v w5 := hb4.trans (hbw5.mono hb4.size)
          have hc5 := HCK.out.below hb45
          have HC5 := Lib.hid hc5
          have hbk5 : Below (w.heap.size + 1 + 1) w0 w5 := hbk.trans (hb45.mono (by omega))
          clear hxw5 hsw5 hbw5 hb4 hc5 hb45
          go_wp2_with (fail)
          refine ⟨⟨k + 1, by omega, by go_num, HC5.out.set (q := valN x sg n (k + 1)) hn4 (by rw [valN_at]; exact HY.out.1) (by rw [valN_at]; exact HY.out.2) (fun j hj => valN_other x sg n k (k + 1) j hj), below_set _ (Nat.le_refl _) hbk5⟩, by simp [intOf]; omega⟩
        · obtain rfl : k = x.length := by omega
          have hc := HCK.out
          rw [valN_next] at hc
          have HC9 := Lib.hid hc
          clear hc HCK HUK
          go_wp2_with (fail)
          exact ⟨⟨n + 1, by omega, by go_num, HC9.out, hbk⟩, by simp [intOf]; omega⟩
    · obtain rfl : n = 4 := by omega
      obtain ⟨a0, b0, v0, q0, q0'⟩ := HC.out.c 0 (by decide)
      obtain ⟨a1, b1, v1, q1, q1'⟩ := HC.out.c 1 (by decide)
      obtain ⟨a2, b2, v2, q2, q2'⟩ := HC.out.c 2 (by decide)
      obtain ⟨a3, b3, v3, q3, q3'⟩ := HC.out.c 3 (by decide)
      rw [valN_end _ _ _ (by decide)] at q0 q0' q1 q1' q2 q2' q3 q3'
      have HR := Lib.hid (show (Rep a0 (lnK x sg (0 : Nat) x.length).re ∧ Rep b0 (lnK x sg (0 : Nat) x.length).im) ∧ (Rep a1 (lnK x sg (1 : Nat) x.length).re ∧ Rep b1 (lnK x sg (1 : Nat) x.length).im) ∧ (Rep a2 (lnK x sg (2 : Nat) x.length).re ∧ Rep b2 (lnK x sg (2 : Nat) x.length).im) ∧ (Rep a3 (lnK x sg (3 : Nat) x.length).re ∧ Rep b3 (lnK x sg (3 : Nat) x.length).im) from ⟨⟨q0, q0'⟩, ⟨q1, q1'⟩, ⟨q2, q2'⟩, q3, q3'⟩)
      have hbw : Below w.heap.size w wo := hb0.trans (hbr.mono (by omega))
      have zz : w.heap.size + 1 + 1 < wo.heap.size := HC.out.z
      replace r0 := cell_below hbr r0 (show w.heap.size < w.heap.size + 1 + 1 by omega)
      replace r1 := cell_below hbr r1 (show w.heap.size < w.heap.size + 1 + 1 by omega)
      replace r2 := cell_below hbr r2 (show w.heap.size < w.heap.size + 1 + 1 by omega)
      replace r3 := cell_below hbr r3 (show w.heap.size < w.heap.size + 1 + 1 by omega)
      replace rf0 := frozen_below hbr (show w.heap.size < w.heap.size + 1 + 1 by omega) rf0
      replace rf1 := frozen_below hbr (show w.heap.size < w.heap.size + 1 + 1 by omega) rf1
      replace rf2 := frozen_below hbr (show w.heap.size < w.heap.size + 1 + 1 by omega) rf2
      replace rf3 := frozen_below hbr (show w.heap.size < w.heap.size + 1 + 1 by omega) rf3
      replace zr : w.heap.size < wo.heap.size := by omega
      clear HC hbr q0 q0' q1 q1' q2 q2' q3 q3' HUT HLZ
      go_wp2_with (fail)
      obtain ⟨s0, s1, s2, s3⟩ := set4 (v0 := .complex .f64 a0 b0) (v1 := .complex .f64 a1 b1) (v2 := .complex .f64 a2 b2) (v3 := .complex .f64 a3 b3) r0 r1 r2 r3
      refine bodyPost_ret (v := .agg #[.complex .f64 a0 b0, .complex .f64 a1 b1, .complex .f64 a2 b2, .complex .f64 a3 b3]) (by simp [results, Tryd.results30, go_sem, s0, s1, s2, s3]) rfl ?_
      obtain ⟨k0, k1, k2, k3⟩ := HR.out
      exact ⟨a0, b0, a1, b1, a2, b2, a3, b3, rfl, k0, k1, k2, k3, below_set _ (Nat.le_refl _) (below_set _ (Nat.le_refl _) (below_set _ (Nat.le_refl _) (below_set _ (Nat.le_refl _) hbw)))⟩
end Go.Proofs.YtlnbbioponmcfaaDoor
