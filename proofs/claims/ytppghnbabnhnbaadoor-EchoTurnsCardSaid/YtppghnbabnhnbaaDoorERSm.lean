/-
  Chapter 2: the references of sums, and of the Doppler line.
-/
import Derived.Test.YtppghnbabnhnbaaDoorESms
namespace Go.Proofs.YtppghnbabnhnbaaDoor
open Go.ChangeShapes Go.WideShapes Go.ChangeAt Go.RowKit
set_option linter.unusedVariables false
set_option linter.unusedSimpArgs false

theorem hx_of {O : Nat} {h : Nat → Gs} {w : World} (h0 : w.heap[O]? = some (.cells #[.int .i64 (h 0).re, .int .i64 (h 0).im, .int .i64 (h 1).re, .int .i64 (h 1).im, .int .i64 (h 2).re, .int .i64 (h 2).im, .int .i64 (h 3).re, .int .i64 (h 3).im] 73)) : GxAt O h w :=
  gx_of (blk_cell h0 rfl) (blk_cell h0 rfl) (blk_cell h0 rfl) (blk_cell h0 rfl) (blk_cell h0 rfl) (blk_cell h0 rfl) (blk_cell h0 rfl) (blk_cell h0 rfl) (fun j => blk_frozen h0)
theorem rot_nat (q k : Nat) (g : Gs) : rot (1 * (q : Int) * (k : Int)) g = rotN (k * q % 4) g := by
  unfold rot
  have e : (1 * (q : Int) * (k : Int)) % 4 = ((k * q % 4 : Nat) : Int) := by
    rw [Int.one_mul, ← Int.natCast_mul, Nat.mul_comm]; rfl
  rw [e, Int.toNat_natCast]
theorem cutS_other (h : Nat → Gs) (m j : Nat) (hj : j ≠ m) : cutS h (m + 1) j = cutS h m j := by
  unfold cutS
  by_cases k : j < m
  · rw [if_pos (by omega), if_pos k]
  · rw [if_neg (by omega), if_neg k]
theorem cutS_at (h : Nat → Gs) (m : Nat) : cutS h (m + 1) m = gover (sV h m) 4 := if_pos (by omega)
set_option maxRecDepth 100000 in
set_option maxHeartbeats 16000000 in
theorem RSums_any (h : Nat → Gs) (w : World) :
    Calls Tryd.prog 57 #[gv4 h] w fun e w' => e = .returned (.tuple #[gv4 (smsV h), .int .i64 (smsE h)]) ∧ Below w.heap.size w w' := by
  have HB : Hid (∀ q, q < 4 → prtB 1000000 (h q) = false → smsE h = 2 ∧ gv4 (smsV h) = .agg #[.int .i64 0, .int .i64 0, .int .i64 0, .int .i64 0, .int .i64 0, .int .i64 0, .int .i64 0, .int .i64 0]) := Lib.hid fun q hq hd => by
    obtain ⟨a, b⟩ := sms_2 (sOk_not hq hd)
    exact ⟨a, by simp only [gv4, b]; rfl⟩
  have HF : Hid (sOk h = true → ∀ q, q < 4 → dB (sV h q) = false → smsE h = 3 ∧ gv4 (smsV h) = .agg #[.int .i64 0, .int .i64 0, .int .i64 0, .int .i64 0, .int .i64 0, .int .i64 0, .int .i64 0, .int .i64 0]) := Lib.hid fun hok q hq hd => by
    obtain ⟨a, b⟩ := sms_3 hok (sDv_not hq hd)
    exact ⟨a, by simp only [gv4, b]; rfl⟩
  have HG : Hid (sOk h = true → (∀ q, q < 4 → dB (sV h q) = true) → smsE h = 0 ∧ gv4 (smsV h) = gv4 (cutS h 4)) := Lib.hid fun hok k => by
    obtain ⟨a, b⟩ := sms_0 hok (sDv_of k)
    exact ⟨a, by simp only [gv4, b]; rfl⟩
  have HSZ := Lib.hid (fun hok q => @sV_sz h hok q)
  have HPB : Hid (∀ g : Gs, prtB 1000000 g = (withinB g.re (-1000000) 1000000 && withinB g.im (-1000000) 1000000)) := Lib.hid fun g => rfl
  go_enter Tryd.func57, Tryd.ntmps57
  go_upto_region 1 with (fail)
  have hb0 : Below w.heap.size w ((w.alloc (.cells #[.int .i64 (h 0).re, .int .i64 (h 0).im, .int .i64 (h 1).re, .int .i64 (h 1).im, .int .i64 (h 2).re, .int .i64 (h 2).im, .int .i64 (h 3).re, .int .i64 (h 3).im] 73)).alloc (.cells #[.int .i64 0, .int .i64 0, .int .i64 0, .int .i64 0, .int .i64 0, .int .i64 0, .int .i64 0, .int .i64 0] 73)) := below_alloc _ (Nat.le_refl _) (below_alloc _ (Nat.le_refl _) (Below.refl _ _))
  have a0 : ((w.alloc (.cells #[.int .i64 (h 0).re, .int .i64 (h 0).im, .int .i64 (h 1).re, .int .i64 (h 1).im, .int .i64 (h 2).re, .int .i64 (h 2).im, .int .i64 (h 3).re, .int .i64 (h 3).im] 73)).alloc (.cells #[.int .i64 0, .int .i64 0, .int .i64 0, .int .i64 0, .int .i64 0, .int .i64 0, .int .i64 0, .int .i64 0] 73)).cell? ⟨w.heap.size, 0, none⟩ = some (.int .i64 (h 0).re) := cell_alloc _ (cell_new (by simp) rfl)
  have a1 : ((w.alloc (.cells #[.int .i64 (h 0).re, .int .i64 (h 0).im, .int .i64 (h 1).re, .int .i64 (h 1).im, .int .i64 (h 2).re, .int .i64 (h 2).im, .int .i64 (h 3).re, .int .i64 (h 3).im] 73)).alloc (.cells #[.int .i64 0, .int .i64 0, .int .i64 0, .int .i64 0, .int .i64 0, .int .i64 0, .int .i64 0, .int .i64 0] 73)).cell? ⟨w.heap.size, 1, none⟩ = some (.int .i64 (h 0).im) := cell_alloc _ (cell_new (by simp) rfl)
  have a2 : ((w.alloc (.cells #[.int .i64 (h 0).re, .int .i64 (h 0).im, .int .i64 (h 1).re, .int .i64 (h 1).im, .int .i64 (h 2).re, .int .i64 (h 2).im, .int .i64 (h 3).re, .int .i64 (h 3).im] 73)).alloc (.cells #[.int .i64 0, .int .i64 0, .int .i64 0, .int .i64 0, .int .i64 0, .int .i64 0, .int .i64 0, .int .i64 0] 73)).cell? ⟨w.heap.size, 2, none⟩ = some (.int .i64 (h 1).re) := cell_alloc _ (cell_new (by simp) rfl)
  have a3 : ((w.alloc (.cells #[.int .i64 (h 0).re, .int .i64 (h 0).im, .int .i64 (h 1).re, .int .i64 (h 1).im, .int .i64 (h 2).re, .int .i64 (h 2).im, .int .i64 (h 3).re, .int .i64 (h 3).im] 73)).alloc (.cells #[.int .i64 0, .int .i64 0, .int .i64 0, .int .i64 0, .int .i64 0, .int .i64 0, .int .i64 0, .int .i64 0] 73)).cell? ⟨w.heap.size, 3, none⟩ = some (.int .i64 (h 1).im) := cell_alloc _ (cell_new (by simp) rfl)
  have a4 : ((w.alloc (.cells #[.int .i64 (h 0).re, .int .i64 (h 0).im, .int .i64 (h 1).re, .int .i64 (h 1).im, .int .i64 (h 2).re, .int .i64 (h 2).im, .int .i64 (h 3).re, .int .i64 (h 3).im] 73)).alloc (.cells #[.int .i64 0, .int .i64 0, .int .i64 0, .int .i64 0, .int .i64 0, .int .i64 0, .int .i64 0, .int .i64 0] 73)).cell? ⟨w.heap.size, 4, none⟩ = some (.int .i64 (h 2).re) := cell_alloc _ (cell_new (by simp) rfl)
  have a5 : ((w.alloc (.cells #[.int .i64 (h 0).re, .int .i64 (h 0).im, .int .i64 (h 1).re, .int .i64 (h 1).im, .int .i64 (h 2).re, .int .i64 (h 2).im, .int .i64 (h 3).re, .int .i64 (h 3).im] 73)).alloc (.cells #[.int .i64 0, .int .i64 0, .int .i64 0, .int .i64 0, .int .i64 0, .int .i64 0, .int .i64 0, .int .i64 0] 73)).cell? ⟨w.heap.size, 5, none⟩ = some (.int .i64 (h 2).im) := cell_alloc _ (cell_new (by simp) rfl)
  have a6 : ((w.alloc (.cells #[.int .i64 (h 0).re, .int .i64 (h 0).im, .int .i64 (h 1).re, .int .i64 (h 1).im, .int .i64 (h 2).re, .int .i64 (h 2).im, .int .i64 (h 3).re, .int .i64 (h 3).im] 73)).alloc (.cells #[.int .i64 0, .int .i64 0, .int .i64 0, .int .i64 0, .int .i64 0, .int .i64 0, .int .i64 0, .int .i64 0] 73)).cell? ⟨w.heap.size, 6, none⟩ = some (.int .i64 (h 3).re) := cell_alloc _ (cell_new (by simp) rfl)
  have a7 : ((w.alloc (.cells #[.int .i64 (h 0).re, .int .i64 (h 0).im, .int .i64 (h 1).re, .int .i64 (h 1).im, .int .i64 (h 2).re, .int .i64 (h 2).im, .int .i64 (h 3).re, .int .i64 (h 3).im] 73)).alloc (.cells #[.int .i64 0, .int .i64 0, .int .i64 0, .int .i64 0, .int .i64 0, .int .i64 0, .int .i64 0, .int .i64 0] 73)).cell? ⟨w.heap.size, 7, none⟩ = some (.int .i64 (h 3).im) := cell_alloc _ (cell_new (by simp) rfl)
  have ak : ((w.alloc (.cells #[.int .i64 (h 0).re, .int .i64 (h 0).im, .int .i64 (h 1).re, .int .i64 (h 1).im, .int .i64 (h 2).re, .int .i64 (h 2).im, .int .i64 (h 3).re, .int .i64 (h 3).im] 73)).alloc (.cells #[.int .i64 0, .int .i64 0, .int .i64 0, .int .i64 0, .int .i64 0, .int .i64 0, .int .i64 0, .int .i64 0] 73)).heap[w.heap.size]? = some (.cells #[.int .i64 (h 0).re, .int .i64 (h 0).im, .int .i64 (h 1).re, .int .i64 (h 1).im, .int .i64 (h 2).re, .int .i64 (h 2).im, .int .i64 (h 3).re, .int .i64 (h 3).im] 73) := blk_alloc _ (blk_new (by simp))
  have za : w.heap.size < ((w.alloc (.cells #[.int .i64 (h 0).re, .int .i64 (h 0).im, .int .i64 (h 1).re, .int .i64 (h 1).im, .int .i64 (h 2).re, .int .i64 (h 2).im, .int .i64 (h 3).re, .int .i64 (h 3).im] 73)).alloc (.cells #[.int .i64 0, .int .i64 0, .int .i64 0, .int .i64 0, .int .i64 0, .int .i64 0, .int .i64 0, .int .i64 0] 73)).heap.size := World.block_lt_of_cell? _ _ a0
  have r0 : ((w.alloc (.cells #[.int .i64 (h 0).re, .int .i64 (h 0).im, .int .i64 (h 1).re, .int .i64 (h 1).im, .int .i64 (h 2).re, .int .i64 (h 2).im, .int .i64 (h 3).re, .int .i64 (h 3).im] 73)).alloc (.cells #[.int .i64 0, .int .i64 0, .int .i64 0, .int .i64 0, .int .i64 0, .int .i64 0, .int .i64 0, .int .i64 0] 73)).cell? ⟨w.heap.size + 1, 0, none⟩ = some (.int .i64 0) := cell_new (by simp) rfl
  have rf0 : ((w.alloc (.cells #[.int .i64 (h 0).re, .int .i64 (h 0).im, .int .i64 (h 1).re, .int .i64 (h 1).im, .int .i64 (h 2).re, .int .i64 (h 2).im, .int .i64 (h 3).re, .int .i64 (h 3).im] 73)).alloc (.cells #[.int .i64 0, .int .i64 0, .int .i64 0, .int .i64 0, .int .i64 0, .int .i64 0, .int .i64 0, .int .i64 0] 73)).frozen? ⟨w.heap.size + 1, 0, none⟩ = false := frozen_new (by simp)
  have r1 : ((w.alloc (.cells #[.int .i64 (h 0).re, .int .i64 (h 0).im, .int .i64 (h 1).re, .int .i64 (h 1).im, .int .i64 (h 2).re, .int .i64 (h 2).im, .int .i64 (h 3).re, .int .i64 (h 3).im] 73)).alloc (.cells #[.int .i64 0, .int .i64 0, .int .i64 0, .int .i64 0, .int .i64 0, .int .i64 0, .int .i64 0, .int .i64 0] 73)).cell? ⟨w.heap.size + 1, 1, none⟩ = some (.int .i64 0) := cell_new (by simp) rfl
  have rf1 : ((w.alloc (.cells #[.int .i64 (h 0).re, .int .i64 (h 0).im, .int .i64 (h 1).re, .int .i64 (h 1).im, .int .i64 (h 2).re, .int .i64 (h 2).im, .int .i64 (h 3).re, .int .i64 (h 3).im] 73)).alloc (.cells #[.int .i64 0, .int .i64 0, .int .i64 0, .int .i64 0, .int .i64 0, .int .i64 0, .int .i64 0, .int .i64 0] 73)).frozen? ⟨w.heap.size + 1, 1, none⟩ = false := frozen_new (by simp)
  have r2 : ((w.alloc (.cells #[.int .i64 (h 0).re, .int .i64 (h 0).im, .int .i64 (h 1).re, .int .i64 (h 1).im, .int .i64 (h 2).re, .int .i64 (h 2).im, .int .i64 (h 3).re, .int .i64 (h 3).im] 73)).alloc (.cells #[.int .i64 0, .int .i64 0, .int .i64 0, .int .i64 0, .int .i64 0, .int .i64 0, .int .i64 0, .int .i64 0] 73)).cell? ⟨w.heap.size + 1, 2, none⟩ = some (.int .i64 0) := cell_new (by simp) rfl
  have rf2 : ((w.alloc (.cells #[.int .i64 (h 0).re, .int .i64 (h 0).im, .int .i64 (h 1).re, .int .i64 (h 1).im, .int .i64 (h 2).re, .int .i64 (h 2).im, .int .i64 (h 3).re, .int .i64 (h 3).im] 73)).alloc (.cells #[.int .i64 0, .int .i64 0, .int .i64 0, .int .i64 0, .int .i64 0, .int .i64 0, .int .i64 0, .int .i64 0] 73)).frozen? ⟨w.heap.size + 1, 2, none⟩ = false := frozen_new (by simp)
  have r3 : ((w.alloc (.cells #[.int .i64 (h 0).re, .int .i64 (h 0).im, .int .i64 (h 1).re, .int .i64 (h 1).im, .int .i64 (h 2).re, .int .i64 (h 2).im, .int .i64 (h 3).re, .int .i64 (h 3).im] 73)).alloc (.cells #[.int .i64 0, .int .i64 0, .int .i64 0, .int .i64 0, .int .i64 0, .int .i64 0, .int .i64 0, .int .i64 0] 73)).cell? ⟨w.heap.size + 1, 3, none⟩ = some (.int .i64 0) := cell_new (by simp) rfl
  have rf3 : ((w.alloc (.cells #[.int .i64 (h 0).re, .int .i64 (h 0).im, .int .i64 (h 1).re, .int .i64 (h 1).im, .int .i64 (h 2).re, .int .i64 (h 2).im, .int .i64 (h 3).re, .int .i64 (h 3).im] 73)).alloc (.cells #[.int .i64 0, .int .i64 0, .int .i64 0, .int .i64 0, .int .i64 0, .int .i64 0, .int .i64 0, .int .i64 0] 73)).frozen? ⟨w.heap.size + 1, 3, none⟩ = false := frozen_new (by simp)
  have r4 : ((w.alloc (.cells #[.int .i64 (h 0).re, .int .i64 (h 0).im, .int .i64 (h 1).re, .int .i64 (h 1).im, .int .i64 (h 2).re, .int .i64 (h 2).im, .int .i64 (h 3).re, .int .i64 (h 3).im] 73)).alloc (.cells #[.int .i64 0, .int .i64 0, .int .i64 0, .int .i64 0, .int .i64 0, .int .i64 0, .int .i64 0, .int .i64 0] 73)).cell? ⟨w.heap.size + 1, 4, none⟩ = some (.int .i64 0) := cell_new (by simp) rfl
  have rf4 : ((w.alloc (.cells #[.int .i64 (h 0).re, .int .i64 (h 0).im, .int .i64 (h 1).re, .int .i64 (h 1).im, .int .i64 (h 2).re, .int .i64 (h 2).im, .int .i64 (h 3).re, .int .i64 (h 3).im] 73)).alloc (.cells #[.int .i64 0, .int .i64 0, .int .i64 0, .int .i64 0, .int .i64 0, .int .i64 0, .int .i64 0, .int .i64 0] 73)).frozen? ⟨w.heap.size + 1, 4, none⟩ = false := frozen_new (by simp)
  have r5 : ((w.alloc (.cells #[.int .i64 (h 0).re, .int .i64 (h 0).im, .int .i64 (h 1).re, .int .i64 (h 1).im, .int .i64 (h 2).re, .int .i64 (h 2).im, .int .i64 (h 3).re, .int .i64 (h 3).im] 73)).alloc (.cells #[.int .i64 0, .int .i64 0, .int .i64 0, .int .i64 0, .int .i64 0, .int .i64 0, .int .i64 0, .int .i64 0] 73)).cell? ⟨w.heap.size + 1, 5, none⟩ = some (.int .i64 0) := cell_new (by simp) rfl
  have rf5 : ((w.alloc (.cells #[.int .i64 (h 0).re, .int .i64 (h 0).im, .int .i64 (h 1).re, .int .i64 (h 1).im, .int .i64 (h 2).re, .int .i64 (h 2).im, .int .i64 (h 3).re, .int .i64 (h 3).im] 73)).alloc (.cells #[.int .i64 0, .int .i64 0, .int .i64 0, .int .i64 0, .int .i64 0, .int .i64 0, .int .i64 0, .int .i64 0] 73)).frozen? ⟨w.heap.size + 1, 5, none⟩ = false := frozen_new (by simp)
  have r6 : ((w.alloc (.cells #[.int .i64 (h 0).re, .int .i64 (h 0).im, .int .i64 (h 1).re, .int .i64 (h 1).im, .int .i64 (h 2).re, .int .i64 (h 2).im, .int .i64 (h 3).re, .int .i64 (h 3).im] 73)).alloc (.cells #[.int .i64 0, .int .i64 0, .int .i64 0, .int .i64 0, .int .i64 0, .int .i64 0, .int .i64 0, .int .i64 0] 73)).cell? ⟨w.heap.size + 1, 6, none⟩ = some (.int .i64 0) := cell_new (by simp) rfl
  have rf6 : ((w.alloc (.cells #[.int .i64 (h 0).re, .int .i64 (h 0).im, .int .i64 (h 1).re, .int .i64 (h 1).im, .int .i64 (h 2).re, .int .i64 (h 2).im, .int .i64 (h 3).re, .int .i64 (h 3).im] 73)).alloc (.cells #[.int .i64 0, .int .i64 0, .int .i64 0, .int .i64 0, .int .i64 0, .int .i64 0, .int .i64 0, .int .i64 0] 73)).frozen? ⟨w.heap.size + 1, 6, none⟩ = false := frozen_new (by simp)
  have r7 : ((w.alloc (.cells #[.int .i64 (h 0).re, .int .i64 (h 0).im, .int .i64 (h 1).re, .int .i64 (h 1).im, .int .i64 (h 2).re, .int .i64 (h 2).im, .int .i64 (h 3).re, .int .i64 (h 3).im] 73)).alloc (.cells #[.int .i64 0, .int .i64 0, .int .i64 0, .int .i64 0, .int .i64 0, .int .i64 0, .int .i64 0, .int .i64 0] 73)).cell? ⟨w.heap.size + 1, 7, none⟩ = some (.int .i64 0) := cell_new (by simp) rfl
  have rf7 : ((w.alloc (.cells #[.int .i64 (h 0).re, .int .i64 (h 0).im, .int .i64 (h 1).re, .int .i64 (h 1).im, .int .i64 (h 2).re, .int .i64 (h 2).im, .int .i64 (h 3).re, .int .i64 (h 3).im] 73)).alloc (.cells #[.int .i64 0, .int .i64 0, .int .i64 0, .int .i64 0, .int .i64 0, .int .i64 0, .int .i64 0, .int .i64 0] 73)).frozen? ⟨w.heap.size + 1, 7, none⟩ = false := frozen_new (by simp)
  have zr : w.heap.size + 1 < ((w.alloc (.cells #[.int .i64 (h 0).re, .int .i64 (h 0).im, .int .i64 (h 1).re, .int .i64 (h 1).im, .int .i64 (h 2).re, .int .i64 (h 2).im, .int .i64 (h 3).re, .int .i64 (h 3).im] 73)).alloc (.cells #[.int .i64 0, .int .i64 0, .int .i64 0, .int .i64 0, .int .i64 0, .int .i64 0, .int .i64 0, .int .i64 0] 73)).heap.size := World.block_lt_of_cell? _ _ r0
  generalize ((w.alloc (.cells #[.int .i64 (h 0).re, .int .i64 (h 0).im, .int .i64 (h 1).re, .int .i64 (h 1).im, .int .i64 (h 2).re, .int .i64 (h 2).im, .int .i64 (h 3).re, .int .i64 (h 3).im] 73)).alloc (.cells #[.int .i64 0, .int .i64 0, .int .i64 0, .int .i64 0, .int .i64 0, .int .i64 0, .int .i64 0, .int .i64 0] 73)) = w0 at *
  have HHX := Lib.hid (hx_of (h := h) ak)
  clear ak a0 a1 a2 a3 a4 a5 a6 a7
  go_wp2_with (fail)
  go_loopw [4] (fun i wr => ∃ k : Nat, k ≤ 4 ∧ i = .int .i64 k ∧ (∀ q, q < k → prtB 1000000 (h q) = true) ∧ w0 = wr) (fun i _ => 4 - (intOf i).toNat)
  case atStart => exact ⟨0, Nat.zero_le _, rfl, fun q hq => absurd hq (by omega), rfl⟩
  case round =>
    obtain ⟨k, hk, rfl, hpr, hwr⟩ := hrel
    subst hwr
    have HPR := Lib.hid hpr
    clear hpr
    by_cases hlt : k < 4
    · obtain ⟨c0, c1⟩ := HHX.out.c k hlt
      have hpb := HPB.out (h k)
      have HBK := Lib.hid (HB.out k hlt)
      have W0 := Lib.hid (fun W => Within_any (h k).re (-1000000) 1000000 W)
      have W1 := Lib.hid (fun W => Within_any (h k).im (-1000000) 1000000 W)
      have hk1 : (k : Int) < 4 := by omega
      generalize withinB (h k).re (-1000000) 1000000 = b0 at *
      generalize withinB (h k).im (-1000000) 1000000 = b1 at *
      cases b0
      · obtain ⟨f1, f2⟩ := HBK.out (by rw [hpb]; rfl)
        have HF1 := Lib.hid f1
        have HF2 := Lib.hid f2
        clear f1 f2 hpb HBK HB HF HG
        go_wp2_with (fail)
        refine (W0.out _).mono ?_
        rintro e w' ⟨rfl, rfl⟩
        go_wp2_with (fail)
        obtain ⟨q0, q1, q2, q3, q4, q5, q6, q7⟩ := set8 (v0 := .int .i64 0) (v1 := .int .i64 0) (v2 := .int .i64 0) (v3 := .int .i64 0) (v4 := .int .i64 0) (v5 := .int .i64 0) (v6 := .int .i64 0) (v7 := .int .i64 0) r0 r1 r2 r3 r4 r5 r6 r7
        refine bodyPost_ret (v := .tuple #[.agg #[.int .i64 0, .int .i64 0, .int .i64 0, .int .i64 0, .int .i64 0, .int .i64 0, .int .i64 0, .int .i64 0], .int .i64 2]) (by simp [results, Tryd.results57, go_sem, q0, q1, q2, q3, q4, q5, q6, q7]) rfl ?_
        rw [HF1.out, HF2.out]
        have hle : w.heap.size ≤ w.heap.size + 1 := by omega
        exact ⟨rfl, below_set _ hle (below_set _ hle (below_set _ hle (below_set _ hle (below_set _ hle (below_set _ hle (below_set _ hle (below_set _ hle (hb0))))))))⟩
      cases b1
      · obtain ⟨f1, f2⟩ := HBK.out (by rw [hpb]; rfl)
        have HF1 := Lib.hid f1
        have HF2 := Lib.hid f2
        clear f1 f2 hpb HBK HB HF HG
        go_wp2_with (fail)
        refine (W0.out _).mono ?_
        rintro e w' ⟨rfl, rfl⟩
        go_wp2_with (fail)
        refine (W1.out _).mono ?_
        rintro e w' ⟨rfl, rfl⟩
        go_wp2_with (fail)
        obtain ⟨q0, q1, q2, q3, q4, q5, q6, q7⟩ := set8 (v0 := .int .i64 0) (v1 := .int .i64 0) (v2 := .int .i64 0) (v3 := .int .i64 0) (v4 := .int .i64 0) (v5 := .int .i64 0) (v6 := .int .i64 0) (v7 := .int .i64 0) r0 r1 r2 r3 r4 r5 r6 r7
        refine bodyPost_ret (v := .tuple #[.agg #[.int .i64 0, .int .i64 0, .int .i64 0, .int .i64 0, .int .i64 0, .int .i64 0, .int .i64 0, .int .i64 0], .int .i64 2]) (by simp [results, Tryd.results57, go_sem, q0, q1, q2, q3, q4, q5, q6, q7]) rfl ?_
        rw [HF1.out, HF2.out]
        have hle : w.heap.size ≤ w.heap.size + 1 := by omega
        exact ⟨rfl, below_set _ hle (below_set _ hle (below_set _ hle (below_set _ hle (below_set _ hle (below_set _ hle (below_set _ hle (below_set _ hle (hb0))))))))⟩
      · have HK := Lib.hid hpb
        clear hpb HBK HB HF HG
        go_wp2_with (fail)
        refine (W0.out _).mono ?_
        rintro e w' ⟨rfl, rfl⟩
        go_wp2_with (fail)
        refine (W1.out _).mono ?_
        rintro e w' ⟨rfl, rfl⟩
        go_wp2_with (fail)
        exact ⟨⟨k + 1, by omega, by go_num, fun q hq => (if hqm : q = k then (by rw [hqm, HK.out]; rfl) else HPR.out q (by omega)), (by first | rfl | trivial)⟩, by simp [intOf]; omega⟩
    · obtain rfl : k = 4 := by omega
      have hok : sOk h = true := sOk_of HPR.out
      have HF2 := Lib.hid (HF.out hok)
      have HG2 := Lib.hid (HG.out hok)
      have HSZ2 := Lib.hid (HSZ.out hok)
      have HLZ := Lib.hid (fun (q : Int) (k : Nat) => lnK_sz (M := 1000000) (by decide) (sL_sz hok) 1 q k)
      have HHS := Lib.hid (fun (j : Nat) (hj : j < 4) => prtB_true (sOk_at hok j hj))
      have HGD := Lib.hid (gd_sL h)
      clear HPR hok HF HG HSZ HB HPB
      go_upto_region 7 with (fail)
      have hb2 : Below w0.heap.size w0 (w0.alloc (.cells #[.int .i64 0, .int .i64 0, .int .i64 0, .int .i64 0, .int .i64 0, .int .i64 0, .int .i64 0, .int .i64 0] 73)) := below_alloc _ (Nat.le_refl _) (Below.refl _ _)
      have o0 : (w0.alloc (.cells #[.int .i64 0, .int .i64 0, .int .i64 0, .int .i64 0, .int .i64 0, .int .i64 0, .int .i64 0, .int .i64 0] 73)).cell? ⟨w0.heap.size, 0, none⟩ = some (.int .i64 0) := cell_new (by simp) rfl
      have of0 : (w0.alloc (.cells #[.int .i64 0, .int .i64 0, .int .i64 0, .int .i64 0, .int .i64 0, .int .i64 0, .int .i64 0, .int .i64 0] 73)).frozen? ⟨w0.heap.size, 0, none⟩ = false := frozen_new (by simp)
      have o1 : (w0.alloc (.cells #[.int .i64 0, .int .i64 0, .int .i64 0, .int .i64 0, .int .i64 0, .int .i64 0, .int .i64 0, .int .i64 0] 73)).cell? ⟨w0.heap.size, 1, none⟩ = some (.int .i64 0) := cell_new (by simp) rfl
      have of1 : (w0.alloc (.cells #[.int .i64 0, .int .i64 0, .int .i64 0, .int .i64 0, .int .i64 0, .int .i64 0, .int .i64 0, .int .i64 0] 73)).frozen? ⟨w0.heap.size, 1, none⟩ = false := frozen_new (by simp)
      have o2 : (w0.alloc (.cells #[.int .i64 0, .int .i64 0, .int .i64 0, .int .i64 0, .int .i64 0, .int .i64 0, .int .i64 0, .int .i64 0] 73)).cell? ⟨w0.heap.size, 2, none⟩ = some (.int .i64 0) := cell_new (by simp) rfl
      have of2 : (w0.alloc (.cells #[.int .i64 0, .int .i64 0, .int .i64 0, .int .i64 0, .int .i64 0, .int .i64 0, .int .i64 0, .int .i64 0] 73)).frozen? ⟨w0.heap.size, 2, none⟩ = false := frozen_new (by simp)
      have o3 : (w0.alloc (.cells #[.int .i64 0, .int .i64 0, .int .i64 0, .int .i64 0, .int .i64 0, .int .i64 0, .int .i64 0, .int .i64 0] 73)).cell? ⟨w0.heap.size, 3, none⟩ = some (.int .i64 0) := cell_new (by simp) rfl
      have of3 : (w0.alloc (.cells #[.int .i64 0, .int .i64 0, .int .i64 0, .int .i64 0, .int .i64 0, .int .i64 0, .int .i64 0, .int .i64 0] 73)).frozen? ⟨w0.heap.size, 3, none⟩ = false := frozen_new (by simp)
      have o4 : (w0.alloc (.cells #[.int .i64 0, .int .i64 0, .int .i64 0, .int .i64 0, .int .i64 0, .int .i64 0, .int .i64 0, .int .i64 0] 73)).cell? ⟨w0.heap.size, 4, none⟩ = some (.int .i64 0) := cell_new (by simp) rfl
      have of4 : (w0.alloc (.cells #[.int .i64 0, .int .i64 0, .int .i64 0, .int .i64 0, .int .i64 0, .int .i64 0, .int .i64 0, .int .i64 0] 73)).frozen? ⟨w0.heap.size, 4, none⟩ = false := frozen_new (by simp)
      have o5 : (w0.alloc (.cells #[.int .i64 0, .int .i64 0, .int .i64 0, .int .i64 0, .int .i64 0, .int .i64 0, .int .i64 0, .int .i64 0] 73)).cell? ⟨w0.heap.size, 5, none⟩ = some (.int .i64 0) := cell_new (by simp) rfl
      have of5 : (w0.alloc (.cells #[.int .i64 0, .int .i64 0, .int .i64 0, .int .i64 0, .int .i64 0, .int .i64 0, .int .i64 0, .int .i64 0] 73)).frozen? ⟨w0.heap.size, 5, none⟩ = false := frozen_new (by simp)
      have o6 : (w0.alloc (.cells #[.int .i64 0, .int .i64 0, .int .i64 0, .int .i64 0, .int .i64 0, .int .i64 0, .int .i64 0, .int .i64 0] 73)).cell? ⟨w0.heap.size, 6, none⟩ = some (.int .i64 0) := cell_new (by simp) rfl
      have of6 : (w0.alloc (.cells #[.int .i64 0, .int .i64 0, .int .i64 0, .int .i64 0, .int .i64 0, .int .i64 0, .int .i64 0, .int .i64 0] 73)).frozen? ⟨w0.heap.size, 6, none⟩ = false := frozen_new (by simp)
      have o7 : (w0.alloc (.cells #[.int .i64 0, .int .i64 0, .int .i64 0, .int .i64 0, .int .i64 0, .int .i64 0, .int .i64 0, .int .i64 0] 73)).cell? ⟨w0.heap.size, 7, none⟩ = some (.int .i64 0) := cell_new (by simp) rfl
      have of7 : (w0.alloc (.cells #[.int .i64 0, .int .i64 0, .int .i64 0, .int .i64 0, .int .i64 0, .int .i64 0, .int .i64 0, .int .i64 0] 73)).frozen? ⟨w0.heap.size, 7, none⟩ = false := frozen_new (by simp)
      have ok : (w0.alloc (.cells #[.int .i64 0, .int .i64 0, .int .i64 0, .int .i64 0, .int .i64 0, .int .i64 0, .int .i64 0, .int .i64 0] 73)).heap[w0.heap.size]? = some (.cells #[.int .i64 0, .int .i64 0, .int .i64 0, .int .i64 0, .int .i64 0, .int .i64 0, .int .i64 0, .int .i64 0] 73) := blk_new (by simp)
      have zo : w0.heap.size < (w0.alloc (.cells #[.int .i64 0, .int .i64 0, .int .i64 0, .int .i64 0, .int .i64 0, .int .i64 0, .int .i64 0, .int .i64 0] 73)).heap.size := World.block_lt_of_cell? _ _ o0
      generalize (w0.alloc (.cells #[.int .i64 0, .int .i64 0, .int .i64 0, .int .i64 0, .int .i64 0, .int .i64 0, .int .i64 0, .int .i64 0] 73)) = w2 at *
      have HGX := Lib.hid (gx_z (h := h) ok)
      clear ok o0 o1 o2 o3 o4 o5 o6 o7 of0 of1 of2 of3 of4 of5 of6 of7
      go_wp2_with (fail)
      go_loopw [6] (fun i wr => ∃ m : Nat, m ≤ 4 ∧ i = .int .i64 m ∧ GxAt w0.heap.size (cutS h m) wr ∧ (∀ q : Nat, q < m → dB (sV h q) = true) ∧ Below w0.heap.size w0 wr) (fun i _ => 4 - (intOf i).toNat)
      case atStart => exact ⟨0, Nat.zero_le _, rfl, HGX.out, fun q hq => absurd hq (by omega), hb2⟩
      case round =>
        obtain ⟨m, hm, rfl, hgx, hdv, hbr⟩ := hrel
        obtain ⟨wo, rfl⟩ : ∃ wo : World, wo = wr := ⟨_, rfl⟩
        have HGO := Lib.hid hgx
        have HDV := Lib.hid hdv
        have zo' := hgx.z
        have HHO := Lib.hid (HHX.out.below hbr)
        have hbr' := hbr
        have h3 : Below w.heap.size w wo := (hb0).trans ((hbr).mono (hb0).size)
        replace rf0 := frozen_below hbr (World.block_lt_of_cell? _ _ r0) rf0
        replace rf1 := frozen_below hbr (World.block_lt_of_cell? _ _ r1) rf1
        replace rf2 := frozen_below hbr (World.block_lt_of_cell? _ _ r2) rf2
        replace rf3 := frozen_below hbr (World.block_lt_of_cell? _ _ r3) rf3
        replace rf4 := frozen_below hbr (World.block_lt_of_cell? _ _ r4) rf4
        replace rf5 := frozen_below hbr (World.block_lt_of_cell? _ _ r5) rf5
        replace rf6 := frozen_below hbr (World.block_lt_of_cell? _ _ r6) rf6
        replace rf7 := frozen_below hbr (World.block_lt_of_cell? _ _ r7) rf7
        replace r0 := cell_below' hbr r0
        replace r1 := cell_below' hbr r1
        replace r2 := cell_below' hbr r2
        replace r3 := cell_below' hbr r3
        replace r4 := cell_below' hbr r4
        replace r5 := cell_below' hbr r5
        replace r6 := cell_below' hbr r6
        replace r7 := cell_below' hbr r7
        replace zr := Nat.lt_of_lt_of_le zr (hbr).size
        replace za := Nat.lt_of_lt_of_le za (hbr).size
        clear hbr hb0
        clear hgx hdv HGX HHX hb2
        by_cases hlt : m < 4
        · have hm1 : (m : Int) < 4 := by omega
          go_upto_region 11 with (fail)
          have hb3 : Below wo.heap.size wo (wo.alloc (.cells #[.int .i64 0, .int .i64 0] 24)) := below_alloc _ (Nat.le_refl _) (Below.refl _ _)
          have g0 : (wo.alloc (.cells #[.int .i64 0, .int .i64 0] 24)).cell? ⟨wo.heap.size, 0, none⟩ = some (.int .i64 0) := cell_new (by simp) rfl
          have gf0 : (wo.alloc (.cells #[.int .i64 0, .int .i64 0] 24)).frozen? ⟨wo.heap.size, 0, none⟩ = false := frozen_new (by simp)
          have g1 : (wo.alloc (.cells #[.int .i64 0, .int .i64 0] 24)).cell? ⟨wo.heap.size, 1, none⟩ = some (.int .i64 0) := cell_new (by simp) rfl
          have gf1 : (wo.alloc (.cells #[.int .i64 0, .int .i64 0] 24)).frozen? ⟨wo.heap.size, 1, none⟩ = false := frozen_new (by simp)
          have zg : wo.heap.size < (wo.alloc (.cells #[.int .i64 0, .int .i64 0] 24)).heap.size := World.block_lt_of_cell? _ _ g0
          generalize (wo.alloc (.cells #[.int .i64 0, .int .i64 0] 24)) = w3 at *
          have H0 : Hid (lnK (sL h) 1 (m : Nat) 0 = ⟨0, 0⟩) := Lib.hid rfl
          go_wp2_with (fail)
          go_loopw [8] (fun i wr => ∃ k : Nat, k ≤ 4 ∧ i = .int .i64 k ∧ wr.cell? ⟨wo.heap.size, 0, none⟩ = some (.int .i64 (lnK (sL h) 1 (m : Nat) k).re) ∧ wr.cell? ⟨wo.heap.size, 1, none⟩ = some (.int .i64 (lnK (sL h) 1 (m : Nat) k).im) ∧ wr.frozen? ⟨wo.heap.size, 0, none⟩ = false ∧ wr.frozen? ⟨wo.heap.size, 1, none⟩ = false ∧ Below wo.heap.size wo wr) (fun i _ => 4 - (intOf i).toNat)
          case atStart => exact ⟨0, Nat.zero_le _, rfl, by rw [H0.out]; exact g0, by rw [H0.out]; exact g1, gf0, gf1, hb3⟩
          case round =>
            obtain ⟨k, hk, rfl, g0, g1, gf0, gf1, hbk⟩ := hrel
            obtain ⟨v, rfl⟩ : ∃ v : World, v = wr := ⟨_, rfl⟩
            have zg : wo.heap.size < v.heap.size := World.block_lt_of_cell? _ _ g0
            have hvx := HHO.out.below hbk
            have hle3 : w.heap.size ≤ wo.heap.size := h3.size
            by_cases hkl : k < 4
            · obtain ⟨c0, c1⟩ := hvx.c k hkl
              have zv := hvx.z
              have hk1 : (k : Int) < 4 := by omega
              obtain ⟨z0, z1⟩ := mul_bd (a := (k : Int)) (b := (m : Int)) (M := 3) (N := 3) (by omega) (by omega) (by omega) (by omega)
              have hsz := HHS.out k hkl
              have hkm9 : k * m ≤ 1000000 := Nat.le_trans (Nat.mul_le_mul (show k ≤ 3 by omega) (show m ≤ 3 by omega)) (by decide)
              have HT := Lib.hid (fun W => by
                have q0 := RTimesN_any (h k) (k * m) W hkm9 (hsz.mono (by decide))
                rw [Int.natCast_mul] at q0
                exact q0)
              have hst : lnK (sL h) 1 (m : Nat) (k + 1) = gadd (lnK (sL h) 1 (m : Nat) k) (rot (1 * ((m : Nat) : Int) * k) (gd (sL h) k)) := rfl
              rw [HGD.out k hkl, rot_nat] at hst
              have hl1 := (HLZ.out (m : Int) k).mono (show (k : Int) * 1000000 ≤ 4000000 by omega)
              have HA := Lib.hid (fun W => GAdd_any (lnK (sL h) 1 (m : Nat) k) (rotN (k * m % 4) (h k)) W (hl1.mono (by decide)) ((hsz.rotN _).mono (by decide)))
              rw [← hst] at HA
              obtain ⟨q, hlq⟩ : ∃ q, q = lnK (sL h) 1 (m : Nat) (k + 1) := ⟨_, rfl⟩
              rw [← hlq] at HA
              have HLQ := Lib.hid hlq.symm
              clear hst hlq hl1 hsz hkm9 hvx
              generalize lnK (sL h) 1 (m : Nat) k = p at *
              generalize rotN (k * m % 4) (h k) = t at *
              generalize h k = hk' at *
              obtain ⟨p0, p1⟩ := p
              obtain ⟨t0, t1⟩ := t
              obtain ⟨y0, y1⟩ := hk'
              obtain ⟨u0, u1⟩ := q
              simp only [gv] at *
              go_upto_region 14 with (fail)
              (refine region_extx 9 (by kernel_rfl) (by kernel_rfl) fun hx => ?_; simp only [List.take_succ_cons, List.take_zero, List.drop_succ_cons, List.drop_zero]; (repeat (any_goals (first | go_big_quiet_step ((first | ((go_at_call 47; with_reducible exact ext_call (HT.out _))) | ((go_at_call 46; with_reducible exact ext_call (HA.out _))))) | quiet_step ((first | ((go_at_call 47; with_reducible exact ext_call (HT.out _))) | ((go_at_call 46; with_reducible exact ext_call (HA.out _)))))))))
              (refine wpQuiet_nil ?_; clear hx; intro u; have hbw5 := ext_bel _ u; have hxw5 := ext_cell _ u; generalize ext _ u = w5 at *; clear u; have hsw5 := hbw5.size; (try simp at hsw5))
              have hbk5 : Below wo.heap.size wo w5 := (hbk).trans ((hbw5).mono (hbk).size)
              replace gf0 := frozen_below hbw5 (World.block_lt_of_cell? _ _ g0) gf0
              replace gf1 := frozen_below hbw5 (World.block_lt_of_cell? _ _ g1) gf1
              replace g0 := cell_below' hbw5 g0
              replace g1 := cell_below' hbw5 g1
              replace zg := Nat.lt_of_lt_of_le zg (hbw5).size
              clear hbw5 hbk
              clear hxw5 hsw5 HT HA c0 c1
              go_upto_region 13 with (fail)
              have hbk6 : Below wo.heap.size wo ((w5.setCell ⟨wo.heap.size, 0, none⟩ (.int .i64 u0)).setCell ⟨wo.heap.size, 1, none⟩ (.int .i64 u1)) := below_set _ (by simp; try omega) (below_set _ (by simp; try omega) (hbk5))
              replace g0 : ((w5.setCell ⟨wo.heap.size, 0, none⟩ (.int .i64 u0)).setCell ⟨wo.heap.size, 1, none⟩ (.int .i64 u1)).cell? ⟨wo.heap.size, 0, none⟩ = some (.int .i64 u0) := cell_next (by decide) (cell_same (g0))
              replace g1 : ((w5.setCell ⟨wo.heap.size, 0, none⟩ (.int .i64 u0)).setCell ⟨wo.heap.size, 1, none⟩ (.int .i64 u1)).cell? ⟨wo.heap.size, 1, none⟩ = some (.int .i64 u1) := cell_same (cell_next (by decide) (g1))
              replace gf0 := (show World.frozen? ((w5.setCell ⟨wo.heap.size, 0, none⟩ (.int .i64 u0)).setCell ⟨wo.heap.size, 1, none⟩ (.int .i64 u1)) ⟨wo.heap.size, 0, none⟩ = false from frozen_set _ _ (frozen_set _ _ (gf0)))
              replace gf1 := (show World.frozen? ((w5.setCell ⟨wo.heap.size, 0, none⟩ (.int .i64 u0)).setCell ⟨wo.heap.size, 1, none⟩ (.int .i64 u1)) ⟨wo.heap.size, 1, none⟩ = false from frozen_set _ _ (frozen_set _ _ (gf1)))
              have hszQ : ((w5.setCell ⟨wo.heap.size, 0, none⟩ (.int .i64 u0)).setCell ⟨wo.heap.size, 1, none⟩ (.int .i64 u1)).heap.size = w5.heap.size := by simp
              replace zg : wo.heap.size < ((w5.setCell ⟨wo.heap.size, 0, none⟩ (.int .i64 u0)).setCell ⟨wo.heap.size, 1, none⟩ (.int .i64 u1)).heap.size := by rw [hszQ]; exact zg
              clear hszQ hbk5
              generalize ((w5.setCell ⟨wo.heap.size, 0, none⟩ (.int .i64 u0)).setCell ⟨wo.heap.size, 1, none⟩ (.int .i64 u1)) = w6 at *
              go_wp2_with (fail)
              exact ⟨⟨k + 1, by omega, by go_num, by rw [HLQ.out]; exact g0, by rw [HLQ.out]; exact g1, gf0, gf1, hbk6⟩, by simp [intOf]; omega⟩
            · obtain rfl : k = 4 := by omega
              have hsv : lnK (sL h) 1 (m : Nat) 4 = sV h m := rfl
              rw [hsv] at g0 g1
              have hdb : dB (sV h m) = ((sV h m).re.tmod 4 == 0 && (sV h m).im.tmod 4 == 0) := rfl
              have HFQ := Lib.hid (HF2.out m hlt)
              have hgo : gover (sV h m) 4 = ⟨(sV h m).re.tdiv 4, (sV h m).im.tdiv 4⟩ := rfl
              have HGV := Lib.hid hgo
              have t1 := tmod_bd (sV h m).re 4 (by decide)
              have t2 := tmod_bd (sV h m).im 4 (by decide)
              have hss := HSZ2.out m
              have s0 := hss.r0
              have s1 := hss.r1
              have s2 := hss.i0
              have s3 := hss.i1
              obtain ⟨u1, u2⟩ := tdiv_bd (sV h m).re 4 _ (by decide) s0 s1
              obtain ⟨u3, u4⟩ := tdiv_bd (sV h m).im 4 _ (by decide) s2 s3
              have hbk' := hbk
              have h4 : Below w.heap.size w v := (h3).trans ((hbk).mono (h3).size)
              replace rf0 := frozen_below hbk (World.block_lt_of_cell? _ _ r0) rf0
              replace rf1 := frozen_below hbk (World.block_lt_of_cell? _ _ r1) rf1
              replace rf2 := frozen_below hbk (World.block_lt_of_cell? _ _ r2) rf2
              replace rf3 := frozen_below hbk (World.block_lt_of_cell? _ _ r3) rf3
              replace rf4 := frozen_below hbk (World.block_lt_of_cell? _ _ r4) rf4
              replace rf5 := frozen_below hbk (World.block_lt_of_cell? _ _ r5) rf5
              replace rf6 := frozen_below hbk (World.block_lt_of_cell? _ _ r6) rf6
              replace rf7 := frozen_below hbk (World.block_lt_of_cell? _ _ r7) rf7
              replace r0 := cell_below' hbk r0
              replace r1 := cell_below' hbk r1
              replace r2 := cell_below' hbk r2
              replace r3 := cell_below' hbk r3
              replace r4 := cell_below' hbk r4
              replace r5 := cell_below' hbk r5
              replace r6 := cell_below' hbk r6
              replace r7 := cell_below' hbk r7
              replace zr := Nat.lt_of_lt_of_le zr (hbk).size
              replace za := Nat.lt_of_lt_of_le za (hbk).size
              clear hbk h3
              have HGK := Lib.hid (HGO.out.below hbk')
              have zo5 := HGK.out.z
              have hbr5 : Below w0.heap.size w0 v := hbr'.trans (hbk'.mono hbr'.size)
              clear hsv hss hgo HHO HHS HLZ HGD hvx hbk'
              by_cases c1 : (sV h m).re.tmod 4 = 0
              rotate_left 1
              · have e1 : ((sV h m).re.tmod 4 != 0) = true := by simpa using c1
                have hf : dB (sV h m) = false := by rw [hdb]; simp [c1]
                obtain ⟨f1, f2⟩ := HFQ.out hf
                have HF3 := Lib.hid f1
                have HF4 := Lib.hid f2
                clear c1 hf f1 f2 HFQ hdb HG2 t1 t2 HF2
                go_wp2_with (fail)
                obtain ⟨q0, q1, q2, q3, q4, q5, q6, q7⟩ := set8 (v0 := .int .i64 0) (v1 := .int .i64 0) (v2 := .int .i64 0) (v3 := .int .i64 0) (v4 := .int .i64 0) (v5 := .int .i64 0) (v6 := .int .i64 0) (v7 := .int .i64 0) r0 r1 r2 r3 r4 r5 r6 r7
                refine bodyPost_ret (v := .tuple #[.agg #[.int .i64 0, .int .i64 0, .int .i64 0, .int .i64 0, .int .i64 0, .int .i64 0, .int .i64 0, .int .i64 0], .int .i64 3]) (by simp [results, Tryd.results57, go_sem, q0, q1, q2, q3, q4, q5, q6, q7]) rfl ?_
                rw [HF3.out, HF4.out]
                have hle : w.heap.size ≤ w.heap.size + 1 := by omega
                exact ⟨rfl, below_set _ hle (below_set _ hle (below_set _ hle (below_set _ hle (below_set _ hle (below_set _ hle (below_set _ hle (below_set _ hle (h4))))))))⟩
              · have e1 : ((sV h m).re.tmod 4 != 0) = false := by simpa using c1
                by_cases c2 : (sV h m).im.tmod 4 = 0
                rotate_left 1
                · have e2 : ((sV h m).im.tmod 4 != 0) = true := by simpa using c2
                  have hf : dB (sV h m) = false := by rw [hdb]; simp [c2]
                  obtain ⟨f1, f2⟩ := HFQ.out hf
                  have HF3 := Lib.hid f1
                  have HF4 := Lib.hid f2
                  clear c1 c2 hf f1 f2 HFQ hdb HG2 t1 t2 HF2
                  go_wp2_with (fail)
                  obtain ⟨q0, q1, q2, q3, q4, q5, q6, q7⟩ := set8 (v0 := .int .i64 0) (v1 := .int .i64 0) (v2 := .int .i64 0) (v3 := .int .i64 0) (v4 := .int .i64 0) (v5 := .int .i64 0) (v6 := .int .i64 0) (v7 := .int .i64 0) r0 r1 r2 r3 r4 r5 r6 r7
                  refine bodyPost_ret (v := .tuple #[.agg #[.int .i64 0, .int .i64 0, .int .i64 0, .int .i64 0, .int .i64 0, .int .i64 0, .int .i64 0, .int .i64 0], .int .i64 3]) (by simp [results, Tryd.results57, go_sem, q0, q1, q2, q3, q4, q5, q6, q7]) rfl ?_
                  rw [HF3.out, HF4.out]
                  have hle : w.heap.size ≤ w.heap.size + 1 := by omega
                  exact ⟨rfl, below_set _ hle (below_set _ hle (below_set _ hle (below_set _ hle (below_set _ hle (below_set _ hle (below_set _ hle (below_set _ hle (h4))))))))⟩
                · have e2 : ((sV h m).im.tmod 4 != 0) = false := by simpa using c2
                  have hf : dB (sV h m) = true := by rw [hdb]; simp [c1, c2]
                  have HD := Lib.hid hf
                  obtain ⟨d0, d1⟩ := HGK.out.c m hlt
                  have f0 := HGK.out.f (m * 2)
                  have f1 := HGK.out.f (m * 2 + 1)
                  clear c1 c2 hf HFQ hdb HG2 t1 t2 HF2
                  go_wp2_with (fail)
                  exact ⟨⟨m + 1, by omega, by go_num, HGK.out.set (k := m) (q := cutS h (m + 1)) hlt (by rw [cutS_at]; rfl) (by rw [cutS_at]; rfl) (fun j hj => cutS_other h m j hj), fun q hq => (if hqm : q = m then (by rw [hqm]; exact HD.out) else HDV.out q (by omega)), below_set _ (Nat.le_refl _) (below_set _ (Nat.le_refl _) hbr5)⟩, by simp [intOf]; omega⟩
        · obtain rfl : m = 4 := by omega
          obtain ⟨g1, g2⟩ := HG2.out (fun q hq => HDV.out q hq)
          have HG3 := Lib.hid g1
          have HG4 := Lib.hid g2
          obtain ⟨o0, o1, o2, o3, o4, o5, o6, o7⟩ := gx8 HGO.out
          clear HG2 HF2 g1 g2 HDV HGO HHO HHS HLZ HGD HSZ2
          generalize cutS h 4 = v at *
          go_wp2_with (fail)
          obtain ⟨q0, q1, q2, q3, q4, q5, q6, q7⟩ := set8 (v0 := .int .i64 (v 0).re) (v1 := .int .i64 (v 0).im) (v2 := .int .i64 (v 1).re) (v3 := .int .i64 (v 1).im) (v4 := .int .i64 (v 2).re) (v5 := .int .i64 (v 2).im) (v6 := .int .i64 (v 3).re) (v7 := .int .i64 (v 3).im) r0 r1 r2 r3 r4 r5 r6 r7
          refine bodyPost_ret (v := .tuple #[gv4 v, .int .i64 0]) (by simp [results, Tryd.results57, go_sem, q0, q1, q2, q3, q4, q5, q6, q7]) rfl ?_
          rw [HG3.out, HG4.out]
          have hle : w.heap.size ≤ w.heap.size + 1 := by omega
          exact ⟨rfl, below_set _ hle (below_set _ hle (below_set _ hle (below_set _ hle (below_set _ hle (below_set _ hle (below_set _ hle (below_set _ hle (h3))))))))⟩
end Go.Proofs.YtppghnbabnhnbaaDoor
