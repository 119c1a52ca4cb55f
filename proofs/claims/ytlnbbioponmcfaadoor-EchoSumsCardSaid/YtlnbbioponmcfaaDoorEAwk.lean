/-
  Chapter 2: the laws are awake.
-/
import Derived.Test.YtlnbbioponmcfaaDoorEFmt
import Derived.Test.YtlnbbioponmcfaaDoorEDop
import Derived.Test.YtlnbbioponmcfaaDoorENxt
namespace Go.Proofs.YtlnbbioponmcfaaDoor
open Go.ChangeShapes Go.WideShapes Go.ChangeAt Go.RowKit
set_option linter.unusedVariables false
set_option linter.unusedSimpArgs false

def rd1 : Rd := ⟨8, 72, 8⟩
def rd2 : Rd := ⟨7, 63, 4⟩
def rul0 : Ru := ⟨⟨0, 1⟩, ⟨0, -1⟩, 4, 1, 10, 15, 100, 20⟩
def fr0 : List Gs := [⟨0, 0⟩, ⟨2, 0⟩, ⟨0, 0⟩, ⟨3, 1⟩]
def fr1 : List Gs := [⟨0, 0⟩, ⟨0, 2⟩, ⟨0, 0⟩, ⟨1, 1⟩]
def dp0 : List Gs := [⟨1, 0⟩, ⟨0, 1⟩, ⟨-1, 0⟩, ⟨0, -1⟩]
def it0 : It := ⟨3, 12, 3, 125, 165⟩
theorem k1 : candQ [rd1, rd2] = ([9], 0) := by kernel_rfl
theorem k2 : nextQ [rd1] [0, 1, 7] 4 = (2, 1, 0) := by kernel_rfl
theorem k3 : sepQ ⟨0, 1⟩ ⟨0, -1⟩ ⟨3, 1⟩ ⟨1, 1⟩ = (⟨⟨2, 0⟩, ⟨1, 1⟩, 1⟩, 0) := by kernel_rfl
theorem k4 : echQ rul0 fr0 fr1 = ([it0], 0) := by kernel_rfl
theorem k5 : dopQ dp0 = (1, 0) := by kernel_rfl
theorem dec3 (n a b c : Nat) (h : n = a * 100 + b * 10 + c) (ha : 1 ≤ a) (ha2 : a < 10) (hb : b < 10) (hc : c < 10) : Lib.decDigits n = [UInt8.ofNat (48 + a), UInt8.ofNat (48 + b), UInt8.ofNat (48 + c)] := by
  rw [Lib.decDigits, dif_neg (by omega), show n / 10 = a * 10 + b by omega, Lib.decDigits_two (by omega) (by omega), show (a * 10 + b) / 10 = a by omega, show (a * 10 + b) % 10 = b by omega, show n % 10 = c by omega]
  rfl
theorem k6 : fmtE [it0] = ⟨#[51, 32, 49, 50, 32, 51, 32, 49, 50, 53, 32, 49, 54, 53]⟩ := by
  have e3 : Lib.itoa 3 = [51] := by rw [Lib.itoa, if_neg (by decide)]; rw [show (3 : Int).toNat = 3 from rfl, Lib.decDigits_one (by decide)]; rfl
  have e12 : Lib.itoa 12 = [49, 50] := by rw [Lib.itoa, if_neg (by decide)]; rw [show (12 : Int).toNat = 12 from rfl, Lib.decDigits_two (by decide) (by decide)]; rfl
  have e125 : Lib.itoa 125 = [49, 50, 53] := by rw [Lib.itoa, if_neg (by decide)]; rw [show (125 : Int).toNat = 125 from rfl, dec3 125 1 2 5 rfl (by decide) (by decide) (by decide) (by decide)]; rfl
  have e165 : Lib.itoa 165 = [49, 54, 53] := by rw [Lib.itoa, if_neg (by decide)]; rw [show (165 : Int).toNat = 165 from rfl, dec3 165 1 6 5 rfl (by decide) (by decide) (by decide) (by decide)]; rfl
  have h : itW it0 = ⟨#[51, 32, 49, 50, 32, 51, 32, 49, 50, 53, 32, 49, 54, 53]⟩ := by
    unfold itW wds jn strL wd it0
    simp only [List.map_cons, List.map_nil, e3, e12, e125, e165]
    rfl
  unfold fmtE
  rw [if_neg (by simp), List.map_cons, List.map_nil, h]
  rfl
theorem rows_block {α : Type} {m : Nat} {f : α → Nat → Value} {w : World} {b : Nat} {cs : Array Value} {T : TypeId} {l : List α} (h : w.heap[b]? = some (.cells cs T)) (hc : cs.toList = cellsOf m f l) : RowsAt m f w (some ⟨b, 0, none⟩) l := fun k x hk => by
  refine ⟨b, 0, rfl, ?_, fun j hj => ?_⟩
  · rcases Nat.lt_or_ge b w.heap.size with h' | h'
    · exact h'
    · rw [Array.getElem?_eq_none h'] at h; cases h
  · rw [Nat.zero_add]
    refine blk_cell h ?_
    rw [← Array.getElem?_toList, hc]
    exact cellsOf_get hk hj
set_option maxRecDepth 100000 in
theorem Readings_any (w : World) : Calls Tryd.prog 16 #[] w fun e w' => ∃ b, e = .returned (.slice (some ⟨b, 0, none⟩) 2 2) ∧ RdsAt w' (some ⟨b, 0, none⟩) [rd1, rd2] ∧ Below w.heap.size w w' := by
  go_enter Tryd.func16, Tryd.ntmps16
  go_wp2_with (fail)
  go_ret
  exact ⟨_, rfl, rows_block (blk_new rfl) rfl, below_alloc _ (Nat.le_refl _) (Below.refl _ _)⟩
set_option maxRecDepth 100000 in
theorem Rules_any (w : World) : Calls Tryd.prog 19 #[] w fun e w' => e = .returned (ruv rul0) ∧ Below w.heap.size w w' := by
  go_enter Tryd.func19, Tryd.ntmps19
  go_wp2_with (fail)
  have hb1 : Below w.heap.size w ((w.alloc (.cells #[.int .i64 0, .int .i64 1, .int .i64 0, .int .i64 (-1), .int .i64 4, .int .i64 1, .int .i64 10, .int .i64 15, .int .i64 100, .int .i64 20] 58)).alloc (.cells #[.int .i64 0, .int .i64 1, .int .i64 0, .int .i64 (-1)] 56)) := below_alloc _ (Nat.le_refl _) (below_alloc _ (Nat.le_refl _) (Below.refl _ _))
  have x0 : ((w.alloc (.cells #[.int .i64 0, .int .i64 1, .int .i64 0, .int .i64 (-1), .int .i64 4, .int .i64 1, .int .i64 10, .int .i64 15, .int .i64 100, .int .i64 20] 58)).alloc (.cells #[.int .i64 0, .int .i64 1, .int .i64 0, .int .i64 (-1)] 56)).cell? ⟨w.heap.size, 0, none⟩ = some (.int .i64 0) := cell_alloc _ (cell_new (by simp) rfl)
  have x1 : ((w.alloc (.cells #[.int .i64 0, .int .i64 1, .int .i64 0, .int .i64 (-1), .int .i64 4, .int .i64 1, .int .i64 10, .int .i64 15, .int .i64 100, .int .i64 20] 58)).alloc (.cells #[.int .i64 0, .int .i64 1, .int .i64 0, .int .i64 (-1)] 56)).cell? ⟨w.heap.size, 1, none⟩ = some (.int .i64 1) := cell_alloc _ (cell_new (by simp) rfl)
  have x2 : ((w.alloc (.cells #[.int .i64 0, .int .i64 1, .int .i64 0, .int .i64 (-1), .int .i64 4, .int .i64 1, .int .i64 10, .int .i64 15, .int .i64 100, .int .i64 20] 58)).alloc (.cells #[.int .i64 0, .int .i64 1, .int .i64 0, .int .i64 (-1)] 56)).cell? ⟨w.heap.size, 2, none⟩ = some (.int .i64 0) := cell_alloc _ (cell_new (by simp) rfl)
  have x3 : ((w.alloc (.cells #[.int .i64 0, .int .i64 1, .int .i64 0, .int .i64 (-1), .int .i64 4, .int .i64 1, .int .i64 10, .int .i64 15, .int .i64 100, .int .i64 20] 58)).alloc (.cells #[.int .i64 0, .int .i64 1, .int .i64 0, .int .i64 (-1)] 56)).cell? ⟨w.heap.size, 3, none⟩ = some (.int .i64 (-1)) := cell_alloc _ (cell_new (by simp) rfl)
  have x4 : ((w.alloc (.cells #[.int .i64 0, .int .i64 1, .int .i64 0, .int .i64 (-1), .int .i64 4, .int .i64 1, .int .i64 10, .int .i64 15, .int .i64 100, .int .i64 20] 58)).alloc (.cells #[.int .i64 0, .int .i64 1, .int .i64 0, .int .i64 (-1)] 56)).cell? ⟨w.heap.size, 4, none⟩ = some (.int .i64 4) := cell_alloc _ (cell_new (by simp) rfl)
  have x5 : ((w.alloc (.cells #[.int .i64 0, .int .i64 1, .int .i64 0, .int .i64 (-1), .int .i64 4, .int .i64 1, .int .i64 10, .int .i64 15, .int .i64 100, .int .i64 20] 58)).alloc (.cells #[.int .i64 0, .int .i64 1, .int .i64 0, .int .i64 (-1)] 56)).cell? ⟨w.heap.size, 5, none⟩ = some (.int .i64 1) := cell_alloc _ (cell_new (by simp) rfl)
  have x6 : ((w.alloc (.cells #[.int .i64 0, .int .i64 1, .int .i64 0, .int .i64 (-1), .int .i64 4, .int .i64 1, .int .i64 10, .int .i64 15, .int .i64 100, .int .i64 20] 58)).alloc (.cells #[.int .i64 0, .int .i64 1, .int .i64 0, .int .i64 (-1)] 56)).cell? ⟨w.heap.size, 6, none⟩ = some (.int .i64 10) := cell_alloc _ (cell_new (by simp) rfl)
  have x7 : ((w.alloc (.cells #[.int .i64 0, .int .i64 1, .int .i64 0, .int .i64 (-1), .int .i64 4, .int .i64 1, .int .i64 10, .int .i64 15, .int .i64 100, .int .i64 20] 58)).alloc (.cells #[.int .i64 0, .int .i64 1, .int .i64 0, .int .i64 (-1)] 56)).cell? ⟨w.heap.size, 7, none⟩ = some (.int .i64 15) := cell_alloc _ (cell_new (by simp) rfl)
  have x8 : ((w.alloc (.cells #[.int .i64 0, .int .i64 1, .int .i64 0, .int .i64 (-1), .int .i64 4, .int .i64 1, .int .i64 10, .int .i64 15, .int .i64 100, .int .i64 20] 58)).alloc (.cells #[.int .i64 0, .int .i64 1, .int .i64 0, .int .i64 (-1)] 56)).cell? ⟨w.heap.size, 8, none⟩ = some (.int .i64 100) := cell_alloc _ (cell_new (by simp) rfl)
  have x9 : ((w.alloc (.cells #[.int .i64 0, .int .i64 1, .int .i64 0, .int .i64 (-1), .int .i64 4, .int .i64 1, .int .i64 10, .int .i64 15, .int .i64 100, .int .i64 20] 58)).alloc (.cells #[.int .i64 0, .int .i64 1, .int .i64 0, .int .i64 (-1)] 56)).cell? ⟨w.heap.size, 9, none⟩ = some (.int .i64 20) := cell_alloc _ (cell_new (by simp) rfl)
  have zx : w.heap.size < ((w.alloc (.cells #[.int .i64 0, .int .i64 1, .int .i64 0, .int .i64 (-1), .int .i64 4, .int .i64 1, .int .i64 10, .int .i64 15, .int .i64 100, .int .i64 20] 58)).alloc (.cells #[.int .i64 0, .int .i64 1, .int .i64 0, .int .i64 (-1)] 56)).heap.size := World.block_lt_of_cell? _ _ x0
  have y0 : ((w.alloc (.cells #[.int .i64 0, .int .i64 1, .int .i64 0, .int .i64 (-1), .int .i64 4, .int .i64 1, .int .i64 10, .int .i64 15, .int .i64 100, .int .i64 20] 58)).alloc (.cells #[.int .i64 0, .int .i64 1, .int .i64 0, .int .i64 (-1)] 56)).cell? ⟨w.heap.size + 1, 0, none⟩ = some (.int .i64 0) := cell_new (by simp) rfl
  have y1 : ((w.alloc (.cells #[.int .i64 0, .int .i64 1, .int .i64 0, .int .i64 (-1), .int .i64 4, .int .i64 1, .int .i64 10, .int .i64 15, .int .i64 100, .int .i64 20] 58)).alloc (.cells #[.int .i64 0, .int .i64 1, .int .i64 0, .int .i64 (-1)] 56)).cell? ⟨w.heap.size + 1, 1, none⟩ = some (.int .i64 1) := cell_new (by simp) rfl
  have y2 : ((w.alloc (.cells #[.int .i64 0, .int .i64 1, .int .i64 0, .int .i64 (-1), .int .i64 4, .int .i64 1, .int .i64 10, .int .i64 15, .int .i64 100, .int .i64 20] 58)).alloc (.cells #[.int .i64 0, .int .i64 1, .int .i64 0, .int .i64 (-1)] 56)).cell? ⟨w.heap.size + 1, 2, none⟩ = some (.int .i64 0) := cell_new (by simp) rfl
  have y3 : ((w.alloc (.cells #[.int .i64 0, .int .i64 1, .int .i64 0, .int .i64 (-1), .int .i64 4, .int .i64 1, .int .i64 10, .int .i64 15, .int .i64 100, .int .i64 20] 58)).alloc (.cells #[.int .i64 0, .int .i64 1, .int .i64 0, .int .i64 (-1)] 56)).cell? ⟨w.heap.size + 1, 3, none⟩ = some (.int .i64 (-1)) := cell_new (by simp) rfl
  have zy : w.heap.size + 1 < ((w.alloc (.cells #[.int .i64 0, .int .i64 1, .int .i64 0, .int .i64 (-1), .int .i64 4, .int .i64 1, .int .i64 10, .int .i64 15, .int .i64 100, .int .i64 20] 58)).alloc (.cells #[.int .i64 0, .int .i64 1, .int .i64 0, .int .i64 (-1)] 56)).heap.size := World.block_lt_of_cell? _ _ y0
  generalize ((w.alloc (.cells #[.int .i64 0, .int .i64 1, .int .i64 0, .int .i64 (-1), .int .i64 4, .int .i64 1, .int .i64 10, .int .i64 15, .int .i64 100, .int .i64 20] 58)).alloc (.cells #[.int .i64 0, .int .i64 1, .int .i64 0, .int .i64 (-1)] 56)) = w1 at *
  refine bodyPost_ret (v := ruv rul0) (by simp [results, Tryd.results19, go_sem, x0, x1, x2, x3, x4, x5, x6, x7, x8, x9, rul0]) rfl ?_
  exact ⟨rfl, hb1⟩
set_option maxRecDepth 100000 in
theorem Frame_any (w : World) : Calls Tryd.prog 21 #[] w fun e w' => ∃ A B, e = .returned (.agg #[.slice A 4 4, .slice B 4 4]) ∧ GsAt w' A fr0 ∧ GsAt w' B fr1 ∧ Below w.heap.size w w' := by
  go_enter Tryd.func21, Tryd.ntmps21
  go_wp2_with (fail)
  have hB : Below w.heap.size w w := Below.refl _ _
  refine bodyPost_ret (v := .agg #[.slice (some ⟨w.heap.size + 1, 0, none⟩) 4 4, .slice (some ⟨w.heap.size + 1 + 1, 0, none⟩) 4 4]) (by simp [results, Tryd.results21, go_sem]) rfl ?_
  exact ⟨_, _, rfl, rows_block (blk_alloc _ (blk_new (by simp))) rfl, rows_block (blk_new (by simp)) rfl, (by repeat (first | assumption | exact Below.refl _ _ | refine Below.drew ?_ | (refine below_alloc _ ?_ ?_; focus (first | omega | (simp; done) | (simp; omega) | (simp at *; omega))) | (refine below_set _ ?_ ?_; focus (first | omega | (simp; done) | (simp; omega) | (simp at *; omega))) | refine below_drewN ?_ _ | (refine below_call (by assumption) ?_ ?_; focus (first | omega | (simp; done) | (simp; omega) | (simp at *; omega))) | (refine below_call' (by assumption) ?_ ?_; focus (first | omega | (simp; done) | (simp; omega) | (simp at *; omega)))))⟩
theorem fldR (w : World) : (Instr.field 58 (ruv rul0) 0).run Tryd.prog w = .ok (gv2 ⟨0, 1⟩ ⟨0, -1⟩) w := by kernel_rfl
attribute [local go_sem] fldR
set_option maxRecDepth 100000 in
set_option maxHeartbeats 8000000 in
theorem awake_any (w : World) (ht : Tab w) : Calls Tryd.prog 4 #[] w fun e w' => e = .returned (.bool true) ∧ Below w.heap.size w w' := by
  have HT := Lib.hid ht
  clear ht
  have e1 : (candQ [rd1, rd2]).2 = 0 := by rw [k1]
  have HK1 := Lib.hid (fun A W (h : RdsAt W A [rd1, rd2]) => Candidates_any A [rd1, rd2] 2 W (by simp) h)
  have HK2 := Lib.hid (fun A ca B cb W (h : RdsAt W A [rd1]) (h' : IntsAt W B [0, 1, 7]) => NextSpacing_any A [rd1] ca B [0, 1, 7] cb 4 W (by simp) (by simp) h h')
  have HK3 := Lib.hid (fun W => Separated_any ⟨0, 1⟩ ⟨0, -1⟩ ⟨3, 1⟩ ⟨1, 1⟩ W)
  have HK4 := Lib.hid (fun A B W (h : GsAt W A fr0) (h' : GsAt W B fr1) => EchoesOf_any rul0 A fr0 4 B fr1 4 W (by simp [fr0]) (by simp [fr1]) h h')
  have HK5 := Lib.hid (fun A W (h : GsAt W A dp0) => DopplerOf_any A dp0 4 W (by simp [dp0]) h)
  have HK6 := Lib.hid (fun A c W (h : ItsAt W A [it0]) (t : Tab W) => FormatEchoes_any A [it0] c W (by simp) (fun x hx => by simp at hx; subst hx; exact ⟨by constructor <;> decide, by constructor <;> decide, by constructor <;> decide, by constructor <;> decide, by constructor <;> decide⟩) h t)
  have HK7 := Lib.hid (fun A ca B cb W (h : IntsAt W A [9]) (h' : IntsAt W B [9]) => Ints_refl A B [9] ca cb W (by simp) h h')
  rw [k1] at HK1
  rw [k2] at HK2
  rw [k3] at HK3
  rw [k4] at HK4
  rw [k5] at HK5
  rw [k6] at HK6
  clear e1
  go_enter Tryd.func4, Tryd.ntmps4
  go_wp2_with (go_at_call 16; refine (Readings_any w).mono ?_; rintro e1 w1 ⟨b1, rfl, hr1, hb1⟩)
  refine (HK1.out _ _ hr1).mono ?_
  rintro e1 w2 ⟨A1, c1, rfl, hi1, hb2⟩
  have h2 : Below w.heap.size w w2 := hb1.trans (hb2.mono hb1.size)
  clear hb1 hb2 hr1
  go_wp2_with (fail)
  refine (Readings_any w2).mono ?_
  rintro e1 w3 ⟨b2, rfl, hr2, hb3⟩
  have h3 : Below w.heap.size w w3 := h2.trans (hb3.mono h2.size)
  have hi3 := RowsAt.below hi1 hb3
  clear h2 hb3 hi1
  go_wp2_with (fail)
  have hbx : Below w3.heap.size w3 (w3.alloc (.cells #[.int .i64 0, .int .i64 1, .int .i64 7] 3)) := below_alloc _ (Nat.le_refl _) (Below.refl _ _)
  have hi4 := RowsAt.below hi3 hbx
  have h4 := h3.trans (hbx.mono h3.size)
  refine (HK2.out _ 2 _ 3 _ ((RowsAt.below hr2 hbx).take 1) (rows_block (blk_new rfl) rfl)).mono ?_
  generalize (w3.alloc (.cells #[.int .i64 0, .int .i64 1, .int .i64 7] 3)) = w4 at *
  rintro e1 w5 ⟨rfl, hb5⟩
  have h5 := h4.trans (hb5.mono h4.size)
  have hi5 := RowsAt.below hi4 hb5
  clear hb5 h4 h3 hi4 hi3 hbx hr2
  go_wp2_with (fail)
  refine (Rules_any w5).mono ?_
  rintro e1 w6 ⟨rfl, hb6⟩
  have h6 := h5.trans (hb6.mono h5.size)
  have hi6 := RowsAt.below hi5 hb6
  clear hb6 h5 hi5
  go_wp2_with (fail)
  refine (HK3.out w6).mono ?_
  rintro e1 w7 ⟨rfl, hb7⟩
  have h7 := h6.trans (hb7.mono h6.size)
  have hi7 := RowsAt.below hi6 hb7
  clear hb7 h6 hi6
  go_wp2_with (fail)
  have hb8 : Below w7.heap.size w7 (w7.alloc (.cells #[.int .i64 2, .int .i64 0, .int .i64 1, .int .i64 1, .int .i64 1] 52)) := below_alloc _ (Nat.le_refl _) (Below.refl _ _)
  have s0 : (w7.alloc (.cells #[.int .i64 2, .int .i64 0, .int .i64 1, .int .i64 1, .int .i64 1] 52)).cell? ⟨w7.heap.size, 0, none⟩ = some (.int .i64 2) := cell_new (by simp) rfl
  have s1 : (w7.alloc (.cells #[.int .i64 2, .int .i64 0, .int .i64 1, .int .i64 1, .int .i64 1] 52)).cell? ⟨w7.heap.size, 1, none⟩ = some (.int .i64 0) := cell_new (by simp) rfl
  have s2 : (w7.alloc (.cells #[.int .i64 2, .int .i64 0, .int .i64 1, .int .i64 1, .int .i64 1] 52)).cell? ⟨w7.heap.size, 2, none⟩ = some (.int .i64 1) := cell_new (by simp) rfl
  have s3 : (w7.alloc (.cells #[.int .i64 2, .int .i64 0, .int .i64 1, .int .i64 1, .int .i64 1] 52)).cell? ⟨w7.heap.size, 3, none⟩ = some (.int .i64 1) := cell_new (by simp) rfl
  have s4 : (w7.alloc (.cells #[.int .i64 2, .int .i64 0, .int .i64 1, .int .i64 1, .int .i64 1] 52)).cell? ⟨w7.heap.size, 4, none⟩ = some (.int .i64 1) := cell_new (by simp) rfl
  have zs : w7.heap.size < (w7.alloc (.cells #[.int .i64 2, .int .i64 0, .int .i64 1, .int .i64 1, .int .i64 1] 52)).heap.size := World.block_lt_of_cell? _ _ s0
  generalize (w7.alloc (.cells #[.int .i64 2, .int .i64 0, .int .i64 1, .int .i64 1, .int .i64 1] 52)) = w8 at *
  have h8 := h7.trans (hb8.mono h7.size)
  have hi8 := RowsAt.below hi7 hb8
  generalize w7.heap.size = sb at *
  clear hb8 h7 hi7
  refine (Rules_any w8).mono ?_
  rintro e1 w9 ⟨rfl, hb9⟩
  have hi9 := RowsAt.below hi8 hb9
  have h9 : Below w.heap.size w w9 := (h8).trans ((hb9).mono (h8).size)
  replace s0 := cell_below' hb9 s0
  replace s1 := cell_below' hb9 s1
  replace s2 := cell_below' hb9 s2
  replace s3 := cell_below' hb9 s3
  replace s4 := cell_below' hb9 s4
  replace zs := Nat.lt_of_lt_of_le zs (hb9).size
  clear hb9 h8
  clear hi8
  go_wp2_with (fail)
  refine (Frame_any w9).mono ?_
  rintro e1 wa ⟨A2, A3, rfl, hf, hg, hba⟩
  have hia := RowsAt.below hi9 hba
  have ha : Below w.heap.size w wa := (h9).trans ((hba).mono (h9).size)
  replace s0 := cell_below' hba s0
  replace s1 := cell_below' hba s1
  replace s2 := cell_below' hba s2
  replace s3 := cell_below' hba s3
  replace s4 := cell_below' hba s4
  replace zs := Nat.lt_of_lt_of_le zs (hba).size
  clear hba h9
  clear hi9
  go_wp2_with (fail)
  refine (HK4.out _ _ wa hf hg).mono ?_
  rintro e1 wb ⟨A4, c4, rfl, ht4, hbb⟩
  have hib := RowsAt.below hia hbb
  have hb : Below w.heap.size w wb := (ha).trans ((hbb).mono (ha).size)
  replace s0 := cell_below' hbb s0
  replace s1 := cell_below' hbb s1
  replace s2 := cell_below' hbb s2
  replace s3 := cell_below' hbb s3
  replace s4 := cell_below' hbb s4
  replace zs := Nat.lt_of_lt_of_le zs (hbb).size
  clear hbb ha
  clear hia hf hg
  go_wp2_with (fail)
  have hbx : Below wb.heap.size wb (wb.alloc (.cells #[.int .i64 1, .int .i64 0, .int .i64 0, .int .i64 1, .int .i64 (-1), .int .i64 0, .int .i64 0, .int .i64 (-1)] 30)) := below_alloc _ (Nat.le_refl _) (Below.refl _ _)
  have hic := RowsAt.below hib hbx
  have ht5 := RowsAt.below ht4 hbx
  have hdp : GsAt (wb.alloc (.cells #[.int .i64 1, .int .i64 0, .int .i64 0, .int .i64 1, .int .i64 (-1), .int .i64 0, .int .i64 0, .int .i64 (-1)] 30)) (some ⟨wb.heap.size, 0, none⟩) dp0 := rows_block (blk_new rfl) rfl
  refine (HK5.out _ _ hdp).mono ?_
  generalize (wb.alloc (.cells #[.int .i64 1, .int .i64 0, .int .i64 0, .int .i64 1, .int .i64 (-1), .int .i64 0, .int .i64 0, .int .i64 (-1)] 30)) = wc at *
  have hc : Below w.heap.size w wc := (hb).trans ((hbx).mono (hb).size)
  replace s0 := cell_below' hbx s0
  replace s1 := cell_below' hbx s1
  replace s2 := cell_below' hbx s2
  replace s3 := cell_below' hbx s3
  replace s4 := cell_below' hbx s4
  replace zs := Nat.lt_of_lt_of_le zs (hbx).size
  clear hbx hb
  rintro e1 wd ⟨rfl, hbd⟩
  have hid := RowsAt.below hic hbd
  have ht6 := RowsAt.below ht5 hbd
  have hd : Below w.heap.size w wd := (hc).trans ((hbd).mono (hc).size)
  replace s0 := cell_below' hbd s0
  replace s1 := cell_below' hbd s1
  replace s2 := cell_below' hbd s2
  replace s3 := cell_below' hbd s3
  replace s4 := cell_below' hbd s4
  replace zs := Nat.lt_of_lt_of_le zs (hbd).size
  clear hbd hc
  clear hic hib ht5 ht4
  go_wp2_with (fail)
  have hby : Below wd.heap.size wd (wd.alloc (.cells #[.int .i64 9] 3)) := below_alloc _ (Nat.le_refl _) (Below.refl _ _)
  have hie := RowsAt.below hid hby
  have ht7 := RowsAt.below ht6 hby
  have h9 : IntsAt (wd.alloc (.cells #[.int .i64 9] 3)) (some ⟨wd.heap.size, 0, none⟩) [9] := rows_block (blk_new rfl) rfl
  refine (HK7.out _ _ _ _ _ hie h9).mono ?_
  clear hid ht6 hdp
  generalize (wd.alloc (.cells #[.int .i64 9] 3)) = we at *
  have he : Below w.heap.size w we := (hd).trans ((hby).mono (hd).size)
  replace s0 := cell_below' hby s0
  replace s1 := cell_below' hby s1
  replace s2 := cell_below' hby s2
  replace s3 := cell_below' hby s3
  replace s4 := cell_below' hby s4
  replace zs := Nat.lt_of_lt_of_le zs (hby).size
  clear hby hd
  rintro e1 wf ⟨rfl, hbf⟩
  have ht8 := RowsAt.below ht7 hbf
  have hf : Below w.heap.size w wf := (he).trans ((hbf).mono (he).size)
  replace s0 := cell_below' hbf s0
  replace s1 := cell_below' hbf s1
  replace s2 := cell_below' hbf s2
  replace s3 := cell_below' hbf s3
  replace s4 := cell_below' hbf s4
  replace zs := Nat.lt_of_lt_of_le zs (hbf).size
  clear hbf he
  clear hie ht7 h9
  have HT2 := Lib.hid (HT.out.below hf)
  go_wp2_with (fail)
  refine (HK6.out _ _ _ ht8 HT2.out).mono ?_
  rintro e1 wg ⟨rfl, hbg⟩
  have hg := hf.trans (hbg.mono hf.size)
  clear hbg hf s0 s1 s2 s3 s4 zs ht8
  go_wp2_with (fail)
  go_ret
  exact ⟨rfl, hg⟩
end Go.Proofs.YtlnbbioponmcfaaDoor
