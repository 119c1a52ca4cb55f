/-
  Chapter 2: EchoSums, walked.
-/
import Derived.Test.YtlnbbioponmcfaaDoorESmP
import Derived.Test.YtlnbbioponmcfaaDoorEAwk
import Derived.Test.YtlnbbioponmcfaaDoorEDop
import Derived.Test.YtlnbbioponmcfaaDoorRCut
namespace Go.Proofs.YtlnbbioponmcfaaDoor
open Go.ChangeShapes Go.WideShapes Go.ChangeAt Go.RowKit
set_option linter.unusedVariables false
set_option linter.unusedSimpArgs false

theorem gx8 {O : Nat} {v : Nat → Gs} {w : World} (h : GxAt O v w) : w.cell? ⟨O, 0, none⟩ = some (.int .i64 (v 0).re) ∧ w.cell? ⟨O, 1, none⟩ = some (.int .i64 (v 0).im) ∧ w.cell? ⟨O, 2, none⟩ = some (.int .i64 (v 1).re) ∧ w.cell? ⟨O, 3, none⟩ = some (.int .i64 (v 1).im) ∧ w.cell? ⟨O, 4, none⟩ = some (.int .i64 (v 2).re) ∧ w.cell? ⟨O, 5, none⟩ = some (.int .i64 (v 2).im) ∧ w.cell? ⟨O, 6, none⟩ = some (.int .i64 (v 3).re) ∧ w.cell? ⟨O, 7, none⟩ = some (.int .i64 (v 3).im) := by
  have c0 := h.c 0 (by decide)
  have c1 := h.c 1 (by decide)
  have c2 := h.c 2 (by decide)
  have c3 := h.c 3 (by decide)
  exact ⟨c0.1, c0.2, c1.1, c1.2, c2.1, c2.2, c3.1, c3.2⟩
theorem gx_of {O : Nat} {v : Nat → Gs} {w : World} (h0 : w.cell? ⟨O, 0, none⟩ = some (.int .i64 (v 0).re)) (h1 : w.cell? ⟨O, 1, none⟩ = some (.int .i64 (v 0).im)) (h2 : w.cell? ⟨O, 2, none⟩ = some (.int .i64 (v 1).re)) (h3 : w.cell? ⟨O, 3, none⟩ = some (.int .i64 (v 1).im)) (h4 : w.cell? ⟨O, 4, none⟩ = some (.int .i64 (v 2).re)) (h5 : w.cell? ⟨O, 5, none⟩ = some (.int .i64 (v 2).im)) (h6 : w.cell? ⟨O, 6, none⟩ = some (.int .i64 (v 3).re)) (h7 : w.cell? ⟨O, 7, none⟩ = some (.int .i64 (v 3).im)) (hf : ∀ j, w.frozen? ⟨O, j, none⟩ = false) : GxAt O v w := by
  refine ⟨fun j hj => ?_, hf, World.block_lt_of_cell? _ _ h0⟩
  have h : j = 0 ∨ j = 1 ∨ j = 2 ∨ j = 3 := by omega
  rcases h with rfl | rfl | rfl | rfl
  · exact ⟨h0, h1⟩
  · exact ⟨h2, h3⟩
  · exact ⟨h4, h5⟩
  · exact ⟨h6, h7⟩
theorem GxAt.far {O b i : Nat} {v : Nat → Gs} {w : World} {u : Value} (h : GxAt O v w) (hne : b ≠ O) : GxAt O v (w.setCell ⟨b, i, none⟩ u) :=
  ⟨fun j hj => ⟨cell_far hne (h.c j hj).1, cell_far hne (h.c j hj).2⟩, fun j => frozen_set _ _ (h.f j), by simpa using h.z⟩
theorem GxAt.congr {O : Nat} {v q : Nat → Gs} {w : World} (h : GxAt O v w) (e : ∀ j, j < 4 → v j = q j) : GxAt O q w :=
  ⟨fun j hj => by rw [← e j hj]; exact h.c j hj, h.f, h.z⟩
theorem GxAt.low {B O : Nat} {v : Nat → Gs} {a w : World} (hb : Below B a w) (hO : O < B) (h : GxAt O v a) : GxAt O v w :=
  ⟨fun j hj => ⟨cell_low hb hO (h.c j hj).1, cell_low hb hO (h.c j hj).2⟩, fun j => frozen_below hb hO (h.f j), Nat.lt_of_lt_of_le h.z hb.size⟩
set_option maxRecDepth 100000 in
set_option maxHeartbeats 16000000 in
theorem EchoSums_any (C : Option Addr) (fs : List Frw) (cc : Nat) (D : Option Addr) (ts : List Int) (cd : Nat) (w : World) (ht : Tab w) (hC : FrsAt w C fs) (hD : IntsAt w D ts) :
    Calls Tryd.prog 3 #[.agg #[.slice C fs.length cc, .slice D ts.length cd]] w fun e w' => e = .returned (.bool true) ∧ Below w.heap.size w w' := by
  have HT := Lib.hid ht
  clear ht
  have HRF := Lib.hid (fun W (h : FrsAt W C fs) (h' : IntsAt W D ts) => RFramesErr_any C fs cc D ts cd W h h')
  by_cases hfe : frsE fs ts = 0
  rotate_left 1
  · have e1 : (frsE fs ts != 0) = true := by simpa using hfe
    clear hfe
    generalize frsE fs ts = E at *
    go_enter Tryd.func3, Tryd.ntmps3
    go_upto_region 1 with (fail)
    have hb0 : Below w.heap.size w (w.alloc (.cells #[.slice C fs.length cc, .slice D ts.length cd] 25)) := below_alloc _ (Nat.le_refl _) (Below.refl _ _)
    have x0 : (w.alloc (.cells #[.slice C fs.length cc, .slice D ts.length cd] 25)).cell? ⟨w.heap.size, 0, none⟩ = some (.slice C fs.length cc) := cell_new (by simp) rfl
    have x1 : (w.alloc (.cells #[.slice C fs.length cc, .slice D ts.length cd] 25)).cell? ⟨w.heap.size, 1, none⟩ = some (.slice D ts.length cd) := cell_new (by simp) rfl
    have zx : w.heap.size < (w.alloc (.cells #[.slice C fs.length cc, .slice D ts.length cd] 25)).heap.size := World.block_lt_of_cell? _ _ x0
    generalize (w.alloc (.cells #[.slice C fs.length cc, .slice D ts.length cd] 25)) = w0 at *
    have HT0 := Lib.hid (HT.out.below hb0)
    go_wp2_with (fail)
    refine (awake_any w0 HT0.out).mono ?_
    rintro e w1 ⟨rfl, k1⟩
    have h1 : Below w.heap.size w w1 := (hb0).trans ((k1).mono (hb0).size)
    replace x0 := cell_below' k1 x0
    replace x1 := cell_below' k1 x1
    replace zx := Nat.lt_of_lt_of_le zx (k1).size
    clear k1 hb0
    clear HT0
    have hC1 := hC.below h1
    have hD1 := RowsAt.below hD h1
    go_wp2_with (fail)
    refine (HRF.out _ hC1 hD1).mono ?_
    rintro e w2 ⟨rfl, k2⟩
    have hC2 := hC1.below k2
    have hD2 := RowsAt.below hD1 k2
    have h2 : Below w.heap.size w w2 := (h1).trans ((k2).mono (h1).size)
    replace x0 := cell_below' k2 x0
    replace x1 := cell_below' k2 x1
    replace zx := Nat.lt_of_lt_of_le zx (k2).size
    clear k2 h1
    clear hC1 hD1
    go_wp2_with (fail)
    go_ret
    exact ⟨rfl, h2⟩
  have hok := frsE_ok hfe
  have hp := hok.p
  have hn0 := n0_at hp
  have HOKF := Lib.hid hok
  have hpI : (0 : Int) < (fs.length : Int) := by omega
  have hm8 := hok.m
  have hte := hok.e
  have HFE := Lib.hid hfe
  rw [hfe] at HRF
  obtain ⟨N, hN⟩ : ∃ N, N = n0 fs := ⟨_, rfl⟩
  rw [← hN] at hn0
  have HN := Lib.hid hN
  have HN0 := Lib.hid hn0
  have HTE := Lib.hid hte
  clear hok hn0 hfe hN hte
  by_cases hN0 : N = 0
  · have HNZ := Lib.hid hN0
    clear hN0
    go_enter Tryd.func3, Tryd.ntmps3
    go_upto_region 1 with (fail)
    have hb0 : Below w.heap.size w (w.alloc (.cells #[.slice C fs.length cc, .slice D ts.length cd] 25)) := below_alloc _ (Nat.le_refl _) (Below.refl _ _)
    have x0 : (w.alloc (.cells #[.slice C fs.length cc, .slice D ts.length cd] 25)).cell? ⟨w.heap.size, 0, none⟩ = some (.slice C fs.length cc) := cell_new (by simp) rfl
    have x1 : (w.alloc (.cells #[.slice C fs.length cc, .slice D ts.length cd] 25)).cell? ⟨w.heap.size, 1, none⟩ = some (.slice D ts.length cd) := cell_new (by simp) rfl
    have zx : w.heap.size < (w.alloc (.cells #[.slice C fs.length cc, .slice D ts.length cd] 25)).heap.size := World.block_lt_of_cell? _ _ x0
    generalize (w.alloc (.cells #[.slice C fs.length cc, .slice D ts.length cd] 25)) = w0 at *
    have HT0 := Lib.hid (HT.out.below hb0)
    go_wp2_with (fail)
    refine (awake_any w0 HT0.out).mono ?_
    rintro e w1 ⟨rfl, k1⟩
    have h1 : Below w.heap.size w w1 := (hb0).trans ((k1).mono (hb0).size)
    replace x0 := cell_below' k1 x0
    replace x1 := cell_below' k1 x1
    replace zx := Nat.lt_of_lt_of_le zx (k1).size
    clear k1 hb0
    clear HT0
    have hC1 := hC.below h1
    have hD1 := RowsAt.below hD h1
    go_wp2_with (fail)
    refine (HRF.out _ hC1 hD1).mono ?_
    rintro e w2 ⟨rfl, k2⟩
    have hC2 := hC1.below k2
    have hD2 := RowsAt.below hD1 k2
    have h2 : Below w.heap.size w w2 := (h1).trans ((k2).mono (h1).size)
    replace x0 := cell_below' k2 x0
    replace x1 := cell_below' k2 x1
    replace zx := Nat.lt_of_lt_of_le zx (k2).size
    clear k2 h1
    clear hC1 hD1
    obtain ⟨b9, o9, rfl, hb9, c9, -⟩ := hC2.at_ hp
    rw [HN0.out, HNZ.out] at c9
    simp only [Nat.add_zero] at c9
    go_wp2_with (fail)
    go_ret
    exact ⟨rfl, h2⟩
  have e1 : ((N : Int) == 0) = false := by rw [beq_eq_false_iff_ne]; omega
  have e2 : (N == 0) = false := by rw [beq_eq_false_iff_ne]; omega
  have hNp : 0 < N := by omega
  have HWS := Lib.hid (wantV_sz (fs := fs) (fun x hx => by have := all_len HFE.out x hx; exact ⟨(smpsE_zero this.2).1, (smpsE_zero this.2).2⟩))
  have HAL := Lib.hid (fun (j : Nat) (hj : j < fs.length) => all_len HFE.out _ (List.getElem_mem hj))
  clear hN0
  go_enter Tryd.func3, Tryd.ntmps3
  go_upto_region 1 with (fail)
  have hb0 : Below w.heap.size w (w.alloc (.cells #[.slice C fs.length cc, .slice D ts.length cd] 25)) := below_alloc _ (Nat.le_refl _) (Below.refl _ _)
  have x0 : (w.alloc (.cells #[.slice C fs.length cc, .slice D ts.length cd] 25)).cell? ⟨w.heap.size, 0, none⟩ = some (.slice C fs.length cc) := cell_new (by simp) rfl
  have x1 : (w.alloc (.cells #[.slice C fs.length cc, .slice D ts.length cd] 25)).cell? ⟨w.heap.size, 1, none⟩ = some (.slice D ts.length cd) := cell_new (by simp) rfl
  have zx : w.heap.size < (w.alloc (.cells #[.slice C fs.length cc, .slice D ts.length cd] 25)).heap.size := World.block_lt_of_cell? _ _ x0
  generalize (w.alloc (.cells #[.slice C fs.length cc, .slice D ts.length cd] 25)) = w0 at *
  have HT0 := Lib.hid (HT.out.below hb0)
  go_wp2_with (fail)
  refine (awake_any w0 HT0.out).mono ?_
  rintro e w1 ⟨rfl, k1⟩
  have h1 : Below w.heap.size w w1 := (hb0).trans ((k1).mono (hb0).size)
  replace x0 := cell_below' k1 x0
  replace x1 := cell_below' k1 x1
  replace zx := Nat.lt_of_lt_of_le zx (k1).size
  clear k1 hb0
  clear HT0
  have hC1 := hC.below h1
  have hD1 := RowsAt.below hD h1
  go_wp2_with (fail)
  refine (HRF.out _ hC1 hD1).mono ?_
  rintro e w2 ⟨rfl, k2⟩
  have hC2 := hC1.below k2
  have hD2 := RowsAt.below hD1 k2
  have h2 : Below w.heap.size w w2 := (h1).trans ((k2).mono (h1).size)
  replace x0 := cell_below' k2 x0
  replace x1 := cell_below' k2 x1
  replace zx := Nat.lt_of_lt_of_le zx (k2).size
  clear k2 h1
  clear hC1 hD1
  obtain ⟨b9, o9, e9, hb9, c9, -⟩ := hC2.at_ hp
  rw [HN0.out] at c9
  simp only [Nat.add_zero] at c9
  obtain ⟨aA, haA⟩ : ∃ a, a = fs[0].a := ⟨_, rfl⟩
  obtain ⟨kA, hkA⟩ : ∃ a, a = fs[0].c := ⟨_, rfl⟩
  rw [← haA, ← hkA] at c9
  subst e9
  go_upto_region 5 with (fail)
  clear c9 hb9 haA hkA e1 e2
  go_upto_region 6 with (fail)
  have hb3 : Below w2.heap.size w2 (w2.alloc (.cells #[.slice none 0 0, .slice none 0 0] 25)) := below_alloc _ (Nat.le_refl _) (Below.refl _ _)
  have b0 : (w2.alloc (.cells #[.slice none 0 0, .slice none 0 0] 25)).cell? ⟨w2.heap.size, 0, none⟩ = some (.slice none 0 0) := cell_new (by simp) rfl
  have bf0 : (w2.alloc (.cells #[.slice none 0 0, .slice none 0 0] 25)).frozen? ⟨w2.heap.size, 0, none⟩ = false := frozen_new (by simp)
  have b1 : (w2.alloc (.cells #[.slice none 0 0, .slice none 0 0] 25)).cell? ⟨w2.heap.size, 1, none⟩ = some (.slice none 0 0) := cell_new (by simp) rfl
  have bf1 : (w2.alloc (.cells #[.slice none 0 0, .slice none 0 0] 25)).frozen? ⟨w2.heap.size, 1, none⟩ = false := frozen_new (by simp)
  have zb : w2.heap.size < (w2.alloc (.cells #[.slice none 0 0, .slice none 0 0] 25)).heap.size := World.block_lt_of_cell? _ _ b0
  generalize (w2.alloc (.cells #[.slice none 0 0, .slice none 0 0] 25)) = w3 at *
  go_upto_region 7 with (fail)
  have hb4 : Below w3.heap.size w3 (w3.alloc (.cells #[.int .i64 0, .int .i64 0, .int .i64 0, .int .i64 0, .int .i64 0, .int .i64 0, .int .i64 0, .int .i64 0] 31)) := below_alloc _ (Nat.le_refl _) (Below.refl _ _)
  have q0 : (w3.alloc (.cells #[.int .i64 0, .int .i64 0, .int .i64 0, .int .i64 0, .int .i64 0, .int .i64 0, .int .i64 0, .int .i64 0] 31)).cell? ⟨w3.heap.size, 0, none⟩ = some (.int .i64 0) := cell_new (by simp) rfl
  have qf0 : (w3.alloc (.cells #[.int .i64 0, .int .i64 0, .int .i64 0, .int .i64 0, .int .i64 0, .int .i64 0, .int .i64 0, .int .i64 0] 31)).frozen? ⟨w3.heap.size, 0, none⟩ = false := frozen_new (by simp)
  have q1 : (w3.alloc (.cells #[.int .i64 0, .int .i64 0, .int .i64 0, .int .i64 0, .int .i64 0, .int .i64 0, .int .i64 0, .int .i64 0] 31)).cell? ⟨w3.heap.size, 1, none⟩ = some (.int .i64 0) := cell_new (by simp) rfl
  have qf1 : (w3.alloc (.cells #[.int .i64 0, .int .i64 0, .int .i64 0, .int .i64 0, .int .i64 0, .int .i64 0, .int .i64 0, .int .i64 0] 31)).frozen? ⟨w3.heap.size, 1, none⟩ = false := frozen_new (by simp)
  have q2 : (w3.alloc (.cells #[.int .i64 0, .int .i64 0, .int .i64 0, .int .i64 0, .int .i64 0, .int .i64 0, .int .i64 0, .int .i64 0] 31)).cell? ⟨w3.heap.size, 2, none⟩ = some (.int .i64 0) := cell_new (by simp) rfl
  have qf2 : (w3.alloc (.cells #[.int .i64 0, .int .i64 0, .int .i64 0, .int .i64 0, .int .i64 0, .int .i64 0, .int .i64 0, .int .i64 0] 31)).frozen? ⟨w3.heap.size, 2, none⟩ = false := frozen_new (by simp)
  have q3 : (w3.alloc (.cells #[.int .i64 0, .int .i64 0, .int .i64 0, .int .i64 0, .int .i64 0, .int .i64 0, .int .i64 0, .int .i64 0] 31)).cell? ⟨w3.heap.size, 3, none⟩ = some (.int .i64 0) := cell_new (by simp) rfl
  have qf3 : (w3.alloc (.cells #[.int .i64 0, .int .i64 0, .int .i64 0, .int .i64 0, .int .i64 0, .int .i64 0, .int .i64 0, .int .i64 0] 31)).frozen? ⟨w3.heap.size, 3, none⟩ = false := frozen_new (by simp)
  have q4 : (w3.alloc (.cells #[.int .i64 0, .int .i64 0, .int .i64 0, .int .i64 0, .int .i64 0, .int .i64 0, .int .i64 0, .int .i64 0] 31)).cell? ⟨w3.heap.size, 4, none⟩ = some (.int .i64 0) := cell_new (by simp) rfl
  have qf4 : (w3.alloc (.cells #[.int .i64 0, .int .i64 0, .int .i64 0, .int .i64 0, .int .i64 0, .int .i64 0, .int .i64 0, .int .i64 0] 31)).frozen? ⟨w3.heap.size, 4, none⟩ = false := frozen_new (by simp)
  have q5 : (w3.alloc (.cells #[.int .i64 0, .int .i64 0, .int .i64 0, .int .i64 0, .int .i64 0, .int .i64 0, .int .i64 0, .int .i64 0] 31)).cell? ⟨w3.heap.size, 5, none⟩ = some (.int .i64 0) := cell_new (by simp) rfl
  have qf5 : (w3.alloc (.cells #[.int .i64 0, .int .i64 0, .int .i64 0, .int .i64 0, .int .i64 0, .int .i64 0, .int .i64 0, .int .i64 0] 31)).frozen? ⟨w3.heap.size, 5, none⟩ = false := frozen_new (by simp)
  have q6 : (w3.alloc (.cells #[.int .i64 0, .int .i64 0, .int .i64 0, .int .i64 0, .int .i64 0, .int .i64 0, .int .i64 0, .int .i64 0] 31)).cell? ⟨w3.heap.size, 6, none⟩ = some (.int .i64 0) := cell_new (by simp) rfl
  have qf6 : (w3.alloc (.cells #[.int .i64 0, .int .i64 0, .int .i64 0, .int .i64 0, .int .i64 0, .int .i64 0, .int .i64 0, .int .i64 0] 31)).frozen? ⟨w3.heap.size, 6, none⟩ = false := frozen_new (by simp)
  have q7 : (w3.alloc (.cells #[.int .i64 0, .int .i64 0, .int .i64 0, .int .i64 0, .int .i64 0, .int .i64 0, .int .i64 0, .int .i64 0] 31)).cell? ⟨w3.heap.size, 7, none⟩ = some (.int .i64 0) := cell_new (by simp) rfl
  have qf7 : (w3.alloc (.cells #[.int .i64 0, .int .i64 0, .int .i64 0, .int .i64 0, .int .i64 0, .int .i64 0, .int .i64 0, .int .i64 0] 31)).frozen? ⟨w3.heap.size, 7, none⟩ = false := frozen_new (by simp)
  have qk : (w3.alloc (.cells #[.int .i64 0, .int .i64 0, .int .i64 0, .int .i64 0, .int .i64 0, .int .i64 0, .int .i64 0, .int .i64 0] 31)).heap[w3.heap.size]? = some (.cells #[.int .i64 0, .int .i64 0, .int .i64 0, .int .i64 0, .int .i64 0, .int .i64 0, .int .i64 0, .int .i64 0] 31) := blk_new (by simp)
  have zq : w3.heap.size < (w3.alloc (.cells #[.int .i64 0, .int .i64 0, .int .i64 0, .int .i64 0, .int .i64 0, .int .i64 0, .int .i64 0, .int .i64 0] 31)).heap.size := World.block_lt_of_cell? _ _ q0
  generalize (w3.alloc (.cells #[.int .i64 0, .int .i64 0, .int .i64 0, .int .i64 0, .int .i64 0, .int .i64 0, .int .i64 0, .int .i64 0] 31)) = w4 at *
  have HGX : Hid (GxAt w3.heap.size (wantV fs fs.length) w4) := Lib.hid (by
    refine gx_of ?_ ?_ ?_ ?_ ?_ ?_ ?_ ?_ (fun j => blk_frozen qk)
    all_goals
      rw [wantV_end]
      exact blk_cell qk rfl)
  clear qk q0 q1 q2 q3 q4 q5 q6 q7 qf0 qf1 qf2 qf3 qf4 qf5 qf6 qf7
  have zbq : w2.heap.size < w3.heap.size := zb
  have zxb : w.heap.size < w2.heap.size := zx
  have h24 : Below w2.heap.size w2 w4 := (hb3).trans ((hb4).mono (hb3).size)
  replace bf0 := frozen_below hb4 (World.block_lt_of_cell? _ _ b0) bf0
  replace bf1 := frozen_below hb4 (World.block_lt_of_cell? _ _ b1) bf1
  replace b0 := cell_below' hb4 b0
  replace b1 := cell_below' hb4 b1
  replace zb := Nat.lt_of_lt_of_le zb (hb4).size
  clear hb4 hb3
  have h4 := h2.trans (h24.mono h2.size)
  have x0' := cell_below' h24 x0
  have x1' := cell_below' h24 x1
  obtain ⟨NB, hNB⟩ : ∃ NB, NB = w4.heap.size := ⟨_, rfl⟩
  have hbbN : w2.heap.size < NB := by have := h24.size; omega
  have hbqN : w3.heap.size < NB := by omega
  have hxN : w.heap.size < NB := by omega
  have hNB4 : NB ≤ w4.heap.size := by omega
  have hT0 : bkT ts fs.length = [] := by rw [← HTE.out]; exact bkT_end
  have HT0 := Lib.hid hT0
  have H24 := Lib.hid h24
  have HX0 := Lib.hid (fun W (h : Below w2.heap.size w2 W) => cell_below' h x0)
  have HX1 := Lib.hid (fun W (h : Below w2.heap.size w2 W) => cell_below' h x1)
  have HC2 := Lib.hid (fun W (h : Below w2.heap.size w2 W) => hC2.below h)
  have HD2 := Lib.hid (fun W (h : Below w2.heap.size w2 W) => RowsAt.below hD2 h)
  clear hT0 h4 zb hNB
  go_wp2_with (fail)
  clear x0' x1'
  go_loopw [5] (fun i wr => ∃ (z : Int) (k : Nat) (A' : Option Addr) (c' : Nat) (gs : List Frw) (B' : Option Addr) (d' : Nat) (us : List Int), z = (k : Int) - 1 ∧ k ≤ fs.length ∧ i = .int .i64 z ∧ gs.map (·.l) = bkF fs k ∧ us = bkT ts k ∧ BkAt NB wr A' c' gs B' d' us ∧ wr.cell? ⟨w2.heap.size, 0, none⟩ = some (.slice A' gs.length c') ∧ wr.cell? ⟨w2.heap.size, 1, none⟩ = some (.slice B' us.length d') ∧ wr.frozen? ⟨w2.heap.size, 0, none⟩ = false ∧ wr.frozen? ⟨w2.heap.size, 1, none⟩ = false ∧ GxAt w3.heap.size (wantV fs k) wr ∧ (∀ j (hj : j < fs.length), k ≤ j → ∀ y ∈ fs[j].l, Sz 1000 y) ∧ NB ≤ wr.heap.size ∧ Below w2.heap.size w2 wr) (fun i _ => (intOf i + 1).toNat)
  case atStart => exact ⟨_, fs.length, none, 0, [], none, 0, [], rfl, Nat.le_refl _, rfl, by rw [bkF_end]; rfl, HT0.out.symm, BkAt.nil, b0, b1, bf0, bf1, HGX.out, fun j hj h => absurd h (by omega), hNB4, h24⟩
  case round =>
    obtain ⟨z, k, A', c', gs, B', d', us, hz, hk, rfl, hg, hu, hbk, b0, b1, bf0, bf1, hgx, hs, hNBo, hbr⟩ := hrel
    obtain ⟨wo, rfl⟩ : ∃ wo : World, wo = wr := ⟨_, rfl⟩
    clear HGX H24 HT0 h24 hNB4
    have HG := Lib.hid hg
    have HU := Lib.hid hu
    have HBK := Lib.hid hbk
    have HGX := Lib.hid hgx
    have HS := Lib.hid hs
    have hgl : gs.length ≤ 8 := by have := congrArg List.length hg; rw [bkF_len, List.length_map] at this; omega
    have hul : us.length ≤ 8 := by rw [hu, bkT_len]; have := HTE.out; omega
    clear hg hu hbk hgx hs
    have hCo := hC2.below hbr
    have hDo := RowsAt.below hD2 hbr
    have x0o := cell_below' hbr x0
    have x1o := cell_below' hbr x1
    by_cases hk0 : k = 0
    rotate_left 1
    · obtain ⟨kk, rfl⟩ : ∃ kk, k = kk + 1 := ⟨k - 1, by omega⟩
      obtain rfl : z = (kk : Int) := by omega
      have hkk : kk < fs.length := by omega
      have hkt : kk < ts.length := by have := HTE.out; omega
      obtain ⟨b1', o1, e1, hb1, cx, hX⟩ := hC2.at_ hkk
      cases e1
      obtain ⟨b2, o2, e2, hb2, y0⟩ := IntsAt.at_ hD2 hkt
      subst e2
      have hbN9 : b9 < NB := by omega
      have hbN2 : b2 < NB := by omega
      have HCX := Lib.hid (fun W (h : Below w2.heap.size w2 W) => cell_below' h cx)
      have HHX := Lib.hid (fun W (h : Below w2.heap.size w2 W) => RowsAt.below hX h)
      replace cx := cell_below' hbr cx
      replace y0 := cell_below' hbr y0
      replace hX := RowsAt.below hX hbr
      have hfs := bkF_step hkk
      have hts := bkT_step hkt
      have hwn := wantV_step (fs := fs) hkk
      obtain ⟨hxl, hxs⟩ := HAL.out kk hkk
      obtain ⟨hx64, hxz⟩ := smpsE_zero hxs
      have hln : linE fs[kk].l = 0 := linE_of (by rw [hxl, ← HN.out]; exact hNp) hxs
      have hlv : linV fs[kk].l = linP fs[kk].l := funext fun n => if_pos hln
      have HLN := Lib.hid (fun (X : Option Addr) (c : Nat) W (h : GsAt W X fs[kk].l) => LinesOf_any X fs[kk].l c W (by omega) h)
      rw [hln, hlv] at HLN
      have HLZ := Lib.hid (fun n => linP_sz hx64 hxz n)
      have HXZ := Lib.hid hxz
      have HCG := Lib.hid (fun W (h : GsAt W fs[kk].a fs[kk].l) => CopyG_any fs[kk].a fs[kk].l fs[kk].c W (by omega) h)
      have HS2 := Lib.hid (fun (hl : ∀ y ∈ fs[kk].l, Sz 1000 y) (j : Nat) (hj : j < fs.length) (hkj : kk ≤ j) => show ∀ y ∈ fs[j].l, Sz 1000 y by
        by_cases e : j = kk
        · subst e; exact hl
        · exact HS.out j hj (by omega))
      have hX8 : (fs[kk].l.length : Int) ≤ 64 := by omega
      clear hxl hxs hxz hln hlv hk hz hk0
      generalize hxq : fs[kk] = xq at *
      generalize ts[kk] = t at *
      obtain ⟨ax, lx, cx'⟩ := xq
      simp only at *
      have HFS := Lib.hid hfs
      have HTS := Lib.hid hts
      have HWN := Lib.hid hwn
      clear hxq hfs hts hwn
      go_wp2_with (fail)
      go_loopw [6] (fun i wr => ∃ m : Nat, m ≤ lx.length ∧ i = .int .i64 m ∧ (∀ j (hj : j < lx.length), j < m → Sz 1000 lx[j]) ∧ Below wo.heap.size wo wr) (fun i _ => lx.length - (intOf i).toNat)
      case atStart => exact ⟨0, Nat.zero_le _, rfl, fun j hj h => absurd h (by omega), Below.refl _ _⟩
      case round =>
        obtain ⟨m, hm, rfl, hsm, hbi⟩ := hrel
        obtain ⟨wi, rfl⟩ : ∃ wi : World, wi = wr := ⟨_, rfl⟩
        have HSM := Lib.hid hsm
        clear hsm
        replace x0o := cell_below' hbi x0o
        replace x1o := cell_below' hbi x1o
        replace cx := cell_below' hbi cx
        replace y0 := cell_below' hbi y0
        by_cases hml : m < lx.length
        · have hmI : (m : Int) < (lx.length : Int) := by omega
          obtain ⟨b3, o3, rfl, hb3, c0, c1⟩ := GsAt.at_ (RowsAt.below hX hbi) hml
          have hgz := HXZ.out _ (List.getElem_mem hml)
          have HGP := Lib.hid (fun W => GPart_any lx[m] W (hgz.mono (by decide)))
          by_cases hgp : gprt lx[m] ≤ 1000
          · have hnx : ∀ j (hj : j < lx.length), j < m + 1 → Sz 1000 lx[j] := fun j hj h => by
              by_cases e : j = m
              · subst e; exact gprt_le.1 hgp
              · exact HSM.out j hj (by omega)
            have HNX := Lib.hid hnx
            have e3 : decide ((1000 : Int) < gprt lx[m]) = false := decide_eq_false (by omega)
            clear hnx hgp hgz
            generalize lx[m] = g at *
            generalize gprt g = gp at *
            simp only [gv] at HGP
            go_wp2_with (fail)
            refine (HGP.out _).mono ?_
            rintro e w5 ⟨rfl, k5⟩
            have hb5 := hbi.trans (k5.mono hbi.size)
            clear c0 c1 k5
            go_wp2_with (fail)
            exact ⟨⟨m + 1, by omega, by go_num, HNX.out, hb5⟩, by simp [intOf]; omega⟩
          · have e3 : decide ((1000 : Int) < gprt lx[m]) = true := decide_eq_true (by omega)
            clear hgp hgz
            generalize lx[m] = g at *
            generalize gprt g = gp at *
            simp only [gv] at HGP
            have hwi : Below w.heap.size w wi := h2.trans ((hbr.trans (hbi.mono hbr.size)).mono h2.size)
            go_wp2_with (fail)
            refine (HGP.out _).mono ?_
            rintro e w5 ⟨rfl, k5⟩
            have hb5 := hwi.trans (k5.mono hwi.size)
            clear c0 c1 k5
            go_wp2_with (fail)
            go_ret
            exact ⟨rfl, hb5⟩
        · have hml2 : lx.length = m := by omega
          have hall : ∀ y ∈ lx, Sz 1000 y := fun y hy => by
            obtain ⟨j, hj, rfl⟩ := List.getElem_of_mem hy
            exact HSM.out j hj (by omega)
          have HS3 := Lib.hid (HS2.out hall)
          subst hml2
          have hbki := Lib.hid (HBK.out.below hbi)
          have HGI := Lib.hid (HGX.out.below hbi)
          have hri : Below w2.heap.size w2 wi := hbr.trans (hbi.mono hbr.size)
          have hNBi : NB ≤ wi.heap.size := Nat.le_trans hNBo hbi.size
          replace b0 := cell_below' hbi b0
          replace b1 := cell_below' hbi b1
          replace bf0 := frozen_below hbi (show w2.heap.size < _ from Nat.lt_of_lt_of_le hbbN hNBo) bf0
          replace bf1 := frozen_below hbi (show w2.heap.size < _ from Nat.lt_of_lt_of_le hbbN hNBo) bf1
          replace hX := RowsAt.below hX hbi
          clear HSM HS2 HS hall HBK HGX hCo hDo hbi hbr hNBo
          obtain ⟨i1, hi1, hz3, hz4, hz5⟩ := infoFr_
          have HI1 := Lib.hid hi1
          have HZ3 := Lib.hid hz3
          have HZ4 := Lib.hid hz4
          have HZ5 := Lib.hid hz5
          obtain ⟨i0, hi0, hz0, hz1, hz2⟩ := infoInt_
          have HI := Lib.hid hi0
          have HZ0 := Lib.hid hz0
          have HZ1 := Lib.hid hz1
          have HZ2 := Lib.hid hz2
          clear hi1 hz3 hz4 hz5 hi0 hz0 hz1 hz2
          go_upto_region 15 with (fail)
          go_cut [] from 62 to 82 (fun wx => ∃ (A5 : Option Addr) (c5 : Nat) (A6 : Option Addr) (c6 : Nat) (A4 : Option Addr) (c4 : Nat), BkAt NB wx A5 c5 (gs ++ [⟨A4, lx, c4⟩]) A6 c6 (us ++ [t]) ∧ wx.cell? ⟨w2.heap.size, 0, none⟩ = some (.slice A5 (gs.length + 1) c5) ∧ wx.cell? ⟨w2.heap.size, 1, none⟩ = some (.slice A6 (us.length + 1) c6) ∧ wx.frozen? ⟨w2.heap.size, 0, none⟩ = false ∧ wx.frozen? ⟨w2.heap.size, 1, none⟩ = false ∧ GxAt w3.heap.size (wantV fs (kk + 1)) wx ∧ NB ≤ wx.heap.size ∧ Below w2.heap.size w2 wx)
          case first =>
            clear HLN HLZ HXZ HS3 HFS HTS HWN HG HU HAL HRF HT
            refine wp_region_cut_at 20 (S := fun w' => w'.cell? ⟨w2.heap.size, 0, none⟩ = some (.slice A' gs.length c') ∧ w'.cell? ⟨w2.heap.size, 1, none⟩ = some (.slice B' us.length d') ∧ w'.cell? ⟨w.heap.size, 0, none⟩ = some (.slice (some ⟨b9, o9, none⟩) fs.length cc) ∧ w'.cell? ⟨w.heap.size, 1, none⟩ = some (.slice (some ⟨b2, o2, none⟩) ts.length cd) ∧ w'.cell? ⟨b9, o9 + kk, none⟩ = some (.slice ax lx.length cx') ∧ w'.cell? ⟨b2, o2 + kk, none⟩ = some (.int .i64 t)) (by kernel_rfl) (by kernel_rfl) ⟨b0, b1, x0o, x1o, cx, y0⟩ (fun hHeld => ?_)
            dsimp only [List.take, List.drop]
            refine takeH (i := 0) (v := ?_) rfl (by kernel_rfl) (by kernel_rfl) (by kernel_rfl) (fun _ _ _ h => h) rfl ?_ (by assumption) ?_
            rotate_left
            · (intro w' hSw; (try dsimp only at hSw); go_simp; try with_reducible rfl)
            try simp only [Act.put, List.setIfInBounds_toArray, List.set_cons_zero, List.set_cons_succ]
            refine takeH (i := 1) (v := ?_) rfl (by kernel_rfl) (by kernel_rfl) (by kernel_rfl) (fun _ _ _ h => h) rfl ?_ (by assumption) ?_
            rotate_left
            · (intro w' hSw; (try dsimp only at hSw); go_simp; try with_reducible rfl)
            try simp only [Act.put, List.setIfInBounds_toArray, List.set_cons_zero, List.set_cons_succ]
            refine takeH (i := 2) (v := ?_) rfl (by kernel_rfl) (by kernel_rfl) (by kernel_rfl) (fun _ _ _ h => h) rfl ?_ (by assumption) ?_
            rotate_left
            · (intro w' hSw; (try dsimp only at hSw); go_simp; try with_reducible rfl)
            try simp only [Act.put, List.setIfInBounds_toArray, List.set_cons_zero, List.set_cons_succ]
            refine takeH (i := 3) (v := ?_) rfl (by kernel_rfl) (by kernel_rfl) (by kernel_rfl) (fun _ _ _ h => h) rfl ?_ (by assumption) ?_
            rotate_left
            · (intro w' hSw; (try dsimp only at hSw); go_simp; try with_reducible rfl)
            try simp only [Act.put, List.setIfInBounds_toArray, List.set_cons_zero, List.set_cons_succ]
            refine takeH (i := 4) (v := ?_) rfl (by kernel_rfl) (by kernel_rfl) (by kernel_rfl) (fun _ _ _ h => h) rfl ?_ (by assumption) ?_
            rotate_left
            · (intro w' hSw; (try dsimp only at hSw); go_simp; try with_reducible rfl)
            try simp only [Act.put, List.setIfInBounds_toArray, List.set_cons_zero, List.set_cons_succ]
            refine takeH (i := 5) (v := ?_) rfl (by kernel_rfl) (by kernel_rfl) (by kernel_rfl) (fun _ _ _ h => h) rfl ?_ (by assumption) ?_
            rotate_left
            · (intro w' hSw; (try dsimp only at hSw); go_simp; try with_reducible rfl)
            try simp only [Act.put, List.setIfInBounds_toArray, List.set_cons_zero, List.set_cons_succ]
            refine takeH (i := 6) (v := ?_) rfl (by kernel_rfl) (by kernel_rfl) (by kernel_rfl) (fun _ _ _ h => h) rfl ?_ (by assumption) ?_
            rotate_left
            · (intro w' hSw; (try dsimp only at hSw); go_simp; try with_reducible rfl)
            try simp only [Act.put, List.setIfInBounds_toArray, List.set_cons_zero, List.set_cons_succ]
            refine takeH (i := 10) (v := ?_) rfl (by kernel_rfl) (by kernel_rfl) (by kernel_rfl) (fun _ _ _ h => h) rfl ?_ (by assumption) ?_
            rotate_left
            · (intro w' hSw; (try dsimp only at hSw); go_simp; try with_reducible rfl)
            try simp only [Act.put, List.setIfInBounds_toArray, List.set_cons_zero, List.set_cons_succ]
            refine takeH (i := 11) (v := ?_) rfl (by kernel_rfl) (by kernel_rfl) (by kernel_rfl) (fun _ _ _ h => h) rfl ?_ (by assumption) ?_
            rotate_left
            · (intro w' hSw; (try dsimp only at hSw); go_simp; try with_reducible rfl)
            try simp only [Act.put, List.setIfInBounds_toArray, List.set_cons_zero, List.set_cons_succ]
            refine takeH (i := 12) (v := ?_) rfl (by kernel_rfl) (by kernel_rfl) (by kernel_rfl) (fun _ _ _ h => h) rfl ?_ (by assumption) ?_
            rotate_left
            · (intro w' hSw; (try dsimp only at hSw); go_simp; try with_reducible rfl)
            try simp only [Act.put, List.setIfInBounds_toArray, List.set_cons_zero, List.set_cons_succ]
            refine takeH (i := 13) (v := ?_) rfl (by kernel_rfl) (by kernel_rfl) (by kernel_rfl) (fun _ _ _ h => h) rfl ?_ (by assumption) ?_
            rotate_left
            · (intro w' hSw; (try dsimp only at hSw); go_simp; try with_reducible rfl)
            try simp only [Act.put, List.setIfInBounds_toArray, List.set_cons_zero, List.set_cons_succ]
            refine takeH (i := 14) (v := ?_) rfl (by kernel_rfl) (by kernel_rfl) (by kernel_rfl) (fun _ _ _ h => h) rfl ?_ (by assumption) ?_
            rotate_left
            · (intro w' hSw; (try dsimp only at hSw); go_simp; try with_reducible rfl)
            try simp only [Act.put, List.setIfInBounds_toArray, List.set_cons_zero, List.set_cons_succ]
            refine takeH (i := 15) (v := ?_) rfl (by kernel_rfl) (by kernel_rfl) (by kernel_rfl) (fun _ _ _ h => h) rfl ?_ (by assumption) ?_
            rotate_left
            · (intro w' hSw; (try dsimp only at hSw); go_simp; try with_reducible rfl)
            try simp only [Act.put, List.setIfInBounds_toArray, List.set_cons_zero, List.set_cons_succ]
            refine takeH (i := 16) (v := ?_) rfl (by kernel_rfl) (by kernel_rfl) (by kernel_rfl) (fun _ _ _ h => h) rfl ?_ (by assumption) ?_
            rotate_left
            · (intro w' hSw; (try dsimp only at hSw); go_simp; try with_reducible rfl)
            try simp only [Act.put, List.setIfInBounds_toArray, List.set_cons_zero, List.set_cons_succ]
            refine wpAnyH_ready (rs := [7, 17]) (by kernel_rfl) (by simp) ?_
            refine consH (i := 7) rfl (fun K hK => ?_) ?_
            · (go_simp; go_at_call 7; (with_reducible refine (HCG.out _ ?_).mono ?_); (focus (exact RowsAt.below hX (by repeat (first | with_reducible assumption | with_reducible exact Below.refl _ _ | with_reducible refine Below.drew ?_ | (with_reducible refine below_alloc _ (by first | exact hNBi | exact Nat.le_refl _) ?_) | with_reducible refine below_drewN ?_ _ | (with_reducible refine below_call (by with_reducible assumption) (by first | exact hNBi | exact Nat.le_refl _) ?_))))); rintro e v4 ⟨A4, c4, rfl, own4, k4⟩; (have hB4 : Below NB wi v4 := (by repeat (first | with_reducible assumption | with_reducible exact Below.refl _ _ | with_reducible refine Below.drew ?_ | (with_reducible refine below_alloc _ (by first | exact hNBi | exact Nat.le_refl _) ?_) | with_reducible refine below_drewN ?_ _ | (with_reducible refine below_call (by with_reducible assumption) (by first | exact hNBi | exact Nat.le_refl _) ?_)))); (have z4 : wi.heap.size ≤ v4.heap.size := hB4.size); (have fb04 := cell_low hB4 hbbN b0); (have fb14 := cell_low hB4 hbbN b1); (have fx04 := cell_low hB4 hxN x0o); (have fx14 := cell_low hB4 hxN x1o); (have fcx4 := cell_low hB4 hbN9 cx); (have fy04 := cell_low hB4 hbN2 y0); (have zb4 := World.block_lt_of_cell? _ _ fb04); (have zx4 := World.block_lt_of_cell? _ _ fx04); (have zc4 := World.block_lt_of_cell? _ _ fcx4); (have zy4 := World.block_lt_of_cell? _ _ fy04); (have HK4 : Hid (BkC NB v4 A' c' gs B' d' us ⟨A4, lx, c4⟩) := Lib.hid (BkAt.copied (BkAt.below hbki.out (by repeat (first | with_reducible assumption | with_reducible exact Below.refl _ _ | with_reducible refine Below.drew ?_ | (with_reducible refine below_alloc _ (by first | exact hNBi | exact Nat.le_refl _) ?_) | with_reducible refine below_drewN ?_ _ | (with_reducible refine below_call (by with_reducible assumption) (by first | exact hNBi | exact Nat.le_refl _) ?_)))) k4 (Nat.le_trans hNBi (Below.size (B := NB) (w := wi) (by repeat (first | with_reducible assumption | with_reducible exact Below.refl _ _ | with_reducible refine Below.drew ?_ | (with_reducible refine below_alloc _ (by first | exact hNBi | exact Nat.le_refl _) ?_) | with_reducible refine below_drewN ?_ _ | (with_reducible refine below_call (by with_reducible assumption) (by first | exact hNBi | exact Nat.le_refl _) ?_))))) own4)))
              refine hK.out _ _ ?_ (fun hHeld => ?_)
              · exact ⟨cell_low (B := NB) (a := wi) (by repeat (first | with_reducible assumption | with_reducible exact Below.refl _ _ | with_reducible refine Below.drew ?_ | (with_reducible refine below_alloc _ (by first | exact hNBi | exact Nat.le_refl _) ?_) | with_reducible refine below_drewN ?_ _ | (with_reducible refine below_call (by with_reducible assumption) (by first | exact hNBi | exact Nat.le_refl _) ?_))) hbbN b0, cell_low (B := NB) (a := wi) (by repeat (first | with_reducible assumption | with_reducible exact Below.refl _ _ | with_reducible refine Below.drew ?_ | (with_reducible refine below_alloc _ (by first | exact hNBi | exact Nat.le_refl _) ?_) | with_reducible refine below_drewN ?_ _ | (with_reducible refine below_call (by with_reducible assumption) (by first | exact hNBi | exact Nat.le_refl _) ?_))) hbbN b1, cell_low (B := NB) (a := wi) (by repeat (first | with_reducible assumption | with_reducible exact Below.refl _ _ | with_reducible refine Below.drew ?_ | (with_reducible refine below_alloc _ (by first | exact hNBi | exact Nat.le_refl _) ?_) | with_reducible refine below_drewN ?_ _ | (with_reducible refine below_call (by with_reducible assumption) (by first | exact hNBi | exact Nat.le_refl _) ?_))) hxN x0o, cell_low (B := NB) (a := wi) (by repeat (first | with_reducible assumption | with_reducible exact Below.refl _ _ | with_reducible refine Below.drew ?_ | (with_reducible refine below_alloc _ (by first | exact hNBi | exact Nat.le_refl _) ?_) | with_reducible refine below_drewN ?_ _ | (with_reducible refine below_call (by with_reducible assumption) (by first | exact hNBi | exact Nat.le_refl _) ?_))) hxN x1o, cell_low (B := NB) (a := wi) (by repeat (first | with_reducible assumption | with_reducible exact Below.refl _ _ | with_reducible refine Below.drew ?_ | (with_reducible refine below_alloc _ (by first | exact hNBi | exact Nat.le_refl _) ?_) | with_reducible refine below_drewN ?_ _ | (with_reducible refine below_call (by with_reducible assumption) (by first | exact hNBi | exact Nat.le_refl _) ?_))) hbN9 cx, cell_low (B := NB) (a := wi) (by repeat (first | with_reducible assumption | with_reducible exact Below.refl _ _ | with_reducible refine Below.drew ?_ | (with_reducible refine below_alloc _ (by first | exact hNBi | exact Nat.le_refl _) ?_) | with_reducible refine below_drewN ?_ _ | (with_reducible refine below_call (by with_reducible assumption) (by first | exact hNBi | exact Nat.le_refl _) ?_))) hbN2 y0⟩
              clear hK K
              try simp only [Act.put, List.setIfInBounds_toArray, List.set_cons_zero, List.set_cons_succ]
              refine wpAnyH_ready (rs := [8, 17]) (by kernel_rfl) (by simp) ?_
              refine consH (i := 8) rfl (fun K hK => ?_) ?_
              · go_simp
                refine hK.out _ _ ?_ (fun hHeld => ?_)
                · exact ⟨cell_low (B := NB) (a := wi) (by repeat (first | with_reducible assumption | with_reducible exact Below.refl _ _ | with_reducible refine Below.drew ?_ | (with_reducible refine below_alloc _ (by first | exact hNBi | exact Nat.le_refl _) ?_) | with_reducible refine below_drewN ?_ _ | (with_reducible refine below_call (by with_reducible assumption) (by first | exact hNBi | exact Nat.le_refl _) ?_))) hbbN b0, cell_low (B := NB) (a := wi) (by repeat (first | with_reducible assumption | with_reducible exact Below.refl _ _ | with_reducible refine Below.drew ?_ | (with_reducible refine below_alloc _ (by first | exact hNBi | exact Nat.le_refl _) ?_) | with_reducible refine below_drewN ?_ _ | (with_reducible refine below_call (by with_reducible assumption) (by first | exact hNBi | exact Nat.le_refl _) ?_))) hbbN b1, cell_low (B := NB) (a := wi) (by repeat (first | with_reducible assumption | with_reducible exact Below.refl _ _ | with_reducible refine Below.drew ?_ | (with_reducible refine below_alloc _ (by first | exact hNBi | exact Nat.le_refl _) ?_) | with_reducible refine below_drewN ?_ _ | (with_reducible refine below_call (by with_reducible assumption) (by first | exact hNBi | exact Nat.le_refl _) ?_))) hxN x0o, cell_low (B := NB) (a := wi) (by repeat (first | with_reducible assumption | with_reducible exact Below.refl _ _ | with_reducible refine Below.drew ?_ | (with_reducible refine below_alloc _ (by first | exact hNBi | exact Nat.le_refl _) ?_) | with_reducible refine below_drewN ?_ _ | (with_reducible refine below_call (by with_reducible assumption) (by first | exact hNBi | exact Nat.le_refl _) ?_))) hxN x1o, cell_low (B := NB) (a := wi) (by repeat (first | with_reducible assumption | with_reducible exact Below.refl _ _ | with_reducible refine Below.drew ?_ | (with_reducible refine below_alloc _ (by first | exact hNBi | exact Nat.le_refl _) ?_) | with_reducible refine below_drewN ?_ _ | (with_reducible refine below_call (by with_reducible assumption) (by first | exact hNBi | exact Nat.le_refl _) ?_))) hbN9 cx, cell_low (B := NB) (a := wi) (by repeat (first | with_reducible assumption | with_reducible exact Below.refl _ _ | with_reducible refine Below.drew ?_ | (with_reducible refine below_alloc _ (by first | exact hNBi | exact Nat.le_refl _) ?_) | with_reducible refine below_drewN ?_ _ | (with_reducible refine below_call (by with_reducible assumption) (by first | exact hNBi | exact Nat.le_refl _) ?_))) hbN2 y0⟩
                clear hK K
                try simp only [Act.put, List.setIfInBounds_toArray, List.set_cons_zero, List.set_cons_succ]
                refine wpAnyH_ready (rs := [9, 17]) (by kernel_rfl) (by simp) ?_
                refine consH (i := 9) rfl (fun K hK => ?_) ?_
                · (refine step_append_rows _ rfl (.tmp 63) (.tmp 70) 22 rfl NB 28 i1 (.slice none 0 0) 1 24 Tryd.underlying22 HI1.out HZ3.out HZ4.out HZ5.out rfl (by decide) A' gs.length c' (cellsOf 1 frC gs) rfl (BkAt.f (BkC.b (BkC.below HK4.out (by repeat (first | with_reducible assumption | with_reducible exact Below.refl _ _ | with_reducible refine Below.drew ?_ | (with_reducible refine below_alloc _ (by first | exact hNBi | exact Nat.le_refl _) ?_) | with_reducible refine below_drewN ?_ _ | (with_reducible refine below_call (by with_reducible assumption) (by first | exact hNBi | exact Nat.le_refl _) ?_)))))) (some ⟨_, 0, none⟩) 1 1 [.slice A4 lx.length c4] rfl rfl (fun h => by cases h) (fun ad h => by cases h; exact newsFr (x := ⟨A4, lx, c4⟩) (by first | exact blk_new rfl | exact blk_new (by simp) | exact blk_alloc _ (blk_new rfl) | exact blk_alloc _ (blk_new (by simp)))) (fun u hu => by simp at hu; subst hu <;> rfl) (by unfold maxLen; omega) (by omega) (Nat.le_trans hNBi (Below.size (B := NB) (w := wi) (by repeat (first | with_reducible assumption | with_reducible exact Below.refl _ _ | with_reducible refine Below.drew ?_ | (with_reducible refine below_alloc _ (by first | exact hNBi | exact Nat.le_refl _) ?_) | with_reducible refine below_drewN ?_ _ | (with_reducible refine below_call (by with_reducible assumption) (by first | exact hNBi | exact Nat.le_refl _) ?_))))) ?_; intro A5 c5 v5 h1 h2' h3; (have HK5 : Hid (BkAt NB v5 A5 c5 (gs ++ [⟨A4, lx, c4⟩]) B' d' us) := Lib.hid (BkC.grow (BkC.below HK4.out (by repeat (first | with_reducible assumption | with_reducible exact Below.refl _ _ | with_reducible refine Below.drew ?_ | (with_reducible refine below_alloc _ (by first | exact hNBi | exact Nat.le_refl _) ?_) | with_reducible refine below_drewN ?_ _ | (with_reducible refine below_call (by with_reducible assumption) (by first | exact hNBi | exact Nat.le_refl _) ?_)))) h1 h2' h3)); (have hB5 : Below NB wi v5 := below_own (by repeat (first | with_reducible assumption | with_reducible exact Below.refl _ _ | with_reducible refine Below.drew ?_ | (with_reducible refine below_alloc _ (by first | exact hNBi | exact Nat.le_refl _) ?_) | with_reducible refine below_drewN ?_ _ | (with_reducible refine below_call (by with_reducible assumption) (by first | exact hNBi | exact Nat.le_refl _) ?_))) h2' (BkAt.f (BkC.b (BkC.below HK4.out (by repeat (first | with_reducible assumption | with_reducible exact Below.refl _ _ | with_reducible refine Below.drew ?_ | (with_reducible refine below_alloc _ (by first | exact hNBi | exact Nat.le_refl _) ?_) | with_reducible refine below_drewN ?_ _ | (with_reducible refine below_call (by with_reducible assumption) (by first | exact hNBi | exact Nat.le_refl _) ?_)))))) (Nat.le_refl _) (Nat.le_trans hNBi (Below.size (B := NB) (w := wi) (by repeat (first | with_reducible assumption | with_reducible exact Below.refl _ _ | with_reducible refine Below.drew ?_ | (with_reducible refine below_alloc _ (by first | exact hNBi | exact Nat.le_refl _) ?_) | with_reducible refine below_drewN ?_ _ | (with_reducible refine below_call (by with_reducible assumption) (by first | exact hNBi | exact Nat.le_refl _) ?_)))))); (have z5 : wi.heap.size ≤ v5.heap.size := hB5.size); (have fb05 := cell_low hB5 hbbN b0); (have fb15 := cell_low hB5 hbbN b1); (have fx05 := cell_low hB5 hxN x0o); (have fx15 := cell_low hB5 hxN x1o); (have fcx5 := cell_low hB5 hbN9 cx); (have fy05 := cell_low hB5 hbN2 y0); (have zb5 := World.block_lt_of_cell? _ _ fb05); (have zx5 := World.block_lt_of_cell? _ _ fx05); (have zc5 := World.block_lt_of_cell? _ _ fcx5); (have zy5 := World.block_lt_of_cell? _ _ fy05); (try have hv5 : v5.heap[wi.heap.size]? = some (.cells #[.int .i64 t] 3) := (h2'.block _ (by first | (simp; done) | (simp; omega)) (fun e => by have := (hbki.out.f.lt _ e.symm).2; omega)).trans (blk_alloc _ (blk_below' k4 (show _ from blk_new rfl)))); (try have hv5 : v5.heap[v4.heap.size]? = some (.cells #[.int .i64 t] 3) := (h2'.block _ (by first | (simp; done) | (simp; omega)) (fun e => by have := (hbki.out.f.lt _ e.symm).2; omega)).trans (blk_alloc _ (blk_new rfl))); (try have hv5 : v5.heap[v4.heap.size + 1]? = some (.cells #[.int .i64 t] 3) := (h2'.block _ (by first | (simp; done) | (simp; omega)) (fun e => by have := (hbki.out.f.lt _ e.symm).2; omega)).trans (blk_new (by simp))))
                  refine hK.out _ _ ?_ (fun hHeld => ?_)
                  · exact ⟨cell_low (B := NB) (a := wi) (by repeat (first | with_reducible assumption | with_reducible exact Below.refl _ _ | with_reducible refine Below.drew ?_ | (with_reducible refine below_alloc _ (by first | exact hNBi | exact Nat.le_refl _) ?_) | with_reducible refine below_drewN ?_ _ | (with_reducible refine below_call (by with_reducible assumption) (by first | exact hNBi | exact Nat.le_refl _) ?_))) hbbN b0, cell_low (B := NB) (a := wi) (by repeat (first | with_reducible assumption | with_reducible exact Below.refl _ _ | with_reducible refine Below.drew ?_ | (with_reducible refine below_alloc _ (by first | exact hNBi | exact Nat.le_refl _) ?_) | with_reducible refine below_drewN ?_ _ | (with_reducible refine below_call (by with_reducible assumption) (by first | exact hNBi | exact Nat.le_refl _) ?_))) hbbN b1, cell_low (B := NB) (a := wi) (by repeat (first | with_reducible assumption | with_reducible exact Below.refl _ _ | with_reducible refine Below.drew ?_ | (with_reducible refine below_alloc _ (by first | exact hNBi | exact Nat.le_refl _) ?_) | with_reducible refine below_drewN ?_ _ | (with_reducible refine below_call (by with_reducible assumption) (by first | exact hNBi | exact Nat.le_refl _) ?_))) hxN x0o, cell_low (B := NB) (a := wi) (by repeat (first | with_reducible assumption | with_reducible exact Below.refl _ _ | with_reducible refine Below.drew ?_ | (with_reducible refine below_alloc _ (by first | exact hNBi | exact Nat.le_refl _) ?_) | with_reducible refine below_drewN ?_ _ | (with_reducible refine below_call (by with_reducible assumption) (by first | exact hNBi | exact Nat.le_refl _) ?_))) hxN x1o, cell_low (B := NB) (a := wi) (by repeat (first | with_reducible assumption | with_reducible exact Below.refl _ _ | with_reducible refine Below.drew ?_ | (with_reducible refine below_alloc _ (by first | exact hNBi | exact Nat.le_refl _) ?_) | with_reducible refine below_drewN ?_ _ | (with_reducible refine below_call (by with_reducible assumption) (by first | exact hNBi | exact Nat.le_refl _) ?_))) hbN9 cx, cell_low (B := NB) (a := wi) (by repeat (first | with_reducible assumption | with_reducible exact Below.refl _ _ | with_reducible refine Below.drew ?_ | (with_reducible refine below_alloc _ (by first | exact hNBi | exact Nat.le_refl _) ?_) | with_reducible refine below_drewN ?_ _ | (with_reducible refine below_call (by with_reducible assumption) (by first | exact hNBi | exact Nat.le_refl _) ?_))) hbN2 y0⟩
                  clear hK K
                  try simp only [Act.put, List.setIfInBounds_toArray, List.set_cons_zero, List.set_cons_succ]
                  refine takeH (i := 19) (v := ?_) rfl (by kernel_rfl) (by kernel_rfl) (by kernel_rfl) (fun _ _ _ h => h) rfl ?_ (by assumption) ?_
                  rotate_left
                  · (intro w' hSw; (try dsimp only at hSw); go_simp; try with_reducible rfl)
                  try simp only [Act.put, List.setIfInBounds_toArray, List.set_cons_zero, List.set_cons_succ]
                  refine wpAnyH_ready (rs := [17]) (by kernel_rfl) (by simp) ?_
                  refine consH (i := 17) rfl (fun K hK => ?_) ?_
                  · go_simp
                    refine hK.out _ _ ?_ (fun hHeld => ?_)
                    · exact ⟨cell_low (B := NB) (a := wi) (by repeat (first | with_reducible assumption | with_reducible exact Below.refl _ _ | with_reducible refine Below.drew ?_ | (with_reducible refine below_alloc _ (by first | exact hNBi | exact Nat.le_refl _) ?_) | with_reducible refine below_drewN ?_ _ | (with_reducible refine below_call (by with_reducible assumption) (by first | exact hNBi | exact Nat.le_refl _) ?_))) hbbN b0, cell_low (B := NB) (a := wi) (by repeat (first | with_reducible assumption | with_reducible exact Below.refl _ _ | with_reducible refine Below.drew ?_ | (with_reducible refine below_alloc _ (by first | exact hNBi | exact Nat.le_refl _) ?_) | with_reducible refine below_drewN ?_ _ | (with_reducible refine below_call (by with_reducible assumption) (by first | exact hNBi | exact Nat.le_refl _) ?_))) hbbN b1, cell_low (B := NB) (a := wi) (by repeat (first | with_reducible assumption | with_reducible exact Below.refl _ _ | with_reducible refine Below.drew ?_ | (with_reducible refine below_alloc _ (by first | exact hNBi | exact Nat.le_refl _) ?_) | with_reducible refine below_drewN ?_ _ | (with_reducible refine below_call (by with_reducible assumption) (by first | exact hNBi | exact Nat.le_refl _) ?_))) hxN x0o, cell_low (B := NB) (a := wi) (by repeat (first | with_reducible assumption | with_reducible exact Below.refl _ _ | with_reducible refine Below.drew ?_ | (with_reducible refine below_alloc _ (by first | exact hNBi | exact Nat.le_refl _) ?_) | with_reducible refine below_drewN ?_ _ | (with_reducible refine below_call (by with_reducible assumption) (by first | exact hNBi | exact Nat.le_refl _) ?_))) hxN x1o, cell_low (B := NB) (a := wi) (by repeat (first | with_reducible assumption | with_reducible exact Below.refl _ _ | with_reducible refine Below.drew ?_ | (with_reducible refine below_alloc _ (by first | exact hNBi | exact Nat.le_refl _) ?_) | with_reducible refine below_drewN ?_ _ | (with_reducible refine below_call (by with_reducible assumption) (by first | exact hNBi | exact Nat.le_refl _) ?_))) hbN9 cx, cell_low (B := NB) (a := wi) (by repeat (first | with_reducible assumption | with_reducible exact Below.refl _ _ | with_reducible refine Below.drew ?_ | (with_reducible refine below_alloc _ (by first | exact hNBi | exact Nat.le_refl _) ?_) | with_reducible refine below_drewN ?_ _ | (with_reducible refine below_call (by with_reducible assumption) (by first | exact hNBi | exact Nat.le_refl _) ?_))) hbN2 y0⟩
                    clear hK K
                    try simp only [Act.put, List.setIfInBounds_toArray, List.set_cons_zero, List.set_cons_succ]
                    refine wpAnyH_ready (rs := [18]) (by kernel_rfl) (by simp) ?_
                    refine consH (i := 18) rfl (fun K hK => ?_) ?_
                    · (refine step_append_rows _ rfl (.tmp 73) (.tmp 79) 23 rfl NB 3 i0 (.int .i64 0) 1 8 Tryd.underlying23 HI.out HZ0.out HZ1.out HZ2.out rfl (by decide) B' us.length d' (cellsOf 1 intC us) rfl (BkAt.t (BkAt.below HK5.out (by repeat (first | with_reducible assumption | with_reducible exact Below.refl _ _ | with_reducible refine Below.drew ?_ | (with_reducible refine below_alloc _ (by first | exact hNBi | exact Nat.le_refl _) ?_) | with_reducible refine below_drewN ?_ _ | (with_reducible refine below_call (by with_reducible assumption) (by first | exact hNBi | exact Nat.le_refl _) ?_))))) (some ⟨_, 0, none⟩) 1 1 [.int .i64 t] rfl rfl (fun h => by cases h) (fun ad h => by cases h; exact newsI (by first | exact hv5 | exact blk_new rfl)) (fun u hu => by simp at hu; subst hu <;> rfl) (by unfold maxLen; omega) (by omega) (Nat.le_trans hNBi (Below.size (B := NB) (w := wi) (by repeat (first | with_reducible assumption | with_reducible exact Below.refl _ _ | with_reducible refine Below.drew ?_ | (with_reducible refine below_alloc _ (by first | exact hNBi | exact Nat.le_refl _) ?_) | with_reducible refine below_drewN ?_ _ | (with_reducible refine below_call (by with_reducible assumption) (by first | exact hNBi | exact Nat.le_refl _) ?_))))) ?_; intro A6 c6 v6 g1 g2 g3; (have HK6 : Hid (BkAt NB v6 A5 c5 (gs ++ [⟨A4, lx, c4⟩]) A6 c6 (us ++ [t])) := Lib.hid (BkAt.growT (BkAt.below HK5.out (by repeat (first | with_reducible assumption | with_reducible exact Below.refl _ _ | with_reducible refine Below.drew ?_ | (with_reducible refine below_alloc _ (by first | exact hNBi | exact Nat.le_refl _) ?_) | with_reducible refine below_drewN ?_ _ | (with_reducible refine below_call (by with_reducible assumption) (by first | exact hNBi | exact Nat.le_refl _) ?_)))) g1 g2 g3)); (have hB6 : Below NB wi v6 := below_own (by repeat (first | with_reducible assumption | with_reducible exact Below.refl _ _ | with_reducible refine Below.drew ?_ | (with_reducible refine below_alloc _ (by first | exact hNBi | exact Nat.le_refl _) ?_) | with_reducible refine below_drewN ?_ _ | (with_reducible refine below_call (by with_reducible assumption) (by first | exact hNBi | exact Nat.le_refl _) ?_))) g2 (BkAt.t (BkAt.below HK5.out (by repeat (first | with_reducible assumption | with_reducible exact Below.refl _ _ | with_reducible refine Below.drew ?_ | (with_reducible refine below_alloc _ (by first | exact hNBi | exact Nat.le_refl _) ?_) | with_reducible refine below_drewN ?_ _ | (with_reducible refine below_call (by with_reducible assumption) (by first | exact hNBi | exact Nat.le_refl _) ?_))))) (Nat.le_refl _) (Nat.le_trans hNBi (Below.size (B := NB) (w := wi) (by repeat (first | with_reducible assumption | with_reducible exact Below.refl _ _ | with_reducible refine Below.drew ?_ | (with_reducible refine below_alloc _ (by first | exact hNBi | exact Nat.le_refl _) ?_) | with_reducible refine below_drewN ?_ _ | (with_reducible refine below_call (by with_reducible assumption) (by first | exact hNBi | exact Nat.le_refl _) ?_)))))); (have v60 := cell_low hB6 hbbN b0); (have v61 := cell_low hB6 hbbN b1); (have vf0 := frozen_below hB6 hbbN bf0); (have vf1 := frozen_below hB6 hbbN bf1); (have z6 := World.block_lt_of_cell? _ _ v60))
                      refine hK.out _ _ ?_ (fun hHeld => ?_)
                      · exact ⟨cell_low (B := NB) (a := wi) (by repeat (first | with_reducible assumption | with_reducible exact Below.refl _ _ | with_reducible refine Below.drew ?_ | (with_reducible refine below_alloc _ (by first | exact hNBi | exact Nat.le_refl _) ?_) | with_reducible refine below_drewN ?_ _ | (with_reducible refine below_call (by with_reducible assumption) (by first | exact hNBi | exact Nat.le_refl _) ?_))) hbbN b0, cell_low (B := NB) (a := wi) (by repeat (first | with_reducible assumption | with_reducible exact Below.refl _ _ | with_reducible refine Below.drew ?_ | (with_reducible refine below_alloc _ (by first | exact hNBi | exact Nat.le_refl _) ?_) | with_reducible refine below_drewN ?_ _ | (with_reducible refine below_call (by with_reducible assumption) (by first | exact hNBi | exact Nat.le_refl _) ?_))) hbbN b1, cell_low (B := NB) (a := wi) (by repeat (first | with_reducible assumption | with_reducible exact Below.refl _ _ | with_reducible refine Below.drew ?_ | (with_reducible refine below_alloc _ (by first | exact hNBi | exact Nat.le_refl _) ?_) | with_reducible refine below_drewN ?_ _ | (with_reducible refine below_call (by with_reducible assumption) (by first | exact hNBi | exact Nat.le_refl _) ?_))) hxN x0o, cell_low (B := NB) (a := wi) (by repeat (first | with_reducible assumption | with_reducible exact Below.refl _ _ | with_reducible refine Below.drew ?_ | (with_reducible refine below_alloc _ (by first | exact hNBi | exact Nat.le_refl _) ?_) | with_reducible refine below_drewN ?_ _ | (with_reducible refine below_call (by with_reducible assumption) (by first | exact hNBi | exact Nat.le_refl _) ?_))) hxN x1o, cell_low (B := NB) (a := wi) (by repeat (first | with_reducible assumption | with_reducible exact Below.refl _ _ | with_reducible refine Below.drew ?_ | (with_reducible refine below_alloc _ (by first | exact hNBi | exact Nat.le_refl _) ?_) | with_reducible refine below_drewN ?_ _ | (with_reducible refine below_call (by with_reducible assumption) (by first | exact hNBi | exact Nat.le_refl _) ?_))) hbN9 cx, cell_low (B := NB) (a := wi) (by repeat (first | with_reducible assumption | with_reducible exact Below.refl _ _ | with_reducible refine Below.drew ?_ | (with_reducible refine below_alloc _ (by first | exact hNBi | exact Nat.le_refl _) ?_) | with_reducible refine below_drewN ?_ _ | (with_reducible refine below_call (by with_reducible assumption) (by first | exact hNBi | exact Nat.le_refl _) ?_))) hbN2 y0⟩
                      clear hK K
                      try simp only [Act.put, List.setIfInBounds_toArray, List.set_cons_zero, List.set_cons_succ]
                      refine wpAnyH_done (by kernel_rfl) ?_ _
                      go_wp2_with (fail)
                      go_meet
                      exact ⟨A5, c5, A6, c6, A4, c4, (HK6.out.set (show w2.heap.size < NB from hbbN) _).set (show w2.heap.size < NB from hbbN) _, cell_next (by decide) (cell_same v60), cell_same (cell_next (by decide) v61), frozen_set _ _ (frozen_set _ _ vf0), frozen_set _ _ (frozen_set _ _ vf1), ((GxAt.low hB6 hbqN HGI.out).far (Nat.ne_of_lt zbq)).far (Nat.ne_of_lt zbq), by simpa using Nat.le_trans hNBi hB6.size, below_set _ (Nat.le_refl _) (below_set _ (Nat.le_refl _) (hri.trans (hB6.mono (Nat.le_of_lt hbbN))))⟩
                    exact AllReadyH.nil
                  exact AllReadyH.nil
                refine consH (i := 17) rfl (fun K hK => ?_) ?_
                · go_simp
                  refine hK.out _ _ ?_ (fun hHeld => ?_)
                  · exact ⟨cell_low (B := NB) (a := wi) (by repeat (first | with_reducible assumption | with_reducible exact Below.refl _ _ | with_reducible refine Below.drew ?_ | (with_reducible refine below_alloc _ (by first | exact hNBi | exact Nat.le_refl _) ?_) | with_reducible refine below_drewN ?_ _ | (with_reducible refine below_call (by with_reducible assumption) (by first | exact hNBi | exact Nat.le_refl _) ?_))) hbbN b0, cell_low (B := NB) (a := wi) (by repeat (first | with_reducible assumption | with_reducible exact Below.refl _ _ | with_reducible refine Below.drew ?_ | (with_reducible refine below_alloc _ (by first | exact hNBi | exact Nat.le_refl _) ?_) | with_reducible refine below_drewN ?_ _ | (with_reducible refine below_call (by with_reducible assumption) (by first | exact hNBi | exact Nat.le_refl _) ?_))) hbbN b1, cell_low (B := NB) (a := wi) (by repeat (first | with_reducible assumption | with_reducible exact Below.refl _ _ | with_reducible refine Below.drew ?_ | (with_reducible refine below_alloc _ (by first | exact hNBi | exact Nat.le_refl _) ?_) | with_reducible refine below_drewN ?_ _ | (with_reducible refine below_call (by with_reducible assumption) (by first | exact hNBi | exact Nat.le_refl _) ?_))) hxN x0o, cell_low (B := NB) (a := wi) (by repeat (first | with_reducible assumption | with_reducible exact Below.refl _ _ | with_reducible refine Below.drew ?_ | (with_reducible refine below_alloc _ (by first | exact hNBi | exact Nat.le_refl _) ?_) | with_reducible refine below_drewN ?_ _ | (with_reducible refine below_call (by with_reducible assumption) (by first | exact hNBi | exact Nat.le_refl _) ?_))) hxN x1o, cell_low (B := NB) (a := wi) (by repeat (first | with_reducible assumption | with_reducible exact Below.refl _ _ | with_reducible refine Below.drew ?_ | (with_reducible refine below_alloc _ (by first | exact hNBi | exact Nat.le_refl _) ?_) | with_reducible refine below_drewN ?_ _ | (with_reducible refine below_call (by with_reducible assumption) (by first | exact hNBi | exact Nat.le_refl _) ?_))) hbN9 cx, cell_low (B := NB) (a := wi) (by repeat (first | with_reducible assumption | with_reducible exact Below.refl _ _ | with_reducible refine Below.drew ?_ | (with_reducible refine below_alloc _ (by first | exact hNBi | exact Nat.le_refl _) ?_) | with_reducible refine below_drewN ?_ _ | (with_reducible refine below_call (by with_reducible assumption) (by first | exact hNBi | exact Nat.le_refl _) ?_))) hbN2 y0⟩
                  clear hK K
                  try simp only [Act.put, List.setIfInBounds_toArray, List.set_cons_zero, List.set_cons_succ]
                  refine wpAnyH_ready (rs := [9]) (by kernel_rfl) (by simp) ?_
                  refine consH (i := 9) rfl (fun K hK => ?_) ?_
                  · (refine step_append_rows _ rfl (.tmp 63) (.tmp 70) 22 rfl NB 28 i1 (.slice none 0 0) 1 24 Tryd.underlying22 HI1.out HZ3.out HZ4.out HZ5.out rfl (by decide) A' gs.length c' (cellsOf 1 frC gs) rfl (BkAt.f (BkC.b (BkC.below HK4.out (by repeat (first | with_reducible assumption | with_reducible exact Below.refl _ _ | with_reducible refine Below.drew ?_ | (with_reducible refine below_alloc _ (by first | exact hNBi | exact Nat.le_refl _) ?_) | with_reducible refine below_drewN ?_ _ | (with_reducible refine below_call (by with_reducible assumption) (by first | exact hNBi | exact Nat.le_refl _) ?_)))))) (some ⟨_, 0, none⟩) 1 1 [.slice A4 lx.length c4] rfl rfl (fun h => by cases h) (fun ad h => by cases h; exact newsFr (x := ⟨A4, lx, c4⟩) (by first | exact blk_new rfl | exact blk_new (by simp) | exact blk_alloc _ (blk_new rfl) | exact blk_alloc _ (blk_new (by simp)))) (fun u hu => by simp at hu; subst hu <;> rfl) (by unfold maxLen; omega) (by omega) (Nat.le_trans hNBi (Below.size (B := NB) (w := wi) (by repeat (first | with_reducible assumption | with_reducible exact Below.refl _ _ | with_reducible refine Below.drew ?_ | (with_reducible refine below_alloc _ (by first | exact hNBi | exact Nat.le_refl _) ?_) | with_reducible refine below_drewN ?_ _ | (with_reducible refine below_call (by with_reducible assumption) (by first | exact hNBi | exact Nat.le_refl _) ?_))))) ?_; intro A5 c5 v5 h1 h2' h3; (have HK5 : Hid (BkAt NB v5 A5 c5 (gs ++ [⟨A4, lx, c4⟩]) B' d' us) := Lib.hid (BkC.grow (BkC.below HK4.out (by repeat (first | with_reducible assumption | with_reducible exact Below.refl _ _ | with_reducible refine Below.drew ?_ | (with_reducible refine below_alloc _ (by first | exact hNBi | exact Nat.le_refl _) ?_) | with_reducible refine below_drewN ?_ _ | (with_reducible refine below_call (by with_reducible assumption) (by first | exact hNBi | exact Nat.le_refl _) ?_)))) h1 h2' h3)); (have hB5 : Below NB wi v5 := below_own (by repeat (first | with_reducible assumption | with_reducible exact Below.refl _ _ | with_reducible refine Below.drew ?_ | (with_reducible refine below_alloc _ (by first | exact hNBi | exact Nat.le_refl _) ?_) | with_reducible refine below_drewN ?_ _ | (with_reducible refine below_call (by with_reducible assumption) (by first | exact hNBi | exact Nat.le_refl _) ?_))) h2' (BkAt.f (BkC.b (BkC.below HK4.out (by repeat (first | with_reducible assumption | with_reducible exact Below.refl _ _ | with_reducible refine Below.drew ?_ | (with_reducible refine below_alloc _ (by first | exact hNBi | exact Nat.le_refl _) ?_) | with_reducible refine below_drewN ?_ _ | (with_reducible refine below_call (by with_reducible assumption) (by first | exact hNBi | exact Nat.le_refl _) ?_)))))) (Nat.le_refl _) (Nat.le_trans hNBi (Below.size (B := NB) (w := wi) (by repeat (first | with_reducible assumption | with_reducible exact Below.refl _ _ | with_reducible refine Below.drew ?_ | (with_reducible refine below_alloc _ (by first | exact hNBi | exact Nat.le_refl _) ?_) | with_reducible refine below_drewN ?_ _ | (with_reducible refine below_call (by with_reducible assumption) (by first | exact hNBi | exact Nat.le_refl _) ?_)))))); (have z5 : wi.heap.size ≤ v5.heap.size := hB5.size); (have fb05 := cell_low hB5 hbbN b0); (have fb15 := cell_low hB5 hbbN b1); (have fx05 := cell_low hB5 hxN x0o); (have fx15 := cell_low hB5 hxN x1o); (have fcx5 := cell_low hB5 hbN9 cx); (have fy05 := cell_low hB5 hbN2 y0); (have zb5 := World.block_lt_of_cell? _ _ fb05); (have zx5 := World.block_lt_of_cell? _ _ fx05); (have zc5 := World.block_lt_of_cell? _ _ fcx5); (have zy5 := World.block_lt_of_cell? _ _ fy05); (try have hv5 : v5.heap[wi.heap.size]? = some (.cells #[.int .i64 t] 3) := (h2'.block _ (by first | (simp; done) | (simp; omega)) (fun e => by have := (hbki.out.f.lt _ e.symm).2; omega)).trans (blk_alloc _ (blk_below' k4 (show _ from blk_new rfl)))); (try have hv5 : v5.heap[v4.heap.size]? = some (.cells #[.int .i64 t] 3) := (h2'.block _ (by first | (simp; done) | (simp; omega)) (fun e => by have := (hbki.out.f.lt _ e.symm).2; omega)).trans (blk_alloc _ (blk_new rfl))); (try have hv5 : v5.heap[v4.heap.size + 1]? = some (.cells #[.int .i64 t] 3) := (h2'.block _ (by first | (simp; done) | (simp; omega)) (fun e => by have := (hbki.out.f.lt _ e.symm).2; omega)).trans (blk_new (by simp))))
                    refine hK.out _ _ ?_ (fun hHeld => ?_)
                    · exact ⟨cell_low (B := NB) (a := wi) (by repeat (first | with_reducible assumption | with_reducible exact Below.refl _ _ | with_reducible refine Below.drew ?_ | (with_reducible refine below_alloc _ (by first | exact hNBi | exact Nat.le_refl _) ?_) | with_reducible refine below_drewN ?_ _ | (with_reducible refine below_call (by with_reducible assumption) (by first | exact hNBi | exact Nat.le_refl _) ?_))) hbbN b0, cell_low (B := NB) (a := wi) (by repeat (first | with_reducible assumption | with_reducible exact Below.refl _ _ | with_reducible refine Below.drew ?_ | (with_reducible refine below_alloc _ (by first | exact hNBi | exact Nat.le_refl _) ?_) | with_reducible refine below_drewN ?_ _ | (with_reducible refine below_call (by with_reducible assumption) (by first | exact hNBi | exact Nat.le_refl _) ?_))) hbbN b1, cell_low (B := NB) (a := wi) (by repeat (first | with_reducible assumption | with_reducible exact Below.refl _ _ | with_reducible refine Below.drew ?_ | (with_reducible refine below_alloc _ (by first | exact hNBi | exact Nat.le_refl _) ?_) | with_reducible refine below_drewN ?_ _ | (with_reducible refine below_call (by with_reducible assumption) (by first | exact hNBi | exact Nat.le_refl _) ?_))) hxN x0o, cell_low (B := NB) (a := wi) (by repeat (first | with_reducible assumption | with_reducible exact Below.refl _ _ | with_reducible refine Below.drew ?_ | (with_reducible refine below_alloc _ (by first | exact hNBi | exact Nat.le_refl _) ?_) | with_reducible refine below_drewN ?_ _ | (with_reducible refine below_call (by with_reducible assumption) (by first | exact hNBi | exact Nat.le_refl _) ?_))) hxN x1o, cell_low (B := NB) (a := wi) (by repeat (first | with_reducible assumption | with_reducible exact Below.refl _ _ | with_reducible refine Below.drew ?_ | (with_reducible refine below_alloc _ (by first | exact hNBi | exact Nat.le_refl _) ?_) | with_reducible refine below_drewN ?_ _ | (with_reducible refine below_call (by with_reducible assumption) (by first | exact hNBi | exact Nat.le_refl _) ?_))) hbN9 cx, cell_low (B := NB) (a := wi) (by repeat (first | with_reducible assumption | with_reducible exact Below.refl _ _ | with_reducible refine Below.drew ?_ | (with_reducible refine below_alloc _ (by first | exact hNBi | exact Nat.le_refl _) ?_) | with_reducible refine below_drewN ?_ _ | (with_reducible refine below_call (by with_reducible assumption) (by first | exact hNBi | exact Nat.le_refl _) ?_))) hbN2 y0⟩
                    clear hK K
                    try simp only [Act.put, List.setIfInBounds_toArray, List.set_cons_zero, List.set_cons_succ]
                    refine takeH (i := 19) (v := ?_) rfl (by kernel_rfl) (by kernel_rfl) (by kernel_rfl) (fun _ _ _ h => h) rfl ?_ (by assumption) ?_
                    rotate_left
                    · (intro w' hSw; (try dsimp only at hSw); go_simp; try with_reducible rfl)
                    try simp only [Act.put, List.setIfInBounds_toArray, List.set_cons_zero, List.set_cons_succ]
                    refine wpAnyH_ready (rs := [18]) (by kernel_rfl) (by simp) ?_
                    refine consH (i := 18) rfl (fun K hK => ?_) ?_
                    · (refine step_append_rows _ rfl (.tmp 73) (.tmp 79) 23 rfl NB 3 i0 (.int .i64 0) 1 8 Tryd.underlying23 HI.out HZ0.out HZ1.out HZ2.out rfl (by decide) B' us.length d' (cellsOf 1 intC us) rfl (BkAt.t (BkAt.below HK5.out (by repeat (first | with_reducible assumption | with_reducible exact Below.refl _ _ | with_reducible refine Below.drew ?_ | (with_reducible refine below_alloc _ (by first | exact hNBi | exact Nat.le_refl _) ?_) | with_reducible refine below_drewN ?_ _ | (with_reducible refine below_call (by with_reducible assumption) (by first | exact hNBi | exact Nat.le_refl _) ?_))))) (some ⟨_, 0, none⟩) 1 1 [.int .i64 t] rfl rfl (fun h => by cases h) (fun ad h => by cases h; exact newsI (by first | exact hv5 | exact blk_new rfl)) (fun u hu => by simp at hu; subst hu <;> rfl) (by unfold maxLen; omega) (by omega) (Nat.le_trans hNBi (Below.size (B := NB) (w := wi) (by repeat (first | with_reducible assumption | with_reducible exact Below.refl _ _ | with_reducible refine Below.drew ?_ | (with_reducible refine below_alloc _ (by first | exact hNBi | exact Nat.le_refl _) ?_) | with_reducible refine below_drewN ?_ _ | (with_reducible refine below_call (by with_reducible assumption) (by first | exact hNBi | exact Nat.le_refl _) ?_))))) ?_; intro A6 c6 v6 g1 g2 g3; (have HK6 : Hid (BkAt NB v6 A5 c5 (gs ++ [⟨A4, lx, c4⟩]) A6 c6 (us ++ [t])) := Lib.hid (BkAt.growT (BkAt.below HK5.out (by repeat (first | with_reducible assumption | with_reducible exact Below.refl _ _ | with_reducible refine Below.drew ?_ | (with_reducible refine below_alloc _ (by first | exact hNBi | exact Nat.le_refl _) ?_) | with_reducible refine below_drewN ?_ _ | (with_reducible refine below_call (by with_reducible assumption) (by first | exact hNBi | exact Nat.le_refl _) ?_)))) g1 g2 g3)); (have hB6 : Below NB wi v6 := below_own (by repeat (first | with_reducible assumption | with_reducible exact Below.refl _ _ | with_reducible refine Below.drew ?_ | (with_reducible refine below_alloc _ (by first | exact hNBi | exact Nat.le_refl _) ?_) | with_reducible refine below_drewN ?_ _ | (with_reducible refine below_call (by with_reducible assumption) (by first | exact hNBi | exact Nat.le_refl _) ?_))) g2 (BkAt.t (BkAt.below HK5.out (by repeat (first | with_reducible assumption | with_reducible exact Below.refl _ _ | with_reducible refine Below.drew ?_ | (with_reducible refine below_alloc _ (by first | exact hNBi | exact Nat.le_refl _) ?_) | with_reducible refine below_drewN ?_ _ | (with_reducible refine below_call (by with_reducible assumption) (by first | exact hNBi | exact Nat.le_refl _) ?_))))) (Nat.le_refl _) (Nat.le_trans hNBi (Below.size (B := NB) (w := wi) (by repeat (first | with_reducible assumption | with_reducible exact Below.refl _ _ | with_reducible refine Below.drew ?_ | (with_reducible refine below_alloc _ (by first | exact hNBi | exact Nat.le_refl _) ?_) | with_reducible refine below_drewN ?_ _ | (with_reducible refine below_call (by with_reducible assumption) (by first | exact hNBi | exact Nat.le_refl _) ?_)))))); (have v60 := cell_low hB6 hbbN b0); (have v61 := cell_low hB6 hbbN b1); (have vf0 := frozen_below hB6 hbbN bf0); (have vf1 := frozen_below hB6 hbbN bf1); (have z6 := World.block_lt_of_cell? _ _ v60))
                      refine hK.out _ _ ?_ (fun hHeld => ?_)
                      · exact ⟨cell_low (B := NB) (a := wi) (by repeat (first | with_reducible assumption | with_reducible exact Below.refl _ _ | with_reducible refine Below.drew ?_ | (with_reducible refine below_alloc _ (by first | exact hNBi | exact Nat.le_refl _) ?_) | with_reducible refine below_drewN ?_ _ | (with_reducible refine below_call (by with_reducible assumption) (by first | exact hNBi | exact Nat.le_refl _) ?_))) hbbN b0, cell_low (B := NB) (a := wi) (by repeat (first | with_reducible assumption | with_reducible exact Below.refl _ _ | with_reducible refine Below.drew ?_ | (with_reducible refine below_alloc _ (by first | exact hNBi | exact Nat.le_refl _) ?_) | with_reducible refine below_drewN ?_ _ | (with_reducible refine below_call (by with_reducible assumption) (by first | exact hNBi | exact Nat.le_refl _) ?_))) hbbN b1, cell_low (B := NB) (a := wi) (by repeat (first | with_reducible assumption | with_reducible exact Below.refl _ _ | with_reducible refine Below.drew ?_ | (with_reducible refine below_alloc _ (by first | exact hNBi | exact Nat.le_refl _) ?_) | with_reducible refine below_drewN ?_ _ | (with_reducible refine below_call (by with_reducible assumption) (by first | exact hNBi | exact Nat.le_refl _) ?_))) hxN x0o, cell_low (B := NB) (a := wi) (by repeat (first | with_reducible assumption | with_reducible exact Below.refl _ _ | with_reducible refine Below.drew ?_ | (with_reducible refine below_alloc _ (by first | exact hNBi | exact Nat.le_refl _) ?_) | with_reducible refine below_drewN ?_ _ | (with_reducible refine below_call (by with_reducible assumption) (by first | exact hNBi | exact Nat.le_refl _) ?_))) hxN x1o, cell_low (B := NB) (a := wi) (by repeat (first | with_reducible assumption | with_reducible exact Below.refl _ _ | with_reducible refine Below.drew ?_ | (with_reducible refine below_alloc _ (by first | exact hNBi | exact Nat.le_refl _) ?_) | with_reducible refine below_drewN ?_ _ | (with_reducible refine below_call (by with_reducible assumption) (by first | exact hNBi | exact Nat.le_refl _) ?_))) hbN9 cx, cell_low (B := NB) (a := wi) (by repeat (first | with_reducible assumption | with_reducible exact Below.refl _ _ | with_reducible refine Below.drew ?_ | (with_reducible refine below_alloc _ (by first | exact hNBi | exact Nat.le_refl _) ?_) | with_reducible refine below_drewN ?_ _ | (with_reducible refine below_call (by with_reducible assumption) (by first | exact hNBi | exact Nat.le_refl _) ?_))) hbN2 y0⟩
                      clear hK K
                      try simp only [Act.put, List.setIfInBounds_toArray, List.set_cons_zero, List.set_cons_succ]
                      refine wpAnyH_done (by kernel_rfl) ?_ _
                      go_wp2_with (fail)
                      go_meet
                      exact ⟨A5, c5, A6, c6, A4, c4, (HK6.out.set (show w2.heap.size < NB from hbbN) _).set (show w2.heap.size < NB from hbbN) _, cell_next (by decide) (cell_same v60), cell_same (cell_next (by decide) v61), frozen_set _ _ (frozen_set _ _ vf0), frozen_set _ _ (frozen_set _ _ vf1), ((GxAt.low hB6 hbqN HGI.out).far (Nat.ne_of_lt zbq)).far (Nat.ne_of_lt zbq), by simpa using Nat.le_trans hNBi hB6.size, below_set _ (Nat.le_refl _) (below_set _ (Nat.le_refl _) (hri.trans (hB6.mono (Nat.le_of_lt hbbN))))⟩
                    exact AllReadyH.nil
                  exact AllReadyH.nil
                exact AllReadyH.nil
              refine consH (i := 17) rfl (fun K hK => ?_) ?_
              · go_simp
                refine hK.out _ _ ?_ (fun hHeld => ?_)
                · exact ⟨cell_low (B := NB) (a := wi) (by repeat (first | with_reducible assumption | with_reducible exact Below.refl _ _ | with_reducible refine Below.drew ?_ | (with_reducible refine below_alloc _ (by first | exact hNBi | exact Nat.le_refl _) ?_) | with_reducible refine below_drewN ?_ _ | (with_reducible refine below_call (by with_reducible assumption) (by first | exact hNBi | exact Nat.le_refl _) ?_))) hbbN b0, cell_low (B := NB) (a := wi) (by repeat (first | with_reducible assumption | with_reducible exact Below.refl _ _ | with_reducible refine Below.drew ?_ | (with_reducible refine below_alloc _ (by first | exact hNBi | exact Nat.le_refl _) ?_) | with_reducible refine below_drewN ?_ _ | (with_reducible refine below_call (by with_reducible assumption) (by first | exact hNBi | exact Nat.le_refl _) ?_))) hbbN b1, cell_low (B := NB) (a := wi) (by repeat (first | with_reducible assumption | with_reducible exact Below.refl _ _ | with_reducible refine Below.drew ?_ | (with_reducible refine below_alloc _ (by first | exact hNBi | exact Nat.le_refl _) ?_) | with_reducible refine below_drewN ?_ _ | (with_reducible refine below_call (by with_reducible assumption) (by first | exact hNBi | exact Nat.le_refl _) ?_))) hxN x0o, cell_low (B := NB) (a := wi) (by repeat (first | with_reducible assumption | with_reducible exact Below.refl _ _ | with_reducible refine Below.drew ?_ | (with_reducible refine below_alloc _ (by first | exact hNBi | exact Nat.le_refl _) ?_) | with_reducible refine below_drewN ?_ _ | (with_reducible refine below_call (by with_reducible assumption) (by first | exact hNBi | exact Nat.le_refl _) ?_))) hxN x1o, cell_low (B := NB) (a := wi) (by repeat (first | with_reducible assumption | with_reducible exact Below.refl _ _ | with_reducible refine Below.drew ?_ | (with_reducible refine below_alloc _ (by first | exact hNBi | exact Nat.le_refl _) ?_) | with_reducible refine below_drewN ?_ _ | (with_reducible refine below_call (by with_reducible assumption) (by first | exact hNBi | exact Nat.le_refl _) ?_))) hbN9 cx, cell_low (B := NB) (a := wi) (by repeat (first | with_reducible assumption | with_reducible exact Below.refl _ _ | with_reducible refine Below.drew ?_ | (with_reducible refine below_alloc _ (by first | exact hNBi | exact Nat.le_refl _) ?_) | with_reducible refine below_drewN ?_ _ | (with_reducible refine below_call (by with_reducible assumption) (by first | exact hNBi | exact Nat.le_refl _) ?_))) hbN2 y0⟩
                clear hK K
                try simp only [Act.put, List.setIfInBounds_toArray, List.set_cons_zero, List.set_cons_succ]
                refine wpAnyH_ready (rs := [8]) (by kernel_rfl) (by simp) ?_
                refine consH (i := 8) rfl (fun K hK => ?_) ?_
                · go_simp
                  refine hK.out _ _ ?_ (fun hHeld => ?_)
                  · exact ⟨cell_low (B := NB) (a := wi) (by repeat (first | with_reducible assumption | with_reducible exact Below.refl _ _ | with_reducible refine Below.drew ?_ | (with_reducible refine below_alloc _ (by first | exact hNBi | exact Nat.le_refl _) ?_) | with_reducible refine below_drewN ?_ _ | (with_reducible refine below_call (by with_reducible assumption) (by first | exact hNBi | exact Nat.le_refl _) ?_))) hbbN b0, cell_low (B := NB) (a := wi) (by repeat (first | with_reducible assumption | with_reducible exact Below.refl _ _ | with_reducible refine Below.drew ?_ | (with_reducible refine below_alloc _ (by first | exact hNBi | exact Nat.le_refl _) ?_) | with_reducible refine below_drewN ?_ _ | (with_reducible refine below_call (by with_reducible assumption) (by first | exact hNBi | exact Nat.le_refl _) ?_))) hbbN b1, cell_low (B := NB) (a := wi) (by repeat (first | with_reducible assumption | with_reducible exact Below.refl _ _ | with_reducible refine Below.drew ?_ | (with_reducible refine below_alloc _ (by first | exact hNBi | exact Nat.le_refl _) ?_) | with_reducible refine below_drewN ?_ _ | (with_reducible refine below_call (by with_reducible assumption) (by first | exact hNBi | exact Nat.le_refl _) ?_))) hxN x0o, cell_low (B := NB) (a := wi) (by repeat (first | with_reducible assumption | with_reducible exact Below.refl _ _ | with_reducible refine Below.drew ?_ | (with_reducible refine below_alloc _ (by first | exact hNBi | exact Nat.le_refl _) ?_) | with_reducible refine below_drewN ?_ _ | (with_reducible refine below_call (by with_reducible assumption) (by first | exact hNBi | exact Nat.le_refl _) ?_))) hxN x1o, cell_low (B := NB) (a := wi) (by repeat (first | with_reducible assumption | with_reducible exact Below.refl _ _ | with_reducible refine Below.drew ?_ | (with_reducible refine below_alloc _ (by first | exact hNBi | exact Nat.le_refl _) ?_) | with_reducible refine below_drewN ?_ _ | (with_reducible refine below_call (by with_reducible assumption) (by first | exact hNBi | exact Nat.le_refl _) ?_))) hbN9 cx, cell_low (B := NB) (a := wi) (by repeat (first | with_reducible assumption | with_reducible exact Below.refl _ _ | with_reducible refine Below.drew ?_ | (with_reducible refine below_alloc _ (by first | exact hNBi | exact Nat.le_refl _) ?_) | with_reducible refine below_drewN ?_ _ | (with_reducible refine below_call (by with_reducible assumption) (by first | exact hNBi | exact Nat.le_refl _) ?_))) hbN2 y0⟩
                  clear hK K
                  try simp only [Act.put, List.setIfInBounds_toArray, List.set_cons_zero, List.set_cons_succ]
                  refine wpAnyH_ready (rs := [9]) (by kernel_rfl) (by simp) ?_
                  refine consH (i := 9) rfl (fun K hK => ?_) ?_
                  · (refine step_append_rows _ rfl (.tmp 63) (.tmp 70) 22 rfl NB 28 i1 (.slice none 0 0) 1 24 Tryd.underlying22 HI1.out HZ3.out HZ4.out HZ5.out rfl (by decide) A' gs.length c' (cellsOf 1 frC gs) rfl (BkAt.f (BkC.b (BkC.below HK4.out (by repeat (first | with_reducible assumption | with_reducible exact Below.refl _ _ | with_reducible refine Below.drew ?_ | (with_reducible refine below_alloc _ (by first | exact hNBi | exact Nat.le_refl _) ?_) | with_reducible refine below_drewN ?_ _ | (with_reducible refine below_call (by with_reducible assumption) (by first | exact hNBi | exact Nat.le_refl _) ?_)))))) (some ⟨_, 0, none⟩) 1 1 [.slice A4 lx.length c4] rfl rfl (fun h => by cases h) (fun ad h => by cases h; exact newsFr (x := ⟨A4, lx, c4⟩) (by first | exact blk_new rfl | exact blk_new (by simp) | exact blk_alloc _ (blk_new rfl) | exact blk_alloc _ (blk_new (by simp)))) (fun u hu => by simp at hu; subst hu <;> rfl) (by unfold maxLen; omega) (by omega) (Nat.le_trans hNBi (Below.size (B := NB) (w := wi) (by repeat (first | with_reducible assumption | with_reducible exact Below.refl _ _ | with_reducible refine Below.drew ?_ | (with_reducible refine below_alloc _ (by first | exact hNBi | exact Nat.le_refl _) ?_) | with_reducible refine below_drewN ?_ _ | (with_reducible refine below_call (by with_reducible assumption) (by first | exact hNBi | exact Nat.le_refl _) ?_))))) ?_; intro A5 c5 v5 h1 h2' h3; (have HK5 : Hid (BkAt NB v5 A5 c5 (gs ++ [⟨A4, lx, c4⟩]) B' d' us) := Lib.hid (BkC.grow (BkC.below HK4.out (by repeat (first | with_reducible assumption | with_reducible exact Below.refl _ _ | with_reducible refine Below.drew ?_ | (with_reducible refine below_alloc _ (by first | exact hNBi | exact Nat.le_refl _) ?_) | with_reducible refine below_drewN ?_ _ | (with_reducible refine below_call (by with_reducible assumption) (by first | exact hNBi | exact Nat.le_refl _) ?_)))) h1 h2' h3)); (have hB5 : Below NB wi v5 := below_own (by repeat (first | with_reducible assumption | with_reducible exact Below.refl _ _ | with_reducible refine Below.drew ?_ | (with_reducible refine below_alloc _ (by first | exact hNBi | exact Nat.le_refl _) ?_) | with_reducible refine below_drewN ?_ _ | (with_reducible refine below_call (by with_reducible assumption) (by first | exact hNBi | exact Nat.le_refl _) ?_))) h2' (BkAt.f (BkC.b (BkC.below HK4.out (by repeat (first | with_reducible assumption | with_reducible exact Below.refl _ _ | with_reducible refine Below.drew ?_ | (with_reducible refine below_alloc _ (by first | exact hNBi | exact Nat.le_refl _) ?_) | with_reducible refine below_drewN ?_ _ | (with_reducible refine below_call (by with_reducible assumption) (by first | exact hNBi | exact Nat.le_refl _) ?_)))))) (Nat.le_refl _) (Nat.le_trans hNBi (Below.size (B := NB) (w := wi) (by repeat (first | with_reducible assumption | with_reducible exact Below.refl _ _ | with_reducible refine Below.drew ?_ | (with_reducible refine below_alloc _ (by first | exact hNBi | exact Nat.le_refl _) ?_) | with_reducible refine below_drewN ?_ _ | (with_reducible refine below_call (by with_reducible assumption) (by first | exact hNBi | exact Nat.le_refl _) ?_)))))); (have z5 : wi.heap.size ≤ v5.heap.size := hB5.size); (have fb05 := cell_low hB5 hbbN b0); (have fb15 := cell_low hB5 hbbN b1); (have fx05 := cell_low hB5 hxN x0o); (have fx15 := cell_low hB5 hxN x1o); (have fcx5 := cell_low hB5 hbN9 cx); (have fy05 := cell_low hB5 hbN2 y0); (have zb5 := World.block_lt_of_cell? _ _ fb05); (have zx5 := World.block_lt_of_cell? _ _ fx05); (have zc5 := World.block_lt_of_cell? _ _ fcx5); (have zy5 := World.block_lt_of_cell? _ _ fy05); (try have hv5 : v5.heap[wi.heap.size]? = some (.cells #[.int .i64 t] 3) := (h2'.block _ (by first | (simp; done) | (simp; omega)) (fun e => by have := (hbki.out.f.lt _ e.symm).2; omega)).trans (blk_alloc _ (blk_below' k4 (show _ from blk_new rfl)))); (try have hv5 : v5.heap[v4.heap.size]? = some (.cells #[.int .i64 t] 3) := (h2'.block _ (by first | (simp; done) | (simp; omega)) (fun e => by have := (hbki.out.f.lt _ e.symm).2; omega)).trans (blk_alloc _ (blk_new rfl))); (try have hv5 : v5.heap[v4.heap.size + 1]? = some (.cells #[.int .i64 t] 3) := (h2'.block _ (by first | (simp; done) | (simp; omega)) (fun e => by have := (hbki.out.f.lt _ e.symm).2; omega)).trans (blk_new (by simp))))
                    refine hK.out _ _ ?_ (fun hHeld => ?_)
                    · exact ⟨cell_low (B := NB) (a := wi) (by repeat (first | with_reducible assumption | with_reducible exact Below.refl _ _ | with_reducible refine Below.drew ?_ | (with_reducible refine below_alloc _ (by first | exact hNBi | exact Nat.le_refl _) ?_) | with_reducible refine below_drewN ?_ _ | (with_reducible refine below_call (by with_reducible assumption) (by first | exact hNBi | exact Nat.le_refl _) ?_))) hbbN b0, cell_low (B := NB) (a := wi) (by repeat (first | with_reducible assumption | with_reducible exact Below.refl _ _ | with_reducible refine Below.drew ?_ | (with_reducible refine below_alloc _ (by first | exact hNBi | exact Nat.le_refl _) ?_) | with_reducible refine below_drewN ?_ _ | (with_reducible refine below_call (by with_reducible assumption) (by first | exact hNBi | exact Nat.le_refl _) ?_))) hbbN b1, cell_low (B := NB) (a := wi) (by repeat (first | with_reducible assumption | with_reducible exact Below.refl _ _ | with_reducible refine Below.drew ?_ | (with_reducible refine below_alloc _ (by first | exact hNBi | exact Nat.le_refl _) ?_) | with_reducible refine below_drewN ?_ _ | (with_reducible refine below_call (by with_reducible assumption) (by first | exact hNBi | exact Nat.le_refl _) ?_))) hxN x0o, cell_low (B := NB) (a := wi) (by repeat (first | with_reducible assumption | with_reducible exact Below.refl _ _ | with_reducible refine Below.drew ?_ | (with_reducible refine below_alloc _ (by first | exact hNBi | exact Nat.le_refl _) ?_) | with_reducible refine below_drewN ?_ _ | (with_reducible refine below_call (by with_reducible assumption) (by first | exact hNBi | exact Nat.le_refl _) ?_))) hxN x1o, cell_low (B := NB) (a := wi) (by repeat (first | with_reducible assumption | with_reducible exact Below.refl _ _ | with_reducible refine Below.drew ?_ | (with_reducible refine below_alloc _ (by first | exact hNBi | exact Nat.le_refl _) ?_) | with_reducible refine below_drewN ?_ _ | (with_reducible refine below_call (by with_reducible assumption) (by first | exact hNBi | exact Nat.le_refl _) ?_))) hbN9 cx, cell_low (B := NB) (a := wi) (by repeat (first | with_reducible assumption | with_reducible exact Below.refl _ _ | with_reducible refine Below.drew ?_ | (with_reducible refine below_alloc _ (by first | exact hNBi | exact Nat.le_refl _) ?_) | with_reducible refine below_drewN ?_ _ | (with_reducible refine below_call (by with_reducible assumption) (by first | exact hNBi | exact Nat.le_refl _) ?_))) hbN2 y0⟩
                    clear hK K
                    try simp only [Act.put, List.setIfInBounds_toArray, List.set_cons_zero, List.set_cons_succ]
                    refine takeH (i := 19) (v := ?_) rfl (by kernel_rfl) (by kernel_rfl) (by kernel_rfl) (fun _ _ _ h => h) rfl ?_ (by assumption) ?_
                    rotate_left
                    · (intro w' hSw; (try dsimp only at hSw); go_simp; try with_reducible rfl)
                    try simp only [Act.put, List.setIfInBounds_toArray, List.set_cons_zero, List.set_cons_succ]
                    refine wpAnyH_ready (rs := [18]) (by kernel_rfl) (by simp) ?_
                    refine consH (i := 18) rfl (fun K hK => ?_) ?_
                    · (refine step_append_rows _ rfl (.tmp 73) (.tmp 79) 23 rfl NB 3 i0 (.int .i64 0) 1 8 Tryd.underlying23 HI.out HZ0.out HZ1.out HZ2.out rfl (by decide) B' us.length d' (cellsOf 1 intC us) rfl (BkAt.t (BkAt.below HK5.out (by repeat (first | with_reducible assumption | with_reducible exact Below.refl _ _ | with_reducible refine Below.drew ?_ | (with_reducible refine below_alloc _ (by first | exact hNBi | exact Nat.le_refl _) ?_) | with_reducible refine below_drewN ?_ _ | (with_reducible refine below_call (by with_reducible assumption) (by first | exact hNBi | exact Nat.le_refl _) ?_))))) (some ⟨_, 0, none⟩) 1 1 [.int .i64 t] rfl rfl (fun h => by cases h) (fun ad h => by cases h; exact newsI (by first | exact hv5 | exact blk_new rfl)) (fun u hu => by simp at hu; subst hu <;> rfl) (by unfold maxLen; omega) (by omega) (Nat.le_trans hNBi (Below.size (B := NB) (w := wi) (by repeat (first | with_reducible assumption | with_reducible exact Below.refl _ _ | with_reducible refine Below.drew ?_ | (with_reducible refine below_alloc _ (by first | exact hNBi | exact Nat.le_refl _) ?_) | with_reducible refine below_drewN ?_ _ | (with_reducible refine below_call (by with_reducible assumption) (by first | exact hNBi | exact Nat.le_refl _) ?_))))) ?_; intro A6 c6 v6 g1 g2 g3; (have HK6 : Hid (BkAt NB v6 A5 c5 (gs ++ [⟨A4, lx, c4⟩]) A6 c6 (us ++ [t])) := Lib.hid (BkAt.growT (BkAt.below HK5.out (by repeat (first | with_reducible assumption | with_reducible exact Below.refl _ _ | with_reducible refine Below.drew ?_ | (with_reducible refine below_alloc _ (by first | exact hNBi | exact Nat.le_refl _) ?_) | with_reducible refine below_drewN ?_ _ | (with_reducible refine below_call (by with_reducible assumption) (by first | exact hNBi | exact Nat.le_refl _) ?_)))) g1 g2 g3)); (have hB6 : Below NB wi v6 := below_own (by repeat (first | with_reducible assumption | with_reducible exact Below.refl _ _ | with_reducible refine Below.drew ?_ | (with_reducible refine below_alloc _ (by first | exact hNBi | exact Nat.le_refl _) ?_) | with_reducible refine below_drewN ?_ _ | (with_reducible refine below_call (by with_reducible assumption) (by first | exact hNBi | exact Nat.le_refl _) ?_))) g2 (BkAt.t (BkAt.below HK5.out (by repeat (first | with_reducible assumption | with_reducible exact Below.refl _ _ | with_reducible refine Below.drew ?_ | (with_reducible refine below_alloc _ (by first | exact hNBi | exact Nat.le_refl _) ?_) | with_reducible refine below_drewN ?_ _ | (with_reducible refine below_call (by with_reducible assumption) (by first | exact hNBi | exact Nat.le_refl _) ?_))))) (Nat.le_refl _) (Nat.le_trans hNBi (Below.size (B := NB) (w := wi) (by repeat (first | with_reducible assumption | with_reducible exact Below.refl _ _ | with_reducible refine Below.drew ?_ | (with_reducible refine below_alloc _ (by first | exact hNBi | exact Nat.le_refl _) ?_) | with_reducible refine below_drewN ?_ _ | (with_reducible refine below_call (by with_reducible assumption) (by first | exact hNBi | exact Nat.le_refl _) ?_)))))); (have v60 := cell_low hB6 hbbN b0); (have v61 := cell_low hB6 hbbN b1); (have vf0 := frozen_below hB6 hbbN bf0); (have vf1 := frozen_below hB6 hbbN bf1); (have z6 := World.block_lt_of_cell? _ _ v60))
                      refine hK.out _ _ ?_ (fun hHeld => ?_)
                      · exact ⟨cell_low (B := NB) (a := wi) (by repeat (first | with_reducible assumption | with_reducible exact Below.refl _ _ | with_reducible refine Below.drew ?_ | (with_reducible refine below_alloc _ (by first | exact hNBi | exact Nat.le_refl _) ?_) | with_reducible refine below_drewN ?_ _ | (with_reducible refine below_call (by with_reducible assumption) (by first | exact hNBi | exact Nat.le_refl _) ?_))) hbbN b0, cell_low (B := NB) (a := wi) (by repeat (first | with_reducible assumption | with_reducible exact Below.refl _ _ | with_reducible refine Below.drew ?_ | (with_reducible refine below_alloc _ (by first | exact hNBi | exact Nat.le_refl _) ?_) | with_reducible refine below_drewN ?_ _ | (with_reducible refine below_call (by with_reducible assumption) (by first | exact hNBi | exact Nat.le_refl _) ?_))) hbbN b1, cell_low (B := NB) (a := wi) (by repeat (first | with_reducible assumption | with_reducible exact Below.refl _ _ | with_reducible refine Below.drew ?_ | (with_reducible refine below_alloc _ (by first | exact hNBi | exact Nat.le_refl _) ?_) | with_reducible refine below_drewN ?_ _ | (with_reducible refine below_call (by with_reducible assumption) (by first | exact hNBi | exact Nat.le_refl _) ?_))) hxN x0o, cell_low (B := NB) (a := wi) (by repeat (first | with_reducible assumption | with_reducible exact Below.refl _ _ | with_reducible refine Below.drew ?_ | (with_reducible refine below_alloc _ (by first | exact hNBi | exact Nat.le_refl _) ?_) | with_reducible refine below_drewN ?_ _ | (with_reducible refine below_call (by with_reducible assumption) (by first | exact hNBi | exact Nat.le_refl _) ?_))) hxN x1o, cell_low (B := NB) (a := wi) (by repeat (first | with_reducible assumption | with_reducible exact Below.refl _ _ | with_reducible refine Below.drew ?_ | (with_reducible refine below_alloc _ (by first | exact hNBi | exact Nat.le_refl _) ?_) | with_reducible refine below_drewN ?_ _ | (with_reducible refine below_call (by with_reducible assumption) (by first | exact hNBi | exact Nat.le_refl _) ?_))) hbN9 cx, cell_low (B := NB) (a := wi) (by repeat (first | with_reducible assumption | with_reducible exact Below.refl _ _ | with_reducible refine Below.drew ?_ | (with_reducible refine below_alloc _ (by first | exact hNBi | exact Nat.le_refl _) ?_) | with_reducible refine below_drewN ?_ _ | (with_reducible refine below_call (by with_reducible assumption) (by first | exact hNBi | exact Nat.le_refl _) ?_))) hbN2 y0⟩
                      clear hK K
                      try simp only [Act.put, List.setIfInBounds_toArray, List.set_cons_zero, List.set_cons_succ]
                      refine wpAnyH_done (by kernel_rfl) ?_ _
                      go_wp2_with (fail)
                      go_meet
                      exact ⟨A5, c5, A6, c6, A4, c4, (HK6.out.set (show w2.heap.size < NB from hbbN) _).set (show w2.heap.size < NB from hbbN) _, cell_next (by decide) (cell_same v60), cell_same (cell_next (by decide) v61), frozen_set _ _ (frozen_set _ _ vf0), frozen_set _ _ (frozen_set _ _ vf1), ((GxAt.low hB6 hbqN HGI.out).far (Nat.ne_of_lt zbq)).far (Nat.ne_of_lt zbq), by simpa using Nat.le_trans hNBi hB6.size, below_set _ (Nat.le_refl _) (below_set _ (Nat.le_refl _) (hri.trans (hB6.mono (Nat.le_of_lt hbbN))))⟩
                    exact AllReadyH.nil
                  exact AllReadyH.nil
                exact AllReadyH.nil
              exact AllReadyH.nil
            refine consH (i := 17) rfl (fun K hK => ?_) ?_
            · go_simp
              refine hK.out _ _ ?_ (fun hHeld => ?_)
              · exact ⟨cell_low (B := NB) (a := wi) (by repeat (first | with_reducible assumption | with_reducible exact Below.refl _ _ | with_reducible refine Below.drew ?_ | (with_reducible refine below_alloc _ (by first | exact hNBi | exact Nat.le_refl _) ?_) | with_reducible refine below_drewN ?_ _ | (with_reducible refine below_call (by with_reducible assumption) (by first | exact hNBi | exact Nat.le_refl _) ?_))) hbbN b0, cell_low (B := NB) (a := wi) (by repeat (first | with_reducible assumption | with_reducible exact Below.refl _ _ | with_reducible refine Below.drew ?_ | (with_reducible refine below_alloc _ (by first | exact hNBi | exact Nat.le_refl _) ?_) | with_reducible refine below_drewN ?_ _ | (with_reducible refine below_call (by with_reducible assumption) (by first | exact hNBi | exact Nat.le_refl _) ?_))) hbbN b1, cell_low (B := NB) (a := wi) (by repeat (first | with_reducible assumption | with_reducible exact Below.refl _ _ | with_reducible refine Below.drew ?_ | (with_reducible refine below_alloc _ (by first | exact hNBi | exact Nat.le_refl _) ?_) | with_reducible refine below_drewN ?_ _ | (with_reducible refine below_call (by with_reducible assumption) (by first | exact hNBi | exact Nat.le_refl _) ?_))) hxN x0o, cell_low (B := NB) (a := wi) (by repeat (first | with_reducible assumption | with_reducible exact Below.refl _ _ | with_reducible refine Below.drew ?_ | (with_reducible refine below_alloc _ (by first | exact hNBi | exact Nat.le_refl _) ?_) | with_reducible refine below_drewN ?_ _ | (with_reducible refine below_call (by with_reducible assumption) (by first | exact hNBi | exact Nat.le_refl _) ?_))) hxN x1o, cell_low (B := NB) (a := wi) (by repeat (first | with_reducible assumption | with_reducible exact Below.refl _ _ | with_reducible refine Below.drew ?_ | (with_reducible refine below_alloc _ (by first | exact hNBi | exact Nat.le_refl _) ?_) | with_reducible refine below_drewN ?_ _ | (with_reducible refine below_call (by with_reducible assumption) (by first | exact hNBi | exact Nat.le_refl _) ?_))) hbN9 cx, cell_low (B := NB) (a := wi) (by repeat (first | with_reducible assumption | with_reducible exact Below.refl _ _ | with_reducible refine Below.drew ?_ | (with_reducible refine below_alloc _ (by first | exact hNBi | exact Nat.le_refl _) ?_) | with_reducible refine below_drewN ?_ _ | (with_reducible refine below_call (by with_reducible assumption) (by first | exact hNBi | exact Nat.le_refl _) ?_))) hbN2 y0⟩
              clear hK K
              try simp only [Act.put, List.setIfInBounds_toArray, List.set_cons_zero, List.set_cons_succ]
              refine wpAnyH_ready (rs := [7]) (by kernel_rfl) (by simp) ?_
              refine consH (i := 7) rfl (fun K hK => ?_) ?_
              · (go_simp; go_at_call 7; (with_reducible refine (HCG.out _ ?_).mono ?_); (focus (exact RowsAt.below hX (by repeat (first | with_reducible assumption | with_reducible exact Below.refl _ _ | with_reducible refine Below.drew ?_ | (with_reducible refine below_alloc _ (by first | exact hNBi | exact Nat.le_refl _) ?_) | with_reducible refine below_drewN ?_ _ | (with_reducible refine below_call (by with_reducible assumption) (by first | exact hNBi | exact Nat.le_refl _) ?_))))); rintro e v4 ⟨A4, c4, rfl, own4, k4⟩; (have hB4 : Below NB wi v4 := (by repeat (first | with_reducible assumption | with_reducible exact Below.refl _ _ | with_reducible refine Below.drew ?_ | (with_reducible refine below_alloc _ (by first | exact hNBi | exact Nat.le_refl _) ?_) | with_reducible refine below_drewN ?_ _ | (with_reducible refine below_call (by with_reducible assumption) (by first | exact hNBi | exact Nat.le_refl _) ?_)))); (have z4 : wi.heap.size ≤ v4.heap.size := hB4.size); (have fb04 := cell_low hB4 hbbN b0); (have fb14 := cell_low hB4 hbbN b1); (have fx04 := cell_low hB4 hxN x0o); (have fx14 := cell_low hB4 hxN x1o); (have fcx4 := cell_low hB4 hbN9 cx); (have fy04 := cell_low hB4 hbN2 y0); (have zb4 := World.block_lt_of_cell? _ _ fb04); (have zx4 := World.block_lt_of_cell? _ _ fx04); (have zc4 := World.block_lt_of_cell? _ _ fcx4); (have zy4 := World.block_lt_of_cell? _ _ fy04); (have HK4 : Hid (BkC NB v4 A' c' gs B' d' us ⟨A4, lx, c4⟩) := Lib.hid (BkAt.copied (BkAt.below hbki.out (by repeat (first | with_reducible assumption | with_reducible exact Below.refl _ _ | with_reducible refine Below.drew ?_ | (with_reducible refine below_alloc _ (by first | exact hNBi | exact Nat.le_refl _) ?_) | with_reducible refine below_drewN ?_ _ | (with_reducible refine below_call (by with_reducible assumption) (by first | exact hNBi | exact Nat.le_refl _) ?_)))) k4 (Nat.le_trans hNBi (Below.size (B := NB) (w := wi) (by repeat (first | with_reducible assumption | with_reducible exact Below.refl _ _ | with_reducible refine Below.drew ?_ | (with_reducible refine below_alloc _ (by first | exact hNBi | exact Nat.le_refl _) ?_) | with_reducible refine below_drewN ?_ _ | (with_reducible refine below_call (by with_reducible assumption) (by first | exact hNBi | exact Nat.le_refl _) ?_))))) own4)))
                refine hK.out _ _ ?_ (fun hHeld => ?_)
                · exact ⟨cell_low (B := NB) (a := wi) (by repeat (first | with_reducible assumption | with_reducible exact Below.refl _ _ | with_reducible refine Below.drew ?_ | (with_reducible refine below_alloc _ (by first | exact hNBi | exact Nat.le_refl _) ?_) | with_reducible refine below_drewN ?_ _ | (with_reducible refine below_call (by with_reducible assumption) (by first | exact hNBi | exact Nat.le_refl _) ?_))) hbbN b0, cell_low (B := NB) (a := wi) (by repeat (first | with_reducible assumption | with_reducible exact Below.refl _ _ | with_reducible refine Below.drew ?_ | (with_reducible refine below_alloc _ (by first | exact hNBi | exact Nat.le_refl _) ?_) | with_reducible refine below_drewN ?_ _ | (with_reducible refine below_call (by with_reducible assumption) (by first | exact hNBi | exact Nat.le_refl _) ?_))) hbbN b1, cell_low (B := NB) (a := wi) (by repeat (first | with_reducible assumption | with_reducible exact Below.refl _ _ | with_reducible refine Below.drew ?_ | (with_reducible refine below_alloc _ (by first | exact hNBi | exact Nat.le_refl _) ?_) | with_reducible refine below_drewN ?_ _ | (with_reducible refine below_call (by with_reducible assumption) (by first | exact hNBi | exact Nat.le_refl _) ?_))) hxN x0o, cell_low (B := NB) (a := wi) (by repeat (first | with_reducible assumption | with_reducible exact Below.refl _ _ | with_reducible refine Below.drew ?_ | (with_reducible refine below_alloc _ (by first | exact hNBi | exact Nat.le_refl _) ?_) | with_reducible refine below_drewN ?_ _ | (with_reducible refine below_call (by with_reducible assumption) (by first | exact hNBi | exact Nat.le_refl _) ?_))) hxN x1o, cell_low (B := NB) (a := wi) (by repeat (first | with_reducible assumption | with_reducible exact Below.refl _ _ | with_reducible refine Below.drew ?_ | (with_reducible refine below_alloc _ (by first | exact hNBi | exact Nat.le_refl _) ?_) | with_reducible refine below_drewN ?_ _ | (with_reducible refine below_call (by with_reducible assumption) (by first | exact hNBi | exact Nat.le_refl _) ?_))) hbN9 cx, cell_low (B := NB) (a := wi) (by repeat (first | with_reducible assumption | with_reducible exact Below.refl _ _ | with_reducible refine Below.drew ?_ | (with_reducible refine below_alloc _ (by first | exact hNBi | exact Nat.le_refl _) ?_) | with_reducible refine below_drewN ?_ _ | (with_reducible refine below_call (by with_reducible assumption) (by first | exact hNBi | exact Nat.le_refl _) ?_))) hbN2 y0⟩
                clear hK K
                try simp only [Act.put, List.setIfInBounds_toArray, List.set_cons_zero, List.set_cons_succ]
                refine wpAnyH_ready (rs := [8]) (by kernel_rfl) (by simp) ?_
                refine consH (i := 8) rfl (fun K hK => ?_) ?_
                · go_simp
                  refine hK.out _ _ ?_ (fun hHeld => ?_)
                  · exact ⟨cell_low (B := NB) (a := wi) (by repeat (first | with_reducible assumption | with_reducible exact Below.refl _ _ | with_reducible refine Below.drew ?_ | (with_reducible refine below_alloc _ (by first | exact hNBi | exact Nat.le_refl _) ?_) | with_reducible refine below_drewN ?_ _ | (with_reducible refine below_call (by with_reducible assumption) (by first | exact hNBi | exact Nat.le_refl _) ?_))) hbbN b0, cell_low (B := NB) (a := wi) (by repeat (first | with_reducible assumption | with_reducible exact Below.refl _ _ | with_reducible refine Below.drew ?_ | (with_reducible refine below_alloc _ (by first | exact hNBi | exact Nat.le_refl _) ?_) | with_reducible refine below_drewN ?_ _ | (with_reducible refine below_call (by with_reducible assumption) (by first | exact hNBi | exact Nat.le_refl _) ?_))) hbbN b1, cell_low (B := NB) (a := wi) (by repeat (first | with_reducible assumption | with_reducible exact Below.refl _ _ | with_reducible refine Below.drew ?_ | (with_reducible refine below_alloc _ (by first | exact hNBi | exact Nat.le_refl _) ?_) | with_reducible refine below_drewN ?_ _ | (with_reducible refine below_call (by with_reducible assumption) (by first | exact hNBi | exact Nat.le_refl _) ?_))) hxN x0o, cell_low (B := NB) (a := wi) (by repeat (first | with_reducible assumption | with_reducible exact Below.refl _ _ | with_reducible refine Below.drew ?_ | (with_reducible refine below_alloc _ (by first | exact hNBi | exact Nat.le_refl _) ?_) | with_reducible refine below_drewN ?_ _ | (with_reducible refine below_call (by with_reducible assumption) (by first | exact hNBi | exact Nat.le_refl _) ?_))) hxN x1o, cell_low (B := NB) (a := wi) (by repeat (first | with_reducible assumption | with_reducible exact Below.refl _ _ | with_reducible refine Below.drew ?_ | (with_reducible refine below_alloc _ (by first | exact hNBi | exact Nat.le_refl _) ?_) | with_reducible refine below_drewN ?_ _ | (with_reducible refine below_call (by with_reducible assumption) (by first | exact hNBi | exact Nat.le_refl _) ?_))) hbN9 cx, cell_low (B := NB) (a := wi) (by repeat (first | with_reducible assumption | with_reducible exact Below.refl _ _ | with_reducible refine Below.drew ?_ | (with_reducible refine below_alloc _ (by first | exact hNBi | exact Nat.le_refl _) ?_) | with_reducible refine below_drewN ?_ _ | (with_reducible refine below_call (by with_reducible assumption) (by first | exact hNBi | exact Nat.le_refl _) ?_))) hbN2 y0⟩
                  clear hK K
                  try simp only [Act.put, List.setIfInBounds_toArray, List.set_cons_zero, List.set_cons_succ]
                  refine wpAnyH_ready (rs := [9]) (by kernel_rfl) (by simp) ?_
                  refine consH (i := 9) rfl (fun K hK => ?_) ?_
                  · (refine step_append_rows _ rfl (.tmp 63) (.tmp 70) 22 rfl NB 28 i1 (.slice none 0 0) 1 24 Tryd.underlying22 HI1.out HZ3.out HZ4.out HZ5.out rfl (by decide) A' gs.length c' (cellsOf 1 frC gs) rfl (BkAt.f (BkC.b (BkC.below HK4.out (by repeat (first | with_reducible assumption | with_reducible exact Below.refl _ _ | with_reducible refine Below.drew ?_ | (with_reducible refine below_alloc _ (by first | exact hNBi | exact Nat.le_refl _) ?_) | with_reducible refine below_drewN ?_ _ | (with_reducible refine below_call (by with_reducible assumption) (by first | exact hNBi | exact Nat.le_refl _) ?_)))))) (some ⟨_, 0, none⟩) 1 1 [.slice A4 lx.length c4] rfl rfl (fun h => by cases h) (fun ad h => by cases h; exact newsFr (x := ⟨A4, lx, c4⟩) (by first | exact blk_new rfl | exact blk_new (by simp) | exact blk_alloc _ (blk_new rfl) | exact blk_alloc _ (blk_new (by simp)))) (fun u hu => by simp at hu; subst hu <;> rfl) (by unfold maxLen; omega) (by omega) (Nat.le_trans hNBi (Below.size (B := NB) (w := wi) (by repeat (first | with_reducible assumption | with_reducible exact Below.refl _ _ | with_reducible refine Below.drew ?_ | (with_reducible refine below_alloc _ (by first | exact hNBi | exact Nat.le_refl _) ?_) | with_reducible refine below_drewN ?_ _ | (with_reducible refine below_call (by with_reducible assumption) (by first | exact hNBi | exact Nat.le_refl _) ?_))))) ?_; intro A5 c5 v5 h1 h2' h3; (have HK5 : Hid (BkAt NB v5 A5 c5 (gs ++ [⟨A4, lx, c4⟩]) B' d' us) := Lib.hid (BkC.grow (BkC.below HK4.out (by repeat (first | with_reducible assumption | with_reducible exact Below.refl _ _ | with_reducible refine Below.drew ?_ | (with_reducible refine below_alloc _ (by first | exact hNBi | exact Nat.le_refl _) ?_) | with_reducible refine below_drewN ?_ _ | (with_reducible refine below_call (by with_reducible assumption) (by first | exact hNBi | exact Nat.le_refl _) ?_)))) h1 h2' h3)); (have hB5 : Below NB wi v5 := below_own (by repeat (first | with_reducible assumption | with_reducible exact Below.refl _ _ | with_reducible refine Below.drew ?_ | (with_reducible refine below_alloc _ (by first | exact hNBi | exact Nat.le_refl _) ?_) | with_reducible refine below_drewN ?_ _ | (with_reducible refine below_call (by with_reducible assumption) (by first | exact hNBi | exact Nat.le_refl _) ?_))) h2' (BkAt.f (BkC.b (BkC.below HK4.out (by repeat (first | with_reducible assumption | with_reducible exact Below.refl _ _ | with_reducible refine Below.drew ?_ | (with_reducible refine below_alloc _ (by first | exact hNBi | exact Nat.le_refl _) ?_) | with_reducible refine below_drewN ?_ _ | (with_reducible refine below_call (by with_reducible assumption) (by first | exact hNBi | exact Nat.le_refl _) ?_)))))) (Nat.le_refl _) (Nat.le_trans hNBi (Below.size (B := NB) (w := wi) (by repeat (first | with_reducible assumption | with_reducible exact Below.refl _ _ | with_reducible refine Below.drew ?_ | (with_reducible refine below_alloc _ (by first | exact hNBi | exact Nat.le_refl _) ?_) | with_reducible refine below_drewN ?_ _ | (with_reducible refine below_call (by with_reducible assumption) (by first | exact hNBi | exact Nat.le_refl _) ?_)))))); (have z5 : wi.heap.size ≤ v5.heap.size := hB5.size); (have fb05 := cell_low hB5 hbbN b0); (have fb15 := cell_low hB5 hbbN b1); (have fx05 := cell_low hB5 hxN x0o); (have fx15 := cell_low hB5 hxN x1o); (have fcx5 := cell_low hB5 hbN9 cx); (have fy05 := cell_low hB5 hbN2 y0); (have zb5 := World.block_lt_of_cell? _ _ fb05); (have zx5 := World.block_lt_of_cell? _ _ fx05); (have zc5 := World.block_lt_of_cell? _ _ fcx5); (have zy5 := World.block_lt_of_cell? _ _ fy05); (try have hv5 : v5.heap[wi.heap.size]? = some (.cells #[.int .i64 t] 3) := (h2'.block _ (by first | (simp; done) | (simp; omega)) (fun e => by have := (hbki.out.f.lt _ e.symm).2; omega)).trans (blk_alloc _ (blk_below' k4 (show _ from blk_new rfl)))); (try have hv5 : v5.heap[v4.heap.size]? = some (.cells #[.int .i64 t] 3) := (h2'.block _ (by first | (simp; done) | (simp; omega)) (fun e => by have := (hbki.out.f.lt _ e.symm).2; omega)).trans (blk_alloc _ (blk_new rfl))); (try have hv5 : v5.heap[v4.heap.size + 1]? = some (.cells #[.int .i64 t] 3) := (h2'.block _ (by first | (simp; done) | (simp; omega)) (fun e => by have := (hbki.out.f.lt _ e.symm).2; omega)).trans (blk_new (by simp))))
                    refine hK.out _ _ ?_ (fun hHeld => ?_)
                    · exact ⟨cell_low (B := NB) (a := wi) (by repeat (first | with_reducible assumption | with_reducible exact Below.refl _ _ | with_reducible refine Below.drew ?_ | (with_reducible refine below_alloc _ (by first | exact hNBi | exact Nat.le_refl _) ?_) | with_reducible refine below_drewN ?_ _ | (with_reducible refine below_call (by with_reducible assumption) (by first | exact hNBi | exact Nat.le_refl _) ?_))) hbbN b0, cell_low (B := NB) (a := wi) (by repeat (first | with_reducible assumption | with_reducible exact Below.refl _ _ | with_reducible refine Below.drew ?_ | (with_reducible refine below_alloc _ (by first | exact hNBi | exact Nat.le_refl _) ?_) | with_reducible refine below_drewN ?_ _ | (with_reducible refine below_call (by with_reducible assumption) (by first | exact hNBi | exact Nat.le_refl _) ?_))) hbbN b1, cell_low (B := NB) (a := wi) (by repeat (first | with_reducible assumption | with_reducible exact Below.refl _ _ | with_reducible refine Below.drew ?_ | (with_reducible refine below_alloc _ (by first | exact hNBi | exact Nat.le_refl _) ?_) | with_reducible refine below_drewN ?_ _ | (with_reducible refine below_call (by with_reducible assumption) (by first | exact hNBi | exact Nat.le_refl _) ?_))) hxN x0o, cell_low (B := NB) (a := wi) (by repeat (first | with_reducible assumption | with_reducible exact Below.refl _ _ | with_reducible refine Below.drew ?_ | (with_reducible refine below_alloc _ (by first | exact hNBi | exact Nat.le_refl _) ?_) | with_reducible refine below_drewN ?_ _ | (with_reducible refine below_call (by with_reducible assumption) (by first | exact hNBi | exact Nat.le_refl _) ?_))) hxN x1o, cell_low (B := NB) (a := wi) (by repeat (first | with_reducible assumption | with_reducible exact Below.refl _ _ | with_reducible refine Below.drew ?_ | (with_reducible refine below_alloc _ (by first | exact hNBi | exact Nat.le_refl _) ?_) | with_reducible refine below_drewN ?_ _ | (with_reducible refine below_call (by with_reducible assumption) (by first | exact hNBi | exact Nat.le_refl _) ?_))) hbN9 cx, cell_low (B := NB) (a := wi) (by repeat (first | with_reducible assumption | with_reducible exact Below.refl _ _ | with_reducible refine Below.drew ?_ | (with_reducible refine below_alloc _ (by first | exact hNBi | exact Nat.le_refl _) ?_) | with_reducible refine below_drewN ?_ _ | (with_reducible refine below_call (by with_reducible assumption) (by first | exact hNBi | exact Nat.le_refl _) ?_))) hbN2 y0⟩
                    clear hK K
                    try simp only [Act.put, List.setIfInBounds_toArray, List.set_cons_zero, List.set_cons_succ]
                    refine takeH (i := 19) (v := ?_) rfl (by kernel_rfl) (by kernel_rfl) (by kernel_rfl) (fun _ _ _ h => h) rfl ?_ (by assumption) ?_
                    rotate_left
                    · (intro w' hSw; (try dsimp only at hSw); go_simp; try with_reducible rfl)
                    try simp only [Act.put, List.setIfInBounds_toArray, List.set_cons_zero, List.set_cons_succ]
                    refine wpAnyH_ready (rs := [18]) (by kernel_rfl) (by simp) ?_
                    refine consH (i := 18) rfl (fun K hK => ?_) ?_
                    · (refine step_append_rows _ rfl (.tmp 73) (.tmp 79) 23 rfl NB 3 i0 (.int .i64 0) 1 8 Tryd.underlying23 HI.out HZ0.out HZ1.out HZ2.out rfl (by decide) B' us.length d' (cellsOf 1 intC us) rfl (BkAt.t (BkAt.below HK5.out (by repeat (first | with_reducible assumption | with_reducible exact Below.refl _ _ | with_reducible refine Below.drew ?_ | (with_reducible refine below_alloc _ (by first | exact hNBi | exact Nat.le_refl _) ?_) | with_reducible refine below_drewN ?_ _ | (with_reducible refine below_call (by with_reducible assumption) (by first | exact hNBi | exact Nat.le_refl _) ?_))))) (some ⟨_, 0, none⟩) 1 1 [.int .i64 t] rfl rfl (fun h => by cases h) (fun ad h => by cases h; exact newsI (by first | exact hv5 | exact blk_new rfl)) (fun u hu => by simp at hu; subst hu <;> rfl) (by unfold maxLen; omega) (by omega) (Nat.le_trans hNBi (Below.size (B := NB) (w := wi) (by repeat (first | with_reducible assumption | with_reducible exact Below.refl _ _ | with_reducible refine Below.drew ?_ | (with_reducible refine below_alloc _ (by first | exact hNBi | exact Nat.le_refl _) ?_) | with_reducible refine below_drewN ?_ _ | (with_reducible refine below_call (by with_reducible assumption) (by first | exact hNBi | exact Nat.le_refl _) ?_))))) ?_; intro A6 c6 v6 g1 g2 g3; (have HK6 : Hid (BkAt NB v6 A5 c5 (gs ++ [⟨A4, lx, c4⟩]) A6 c6 (us ++ [t])) := Lib.hid (BkAt.growT (BkAt.below HK5.out (by repeat (first | with_reducible assumption | with_reducible exact Below.refl _ _ | with_reducible refine Below.drew ?_ | (with_reducible refine below_alloc _ (by first | exact hNBi | exact Nat.le_refl _) ?_) | with_reducible refine below_drewN ?_ _ | (with_reducible refine below_call (by with_reducible assumption) (by first | exact hNBi | exact Nat.le_refl _) ?_)))) g1 g2 g3)); (have hB6 : Below NB wi v6 := below_own (by repeat (first | with_reducible assumption | with_reducible exact Below.refl _ _ | with_reducible refine Below.drew ?_ | (with_reducible refine below_alloc _ (by first | exact hNBi | exact Nat.le_refl _) ?_) | with_reducible refine below_drewN ?_ _ | (with_reducible refine below_call (by with_reducible assumption) (by first | exact hNBi | exact Nat.le_refl _) ?_))) g2 (BkAt.t (BkAt.below HK5.out (by repeat (first | with_reducible assumption | with_reducible exact Below.refl _ _ | with_reducible refine Below.drew ?_ | (with_reducible refine below_alloc _ (by first | exact hNBi | exact Nat.le_refl _) ?_) | with_reducible refine below_drewN ?_ _ | (with_reducible refine below_call (by with_reducible assumption) (by first | exact hNBi | exact Nat.le_refl _) ?_))))) (Nat.le_refl _) (Nat.le_trans hNBi (Below.size (B := NB) (w := wi) (by repeat (first | with_reducible assumption | with_reducible exact Below.refl _ _ | with_reducible refine Below.drew ?_ | (with_reducible refine below_alloc _ (by first | exact hNBi | exact Nat.le_refl _) ?_) | with_reducible refine below_drewN ?_ _ | (with_reducible refine below_call (by with_reducible assumption) (by first | exact hNBi | exact Nat.le_refl _) ?_)))))); (have v60 := cell_low hB6 hbbN b0); (have v61 := cell_low hB6 hbbN b1); (have vf0 := frozen_below hB6 hbbN bf0); (have vf1 := frozen_below hB6 hbbN bf1); (have z6 := World.block_lt_of_cell? _ _ v60))
                      refine hK.out _ _ ?_ (fun hHeld => ?_)
                      · exact ⟨cell_low (B := NB) (a := wi) (by repeat (first | with_reducible assumption | with_reducible exact Below.refl _ _ | with_reducible refine Below.drew ?_ | (with_reducible refine below_alloc _ (by first | exact hNBi | exact Nat.le_refl _) ?_) | with_reducible refine below_drewN ?_ _ | (with_reducible refine below_call (by with_reducible assumption) (by first | exact hNBi | exact Nat.le_refl _) ?_))) hbbN b0, cell_low (B := NB) (a := wi) (by repeat (first | with_reducible assumption | with_reducible exact Below.refl _ _ | with_reducible refine Below.drew ?_ | (with_reducible refine below_alloc _ (by first | exact hNBi | exact Nat.le_refl _) ?_) | with_reducible refine below_drewN ?_ _ | (with_reducible refine below_call (by with_reducible assumption) (by first | exact hNBi | exact Nat.le_refl _) ?_))) hbbN b1, cell_low (B := NB) (a := wi) (by repeat (first | with_reducible assumption | with_reducible exact Below.refl _ _ | with_reducible refine Below.drew ?_ | (with_reducible refine below_alloc _ (by first | exact hNBi | exact Nat.le_refl _) ?_) | with_reducible refine below_drewN ?_ _ | (with_reducible refine below_call (by with_reducible assumption) (by first | exact hNBi | exact Nat.le_refl _) ?_))) hxN x0o, cell_low (B := NB) (a := wi) (by repeat (first | with_reducible assumption | with_reducible exact Below.refl _ _ | with_reducible refine Below.drew ?_ | (with_reducible refine below_alloc _ (by first | exact hNBi | exact Nat.le_refl _) ?_) | with_reducible refine below_drewN ?_ _ | (with_reducible refine below_call (by with_reducible assumption) (by first | exact hNBi | exact Nat.le_refl _) ?_))) hxN x1o, cell_low (B := NB) (a := wi) (by repeat (first | with_reducible assumption | with_reducible exact Below.refl _ _ | with_reducible refine Below.drew ?_ | (with_reducible refine below_alloc _ (by first | exact hNBi | exact Nat.le_refl _) ?_) | with_reducible refine below_drewN ?_ _ | (with_reducible refine below_call (by with_reducible assumption) (by first | exact hNBi | exact Nat.le_refl _) ?_))) hbN9 cx, cell_low (B := NB) (a := wi) (by repeat (first | with_reducible assumption | with_reducible exact Below.refl _ _ | with_reducible refine Below.drew ?_ | (with_reducible refine below_alloc _ (by first | exact hNBi | exact Nat.le_refl _) ?_) | with_reducible refine below_drewN ?_ _ | (with_reducible refine below_call (by with_reducible assumption) (by first | exact hNBi | exact Nat.le_refl _) ?_))) hbN2 y0⟩
                      clear hK K
                      try simp only [Act.put, List.setIfInBounds_toArray, List.set_cons_zero, List.set_cons_succ]
                      refine wpAnyH_done (by kernel_rfl) ?_ _
                      go_wp2_with (fail)
                      go_meet
                      exact ⟨A5, c5, A6, c6, A4, c4, (HK6.out.set (show w2.heap.size < NB from hbbN) _).set (show w2.heap.size < NB from hbbN) _, cell_next (by decide) (cell_same v60), cell_same (cell_next (by decide) v61), frozen_set _ _ (frozen_set _ _ vf0), frozen_set _ _ (frozen_set _ _ vf1), ((GxAt.low hB6 hbqN HGI.out).far (Nat.ne_of_lt zbq)).far (Nat.ne_of_lt zbq), by simpa using Nat.le_trans hNBi hB6.size, below_set _ (Nat.le_refl _) (below_set _ (Nat.le_refl _) (hri.trans (hB6.mono (Nat.le_of_lt hbbN))))⟩
                    exact AllReadyH.nil
                  exact AllReadyH.nil
                exact AllReadyH.nil
              exact AllReadyH.nil
            exact AllReadyH.nil
          case rest =>
          obtain ⟨w5, rfl⟩ : ∃ w5 : World, w5 = wc := ⟨_, rfl⟩
          obtain ⟨A5, c5, A6, c6, A4, c4, hbk5, b0', b1', bf0', bf1', hgx5, hNB5, hr5⟩ := hcut
          have HBK5 := Lib.hid hbk5
          have HGX5 := Lib.hid hgx5
          clear hbki HGI b0 b1 bf0 bf1 hri hNBi hbk5 hgx5 cx y0 hX x0o x1o HI1 HZ3 HZ4 HZ5 HI HZ0 HZ1 HZ2
          have x0o := HX0.out _ hr5
          have cx := HCX.out _ hr5
          have hX := HHX.out _ hr5
          go_wp2_with (fail)
          refine (HCG.out w5 hX).mono ?_
          rintro e w6 ⟨A7, c7, rfl, own7, k6⟩
          have HBK6 := Lib.hid (HBK5.out.below k6)
          have HGX6 := Lib.hid (HGX5.out.below k6)
          replace b0' := cell_below' k6 b0'
          replace b1' := cell_below' k6 b1'
          replace bf0' := frozen_below k6 (show w2.heap.size < _ from Nat.lt_of_lt_of_le hbbN hNB5) bf0'
          replace bf1' := frozen_below k6 (show w2.heap.size < _ from Nat.lt_of_lt_of_le hbbN hNB5) bf1'
          have hr6 := hr5.trans (k6.mono hr5.size)
          have hNB6 := Nat.le_trans hNB5 k6.size
          clear HBK5 HGX5 hr5 hNB5 k6 HCG hX cx x0o
          go_wp2_with (fail)
          refine (HLN.out A7 c7 w6 (rowsAt_of_own own7 rfl (by decide))).mono ?_
          rintro e w7 ⟨rfl, k7⟩
          have HBK7 := Lib.hid (HBK6.out.below k7)
          have HGX7 := Lib.hid (HGX6.out.below k7)
          replace b0' := cell_below' k7 b0'
          replace b1' := cell_below' k7 b1'
          replace bf0' := frozen_below k7 (show w2.heap.size < _ from Nat.lt_of_lt_of_le hbbN hNB6) bf0'
          replace bf1' := frozen_below k7 (show w2.heap.size < _ from Nat.lt_of_lt_of_le hbbN hNB6) bf1'
          have hr7 := hr6.trans (k7.mono hr6.size)
          have hNB7 := Nat.le_trans hNB6 k7.size
          clear HBK6 HGX6 hr6 hNB6 k7 HLN own7
          generalize linP lx = lv at *
          go_upto_region 17 with (fail)
          have hb8 : Below w7.heap.size w7 (w7.alloc (.cells #[.int .i64 (lv 0).re, .int .i64 (lv 0).im, .int .i64 (lv 1).re, .int .i64 (lv 1).im, .int .i64 (lv 2).re, .int .i64 (lv 2).im, .int .i64 (lv 3).re, .int .i64 (lv 3).im] 31)) := below_alloc _ (Nat.le_refl _) (Below.refl _ _)
          have l0 : (w7.alloc (.cells #[.int .i64 (lv 0).re, .int .i64 (lv 0).im, .int .i64 (lv 1).re, .int .i64 (lv 1).im, .int .i64 (lv 2).re, .int .i64 (lv 2).im, .int .i64 (lv 3).re, .int .i64 (lv 3).im] 31)).cell? ⟨w7.heap.size, 0, none⟩ = some (.int .i64 (lv 0).re) := cell_new (by simp) rfl
          have lf0 : (w7.alloc (.cells #[.int .i64 (lv 0).re, .int .i64 (lv 0).im, .int .i64 (lv 1).re, .int .i64 (lv 1).im, .int .i64 (lv 2).re, .int .i64 (lv 2).im, .int .i64 (lv 3).re, .int .i64 (lv 3).im] 31)).frozen? ⟨w7.heap.size, 0, none⟩ = false := frozen_new (by simp)
          have l1 : (w7.alloc (.cells #[.int .i64 (lv 0).re, .int .i64 (lv 0).im, .int .i64 (lv 1).re, .int .i64 (lv 1).im, .int .i64 (lv 2).re, .int .i64 (lv 2).im, .int .i64 (lv 3).re, .int .i64 (lv 3).im] 31)).cell? ⟨w7.heap.size, 1, none⟩ = some (.int .i64 (lv 0).im) := cell_new (by simp) rfl
          have lf1 : (w7.alloc (.cells #[.int .i64 (lv 0).re, .int .i64 (lv 0).im, .int .i64 (lv 1).re, .int .i64 (lv 1).im, .int .i64 (lv 2).re, .int .i64 (lv 2).im, .int .i64 (lv 3).re, .int .i64 (lv 3).im] 31)).frozen? ⟨w7.heap.size, 1, none⟩ = false := frozen_new (by simp)
          have l2 : (w7.alloc (.cells #[.int .i64 (lv 0).re, .int .i64 (lv 0).im, .int .i64 (lv 1).re, .int .i64 (lv 1).im, .int .i64 (lv 2).re, .int .i64 (lv 2).im, .int .i64 (lv 3).re, .int .i64 (lv 3).im] 31)).cell? ⟨w7.heap.size, 2, none⟩ = some (.int .i64 (lv 1).re) := cell_new (by simp) rfl
          have lf2 : (w7.alloc (.cells #[.int .i64 (lv 0).re, .int .i64 (lv 0).im, .int .i64 (lv 1).re, .int .i64 (lv 1).im, .int .i64 (lv 2).re, .int .i64 (lv 2).im, .int .i64 (lv 3).re, .int .i64 (lv 3).im] 31)).frozen? ⟨w7.heap.size, 2, none⟩ = false := frozen_new (by simp)
          have l3 : (w7.alloc (.cells #[.int .i64 (lv 0).re, .int .i64 (lv 0).im, .int .i64 (lv 1).re, .int .i64 (lv 1).im, .int .i64 (lv 2).re, .int .i64 (lv 2).im, .int .i64 (lv 3).re, .int .i64 (lv 3).im] 31)).cell? ⟨w7.heap.size, 3, none⟩ = some (.int .i64 (lv 1).im) := cell_new (by simp) rfl
          have lf3 : (w7.alloc (.cells #[.int .i64 (lv 0).re, .int .i64 (lv 0).im, .int .i64 (lv 1).re, .int .i64 (lv 1).im, .int .i64 (lv 2).re, .int .i64 (lv 2).im, .int .i64 (lv 3).re, .int .i64 (lv 3).im] 31)).frozen? ⟨w7.heap.size, 3, none⟩ = false := frozen_new (by simp)
          have l4 : (w7.alloc (.cells #[.int .i64 (lv 0).re, .int .i64 (lv 0).im, .int .i64 (lv 1).re, .int .i64 (lv 1).im, .int .i64 (lv 2).re, .int .i64 (lv 2).im, .int .i64 (lv 3).re, .int .i64 (lv 3).im] 31)).cell? ⟨w7.heap.size, 4, none⟩ = some (.int .i64 (lv 2).re) := cell_new (by simp) rfl
          have lf4 : (w7.alloc (.cells #[.int .i64 (lv 0).re, .int .i64 (lv 0).im, .int .i64 (lv 1).re, .int .i64 (lv 1).im, .int .i64 (lv 2).re, .int .i64 (lv 2).im, .int .i64 (lv 3).re, .int .i64 (lv 3).im] 31)).frozen? ⟨w7.heap.size, 4, none⟩ = false := frozen_new (by simp)
          have l5 : (w7.alloc (.cells #[.int .i64 (lv 0).re, .int .i64 (lv 0).im, .int .i64 (lv 1).re, .int .i64 (lv 1).im, .int .i64 (lv 2).re, .int .i64 (lv 2).im, .int .i64 (lv 3).re, .int .i64 (lv 3).im] 31)).cell? ⟨w7.heap.size, 5, none⟩ = some (.int .i64 (lv 2).im) := cell_new (by simp) rfl
          have lf5 : (w7.alloc (.cells #[.int .i64 (lv 0).re, .int .i64 (lv 0).im, .int .i64 (lv 1).re, .int .i64 (lv 1).im, .int .i64 (lv 2).re, .int .i64 (lv 2).im, .int .i64 (lv 3).re, .int .i64 (lv 3).im] 31)).frozen? ⟨w7.heap.size, 5, none⟩ = false := frozen_new (by simp)
          have l6 : (w7.alloc (.cells #[.int .i64 (lv 0).re, .int .i64 (lv 0).im, .int .i64 (lv 1).re, .int .i64 (lv 1).im, .int .i64 (lv 2).re, .int .i64 (lv 2).im, .int .i64 (lv 3).re, .int .i64 (lv 3).im] 31)).cell? ⟨w7.heap.size, 6, none⟩ = some (.int .i64 (lv 3).re) := cell_new (by simp) rfl
          have lf6 : (w7.alloc (.cells #[.int .i64 (lv 0).re, .int .i64 (lv 0).im, .int .i64 (lv 1).re, .int .i64 (lv 1).im, .int .i64 (lv 2).re, .int .i64 (lv 2).im, .int .i64 (lv 3).re, .int .i64 (lv 3).im] 31)).frozen? ⟨w7.heap.size, 6, none⟩ = false := frozen_new (by simp)
          have l7 : (w7.alloc (.cells #[.int .i64 (lv 0).re, .int .i64 (lv 0).im, .int .i64 (lv 1).re, .int .i64 (lv 1).im, .int .i64 (lv 2).re, .int .i64 (lv 2).im, .int .i64 (lv 3).re, .int .i64 (lv 3).im] 31)).cell? ⟨w7.heap.size, 7, none⟩ = some (.int .i64 (lv 3).im) := cell_new (by simp) rfl
          have lf7 : (w7.alloc (.cells #[.int .i64 (lv 0).re, .int .i64 (lv 0).im, .int .i64 (lv 1).re, .int .i64 (lv 1).im, .int .i64 (lv 2).re, .int .i64 (lv 2).im, .int .i64 (lv 3).re, .int .i64 (lv 3).im] 31)).frozen? ⟨w7.heap.size, 7, none⟩ = false := frozen_new (by simp)
          have lk : (w7.alloc (.cells #[.int .i64 (lv 0).re, .int .i64 (lv 0).im, .int .i64 (lv 1).re, .int .i64 (lv 1).im, .int .i64 (lv 2).re, .int .i64 (lv 2).im, .int .i64 (lv 3).re, .int .i64 (lv 3).im] 31)).heap[w7.heap.size]? = some (.cells #[.int .i64 (lv 0).re, .int .i64 (lv 0).im, .int .i64 (lv 1).re, .int .i64 (lv 1).im, .int .i64 (lv 2).re, .int .i64 (lv 2).im, .int .i64 (lv 3).re, .int .i64 (lv 3).im] 31) := blk_new (by simp)
          have zl : w7.heap.size < (w7.alloc (.cells #[.int .i64 (lv 0).re, .int .i64 (lv 0).im, .int .i64 (lv 1).re, .int .i64 (lv 1).im, .int .i64 (lv 2).re, .int .i64 (lv 2).im, .int .i64 (lv 3).re, .int .i64 (lv 3).im] 31)).heap.size := World.block_lt_of_cell? _ _ l0
          generalize (w7.alloc (.cells #[.int .i64 (lv 0).re, .int .i64 (lv 0).im, .int .i64 (lv 1).re, .int .i64 (lv 1).im, .int .i64 (lv 2).re, .int .i64 (lv 2).im, .int .i64 (lv 3).re, .int .i64 (lv 3).im] 31)) = w8 at *
          have HGL : Hid (GxAt w7.heap.size lv w8) := Lib.hid (gx_of l0 l1 l2 l3 l4 l5 l6 l7 (fun j => blk_frozen lk))
          have HBK8 := Lib.hid (HBK7.out.below hb8)
          have HGX8 : Hid (GxAt w3.heap.size (wantW fs kk 0) w8) := Lib.hid (by rw [wantW_zero]; exact HGX7.out.below hb8)
          replace b0' := cell_below' hb8 b0'
          replace b1' := cell_below' hb8 b1'
          replace bf0' := frozen_below hb8 (show w2.heap.size < _ from Nat.lt_of_lt_of_le hbbN hNB7) bf0'
          replace bf1' := frozen_below hb8 (show w2.heap.size < _ from Nat.lt_of_lt_of_le hbbN hNB7) bf1'
          have hr8 := hr7.trans (hb8.mono hr7.size)
          have hNB8 := Nat.le_trans hNB7 hb8.size
          have hN7 : NB ≤ w7.heap.size := hNB7
          clear lk l0 l1 l2 l3 l4 l5 l6 l7 lf0 lf1 lf2 lf3 lf4 lf5 lf6 lf7 zl HBK7 HGX7 hr7 hNB7 hb8
          go_wp2_with (fail)
          go_loopw [9] (fun i wr => ∃ n : Nat, n ≤ 4 ∧ i = .int .i64 n ∧ BkAt NB wr A5 c5 (gs ++ [⟨A4, lx, c4⟩]) A6 c6 (us ++ [t]) ∧ wr.cell? ⟨w2.heap.size, 0, none⟩ = some (.slice A5 (gs.length + 1) c5) ∧ wr.cell? ⟨w2.heap.size, 1, none⟩ = some (.slice A6 (us.length + 1) c6) ∧ wr.frozen? ⟨w2.heap.size, 0, none⟩ = false ∧ wr.frozen? ⟨w2.heap.size, 1, none⟩ = false ∧ GxAt w7.heap.size lv wr ∧ GxAt w3.heap.size (wantW fs kk n) wr ∧ NB ≤ wr.heap.size ∧ Below w2.heap.size w2 wr) (fun i _ => 4 - (intOf i).toNat)
          case atStart => exact ⟨0, by omega, rfl, HBK8.out, b0', b1', bf0', bf1', HGL.out, HGX8.out, hNB8, hr8⟩
          case round =>
            obtain ⟨n, hn, rfl, hbk, b0, b1, bf0, bf1, hgl', hgx, hNBr, hr⟩ := hrel
            obtain ⟨wq, rfl⟩ : ∃ wq : World, wq = wr := ⟨_, rfl⟩
            clear HBK8 HGX8 HGL b0' b1' bf0' bf1' hNB8 hr8
            have HBK := Lib.hid hbk
            have HGL := Lib.hid hgl'
            have HGX := Lib.hid hgx
            have zq := hgx.z
            have zl := hgl'.z
            clear hbk hgl' hgx
            by_cases hn4 : n < 4
            · have hnI : (n : Int) < 4 := by omega
              obtain ⟨d0, d1⟩ := HGX.out.c n hn4
              rw [wantW_at] at d0 d1
              obtain ⟨e0, e1⟩ := HGL.out.c n hn4
              have f0 := HGX.out.f (n * 2)
              have f1 := HGX.out.f (n * 2 + 1)
              have HA := Lib.hid (fun W => GAdd_any (wantV fs (kk + 1) n) (lv n) W ((HWS.out (kk + 1) n).mono (by omega)) ((HLZ.out n).mono (by decide)))
              have HNW : Hid (wantW fs kk (n + 1) n = gadd (wantV fs (kk + 1) n) (lv n)) := Lib.hid ((wantW_new fs kk n).trans (HWN.out n))
              have HOL : Hid (∀ j, j ≠ n → wantW fs kk (n + 1) j = wantW fs kk n j) := Lib.hid (fun j h => wantW_old fs kk n j h)
              generalize hqq : wantV fs (kk + 1) n = q' at *
              generalize hvv : lv n = v' at *
              obtain ⟨t', htt⟩ : ∃ t', t' = gadd q' v' := ⟨_, rfl⟩
              rw [← htt] at HA HNW
              clear hqq hvv htt
              obtain ⟨q0, q1⟩ := q'
              obtain ⟨v0, v1⟩ := v'
              obtain ⟨t0, t1⟩ := t'
              simp only [gv] at *
              go_upto_region 22 with (fail)
              (refine region_extx 8 (by kernel_rfl) (by kernel_rfl) fun hx => ?_; simp only [List.take_succ_cons, List.take_zero, List.drop_succ_cons, List.drop_zero]; (repeat (any_goals (first | go_big_quiet_step (((go_at_call 9; with_reducible exact ext_call (HA.out _)))) | quiet_step (((go_at_call 9; with_reducible exact ext_call (HA.out _))))))))
              (refine wpQuiet_nil ?_; clear hx; intro u; have hbw9 := ext_bel _ u; have hxw9 := ext_cell _ u; generalize ext _ u = w9 at *; clear u; have hsw9 := hbw9.size; (try simp at hsw9))
              have hne : w3.heap.size ≠ w2.heap.size := by omega
              have hnl : w3.heap.size ≠ w7.heap.size := by omega
              have HBK9 := Lib.hid (HBK.out.below hbw9)
              have HGL9 := Lib.hid (HGL.out.below hbw9)
              have HGX9 := Lib.hid (HGX.out.below hbw9)
              replace b0 := cell_below' hbw9 b0
              replace b1 := cell_below' hbw9 b1
              replace bf0 := frozen_below hbw9 (show w2.heap.size < _ from Nat.lt_of_lt_of_le hbbN hNBr) bf0
              replace bf1 := frozen_below hbw9 (show w2.heap.size < _ from Nat.lt_of_lt_of_le hbbN hNBr) bf1
              replace d0 := cell_below' hbw9 d0
              replace d1 := cell_below' hbw9 d1
              replace f0 := frozen_below hbw9 zq f0
              replace f1 := frozen_below hbw9 zq f1
              have hr9 := hr.trans (hbw9.mono hr.size)
              have hNB9 := Nat.le_trans hNBr hbw9.size
              have zq9 := Nat.lt_of_lt_of_le zq hbw9.size
              clear hxw9 hsw9 hbw9 HA e0 e1 HBK HGL HGX
              go_wp2_with (fail)
              exact ⟨⟨n + 1, by omega, by go_num, (HBK9.out.set (show w3.heap.size < _ from hbqN) _).set (show w3.heap.size < _ from hbqN) _, cell_far hne (cell_far hne b0), cell_far hne (cell_far hne b1), frozen_set _ _ (frozen_set _ _ bf0), frozen_set _ _ (frozen_set _ _ bf1), (HGL9.out.far hnl).far hnl, HGX9.out.set (k := n) (q := wantW fs kk (n + 1)) hn4 (by rw [HNW.out]) (by rw [HNW.out]) HOL.out, by simpa using hNB9, below_set _ (Nat.le_of_lt zbq) (below_set _ (Nat.le_of_lt zbq) hr9)⟩, by simp [intOf]; omega⟩
            · obtain rfl : n = 4 := by omega
              have H1 : Hid ((gs ++ [(⟨A4, lx, c4⟩ : Frw)]).map (·.l) = bkF fs kk) := Lib.hid (by rw [HFS.out, List.map_append, HG.out]; rfl)
              have H2 : Hid (us ++ [t] = bkT ts kk) := Lib.hid (by rw [HTS.out, HU.out])
              have H3 : Hid (GxAt w3.heap.size (wantV fs kk) wq) := Lib.hid (HGX.out.congr fun j hj => wantW_end fs kk j hj)
              have H4 : Hid (wq.cell? ⟨w2.heap.size, 0, none⟩ = some (.slice A5 (gs ++ [(⟨A4, lx, c4⟩ : Frw)]).length c5)) := Lib.hid (by simpa using b0)
              have H5 : Hid (wq.cell? ⟨w2.heap.size, 1, none⟩ = some (.slice A6 (us ++ [t]).length c6)) := Lib.hid (by simpa using b1)
              go_wp2_with (fail)
              exact ⟨⟨(kk : Int) - 1, kk, A5, c5, gs ++ [⟨A4, lx, c4⟩], A6, c6, us ++ [t], rfl, by omega, rfl, H1.out, H2.out, HBK.out, H4.out, H5.out, bf0, bf1, H3.out, HS3.out, hNBr, hr⟩, by first | (simp [intOf]; done) | (simp [intOf]; omega)⟩
    · obtain rfl : z = -1 := by omega
      subst hk0
      have hS0 : ∀ x ∈ fs, ∀ y ∈ x.l, Sz 1000 y := fun x hx => by
        obtain ⟨j, hj, rfl⟩ := List.getElem_of_mem hx
        exact HS.out j hj (Nat.zero_le _)
      obtain ⟨hz1, hz2, hz3⟩ := coh_zero HFE.out hS0
      have hcb := coh_back HFE.out HG.out HU.out
      have hco := cohQ_ok HFE.out
      rw [← HN.out] at hz1 hz2 hz3 hco
      have hcl : (cohL (fz fs ts) N).length = N := cohL_len _ _
      have hcz : (cohL (fz fs (List.replicate fs.length 0)) N).length = N := cohL_len _ _
      have hN64 : N ≤ 64 := by rw [← HN0.out]; exact (smpsE_zero (HAL.out 0 hp).2).1
      have hfl2 : ∀ q ∈ fs, q.l.length ≤ 1000 := fun q hq => Nat.le_trans (smpsE_zero (all_len HFE.out q hq).2).1 (by decide)
      have hgs2 : ∀ q ∈ gs, q.l.length ≤ 1000 := fun q hq => by
        have h : q.l ∈ bkF fs 0 := by rw [← HG.out]; exact List.mem_map_of_mem hq
        unfold bkF at h
        obtain ⟨y, hy, e⟩ := List.mem_map.1 (List.mem_reverse.1 h)
        rw [← e]; exact hfl2 y (by simpa using hy)
      have HCFS := Lib.hid (fun W (h : FrsAt W (some ⟨b9, o9, none⟩) fs) => CopyFrames_any (some ⟨b9, o9, none⟩) fs cc W (by omega) hfl2 h)
      have HCI := Lib.hid (fun W (h : IntsAt W D ts) => CopyInts_any D ts cd W (by have := HTE.out; omega) h)
      have HCS := Lib.hid (fun (C' : Option Addr) (ks : List Frw) (a : Nat) (D' : Option Addr) (b : Nat) W (hg : ks.map (·.l) = fs.map (·.l)) (h : FrsAt W C' ks) (h' : IntsAt W D' ts) => coh_call hg (by omega) (by have := HTE.out; omega) hfl2 a b h h')
      have HCZ := Lib.hid (fun (C' : Option Addr) (ks : List Frw) (a : Nat) (D' : Option Addr) (b : Nat) W (hg : ks.map (·.l) = fs.map (·.l)) (h : FrsAt W C' ks) (h' : IntsAt W D' (List.replicate fs.length 0)) => coh_call (D' := D') hg (by omega) (by rw [List.length_replicate]; omega) hfl2 a b h h')
      have HCB := Lib.hid (fun W (h : FrsAt W A' gs) (h' : IntsAt W B' us) => CoherentSum_any A' gs c' B' us d' W (by omega) (by omega) hgs2 h h')
      rw [hco] at HCS
      rw [hz1] at HCZ
      rw [hcb, hco] at HCB
      simp only [List.length_replicate] at HCZ
      have HSZ2 := Lib.hid (fun (X : Option Addr) (c : Nat) W (h : GsAt W X (cohL (fz fs (List.replicate fs.length 0)) N)) => RSamplesErr_all X _ c W h)
      rw [hz2] at HSZ2
      have hl0 : linE (cohL (fz fs (List.replicate fs.length 0)) N) = 0 := linE_of (by rw [hcz]; exact hNp) hz2
      have hlv : linV (cohL (fz fs (List.replicate fs.length 0)) N) = wantV fs 0 := funext fun n => (if_pos hl0).trans (hz3 n)
      have HLZ2 := Lib.hid (fun (X : Option Addr) (c : Nat) W (h : GsAt W X (cohL (fz fs (List.replicate fs.length 0)) N)) => LinesOf_any X _ c W (by rw [hcz]; omega) h)
      rw [hl0, hlv] at HLZ2
      have HCGZ := Lib.hid (fun (X : Option Addr) (c : Nat) W (h : GsAt W X (cohL (fz fs (List.replicate fs.length 0)) N)) => CopyG_any X _ c W (by rw [hcz]; omega) h)
      have HGR := Lib.hid (fun (X Y : Option Addr) (c d : Nat) W (h : GsAt W X (cohL (fz fs ts) N)) (h' : GsAt W Y (cohL (fz fs ts) N)) => Gausses_refl X Y _ c d W (by rw [hcl]; omega) h h')
      have HCO := hCo
      have HDO := hDo
      have hmk : ∀ w, (Instr.makeSlice 23 (.int .i64 (fs.length : Int)) (.int .i64 (fs.length : Int))).run Tryd.prog w = .ok (.slice (some ⟨w.heap.size, 0, none⟩) fs.length fs.length) (w.alloc (.cells (madeCells #[.int .i64 0] fs.length) 3)) := run_make_row' (P := Tryd.prog) 23 3 (.int .i64 0) 8 Tryd.underlying23 infoInt rfl .i64 .i64 fs.length (by omega) (by omega)
      have HMK := Lib.hid hmk
      have hwo := h2.trans (hbr.mono h2.size)
      clear hz1 hz2 hz3 hcb hco hcl hcz hS0 hfl2 hgs2 hl0 hlv hmk HS HAL HWS HG HU HTE hC2 hD2 HRF hz
      generalize cohL (fz fs ts) N = cl at *
      generalize cohL (fz fs (List.replicate fs.length 0)) N = cz at *
      generalize wantV fs 0 = lv at *
      go_upto_region 23 with (fail)
      go_cut [10, 11] from 108 to 117 (fun a b wx => ∃ (Y : Option Addr) (c : Nat), a = .slice Y cl.length c ∧ b = .int .i64 0 ∧ GsAt wx Y cl ∧ Below wo.heap.size wo wx)
      case first =>
        clear HCZ HCB HSZ2 HLZ2 HCGZ HGR HMK HBK HGX
        go_region_held3 (fun w' => w'.cell? ⟨w.heap.size, 0, none⟩ = some (.slice (some ⟨b9, o9, none⟩) fs.length cc) ∧ w'.cell? ⟨w.heap.size, 1, none⟩ = some (.slice D ts.length cd)) ((((try go_split_ands); (repeat' (apply And.intro)) <;> (repeat (first | (with_reducible assumption) | (with_reducible refine cell_drew ?_) | (with_reducible refine cell_alloc _ ?_) | (with_reducible refine cell_below' (by with_reducible assumption) ?_) | (with_reducible refine cell_far ?_ ?_; focus (first | omega | (simp; omega) | (simp; done)))))))) (first
          | (go_at_call 11; (with_reducible refine (HCFS.out _ ?_).mono ?_); (focus (exact FrsAt.below HCO (by repeat (first | with_reducible assumption | with_reducible exact Below.refl _ _ | with_reducible refine Below.drew ?_ | (with_reducible refine below_alloc _ (by first | exact Nat.le_refl _ | exact Nat.le_refl _) ?_) | with_reducible refine below_drewN ?_ _ | (with_reducible refine below_call (by with_reducible assumption) (by first | exact Nat.le_refl _ | exact Nat.le_refl _) ?_))))); rintro e v4 ⟨A4, c4, gs4, rfl, M4, F4, k4⟩)
          | (go_at_call 12; (with_reducible refine (HCI.out _ ?_).mono ?_); (focus (exact RowsAt.below HDO (by repeat (first | with_reducible assumption | with_reducible exact Below.refl _ _ | with_reducible refine Below.drew ?_ | (with_reducible refine below_alloc _ (by first | exact Nat.le_refl _ | exact Nat.le_refl _) ?_) | with_reducible refine below_drewN ?_ _ | (with_reducible refine below_call (by with_reducible assumption) (by first | exact Nat.le_refl _ | exact Nat.le_refl _) ?_))))); rintro e v5 ⟨B5, c5, rfl, own5, k5⟩)
          | (go_at_call 10; (with_reducible refine (HCS.out A4 gs4 c4 B5 c5 _ M4 ?_ ?_).mono ?_); (focus (exact FrsAt.below F4 (by repeat (first | with_reducible assumption | with_reducible exact Below.refl _ _ | with_reducible refine Below.drew ?_ | (with_reducible refine below_alloc _ (by first | exact Nat.le_refl _ | exact Nat.le_refl _) ?_) | with_reducible refine below_drewN ?_ _ | (with_reducible refine below_call (by with_reducible assumption) (by first | exact Nat.le_refl _ | exact Nat.le_refl _) ?_))))); (focus (exact rowsAt_of_own own5 rfl (by decide))); rintro e v6 ⟨Y6, c6, rfl, I6, k6⟩))
        have hbw : Below wo.heap.size wo v6 := (by repeat (first | assumption | exact Below.refl _ _ | refine Below.drew ?_ | (refine below_alloc _ ?_ ?_; focus (first | omega | (simp; done) | (simp; omega) | (simp at *; omega))) | (refine below_set _ ?_ ?_; focus (first | omega | (simp; done) | (simp; omega) | (simp at *; omega))) | refine below_drewN ?_ _ | (refine below_call (by assumption) ?_ ?_; focus (first | omega | (simp; done) | (simp; omega) | (simp at *; omega))) | (refine below_call' (by assumption) ?_ ?_; focus (first | omega | (simp; done) | (simp; omega) | (simp at *; omega)))))
        go_wp2_with (fail)
        go_meet
        exact ⟨_, _, rfl, rfl, I6, hbw⟩
      case rest =>
      obtain ⟨v3, rfl⟩ : ∃ v3 : World, v3 = wc := ⟨_, rfl⟩
      obtain ⟨Y, cY, rfl, rfl, IY, k3⟩ := hcut
      have HBK3 := HBK.out.below k3
      have HGX3 := Lib.hid (HGX.out.below k3)
      have hFR := frsAt_of HBK3.f HBK3.o.rows
      have hUR : IntsAt v3 B' us := rowsAt_of_own HBK3.t rfl (by decide)
      have x03 := cell_below' k3 x0o
      have b03 := cell_below' k3 b0
      have b13 := cell_below' k3 b1
      clear HBK HGX HBK3 HCS HCI
      go_wp2_with (fail)
      refine (HCB.out _ hFR hUR).mono ?_
      rintro e v4 ⟨Y4, cY4, rfl, IY4, k4⟩
      have HGX4 := Lib.hid (HGX3.out.below k4)
      have k34 := k3.trans (k4.mono k3.size)
      have x04 := cell_below' k4 x03
      have IY3 := RowsAt.below IY k4
      clear HCB hFR hUR b03 b13 x03 IY HGX3 k3 k4
      go_upto_region 25 with (fail)
      go_cut [14, 15] from 126 to 136 (fun a b wx => ∃ (Y : Option Addr) (c : Nat), a = .slice Y cz.length c ∧ b = .int .i64 0 ∧ GsAt wx Y cz ∧ Below v4.heap.size v4 wx)
      case first =>
        have HCO4 := HCO.below k34
        have hmk := HMK.out
        clear HSZ2 HLZ2 HCGZ HGR HMK HGX4 IY3 IY4
        go_region_held3 (fun w' => w'.cell? ⟨w.heap.size, 0, none⟩ = some (.slice (some ⟨b9, o9, none⟩) fs.length cc)) ((((try go_split_ands); (repeat' (apply And.intro)) <;> (repeat (first | (with_reducible assumption) | (with_reducible refine cell_drew ?_) | (with_reducible refine cell_alloc _ ?_) | (with_reducible refine cell_below' (by with_reducible assumption) ?_) | (with_reducible refine cell_far ?_ ?_; focus (first | omega | (simp; omega) | (simp; done)))))))) (first
          | (go_at_call 11; (with_reducible refine (HCFS.out _ ?_).mono ?_); (focus (exact FrsAt.below HCO4 (by repeat (first | with_reducible assumption | with_reducible exact Below.refl _ _ | with_reducible refine Below.drew ?_ | (with_reducible refine below_alloc _ (by first | exact Nat.le_refl _ | exact Nat.le_refl _) ?_) | with_reducible refine below_drewN ?_ _ | (with_reducible refine below_call (by with_reducible assumption) (by first | exact Nat.le_refl _ | exact Nat.le_refl _) ?_))))); rintro e v5 ⟨A4, c4, gs4, rfl, M4, F4, k5⟩)
          | (go_at_call 10; (with_reducible refine (HCZ.out A4 gs4 c4 (some ⟨_, 0, none⟩) fs.length _ M4 ?_ ?_).mono ?_); (focus (exact FrsAt.below F4 (by repeat (first | with_reducible assumption | with_reducible exact Below.refl _ _ | with_reducible refine Below.drew ?_ | (with_reducible refine below_alloc _ (by first | exact Nat.le_refl _ | exact Nat.le_refl _) ?_) | with_reducible refine below_drewN ?_ _ | (with_reducible refine below_call (by with_reducible assumption) (by first | exact Nat.le_refl _ | exact Nat.le_refl _) ?_))))); (focus (exact ints_made (by repeat (first | with_reducible assumption | (with_reducible refine blk_new ?_; focus (first | rfl | (simp; done))) | with_reducible refine blk_drew ?_ | with_reducible refine blk_alloc _ ?_ | with_reducible refine blk_drewN _ ?_ | (with_reducible refine blk_below' (by with_reducible assumption) ?_))))); rintro e v6 ⟨Y6, c6, rfl, I6, k6⟩))
        all_goals
          have hbw : Below v4.heap.size v4 v6 := (by repeat (first | assumption | exact Below.refl _ _ | refine Below.drew ?_ | (refine below_alloc _ ?_ ?_; focus (first | omega | (simp; done) | (simp; omega) | (simp at *; omega))) | (refine below_set _ ?_ ?_; focus (first | omega | (simp; done) | (simp; omega) | (simp at *; omega))) | refine below_drewN ?_ _ | (refine below_call (by assumption) ?_ ?_; focus (first | omega | (simp; done) | (simp; omega) | (simp at *; omega))) | (refine below_call' (by assumption) ?_ ?_; focus (first | omega | (simp; done) | (simp; omega) | (simp at *; omega)))))
          go_wp2_with (fail)
          go_meet
          exact ⟨_, _, rfl, rfl, I6, hbw⟩
      case rest =>
      obtain ⟨v5, rfl⟩ : ∃ v5 : World, v5 = wc := ⟨_, rfl⟩
      obtain ⟨Z, cZ, rfl, rfl, IZ, k5⟩ := hcut
      have HGX5 := Lib.hid (HGX4.out.below k5)
      have IY5 := RowsAt.below IY3 k5
      have IY6 := RowsAt.below IY4 k5
      have k35 := k34.trans (k5.mono k34.size)
      clear HCFS HCZ HMK HGX4 IY3 IY4 k34 k5 x04
      go_wp2_with (fail)
      refine (HGR.out _ _ _ _ _ IY5 IY6).mono ?_
      rintro e v6 ⟨rfl, k6⟩
      have HGX6 := Lib.hid (HGX5.out.below k6)
      have IZ6 := RowsAt.below IZ k6
      have k36 := k35.trans (k6.mono k35.size)
      clear HGR HGX5 IY5 IY6 IZ k35 k6
      go_wp2_with (fail)
      refine (HSZ2.out _ _ _ IZ6).mono ?_
      rintro e v7 ⟨rfl, k7⟩
      have HGX7 := Lib.hid (HGX6.out.below k7)
      have IZ7 := RowsAt.below IZ6 k7
      have k37 := k36.trans (k7.mono k36.size)
      clear HSZ2 HGX6 IZ6 k36 k7
      go_wp2_with (fail)
      refine (HCGZ.out _ _ _ IZ7).mono ?_
      rintro e v8 ⟨Z8, c8, rfl, own8, k8⟩
      have HGX8 := Lib.hid (HGX7.out.below k8)
      have k38 := k37.trans (k8.mono k37.size)
      clear HCGZ HGX7 IZ7 k37 k8
      go_wp2_with (fail)
      refine (HLZ2.out _ _ _ (rowsAt_of_own own8 rfl (by decide))).mono ?_
      rintro e v9 ⟨rfl, k9⟩
      have HGX9 := Lib.hid (HGX8.out.below k9)
      have k39 := k38.trans (k9.mono k38.size)
      have hw9 : Below w.heap.size w v9 := hwo.trans (k39.mono hwo.size)
      clear HLZ2 HGX8 own8 k38 k9
      go_upto_region 29 with (fail)
      have hb10 : Below v9.heap.size v9 (v9.alloc (.cells #[.int .i64 (lv 0).re, .int .i64 (lv 0).im, .int .i64 (lv 1).re, .int .i64 (lv 1).im, .int .i64 (lv 2).re, .int .i64 (lv 2).im, .int .i64 (lv 3).re, .int .i64 (lv 3).im] 31)) := below_alloc _ (Nat.le_refl _) (Below.refl _ _)
      have l0 : (v9.alloc (.cells #[.int .i64 (lv 0).re, .int .i64 (lv 0).im, .int .i64 (lv 1).re, .int .i64 (lv 1).im, .int .i64 (lv 2).re, .int .i64 (lv 2).im, .int .i64 (lv 3).re, .int .i64 (lv 3).im] 31)).cell? ⟨v9.heap.size, 0, none⟩ = some (.int .i64 (lv 0).re) := cell_new (by simp) rfl
      have l1 : (v9.alloc (.cells #[.int .i64 (lv 0).re, .int .i64 (lv 0).im, .int .i64 (lv 1).re, .int .i64 (lv 1).im, .int .i64 (lv 2).re, .int .i64 (lv 2).im, .int .i64 (lv 3).re, .int .i64 (lv 3).im] 31)).cell? ⟨v9.heap.size, 1, none⟩ = some (.int .i64 (lv 0).im) := cell_new (by simp) rfl
      have l2 : (v9.alloc (.cells #[.int .i64 (lv 0).re, .int .i64 (lv 0).im, .int .i64 (lv 1).re, .int .i64 (lv 1).im, .int .i64 (lv 2).re, .int .i64 (lv 2).im, .int .i64 (lv 3).re, .int .i64 (lv 3).im] 31)).cell? ⟨v9.heap.size, 2, none⟩ = some (.int .i64 (lv 1).re) := cell_new (by simp) rfl
      have l3 : (v9.alloc (.cells #[.int .i64 (lv 0).re, .int .i64 (lv 0).im, .int .i64 (lv 1).re, .int .i64 (lv 1).im, .int .i64 (lv 2).re, .int .i64 (lv 2).im, .int .i64 (lv 3).re, .int .i64 (lv 3).im] 31)).cell? ⟨v9.heap.size, 3, none⟩ = some (.int .i64 (lv 1).im) := cell_new (by simp) rfl
      have l4 : (v9.alloc (.cells #[.int .i64 (lv 0).re, .int .i64 (lv 0).im, .int .i64 (lv 1).re, .int .i64 (lv 1).im, .int .i64 (lv 2).re, .int .i64 (lv 2).im, .int .i64 (lv 3).re, .int .i64 (lv 3).im] 31)).cell? ⟨v9.heap.size, 4, none⟩ = some (.int .i64 (lv 2).re) := cell_new (by simp) rfl
      have l5 : (v9.alloc (.cells #[.int .i64 (lv 0).re, .int .i64 (lv 0).im, .int .i64 (lv 1).re, .int .i64 (lv 1).im, .int .i64 (lv 2).re, .int .i64 (lv 2).im, .int .i64 (lv 3).re, .int .i64 (lv 3).im] 31)).cell? ⟨v9.heap.size, 5, none⟩ = some (.int .i64 (lv 2).im) := cell_new (by simp) rfl
      have l6 : (v9.alloc (.cells #[.int .i64 (lv 0).re, .int .i64 (lv 0).im, .int .i64 (lv 1).re, .int .i64 (lv 1).im, .int .i64 (lv 2).re, .int .i64 (lv 2).im, .int .i64 (lv 3).re, .int .i64 (lv 3).im] 31)).cell? ⟨v9.heap.size, 6, none⟩ = some (.int .i64 (lv 3).re) := cell_new (by simp) rfl
      have l7 : (v9.alloc (.cells #[.int .i64 (lv 0).re, .int .i64 (lv 0).im, .int .i64 (lv 1).re, .int .i64 (lv 1).im, .int .i64 (lv 2).re, .int .i64 (lv 2).im, .int .i64 (lv 3).re, .int .i64 (lv 3).im] 31)).cell? ⟨v9.heap.size, 7, none⟩ = some (.int .i64 (lv 3).im) := cell_new (by simp) rfl
      have zl : v9.heap.size < (v9.alloc (.cells #[.int .i64 (lv 0).re, .int .i64 (lv 0).im, .int .i64 (lv 1).re, .int .i64 (lv 1).im, .int .i64 (lv 2).re, .int .i64 (lv 2).im, .int .i64 (lv 3).re, .int .i64 (lv 3).im] 31)).heap.size := World.block_lt_of_cell? _ _ l0
      generalize (v9.alloc (.cells #[.int .i64 (lv 0).re, .int .i64 (lv 0).im, .int .i64 (lv 1).re, .int .i64 (lv 1).im, .int .i64 (lv 2).re, .int .i64 (lv 2).im, .int .i64 (lv 3).re, .int .i64 (lv 3).im] 31)) = v10 at *
      obtain ⟨g0, g1, g2, g3, g4, g5, g6, g7⟩ := gx8 (HGX9.out.below hb10)
      have zg := (HGX9.out.below hb10).z
      have hw10 := hw9.trans (hb10.mono hw9.size)
      have HEL := eqL lv lv
      rw [show eqL4 lv lv = true by simp [eqL4, eqB]] at HEL
      clear HGX9 hb10
      go_wp2_with (fail)
      go_ret
      exact ⟨rfl, hw10⟩
end Go.Proofs.YtlnbbioponmcfaaDoor
