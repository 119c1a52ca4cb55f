/-
  Chapter 2: modes; the separation of a sample.
-/
import Derived.Test.YtlnbbioponmcfaaDoorESep
namespace Go.Proofs.YtlnbbioponmcfaaDoor
open Go.ChangeShapes Go.WideShapes Go.ChangeAt Go.RowKit
set_option linter.unusedVariables false
set_option linter.unusedSimpArgs false

structure Spl where
  o : Gs
  e : Gs
  d : Int
abbrev spv (s : Spl) : Value := .agg #[.int .i64 s.o.re, .int .i64 s.o.im, .int .i64 s.e.re, .int .i64 s.e.im, .int .i64 s.d]
def sepO (mo me x0 x1 : Gs) : Gs := gmul (gsub (gmul me x0) x1) (gconj (gsub me mo))
def sepE (mo me x0 x1 : Gs) : Gs := gmul (gsub x1 (gmul mo x0)) (gconj (gsub me mo))
def sepG (mo me x0 x1 : Gs) : Int := (gcdL [gnorm (gsub me mo), (sepO mo me x0 x1).re, (sepO mo me x0 x1).im, (sepE mo me x0 x1).re, (sepE mo me x0 x1).im] 0 : Nat)
/-- the separation of a sample -/
def sepP (mo me x0 x1 : Gs) : Spl := ⟨gover (sepO mo me x0 x1) (sepG mo me x0 x1), gover (sepE mo me x0 x1) (sepG mo me x0 x1), gnorm (gsub me mo) / sepG mo me x0 x1⟩
theorem gnorm_pos {g : Gs} (h : g ≠ gz) : 1 ≤ gnorm g := by
  have h1 := mul_self_nonneg' g.re
  have h2 := mul_self_nonneg' g.im
  unfold gnorm
  apply Int.not_lt.1
  intro hlt
  have e1 : g.re * g.re = 0 := by omega
  have e2 : g.im * g.im = 0 := by omega
  rw [Int.mul_eq_zero, or_self] at e1 e2
  exact h (Gs.ext2 e1 e2)
theorem gsub_nz {a b : Gs} (h : a ≠ b) : gsub b a ≠ gz := fun e => by
  have e1 : b.re - a.re = 0 := congrArg Gs.re e
  have e2 : b.im - a.im = 0 := congrArg Gs.im e
  exact h (Gs.ext2 (by omega) (by omega))
structure OkM (mo me : Gs) : Prop where
  o : Sz 10 mo
  e : Sz 10 me
  ne : mo ≠ me
theorem sepO_sz {mo me x0 x1 : Gs} (h : OkM mo me) (k0 : Sz 10000 x0) (k1 : Sz 10000 x1) : Sz 8400000 (sepO mo me x0 x1) :=
  (((h.e.mul k0).sub k1).mul (h.e.sub h.o).conj).mono (by decide)
theorem sepE_sz {mo me x0 x1 : Gs} (h : OkM mo me) (k0 : Sz 10000 x0) (k1 : Sz 10000 x1) : Sz 8400000 (sepE mo me x0 x1) :=
  ((k1.sub (h.o.mul k0)).mul (h.e.sub h.o).conj).mono (by decide)
theorem sepD_bd {mo me : Gs} (h : OkM mo me) : 1 ≤ gnorm (gsub me mo) ∧ gnorm (gsub me mo) ≤ 800 :=
  ⟨gnorm_pos (gsub_nz h.ne), (h.e.sub h.o).norm.2⟩
theorem sepG_bd {mo me x0 x1 : Gs} (h : OkM mo me) : 1 ≤ sepG mo me x0 x1 ∧ sepG mo me x0 x1 ≤ 800 := by
  have hd := sepD_bd h
  have h1 := (gcdL_dvd [gnorm (gsub me mo), (sepO mo me x0 x1).re, (sepO mo me x0 x1).im, (sepE mo me x0 x1).re, (sepE mo me x0 x1).im] 0).2 (gnorm (gsub me mo)) (List.mem_cons_self ..)
  have h2 := Nat.le_of_dvd (by omega) h1
  have h3 := Nat.pos_of_dvd_of_pos h1 (by omega)
  unfold sepG
  omega
theorem set5 {w : World} {b : Nat} {a0 a1 a2 a3 a4 v0 v1 v2 v3 v4 : Value} (h0 : w.cell? ⟨b, 0, none⟩ = some a0) (h1 : w.cell? ⟨b, 1, none⟩ = some a1) (h2 : w.cell? ⟨b, 2, none⟩ = some a2) (h3 : w.cell? ⟨b, 3, none⟩ = some a3) (h4 : w.cell? ⟨b, 4, none⟩ = some a4) :
    (((((w.setCell ⟨b, 0, none⟩ v0).setCell ⟨b, 1, none⟩ v1).setCell ⟨b, 2, none⟩ v2).setCell ⟨b, 3, none⟩ v3).setCell ⟨b, 4, none⟩ v4).cell? ⟨b, 0, none⟩ = some v0 ∧
    (((((w.setCell ⟨b, 0, none⟩ v0).setCell ⟨b, 1, none⟩ v1).setCell ⟨b, 2, none⟩ v2).setCell ⟨b, 3, none⟩ v3).setCell ⟨b, 4, none⟩ v4).cell? ⟨b, 1, none⟩ = some v1 ∧
    (((((w.setCell ⟨b, 0, none⟩ v0).setCell ⟨b, 1, none⟩ v1).setCell ⟨b, 2, none⟩ v2).setCell ⟨b, 3, none⟩ v3).setCell ⟨b, 4, none⟩ v4).cell? ⟨b, 2, none⟩ = some v2 ∧
    (((((w.setCell ⟨b, 0, none⟩ v0).setCell ⟨b, 1, none⟩ v1).setCell ⟨b, 2, none⟩ v2).setCell ⟨b, 3, none⟩ v3).setCell ⟨b, 4, none⟩ v4).cell? ⟨b, 3, none⟩ = some v3 ∧
    (((((w.setCell ⟨b, 0, none⟩ v0).setCell ⟨b, 1, none⟩ v1).setCell ⟨b, 2, none⟩ v2).setCell ⟨b, 3, none⟩ v3).setCell ⟨b, 4, none⟩ v4).cell? ⟨b, 4, none⟩ = some v4 :=
  ⟨cell_next (by decide) (cell_next (by decide) (cell_next (by decide) (cell_next (by decide) (cell_same h0)))), cell_next (by decide) (cell_next (by decide) (cell_next (by decide) (cell_same (cell_next (by decide) h1)))), cell_next (by decide) (cell_next (by decide) (cell_same (cell_next (by decide) (cell_next (by decide) h2)))), cell_next (by decide) (cell_same (cell_next (by decide) (cell_next (by decide) (cell_next (by decide) h3)))), cell_same (cell_next (by decide) (cell_next (by decide) (cell_next (by decide) (cell_next (by decide) h4))))⟩
set_option maxRecDepth 100000 in
set_option maxHeartbeats 8000000 in
theorem separated_any (mo me x0 x1 : Gs) (w : World) (hm : OkM mo me) (k0 : Sz 10000 x0) (k1 : Sz 10000 x1) :
    Calls Tryd.prog 44 #[gv2 mo me, gv2 x0 x1] w fun e w' => e = .returned (spv (sepP mo me x0 x1)) ∧ Below w.heap.size w w' := by
  have hq : sepP mo me x0 x1 = ⟨gover (sepO mo me x0 x1) (sepG mo me x0 x1), gover (sepE mo me x0 x1) (sepG mo me x0 x1), gnorm (gsub me mo) / sepG mo me x0 x1⟩ := rfl
  have HQ := Lib.hid hq
  clear hq
  have D := Lib.hid (fun W => minus_any me mo W (hm.e.mono (by decide)) (hm.o.mono (by decide)))
  have O1 := Lib.hid (fun W => times_any me x0 W (hm.e.mono (by decide)) (k0.mono (by decide)))
  have O2 := Lib.hid (fun W => minus_any (gmul me x0) x1 W ((hm.e.mul k0).mono (by decide)) (k1.mono (by decide)))
  have C := Lib.hid (fun W => conj_any (gsub me mo) W ((hm.e.sub hm.o).mono (by decide)))
  have O3 := Lib.hid (fun W => times_any (gsub (gmul me x0) x1) (gconj (gsub me mo)) W (((hm.e.mul k0).sub k1).mono (by decide)) ((hm.e.sub hm.o).conj.mono (by decide)))
  have E1 := Lib.hid (fun W => times_any mo x0 W (hm.o.mono (by decide)) (k0.mono (by decide)))
  have E2 := Lib.hid (fun W => minus_any x1 (gmul mo x0) W (k1.mono (by decide)) ((hm.o.mul k0).mono (by decide)))
  have E3 := Lib.hid (fun W => times_any (gsub x1 (gmul mo x0)) (gconj (gsub me mo)) W ((k1.sub (hm.o.mul k0)).mono (by decide)) ((hm.e.sub hm.o).conj.mono (by decide)))
  have P := Lib.hid (fun W => power_any (gsub me mo) W ((hm.e.sub hm.o).mono (by decide)))
  have hso := sepO_sz hm k0 k1
  have hse := sepE_sz hm k0 k1
  obtain ⟨n0, n1⟩ := sepD_bd hm
  obtain ⟨g0, g1⟩ := @sepG_bd mo me x0 x1 hm
  have hgl : sepG mo me x0 x1 = (gcdL [gnorm (gsub me mo), (sepO mo me x0 x1).re, (sepO mo me x0 x1).im, (sepE mo me x0 x1).re, (sepE mo me x0 x1).im] 0 : Nat) := rfl
  have G := Lib.hid (fun (b : Nat) W (h : IntsAt W (some ⟨b, 0, none⟩) [gnorm (gsub me mo), (sepO mo me x0 x1).re, (sepO mo me x0 x1).im, (sepE mo me x0 x1).re, (sepE mo me x0 x1).im]) => divisor_any (some ⟨b, 0, none⟩) [gnorm (gsub me mo), (sepO mo me x0 x1).re, (sepO mo me x0 x1).im, (sepE mo me x0 x1).re, (sepE mo me x0 x1).im] 5 W (by simp) (fun x hx => by
    have a0 := hso.r0; have a1 := hso.r1; have a2 := hso.i0; have a3 := hso.i1
    have b0 := hse.r0; have b1 := hse.r1; have b2 := hse.i0; have b3 := hse.i1
    simp at hx
    rcases hx with rfl | rfl | rfl | rfl | rfl <;> omega) h)
  rw [← hgl] at G
  have V1 := Lib.hid (fun W => over_any (sepO mo me x0 x1) (sepG mo me x0 x1) W (hso.mono (by decide)) g0 (by omega))
  have V2 := Lib.hid (fun W => over_any (sepE mo me x0 x1) (sepG mo me x0 x1) W (hse.mono (by decide)) g0 (by omega))
  have ho3 : gmul (gsub (gmul me x0) x1) (gconj (gsub me mo)) = sepO mo me x0 x1 := rfl
  have he3 : gmul (gsub x1 (gmul mo x0)) (gconj (gsub me mo)) = sepE mo me x0 x1 := rfl
  rw [ho3] at O3
  rw [he3] at E3
  have hdn0 : 0 ≤ gnorm (gsub me mo) / sepG mo me x0 x1 := Int.ediv_nonneg (by omega) (by omega)
  have hdn1 : gnorm (gsub me mo) / sepG mo me x0 x1 ≤ 800 := Int.le_trans (Int.ediv_le_self _ (by omega)) n1
  clear hgl ho3 he3 hso hse hm k0 k1
  generalize gover (sepO mo me x0 x1) (sepG mo me x0 x1) = v1 at *
  generalize gover (sepE mo me x0 x1) (sepG mo me x0 x1) = v2 at *
  generalize sepG mo me x0 x1 = g at *
  generalize gconj (gsub me mo) = dc at *
  generalize sepO mo me x0 x1 = so at *
  generalize sepE mo me x0 x1 = se at *
  generalize gnorm (gsub me mo) = nd at *
  generalize gsub (gmul me x0) x1 = o2 at *
  generalize gmul me x0 = o1 at *
  generalize gsub x1 (gmul mo x0) = e2 at *
  generalize gmul mo x0 = e1 at *
  generalize gsub me mo = d at *
  have hgn : (g == 0) = false := by rw [beq_eq_false_iff_ne]; omega
  have hgn2 : ¬ g = 0 := by omega
  obtain ⟨mo0, mo1⟩ := mo
  obtain ⟨me0, me1⟩ := me
  obtain ⟨x00, x01⟩ := x0
  obtain ⟨x10, x11⟩ := x1
  simp only [gv] at *
  go_enter Tryd.func44, Tryd.ntmps44
  go_upto_region 1 with (fail)
  have hb0 : Below w.heap.size w (((w.alloc (.cells #[.int .i64 mo0, .int .i64 mo1, .int .i64 me0, .int .i64 me1] 56)).alloc (.cells #[.int .i64 x00, .int .i64 x01, .int .i64 x10, .int .i64 x11] 60)).alloc (.cells #[.int .i64 0, .int .i64 0, .int .i64 0, .int .i64 0, .int .i64 0] 52)) := below_alloc _ (Nat.le_refl _) (below_alloc _ (Nat.le_refl _) (below_alloc _ (Nat.le_refl _) (Below.refl _ _)))
  have m0 : (((w.alloc (.cells #[.int .i64 mo0, .int .i64 mo1, .int .i64 me0, .int .i64 me1] 56)).alloc (.cells #[.int .i64 x00, .int .i64 x01, .int .i64 x10, .int .i64 x11] 60)).alloc (.cells #[.int .i64 0, .int .i64 0, .int .i64 0, .int .i64 0, .int .i64 0] 52)).cell? ⟨w.heap.size, 0, none⟩ = some (.int .i64 mo0) := cell_alloc _ (cell_alloc _ (cell_new (by simp) rfl))
  have m1 : (((w.alloc (.cells #[.int .i64 mo0, .int .i64 mo1, .int .i64 me0, .int .i64 me1] 56)).alloc (.cells #[.int .i64 x00, .int .i64 x01, .int .i64 x10, .int .i64 x11] 60)).alloc (.cells #[.int .i64 0, .int .i64 0, .int .i64 0, .int .i64 0, .int .i64 0] 52)).cell? ⟨w.heap.size, 1, none⟩ = some (.int .i64 mo1) := cell_alloc _ (cell_alloc _ (cell_new (by simp) rfl))
  have m2 : (((w.alloc (.cells #[.int .i64 mo0, .int .i64 mo1, .int .i64 me0, .int .i64 me1] 56)).alloc (.cells #[.int .i64 x00, .int .i64 x01, .int .i64 x10, .int .i64 x11] 60)).alloc (.cells #[.int .i64 0, .int .i64 0, .int .i64 0, .int .i64 0, .int .i64 0] 52)).cell? ⟨w.heap.size, 2, none⟩ = some (.int .i64 me0) := cell_alloc _ (cell_alloc _ (cell_new (by simp) rfl))
  have m3 : (((w.alloc (.cells #[.int .i64 mo0, .int .i64 mo1, .int .i64 me0, .int .i64 me1] 56)).alloc (.cells #[.int .i64 x00, .int .i64 x01, .int .i64 x10, .int .i64 x11] 60)).alloc (.cells #[.int .i64 0, .int .i64 0, .int .i64 0, .int .i64 0, .int .i64 0] 52)).cell? ⟨w.heap.size, 3, none⟩ = some (.int .i64 me1) := cell_alloc _ (cell_alloc _ (cell_new (by simp) rfl))
  have zm : w.heap.size < (((w.alloc (.cells #[.int .i64 mo0, .int .i64 mo1, .int .i64 me0, .int .i64 me1] 56)).alloc (.cells #[.int .i64 x00, .int .i64 x01, .int .i64 x10, .int .i64 x11] 60)).alloc (.cells #[.int .i64 0, .int .i64 0, .int .i64 0, .int .i64 0, .int .i64 0] 52)).heap.size := World.block_lt_of_cell? _ _ m0
  have x0 : (((w.alloc (.cells #[.int .i64 mo0, .int .i64 mo1, .int .i64 me0, .int .i64 me1] 56)).alloc (.cells #[.int .i64 x00, .int .i64 x01, .int .i64 x10, .int .i64 x11] 60)).alloc (.cells #[.int .i64 0, .int .i64 0, .int .i64 0, .int .i64 0, .int .i64 0] 52)).cell? ⟨w.heap.size + 1, 0, none⟩ = some (.int .i64 x00) := cell_alloc _ (cell_new (by simp) rfl)
  have x1 : (((w.alloc (.cells #[.int .i64 mo0, .int .i64 mo1, .int .i64 me0, .int .i64 me1] 56)).alloc (.cells #[.int .i64 x00, .int .i64 x01, .int .i64 x10, .int .i64 x11] 60)).alloc (.cells #[.int .i64 0, .int .i64 0, .int .i64 0, .int .i64 0, .int .i64 0] 52)).cell? ⟨w.heap.size + 1, 1, none⟩ = some (.int .i64 x01) := cell_alloc _ (cell_new (by simp) rfl)
  have x2 : (((w.alloc (.cells #[.int .i64 mo0, .int .i64 mo1, .int .i64 me0, .int .i64 me1] 56)).alloc (.cells #[.int .i64 x00, .int .i64 x01, .int .i64 x10, .int .i64 x11] 60)).alloc (.cells #[.int .i64 0, .int .i64 0, .int .i64 0, .int .i64 0, .int .i64 0] 52)).cell? ⟨w.heap.size + 1, 2, none⟩ = some (.int .i64 x10) := cell_alloc _ (cell_new (by simp) rfl)
  have x3 : (((w.alloc (.cells #[.int .i64 mo0, .int .i64 mo1, .int .i64 me0, .int .i64 me1] 56)).alloc (.cells #[.int .i64 x00, .int .i64 x01, .int .i64 x10, .int .i64 x11] 60)).alloc (.cells #[.int .i64 0, .int .i64 0, .int .i64 0, .int .i64 0, .int .i64 0] 52)).cell? ⟨w.heap.size + 1, 3, none⟩ = some (.int .i64 x11) := cell_alloc _ (cell_new (by simp) rfl)
  have zx : w.heap.size + 1 < (((w.alloc (.cells #[.int .i64 mo0, .int .i64 mo1, .int .i64 me0, .int .i64 me1] 56)).alloc (.cells #[.int .i64 x00, .int .i64 x01, .int .i64 x10, .int .i64 x11] 60)).alloc (.cells #[.int .i64 0, .int .i64 0, .int .i64 0, .int .i64 0, .int .i64 0] 52)).heap.size := World.block_lt_of_cell? _ _ x0
  have r0 : (((w.alloc (.cells #[.int .i64 mo0, .int .i64 mo1, .int .i64 me0, .int .i64 me1] 56)).alloc (.cells #[.int .i64 x00, .int .i64 x01, .int .i64 x10, .int .i64 x11] 60)).alloc (.cells #[.int .i64 0, .int .i64 0, .int .i64 0, .int .i64 0, .int .i64 0] 52)).cell? ⟨w.heap.size + 1 + 1, 0, none⟩ = some (.int .i64 0) := cell_new (by simp) rfl
  have rf0 : (((w.alloc (.cells #[.int .i64 mo0, .int .i64 mo1, .int .i64 me0, .int .i64 me1] 56)).alloc (.cells #[.int .i64 x00, .int .i64 x01, .int .i64 x10, .int .i64 x11] 60)).alloc (.cells #[.int .i64 0, .int .i64 0, .int .i64 0, .int .i64 0, .int .i64 0] 52)).frozen? ⟨w.heap.size + 1 + 1, 0, none⟩ = false := frozen_new (by simp)
  have r1 : (((w.alloc (.cells #[.int .i64 mo0, .int .i64 mo1, .int .i64 me0, .int .i64 me1] 56)).alloc (.cells #[.int .i64 x00, .int .i64 x01, .int .i64 x10, .int .i64 x11] 60)).alloc (.cells #[.int .i64 0, .int .i64 0, .int .i64 0, .int .i64 0, .int .i64 0] 52)).cell? ⟨w.heap.size + 1 + 1, 1, none⟩ = some (.int .i64 0) := cell_new (by simp) rfl
  have rf1 : (((w.alloc (.cells #[.int .i64 mo0, .int .i64 mo1, .int .i64 me0, .int .i64 me1] 56)).alloc (.cells #[.int .i64 x00, .int .i64 x01, .int .i64 x10, .int .i64 x11] 60)).alloc (.cells #[.int .i64 0, .int .i64 0, .int .i64 0, .int .i64 0, .int .i64 0] 52)).frozen? ⟨w.heap.size + 1 + 1, 1, none⟩ = false := frozen_new (by simp)
  have r2 : (((w.alloc (.cells #[.int .i64 mo0, .int .i64 mo1, .int .i64 me0, .int .i64 me1] 56)).alloc (.cells #[.int .i64 x00, .int .i64 x01, .int .i64 x10, .int .i64 x11] 60)).alloc (.cells #[.int .i64 0, .int .i64 0, .int .i64 0, .int .i64 0, .int .i64 0] 52)).cell? ⟨w.heap.size + 1 + 1, 2, none⟩ = some (.int .i64 0) := cell_new (by simp) rfl
  have rf2 : (((w.alloc (.cells #[.int .i64 mo0, .int .i64 mo1, .int .i64 me0, .int .i64 me1] 56)).alloc (.cells #[.int .i64 x00, .int .i64 x01, .int .i64 x10, .int .i64 x11] 60)).alloc (.cells #[.int .i64 0, .int .i64 0, .int .i64 0, .int .i64 0, .int .i64 0] 52)).frozen? ⟨w.heap.size + 1 + 1, 2, none⟩ = false := frozen_new (by simp)
  have r3 : (((w.alloc (.cells #[.int .i64 mo0, .int .i64 mo1, .int .i64 me0, .int .i64 me1] 56)).alloc (.cells #[.int .i64 x00, .int .i64 x01, .int .i64 x10, .int .i64 x11] 60)).alloc (.cells #[.int .i64 0, .int .i64 0, .int .i64 0, .int .i64 0, .int .i64 0] 52)).cell? ⟨w.heap.size + 1 + 1, 3, none⟩ = some (.int .i64 0) := cell_new (by simp) rfl
  have rf3 : (((w.alloc (.cells #[.int .i64 mo0, .int .i64 mo1, .int .i64 me0, .int .i64 me1] 56)).alloc (.cells #[.int .i64 x00, .int .i64 x01, .int .i64 x10, .int .i64 x11] 60)).alloc (.cells #[.int .i64 0, .int .i64 0, .int .i64 0, .int .i64 0, .int .i64 0] 52)).frozen? ⟨w.heap.size + 1 + 1, 3, none⟩ = false := frozen_new (by simp)
  have r4 : (((w.alloc (.cells #[.int .i64 mo0, .int .i64 mo1, .int .i64 me0, .int .i64 me1] 56)).alloc (.cells #[.int .i64 x00, .int .i64 x01, .int .i64 x10, .int .i64 x11] 60)).alloc (.cells #[.int .i64 0, .int .i64 0, .int .i64 0, .int .i64 0, .int .i64 0] 52)).cell? ⟨w.heap.size + 1 + 1, 4, none⟩ = some (.int .i64 0) := cell_new (by simp) rfl
  have rf4 : (((w.alloc (.cells #[.int .i64 mo0, .int .i64 mo1, .int .i64 me0, .int .i64 me1] 56)).alloc (.cells #[.int .i64 x00, .int .i64 x01, .int .i64 x10, .int .i64 x11] 60)).alloc (.cells #[.int .i64 0, .int .i64 0, .int .i64 0, .int .i64 0, .int .i64 0] 52)).frozen? ⟨w.heap.size + 1 + 1, 4, none⟩ = false := frozen_new (by simp)
  have zr : w.heap.size + 1 + 1 < (((w.alloc (.cells #[.int .i64 mo0, .int .i64 mo1, .int .i64 me0, .int .i64 me1] 56)).alloc (.cells #[.int .i64 x00, .int .i64 x01, .int .i64 x10, .int .i64 x11] 60)).alloc (.cells #[.int .i64 0, .int .i64 0, .int .i64 0, .int .i64 0, .int .i64 0] 52)).heap.size := World.block_lt_of_cell? _ _ r0
  generalize (((w.alloc (.cells #[.int .i64 mo0, .int .i64 mo1, .int .i64 me0, .int .i64 me1] 56)).alloc (.cells #[.int .i64 x00, .int .i64 x01, .int .i64 x10, .int .i64 x11] 60)).alloc (.cells #[.int .i64 0, .int .i64 0, .int .i64 0, .int .i64 0, .int .i64 0] 52)) = w0 at *
  go_cut [5, 6] from 11 to 14 (fun s t wx => ∃ (na nb : Nat), s = .pointer (some ⟨na, 0, none⟩) ∧ t = .pointer (some ⟨nb, 0, none⟩) ∧ Below w0.heap.size w0 wx ∧ wx.cell? ⟨na, 0, none⟩ = some (.int .i64 mo0) ∧ wx.cell? ⟨na, 1, none⟩ = some (.int .i64 mo1) ∧ wx.cell? ⟨nb, 0, none⟩ = some (.int .i64 me0) ∧ wx.cell? ⟨nb, 1, none⟩ = some (.int .i64 me1))
  case first =>
    go_region_held3 (fun w' => w'.cell? ⟨w.heap.size, 0, none⟩ = some (.int .i64 mo0) ∧ w'.cell? ⟨w.heap.size, 1, none⟩ = some (.int .i64 mo1) ∧ w'.cell? ⟨w.heap.size, 2, none⟩ = some (.int .i64 me0) ∧ w'.cell? ⟨w.heap.size, 3, none⟩ = some (.int .i64 me1)) ((((try go_split_ands); (repeat' (apply And.intro)) <;> (repeat (first | (with_reducible assumption) | (with_reducible refine cell_drew ?_) | (with_reducible refine cell_alloc _ ?_) | (with_reducible refine cell_below' (by with_reducible assumption) ?_) | (with_reducible refine cell_far ?_ ?_; focus (first | omega | (simp; omega) | (simp; done)))))))) (fail)
    all_goals
      go_wp2_with (fail)
      go_meet
      exact ⟨_, _, rfl, rfl, (by repeat (first | assumption | exact Below.refl _ _ | refine Below.drew ?_ | (refine below_alloc _ ?_ ?_; focus (first | omega | (simp; done) | (simp; omega) | (simp at *; omega))) | (refine below_set _ ?_ ?_; focus (first | omega | (simp; done) | (simp; omega) | (simp at *; omega))) | refine below_drewN ?_ _ | (refine below_call (by assumption) ?_ ?_; focus (first | omega | (simp; done) | (simp; omega) | (simp at *; omega))) | (refine below_call' (by assumption) ?_ ?_; focus (first | omega | (simp; done) | (simp; omega) | (simp at *; omega))))), (by repeat (first | assumption | (refine cell_new ?_ rfl; focus (simp; done)) | refine cell_drew ?_ | refine cell_alloc _ ?_ | refine cell_drewN _ ?_ | (refine cell_far ?_ ?_; focus (first | omega | (simp; omega) | (simp; done))) | refine cell_below' (by assumption) ?_)), (by repeat (first | assumption | (refine cell_new ?_ rfl; focus (simp; done)) | refine cell_drew ?_ | refine cell_alloc _ ?_ | refine cell_drewN _ ?_ | (refine cell_far ?_ ?_; focus (first | omega | (simp; omega) | (simp; done))) | refine cell_below' (by assumption) ?_)), (by repeat (first | assumption | (refine cell_new ?_ rfl; focus (simp; done)) | refine cell_drew ?_ | refine cell_alloc _ ?_ | refine cell_drewN _ ?_ | (refine cell_far ?_ ?_; focus (first | omega | (simp; omega) | (simp; done))) | refine cell_below' (by assumption) ?_)), (by repeat (first | assumption | (refine cell_new ?_ rfl; focus (simp; done)) | refine cell_drew ?_ | refine cell_alloc _ ?_ | refine cell_drewN _ ?_ | (refine cell_far ?_ ?_; focus (first | omega | (simp; omega) | (simp; done))) | refine cell_below' (by assumption) ?_))⟩
  case rest =>
  obtain ⟨na, nb, rfl, rfl, hbc, a0, a1, b0, b1⟩ := hcut
  have h1 : Below w.heap.size w wc := (hb0).trans ((hbc).mono (hb0).size)
  replace m0 := cell_below' hbc m0
  replace m1 := cell_below' hbc m1
  replace m2 := cell_below' hbc m2
  replace m3 := cell_below' hbc m3
  replace zm := Nat.lt_of_lt_of_le zm (hbc).size
  replace x0 := cell_below' hbc x0
  replace x1 := cell_below' hbc x1
  replace x2 := cell_below' hbc x2
  replace x3 := cell_below' hbc x3
  replace zx := Nat.lt_of_lt_of_le zx (hbc).size
  replace rf0 := frozen_below hbc (World.block_lt_of_cell? _ _ r0) rf0
  replace rf1 := frozen_below hbc (World.block_lt_of_cell? _ _ r1) rf1
  replace rf2 := frozen_below hbc (World.block_lt_of_cell? _ _ r2) rf2
  replace rf3 := frozen_below hbc (World.block_lt_of_cell? _ _ r3) rf3
  replace rf4 := frozen_below hbc (World.block_lt_of_cell? _ _ r4) rf4
  replace r0 := cell_below' hbc r0
  replace r1 := cell_below' hbc r1
  replace r2 := cell_below' hbc r2
  replace r3 := cell_below' hbc r3
  replace r4 := cell_below' hbc r4
  replace zr := Nat.lt_of_lt_of_le zr (hbc).size
  clear hbc hb0
  have za : na < wc.heap.size := World.block_lt_of_cell? _ _ a0
  have zb : nb < wc.heap.size := World.block_lt_of_cell? _ _ b0
  go_wp2_with (fail)
  refine (D.out _).mono ?_
  rintro e w1 ⟨rfl, hb1⟩
  have h2 : Below w.heap.size w w1 := (h1).trans ((hb1).mono (h1).size)
  replace a0 := cell_below' hb1 a0
  replace a1 := cell_below' hb1 a1
  replace za := Nat.lt_of_lt_of_le za (hb1).size
  replace b0 := cell_below' hb1 b0
  replace b1 := cell_below' hb1 b1
  replace zb := Nat.lt_of_lt_of_le zb (hb1).size
  replace m0 := cell_below' hb1 m0
  replace m1 := cell_below' hb1 m1
  replace m2 := cell_below' hb1 m2
  replace m3 := cell_below' hb1 m3
  replace zm := Nat.lt_of_lt_of_le zm (hb1).size
  replace x0 := cell_below' hb1 x0
  replace x1 := cell_below' hb1 x1
  replace x2 := cell_below' hb1 x2
  replace x3 := cell_below' hb1 x3
  replace zx := Nat.lt_of_lt_of_le zx (hb1).size
  replace rf0 := frozen_below hb1 (World.block_lt_of_cell? _ _ r0) rf0
  replace rf1 := frozen_below hb1 (World.block_lt_of_cell? _ _ r1) rf1
  replace rf2 := frozen_below hb1 (World.block_lt_of_cell? _ _ r2) rf2
  replace rf3 := frozen_below hb1 (World.block_lt_of_cell? _ _ r3) rf3
  replace rf4 := frozen_below hb1 (World.block_lt_of_cell? _ _ r4) rf4
  replace r0 := cell_below' hb1 r0
  replace r1 := cell_below' hb1 r1
  replace r2 := cell_below' hb1 r2
  replace r3 := cell_below' hb1 r3
  replace r4 := cell_below' hb1 r4
  replace zr := Nat.lt_of_lt_of_le zr (hb1).size
  clear hb1 h1
  clear m0 m1 m2 m3 zm
  go_upto_region 3 with (fail)
  have hb2 : Below w1.heap.size w1 (w1.alloc (.cells #[.int .i64 d.re, .int .i64 d.im] 81)) := below_alloc _ (Nat.le_refl _) (Below.refl _ _)
  have d0 : (w1.alloc (.cells #[.int .i64 d.re, .int .i64 d.im] 81)).cell? ⟨w1.heap.size, 0, none⟩ = some (.int .i64 d.re) := cell_new (by simp) rfl
  have d1 : (w1.alloc (.cells #[.int .i64 d.re, .int .i64 d.im] 81)).cell? ⟨w1.heap.size, 1, none⟩ = some (.int .i64 d.im) := cell_new (by simp) rfl
  have zd : w1.heap.size < (w1.alloc (.cells #[.int .i64 d.re, .int .i64 d.im] 81)).heap.size := World.block_lt_of_cell? _ _ d0
  generalize (w1.alloc (.cells #[.int .i64 d.re, .int .i64 d.im] 81)) = w2 at *
  have h3 : Below w.heap.size w w2 := (h2).trans ((hb2).mono (h2).size)
  replace a0 := cell_below' hb2 a0
  replace a1 := cell_below' hb2 a1
  replace za := Nat.lt_of_lt_of_le za (hb2).size
  replace b0 := cell_below' hb2 b0
  replace b1 := cell_below' hb2 b1
  replace zb := Nat.lt_of_lt_of_le zb (hb2).size
  replace x0 := cell_below' hb2 x0
  replace x1 := cell_below' hb2 x1
  replace x2 := cell_below' hb2 x2
  replace x3 := cell_below' hb2 x3
  replace zx := Nat.lt_of_lt_of_le zx (hb2).size
  replace rf0 := frozen_below hb2 (World.block_lt_of_cell? _ _ r0) rf0
  replace rf1 := frozen_below hb2 (World.block_lt_of_cell? _ _ r1) rf1
  replace rf2 := frozen_below hb2 (World.block_lt_of_cell? _ _ r2) rf2
  replace rf3 := frozen_below hb2 (World.block_lt_of_cell? _ _ r3) rf3
  replace rf4 := frozen_below hb2 (World.block_lt_of_cell? _ _ r4) rf4
  replace r0 := cell_below' hb2 r0
  replace r1 := cell_below' hb2 r1
  replace r2 := cell_below' hb2 r2
  replace r3 := cell_below' hb2 r3
  replace r4 := cell_below' hb2 r4
  replace zr := Nat.lt_of_lt_of_le zr (hb2).size
  clear hb2 h2
  (refine region_alloc (T := ?_) (obj := (.cells #[.int .i64 0, .int .i64 0] 81)) (val := (fun nb => .pointer (some ⟨nb, 0, none⟩))) 10 8 (by kernel_rfl) (by kernel_rfl) rfl rfl rfl (Nat.le_of_ble_eq_true rfl) ?_ ?_ ?_; rotate_left 1)
  focus (intro W0 hB0 hx; simp only [List.take_succ_cons, List.take_zero]; (repeat (any_goals (first | go_big_quiet_step (first | ((go_at_call 61; with_reducible exact ext_call (O1.out _))) | ((go_at_call 60; with_reducible exact ext_call (O2.out _))) | ((go_at_call 62; with_reducible exact ext_call (C.out _))) | ((go_at_call 61; with_reducible exact ext_call (O3.out _)))) | quiet_step (first | ((go_at_call 61; with_reducible exact ext_call (O1.out _))) | ((go_at_call 60; with_reducible exact ext_call (O2.out _))) | ((go_at_call 62; with_reducible exact ext_call (C.out _))) | ((go_at_call 61; with_reducible exact ext_call (O3.out _))))))); refine wpQuiet_nil ?_; exact rfl)
  focus (intro W; go_simp; done)
  (intro W0 w3 hB0 hB1; obtain ⟨hbw3, hnw3, hsw3, hkw3⟩ := alloc_out hB0 hB1; clear hB0 hB1; simp only [List.drop_succ_cons, List.drop_zero]; generalize W0.heap.size = n8 at *; clear W0)
  have ob0 := blk_cell hkw3 (j := 0) rfl
  have o1' := blk_cell hkw3 (j := 1) rfl
  have obf0 := blk_frozen (j := 0) hkw3
  have obf1 := blk_frozen (j := 1) hkw3
  have zob : n8 < w3.heap.size := hsw3
  have q1 : n8 ≠ na := by omega
  have q2 : n8 ≠ nb := by omega
  have q3 : n8 ≠ w1.heap.size := by omega
  have q4 : n8 ≠ w.heap.size + 1 := by omega
  have q5 : n8 ≠ w.heap.size + 1 + 1 := by omega
  have q6 : w.heap.size ≤ n8 := by omega
  have h4 : Below w.heap.size w w3 := (h3).trans ((hbw3).mono (h3).size)
  replace a0 := cell_below' hbw3 a0
  replace a1 := cell_below' hbw3 a1
  replace za := Nat.lt_of_lt_of_le za (hbw3).size
  replace b0 := cell_below' hbw3 b0
  replace b1 := cell_below' hbw3 b1
  replace zb := Nat.lt_of_lt_of_le zb (hbw3).size
  replace d0 := cell_below' hbw3 d0
  replace d1 := cell_below' hbw3 d1
  replace zd := Nat.lt_of_lt_of_le zd (hbw3).size
  replace x0 := cell_below' hbw3 x0
  replace x1 := cell_below' hbw3 x1
  replace x2 := cell_below' hbw3 x2
  replace x3 := cell_below' hbw3 x3
  replace zx := Nat.lt_of_lt_of_le zx (hbw3).size
  replace rf0 := frozen_below hbw3 (World.block_lt_of_cell? _ _ r0) rf0
  replace rf1 := frozen_below hbw3 (World.block_lt_of_cell? _ _ r1) rf1
  replace rf2 := frozen_below hbw3 (World.block_lt_of_cell? _ _ r2) rf2
  replace rf3 := frozen_below hbw3 (World.block_lt_of_cell? _ _ r3) rf3
  replace rf4 := frozen_below hbw3 (World.block_lt_of_cell? _ _ r4) rf4
  replace r0 := cell_below' hbw3 r0
  replace r1 := cell_below' hbw3 r1
  replace r2 := cell_below' hbw3 r2
  replace r3 := cell_below' hbw3 r3
  replace r4 := cell_below' hbw3 r4
  replace zr := Nat.lt_of_lt_of_le zr (hbw3).size
  clear hbw3 h3
  have ob1 := o1'
  clear hnw3 hkw3 o1' hsw3
  go_upto_region 4 with (fail)
  have h5 : Below w.heap.size w ((w3.setCell ⟨n8, 0, none⟩ (.int .i64 so.re)).setCell ⟨n8, 1, none⟩ (.int .i64 so.im)) := below_set _ (by simp; try omega) (below_set _ (by simp; try omega) (h4))
  replace ob0 : ((w3.setCell ⟨n8, 0, none⟩ (.int .i64 so.re)).setCell ⟨n8, 1, none⟩ (.int .i64 so.im)).cell? ⟨n8, 0, none⟩ = some (.int .i64 so.re) := cell_next (by decide) (cell_same (ob0))
  replace ob1 : ((w3.setCell ⟨n8, 0, none⟩ (.int .i64 so.re)).setCell ⟨n8, 1, none⟩ (.int .i64 so.im)).cell? ⟨n8, 1, none⟩ = some (.int .i64 so.im) := cell_same (cell_next (by decide) (ob1))
  replace obf0 := (show World.frozen? ((w3.setCell ⟨n8, 0, none⟩ (.int .i64 so.re)).setCell ⟨n8, 1, none⟩ (.int .i64 so.im)) ⟨n8, 0, none⟩ = false from frozen_set _ _ (frozen_set _ _ (obf0)))
  replace obf1 := (show World.frozen? ((w3.setCell ⟨n8, 0, none⟩ (.int .i64 so.re)).setCell ⟨n8, 1, none⟩ (.int .i64 so.im)) ⟨n8, 1, none⟩ = false from frozen_set _ _ (frozen_set _ _ (obf1)))
  have hszQ : ((w3.setCell ⟨n8, 0, none⟩ (.int .i64 so.re)).setCell ⟨n8, 1, none⟩ (.int .i64 so.im)).heap.size = w3.heap.size := by simp
  replace zob : n8 < ((w3.setCell ⟨n8, 0, none⟩ (.int .i64 so.re)).setCell ⟨n8, 1, none⟩ (.int .i64 so.im)).heap.size := by rw [hszQ]; exact zob
  replace a0 := cell_far (u := .int .i64 so.im) (q := ⟨n8, 1, none⟩) q1 (cell_far (u := .int .i64 so.re) (q := ⟨n8, 0, none⟩) q1 (a0))
  replace a1 := cell_far (u := .int .i64 so.im) (q := ⟨n8, 1, none⟩) q1 (cell_far (u := .int .i64 so.re) (q := ⟨n8, 0, none⟩) q1 (a1))
  replace za := Nat.lt_of_lt_of_eq za hszQ.symm
  replace b0 := cell_far (u := .int .i64 so.im) (q := ⟨n8, 1, none⟩) q2 (cell_far (u := .int .i64 so.re) (q := ⟨n8, 0, none⟩) q2 (b0))
  replace b1 := cell_far (u := .int .i64 so.im) (q := ⟨n8, 1, none⟩) q2 (cell_far (u := .int .i64 so.re) (q := ⟨n8, 0, none⟩) q2 (b1))
  replace zb := Nat.lt_of_lt_of_eq zb hszQ.symm
  replace d0 := cell_far (u := .int .i64 so.im) (q := ⟨n8, 1, none⟩) q3 (cell_far (u := .int .i64 so.re) (q := ⟨n8, 0, none⟩) q3 (d0))
  replace d1 := cell_far (u := .int .i64 so.im) (q := ⟨n8, 1, none⟩) q3 (cell_far (u := .int .i64 so.re) (q := ⟨n8, 0, none⟩) q3 (d1))
  replace zd := Nat.lt_of_lt_of_eq zd hszQ.symm
  replace x0 := cell_far (u := .int .i64 so.im) (q := ⟨n8, 1, none⟩) q4 (cell_far (u := .int .i64 so.re) (q := ⟨n8, 0, none⟩) q4 (x0))
  replace x1 := cell_far (u := .int .i64 so.im) (q := ⟨n8, 1, none⟩) q4 (cell_far (u := .int .i64 so.re) (q := ⟨n8, 0, none⟩) q4 (x1))
  replace x2 := cell_far (u := .int .i64 so.im) (q := ⟨n8, 1, none⟩) q4 (cell_far (u := .int .i64 so.re) (q := ⟨n8, 0, none⟩) q4 (x2))
  replace x3 := cell_far (u := .int .i64 so.im) (q := ⟨n8, 1, none⟩) q4 (cell_far (u := .int .i64 so.re) (q := ⟨n8, 0, none⟩) q4 (x3))
  replace zx := Nat.lt_of_lt_of_eq zx hszQ.symm
  replace r0 := cell_far (u := .int .i64 so.im) (q := ⟨n8, 1, none⟩) q5 (cell_far (u := .int .i64 so.re) (q := ⟨n8, 0, none⟩) q5 (r0))
  replace rf0 := frozen_set ⟨n8, 1, none⟩ (.int .i64 so.im) (frozen_set ⟨n8, 0, none⟩ (.int .i64 so.re) (rf0))
  replace r1 := cell_far (u := .int .i64 so.im) (q := ⟨n8, 1, none⟩) q5 (cell_far (u := .int .i64 so.re) (q := ⟨n8, 0, none⟩) q5 (r1))
  replace rf1 := frozen_set ⟨n8, 1, none⟩ (.int .i64 so.im) (frozen_set ⟨n8, 0, none⟩ (.int .i64 so.re) (rf1))
  replace r2 := cell_far (u := .int .i64 so.im) (q := ⟨n8, 1, none⟩) q5 (cell_far (u := .int .i64 so.re) (q := ⟨n8, 0, none⟩) q5 (r2))
  replace rf2 := frozen_set ⟨n8, 1, none⟩ (.int .i64 so.im) (frozen_set ⟨n8, 0, none⟩ (.int .i64 so.re) (rf2))
  replace r3 := cell_far (u := .int .i64 so.im) (q := ⟨n8, 1, none⟩) q5 (cell_far (u := .int .i64 so.re) (q := ⟨n8, 0, none⟩) q5 (r3))
  replace rf3 := frozen_set ⟨n8, 1, none⟩ (.int .i64 so.im) (frozen_set ⟨n8, 0, none⟩ (.int .i64 so.re) (rf3))
  replace r4 := cell_far (u := .int .i64 so.im) (q := ⟨n8, 1, none⟩) q5 (cell_far (u := .int .i64 so.re) (q := ⟨n8, 0, none⟩) q5 (r4))
  replace rf4 := frozen_set ⟨n8, 1, none⟩ (.int .i64 so.im) (frozen_set ⟨n8, 0, none⟩ (.int .i64 so.re) (rf4))
  replace zr := Nat.lt_of_lt_of_eq zr hszQ.symm
  clear hszQ h4
  generalize ((w3.setCell ⟨n8, 0, none⟩ (.int .i64 so.re)).setCell ⟨n8, 1, none⟩ (.int .i64 so.im)) = w4 at *
  (refine region_alloc (T := ?_) (obj := (.cells #[.int .i64 0, .int .i64 0] 81)) (val := (fun nb => .pointer (some ⟨nb, 0, none⟩))) 10 9 (by kernel_rfl) (by kernel_rfl) rfl rfl rfl (Nat.le_of_ble_eq_true rfl) ?_ ?_ ?_; rotate_left 1)
  focus (intro W0 hB0 hx; simp only [List.take_succ_cons, List.take_zero]; (repeat (any_goals (first | go_big_quiet_step (first | ((go_at_call 61; with_reducible exact ext_call (E1.out _))) | ((go_at_call 60; with_reducible exact ext_call (E2.out _))) | ((go_at_call 62; with_reducible exact ext_call (C.out _))) | ((go_at_call 61; with_reducible exact ext_call (E3.out _)))) | quiet_step (first | ((go_at_call 61; with_reducible exact ext_call (E1.out _))) | ((go_at_call 60; with_reducible exact ext_call (E2.out _))) | ((go_at_call 62; with_reducible exact ext_call (C.out _))) | ((go_at_call 61; with_reducible exact ext_call (E3.out _))))))); refine wpQuiet_nil ?_; exact rfl)
  focus (intro W; go_simp; done)
  (intro W0 w5 hB0 hB1; obtain ⟨hbw5, hnw5, hsw5, hkw5⟩ := alloc_out hB0 hB1; clear hB0 hB1; simp only [List.drop_succ_cons, List.drop_zero]; generalize W0.heap.size = n9 at *; clear W0)
  have p0 := blk_cell hkw5 (j := 0) rfl
  have p1 := blk_cell hkw5 (j := 1) rfl
  have pf0 := blk_frozen (j := 0) hkw5
  have pf1 := blk_frozen (j := 1) hkw5
  have zp : n9 < w5.heap.size := hsw5
  have t1 : n9 ≠ n8 := by omega
  have t3 : n9 ≠ w1.heap.size := by omega
  have t5 : n9 ≠ w.heap.size + 1 + 1 := by omega
  have t6 : w.heap.size ≤ n9 := by omega
  have h6 : Below w.heap.size w w5 := (h5).trans ((hbw5).mono (h5).size)
  replace d0 := cell_below' hbw5 d0
  replace d1 := cell_below' hbw5 d1
  replace zd := Nat.lt_of_lt_of_le zd (hbw5).size
  replace ob0 := cell_below' hbw5 ob0
  replace ob1 := cell_below' hbw5 ob1
  replace zob := Nat.lt_of_lt_of_le zob (hbw5).size
  replace rf0 := frozen_below hbw5 (World.block_lt_of_cell? _ _ r0) rf0
  replace rf1 := frozen_below hbw5 (World.block_lt_of_cell? _ _ r1) rf1
  replace rf2 := frozen_below hbw5 (World.block_lt_of_cell? _ _ r2) rf2
  replace rf3 := frozen_below hbw5 (World.block_lt_of_cell? _ _ r3) rf3
  replace rf4 := frozen_below hbw5 (World.block_lt_of_cell? _ _ r4) rf4
  replace r0 := cell_below' hbw5 r0
  replace r1 := cell_below' hbw5 r1
  replace r2 := cell_below' hbw5 r2
  replace r3 := cell_below' hbw5 r3
  replace r4 := cell_below' hbw5 r4
  replace zr := Nat.lt_of_lt_of_le zr (hbw5).size
  clear hbw5 h5
  clear hnw5 hkw5 hsw5 obf0 obf1 a0 a1 b0 b1 x0 x1 x2 x3
  go_upto_region 5 with (fail)
  have h7 : Below w.heap.size w ((w5.setCell ⟨n9, 0, none⟩ (.int .i64 se.re)).setCell ⟨n9, 1, none⟩ (.int .i64 se.im)) := below_set _ (by simp; try omega) (below_set _ (by simp; try omega) (h6))
  replace p0 : ((w5.setCell ⟨n9, 0, none⟩ (.int .i64 se.re)).setCell ⟨n9, 1, none⟩ (.int .i64 se.im)).cell? ⟨n9, 0, none⟩ = some (.int .i64 se.re) := cell_next (by decide) (cell_same (p0))
  replace p1 : ((w5.setCell ⟨n9, 0, none⟩ (.int .i64 se.re)).setCell ⟨n9, 1, none⟩ (.int .i64 se.im)).cell? ⟨n9, 1, none⟩ = some (.int .i64 se.im) := cell_same (cell_next (by decide) (p1))
  replace pf0 := (show World.frozen? ((w5.setCell ⟨n9, 0, none⟩ (.int .i64 se.re)).setCell ⟨n9, 1, none⟩ (.int .i64 se.im)) ⟨n9, 0, none⟩ = false from frozen_set _ _ (frozen_set _ _ (pf0)))
  replace pf1 := (show World.frozen? ((w5.setCell ⟨n9, 0, none⟩ (.int .i64 se.re)).setCell ⟨n9, 1, none⟩ (.int .i64 se.im)) ⟨n9, 1, none⟩ = false from frozen_set _ _ (frozen_set _ _ (pf1)))
  have hszQ : ((w5.setCell ⟨n9, 0, none⟩ (.int .i64 se.re)).setCell ⟨n9, 1, none⟩ (.int .i64 se.im)).heap.size = w5.heap.size := by simp
  replace zp : n9 < ((w5.setCell ⟨n9, 0, none⟩ (.int .i64 se.re)).setCell ⟨n9, 1, none⟩ (.int .i64 se.im)).heap.size := by rw [hszQ]; exact zp
  replace d0 := cell_far (u := .int .i64 se.im) (q := ⟨n9, 1, none⟩) t3 (cell_far (u := .int .i64 se.re) (q := ⟨n9, 0, none⟩) t3 (d0))
  replace d1 := cell_far (u := .int .i64 se.im) (q := ⟨n9, 1, none⟩) t3 (cell_far (u := .int .i64 se.re) (q := ⟨n9, 0, none⟩) t3 (d1))
  replace zd := Nat.lt_of_lt_of_eq zd hszQ.symm
  replace ob0 := cell_far (u := .int .i64 se.im) (q := ⟨n9, 1, none⟩) t1 (cell_far (u := .int .i64 se.re) (q := ⟨n9, 0, none⟩) t1 (ob0))
  replace ob1 := cell_far (u := .int .i64 se.im) (q := ⟨n9, 1, none⟩) t1 (cell_far (u := .int .i64 se.re) (q := ⟨n9, 0, none⟩) t1 (ob1))
  replace zob := Nat.lt_of_lt_of_eq zob hszQ.symm
  replace r0 := cell_far (u := .int .i64 se.im) (q := ⟨n9, 1, none⟩) t5 (cell_far (u := .int .i64 se.re) (q := ⟨n9, 0, none⟩) t5 (r0))
  replace rf0 := frozen_set ⟨n9, 1, none⟩ (.int .i64 se.im) (frozen_set ⟨n9, 0, none⟩ (.int .i64 se.re) (rf0))
  replace r1 := cell_far (u := .int .i64 se.im) (q := ⟨n9, 1, none⟩) t5 (cell_far (u := .int .i64 se.re) (q := ⟨n9, 0, none⟩) t5 (r1))
  replace rf1 := frozen_set ⟨n9, 1, none⟩ (.int .i64 se.im) (frozen_set ⟨n9, 0, none⟩ (.int .i64 se.re) (rf1))
  replace r2 := cell_far (u := .int .i64 se.im) (q := ⟨n9, 1, none⟩) t5 (cell_far (u := .int .i64 se.re) (q := ⟨n9, 0, none⟩) t5 (r2))
  replace rf2 := frozen_set ⟨n9, 1, none⟩ (.int .i64 se.im) (frozen_set ⟨n9, 0, none⟩ (.int .i64 se.re) (rf2))
  replace r3 := cell_far (u := .int .i64 se.im) (q := ⟨n9, 1, none⟩) t5 (cell_far (u := .int .i64 se.re) (q := ⟨n9, 0, none⟩) t5 (r3))
  replace rf3 := frozen_set ⟨n9, 1, none⟩ (.int .i64 se.im) (frozen_set ⟨n9, 0, none⟩ (.int .i64 se.re) (rf3))
  replace r4 := cell_far (u := .int .i64 se.im) (q := ⟨n9, 1, none⟩) t5 (cell_far (u := .int .i64 se.re) (q := ⟨n9, 0, none⟩) t5 (r4))
  replace rf4 := frozen_set ⟨n9, 1, none⟩ (.int .i64 se.im) (frozen_set ⟨n9, 0, none⟩ (.int .i64 se.re) (rf4))
  replace zr := Nat.lt_of_lt_of_eq zr hszQ.symm
  clear hszQ h6
  generalize ((w5.setCell ⟨n9, 0, none⟩ (.int .i64 se.re)).setCell ⟨n9, 1, none⟩ (.int .i64 se.im)) = w6 at *
  (refine region_extx 10 (by kernel_rfl) (by kernel_rfl) fun hx => ?_; simp only [List.take_succ_cons, List.take_zero, List.drop_succ_cons, List.drop_zero]; (repeat (any_goals (first | go_big_quiet_step (((go_at_call 46; with_reducible exact ext_call (P.out _)))) | quiet_step (((go_at_call 46; with_reducible exact ext_call (P.out _))))))))
  (refine wpQuiet_nil ?_; clear hx; intro u; have hbw7 := ext_bel _ u; have hxw7 := ext_cell _ u; generalize ext _ u = w7 at *; clear u; have hsw7 := hbw7.size; (try simp at hsw7))
  have h8 : Below w.heap.size w w7 := (h7).trans ((hbw7).mono (h7).size)
  replace d0 := cell_below' hbw7 d0
  replace d1 := cell_below' hbw7 d1
  replace zd := Nat.lt_of_lt_of_le zd (hbw7).size
  replace ob0 := cell_below' hbw7 ob0
  replace ob1 := cell_below' hbw7 ob1
  replace zob := Nat.lt_of_lt_of_le zob (hbw7).size
  replace p0 := cell_below' hbw7 p0
  replace p1 := cell_below' hbw7 p1
  replace zp := Nat.lt_of_lt_of_le zp (hbw7).size
  replace rf0 := frozen_below hbw7 (World.block_lt_of_cell? _ _ r0) rf0
  replace rf1 := frozen_below hbw7 (World.block_lt_of_cell? _ _ r1) rf1
  replace rf2 := frozen_below hbw7 (World.block_lt_of_cell? _ _ r2) rf2
  replace rf3 := frozen_below hbw7 (World.block_lt_of_cell? _ _ r3) rf3
  replace rf4 := frozen_below hbw7 (World.block_lt_of_cell? _ _ r4) rf4
  replace r0 := cell_below' hbw7 r0
  replace r1 := cell_below' hbw7 r1
  replace r2 := cell_below' hbw7 r2
  replace r3 := cell_below' hbw7 r3
  replace r4 := cell_below' hbw7 r4
  replace zr := Nat.lt_of_lt_of_le zr (hbw7).size
  clear hbw7 h7
  clear hxw7 hsw7 pf0 pf1
  go_wp2_with (fail)
  refine (G.out _ _ (rows_lit _ (by simp) fun k x hk => by
    match k with
    | 0 => simp at hk; subst hk; exact cell_new rfl rfl
    | 1 => simp at hk; subst hk; exact cell_new rfl rfl
    | 2 => simp at hk; subst hk; exact cell_new rfl rfl
    | 3 => simp at hk; subst hk; exact cell_new rfl rfl
    | 4 => simp at hk; subst hk; exact cell_new rfl rfl
    | k + 5 => simp at hk)).mono ?_
  rintro e w8 ⟨rfl, hb8⟩
  have hb8' : Below w7.heap.size w7 w8 := (below_alloc _ (Nat.le_refl _) (Below.refl _ _)).trans (hb8.mono (by simp))
  clear hb8
  have h9 : Below w.heap.size w w8 := (h8).trans ((hb8').mono (h8).size)
  replace d0 := cell_below' hb8' d0
  replace d1 := cell_below' hb8' d1
  replace zd := Nat.lt_of_lt_of_le zd (hb8').size
  replace ob0 := cell_below' hb8' ob0
  replace ob1 := cell_below' hb8' ob1
  replace zob := Nat.lt_of_lt_of_le zob (hb8').size
  replace p0 := cell_below' hb8' p0
  replace p1 := cell_below' hb8' p1
  replace zp := Nat.lt_of_lt_of_le zp (hb8').size
  replace rf0 := frozen_below hb8' (World.block_lt_of_cell? _ _ r0) rf0
  replace rf1 := frozen_below hb8' (World.block_lt_of_cell? _ _ r1) rf1
  replace rf2 := frozen_below hb8' (World.block_lt_of_cell? _ _ r2) rf2
  replace rf3 := frozen_below hb8' (World.block_lt_of_cell? _ _ r3) rf3
  replace rf4 := frozen_below hb8' (World.block_lt_of_cell? _ _ r4) rf4
  replace r0 := cell_below' hb8' r0
  replace r1 := cell_below' hb8' r1
  replace r2 := cell_below' hb8' r2
  replace r3 := cell_below' hb8' r3
  replace r4 := cell_below' hb8' r4
  replace zr := Nat.lt_of_lt_of_le zr (hb8').size
  clear hb8' h8
  go_upto_region 6 with (fail)
  (refine region_extx 10 (by kernel_rfl) (by kernel_rfl) fun hx => ?_; simp only [List.take_succ_cons, List.take_zero, List.drop_succ_cons, List.drop_zero]; (repeat (any_goals (first | go_big_quiet_step ((first | ((go_at_call 64; with_reducible exact ext_call (V1.out _))) | ((go_at_call 64; with_reducible exact ext_call (V2.out _))) | ((go_at_call 46; with_reducible exact ext_call (P.out _))))) | quiet_step ((first | ((go_at_call 64; with_reducible exact ext_call (V1.out _))) | ((go_at_call 64; with_reducible exact ext_call (V2.out _))) | ((go_at_call 46; with_reducible exact ext_call (P.out _)))))))))
  (refine wpQuiet_nil ?_; clear hx; intro u; have hbw9 := ext_bel _ u; have hxw9 := ext_cell _ u; generalize ext _ u = w9 at *; clear u; have hsw9 := hbw9.size; (try simp at hsw9))
  have h10 : Below w.heap.size w w9 := (h9).trans ((hbw9).mono (h9).size)
  replace rf0 := frozen_below hbw9 (World.block_lt_of_cell? _ _ r0) rf0
  replace rf1 := frozen_below hbw9 (World.block_lt_of_cell? _ _ r1) rf1
  replace rf2 := frozen_below hbw9 (World.block_lt_of_cell? _ _ r2) rf2
  replace rf3 := frozen_below hbw9 (World.block_lt_of_cell? _ _ r3) rf3
  replace rf4 := frozen_below hbw9 (World.block_lt_of_cell? _ _ r4) rf4
  replace r0 := cell_below' hbw9 r0
  replace r1 := cell_below' hbw9 r1
  replace r2 := cell_below' hbw9 r2
  replace r3 := cell_below' hbw9 r3
  replace r4 := cell_below' hbw9 r4
  replace zr := Nat.lt_of_lt_of_le zr (hbw9).size
  clear hbw9 h9
  clear hxw9 hsw9
  go_wp2_with (fail)
  obtain ⟨s0, s1, s2, s3, s4⟩ := set5 (v0 := .int .i64 v1.re) (v1 := .int .i64 v1.im) (v2 := .int .i64 v2.re) (v3 := .int .i64 v2.im) (v4 := .int .i64 (nd / g)) r0 r1 r2 r3 r4
  refine bodyPost_ret (v := .agg #[.int .i64 v1.re, .int .i64 v1.im, .int .i64 v2.re, .int .i64 v2.im, .int .i64 (nd / g)]) (by simp [results, Tryd.results44, go_sem, s0, s1, s2, s3, s4]) rfl ?_
  rw [HQ.out]
  have hle : w.heap.size ≤ w.heap.size + 1 + 1 := by omega
  exact ⟨rfl, below_set _ hle (below_set _ hle (below_set _ hle (below_set _ hle (below_set _ hle h10))))⟩
/-- the error of modes -/
def mdB (mo me : Gs) : Bool := prtB 10 mo && prtB 10 me
def eqB (a b : Gs) : Bool := a.re == b.re && a.im == b.im
def neB (a b : Gs) : Bool := !(eqB a b)
def mdsE (mo me : Gs) : Int := firstE [unl (mdB mo me) 2, unl (neB mo me) 11]
theorem neB_true {a b : Gs} (h : neB a b = true) : a ≠ b := fun e => by
  subst e
  unfold neB eqB at h
  simp at h
theorem neB_of {a b : Gs} (h : a ≠ b) : neB a b = true := by
  unfold neB eqB
  cases hb : (a.re == b.re && a.im == b.im)
  · rfl
  · rw [Bool.and_eq_true, beq_iff_eq, beq_iff_eq] at hb
    exact absurd (Gs.ext2 hb.1 hb.2) h
theorem mdsE_zero {mo me : Gs} (h : mdsE mo me = 0) : OkM mo me := by
  unfold mdsE at h
  cases h1 : mdB mo me
  · rw [h1, unl_false, firstE_nz (by decide)] at h; cases h
  · rw [h1, unl_true, firstE_z, firstE1] at h
    cases h2 : neB mo me
    · rw [h2] at h; cases h
    · unfold mdB at h1
      rw [Bool.and_eq_true] at h1
      exact ⟨prtB_true h1.1, prtB_true h1.2, neB_true h2⟩
theorem mdsE_of {mo me : Gs} (h : OkM mo me) : mdsE mo me = 0 := by
  unfold mdsE mdB
  rw [prtB_of h.o, prtB_of h.e, neB_of h.ne]
  rfl
end Go.Proofs.YtlnbbioponmcfaaDoor
