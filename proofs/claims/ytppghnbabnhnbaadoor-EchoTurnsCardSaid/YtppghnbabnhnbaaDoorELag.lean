/-
  Chapter 2: the lag product, and the reference's.
-/
import Derived.Test.YtppghnbabnhnbaaDoorELin
namespace Go.Proofs.YtppghnbabnhnbaaDoor
open Go.ChangeShapes Go.WideShapes Go.ChangeAt Go.RowKit
set_option linter.unusedVariables false
set_option linter.unusedSimpArgs false

/-- the sum of the first k products of neighbours -/
def lagK (x : List Gs) : Nat → Gs
  | 0 => gz
  | k + 1 => gadd (lagK x k) (gmul (gconj (gd x k)) (gd x (k + 1)))
theorem lagK_sz {x : List Gs} (h : ∀ i, Sz 10000 (gd x i)) : ∀ k : Nat, Sz (k * 200000000) (lagK x k)
  | 0 => ⟨by simp [lagK, gz], by simp [lagK, gz], by simp [lagK, gz], by simp [lagK, gz]⟩
  | k + 1 => by
    refine ((lagK_sz h k).add ((h k).conj.mul (h (k + 1)))).mono ?_
    omega
def lagE (x : List Gs) : Int := firstE [unl (decide (2 ≤ x.length)) 10, smpsE x]
def lagP (x : List Gs) : Gs := lagK x (x.length - 1)
def lagQ (x : List Gs) : Gs × Int := if lagE x = 0 then (lagP x, 0) else (gz, lagE x)
theorem lagE_zero {x : List Gs} (h : lagE x = 0) : 2 ≤ x.length ∧ smpsE x = 0 := by
  unfold lagE at h
  by_cases h1 : 2 ≤ x.length
  · rw [decide_eq_true h1, unl_true, firstE_z, firstE1] at h
    exact ⟨h1, h⟩
  · rw [decide_eq_false h1, unl_false, firstE_nz (by decide)] at h; cases h
theorem lagE_of {x : List Gs} (h1 : 2 ≤ x.length) (h : smpsE x = 0) : lagE x = 0 := by
  unfold lagE; rw [decide_eq_true h1, unl_true, firstE_z, firstE1, h]
set_option maxRecDepth 100000 in
set_option maxHeartbeats 8000000 in
theorem LagProduct_any (A : Option Addr) (x : List Gs) (ca : Nat) (w : World) (hx : x.length ≤ 1000) (hc : x.length ≤ ca) (hA : GsAt w A x) :
    Calls Tryd.prog 56 #[.slice A x.length ca] w fun e w' => e = .returned (.tuple #[gv (lagQ x).1, .int .i64 (lagQ x).2]) ∧ Below w.heap.size w w' := by
  have hq : lagQ x = if lagE x = 0 then (lagP x, 0) else (gz, lagE x) := rfl
  have hE : lagE x = firstE [unl (decide (2 ≤ x.length)) 10, smpsE x] := rfl
  have HS := Lib.hid (fun W (h : GsAt W A x) => samplesErr_any A x ca W hx h)
  have hxl : (x.length : Int) ≤ 1000 := by omega
  have e2l : decide ((2 : Int) ≤ (x.length : Int)) = decide (2 ≤ x.length) := by by_cases h : 2 ≤ x.length <;> simp [h] <;> omega
  by_cases h0 : lagE x = 0
  rotate_left 1
  · rw [if_neg h0] at hq
    have HQ := Lib.hid hq
    have e9 : (lagE x != 0) = true := by simpa using h0
    have HE := Lib.hid hE
    clear hE h0 hq
    generalize lagE x = E at *
    generalize smpsE x = e2 at *
    generalize decide (2 ≤ x.length) = bl at *
    go_enter Tryd.func56, Tryd.ntmps56
    go_upto_region 1 with (fail)
    have hb0 : Below w.heap.size w (w.alloc (.cells #[.int .i64 0, .int .i64 0] 24)) := below_alloc _ (Nat.le_refl _) (Below.refl _ _)
    have r0 : (w.alloc (.cells #[.int .i64 0, .int .i64 0] 24)).cell? ⟨w.heap.size, 0, none⟩ = some (.int .i64 0) := cell_new (by simp) rfl
    have rf0 : (w.alloc (.cells #[.int .i64 0, .int .i64 0] 24)).frozen? ⟨w.heap.size, 0, none⟩ = false := frozen_new (by simp)
    have r1 : (w.alloc (.cells #[.int .i64 0, .int .i64 0] 24)).cell? ⟨w.heap.size, 1, none⟩ = some (.int .i64 0) := cell_new (by simp) rfl
    have rf1 : (w.alloc (.cells #[.int .i64 0, .int .i64 0] 24)).frozen? ⟨w.heap.size, 1, none⟩ = false := frozen_new (by simp)
    have zr : w.heap.size < (w.alloc (.cells #[.int .i64 0, .int .i64 0] 24)).heap.size := World.block_lt_of_cell? _ _ r0
    generalize (w.alloc (.cells #[.int .i64 0, .int .i64 0] 24)) = w0 at *
    have hA0 := RowsAt.below hA hb0
    go_wp2_with (go_at_call 89; refine (unless_any _ _ _).mono ?_; rintro e w' ⟨rfl, rfl⟩)
    refine (HS.out _ hA0).mono ?_
    rintro e w1 ⟨rfl, hb1⟩
    have h1 : Below w.heap.size w w1 := (hb0).trans ((hb1).mono (hb0).size)
    replace rf0 := frozen_below hb1 (World.block_lt_of_cell? _ _ r0) rf0
    replace rf1 := frozen_below hb1 (World.block_lt_of_cell? _ _ r1) rf1
    replace r0 := cell_below' hb1 r0
    replace r1 := cell_below' hb1 r1
    replace zr := Nat.lt_of_lt_of_le zr (hb1).size
    clear hb1 hb0
    go_wp2_with (go_at_call 87; refine (first2 _ _ _ _ (by simp) (cell_new (by simp) rfl) (cell_new (by simp) rfl)).mono ?_; rintro e w' ⟨rfl, rfl⟩; rw [← HE.out])
    obtain ⟨q0, q1⟩ := set2 (v0 := .int .i64 0) (v1 := .int .i64 0) r0 r1
    have p0 := fun o => cell_alloc o q0
    have p1 := fun o => cell_alloc o q1
    refine bodyPost_ret (v := .tuple #[.agg #[.int .i64 0, .int .i64 0], .int .i64 E]) (by simp only [results, Tryd.results56]; simp [go_sem, p0, p1]) rfl ?_
    rw [HQ.out]
    exact ⟨rfl, below_alloc _ (Nat.le_refl _) (below_set _ (Nat.le_refl _) (below_set _ (Nat.le_refl _) h1))⟩
  rw [if_pos h0] at hq
  obtain ⟨hn2, hsm⟩ := lagE_zero h0
  obtain ⟨hn64, hok⟩ := smpsE_zero hsm
  rw [h0] at hE
  have HOK := Lib.hid (gd_any (by decide) hok)
  have hp : lagP x = lagK x (x.length - 1) := rfl
  rw [hp] at hq
  have HQ := Lib.hid hq
  have HE := Lib.hid hE
  have H0 : Hid (lagK x 0 = ⟨0, 0⟩) := Lib.hid rfl
  clear hE h0 hq hp hok hsm
  generalize smpsE x = e2 at *
  generalize decide (2 ≤ x.length) = bl at *
  obtain ⟨b0, off, rfl, hbb, -, -⟩ := GsAt.at_ hA (show 0 < x.length by omega)
  have hsl : ∀ W, (Instr.sliceAt 69 (.slice (some ⟨b0, off, none⟩) x.length ca) (some (.int .i64 1)) none none).run Tryd.prog W = .ok (.slice (some ⟨b0, off + 2, none⟩) (x.length - 1) (ca - 1)) W := fun W => by
    have h1 : 1 < ca := by omega
    go_simp
    rw [if_pos (by omega), if_neg (by omega)]
  go_enter Tryd.func56, Tryd.ntmps56
  go_upto_region 1 with (fail)
  have hb0 : Below w.heap.size w (w.alloc (.cells #[.int .i64 0, .int .i64 0] 24)) := below_alloc _ (Nat.le_refl _) (Below.refl _ _)
  have r0 : (w.alloc (.cells #[.int .i64 0, .int .i64 0] 24)).cell? ⟨w.heap.size, 0, none⟩ = some (.int .i64 0) := cell_new (by simp) rfl
  have rf0 : (w.alloc (.cells #[.int .i64 0, .int .i64 0] 24)).frozen? ⟨w.heap.size, 0, none⟩ = false := frozen_new (by simp)
  have r1 : (w.alloc (.cells #[.int .i64 0, .int .i64 0] 24)).cell? ⟨w.heap.size, 1, none⟩ = some (.int .i64 0) := cell_new (by simp) rfl
  have rf1 : (w.alloc (.cells #[.int .i64 0, .int .i64 0] 24)).frozen? ⟨w.heap.size, 1, none⟩ = false := frozen_new (by simp)
  have zr : w.heap.size < (w.alloc (.cells #[.int .i64 0, .int .i64 0] 24)).heap.size := World.block_lt_of_cell? _ _ r0
  generalize (w.alloc (.cells #[.int .i64 0, .int .i64 0] 24)) = w0 at *
  have hA0 := RowsAt.below hA hb0
  go_wp2_with (go_at_call 89; refine (unless_any _ _ _).mono ?_; rintro e w' ⟨rfl, rfl⟩)
  refine (HS.out _ hA0).mono ?_
  rintro e w1 ⟨rfl, hb1⟩
  have h1 : Below w.heap.size w w1 := (hb0).trans ((hb1).mono (hb0).size)
  replace rf0 := frozen_below hb1 (World.block_lt_of_cell? _ _ r0) rf0
  replace rf1 := frozen_below hb1 (World.block_lt_of_cell? _ _ r1) rf1
  replace r0 := cell_below' hb1 r0
  replace r1 := cell_below' hb1 r1
  replace zr := Nat.lt_of_lt_of_le zr (hb1).size
  clear hb1 hb0
  clear hA0 HS
  go_upto_region 4 with (go_at_call 87; refine (first2 _ _ _ _ (by simp) (cell_new (by simp) rfl) (cell_new (by simp) rfl)).mono ?_; rintro e w' ⟨rfl, rfl⟩; rw [← HE.out])
  have hbv : Below w1.heap.size w1 (w1.alloc (.cells #[.int .i64 (unl bl 10), .int .i64 e2] 30)) := (by repeat (first | assumption | exact Below.refl _ _ | refine Below.drew ?_ | (refine below_alloc _ ?_ ?_; focus (first | omega | (simp; done) | (simp; omega) | (simp at *; omega))) | (refine below_set _ ?_ ?_; focus (first | omega | (simp; done) | (simp; omega) | (simp at *; omega))) | refine below_drewN ?_ _ | (refine below_call (by assumption) ?_ ?_; focus (first | omega | (simp; done) | (simp; omega) | (simp at *; omega))) | (refine below_call' (by assumption) ?_ ?_; focus (first | omega | (simp; done) | (simp; omega) | (simp at *; omega)))))
  generalize (w1.alloc (.cells #[.int .i64 (unl bl 10), .int .i64 e2] 30)) = w2 at *
  have h2 : Below w.heap.size w w2 := (h1).trans ((hbv).mono (h1).size)
  replace rf0 := frozen_below hbv (World.block_lt_of_cell? _ _ r0) rf0
  replace rf1 := frozen_below hbv (World.block_lt_of_cell? _ _ r1) rf1
  replace r0 := cell_below' hbv r0
  replace r1 := cell_below' hbv r1
  replace zr := Nat.lt_of_lt_of_le zr (hbv).size
  clear hbv h1
  clear HE
  go_upto_region 5 with (fail)
  have hb3 : Below w2.heap.size w2 (w2.alloc (.cells #[.int .i64 0, .int .i64 0] 147)) := below_alloc _ (Nat.le_refl _) (Below.refl _ _)
  have s0 : (w2.alloc (.cells #[.int .i64 0, .int .i64 0] 147)).cell? ⟨w2.heap.size, 0, none⟩ = some (.int .i64 0) := cell_new (by simp) rfl
  have sf0 : (w2.alloc (.cells #[.int .i64 0, .int .i64 0] 147)).frozen? ⟨w2.heap.size, 0, none⟩ = false := frozen_new (by simp)
  have s1 : (w2.alloc (.cells #[.int .i64 0, .int .i64 0] 147)).cell? ⟨w2.heap.size, 1, none⟩ = some (.int .i64 0) := cell_new (by simp) rfl
  have sf1 : (w2.alloc (.cells #[.int .i64 0, .int .i64 0] 147)).frozen? ⟨w2.heap.size, 1, none⟩ = false := frozen_new (by simp)
  have zs : w2.heap.size < (w2.alloc (.cells #[.int .i64 0, .int .i64 0] 147)).heap.size := World.block_lt_of_cell? _ _ s0
  generalize (w2.alloc (.cells #[.int .i64 0, .int .i64 0] 147)) = w3 at *
  have hln : ((x.length - 1 : Nat) : Int) = (x.length : Int) - 1 := by omega
  go_wp2_with (fail)
  go_loopw [23] (fun i wr => ∃ k : Nat, k ≤ x.length - 1 ∧ i = .int .i64 k ∧ wr.cell? ⟨w2.heap.size, 0, none⟩ = some (.int .i64 (lagK x k).re) ∧ wr.cell? ⟨w2.heap.size, 1, none⟩ = some (.int .i64 (lagK x k).im) ∧ wr.frozen? ⟨w2.heap.size, 0, none⟩ = false ∧ wr.frozen? ⟨w2.heap.size, 1, none⟩ = false ∧ Below w2.heap.size w2 wr) (fun i _ => x.length - (intOf i).toNat)
  case atStart => exact ⟨0, Nat.zero_le _, rfl, by rw [H0.out]; exact s0, by rw [H0.out]; exact s1, sf0, sf1, hb3⟩
  case round =>
    obtain ⟨k, hk, rfl, s0, s1, sf0, sf1, hbr⟩ := hrel
    obtain ⟨wo, rfl⟩ : ∃ wo : World, wo = wr := ⟨_, rfl⟩
    have zs : w2.heap.size < wo.heap.size := World.block_lt_of_cell? _ _ s0
    have hw : Below w.heap.size w wo := h2.trans (hbr.mono h2.size)
    by_cases hlt : k < x.length - 1
    · obtain ⟨b1, o1, e1, hb1, c0, c1⟩ := GsAt.at_ (RowsAt.below hA hw) (show k < x.length by omega)
      obtain ⟨rfl, rfl⟩ : b0 = b1 ∧ off = o1 := by simpa using e1
      obtain ⟨b1, o1, e2, -, c2, c3⟩ := GsAt.at_ (RowsAt.below hA hw) (show k + 1 < x.length by omega)
      obtain ⟨rfl, rfl⟩ : b0 = b1 ∧ off = o1 := by simpa using e2
      rw [show off + (k + 1) * 2 = off + 2 + k * 2 by omega] at c2 c3
      have hk3 : (k : Int) < ((x.length - 1 : Nat) : Int) := by omega
      have hg1 := gd_eq (show k < x.length by omega)
      have hg2 := gd_eq (show k + 1 < x.length by omega)
      have sz1 := HOK.out k
      have sz2 := HOK.out (k + 1)
      have sz3 := (lagK_sz HOK.out k).mono (show (k : Int) * 200000000 ≤ 20000000000 by omega)
      have hst : lagK x (k + 1) = gadd (lagK x k) (gmul (gconj (gd x k)) (gd x (k + 1))) := rfl
      rw [hg1] at sz1 hst
      rw [hg2] at sz2 hst
      generalize x[k] = g at *
      generalize x[k + 1] = h at *
      have C := Lib.hid (fun W => conj_any g W (sz1.mono (by decide)))
      have M := Lib.hid (fun W => times_any (gconj g) h W (sz1.conj.mono (by decide)) (sz2.mono (by decide)))
      have S := Lib.hid (fun W => plus_any (lagK x k) (gmul (gconj g) h) W (sz3.mono (by decide)) ((sz1.conj.mul sz2).mono (by decide)))
      rw [← hst] at S
      obtain ⟨q, hlq⟩ : ∃ q, q = lagK x (k + 1) := ⟨_, rfl⟩
      rw [← hlq] at S
      have HLQ := Lib.hid hlq.symm
      have hk1 : (k : Int) < (x.length : Int) := by omega
      have hk2 : (k : Int) + 1 < (x.length : Int) := by omega
      clear hg1 hg2 sz1 sz2 sz3 hst e1 e2 hlq
      generalize lagK x k = p at *
      generalize gmul (gconj g) h = t at *
      generalize gconj g = cg at *
      obtain ⟨g0, g1⟩ := g
      obtain ⟨h0, h1⟩ := h
      obtain ⟨p0, p1⟩ := p
      obtain ⟨q0, q1⟩ := q
      obtain ⟨t0, t1⟩ := t
      obtain ⟨cg0, cg1⟩ := cg
      simp only [gv] at *
      go_upto_region 8 with (fail)
      have zb0 : b0 < wo.heap.size := World.block_lt_of_cell? _ _ c0
      have hb4 : Below wo.heap.size wo (wo.alloc (.cells #[.int .i64 h0, .int .i64 h1] 24)) := below_alloc _ (Nat.le_refl _) (Below.refl _ _)
      have t0 : (wo.alloc (.cells #[.int .i64 h0, .int .i64 h1] 24)).cell? ⟨wo.heap.size, 0, none⟩ = some (.int .i64 h0) := cell_new (by simp) rfl
      have t1 : (wo.alloc (.cells #[.int .i64 h0, .int .i64 h1] 24)).cell? ⟨wo.heap.size, 1, none⟩ = some (.int .i64 h1) := cell_new (by simp) rfl
      have zt : wo.heap.size < (wo.alloc (.cells #[.int .i64 h0, .int .i64 h1] 24)).heap.size := World.block_lt_of_cell? _ _ t0
      generalize (wo.alloc (.cells #[.int .i64 h0, .int .i64 h1] 24)) = w4 at *
      replace c0 := cell_below' hb4 c0
      replace c1 := cell_below' hb4 c1
      replace zb0 := Nat.lt_of_lt_of_le zb0 hb4.size
      have hbr4 : Below w2.heap.size w2 w4 := (hbr).trans ((hb4).mono (hbr).size)
      replace sf0 := frozen_below hb4 (World.block_lt_of_cell? _ _ s0) sf0
      replace sf1 := frozen_below hb4 (World.block_lt_of_cell? _ _ s1) sf1
      replace s0 := cell_below' hb4 s0
      replace s1 := cell_below' hb4 s1
      replace zs := Nat.lt_of_lt_of_le zs (hb4).size
      clear hb4 hbr
      (refine region_extx 9 (by kernel_rfl) (by kernel_rfl) fun hx => ?_; simp only [List.take_succ_cons, List.take_zero, List.drop_succ_cons, List.drop_zero]; (repeat (any_goals (first | go_big_quiet_step ((first | ((go_at_call 94; with_reducible exact ext_call (C.out _))) | ((go_at_call 93; with_reducible exact ext_call (M.out _))) | ((go_at_call 116; with_reducible exact ext_call (S.out _))))) | quiet_step ((first | ((go_at_call 94; with_reducible exact ext_call (C.out _))) | ((go_at_call 93; with_reducible exact ext_call (M.out _))) | ((go_at_call 116; with_reducible exact ext_call (S.out _)))))))))
      (refine wpQuiet_nil ?_; clear hx; intro u; have hbw5 := ext_bel _ u; have hxw5 := ext_cell _ u; generalize ext _ u = w5 at *; clear u; have hsw5 := hbw5.size; (try simp at hsw5))
      have hbr5 : Below w2.heap.size w2 w5 := (hbr4).trans ((hbw5).mono (hbr4).size)
      replace sf0 := frozen_below hbw5 (World.block_lt_of_cell? _ _ s0) sf0
      replace sf1 := frozen_below hbw5 (World.block_lt_of_cell? _ _ s1) sf1
      replace s0 := cell_below' hbw5 s0
      replace s1 := cell_below' hbw5 s1
      replace zs := Nat.lt_of_lt_of_le zs (hbw5).size
      clear hbw5 hbr4
      clear hxw5 hsw5 C M S c0 c1 c2 c3 t0 t1 zt
      go_upto_region 9 with (fail)
      have hbr6 : Below w2.heap.size w2 ((w5.setCell ⟨w2.heap.size, 0, none⟩ (.int .i64 q0)).setCell ⟨w2.heap.size, 1, none⟩ (.int .i64 q1)) := below_set _ (by simp; try omega) (below_set _ (by simp; try omega) (hbr5))
      replace s0 : ((w5.setCell ⟨w2.heap.size, 0, none⟩ (.int .i64 q0)).setCell ⟨w2.heap.size, 1, none⟩ (.int .i64 q1)).cell? ⟨w2.heap.size, 0, none⟩ = some (.int .i64 q0) := cell_next (by decide) (cell_same (s0))
      replace s1 : ((w5.setCell ⟨w2.heap.size, 0, none⟩ (.int .i64 q0)).setCell ⟨w2.heap.size, 1, none⟩ (.int .i64 q1)).cell? ⟨w2.heap.size, 1, none⟩ = some (.int .i64 q1) := cell_same (cell_next (by decide) (s1))
      replace sf0 := (show World.frozen? ((w5.setCell ⟨w2.heap.size, 0, none⟩ (.int .i64 q0)).setCell ⟨w2.heap.size, 1, none⟩ (.int .i64 q1)) ⟨w2.heap.size, 0, none⟩ = false from frozen_set _ _ (frozen_set _ _ (sf0)))
      replace sf1 := (show World.frozen? ((w5.setCell ⟨w2.heap.size, 0, none⟩ (.int .i64 q0)).setCell ⟨w2.heap.size, 1, none⟩ (.int .i64 q1)) ⟨w2.heap.size, 1, none⟩ = false from frozen_set _ _ (frozen_set _ _ (sf1)))
      have hszQ : ((w5.setCell ⟨w2.heap.size, 0, none⟩ (.int .i64 q0)).setCell ⟨w2.heap.size, 1, none⟩ (.int .i64 q1)).heap.size = w5.heap.size := by simp
      replace zs : w2.heap.size < ((w5.setCell ⟨w2.heap.size, 0, none⟩ (.int .i64 q0)).setCell ⟨w2.heap.size, 1, none⟩ (.int .i64 q1)).heap.size := by rw [hszQ]; exact zs
      clear hszQ hbr5
      generalize ((w5.setCell ⟨w2.heap.size, 0, none⟩ (.int .i64 q0)).setCell ⟨w2.heap.size, 1, none⟩ (.int .i64 q1)) = w6 at *
      go_wp2_with (fail)
      exact ⟨⟨k + 1, by omega, by go_num, by rw [HLQ.out]; exact s0, by rw [HLQ.out]; exact s1, sf0, sf1, hbr6⟩, by simp [intOf]; omega⟩
    · obtain rfl : k = x.length - 1 := by omega
      rcases hl : lagK x (x.length - 1) with ⟨l0, l1⟩
      rw [hl] at s0 s1 HQ
      simp only at s0 s1
      clear hl
      have h3 : Below w.heap.size w wo := (h2).trans ((hbr).mono (h2).size)
      replace rf0 := frozen_below hbr (World.block_lt_of_cell? _ _ r0) rf0
      replace rf1 := frozen_below hbr (World.block_lt_of_cell? _ _ r1) rf1
      replace r0 := cell_below' hbr r0
      replace r1 := cell_below' hbr r1
      replace zr := Nat.lt_of_lt_of_le zr (hbr).size
      clear hbr h2
      go_wp2_with (fail)
      obtain ⟨q0, q1⟩ := set2 (v0 := .int .i64 l0) (v1 := .int .i64 l1) r0 r1
      refine bodyPost_ret (v := .tuple #[.agg #[.int .i64 l0, .int .i64 l1], .int .i64 0]) (by simp [results, Tryd.results56, go_sem, q0, q1]) rfl ?_
      rw [HQ.out]
      exact ⟨rfl, below_set _ (Nat.le_refl _) (below_set _ (Nat.le_refl _) h3)⟩
set_option maxRecDepth 100000 in
set_option maxHeartbeats 8000000 in
theorem RLagProduct_any (A : Option Addr) (x : List Gs) (ca : Nat) (w : World) (hn2 : 2 ≤ x.length) (hsm : smpsE x = 0) (hA : GsAt w A x) :
    Calls Tryd.prog 58 #[.slice A x.length ca] w fun e w' => e = .returned (gv (lagP x)) ∧ Below w.heap.size w w' := by
  obtain ⟨hn64, hok⟩ := smpsE_zero hsm
  have HOK := Lib.hid (gd_any (by decide) hok)
  have hp : lagP x = lagK x (x.length - 1) := rfl
  rw [hp]
  have H0 : Hid (lagK x 0 = ⟨0, 0⟩) := Lib.hid rfl
  have hxl : (x.length : Int) ≤ 64 := by omega
  clear hp hok hsm
  obtain ⟨b0, off, rfl, hbb, -, -⟩ := GsAt.at_ hA (show 0 < x.length by omega)
  go_enter Tryd.func58, Tryd.ntmps58
  go_upto_region 1 with (fail)
  have h2 : Below w.heap.size w (w.alloc (.cells #[.int .i64 0, .int .i64 0] 24)) := below_alloc _ (Nat.le_refl _) (Below.refl _ _)
  have r0 : (w.alloc (.cells #[.int .i64 0, .int .i64 0] 24)).cell? ⟨w.heap.size, 0, none⟩ = some (.int .i64 0) := cell_new (by simp) rfl
  have rf0 : (w.alloc (.cells #[.int .i64 0, .int .i64 0] 24)).frozen? ⟨w.heap.size, 0, none⟩ = false := frozen_new (by simp)
  have r1 : (w.alloc (.cells #[.int .i64 0, .int .i64 0] 24)).cell? ⟨w.heap.size, 1, none⟩ = some (.int .i64 0) := cell_new (by simp) rfl
  have rf1 : (w.alloc (.cells #[.int .i64 0, .int .i64 0] 24)).frozen? ⟨w.heap.size, 1, none⟩ = false := frozen_new (by simp)
  have zr : w.heap.size < (w.alloc (.cells #[.int .i64 0, .int .i64 0] 24)).heap.size := World.block_lt_of_cell? _ _ r0
  generalize (w.alloc (.cells #[.int .i64 0, .int .i64 0] 24)) = w2 at *
  go_upto_region 2 with (fail)
  have hb3 : Below w2.heap.size w2 (w2.alloc (.cells #[.int .i64 0, .int .i64 0] 24)) := below_alloc _ (Nat.le_refl _) (Below.refl _ _)
  have s0 : (w2.alloc (.cells #[.int .i64 0, .int .i64 0] 24)).cell? ⟨w2.heap.size, 0, none⟩ = some (.int .i64 0) := cell_new (by simp) rfl
  have sf0 : (w2.alloc (.cells #[.int .i64 0, .int .i64 0] 24)).frozen? ⟨w2.heap.size, 0, none⟩ = false := frozen_new (by simp)
  have s1 : (w2.alloc (.cells #[.int .i64 0, .int .i64 0] 24)).cell? ⟨w2.heap.size, 1, none⟩ = some (.int .i64 0) := cell_new (by simp) rfl
  have sf1 : (w2.alloc (.cells #[.int .i64 0, .int .i64 0] 24)).frozen? ⟨w2.heap.size, 1, none⟩ = false := frozen_new (by simp)
  have zs : w2.heap.size < (w2.alloc (.cells #[.int .i64 0, .int .i64 0] 24)).heap.size := World.block_lt_of_cell? _ _ s0
  generalize (w2.alloc (.cells #[.int .i64 0, .int .i64 0] 24)) = w3 at *
  go_wp2_with (fail)
  go_loopw [4] (fun i wr => ∃ k : Nat, k ≤ x.length - 1 ∧ i = .int .i64 k ∧ wr.cell? ⟨w2.heap.size, 0, none⟩ = some (.int .i64 (lagK x k).re) ∧ wr.cell? ⟨w2.heap.size, 1, none⟩ = some (.int .i64 (lagK x k).im) ∧ wr.frozen? ⟨w2.heap.size, 0, none⟩ = false ∧ wr.frozen? ⟨w2.heap.size, 1, none⟩ = false ∧ Below w2.heap.size w2 wr) (fun i _ => x.length - (intOf i).toNat)
  case atStart => exact ⟨0, Nat.zero_le _, rfl, by rw [H0.out]; exact s0, by rw [H0.out]; exact s1, sf0, sf1, hb3⟩
  case round =>
    obtain ⟨k, hk, rfl, s0, s1, sf0, sf1, hbr⟩ := hrel
    obtain ⟨wo, rfl⟩ : ∃ wo : World, wo = wr := ⟨_, rfl⟩
    have zs : w2.heap.size < wo.heap.size := World.block_lt_of_cell? _ _ s0
    have hw : Below w.heap.size w wo := h2.trans (hbr.mono h2.size)
    by_cases hlt : k < x.length - 1
    · obtain ⟨b1, o1, e1, hb1, c0, c1⟩ := GsAt.at_ (RowsAt.below hA hw) (show k < x.length by omega)
      obtain ⟨rfl, rfl⟩ : b0 = b1 ∧ off = o1 := by simpa using e1
      obtain ⟨b1, o1, e2, -, c2, c3⟩ := GsAt.at_ (RowsAt.below hA hw) (show k + 1 < x.length by omega)
      obtain ⟨rfl, rfl⟩ : b0 = b1 ∧ off = o1 := by simpa using e2
      have hkn : (((k : Int) + 1).toNat) = k + 1 := by omega
      have hg1 := gd_eq (show k < x.length by omega)
      have hg2 := gd_eq (show k + 1 < x.length by omega)
      have sz1 := HOK.out k
      have sz2 := HOK.out (k + 1)
      have sz3 := (lagK_sz HOK.out k).mono (show (k : Int) * 200000000 ≤ 20000000000 by omega)
      have hst : lagK x (k + 1) = gadd (lagK x k) (gmul (gconj (gd x k)) (gd x (k + 1))) := rfl
      rw [hg1] at sz1 hst
      rw [hg2] at sz2 hst
      generalize x[k] = g at *
      generalize x[k + 1] = h at *
      have C := Lib.hid (fun W => GConj_any g W (sz1.mono (by decide)))
      have M := Lib.hid (fun W => GMul_any (gconj g) h W (sz1.conj.mono (by decide)) (sz2.mono (by decide)))
      have S := Lib.hid (fun W => GAdd_any (lagK x k) (gmul (gconj g) h) W (sz3.mono (by decide)) ((sz1.conj.mul sz2).mono (by decide)))
      rw [← hst] at S
      obtain ⟨q, hlq⟩ : ∃ q, q = lagK x (k + 1) := ⟨_, rfl⟩
      rw [← hlq] at S
      have HLQ := Lib.hid hlq.symm
      have hk1 : (k : Int) < (x.length : Int) := by omega
      have hk2 : (k : Int) + 1 < (x.length : Int) := by omega
      clear hg1 hg2 sz1 sz2 sz3 hst e1 e2 hlq
      generalize lagK x k = p at *
      generalize gmul (gconj g) h = t at *
      generalize gconj g = cg at *
      obtain ⟨g0, g1⟩ := g
      obtain ⟨h0, h1⟩ := h
      obtain ⟨p0, p1⟩ := p
      obtain ⟨q0, q1⟩ := q
      obtain ⟨t0, t1⟩ := t
      obtain ⟨cg0, cg1⟩ := cg
      simp only [gv] at *
      go_upto_region 5 with (fail)
      (refine region_extx 13 (by kernel_rfl) (by kernel_rfl) fun hx => ?_; simp only [List.take_succ_cons, List.take_zero, List.drop_succ_cons, List.drop_zero]; (repeat (any_goals (first | go_big_quiet_step ((first | ((go_at_call 117; with_reducible exact ext_call (C.out _))) | ((go_at_call 22; with_reducible exact ext_call (M.out _))) | ((go_at_call 46; with_reducible exact ext_call (S.out _))))) | quiet_step ((first | ((go_at_call 117; with_reducible exact ext_call (C.out _))) | ((go_at_call 22; with_reducible exact ext_call (M.out _))) | ((go_at_call 46; with_reducible exact ext_call (S.out _)))))))))
      (refine wpQuiet_nil ?_; clear hx; intro u; have hbw5 := ext_bel _ u; have hxw5 := ext_cell _ u; generalize ext _ u = w5 at *; clear u; have hsw5 := hbw5.size; (try simp at hsw5))
      have hbr5 : Below w2.heap.size w2 w5 := (hbr).trans ((hbw5).mono (hbr).size)
      replace sf0 := frozen_below hbw5 (World.block_lt_of_cell? _ _ s0) sf0
      replace sf1 := frozen_below hbw5 (World.block_lt_of_cell? _ _ s1) sf1
      replace s0 := cell_below' hbw5 s0
      replace s1 := cell_below' hbw5 s1
      replace zs := Nat.lt_of_lt_of_le zs (hbw5).size
      clear hbw5 hbr
      clear hxw5 hsw5 C M S c0 c1 c2 c3
      go_upto_region 4 with (fail)
      have hbr6 : Below w2.heap.size w2 ((w5.setCell ⟨w2.heap.size, 0, none⟩ (.int .i64 q0)).setCell ⟨w2.heap.size, 1, none⟩ (.int .i64 q1)) := below_set _ (by simp; try omega) (below_set _ (by simp; try omega) (hbr5))
      replace s0 : ((w5.setCell ⟨w2.heap.size, 0, none⟩ (.int .i64 q0)).setCell ⟨w2.heap.size, 1, none⟩ (.int .i64 q1)).cell? ⟨w2.heap.size, 0, none⟩ = some (.int .i64 q0) := cell_next (by decide) (cell_same (s0))
      replace s1 : ((w5.setCell ⟨w2.heap.size, 0, none⟩ (.int .i64 q0)).setCell ⟨w2.heap.size, 1, none⟩ (.int .i64 q1)).cell? ⟨w2.heap.size, 1, none⟩ = some (.int .i64 q1) := cell_same (cell_next (by decide) (s1))
      replace sf0 := (show World.frozen? ((w5.setCell ⟨w2.heap.size, 0, none⟩ (.int .i64 q0)).setCell ⟨w2.heap.size, 1, none⟩ (.int .i64 q1)) ⟨w2.heap.size, 0, none⟩ = false from frozen_set _ _ (frozen_set _ _ (sf0)))
      replace sf1 := (show World.frozen? ((w5.setCell ⟨w2.heap.size, 0, none⟩ (.int .i64 q0)).setCell ⟨w2.heap.size, 1, none⟩ (.int .i64 q1)) ⟨w2.heap.size, 1, none⟩ = false from frozen_set _ _ (frozen_set _ _ (sf1)))
      have hszQ : ((w5.setCell ⟨w2.heap.size, 0, none⟩ (.int .i64 q0)).setCell ⟨w2.heap.size, 1, none⟩ (.int .i64 q1)).heap.size = w5.heap.size := by simp
      replace zs : w2.heap.size < ((w5.setCell ⟨w2.heap.size, 0, none⟩ (.int .i64 q0)).setCell ⟨w2.heap.size, 1, none⟩ (.int .i64 q1)).heap.size := by rw [hszQ]; exact zs
      clear hszQ hbr5
      generalize ((w5.setCell ⟨w2.heap.size, 0, none⟩ (.int .i64 q0)).setCell ⟨w2.heap.size, 1, none⟩ (.int .i64 q1)) = w6 at *
      go_wp2_with (fail)
      exact ⟨⟨k + 1, by omega, by go_num, by rw [HLQ.out]; exact s0, by rw [HLQ.out]; exact s1, sf0, sf1, hbr6⟩, by simp [intOf]; omega⟩
    · obtain rfl : k = x.length - 1 := by omega
      have hkl : ((x.length - 1 : Nat) : Int) + 1 = (x.length : Int) := by omega
      rcases hl : lagK x (x.length - 1) with ⟨l0, l1⟩
      rw [hl] at s0 s1
      simp only at s0 s1
      have HLL := Lib.hid hl
      clear hl
      have h3 : Below w.heap.size w wo := (h2).trans ((hbr).mono (h2).size)
      replace rf0 := frozen_below hbr (World.block_lt_of_cell? _ _ r0) rf0
      replace rf1 := frozen_below hbr (World.block_lt_of_cell? _ _ r1) rf1
      replace r0 := cell_below' hbr r0
      replace r1 := cell_below' hbr r1
      replace zr := Nat.lt_of_lt_of_le zr (hbr).size
      clear hbr h2
      go_wp2_with (fail)
      obtain ⟨q0, q1⟩ := set2 (v0 := .int .i64 l0) (v1 := .int .i64 l1) r0 r1
      refine bodyPost_ret (v := .agg #[.int .i64 l0, .int .i64 l1]) (by simp [results, Tryd.results58, go_sem, q0, q1]) rfl ?_
      rw [HLL.out]
      exact ⟨rfl, below_set _ (Nat.le_refl _) (below_set _ (Nat.le_refl _) h3)⟩
end Go.Proofs.YtppghnbabnhnbaaDoor
