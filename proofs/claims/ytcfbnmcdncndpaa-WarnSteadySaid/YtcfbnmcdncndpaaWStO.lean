/-
  Chapter 8: StepOf; the reference's RulesErr.
-/
import Derived.Test.YtcfbnmcdncndpaaWRst
namespace Go.Proofs.Ytcfbnmcdncndpaa
open Go.ChangeShapes Go.WideShapes Go.ChangeAt Go.RowKit
set_option linter.unusedVariables false
set_option linter.unusedSimpArgs false

theorem stE_b {n : Nat} {hold : Int} {s : Sta} (h : stE n hold s = 0) : s.b < hold := by
  unfold stE at h
  rw [firstE2, unl_zero (by decide)] at h
  obtain ⟨h, -⟩ := h
  unfold stB at h
  rw [Bool.and_eq_true, Bool.and_eq_true, withinB_true, withinB_true, withinB_true] at h
  omega
theorem RulesErr_any (nm : ByteArray) (A : Option Addr) (u : List Int) (ca : Nat) (B : Option Addr) (d : List Int) (cb : Nat) (hold : Int) (w : World) (hs : nm.size ≤ 1000) (hu : u.length ≤ 100) (hd : d.length ≤ 100) (hA : IntsAt w A u) (hB : IntsAt w B d) :
    Calls Try.prog 38 #[.agg #[.string nm, .slice A u.length ca, .slice B d.length cb, .int .i64 hold]] w fun e w' => e = .returned (.int .i64 (chkRE nm u d hold)) ∧ Below w.heap.size w w' := by
  have hR := RCheckRules_any nm A u ca B d cb hold
  have HR := Lib.hid hR
  have he : (chkR nm u d hold).2 = chkRE nm u d hold := rfl
  rw [he] at HR
  clear hR he
  go_enter Try.func38, Try.ntmps38
  go_wp2_with (fail)
  refine (HR.out _ hs hu hd (hA.below (by repeat (first | assumption | exact Below.refl _ _ | refine Below.drew ?_ | (refine below_alloc _ ?_ ?_; focus (first | omega | (simp; done) | (simp; omega) | (simp at *; omega))) | (refine below_set _ ?_ ?_; focus (first | omega | (simp; done) | (simp; omega) | (simp at *; omega))) | refine below_drewN ?_ _ | (refine below_call (by assumption) ?_ ?_; focus (first | omega | (simp; done) | (simp; omega) | (simp at *; omega))) | (refine below_call' (by assumption) ?_ ?_; focus (first | omega | (simp; done) | (simp; omega) | (simp at *; omega)))))) (hB.below (by repeat (first | assumption | exact Below.refl _ _ | refine Below.drew ?_ | (refine below_alloc _ ?_ ?_; focus (first | omega | (simp; done) | (simp; omega) | (simp at *; omega))) | (refine below_set _ ?_ ?_; focus (first | omega | (simp; done) | (simp; omega) | (simp at *; omega))) | refine below_drewN ?_ _ | (refine below_call (by assumption) ?_ ?_; focus (first | omega | (simp; done) | (simp; omega) | (simp at *; omega))) | (refine below_call' (by assumption) ?_ ?_; focus (first | omega | (simp; done) | (simp; omega) | (simp at *; omega))))))).mono ?_
  rintro e w1 ⟨rfl, hb1⟩
  have hbw : Below w.heap.size w w1 := (by repeat (first | assumption | exact Below.refl _ _ | refine Below.drew ?_ | (refine below_alloc _ ?_ ?_; focus (first | omega | (simp; done) | (simp; omega) | (simp at *; omega))) | (refine below_set _ ?_ ?_; focus (first | omega | (simp; done) | (simp; omega) | (simp at *; omega))) | refine below_drewN ?_ _ | (refine below_call (by assumption) ?_ ?_; focus (first | omega | (simp; done) | (simp; omega) | (simp at *; omega))) | (refine below_call' (by assumption) ?_ ?_; focus (first | omega | (simp; done) | (simp; omega) | (simp at *; omega)))))
  clear hb1 HR
  go_wp2_with (fail)
  go_ret
  exact ⟨rfl, hbw⟩
def stpE (nm : ByteArray) (u d : List Int) (hold : Int) (s : Sta) (x : Int) : Int := if chkRE nm u d hold = 0 then firstE [stE u.length hold s, unl (withinB x (-1000000) 1000000) 2] else chkRE nm u d hold
def stpS (nm : ByteArray) (u d : List Int) (hold : Int) (s : Sta) (x : Int) : Sta := if stpE nm u d hold s x = 0 then stepS u d hold s x else ⟨0, 0, 0⟩
set_option maxRecDepth 100000 in
set_option maxHeartbeats 4000000 in
theorem StepOf_any (nm : ByteArray) (A : Option Addr) (u : List Int) (ca : Nat) (B : Option Addr) (d : List Int) (cb : Nat) (hold l b v x : Int) (w : World) (hs : nm.size ≤ 1000) (hu : u.length ≤ 100) (hd : d.length ≤ 100) (hcb : d.length ≤ cb) (hA : IntsAt w A u) (hB : IntsAt w B d) :
    Calls Try.prog 43 #[.agg #[.string nm, .slice A u.length ca, .slice B d.length cb, .int .i64 hold], .agg #[.int .i64 l, .int .i64 b, .int .i64 v], .int .i64 x] w fun e w' => e = .returned (.tuple #[.agg #[.int .i64 (stpS nm u d hold ⟨l, b, v⟩ x).l, .int .i64 (stpS nm u d hold ⟨l, b, v⟩ x).b, .int .i64 (stpS nm u d hold ⟨l, b, v⟩ x).v], .int .i64 (stpE nm u d hold ⟨l, b, v⟩ x)]) ∧ Below w.heap.size w w' := by
  have hop := open_any nm A u ca B d cb hold
  have HOP := Lib.hid hop
  have hE : stpE nm u d hold ⟨l, b, v⟩ x = if chkRE nm u d hold = 0 then firstE [stE u.length hold ⟨l, b, v⟩, unl (withinB x (-1000000) 1000000) 2] else chkRE nm u d hold := rfl
  have hS : stpS nm u d hold ⟨l, b, v⟩ x = if stpE nm u d hold ⟨l, b, v⟩ x = 0 then stepS u d hold ⟨l, b, v⟩ x else ⟨0, 0, 0⟩ := rfl
  have HE := Lib.hid hE
  have HS := Lib.hid hS
  have HOK := Lib.hid (fun h : chkRE nm u d hold = 0 => (okR_of h : OkR nm u d hold))
  clear hop hE hS
  generalize stpS nm u d hold ⟨l, b, v⟩ x = T at *
  generalize stpE nm u d hold ⟨l, b, v⟩ x = F at *
  go_enter Try.func43, Try.ntmps43
  go_wp2_with (fail)
  have hb0 : Below w.heap.size w (((w.alloc (.cells #[.string nm, .slice A u.length ca, .slice B d.length cb, .int .i64 hold] 24)).alloc (.cells #[.int .i64 l, .int .i64 b, .int .i64 v] 61)).alloc (.cells #[.int .i64 0, .int .i64 0, .int .i64 0] 61)) := below_alloc _ (Nat.le_refl _) (below_alloc _ (Nat.le_refl _) (below_alloc _ (Nat.le_refl _) (Below.refl _ _)))
  have x0 : (((w.alloc (.cells #[.string nm, .slice A u.length ca, .slice B d.length cb, .int .i64 hold] 24)).alloc (.cells #[.int .i64 l, .int .i64 b, .int .i64 v] 61)).alloc (.cells #[.int .i64 0, .int .i64 0, .int .i64 0] 61)).cell? ⟨w.heap.size, 0, none⟩ = some (.string nm) := cell_alloc _ (cell_alloc _ (cell_new (by simp) rfl))
  have x1 : (((w.alloc (.cells #[.string nm, .slice A u.length ca, .slice B d.length cb, .int .i64 hold] 24)).alloc (.cells #[.int .i64 l, .int .i64 b, .int .i64 v] 61)).alloc (.cells #[.int .i64 0, .int .i64 0, .int .i64 0] 61)).cell? ⟨w.heap.size, 1, none⟩ = some (.slice A u.length ca) := cell_alloc _ (cell_alloc _ (cell_new (by simp) rfl))
  have x2 : (((w.alloc (.cells #[.string nm, .slice A u.length ca, .slice B d.length cb, .int .i64 hold] 24)).alloc (.cells #[.int .i64 l, .int .i64 b, .int .i64 v] 61)).alloc (.cells #[.int .i64 0, .int .i64 0, .int .i64 0] 61)).cell? ⟨w.heap.size, 2, none⟩ = some (.slice B d.length cb) := cell_alloc _ (cell_alloc _ (cell_new (by simp) rfl))
  have x3 : (((w.alloc (.cells #[.string nm, .slice A u.length ca, .slice B d.length cb, .int .i64 hold] 24)).alloc (.cells #[.int .i64 l, .int .i64 b, .int .i64 v] 61)).alloc (.cells #[.int .i64 0, .int .i64 0, .int .i64 0] 61)).cell? ⟨w.heap.size, 3, none⟩ = some (.int .i64 hold) := cell_alloc _ (cell_alloc _ (cell_new (by simp) rfl))
  have zx : w.heap.size < (((w.alloc (.cells #[.string nm, .slice A u.length ca, .slice B d.length cb, .int .i64 hold] 24)).alloc (.cells #[.int .i64 l, .int .i64 b, .int .i64 v] 61)).alloc (.cells #[.int .i64 0, .int .i64 0, .int .i64 0] 61)).heap.size := World.block_lt_of_cell? _ _ x0
  have y0 : (((w.alloc (.cells #[.string nm, .slice A u.length ca, .slice B d.length cb, .int .i64 hold] 24)).alloc (.cells #[.int .i64 l, .int .i64 b, .int .i64 v] 61)).alloc (.cells #[.int .i64 0, .int .i64 0, .int .i64 0] 61)).cell? ⟨w.heap.size + 1, 0, none⟩ = some (.int .i64 l) := cell_alloc _ (cell_new (by simp) rfl)
  have y1 : (((w.alloc (.cells #[.string nm, .slice A u.length ca, .slice B d.length cb, .int .i64 hold] 24)).alloc (.cells #[.int .i64 l, .int .i64 b, .int .i64 v] 61)).alloc (.cells #[.int .i64 0, .int .i64 0, .int .i64 0] 61)).cell? ⟨w.heap.size + 1, 1, none⟩ = some (.int .i64 b) := cell_alloc _ (cell_new (by simp) rfl)
  have y2 : (((w.alloc (.cells #[.string nm, .slice A u.length ca, .slice B d.length cb, .int .i64 hold] 24)).alloc (.cells #[.int .i64 l, .int .i64 b, .int .i64 v] 61)).alloc (.cells #[.int .i64 0, .int .i64 0, .int .i64 0] 61)).cell? ⟨w.heap.size + 1, 2, none⟩ = some (.int .i64 v) := cell_alloc _ (cell_new (by simp) rfl)
  have zy : w.heap.size + 1 < (((w.alloc (.cells #[.string nm, .slice A u.length ca, .slice B d.length cb, .int .i64 hold] 24)).alloc (.cells #[.int .i64 l, .int .i64 b, .int .i64 v] 61)).alloc (.cells #[.int .i64 0, .int .i64 0, .int .i64 0] 61)).heap.size := World.block_lt_of_cell? _ _ y0
  have z0 : (((w.alloc (.cells #[.string nm, .slice A u.length ca, .slice B d.length cb, .int .i64 hold] 24)).alloc (.cells #[.int .i64 l, .int .i64 b, .int .i64 v] 61)).alloc (.cells #[.int .i64 0, .int .i64 0, .int .i64 0] 61)).cell? ⟨w.heap.size + 1 + 1, 0, none⟩ = some (.int .i64 0) := cell_new (by simp) rfl
  have zf0 : (((w.alloc (.cells #[.string nm, .slice A u.length ca, .slice B d.length cb, .int .i64 hold] 24)).alloc (.cells #[.int .i64 l, .int .i64 b, .int .i64 v] 61)).alloc (.cells #[.int .i64 0, .int .i64 0, .int .i64 0] 61)).frozen? ⟨w.heap.size + 1 + 1, 0, none⟩ = false := frozen_new (by simp)
  have z1 : (((w.alloc (.cells #[.string nm, .slice A u.length ca, .slice B d.length cb, .int .i64 hold] 24)).alloc (.cells #[.int .i64 l, .int .i64 b, .int .i64 v] 61)).alloc (.cells #[.int .i64 0, .int .i64 0, .int .i64 0] 61)).cell? ⟨w.heap.size + 1 + 1, 1, none⟩ = some (.int .i64 0) := cell_new (by simp) rfl
  have zf1 : (((w.alloc (.cells #[.string nm, .slice A u.length ca, .slice B d.length cb, .int .i64 hold] 24)).alloc (.cells #[.int .i64 l, .int .i64 b, .int .i64 v] 61)).alloc (.cells #[.int .i64 0, .int .i64 0, .int .i64 0] 61)).frozen? ⟨w.heap.size + 1 + 1, 1, none⟩ = false := frozen_new (by simp)
  have z2 : (((w.alloc (.cells #[.string nm, .slice A u.length ca, .slice B d.length cb, .int .i64 hold] 24)).alloc (.cells #[.int .i64 l, .int .i64 b, .int .i64 v] 61)).alloc (.cells #[.int .i64 0, .int .i64 0, .int .i64 0] 61)).cell? ⟨w.heap.size + 1 + 1, 2, none⟩ = some (.int .i64 0) := cell_new (by simp) rfl
  have zf2 : (((w.alloc (.cells #[.string nm, .slice A u.length ca, .slice B d.length cb, .int .i64 hold] 24)).alloc (.cells #[.int .i64 l, .int .i64 b, .int .i64 v] 61)).alloc (.cells #[.int .i64 0, .int .i64 0, .int .i64 0] 61)).frozen? ⟨w.heap.size + 1 + 1, 2, none⟩ = false := frozen_new (by simp)
  have zz : w.heap.size + 1 + 1 < (((w.alloc (.cells #[.string nm, .slice A u.length ca, .slice B d.length cb, .int .i64 hold] 24)).alloc (.cells #[.int .i64 l, .int .i64 b, .int .i64 v] 61)).alloc (.cells #[.int .i64 0, .int .i64 0, .int .i64 0] 61)).heap.size := World.block_lt_of_cell? _ _ z0
  generalize (((w.alloc (.cells #[.string nm, .slice A u.length ca, .slice B d.length cb, .int .i64 hold] 24)).alloc (.cells #[.int .i64 l, .int .i64 b, .int .i64 v] 61)).alloc (.cells #[.int .i64 0, .int .i64 0, .int .i64 0] 61)) = w0 at *
  have hA0 := RowsAt.below hA hb0
  have hB0 := RowsAt.below hB hb0
  clear hA hB
  refine (HOP.out _ hs hu hd hA0 hB0).mono ?_
  rintro e w1 ⟨rfl, hb1⟩
  have h1 : Below w.heap.size w w1 := (hb0).trans ((hb1).mono (hb0).size)
  replace x0 := cell_below' hb1 x0
  replace x1 := cell_below' hb1 x1
  replace x2 := cell_below' hb1 x2
  replace x3 := cell_below' hb1 x3
  replace zx := Nat.lt_of_lt_of_le zx (hb1).size
  replace y0 := cell_below' hb1 y0
  replace y1 := cell_below' hb1 y1
  replace y2 := cell_below' hb1 y2
  replace zy := Nat.lt_of_lt_of_le zy (hb1).size
  replace zf0 := frozen_below hb1 (World.block_lt_of_cell? _ _ z0) zf0
  replace zf1 := frozen_below hb1 (World.block_lt_of_cell? _ _ z1) zf1
  replace zf2 := frozen_below hb1 (World.block_lt_of_cell? _ _ z2) zf2
  replace z0 := cell_below' hb1 z0
  replace z1 := cell_below' hb1 z1
  replace z2 := cell_below' hb1 z2
  replace zz := Nat.lt_of_lt_of_le zz (hb1).size
  replace hA0 := RowsAt.below hA0 hb1
  replace hB0 := RowsAt.below hB0 hb1
  clear hb1 hb0
  have hle2 : w.heap.size ≤ w.heap.size + 1 + 1 := by omega
  have hn02 : w.heap.size + 1 + 1 ≠ w.heap.size := by omega
  have hn12 : w.heap.size + 1 ≠ w.heap.size + 1 + 1 := by omega
  have hn2 : w.heap.size + 1 + 1 < w1.heap.size := zz
  generalize w.heap.size + 1 + 1 = n2 at *
  generalize w.heap.size + 1 = n1 at *
  clear HOP
  generalize chkRE nm u d hold = C at *
  by_cases hC : C = 0
  rotate_left 1
  · have hF := HE.out.trans (if_neg hC)
    have hT := HS.out.trans (if_neg (by rw [hF]; exact hC))
    have e1 : (C == 0) = false := by simpa using hC
    have e2 : (C != 0) = true := by simpa using hC
    subst hF hT
    clear hC HE HS HOK
    go_wp2_with (fail)
    (obtain ⟨s0, s1, s2⟩ := set3 (v0 := .int .i64 0) (v1 := .int .i64 0) (v2 := .int .i64 0) z0 z1 z2; have hbf : Below w.heap.size w (((w1.setCell ⟨n2, 0, none⟩ (.int .i64 0)).setCell ⟨n2, 1, none⟩ (.int .i64 0)).setCell ⟨n2, 2, none⟩ (.int .i64 0)) := below_set _ hle2 (below_set _ hle2 (below_set _ hle2 h1)); generalize (((w1.setCell ⟨n2, 0, none⟩ (.int .i64 0)).setCell ⟨n2, 1, none⟩ (.int .i64 0)).setCell ⟨n2, 2, none⟩ (.int .i64 0)) = W9 at *; replace s0 := cell_alloc (.cells #[.string nm, .slice A u.length ca, .slice B d.length cb, .int .i64 hold] 143) s0; replace s1 := cell_alloc (.cells #[.string nm, .slice A u.length ca, .slice B d.length cb, .int .i64 hold] 143) s1; replace s2 := cell_alloc (.cells #[.string nm, .slice A u.length ca, .slice B d.length cb, .int .i64 hold] 143) s2; refine bodyPost_ret (v := .tuple #[.agg #[.int .i64 0, .int .i64 0, .int .i64 0], .int .i64 F]) (by simp [results, Try.results43, go_sem, s0, s1, s2]) rfl ?_; exact ⟨rfl, below_alloc _ (Nat.le_refl _) hbf⟩)
  subst hC
  have ho := HOK.out rfl
  have hh0 := ho.h0
  have hh1 := ho.h1
  have hdl := ho.dl
  have HDL := Lib.hid hdl
  have hF := HE.out.trans (if_pos rfl)
  have hb2 : Below w.heap.size w (w1.alloc (.cells #[.string nm, .slice A u.length ca, .slice B d.length cb, .int .i64 hold] 143)) := below_alloc _ (Nat.le_refl _) h1
  have hA1 := RowsAt.below hA0 (show Below w1.heap.size w1 (w1.alloc (.cells #[.string nm, .slice A u.length ca, .slice B d.length cb, .int .i64 hold] 143)) from (by repeat (first | assumption | exact Below.refl _ _ | refine Below.drew ?_ | (refine below_alloc _ ?_ ?_; focus (first | omega | (simp; done) | (simp; omega) | (simp at *; omega))) | (refine below_set _ ?_ ?_; focus (first | omega | (simp; done) | (simp; omega) | (simp at *; omega))) | refine below_drewN ?_ _ | (refine below_call (by assumption) ?_ ?_; focus (first | omega | (simp; done) | (simp; omega) | (simp at *; omega))) | (refine below_call' (by assumption) ?_ ?_; focus (first | omega | (simp; done) | (simp; omega) | (simp at *; omega))))))
  have hB1 := RowsAt.below hB0 (show Below w1.heap.size w1 (w1.alloc (.cells #[.string nm, .slice A u.length ca, .slice B d.length cb, .int .i64 hold] 143)) from (by repeat (first | assumption | exact Below.refl _ _ | refine Below.drew ?_ | (refine below_alloc _ ?_ ?_; focus (first | omega | (simp; done) | (simp; omega) | (simp at *; omega))) | (refine below_set _ ?_ ?_; focus (first | omega | (simp; done) | (simp; omega) | (simp at *; omega))) | refine below_drewN ?_ _ | (refine below_call (by assumption) ?_ ?_; focus (first | omega | (simp; done) | (simp; omega) | (simp at *; omega))) | (refine below_call' (by assumption) ?_ ?_; focus (first | omega | (simp; done) | (simp; omega) | (simp at *; omega))))))
  have HF := Lib.hid hF
  have HOKS := Lib.hid (fun h : stE u.length hold ⟨l, b, v⟩ = 0 => stE_ok h hh1)
  clear HE HOK ho hF hdl hA0 hB0
  go_wp2_with (fail)
  refine (stateErr_any nm A u ca B d.length cb hold l b v _ hh0 hh1).mono ?_
  rintro e w2 ⟨rfl, hb22⟩
  generalize stE u.length hold ⟨l, b, v⟩ = G at *
  replace x0 := cell_below' hb22 (cell_alloc _ x0)
  replace x3 := cell_below' hb22 (cell_alloc _ x3)
  replace y0 := cell_below' hb22 (cell_alloc _ y0)
  replace y1 := cell_below' hb22 (cell_alloc _ y1)
  replace y2 := cell_below' hb22 (cell_alloc _ y2)
  replace zf0 := frozen_below hb22 (by simp; omega) (frozen_alloc (.cells #[.string nm, .slice A u.length ca, .slice B d.length cb, .int .i64 hold] 143) zz zf0)
  replace zf1 := frozen_below hb22 (by simp; omega) (frozen_alloc (.cells #[.string nm, .slice A u.length ca, .slice B d.length cb, .int .i64 hold] 143) zz zf1)
  replace zf2 := frozen_below hb22 (by simp; omega) (frozen_alloc (.cells #[.string nm, .slice A u.length ca, .slice B d.length cb, .int .i64 hold] 143) zz zf2)
  replace z0 := cell_below' hb22 (cell_alloc _ z0)
  replace z1 := cell_below' hb22 (cell_alloc _ z1)
  replace z2 := cell_below' hb22 (cell_alloc _ z2)
  have p0 : World.cell? w2 ⟨w1.heap.size, 0, none⟩ = some (.string nm) := cell_below' hb22 (cell_new rfl rfl)
  have p1 : World.cell? w2 ⟨w1.heap.size, 1, none⟩ = some (.slice A u.length ca) := cell_below' hb22 (cell_new rfl rfl)
  have p2 : World.cell? w2 ⟨w1.heap.size, 2, none⟩ = some (.slice B d.length cb) := cell_below' hb22 (cell_new rfl rfl)
  have p3 : World.cell? w2 ⟨w1.heap.size, 3, none⟩ = some (.int .i64 hold) := cell_below' hb22 (cell_new rfl rfl)
  have zp : w1.heap.size < w2.heap.size := World.block_lt_of_cell? _ _ p0
  replace zx : w.heap.size < w2.heap.size := by omega
  replace zy : n1 < w2.heap.size := by omega
  replace zz : n2 < w2.heap.size := by omega
  have hw2 : Below w.heap.size w w2 := hb2.trans (hb22.mono hb2.size)
  replace hA1 := RowsAt.below hA1 hb22
  replace hB1 := RowsAt.below hB1 hb22
  clear hb22 hb2 x1 x2 h1
  have hnp : n2 ≠ w1.heap.size := fun e => by omega
  generalize w1.heap.size = np at *
  clear w1
  by_cases hF0 : F = 0
  rotate_left 1
  · have hT := HS.out.trans (if_neg hF0)
    have e2 : (F != 0) = true := by simpa using hF0
    subst hT
    clear hF0 HS HOKS
    go_upto_if 25 with ((first | (go_at_call 90; refine (valueErr_any _ _).mono ?_; rintro e w' ⟨rfl, rfl⟩) | (go_at_call 84; refine (first2 _ _ _ _ (by simp) (cell_new (by simp) rfl) (cell_new (by simp) rfl)).mono ?_; rintro e w' ⟨rfl, rfl⟩; rw [← HF.out])))
    clear HF
    go_wp2_with (fail)
    obtain ⟨s0, s1, s2⟩ := set3 (v0 := .int .i64 0) (v1 := .int .i64 0) (v2 := .int .i64 0) z0 z1 z2
    have hbf : Below w.heap.size w (((w2.setCell ⟨n2, 0, none⟩ (.int .i64 0)).setCell ⟨n2, 1, none⟩ (.int .i64 0)).setCell ⟨n2, 2, none⟩ (.int .i64 0)) := below_set _ hle2 (below_set _ hle2 (below_set _ hle2 hw2))
    generalize (((w2.setCell ⟨n2, 0, none⟩ (.int .i64 0)).setCell ⟨n2, 1, none⟩ (.int .i64 0)).setCell ⟨n2, 2, none⟩ (.int .i64 0)) = W9 at *
    replace s0 := cell_alloc (.cells #[.int .i64 G, .int .i64 (unl (withinB x (-1000000) 1000000) 2)] 27) s0
    replace s1 := cell_alloc (.cells #[.int .i64 G, .int .i64 (unl (withinB x (-1000000) 1000000) 2)] 27) s1
    replace s2 := cell_alloc (.cells #[.int .i64 G, .int .i64 (unl (withinB x (-1000000) 1000000) 2)] 27) s2
    refine bodyPost_ret (v := .tuple #[.agg #[.int .i64 0, .int .i64 0, .int .i64 0], .int .i64 F]) (by simp [results, Try.results43, go_sem, s0, s1, s2]) rfl ?_
    exact ⟨rfl, below_alloc _ (Nat.le_refl _) hbf⟩
  · have hT := HS.out.trans (if_pos hF0)
    subst hF0
    have hG : G = 0 := (firstE2.1 HF.out.symm).1
    have hok := HOKS.out hG
    have HT := Lib.hid hT
    clear hG hT HOKS HS
    go_wp2_with ((first | (go_at_call 90; refine (valueErr_any _ _).mono ?_; rintro e w' ⟨rfl, rfl⟩) | (go_at_call 84; refine (first2 _ _ _ _ (by simp) (cell_new (by simp) rfl) (cell_new (by simp) rfl)).mono ?_; rintro e w' ⟨rfl, rfl⟩; rw [← HF.out])))
    refine (step_any nm A u ca B d cb hold l b v x _ hu HDL.out hcb hok (RowsAt.below hA1 (by repeat (first | assumption | exact Below.refl _ _ | refine Below.drew ?_ | (refine below_alloc _ ?_ ?_; focus (first | omega | (simp; done) | (simp; omega) | (simp at *; omega))) | (refine below_set _ ?_ ?_; focus (first | omega | (simp; done) | (simp; omega) | (simp at *; omega))) | refine below_drewN ?_ _ | (refine below_call (by assumption) ?_ ?_; focus (first | omega | (simp; done) | (simp; omega) | (simp at *; omega))) | (refine below_call' (by assumption) ?_ ?_; focus (first | omega | (simp; done) | (simp; omega) | (simp at *; omega)))))) (RowsAt.below hB1 (by repeat (first | assumption | exact Below.refl _ _ | refine Below.drew ?_ | (refine below_alloc _ ?_ ?_; focus (first | omega | (simp; done) | (simp; omega) | (simp at *; omega))) | (refine below_set _ ?_ ?_; focus (first | omega | (simp; done) | (simp; omega) | (simp at *; omega))) | refine below_drewN ?_ _ | (refine below_call (by assumption) ?_ ?_; focus (first | omega | (simp; done) | (simp; omega) | (simp at *; omega))) | (refine below_call' (by assumption) ?_ ?_; focus (first | omega | (simp; done) | (simp; omega) | (simp at *; omega))))))).mono ?_
    rintro e w3 ⟨rfl, hb3⟩
    rw [← HT.out]
    clear HF
    replace z0 := cell_below' hb3 (cell_alloc _ z0)
    replace z1 := cell_below' hb3 (cell_alloc _ z1)
    replace z2 := cell_below' hb3 (cell_alloc _ z2)
    replace zf0 := frozen_below hb3 (by simp; omega) (frozen_alloc (.cells #[.int .i64 G, .int .i64 (unl (withinB x (-1000000) 1000000) 2)] 27) zz zf0)
    replace zf1 := frozen_below hb3 (by simp; omega) (frozen_alloc (.cells #[.int .i64 G, .int .i64 (unl (withinB x (-1000000) 1000000) 2)] 27) zz zf1)
    replace zf2 := frozen_below hb3 (by simp; omega) (frozen_alloc (.cells #[.int .i64 G, .int .i64 (unl (withinB x (-1000000) 1000000) 2)] 27) zz zf2)
    have hw3 : Below w.heap.size w w3 := (below_alloc _ (Nat.le_refl _) hw2).trans (hb3.mono (by simp; omega))
    replace zz : n2 < w3.heap.size := World.block_lt_of_cell? _ _ z0
    clear hb3 hw2 y0 y1 y2 p0 p1 p2 p3 zp zx zy
    go_wp2_with (fail)
    obtain ⟨s0, s1, s2⟩ := set3 (v0 := .int .i64 T.l) (v1 := .int .i64 T.b) (v2 := .int .i64 T.v) z0 z1 z2
    have hbf : Below w.heap.size w (((w3.setCell ⟨n2, 0, none⟩ (.int .i64 T.l)).setCell ⟨n2, 1, none⟩ (.int .i64 T.b)).setCell ⟨n2, 2, none⟩ (.int .i64 T.v)) := below_set _ hle2 (below_set _ hle2 (below_set _ hle2 hw3))
    generalize (((w3.setCell ⟨n2, 0, none⟩ (.int .i64 T.l)).setCell ⟨n2, 1, none⟩ (.int .i64 T.b)).setCell ⟨n2, 2, none⟩ (.int .i64 T.v)) = W9 at *
    refine bodyPost_ret (v := .tuple #[.agg #[.int .i64 T.l, .int .i64 T.b, .int .i64 T.v], .int .i64 0]) (by simp [results, Try.results43, go_sem, s0, s1, s2]) rfl ?_
    exact ⟨rfl, hbf⟩
end Go.Proofs.Ytcfbnmcdncndpaa
