/-
  WarnSteps: the walk.
-/
import Derived.Test.YtcfbnmcdncndpaaWStO
import Derived.Deep.RegionHeld3
import Derived.Deep.DeepCutAuto
import Derived.Deep.CutBlock
namespace Go.Proofs.Ytcfbnmcdncndpaa
open Go.ChangeShapes Go.WideShapes Go.ChangeAt Go.RowKit
set_option linter.unusedVariables false
set_option linter.unusedSimpArgs false

set_option maxRecDepth 100000 in
set_option maxHeartbeats 4000000 in
theorem WarnSteps_any (nm : ByteArray) (A : Option Addr) (u : List Int) (ca : Nat) (B : Option Addr) (d : List Int) (cb : Nat) (hold l b v x : Int) (w : World) (hA : IntsAt w A u) (hB : IntsAt w B d) :
    Calls Try.prog 8 #[.agg #[.string nm, .slice A u.length ca, .slice B d.length cb, .int .i64 hold], .agg #[.int .i64 l, .int .i64 b, .int .i64 v], .int .i64 x] w fun e w' => e = .returned (.bool true) ∧ Below w.heap.size w w' := by
  go_enter Try.func8, Try.ntmps8
  go_wp2_with (fail)
  have hb0 : Below w.heap.size w ((w.alloc (.cells #[.string nm, .slice A u.length ca, .slice B d.length cb, .int .i64 hold] 24)).alloc (.cells #[.int .i64 l, .int .i64 b, .int .i64 v] 61)) := below_alloc _ (Nat.le_refl _) (below_alloc _ (Nat.le_refl _) (Below.refl _ _))
  have x0 : ((w.alloc (.cells #[.string nm, .slice A u.length ca, .slice B d.length cb, .int .i64 hold] 24)).alloc (.cells #[.int .i64 l, .int .i64 b, .int .i64 v] 61)).cell? ⟨w.heap.size, 0, none⟩ = some (.string nm) := cell_alloc _ (cell_new (by simp) rfl)
  have x1 : ((w.alloc (.cells #[.string nm, .slice A u.length ca, .slice B d.length cb, .int .i64 hold] 24)).alloc (.cells #[.int .i64 l, .int .i64 b, .int .i64 v] 61)).cell? ⟨w.heap.size, 1, none⟩ = some (.slice A u.length ca) := cell_alloc _ (cell_new (by simp) rfl)
  have x2 : ((w.alloc (.cells #[.string nm, .slice A u.length ca, .slice B d.length cb, .int .i64 hold] 24)).alloc (.cells #[.int .i64 l, .int .i64 b, .int .i64 v] 61)).cell? ⟨w.heap.size, 2, none⟩ = some (.slice B d.length cb) := cell_alloc _ (cell_new (by simp) rfl)
  have x3 : ((w.alloc (.cells #[.string nm, .slice A u.length ca, .slice B d.length cb, .int .i64 hold] 24)).alloc (.cells #[.int .i64 l, .int .i64 b, .int .i64 v] 61)).cell? ⟨w.heap.size, 3, none⟩ = some (.int .i64 hold) := cell_alloc _ (cell_new (by simp) rfl)
  have zx : w.heap.size < ((w.alloc (.cells #[.string nm, .slice A u.length ca, .slice B d.length cb, .int .i64 hold] 24)).alloc (.cells #[.int .i64 l, .int .i64 b, .int .i64 v] 61)).heap.size := World.block_lt_of_cell? _ _ x0
  have y0 : ((w.alloc (.cells #[.string nm, .slice A u.length ca, .slice B d.length cb, .int .i64 hold] 24)).alloc (.cells #[.int .i64 l, .int .i64 b, .int .i64 v] 61)).cell? ⟨w.heap.size + 1, 0, none⟩ = some (.int .i64 l) := cell_new (by simp) rfl
  have y1 : ((w.alloc (.cells #[.string nm, .slice A u.length ca, .slice B d.length cb, .int .i64 hold] 24)).alloc (.cells #[.int .i64 l, .int .i64 b, .int .i64 v] 61)).cell? ⟨w.heap.size + 1, 1, none⟩ = some (.int .i64 b) := cell_new (by simp) rfl
  have y2 : ((w.alloc (.cells #[.string nm, .slice A u.length ca, .slice B d.length cb, .int .i64 hold] 24)).alloc (.cells #[.int .i64 l, .int .i64 b, .int .i64 v] 61)).cell? ⟨w.heap.size + 1, 2, none⟩ = some (.int .i64 v) := cell_new (by simp) rfl
  have zy : w.heap.size + 1 < ((w.alloc (.cells #[.string nm, .slice A u.length ca, .slice B d.length cb, .int .i64 hold] 24)).alloc (.cells #[.int .i64 l, .int .i64 b, .int .i64 v] 61)).heap.size := World.block_lt_of_cell? _ _ y0
  generalize ((w.alloc (.cells #[.string nm, .slice A u.length ca, .slice B d.length cb, .int .i64 hold] 24)).alloc (.cells #[.int .i64 l, .int .i64 b, .int .i64 v] 61)) = w0 at *
  have hA0 := RowsAt.below hA hb0
  have hB0 := RowsAt.below hB hb0
  clear hA hB
  refine (awake_any _).mono ?_
  rintro e w1 ⟨rfl, hb1⟩
  have h1 : Below w.heap.size w w1 := (hb0).trans ((hb1).mono (hb0).size)
  replace x0 := cell_below' hb1 x0
  replace x1 := cell_below' hb1 x1
  replace x2 := cell_below' hb1 x2
  replace x3 := cell_below' hb1 x3
  replace zx := Nat.lt_of_lt_of_le zx (hb1).size
  replace y0 := cell_below' hb1 y0
  replace y1 := cell_below' hb1 y1
  replace y2 := cell_below' hb1 y2
  replace zy := Nat.lt_of_lt_of_le zy (hb1).size
  replace hA0 := RowsAt.below hA0 hb1
  replace hB0 := RowsAt.below hB0 hb1
  clear hb1 hb0
  go_wp2_with (fail)
  refine (few_any nm A u ca B d cb hold _).mono ?_
  rintro e w2 ⟨rfl, hb2⟩
  have h2 : Below w.heap.size w w2 := (h1).trans ((hb2).mono (h1).size)
  replace x0 := cell_below' hb2 x0
  replace x1 := cell_below' hb2 x1
  replace x2 := cell_below' hb2 x2
  replace x3 := cell_below' hb2 x3
  replace zx := Nat.lt_of_lt_of_le zx (hb2).size
  replace y0 := cell_below' hb2 y0
  replace y1 := cell_below' hb2 y1
  replace y2 := cell_below' hb2 y2
  replace zy := Nat.lt_of_lt_of_le zy (hb2).size
  replace hA0 := RowsAt.below hA0 hb2
  replace hB0 := RowsAt.below hB0 hb2
  clear hb2 h1
  cases hf : fewB nm u d
  · clear hf
    go_wp2_with (fail)
    go_ret
    exact ⟨rfl, h2⟩
  obtain ⟨hu6, hd6, hn30⟩ := fewB_true hf
  clear hf
  have HHB := Lib.hid h2
  have hSO := fun (A' : Option Addr) (ca' : Nat) (B' : Option Addr) (cb' : Nat) (W : World) (hcb' : d.length ≤ cb') (hA' : IntsAt W A' u) (hB' : IntsAt W B' d) => StepOf_any nm A' u ca' B' d cb' hold l b v x W (by omega) (by omega) (by omega) hcb' hA' hB'
  have HSO := Lib.hid hSO
  have HE := Lib.hid (show stpE nm u d hold ⟨l, b, v⟩ x = if chkRE nm u d hold = 0 then firstE [stE u.length hold ⟨l, b, v⟩, unl (withinB x (-1000000) 1000000) 2] else chkRE nm u d hold from rfl)
  have HS := Lib.hid (show stpS nm u d hold ⟨l, b, v⟩ x = if stpE nm u d hold ⟨l, b, v⟩ x = 0 then stepS u d hold ⟨l, b, v⟩ x else ⟨0, 0, 0⟩ from rfl)
  have HOK := Lib.hid (fun h : chkRE nm u d hold = 0 => (okR_of h : OkR nm u d hold))
  clear hSO
  generalize stpS nm u d hold ⟨l, b, v⟩ x = T at *
  generalize stpE nm u d hold ⟨l, b, v⟩ x = F at *
  go_upto_region 5 with (fail)
  go_cut [7, 8] from 15 to 22 (fun s e wx => ∃ nb, s = .pointer (some ⟨nb, 0, none⟩) ∧ e = .int .i64 F ∧ Below w2.heap.size w2 wx ∧ wx.cell? ⟨nb, 0, none⟩ = some (.int .i64 T.l) ∧ wx.cell? ⟨nb, 1, none⟩ = some (.int .i64 T.b) ∧ wx.cell? ⟨nb, 2, none⟩ = some (.int .i64 T.v))
  case first =>
    go_region_held3 (fun w' => w'.cell? ⟨w.heap.size, 0, none⟩ = some (.string nm) ∧ w'.cell? ⟨w.heap.size, 1, none⟩ = some (.slice A u.length ca) ∧ w'.cell? ⟨w.heap.size, 2, none⟩ = some (.slice B d.length cb) ∧ w'.cell? ⟨w.heap.size, 3, none⟩ = some (.int .i64 hold) ∧ w'.cell? ⟨w.heap.size + 1, 0, none⟩ = some (.int .i64 l) ∧ w'.cell? ⟨w.heap.size + 1, 1, none⟩ = some (.int .i64 b) ∧ w'.cell? ⟨w.heap.size + 1, 2, none⟩ = some (.int .i64 v))
      ((((try go_split_ands); (repeat' (apply And.intro)) <;> (repeat (first | (with_reducible assumption) | (with_reducible refine cell_drew ?_) | (with_reducible refine cell_alloc _ ?_) | (with_reducible refine cell_below' (by with_reducible assumption) ?_) | (with_reducible refine cell_far ?_ ?_; focus (first | omega | (simp; omega) | (simp; done))))))))
      (first
        | (go_at_call 18; ((with_reducible refine (CopyRules_any nm A u ca B d cb hold _ (by omega) (by omega) ?_ ?_).mono ?_); (focus (exact RowsAt.below hA0 (by repeat (first | assumption | exact Below.refl _ _ | refine Below.drew ?_ | (refine below_alloc _ ?_ ?_; focus (first | omega | (simp; done) | (simp; omega) | (simp at *; omega))) | (refine below_set _ ?_ ?_; focus (first | omega | (simp; done) | (simp; omega) | (simp at *; omega))) | refine below_drewN ?_ _ | (refine below_call (by assumption) ?_ ?_; focus (first | omega | (simp; done) | (simp; omega) | (simp at *; omega))) | (refine below_call' (by assumption) ?_ ?_; focus (first | omega | (simp; done) | (simp; omega) | (simp at *; omega))))))); (focus (exact RowsAt.below hB0 (by repeat (first | assumption | exact Below.refl _ _ | refine Below.drew ?_ | (refine below_alloc _ ?_ ?_; focus (first | omega | (simp; done) | (simp; omega) | (simp at *; omega))) | (refine below_set _ ?_ ?_; focus (first | omega | (simp; done) | (simp; omega) | (simp at *; omega))) | refine below_drewN ?_ _ | (refine below_call (by assumption) ?_ ?_; focus (first | omega | (simp; done) | (simp; omega) | (simp at *; omega))) | (refine below_call' (by assumption) ?_ ?_; focus (first | omega | (simp; done) | (simp; omega) | (simp at *; omega))))))); rintro e w3 ⟨A3, ca3, B3, cb3, rfl, ra, rb, hcb3, hb3⟩; have hy3 : Below w2.heap.size w2 w3 := (by first | exact ((Below.refl _ w2).drew).trans hb3 | exact (below_alloc _ (Nat.le_refl _) ((Below.refl _ w2).drew)).trans (hb3.mono (by simp; try omega))); have hs3 := hb3.size; (try simp at hs3); (try have n0 : World.cell? w3 ⟨(w2).heap.size, 0, none⟩ = some (.int .i64 0) := cell_below' hb3 (cell_new (by simp) rfl)); (try have n1 : World.cell? w3 ⟨(w2).heap.size, 1, none⟩ = some (.int .i64 0) := cell_below' hb3 (cell_new (by simp) rfl)); (try have n2 : World.cell? w3 ⟨(w2).heap.size, 2, none⟩ = some (.int .i64 0) := cell_below' hb3 (cell_new (by simp) rfl)); (try have nf0 : World.frozen? w3 ⟨(w2).heap.size, 0, none⟩ = false := frozen_below hb3 (by simp) (frozen_new (by simp))); (try have nf1 : World.frozen? w3 ⟨(w2).heap.size, 1, none⟩ = false := frozen_below hb3 (by simp) (frozen_new (by simp))); (try have nf2 : World.frozen? w3 ⟨(w2).heap.size, 2, none⟩ = false := frozen_below hb3 (by simp) (frozen_new (by simp)))))
        | (go_at_call 43; ((with_reducible refine (HSO.out A3 ca3 B3 cb3 _ hcb3 ?_ ?_).mono ?_); (focus (exact RowsAt.below ra (by repeat (first | assumption | exact Below.refl _ _ | refine Below.drew ?_ | (refine below_alloc _ ?_ ?_; focus (first | omega | (simp; done) | (simp; omega) | (simp at *; omega))) | (refine below_set _ ?_ ?_; focus (first | omega | (simp; done) | (simp; omega) | (simp at *; omega))) | refine below_drewN ?_ _ | (refine below_call (by assumption) ?_ ?_; focus (first | omega | (simp; done) | (simp; omega) | (simp at *; omega))) | (refine below_call' (by assumption) ?_ ?_; focus (first | omega | (simp; done) | (simp; omega) | (simp at *; omega))))))); (focus (exact RowsAt.below rb (by repeat (first | assumption | exact Below.refl _ _ | refine Below.drew ?_ | (refine below_alloc _ ?_ ?_; focus (first | omega | (simp; done) | (simp; omega) | (simp at *; omega))) | (refine below_set _ ?_ ?_; focus (first | omega | (simp; done) | (simp; omega) | (simp at *; omega))) | refine below_drewN ?_ _ | (refine below_call (by assumption) ?_ ?_; focus (first | omega | (simp; done) | (simp; omega) | (simp at *; omega))) | (refine below_call' (by assumption) ?_ ?_; focus (first | omega | (simp; done) | (simp; omega) | (simp at *; omega))))))); rintro e w4 ⟨rfl, hb4⟩; have hy4 : Below w2.heap.size w2 w4 := (by first | exact hy3.trans (hb4.mono hy3.size) | exact (below_alloc _ (Nat.le_refl _) hy3).trans (hb4.mono (by have := hy3.size; simp; omega))); have hs4 := hb4.size; (try simp at hs4); (try replace nf0 := frozen_below hb4 (World.block_lt_of_cell? _ _ n0) nf0); (try replace nf1 := frozen_below hb4 (World.block_lt_of_cell? _ _ n1) nf1); (try replace nf2 := frozen_below hb4 (World.block_lt_of_cell? _ _ n2) nf2); (try replace n0 := cell_below' hb4 n0); (try replace n1 := cell_below' hb4 n1); (try replace n2 := cell_below' hb4 n2); (try have n0 : World.cell? w4 ⟨(w3).heap.size, 0, none⟩ = some (.int .i64 0) := cell_below' hb4 (cell_new (by simp) rfl)); (try have n1 : World.cell? w4 ⟨(w3).heap.size, 1, none⟩ = some (.int .i64 0) := cell_below' hb4 (cell_new (by simp) rfl)); (try have n2 : World.cell? w4 ⟨(w3).heap.size, 2, none⟩ = some (.int .i64 0) := cell_below' hb4 (cell_new (by simp) rfl)); (try have nf0 : World.frozen? w4 ⟨(w3).heap.size, 0, none⟩ = false := frozen_below hb4 (by simp) (frozen_new (by simp))); (try have nf1 : World.frozen? w4 ⟨(w3).heap.size, 1, none⟩ = false := frozen_below hb4 (by simp) (frozen_new (by simp))); (try have nf2 : World.frozen? w4 ⟨(w3).heap.size, 2, none⟩ = false := frozen_below hb4 (by simp) (frozen_new (by simp))))))
    all_goals
      go_wp2_with (fail)
      go_meet
      first
        | exact ⟨_, rfl, rfl, below_alloc _ (Nat.le_refl _) hy4, cell_new rfl rfl, cell_new rfl rfl, cell_new rfl rfl⟩
        | exact ⟨_, rfl, rfl, below_set _ (by simp; try omega) (below_set _ (by simp; try omega) (below_set _ (by simp; try omega) hy4)), (set3 n0 n1 n2).1, (set3 n0 n1 n2).2.1, (set3 n0 n1 n2).2.2⟩
  case rest =>
  obtain ⟨nb, rfl, rfl, hbw, r0, r1, r2⟩ := hcut
  have h3 : Below w.heap.size w wc := (h2).trans ((hbw).mono (h2).size)
  replace x0 := cell_below' hbw x0
  replace x1 := cell_below' hbw x1
  replace x2 := cell_below' hbw x2
  replace x3 := cell_below' hbw x3
  replace zx := Nat.lt_of_lt_of_le zx (hbw).size
  replace y0 := cell_below' hbw y0
  replace y1 := cell_below' hbw y1
  replace y2 := cell_below' hbw y2
  replace zy := Nat.lt_of_lt_of_le zy (hbw).size
  replace hA0 := RowsAt.below hA0 hbw
  replace hB0 := RowsAt.below hB0 hbw
  clear hbw h2
  have zr : nb < wc.heap.size := World.block_lt_of_cell? _ _ r0
  clear HSO HHB
  go_wp2_with (fail)
  refine (RulesErr_any nm A u ca B d cb hold _ (by omega) (by omega) (by omega) hA0 hB0).mono ?_
  rintro e w5 ⟨rfl, hb5⟩
  have h5 : Below w.heap.size w w5 := (h3).trans ((hb5).mono (h3).size)
  replace x0 := cell_below' hb5 x0
  replace x1 := cell_below' hb5 x1
  replace x2 := cell_below' hb5 x2
  replace x3 := cell_below' hb5 x3
  replace zx := Nat.lt_of_lt_of_le zx (hb5).size
  replace y0 := cell_below' hb5 y0
  replace y1 := cell_below' hb5 y1
  replace y2 := cell_below' hb5 y2
  replace zy := Nat.lt_of_lt_of_le zy (hb5).size
  replace r0 := cell_below' hb5 r0
  replace r1 := cell_below' hb5 r1
  replace r2 := cell_below' hb5 r2
  replace zr := Nat.lt_of_lt_of_le zr (hb5).size
  replace hA0 := RowsAt.below hA0 hb5
  replace hB0 := RowsAt.below hB0 hb5
  clear hb5 h3
  generalize chkRE nm u d hold = C at *
  by_cases hC : C = 0
  rotate_left 1
  · have hF := HE.out.trans (if_neg hC)
    have hT := HS.out.trans (if_neg (by rw [hF]; exact hC))
    have e1 : (C == 0) = false := by simpa using hC
    have e2 : (C != 0) = true := by simpa using hC
    subst hF hT
    have e3 : (F == F) = true := by simp
    clear hC HE HS HOK
    go_wp2_with (fail)
    go_ret
    exact ⟨rfl, h5⟩
  subst hC
  have ho := HOK.out rfl
  have hh0 := ho.h0
  have hh1 := ho.h1
  have HO := Lib.hid ho
  have HF := Lib.hid (HE.out.trans (if_pos rfl))
  have HG := Lib.hid (fun h : stE u.length hold ⟨l, b, v⟩ = 0 => stE_ok h hh1)
  have HB2 := Lib.hid (fun h : stE u.length hold ⟨l, b, v⟩ = 0 => (stE_b h : b < hold))
  clear HE HOK ho
  go_wp2_with (fail)
  refine (RStateErr_any nm A u ca B d.length cb hold l b v _ hh0 hh1).mono ?_
  rintro e w6 ⟨rfl, hb6⟩
  have h6 : Below w.heap.size w w6 := (h5).trans ((hb6).mono (h5).size)
  replace x0 := cell_below' hb6 x0
  replace x1 := cell_below' hb6 x1
  replace x2 := cell_below' hb6 x2
  replace x3 := cell_below' hb6 x3
  replace zx := Nat.lt_of_lt_of_le zx (hb6).size
  replace y0 := cell_below' hb6 y0
  replace y1 := cell_below' hb6 y1
  replace y2 := cell_below' hb6 y2
  replace zy := Nat.lt_of_lt_of_le zy (hb6).size
  replace r0 := cell_below' hb6 r0
  replace r1 := cell_below' hb6 r1
  replace r2 := cell_below' hb6 r2
  replace zr := Nat.lt_of_lt_of_le zr (hb6).size
  replace hA0 := RowsAt.below hA0 hb6
  replace hB0 := RowsAt.below hB0 hb6
  clear hb6 h5
  generalize stE u.length hold ⟨l, b, v⟩ = G at *
  by_cases hG : G = 0
  rotate_left 1
  · have hF := HF.out
    rw [firstE_nz hG] at hF
    have hT := HS.out.trans (if_neg (by rw [hF]; exact hG))
    have e1 : (G == 0) = false := by simpa using hG
    have e2 : (G != 0) = true := by simpa using hG
    subst hF hT
    have e3 : (F == F) = true := by simp
    clear hG HF HS HG HB2
    go_wp2_with (fail)
    go_ret
    exact ⟨rfl, h6⟩
  subst hG
  have hok := HG.out rfl
  have hbh := HB2.out rfl
  have hF := HF.out
  rw [firstE_consz] at hF
  have HOKS := Lib.hid hok
  clear HG HF hok HB2
  cases hv : withinB x (-1000000) 1000000
  · have hF2 : F = 2 := by rw [hF, hv]; rfl
    have hT := HS.out.trans (if_neg (by rw [hF2]; decide))
    have HV := Lib.hid (show unl (withinB x (-1000000) 1000000) 2 = 2 by rw [hv]; rfl)
    subst hF2 hT
    clear hF HS hv
    go_wp2_with (go_at_call 24; refine (RValueErr_any _ _).mono ?_; rintro e w' ⟨rfl, rfl⟩; rw [HV.out])
    go_ret
    exact ⟨rfl, h6⟩
  · have hF2 : F = 0 := by rw [hF, hv]; rfl
    have hT := HS.out.trans (if_pos hF2)
    have HV := Lib.hid (show unl (withinB x (-1000000) 1000000) 2 = 0 by rw [hv]; rfl)
    have HT := Lib.hid hT
    subst hF2
    clear hF HS hv hT
    have HSTEP := Lib.hid (fun W (hA' : IntsAt W A u) (hB' : IntsAt W B d) => RStep_any nm A u ca B d cb hold l b v x W HO.out HOKS.out hbh hA' hB')
    rw [← HT.out] at HSTEP
    have t0 : (T.l == T.l) = true := by simp
    have t1 : (T.b == T.b) = true := by simp
    have t2 : (T.v == T.v) = true := by simp
    go_upto_region 13 with (go_at_call 24; refine (RValueErr_any _ _).mono ?_; rintro e w' ⟨rfl, rfl⟩; rw [HV.out])
    (refine region_extx 10 (by kernel_rfl) (by kernel_rfl) fun hx => ?_; simp only [List.take_succ_cons, List.take_zero, List.drop_succ_cons, List.drop_zero]; (repeat (any_goals (first | go_big_quiet_step (((go_at_call 45; exact ext_call (HSTEP.out _ (RowsAt.below hA0 (ext_bel _ _)) (RowsAt.below hB0 (ext_bel _ _)))))) | quiet_step (((go_at_call 45; exact ext_call (HSTEP.out _ (RowsAt.below hA0 (ext_bel _ _)) (RowsAt.below hB0 (ext_bel _ _))))))))))
    (refine wpQuiet_nil ?_; clear hx; intro u; have hbw9 := ext_bel _ u; have hxw9 := ext_cell _ u; generalize ext _ u = w9 at *; clear u; have hsw9 := hbw9.size; (try simp at hsw9))
    go_wp2_with (fail)
    go_ret
    exact ⟨rfl, h6.trans (hbw9.mono h6.size)⟩
end Go.Proofs.Ytcfbnmcdncndpaa
