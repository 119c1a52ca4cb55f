/-
  The walk of ProfileContained.
-/
import Derived.Test.YtoegpaolbkcleaaSmp
import Derived.Test.YtoegpaolbkcleaaCtS
import Derived.Test.YtoegpaolbkcleaaAwk
import Derived.Test.YtoegpaolbkcleaaWth
import Derived.Test.YtoegpaolbkcleaaCkR
import Derived.Test.YtoegpaolbkcleaaLaw4
import Derived.Deep.RegionHeld3
import Derived.Deep.DeepCutAuto
import Derived.Deep.CutBlock
namespace Go.Proofs.Ytoegpaolbkcleaa
open Go.ChangeShapes Go.WideShapes Go.ChangeAt Go.RowKit
set_option linter.unusedVariables false
set_option linter.unusedSimpArgs false

theorem field_slabs (a : Int) (S : Option Addr) (n c : Nat) (w : World) : (Instr.field 24 (.agg #[.int .i64 a, .slice S n c]) 1).run Try.prog w = .ok (.slice S n c) w := by kernel_rfl
attribute [local go_sem] field_slabs
theorem rowsAt_drop {α : Type} {m : Nat} {f : α → Nat → Value} {w : World} {g off : Nat} {l : List α} (h : RowsAt m f w (some ⟨g, off, none⟩) l) (k : Nat) : RowsAt m f w (some ⟨g, off + k * m, none⟩) (l.drop k) := fun i x hx => by
  rw [List.getElem?_drop] at hx
  obtain ⟨b, o, e, hb, hc⟩ := h (k + i) x hx
  injection e with e
  injection e with e1 e2
  subst e1 e2
  refine ⟨g, off + k * m, rfl, hb, fun j hj => ?_⟩
  have := hc j hj
  rwa [show off + (k + i) * m + j = off + k * m + i * m + j by rw [Nat.add_mul]; omega] at this
theorem vly_pos {S : List Slb} {a : Nat} {sq wv : Int} (h : a + 1 < S.length) (hw : 0 < wv) : vly S a sq wv = S.take (a + 1) ++ [⟨sq, wv⟩] ++ S.drop (a + 1) := by
  unfold vly
  rw [if_pos ⟨h, hw⟩, List.append_assoc]
  rfl
theorem vly_neg {S : List Slb} {a : Nat} {sq wv : Int} (h : ¬ (a + 1 < S.length ∧ 0 < wv)) : vly S a sq wv = S := by
  unfold vly; rw [if_neg h]

set_option maxRecDepth 100000 in
set_option maxHeartbeats 8000000 in
theorem ProfileContained_any (A : Option Addr) (fs : List Int) (ca : Nat) (B : Option Addr) (ths : List Int) (cb : Nat) (C : Option Addr) (wds : List Int) (cc : Nat) (base after width sq wv : Int) (w : World) (hA : IntsAt w A fs) (hB : IntsAt w B ths) (hC : IntsAt w C wds) :
    Calls Try.prog 7 #[.agg #[.slice A fs.length ca, .slice B ths.length cb, .slice C wds.length cc, .int .i64 base, .int .i64 after, .int .i64 width, .int .i64 sq], .int .i64 wv] w fun e w' => e = .returned (.bool true) ∧ Below w.heap.size w w' := by
  go_enter Try.func7, Try.ntmps7
  go_wp2_with (fail)
  refine (awake_any _).mono ?_
  rintro e w1 ⟨rfl, hb1⟩
  have x0 : w1.cell? ⟨w.heap.size, 0, none⟩ = some (.slice A fs.length ca) := cell_below' hb1 (by repeat (first | assumption | (refine cell_new ?_ rfl; focus (simp; done)) | refine cell_drew ?_ | refine cell_alloc _ ?_ | refine cell_drewN _ ?_ | (refine cell_far ?_ ?_; focus (first | omega | (simp; omega) | (simp; done))) | refine cell_below' (by assumption) ?_))
  have x1 : w1.cell? ⟨w.heap.size, 1, none⟩ = some (.slice B ths.length cb) := cell_below' hb1 (by repeat (first | assumption | (refine cell_new ?_ rfl; focus (simp; done)) | refine cell_drew ?_ | refine cell_alloc _ ?_ | refine cell_drewN _ ?_ | (refine cell_far ?_ ?_; focus (first | omega | (simp; omega) | (simp; done))) | refine cell_below' (by assumption) ?_))
  have x2 : w1.cell? ⟨w.heap.size, 2, none⟩ = some (.slice C wds.length cc) := cell_below' hb1 (by repeat (first | assumption | (refine cell_new ?_ rfl; focus (simp; done)) | refine cell_drew ?_ | refine cell_alloc _ ?_ | refine cell_drewN _ ?_ | (refine cell_far ?_ ?_; focus (first | omega | (simp; omega) | (simp; done))) | refine cell_below' (by assumption) ?_))
  have x3 : w1.cell? ⟨w.heap.size, 3, none⟩ = some (.int .i64 base) := cell_below' hb1 (by repeat (first | assumption | (refine cell_new ?_ rfl; focus (simp; done)) | refine cell_drew ?_ | refine cell_alloc _ ?_ | refine cell_drewN _ ?_ | (refine cell_far ?_ ?_; focus (first | omega | (simp; omega) | (simp; done))) | refine cell_below' (by assumption) ?_))
  have x4 : w1.cell? ⟨w.heap.size, 4, none⟩ = some (.int .i64 after) := cell_below' hb1 (by repeat (first | assumption | (refine cell_new ?_ rfl; focus (simp; done)) | refine cell_drew ?_ | refine cell_alloc _ ?_ | refine cell_drewN _ ?_ | (refine cell_far ?_ ?_; focus (first | omega | (simp; omega) | (simp; done))) | refine cell_below' (by assumption) ?_))
  have x5 : w1.cell? ⟨w.heap.size, 5, none⟩ = some (.int .i64 width) := cell_below' hb1 (by repeat (first | assumption | (refine cell_new ?_ rfl; focus (simp; done)) | refine cell_drew ?_ | refine cell_alloc _ ?_ | refine cell_drewN _ ?_ | (refine cell_far ?_ ?_; focus (first | omega | (simp; omega) | (simp; done))) | refine cell_below' (by assumption) ?_))
  have x6 : w1.cell? ⟨w.heap.size, 6, none⟩ = some (.int .i64 sq) := cell_below' hb1 (by repeat (first | assumption | (refine cell_new ?_ rfl; focus (simp; done)) | refine cell_drew ?_ | refine cell_alloc _ ?_ | refine cell_drewN _ ?_ | (refine cell_far ?_ ?_; focus (first | omega | (simp; omega) | (simp; done))) | refine cell_below' (by assumption) ?_))
  have hz1 : w.heap.size < w1.heap.size := by have := hb1.size; simp at this; omega
  have hbw1 : Below w.heap.size w w1 := (by repeat (first | assumption | exact Below.refl _ _ | refine Below.drew ?_ | (refine below_alloc _ ?_ ?_; focus (first | omega | (simp; done) | (simp; omega) | (simp at *; omega))) | (refine below_set _ ?_ ?_; focus (first | omega | (simp; done) | (simp; omega) | (simp at *; omega))) | refine below_drewN ?_ _ | (refine below_call (by assumption) ?_ ?_; focus (first | omega | (simp; done) | (simp; omega) | (simp at *; omega))) | (refine below_call' (by assumption) ?_ ?_; focus (first | omega | (simp; done) | (simp; omega) | (simp at *; omega)))))
  clear hb1
  go_wp2_with (fail)
  refine (Sampled_any A fs ca B ths cb C wds cc base after width sq _ (hA.below hbw1) (hB.below hbw1) (hC.below hbw1)).mono ?_
  rintro e w2 ⟨b0, S', n', c', T', m', d', a', wd', ok, rfl, hb2, hok⟩
  replace x0 := cell_below' hb2 x0
  replace x1 := cell_below' hb2 x1
  replace x2 := cell_below' hb2 x2
  replace x3 := cell_below' hb2 x3
  replace x4 := cell_below' hb2 x4
  replace x5 := cell_below' hb2 x5
  replace x6 := cell_below' hb2 x6
  have hz2 : w.heap.size < w2.heap.size := by have := hb2.size; omega
  have hz12 : w1.heap.size ≤ w2.heap.size := hb2.size
  have hbw2 : Below w.heap.size w w2 := (by repeat (first | assumption | exact Below.refl _ _ | refine Below.drew ?_ | (refine below_alloc _ ?_ ?_; focus (first | omega | (simp; done) | (simp; omega) | (simp at *; omega))) | (refine below_set _ ?_ ?_; focus (first | omega | (simp; done) | (simp; omega) | (simp at *; omega))) | refine below_drewN ?_ _ | (refine below_call (by assumption) ?_ ?_; focus (first | omega | (simp; done) | (simp; omega) | (simp at *; omega))) | (refine below_call' (by assumption) ?_ ?_; focus (first | omega | (simp; done) | (simp; omega) | (simp at *; omega)))))
  clear hb2 hbw1
  cases ok
  · clear hok
    go_wp2_with (fail)
    go_ret
    exact ⟨rfl, (by repeat (first | assumption | exact Below.refl _ _ | refine Below.drew ?_ | (refine below_alloc _ ?_ ?_; focus (first | omega | (simp; done) | (simp; omega) | (simp at *; omega))) | (refine below_set _ ?_ ?_; focus (first | omega | (simp; done) | (simp; omega) | (simp at *; omega))) | refine below_drewN ?_ _ | (refine below_call (by assumption) ?_ ?_; focus (first | omega | (simp; done) | (simp; omega) | (simp at *; omega))) | (refine below_call' (by assumption) ?_ ?_; focus (first | omega | (simp; done) | (simp; omega) | (simp at *; omega)))))⟩
  obtain ⟨hS, e0, e1, e2, e3, e4, own1, own2, hne⟩ := hok rfl
  clear hok
  have n0 := hS.n0
  have n1 := hS.n1
  have a1 := hS.a1
  rw [hS.nt] at x1
  rw [hS.nw] at x2
  replace e0 := e0.symm
  replace e1 := e1.symm
  replace e2 := e2.symm
  replace e3 := e3.symm
  replace e4 := e4.symm
  subst e0 e1 e2 e3 e4
  obtain ⟨an, rfl⟩ := Int.eq_ofNat_of_zero_le hS.a0
  obtain ⟨gs, cs', hvs, gs0, gs1⟩ := own1.form n0
  injection hvs with hvs1 hvs2 hvs3
  subst hvs1 hvs3
  obtain ⟨gt, ct', hvt, gt0, gt1⟩ := own2.form n0
  injection hvt with hvt1 hvt2 hvt3
  subst hvt1 hvt3
  have hgg : gs ≠ gt := fun e => hne (by simp [Value.ownBlock, e])
  clear hne hvs2 hvt2
  have HS := Lib.hid hS
  have HSL := Lib.hid (smS_len hS)
  clear hS
  go_wp2_with (fail)
  have hbv2 : Below w2.heap.size w2 ((w2.alloc (.cells #[.int .i64 base, .slice (some ⟨gs, 0, none⟩) fs.length c'] 24)).alloc (.cells #[.slice (some ⟨gt, 0, none⟩) fs.length d', .int .i64 an, .int .i64 width] 53)) := (by repeat (first | assumption | exact Below.refl _ _ | refine Below.drew ?_ | (refine below_alloc _ ?_ ?_; focus (first | omega | (simp; done) | (simp; omega) | (simp at *; omega))) | (refine below_set _ ?_ ?_; focus (first | omega | (simp; done) | (simp; omega) | (simp at *; omega))) | refine below_drewN ?_ _ | (refine below_call (by assumption) ?_ ?_; focus (first | omega | (simp; done) | (simp; omega) | (simp at *; omega))) | (refine below_call' (by assumption) ?_ ?_; focus (first | omega | (simp; done) | (simp; omega) | (simp at *; omega)))))
  replace x0 := cell_below' hbv2 x0
  replace x1 := cell_below' hbv2 x1
  replace x2 := cell_below' hbv2 x2
  replace x3 := cell_below' hbv2 x3
  replace x4 := cell_below' hbv2 x4
  replace x5 := cell_below' hbv2 x5
  replace x6 := cell_below' hbv2 x6
  replace own1 := own_below own1 hbv2
  replace own2 := own_below own2 hbv2
  have p0 : ((w2.alloc (.cells #[.int .i64 base, .slice (some ⟨gs, 0, none⟩) fs.length c'] 24)).alloc (.cells #[.slice (some ⟨gt, 0, none⟩) fs.length d', .int .i64 an, .int .i64 width] 53)).cell? ⟨w2.heap.size, 0, none⟩ = some (.int .i64 base) := cell_alloc _ (cell_new rfl rfl)
  have p1 : ((w2.alloc (.cells #[.int .i64 base, .slice (some ⟨gs, 0, none⟩) fs.length c'] 24)).alloc (.cells #[.slice (some ⟨gt, 0, none⟩) fs.length d', .int .i64 an, .int .i64 width] 53)).cell? ⟨w2.heap.size, 1, none⟩ = some (.slice (some ⟨gs, 0, none⟩) fs.length c') := cell_alloc _ (cell_new rfl rfl)
  have pf0 : ((w2.alloc (.cells #[.int .i64 base, .slice (some ⟨gs, 0, none⟩) fs.length c'] 24)).alloc (.cells #[.slice (some ⟨gt, 0, none⟩) fs.length d', .int .i64 an, .int .i64 width] 53)).frozen? ⟨w2.heap.size, 0, none⟩ = false := frozen_alloc _ (by simp) (frozen_new rfl)
  have pf1 : ((w2.alloc (.cells #[.int .i64 base, .slice (some ⟨gs, 0, none⟩) fs.length c'] 24)).alloc (.cells #[.slice (some ⟨gt, 0, none⟩) fs.length d', .int .i64 an, .int .i64 width] 53)).frozen? ⟨w2.heap.size, 1, none⟩ = false := frozen_alloc _ (by simp) (frozen_new rfl)
  have t0 : ((w2.alloc (.cells #[.int .i64 base, .slice (some ⟨gs, 0, none⟩) fs.length c'] 24)).alloc (.cells #[.slice (some ⟨gt, 0, none⟩) fs.length d', .int .i64 an, .int .i64 width] 53)).cell? ⟨w2.heap.size + 1, 0, none⟩ = some (.slice (some ⟨gt, 0, none⟩) fs.length d') := cell_new (by simp) rfl
  have t1 : ((w2.alloc (.cells #[.int .i64 base, .slice (some ⟨gs, 0, none⟩) fs.length c'] 24)).alloc (.cells #[.slice (some ⟨gt, 0, none⟩) fs.length d', .int .i64 an, .int .i64 width] 53)).cell? ⟨w2.heap.size + 1, 1, none⟩ = some (.int .i64 an) := cell_new (by simp) rfl
  have t2 : ((w2.alloc (.cells #[.int .i64 base, .slice (some ⟨gs, 0, none⟩) fs.length c'] 24)).alloc (.cells #[.slice (some ⟨gt, 0, none⟩) fs.length d', .int .i64 an, .int .i64 width] 53)).cell? ⟨w2.heap.size + 1, 2, none⟩ = some (.int .i64 width) := cell_new (by simp) rfl
  have hsv : ((w2.alloc (.cells #[.int .i64 base, .slice (some ⟨gs, 0, none⟩) fs.length c'] 24)).alloc (.cells #[.slice (some ⟨gt, 0, none⟩) fs.length d', .int .i64 an, .int .i64 width] 53)).heap.size = w2.heap.size + 1 + 1 := by simp
  have hbv : Below w.heap.size w ((w2.alloc (.cells #[.int .i64 base, .slice (some ⟨gs, 0, none⟩) fs.length c'] 24)).alloc (.cells #[.slice (some ⟨gt, 0, none⟩) fs.length d', .int .i64 an, .int .i64 width] 53)) := (by repeat (first | assumption | exact Below.refl _ _ | refine Below.drew ?_ | (refine below_alloc _ ?_ ?_; focus (first | omega | (simp; done) | (simp; omega) | (simp at *; omega))) | (refine below_set _ ?_ ?_; focus (first | omega | (simp; done) | (simp; omega) | (simp at *; omega))) | refine below_drewN ?_ _ | (refine below_call (by assumption) ?_ ?_; focus (first | omega | (simp; done) | (simp; omega) | (simp at *; omega))) | (refine below_call' (by assumption) ?_ ?_; focus (first | omega | (simp; done) | (simp; omega) | (simp at *; omega)))))
  clear hbv2 hbw2
  generalize ((w2.alloc (.cells #[.int .i64 base, .slice (some ⟨gs, 0, none⟩) fs.length c'] 24)).alloc (.cells #[.slice (some ⟨gt, 0, none⟩) fs.length d', .int .i64 an, .int .i64 width] 53)) = v1 at *
  have zx : w.heap.size < v1.heap.size := by omega
  have zp : w2.heap.size < v1.heap.size := by omega
  have zt : w2.heap.size + 1 < v1.heap.size := by omega
  have zgs : gs < v1.heap.size := by omega
  have zgt : gt < v1.heap.size := by omega
  cases hv : withinB wv 0 width
  · have HV := Lib.hid hv
    clear hv
    go_wp2_with (go_at_call 23; refine (Within_any _ _ _ _).mono ?_; rintro e w' ⟨rfl, rfl⟩; rw [HV.out])
    go_ret
    exact ⟨rfl, (by repeat (first | assumption | exact Below.refl _ _ | refine Below.drew ?_ | (refine below_alloc _ ?_ ?_; focus (first | omega | (simp; done) | (simp; omega) | (simp at *; omega))) | (refine below_set _ ?_ ?_; focus (first | omega | (simp; done) | (simp; omega) | (simp at *; omega))) | refine below_drewN ?_ _ | (refine below_call (by assumption) ?_ ?_; focus (first | omega | (simp; done) | (simp; omega) | (simp at *; omega))) | (refine below_call' (by assumption) ?_ ?_; focus (first | omega | (simp; done) | (simp; omega) | (simp at *; omega)))))⟩
  have HV := Lib.hid hv
  obtain ⟨v0, v1'⟩ := withinB_true.1 hv
  clear hv
  have HOK := Lib.hid (vly_ok HS.out v1')
  have HAT := Lib.hid (fun i hi => vly_at HS.out v0 v1' (i := i) hi)
  have HSAID := Lib.hid (fun l hl hp hc => smp_said HS.out v0 v1' (l := l) hl hp hc)
  clear v0 v1'
  generalize hlp : vly (smS fs ths) (an : Int).toNat sq wv = lp at *
  rw [Int.toNat_natCast] at hlp
  have HLP := Lib.hid hlp
  clear hlp
  go_upto_region 7 with (go_at_call 23; refine (Within_any _ _ _ _).mono ?_; rintro e w' ⟨rfl, rfl⟩; rw [HV.out])
  go_cut [57] from 29 to 57 (fun s wx => ∃ bv : Bool, s = .bool bv ∧ (bv = true ↔ (an + 1 < fs.length ∧ 0 < wv)) ∧ v1 = wx)
  case first =>
    by_cases hva : (an : Int) < (fs.length : Int) - 1
    · by_cases hvw : 0 < wv
      · go_wp2_with (fail)
        go_meet
        case rel => exact ⟨true, rfl, ⟨fun _ => ⟨by omega, hvw⟩, fun _ => rfl⟩, rfl⟩
      · go_wp2_with (fail)
        go_meet
        case rel => exact ⟨false, rfl, ⟨fun h => (by cases h), fun h => absurd h.2 (by omega)⟩, rfl⟩
    · go_wp2_with (fail)
      go_meet
      case rel => exact ⟨false, rfl, ⟨fun h => (by cases h), fun h => absurd h.1 (by omega)⟩, rfl⟩
  case rest =>
  obtain ⟨bv, rfl, hbvv, rfl⟩ := hcut
  have HBV := Lib.hid hbvv
  clear hbvv
  go_upto_if 57 with (fail)
  go_cut [] from 29 to 81 (fun wx => ∃ (ga cP : Nat), ga ≠ gt ∧ Below w.heap.size w wx ∧ v1.heap.size ≤ wx.heap.size ∧ wx.cell? ⟨w.heap.size, 0, none⟩ = some (.slice A fs.length ca) ∧ wx.cell? ⟨w.heap.size, 1, none⟩ = some (.slice B fs.length cb) ∧ wx.cell? ⟨w.heap.size, 2, none⟩ = some (.slice C fs.length cc) ∧ wx.cell? ⟨w2.heap.size, 0, none⟩ = some (.int .i64 base) ∧ wx.cell? ⟨w2.heap.size, 1, none⟩ = some (.slice (some ⟨ga, 0, none⟩) lp.length cP) ∧ wx.cell? ⟨w2.heap.size + 1, 0, none⟩ = some (.slice (some ⟨gt, 0, none⟩) fs.length d') ∧ wx.cell? ⟨w2.heap.size + 1, 1, none⟩ = some (.int .i64 an) ∧ wx.cell? ⟨w2.heap.size + 1, 2, none⟩ = some (.int .i64 width) ∧ wx.ownsRow w1.heap.size 45 2 (.slice (some ⟨ga, 0, none⟩) lp.length cP) lp.length (cellsOf 2 slbC lp) ∧ wx.ownsRow w1.heap.size 75 3 (.slice (some ⟨gt, 0, none⟩) fs.length d') fs.length (cellsOf 3 ptC (smT fs)))
  case first =>
    cases bv
    ·
      have hn := mt HBV.out.2 (by decide)
      have hlp : smS fs ths = lp := by rw [← HLP.out, vly_neg (by rw [HSL.out]; exact hn)]
      have hll : fs.length = lp.length := by rw [← hlp, HSL.out]
      rw [hlp, hll] at own1
      rw [hll] at p1
      have P1 := Lib.hid p1
      clear hlp hn p1
      go_wp2_with (fail)
      go_meet
      case rel => exact ⟨gs, c', hgg, hbv, Nat.le_refl _, x0, x1, x2, p0, P1.out, t0, t1, t2, own1, own2⟩
    · obtain ⟨hva, hvw⟩ := HBV.out.1 rfl
      clear hsv
      have hSl : SlabsAt v1 (some ⟨gs, 0, none⟩) (smS fs ths) := rowsAt_of_own own1 HSL.out (by decide)
      have hcp : ∀ W, SlabsAt W (some ⟨gs, 0, none⟩) (smS fs ths) → Calls Try.prog 17 #[.agg #[.int .i64 base, .slice (some ⟨gs, 0, none⟩) fs.length c']] W fun e w' => ∃ A' c', e = .returned (.agg #[.int .i64 base, .slice A' fs.length c']) ∧ w'.ownsRow W.heap.size 45 2 (.slice A' fs.length c') fs.length (cellsOf 2 slbC (smS fs ths)) ∧ Below W.heap.size W w' := fun W hW => by
        have h := Copy_any base (some ⟨gs, 0, none⟩) (smS fs ths) c' W (by rw [HSL.out]; omega) hW
        unfold CopyPost at h
        rw [HSL.out] at h
        exact h
      have HCP := Lib.hid hcp
      clear hcp
      have hwr : IntKind.i64.wrap ((an : Int) + 1) = (an : Int) + 1 := by simp [IntKind.wrap, IntKind.bits, IntKind.signed]; omega
      go_upto_region 8 with (fail)
      go_cut [9] from 58 to 70 (fun s wx => ∃ (g9 c9 : Nat), s = .slice (some ⟨g9, 0, none⟩) (an + 2) c9 ∧ v1.heap.size ≤ g9 ∧ Below v1.heap.size v1 wx ∧ wx.ownsRow v1.heap.size 45 2 (.slice (some ⟨g9, 0, none⟩) (an + 2) c9) (an + 2) (cellsOf 2 slbC ((smS fs ths).take (an + 1) ++ [⟨sq, wv⟩])))
      case first =>
        go_region_held3 (fun w' => w'.cell? ⟨w2.heap.size, 0, none⟩ = some (.int .i64 base) ∧ w'.cell? ⟨w2.heap.size, 1, none⟩ = some (.slice (some ⟨gs, 0, none⟩) fs.length c') ∧ w'.cell? ⟨w.heap.size, 4, none⟩ = some (.int .i64 an) ∧ w'.cell? ⟨w.heap.size, 6, none⟩ = some (.int .i64 sq))
          ((((try go_split_ands); (repeat' (apply And.intro)) <;> (repeat (first | (with_reducible assumption) | (with_reducible refine cell_drew ?_) | (with_reducible refine cell_alloc _ ?_) | (with_reducible refine cell_below' (by with_reducible assumption) ?_) | (with_reducible refine cell_far ?_ ?_; focus (first | omega | (simp; omega) | (simp; done))))))))
          (first
            | (go_at_call 17; ((with_reducible refine (HCP.out _ ?_).mono ?_); (focus (exact RowsAt.below hSl (by repeat (first | assumption | exact Below.refl _ _ | refine Below.drew ?_ | (refine below_alloc _ ?_ ?_; focus (first | omega | (simp; done) | (simp; omega) | (simp at *; omega))) | (refine below_set _ ?_ ?_; focus (first | omega | (simp; done) | (simp; omega) | (simp at *; omega))) | refine below_drewN ?_ _ | (refine below_call (by assumption) ?_ ?_; focus (first | omega | (simp; done) | (simp; omega) | (simp at *; omega))) | (refine below_call' (by assumption) ?_ ?_; focus (first | omega | (simp; done) | (simp; omega) | (simp at *; omega))))))); (rintro e y1 ⟨A4, c4, rfl, own4, hb4⟩); (obtain ⟨g4, cx4, hv4, g40, g41⟩ := own4.form n0); (injection hv4 with hq1 hq2 hq3); (subst hq1 hq3); (have hcc := own_cap' own4); (have hs0 : (0 : Int) ≤ (an : Int) + 1 := by omega); (have hs1 : (an : Int) + 1 ≤ (c4 : Int) := by omega); (have own5 := own_mono (own_cut own4 (k := an + 1) (by omega) HSL.out) (show v1.heap.size ≤ _ by (first | exact Nat.le_refl _ | (simp; done) | (simp; omega)))); (have hby : Below v1.heap.size v1 y1 := (by repeat (first | assumption | exact Below.refl _ _ | refine Below.drew ?_ | (refine below_alloc _ ?_ ?_; focus (first | omega | (simp; done) | (simp; omega) | (simp at *; omega))) | (refine below_set _ ?_ ?_; focus (first | omega | (simp; done) | (simp; omega) | (simp at *; omega))) | refine below_drewN ?_ _ | (refine below_call (by assumption) ?_ ?_; focus (first | omega | (simp; done) | (simp; omega) | (simp at *; omega))) | (refine below_call' (by assumption) ?_ ?_; focus (first | omega | (simp; done) | (simp; omega) | (simp at *; omega)))))); (have hsy := hby.size); (try have hnb : y1.heap[v1.heap.size]? = some (.cells #[.int .i64 sq, .int .i64 wv] 45 (0, 0)) := blk_below' hb4 (blk_new (by simp)))))
            | (refine step_appSlab _ rfl (.tmp 64) (.tmp 69) rfl v1.heap.size (some ⟨g4, 0, none⟩) (an + 1) c4 (cellsOf 2 slbC ((smS fs ths).take (an + 1))) rfl (own_below own5 (by repeat (first | assumption | exact Below.refl _ _ | refine Below.drew ?_ | (refine below_alloc _ ?_ ?_; focus (first | omega | (simp; done) | (simp; omega) | (simp at *; omega))) | (refine below_set _ ?_ ?_; focus (first | omega | (simp; done) | (simp; omega) | (simp at *; omega))) | refine below_drewN ?_ _ | (refine below_call (by assumption) ?_ ?_; focus (first | omega | (simp; done) | (simp; omega) | (simp at *; omega))) | (refine below_call' (by assumption) ?_ ?_; focus (first | omega | (simp; done) | (simp; omega) | (simp at *; omega)))))) (some ⟨_, 0, none⟩) 1 1 (cellsOf 2 slbC [⟨sq, wv⟩]) rfl rfl (fun e => by cases e) (fun ad e => by cases e; exact RowsAt.news (rows_blk (m := 2) (f := slbC) (l := [⟨sq, wv⟩]) (cs := #[.int .i64 sq, .int .i64 wv]) (T := 45) (fr := (0, 0)) (by first | exact blk_new rfl | exact hnb) rfl) (by decide)) (cellsOf_one slbC_one (by decide) _) (by omega) (by first | (simp; done) | (simp; omega) | omega) ?_; intro A5 c5 y2 own6 hg6 halt6; (have hby2 : Below v1.heap.size v1 y2 := grown_below hg6 (own5.lt _ rfl).1 (Nat.le_refl _) (by repeat (first | assumption | exact Below.refl _ _ | refine Below.drew ?_ | (refine below_alloc _ ?_ ?_; focus (first | omega | (simp; done) | (simp; omega) | (simp at *; omega))) | (refine below_set _ ?_ ?_; focus (first | omega | (simp; done) | (simp; omega) | (simp at *; omega))) | refine below_drewN ?_ _ | (refine below_call (by assumption) ?_ ?_; focus (first | omega | (simp; done) | (simp; omega) | (simp at *; omega))) | (refine below_call' (by assumption) ?_ ?_; focus (first | omega | (simp; done) | (simp; omega) | (simp at *; omega)))))); (obtain ⟨g9, c9, hv9, g90, g91⟩ := own6.form (by omega)); (injection hv9 with hq1 hq2 hq3); (subst hq1 hq3))
            | fail)
        all_goals (go_wp2_with (fail); go_meet; exact ⟨_, _, rfl, (own6.lt _ rfl).1, hby2, by rw [cellsOf_append]; exact own6⟩)
      case rest =>
        obtain ⟨g9, c9, rfl, hg9, hb9, own9⟩ := hcut
        clear HCP hSl
        have hcs := own_cap' own1
        replace x0 := cell_below' hb9 x0
        replace x1 := cell_below' hb9 x1
        replace x2 := cell_below' hb9 x2
        replace x4 := cell_below' hb9 x4
        replace p0 := cell_below' hb9 p0
        replace p1 := cell_below' hb9 p1
        replace t0 := cell_below' hb9 t0
        replace t1 := cell_below' hb9 t1
        replace t2 := cell_below' hb9 t2
        replace own1 := own_below own1 hb9
        replace own2 := own_below own2 hb9
        have hq9 := hb9.size
        replace pf0 := frozen_below hb9 (show _ from zp) pf0
        replace pf1 := frozen_below hb9 (show _ from zp) pf1
        have hbv9 : Below w.heap.size w wc := hbv.trans (hb9.mono (by omega))
        clear hb9 x3 x5 x6
        have hSw : SlabsAt wc (some ⟨gs, 0, none⟩) (smS fs ths) := rowsAt_of_own own1 HSL.out (by decide)
        have hrd := rowsAt_drop hSw (an + 1)
        rw [Nat.zero_add] at hrd
        have hcne : ¬ c' = an + 1 := by omega
        have hs0 : (0 : Int) ≤ (an : Int) + 1 := by omega
        have hs1 : (an : Int) + 1 ≤ (fs.length : Int) := by omega
        have hs2 : (fs.length : Int) ≤ (c' : Int) := by omega
        have hne9 : some w2.heap.size ≠ Value.ownBlock (.slice (some ⟨g9, 0, none⟩) (an + 2) c9) := by simp [Value.ownBlock]; omega
        have hll : an + 2 + (fs.length - (an + 1)) = lp.length := by
          rw [← HLP.out, vly_pos (by rw [HSL.out]; exact hva) hvw]
          simp [HSL.out]
          omega
        have HLL := Lib.hid hll
        have HLQ := Lib.hid ((vly_pos (S := smS fs ths) (sq := sq) (by rw [HSL.out]; exact hva) hvw).symm.trans HLP.out)
        clear hll
        go_upto_region 9 with (fail)
        go_cut [] from 58 to 81 (fun wx => ∃ (g5 c5 : Nat) (y2 : World), wx = (y2.setCell ⟨w2.heap.size, 0, none⟩ (.int .i64 base)).setCell ⟨w2.heap.size, 1, none⟩ (.slice (some ⟨g5, 0, none⟩) lp.length c5) ∧ y2.ownsRow v1.heap.size 45 2 (.slice (some ⟨g5, 0, none⟩) lp.length c5) lp.length (cellsOf 2 slbC lp) ∧ wc.drew.grownBy y2 (Value.ownBlock (.slice (some ⟨g9, 0, none⟩) (an + 2) c9)) ∧ Below v1.heap.size wc y2 ∧ v1.heap.size ≤ g5)
        case first =>
          go_region_law (refine step_appSlab _ rfl (.tmp 73) (.tmp 79) rfl v1.heap.size (some ⟨g9, 0, none⟩) (an + 2) c9 _ rfl (own_below own9 (by repeat (first | assumption | exact Below.refl _ _ | refine Below.drew ?_ | (refine below_alloc _ ?_ ?_; focus (first | omega | (simp; done) | (simp; omega) | (simp at *; omega))) | (refine below_set _ ?_ ?_; focus (first | omega | (simp; done) | (simp; omega) | (simp at *; omega))) | refine below_drewN ?_ _ | (refine below_call (by assumption) ?_ ?_; focus (first | omega | (simp; done) | (simp; omega) | (simp at *; omega))) | (refine below_call' (by assumption) ?_ ?_; focus (first | omega | (simp; done) | (simp; omega) | (simp at *; omega)))))) (some ⟨gs, (an + 1) * 2, none⟩) (fs.length - (an + 1)) (c' - (an + 1)) (cellsOf 2 slbC ((smS fs ths).drop (an + 1))) rfl (by rw [cellsOf_length, List.length_drop, HSL.out]) (fun e => by cases e) (fun ad e => by cases e; exact RowsAt.news (RowsAt.below hrd (by repeat (first | assumption | exact Below.refl _ _ | refine Below.drew ?_ | (refine below_alloc _ ?_ ?_; focus (first | omega | (simp; done) | (simp; omega) | (simp at *; omega))) | (refine below_set _ ?_ ?_; focus (first | omega | (simp; done) | (simp; omega) | (simp at *; omega))) | refine below_drewN ?_ _ | (refine below_call (by assumption) ?_ ?_; focus (first | omega | (simp; done) | (simp; omega) | (simp at *; omega))) | (refine below_call' (by assumption) ?_ ?_; focus (first | omega | (simp; done) | (simp; omega) | (simp at *; omega)))))) (by decide)) (cellsOf_one slbC_one (by decide) _) (by omega) (by first | (simp; done) | (simp; omega) | omega) ?_; intro A5 c5 y2 own6 hg6 halt6; (rw [← cellsOf_append] at own6); (have hby2 : Below v1.heap.size wc y2 := grown_below hg6 hg9 hq9 (by repeat (first | assumption | exact Below.refl _ _ | refine Below.drew ?_ | (refine below_alloc _ ?_ ?_; focus (first | omega | (simp; done) | (simp; omega) | (simp at *; omega))) | (refine below_set _ ?_ ?_; focus (first | omega | (simp; done) | (simp; omega) | (simp at *; omega))) | refine below_drewN ?_ _ | (refine below_call (by assumption) ?_ ?_; focus (first | omega | (simp; done) | (simp; omega) | (simp at *; omega))) | (refine below_call' (by assumption) ?_ ?_; focus (first | omega | (simp; done) | (simp; omega) | (simp at *; omega)))))); (have hgr0 := cell_below (p := ⟨w2.heap.size, 0, none⟩) hby2 p0 zp); (have hgr1 := cell_below (p := ⟨w2.heap.size, 1, none⟩) hby2 p1 zp); (have hgr4 := cell_below (p := ⟨w.heap.size, 4, none⟩) hby2 x4 zx); (have hgf0 := frozen_below (p := ⟨w2.heap.size, 0, none⟩) hby2 zp pf0); (have hgf1 := frozen_below (p := ⟨w2.heap.size, 1, none⟩) hby2 zp pf1); (obtain ⟨g5, c5', hv5, g50, g51⟩ := own6.form (by omega)); (injection hv5 with hq1 hq2 hq3); (subst hq1 hq3))
          all_goals
            rw [HLQ.out, HLL.out] at own6
            go_wp2_with (fail)
            go_meet
            rw [HLL.out]
            exact ⟨g5, c5, y2, rfl, own6, hg6, hby2, (own6.lt _ rfl).1⟩
        case rest =>
          rename_i wc9
          obtain ⟨g5, c5, y2, rfl, own6, hg6, hby2, g50⟩ := hcut
          have hgr0 := cell_below (p := ⟨w2.heap.size, 0, none⟩) hby2 p0 zp
          have hgr1 := cell_below (p := ⟨w2.heap.size, 1, none⟩) hby2 p1 zp
          go_wp2_with (fail)
          go_meet
          exact ⟨g5, c5, by omega, below_set _ (by show w.heap.size ≤ w2.heap.size; omega) (below_set _ (by show w.heap.size ≤ w2.heap.size; omega) (hbv9.trans (hby2.mono (by omega)))), by have := hby2.size; simp; omega, (cell_far (by show w2.heap.size ≠ w.heap.size; omega) (cell_far (by show w2.heap.size ≠ w.heap.size; omega) (cell_below (p := ⟨w.heap.size, 0, none⟩) hby2 x0 zx))), (cell_far (by show w2.heap.size ≠ w.heap.size; omega) (cell_far (by show w2.heap.size ≠ w.heap.size; omega) (cell_below (p := ⟨w.heap.size, 1, none⟩) hby2 x1 zx))), (cell_far (by show w2.heap.size ≠ w.heap.size; omega) (cell_far (by show w2.heap.size ≠ w.heap.size; omega) (cell_below (p := ⟨w.heap.size, 2, none⟩) hby2 x2 zx))), (World.cell?_setCell_other _ _ _ _ (by simp)).trans (cell_same hgr0), cell_same ((World.cell?_setCell_other _ _ _ _ (by simp)).trans hgr1), (cell_far (by show w2.heap.size ≠ w2.heap.size + 1; omega) (cell_far (by show w2.heap.size ≠ w2.heap.size + 1; omega) (cell_below (p := ⟨w2.heap.size + 1, 0, none⟩) hby2 t0 zt))), (cell_far (by show w2.heap.size ≠ w2.heap.size + 1; omega) (cell_far (by show w2.heap.size ≠ w2.heap.size + 1; omega) (cell_below (p := ⟨w2.heap.size + 1, 1, none⟩) hby2 t1 zt))), (cell_far (by show w2.heap.size ≠ w2.heap.size + 1; omega) (cell_far (by show w2.heap.size ≠ w2.heap.size + 1; omega) (cell_below (p := ⟨w2.heap.size + 1, 2, none⟩) hby2 t2 zt))), own_mono (ownsRow_setCell_below (ownsRow_setCell_below own6 (by show w2.heap.size < _; omega) _) (by show w2.heap.size < _; omega) _) (by omega), own_set_ne (own_set_ne (World.ownsRow.kept (own_below own2 (Below.drew (Below.refl _ _))) hg6 (.inr (by simp [Value.ownBlock]; omega))) (by simp [Value.ownBlock]; omega) _) (by simp [Value.ownBlock]; omega) _⟩
  case rest =>
  clear x0 x1 x2 x3 x4 x5 x6 p0 p1 pf0 pf1 t0 t1 t2 own1 own2 hbv
  obtain ⟨ga, cP, hga, hbw, hsv2, x0, x1, x2, p0, p1, t0, t1, t2, own1, own2⟩ := hcut
  obtain ⟨v, rfl⟩ : ∃ v, v = wc := ⟨_, rfl⟩
  have hzv : w.heap.size < v.heap.size := by omega
  have hzp : w2.heap.size < v.heap.size := by omega
  have hzt : w2.heap.size + 1 < v.heap.size := by omega
  have hzgt : gt < v.heap.size := by omega
  have hzga : ga < v.heap.size := (own1.lt _ rfl).2
  have hga0 : w1.heap.size ≤ ga := (own1.lt _ rfl).1
  have hcP := own_cap' own1
  have hlp1 : lp.length ≤ 100 := by have := HOK.out.n1; omega
  have hnt := HS.out.nt
  have hnw := HS.out.nw
  have HNW := Lib.hid hnw
  have HNT := Lib.hid hnt
  have hLl := smL_len base lp (fs := fs) (wds := wds) hnw
  have hTl : (smT fs).length = fs.length := by unfold smT; rw [List.length_map]
  have HLL := Lib.hid hLl
  have HTL := Lib.hid hTl
  have hcp : ∀ W, SlabsAt W (some ⟨ga, 0, none⟩) lp → Calls Try.prog 17 #[.agg #[.int .i64 base, .slice (some ⟨ga, 0, none⟩) lp.length cP]] W fun e w' => ∃ A' c', e = .returned (.agg #[.int .i64 base, .slice A' lp.length c']) ∧ w'.ownsRow W.heap.size 45 2 (.slice A' lp.length c') lp.length (cellsOf 2 slbC lp) ∧ Below W.heap.size W w' := fun W hW => Copy_any base (some ⟨ga, 0, none⟩) lp cP W hlp1 hW
  have HCP := Lib.hid hcp
  clear hcp hnt hnw hLl hTl HBV zx zp zt zgs hsv HV HSL
  go_wp2
  go_loopw [10, 11] (fun h i wr => ∃ (k : Nat) (H' : Option Addr) (ch : Nat), k ≤ fs.length ∧ i = .int .i64 k ∧ h = .slice H' k ch ∧ wr.cell? ⟨w.heap.size, 0, none⟩ = some (.slice A fs.length ca) ∧ wr.cell? ⟨w.heap.size, 1, none⟩ = some (.slice B fs.length cb) ∧ wr.cell? ⟨w.heap.size, 2, none⟩ = some (.slice C fs.length cc) ∧ wr.cell? ⟨w2.heap.size, 0, none⟩ = some (.int .i64 base) ∧ wr.cell? ⟨w2.heap.size, 1, none⟩ = some (.slice (some ⟨ga, 0, none⟩) lp.length cP) ∧ wr.cell? ⟨w2.heap.size + 1, 0, none⟩ = some (.slice (some ⟨gt, 0, none⟩) fs.length d') ∧ wr.cell? ⟨w2.heap.size + 1, 1, none⟩ = some (.int .i64 an) ∧ wr.cell? ⟨w2.heap.size + 1, 2, none⟩ = some (.int .i64 width) ∧ wr.ownsRow w1.heap.size 45 2 (.slice (some ⟨ga, 0, none⟩) lp.length cP) lp.length (cellsOf 2 slbC lp) ∧ wr.ownsRow w1.heap.size 75 3 (.slice (some ⟨gt, 0, none⟩) fs.length d') fs.length (cellsOf 3 ptC (mix (smL base lp fs wds) (smT fs) k)) ∧ wr.ownsRow v.heap.size 3 1 (.slice H' k ch) k (cellsOf 1 intC ((fs.map (reflAt1 base lp)).take k)) ∧ Below w.heap.size w wr ∧ v.heap.size ≤ wr.heap.size) (fun _ i _ => fs.length - (intOf i).toNat)
  case atStart => exact ⟨0, none, 0, Nat.zero_le _, rfl, rfl, x0, x1, x2, p0, p1, t0, t1, t2, own1, own2, World.ownsRow_nil _ _ _ _, hbw, Nat.le_refl _⟩
  case round =>
    clear x0 x1 x2 p0 p1 t0 t1 t2 own1 own2 hbw
    obtain ⟨k, H', ch, hk, rfl, rfl, x0, x1, x2, p0, p1, t0, t1, t2, own1, own2, ownH, hbw, hsv3⟩ := hrel
    have zr0 : w.heap.size < wr.heap.size := by omega
    have zr1 : w2.heap.size < wr.heap.size := by omega
    have zr2 : w2.heap.size + 1 < wr.heap.size := by omega
    by_cases hlt : k < fs.length
    ·
      obtain ⟨bb, oo, rfl, hbb, e0⟩ := IntsAt.at_ hA hlt
      have hkw : k < wds.length := by have := HNW.out; omega
      obtain ⟨bc, oc, rfl, hbc, e2⟩ := IntsAt.at_ hC hkw
      replace e0 := cell_below' hbw e0
      replace e2 := cell_below' hbw e2
      obtain ⟨hr0, hr1, hr2, hr3⟩ := HAT.out k hlt
      clear hr1 hr2 hr3
      have hbg := vat_big hr0
      have hone := thk_one hr0
      have hwd := HS.out.wd k hkw
      have hLk := smL_at base lp (fs := fs) (wds := wds) (by rw [HLL.out]; exact hlt) hlt hkw
      have hms := mix_set (P := smL base lp fs wds) (T := smT fs) (by rw [HLL.out, HTL.out]) (by rw [HTL.out]; exact hlt) (by rw [HLL.out]; exact hlt)
      have hma := mix_at (P := smL base lp fs wds) (T := smT fs) (k := k) (by rw [HLL.out, HTL.out]) (by rw [HTL.out]; exact hlt) (by rw [mix_len (by rw [HLL.out, HTL.out])]; rw [HTL.out]; exact hlt)
      have hTk : (smT fs)[k]'(by rw [HTL.out]; exact hlt) = ⟨fs[k], 0, 0⟩ := by simp [smT]
      rw [hTk] at hma
      rw [hLk] at hms
      unfold smPt at hms
      have hHt : (fs.map (reflAt1 base lp)).take (k + 1) = (fs.map (reflAt1 base lp)).take k ++ [reflAt1 base lp fs[k]] := by
        rw [take_snoc _ _ (by simpa using hlt), List.getElem_map]
      have hml : k < (mix (smL base lp fs wds) (smT fs) k).length := by rw [mix_len (by rw [HLL.out, HTL.out])]; rw [HTL.out]; exact hlt
      have hrf := fun A c W hW => ReflectedAt_any base A lp c fs[k] W hlp1 hW
      have hvt := fun A c W (hc : lp.length ≤ c) hW => VirtualAt_any base A lp c fs[k] W hlp1 hc hW
      rw [hr0] at hrf hvt
      have HMS := Lib.hid hms
      have HMA := Lib.hid hma
      have HHT := Lib.hid hHt
      have HRF := Lib.hid hrf
      have HVT := Lib.hid hvt
      clear hms hma hTk hHt hrf hvt hLk hr0
      generalize hlr2 : reflAt2 base lp fs[k] = r2 at *
      generalize reflAt1 base lp fs[k] = n at *
      generalize vatLo base lp fs[k] = vlo at *
      generalize vatHi base lp fs[k] = vhi at *
      generalize fs[k] = f at *
      generalize wds[k] = wd at *
      clear hlr2
      obtain ⟨n0', n1', n2', n3'⟩ := hone
      obtain ⟨wd0, wd1⟩ := hwd
      have hk0 : (0 : Int) ≤ (k : Int) := by omega
      have hk1 : (k : Int) < (fs.length : Int) := by omega
      go_upto_region 14 with (fail)
      have hSl : SlabsAt wr (some ⟨ga, 0, none⟩) lp := rowsAt_of_own own1 rfl (by decide)
      go_cut [12, 14] from 82 to 98 (fun s12 s14 wx => s12 = .int .i64 n ∧ s14 = .int .i64 0 ∧ Below wr.heap.size wr wx)
      case first =>
        go_region_held3 (fun w' => w'.cell? ⟨w2.heap.size, 0, none⟩ = some (.int .i64 base) ∧ w'.cell? ⟨w2.heap.size, 1, none⟩ = some (.slice (some ⟨ga, 0, none⟩) lp.length cP) ∧ w'.cell? ⟨w.heap.size, 0, none⟩ = some (.slice (some ⟨bb, oo, none⟩) fs.length ca) ∧ w'.cell? ⟨bb, oo + k, none⟩ = some (.int .i64 f))
          ((((try go_split_ands); (repeat' (apply And.intro)) <;> (repeat (first | (with_reducible assumption) | (with_reducible refine cell_drew ?_) | (with_reducible refine cell_alloc _ ?_) | (with_reducible refine cell_below' (by with_reducible assumption) ?_) | (with_reducible refine cell_far ?_ ?_; focus (first | omega | (simp; omega) | (simp; done))))))))
          (first
            | (go_at_call 17; ((with_reducible refine (HCP.out _ ?_).mono ?_); (focus (exact RowsAt.below hSl (by repeat (first | assumption | exact Below.refl _ _ | refine Below.drew ?_ | (refine below_alloc _ ?_ ?_; focus (first | omega | (simp; done) | (simp; omega) | (simp at *; omega))) | (refine below_set _ ?_ ?_; focus (first | omega | (simp; done) | (simp; omega) | (simp at *; omega))) | refine below_drewN ?_ _ | (refine below_call (by assumption) ?_ ?_; focus (first | omega | (simp; done) | (simp; omega) | (simp at *; omega))) | (refine below_call' (by assumption) ?_ ?_; focus (first | omega | (simp; done) | (simp; omega) | (simp at *; omega))))))); (rintro e y1 ⟨A4, c4, rfl, own4, hb4⟩)))
            | (go_at_call 16; ((with_reducible refine (HRF.out A4 c4 _ (RowsAt.below (rowsAt_of_own own4 rfl (by decide)) (by repeat (first | assumption | exact Below.refl _ _ | refine Below.drew ?_ | (refine below_alloc _ ?_ ?_; focus (first | omega | (simp; done) | (simp; omega) | (simp at *; omega))) | (refine below_set _ ?_ ?_; focus (first | omega | (simp; done) | (simp; omega) | (simp at *; omega))) | refine below_drewN ?_ _ | (refine below_call (by assumption) ?_ ?_; focus (first | omega | (simp; done) | (simp; omega) | (simp at *; omega))) | (refine below_call' (by assumption) ?_ ?_; focus (first | omega | (simp; done) | (simp; omega) | (simp at *; omega))))))).mono ?_); (rintro e y2 ⟨rfl, hb5⟩))))
        all_goals (go_wp2_with (fail); go_meet; exact ⟨rfl, rfl, (by repeat (first | assumption | exact Below.refl _ _ | refine Below.drew ?_ | (refine below_alloc _ ?_ ?_; focus (first | omega | (simp; done) | (simp; omega) | (simp at *; omega))) | (refine below_set _ ?_ ?_; focus (first | omega | (simp; done) | (simp; omega) | (simp at *; omega))) | refine below_drewN ?_ _ | (refine below_call (by assumption) ?_ ?_; focus (first | omega | (simp; done) | (simp; omega) | (simp at *; omega))) | (refine below_call' (by assumption) ?_ ?_; focus (first | omega | (simp; done) | (simp; omega) | (simp at *; omega)))))⟩)
      case rest =>
      obtain ⟨rfl, rfl, hbx⟩ := hcut
      replace x0 := cell_below' hbx x0
      replace x1 := cell_below' hbx x1
      replace x2 := cell_below' hbx x2
      replace p0 := cell_below' hbx p0
      replace p1 := cell_below' hbx p1
      replace t0 := cell_below' hbx t0
      replace t1 := cell_below' hbx t1
      replace t2 := cell_below' hbx t2
      replace e0 := cell_below' hbx e0
      replace e2 := cell_below' hbx e2
      replace own1 := own_below own1 hbx
      replace own2 := own_below own2 hbx
      replace ownH := own_below ownH hbx
      replace hSl := RowsAt.below hSl hbx
      have hzx := hbx.size
      replace hbw := hbw.trans (hbx.mono (by omega))
      clear hbx
      obtain ⟨u1, rfl⟩ : ∃ u1, u1 = wc := ⟨_, rfl⟩
      have hob1 := fun g (e : Value.ownBlock (.slice H' k ch) = some g) => (ownH.lt g e).2
      go_upto_region 15 with (fail)
      go_cut [15, 16] from 99 to 109 (fun s15 s16 wx => ∃ nb, s15 = .pointer (some ⟨nb, 0, none⟩) ∧ s16 = .int .i64 0 ∧ Below u1.heap.size u1 wx ∧ u1.heap.size ≤ nb ∧ nb < wx.heap.size ∧ wx.cell? ⟨nb, 0, none⟩ = some (.int .i64 vlo) ∧ wx.cell? ⟨nb, 1, none⟩ = some (.int .i64 vhi))
      case first =>
        go_region_held3 (fun w' => w'.cell? ⟨w2.heap.size, 0, none⟩ = some (.int .i64 base) ∧ w'.cell? ⟨w2.heap.size, 1, none⟩ = some (.slice (some ⟨ga, 0, none⟩) lp.length cP) ∧ w'.cell? ⟨w.heap.size, 0, none⟩ = some (.slice (some ⟨bb, oo, none⟩) fs.length ca) ∧ w'.cell? ⟨bb, oo + k, none⟩ = some (.int .i64 f))
          ((((try go_split_ands); (repeat' (apply And.intro)) <;> (repeat (first | (with_reducible assumption) | (with_reducible refine cell_drew ?_) | (with_reducible refine cell_alloc _ ?_) | (with_reducible refine cell_below' (by with_reducible assumption) ?_) | (with_reducible refine cell_far ?_ ?_; focus (first | omega | (simp; omega) | (simp; done))))))))
          (first
            | (go_at_call 17; (with_reducible refine (HCP.out _ ?_).mono ?_); (focus (exact RowsAt.below hSl (by repeat (first | assumption | exact Below.refl _ _ | refine Below.drew ?_ | (refine below_alloc _ ?_ ?_; focus (first | omega | (simp; done) | (simp; omega) | (simp at *; omega))) | (refine below_set _ ?_ ?_; focus (first | omega | (simp; done) | (simp; omega) | (simp at *; omega))) | refine below_drewN ?_ _ | (refine below_call (by assumption) ?_ ?_; focus (first | omega | (simp; done) | (simp; omega) | (simp at *; omega))) | (refine below_call' (by assumption) ?_ ?_; focus (first | omega | (simp; done) | (simp; omega) | (simp at *; omega))))))); rintro e w6 ⟨A6, c6, rfl, own6, hb6⟩; (have hy6 : u1.heap.size ≤ w6.heap.size := (by have := hb6.size; (try simp at this); omega)); (try have v0 : World.cell? w6 ⟨(u1).heap.size, 0, none⟩ = some (.int .i64 0) := cell_below' hb6 (cell_new (by simp) rfl)); (try have v1 : World.cell? w6 ⟨(u1).heap.size, 1, none⟩ = some (.int .i64 0) := cell_below' hb6 (cell_new (by simp) rfl)); (try have y0 : World.frozen? w6 ⟨(u1).heap.size, 0, none⟩ = false := frozen_below hb6 (by simp) (frozen_new (by simp))); (try have y1 : World.frozen? w6 ⟨(u1).heap.size, 1, none⟩ = false := frozen_below hb6 (by simp) (frozen_new (by simp))))
            | (go_at_call 18; refine (HVT.out A6 c6 _ (own_cap' own6) (RowsAt.below (rowsAt_of_own own6 rfl (by decide)) (by repeat (first | assumption | exact Below.refl _ _ | refine Below.drew ?_ | (refine below_alloc _ ?_ ?_; focus (first | omega | (simp; done) | (simp; omega) | (simp at *; omega))) | (refine below_set _ ?_ ?_; focus (first | omega | (simp; done) | (simp; omega) | (simp at *; omega))) | refine below_drewN ?_ _ | (refine below_call (by assumption) ?_ ?_; focus (first | omega | (simp; done) | (simp; omega) | (simp at *; omega))) | (refine below_call' (by assumption) ?_ ?_; focus (first | omega | (simp; done) | (simp; omega) | (simp at *; omega))))))).mono ?_; rintro e w7 ⟨rfl, hb7⟩; (have hy7 : w6.heap.size ≤ w7.heap.size := (by have := hb7.size; (try simp at this); omega)); (try replace y0 := frozen_below hb7 (World.block_lt_of_cell? _ _ v0) y0); (try replace y1 := frozen_below hb7 (World.block_lt_of_cell? _ _ v1) y1); (try replace v0 := cell_below' hb7 v0); (try replace v1 := cell_below' hb7 v1); (try have v0 : World.cell? w7 ⟨(w6).heap.size, 0, none⟩ = some (.int .i64 0) := cell_below' hb7 (cell_new (by simp) rfl)); (try have v1 : World.cell? w7 ⟨(w6).heap.size, 1, none⟩ = some (.int .i64 0) := cell_below' hb7 (cell_new (by simp) rfl)); (try have y0 : World.frozen? w7 ⟨(w6).heap.size, 0, none⟩ = false := frozen_below hb7 (by simp) (frozen_new (by simp))); (try have y1 : World.frozen? w7 ⟨(w6).heap.size, 1, none⟩ = false := frozen_below hb7 (by simp) (frozen_new (by simp)))))
        all_goals (go_wp2_with (fail))
        all_goals go_meet
        all_goals first
          | (exact ⟨_, rfl, rfl, (by repeat (first | assumption | exact Below.refl _ _ | refine Below.drew ?_ | (refine below_alloc _ ?_ ?_; focus (first | omega | (simp; done) | (simp; omega) | (simp at *; omega))) | (refine below_set _ ?_ ?_; focus (first | omega | (simp; done) | (simp; omega) | (simp at *; omega))) | refine below_drewN ?_ _ | (refine below_call (by assumption) ?_ ?_; focus (first | omega | (simp; done) | (simp; omega) | (simp at *; omega))) | (refine below_call' (by assumption) ?_ ?_; focus (first | omega | (simp; done) | (simp; omega) | (simp at *; omega))))), by omega, by simp, cell_new rfl rfl, cell_new rfl rfl⟩)
          | (exact ⟨_, rfl, rfl, (by repeat (first | assumption | exact Below.refl _ _ | refine Below.drew ?_ | (refine below_alloc _ ?_ ?_; focus (first | omega | (simp; done) | (simp; omega) | (simp at *; omega))) | (refine below_set _ ?_ ?_; focus (first | omega | (simp; done) | (simp; omega) | (simp at *; omega))) | refine below_drewN ?_ _ | (refine below_call (by assumption) ?_ ?_; focus (first | omega | (simp; done) | (simp; omega) | (simp at *; omega))) | (refine below_call' (by assumption) ?_ ?_; focus (first | omega | (simp; done) | (simp; omega) | (simp at *; omega))))), by omega, by simpa using World.block_lt_of_cell? _ _ v0, (set2 v0 v1).1, (set2 v0 v1).2⟩)
          | trace_state
      case rest =>
      obtain ⟨nb, rfl, rfl, hbx, hnb0, hnb1, V0, V1⟩ := hcut
      replace x0 := cell_below' hbx x0
      replace x1 := cell_below' hbx x1
      replace x2 := cell_below' hbx x2
      replace p0 := cell_below' hbx p0
      replace p1 := cell_below' hbx p1
      replace t0 := cell_below' hbx t0
      replace t1 := cell_below' hbx t1
      replace t2 := cell_below' hbx t2
      replace e0 := cell_below' hbx e0
      replace e2 := cell_below' hbx e2
      replace own1 := own_below own1 hbx
      replace own2 := own_below own2 hbx
      replace ownH := own_below ownH hbx
      have hzy := hbx.size
      replace hbw := hbw.trans (hbx.mono (by omega))
      clear hbx hSl HCP HRF HVT
      obtain ⟨u2, rfl⟩ : ∃ u2, u2 = wc := ⟨_, rfl⟩
      have hwt1 : ∀ W, Calls Try.prog 23 #[.int .i64 vlo, .int .i64 0, .int .i64 1099511627776] W fun e w' => e = .returned (.bool true) ∧ W = w' := fun W => (by have := Within_any vlo 0 1099511627776 W; rwa [show withinB vlo 0 1099511627776 = true from withinB_true.2 ⟨by omega, by omega⟩] at this)
      have hwt2 : ∀ W, Calls Try.prog 23 #[.int .i64 vhi, .int .i64 vlo, .int .i64 1099511627776] W fun e w' => e = .returned (.bool true) ∧ W = w' := fun W => (by have := Within_any vhi vlo 1099511627776 W; rwa [show withinB vhi vlo 1099511627776 = true from withinB_true.2 ⟨by omega, by omega⟩] at this)
      have HW1 := Lib.hid hwt1
      have HW2 := Lib.hid hwt2
      clear hwt1 hwt2
      have hob := fun g (e : Value.ownBlock (.slice H' k ch) = some g) => (ownH.lt g e).1
      have hd0 : some w.heap.size ≠ Value.ownBlock (.slice H' k ch) := fun e => by have := hob _ e.symm; omega
      have hd1 : some w2.heap.size ≠ Value.ownBlock (.slice H' k ch) := fun e => by have := hob _ e.symm; omega
      have hd2 : some (w2.heap.size + 1) ≠ Value.ownBlock (.slice H' k ch) := fun e => by have := hob _ e.symm; omega
      have hd3 : some bb ≠ Value.ownBlock (.slice H' k ch) := fun e => by have := hob _ e.symm; omega
      have hd4 : some bc ≠ Value.ownBlock (.slice H' k ch) := fun e => by have := hob _ e.symm; omega
      have hd5 : some ga ≠ Value.ownBlock (.slice H' k ch) := fun e => by have := hob _ e.symm; omega
      have hd6 : some gt ≠ Value.ownBlock (.slice H' k ch) := fun e => by have := hob _ e.symm; omega
      have hd7 : some nb ≠ Value.ownBlock (.slice H' k ch) := fun e => by have := hob1 _ e.symm; omega
      clear hob1
      go_upto_region 18 with (first | (go_at_call 23; with_reducible refine (HW1.out _).mono ?_; rintro e w' ⟨rfl, rfl⟩) | (go_at_call 23; with_reducible refine (HW2.out _).mono ?_; rintro e w' ⟨rfl, rfl⟩))
      go_upto_region 19 with (at_builtin; (
        refine wpList_appInt _ rfl (.tmp 130) (.tmp 132) rfl v.heap.size H' k ch (cellsOf 1 intC ((fs.map (reflAt1 base lp)).take k)) rfl (ownH.alloc _) (some ⟨u2.heap.size, 0, none⟩) 1 1 (cellsOf 1 intC [n]) rfl rfl (fun e => by cases e) (fun ad e => by cases e; exact RowsAt.news (rows_blk (m := 1) (f := intC) (l := [n]) (blk_new (by simp)) rfl) (by decide)) (cellsOf_one intC_one (by decide) _) (by omega) (by simp; omega) ?_
        intro H4 c5 w5 ownH5 hg halt
        rw [← cellsOf_append, ← HHT.out] at ownH5))
      replace x0 := cell_grown hg (cell_alloc _ x0) hd0
      replace x1 := cell_grown hg (cell_alloc _ x1) hd0
      replace x2 := cell_grown hg (cell_alloc _ x2) hd0
      replace p0 := cell_grown hg (cell_alloc _ p0) hd1
      replace p1 := cell_grown hg (cell_alloc _ p1) hd1
      replace t0 := cell_grown hg (cell_alloc _ t0) hd2
      replace t1 := cell_grown hg (cell_alloc _ t1) hd2
      replace t2 := cell_grown hg (cell_alloc _ t2) hd2
      replace e0 := cell_grown hg (cell_alloc _ e0) hd3
      replace e2 := cell_grown hg (cell_alloc _ e2) hd4
      replace V0 := cell_grown hg (cell_alloc _ V0) hd7
      replace V1 := cell_grown hg (cell_alloc _ V1) hd7
      replace own1 := (own1.alloc (.cells #[.int .i64 n] 3)).kept hg (.inr hd5)
      replace own2 := (own2.alloc (.cells #[.int .i64 n] 3)).kept hg (.inr hd6)
      replace hbw := below_own (below_alloc _ (by omega) hbw) hg (ownH.alloc _) (by omega) (by simp; omega)
      have hz5 := hg.size
      simp at hz5
      have hgt5 : ∀ g, Value.ownBlock (.slice H4 (k + 1) c5) = some g → v.heap.size ≤ g := fun g e => (ownH5.lt g e).1
      clear hg halt hd0 hd1 hd2 hd3 hd4 hd5 hd6 hd7 hob ownH HW1 HW2
      obtain ⟨c0', c1', c2', y1', y2'⟩ := ownP_at own2 hlt hml
      have zq0 : w.heap.size < w5.heap.size := by omega
      have zq1 : w2.heap.size + 1 < w5.heap.size := by omega
      have zq2 : bb < w5.heap.size := by omega
      have zq3 : bc < w5.heap.size := by omega
      have zq4 : gt < w5.heap.size := by omega
      have zq5 : nb < w5.heap.size := by omega
      (refine region_extx 21 (by kernel_rfl) (by kernel_rfl) fun hx => ?_; simp only [List.take_succ_cons, List.take_zero, List.drop_succ_cons, List.drop_zero]; (repeat (any_goals (first | go_big_quiet_step (fail) | quiet_step (fail)))))
      (refine wpQuiet_nil ?_; clear hx; intro u; have hbw6 := ext_bel _ u; have hxw6 := ext_cell _ u; generalize ext _ u = w6 at *; clear u; have hsw6 := hbw6.size; (try simp at hsw6))
      replace x0 := cell_below' hbw6 x0
      replace x1 := cell_below' hbw6 x1
      replace x2 := cell_below' hbw6 x2
      replace p0 := cell_below' hbw6 p0
      replace p1 := cell_below' hbw6 p1
      replace t0 := cell_below' hbw6 t0
      replace t1 := cell_below' hbw6 t1
      replace t2 := cell_below' hbw6 t2
      replace own1 := own_below own1 hbw6
      replace own2 := own_below own2 hbw6
      replace ownH5 := own_below ownH5 hbw6
      replace hbw := hbw.trans (hbw6.mono (by omega))
      have hz6 := hbw6.size
      clear hbw6 hxw6
      obtain ⟨c0', c1', c2', y1', y2'⟩ := ownP_at own2 hlt hml
      go_wp2_with (fail)
      have hmx : (if wd < vlo then vlo - wd else 0) = maxZ (vlo - wd) := by unfold maxZ; split <;> split <;> omega
      rw [hmx]
      have hP := ownP_set own2 (s := k) hml (maxZ (vlo - wd)) (vhi + wd)
      simp only [HMA.out] at hP
      rw [HMS.out] at hP
      have cS : ∀ {b o : Nat} {x : Value}, gt ≠ b → w6.cell? ⟨b, o, none⟩ = some x → ((w6.setCell ⟨gt, k * 3 + 1, none⟩ (.int .i64 (maxZ (vlo - wd)))).setCell ⟨gt, k * 3 + 1 + 1, none⟩ (.int .i64 (vhi + wd))).cell? ⟨b, o, none⟩ = some x := fun h c => cell_far h (cell_far h c)
      have hgH : some gt ≠ Value.ownBlock (.slice H4 (k + 1) c5) := fun e => by have := hgt5 _ e.symm; omega
      have hgA : some gt ≠ Value.ownBlock (.slice (some ⟨ga, 0, none⟩) lp.length cP) := by simp [Value.ownBlock]; omega
      exact ⟨⟨k + 1, H4, c5, by omega, by go_num, rfl, cS (by omega) x0, cS (by omega) x1, cS (by omega) x2, cS (by omega) p0, cS (by omega) p1, cS (by omega) t0, cS (by omega) t1, cS (by omega) t2, own_set_ne (own_set_ne own1 hgA _) hgA _, hP, own_set_ne (own_set_ne ownH5 hgH _) hgH _, below_set _ (by show _ ≤ gt; omega) (below_set _ (by show _ ≤ gt; omega) hbw), by simp; omega⟩, by simp [intOf]; omega⟩
    · obtain rfl : k = fs.length := by omega
      have hme : mix (smL base lp fs wds) (smT fs) fs.length = smL base lp fs wds := by
        have := mix_end (P := smL base lp fs wds) (T := smT fs) (by rw [HLL.out, HTL.out])
        rwa [HTL.out] at this
      have hmt : (fs.map (reflAt1 base lp)).take fs.length = fs.map (reflAt1 base lp) := List.take_of_length_le (by simp)
      rw [hme] at own2
      rw [hmt] at ownH
      have hsd := HSAID.out (smL base lp fs wds) HLL.out (fun i hi hf hw => smL_at base lp hi hf hw)
      have hml : (fs.map (reflAt1 base lp)).length = fs.length := by simp
      have hmg : ∀ i (hi : i < (fs.map (reflAt1 base lp)).length) (hf : i < fs.length), (fs.map (reflAt1 base lp))[i] = reflAt1 base lp fs[i] := fun i hi hf => List.getElem_map ..
      have HSD := Lib.hid hsd
      have HML := Lib.hid hml
      have HMG := Lib.hid hmg
      have hll := HLL.out
      clear hme hmt hsd hml hmg HSAID HAT HLL HTL HCP
      generalize smL base lp fs wds = L at *
      have HLL := Lib.hid hll
      have hPt : PtsAt wr (some ⟨gt, 0, none⟩) L := rowsAt_of_own own2 hll (by decide)
      have hHs : IntsAt wr H' (fs.map (reflAt1 base lp)) := rowsAt_of_own ownH HML.out (by decide)
      generalize fs.map (reflAt1 base lp) = HL at *
      clear own1 own2 ownH hll p0 p1
      have hte : ∀ W, PtsAt W (some ⟨gt, 0, none⟩) L → Calls Try.prog 37 #[.agg #[.slice (some ⟨gt, 0, none⟩) fs.length d', .int .i64 an, .int .i64 width]] W fun e w' => e = .returned (.int .i64 (chkTE L an width)) ∧ Below W.heap.size W w' := fun W hW => by
        have h := TraceErr_any (some ⟨gt, 0, none⟩) L d' an width W (by rw [HLL.out]; omega) hW
        rwa [HLL.out] at h
      have hct : ∀ W, PtsAt W (some ⟨gt, 0, none⟩) L → Calls Try.prog 29 #[.agg #[.slice (some ⟨gt, 0, none⟩) fs.length d', .int .i64 an, .int .i64 width]] W fun e w' => ∃ A' c', e = .returned (.agg #[.slice A' fs.length c', .int .i64 an, .int .i64 width]) ∧ w'.ownsRow W.heap.size 75 3 (.slice A' fs.length c') fs.length (cellsOf 3 ptC L) ∧ Below W.heap.size W w' := fun W hW => by
        have h := CopyTrace_any (some ⟨gt, 0, none⟩) L d' an width W (by rw [HLL.out]; omega) hW
        unfold CopyTPost at h
        rwa [HLL.out] at h
      have HTE := Lib.hid hte
      have HCT := Lib.hid hct
      clear hte hct
      go_wp2_with (fail)
      refine (HTE.out _ hPt).mono ?_
      rintro e y1 ⟨rfl, hb1⟩
      by_cases hT : chkTE L an width = 0
      rotate_left 1
      · have hT1 : (chkTE L an width == 0) = false := by simpa using hT
        have hT2 : (chkTE L an width != 0) = true := by simpa using hT
        clear hT
        go_wp2
        go_ret
        exact ⟨rfl, (by repeat (first | assumption | exact Below.refl _ _ | refine Below.drew ?_ | (refine below_alloc _ ?_ ?_; focus (first | omega | (simp; done) | (simp; omega) | (simp at *; omega))) | (refine below_set _ ?_ ?_; focus (first | omega | (simp; done) | (simp; omega) | (simp at *; omega))) | refine below_drewN ?_ _ | (refine below_call (by assumption) ?_ ?_; focus (first | omega | (simp; done) | (simp; omega) | (simp at *; omega))) | (refine below_call' (by assumption) ?_ ?_; focus (first | omega | (simp; done) | (simp; omega) | (simp at *; omega)))))⟩
      obtain ⟨o, hlam, hol, hoth, hyl, hyh⟩ := HSD.out hT
      rw [hT]
      have HT := Lib.hid hT
      have ho1 : lamdE L an width = 0 := by unfold lamdE; rw [if_neg (by rw [hT]; decide), hlam]; rfl
      have ho2 : lamdOut L an width = o := by unfold lamdOut; rw [if_neg (by rw [hT]; decide), hlam]
      have ho3 : lamdAt L an width = 0 := by unfold lamdAt; rw [if_neg (by rw [hT]; decide), hlam]
      have ho4 : htsV L an width = hts L an width o := by unfold htsV; rw [if_pos ho1, hlam]
      have hla : ∀ A c W, fs.length ≤ c → PtsAt W A L → Calls Try.prog 30 #[.agg #[.slice A fs.length c, .int .i64 an, .int .i64 width]] W fun e w' => ∃ A' c', e = .returned (.tuple #[.slice A' o.length c', .int .i64 0, .int .i64 0]) ∧ w'.ownsRow W.heap.size 32 2 (.slice A' o.length c') o.length (cellsOf 2 rngC o) ∧ Below W.heap.size W w' := fun A c W hc hW => by
        have h := Laminated_any A L c an width W (by rw [HLL.out]; omega) (by rw [HLL.out]; exact hc) hW
        unfold LamdPost at h
        rwa [HLL.out, ho1, ho2, ho3] at h
      have hhe : ∀ A c W, fs.length ≤ c → PtsAt W A L → Calls Try.prog 31 #[.agg #[.slice A fs.length c, .int .i64 an, .int .i64 width]] W fun e w' => ∃ A' c', e = .returned (.tuple #[.slice A' (hts L an width o).length c', .int .i64 0]) ∧ w'.ownsRow W.heap.size 32 2 (.slice A' (hts L an width o).length c') (hts L an width o).length (cellsOf 2 rngC (hts L an width o)) ∧ Below W.heap.size W w' := fun A c W hc hW => by
        have h := HeightsOf_any A L c an width W (by rw [HLL.out]; omega) (by rw [HLL.out]; exact hc) hW
        unfold HtsPost at h
        rwa [HLL.out, ho1, ho4] at h
      have HLA := Lib.hid hla
      have HHE := Lib.hid hhe
      have HLAM := Lib.hid hlam
      have HOTH := Lib.hid hoth
      have HYH := Lib.hid hyh
      clear hT ho1 ho2 ho3 ho4 hla hhe hlam hoth hyh HSD HTE
      generalize hts L an width o = Y at *
      replace x0 := cell_below' hb1 x0
      replace x1 := cell_below' hb1 x1
      replace x2 := cell_below' hb1 x2
      replace t0 := cell_below' hb1 t0
      replace t1 := cell_below' hb1 t1
      replace t2 := cell_below' hb1 t2
      replace hPt := RowsAt.below hPt hb1
      replace hHs := RowsAt.below hHs hb1
      have hz1' := hb1.size
      replace hbw := hbw.trans (hb1.mono (by omega))
      clear hb1
      go_wp2_with (fail)
      refine (HCT.out _ hPt).mono ?_
      rintro e y2 ⟨A2, c2, rfl, own2, hb2⟩
      go_wp2_with (fail)
      refine (HLA.out A2 c2 _ (own_cap' own2) (rowsAt_of_own own2 HLL.out (by decide))).mono ?_
      rintro e y3 ⟨A3, c3, rfl, own3, hb3⟩
      have hO : RngsAt y3 A3 o := rowsAt_of_own own3 rfl (by decide)
      have hb23 : Below y1.heap.size y1 y3 := (by repeat (first | assumption | exact Below.refl _ _ | refine Below.drew ?_ | (refine below_alloc _ ?_ ?_; focus (first | omega | (simp; done) | (simp; omega) | (simp at *; omega))) | (refine below_set _ ?_ ?_; focus (first | omega | (simp; done) | (simp; omega) | (simp at *; omega))) | refine below_drewN ?_ _ | (refine below_call (by assumption) ?_ ?_; focus (first | omega | (simp; done) | (simp; omega) | (simp at *; omega))) | (refine below_call' (by assumption) ?_ ?_; focus (first | omega | (simp; done) | (simp; omega) | (simp at *; omega)))))
      replace x0 := cell_below' hb23 x0
      replace x1 := cell_below' hb23 x1
      replace x2 := cell_below' hb23 x2
      replace t0 := cell_below' hb23 t0
      replace t1 := cell_below' hb23 t1
      replace t2 := cell_below' hb23 t2
      replace hPt := RowsAt.below hPt hb23
      replace hHs := RowsAt.below hHs hb23
      have hz3' := hb23.size
      replace hbw := hbw.trans (hb23.mono (by omega))
      clear hb2 hb3 hb23 own2 own3
      go_wp2_with (fail)
      refine (HCT.out _ hPt).mono ?_
      rintro e y4 ⟨A4, c4, rfl, own4, hb4⟩
      go_wp2_with (fail)
      refine (HHE.out A4 c4 _ (own_cap' own4) (rowsAt_of_own own4 HLL.out (by decide))).mono ?_
      rintro e y5 ⟨A5, c5, rfl, own5, hb5⟩
      have hY : RngsAt y5 A5 Y := rowsAt_of_own own5 rfl (by decide)
      have hb45 : Below y3.heap.size y3 y5 := (by repeat (first | assumption | exact Below.refl _ _ | refine Below.drew ?_ | (refine below_alloc _ ?_ ?_; focus (first | omega | (simp; done) | (simp; omega) | (simp at *; omega))) | (refine below_set _ ?_ ?_; focus (first | omega | (simp; done) | (simp; omega) | (simp at *; omega))) | refine below_drewN ?_ _ | (refine below_call (by assumption) ?_ ?_; focus (first | omega | (simp; done) | (simp; omega) | (simp at *; omega))) | (refine below_call' (by assumption) ?_ ?_; focus (first | omega | (simp; done) | (simp; omega) | (simp at *; omega)))))
      replace x0 := cell_below' hb45 x0
      replace x1 := cell_below' hb45 x1
      replace x2 := cell_below' hb45 x2
      replace t0 := cell_below' hb45 t0
      replace t1 := cell_below' hb45 t1
      replace t2 := cell_below' hb45 t2
      replace hPt := RowsAt.below hPt hb45
      replace hHs := RowsAt.below hHs hb45
      replace hO := RowsAt.below hO hb45
      have hz5' := hb45.size
      replace hbw := hbw.trans (hb45.mono (by omega))
      clear hb4 hb5 hb45 own4 own5 HLA HHE
      have hq1 : ((o.length : Int) != (fs.length : Int) - 1) = false := by simp; omega
      have hq2 : ((Y.length : Int) != (fs.length : Int)) = false := by simp; omega
      go_wp2_with (fail)
      go_loopw [22] (fun i wr' => ∃ k : Nat, k ≤ fs.length ∧ i = .int .i64 k ∧ Below y5.heap.size y5 wr') (fun i _ => fs.length - (intOf i).toNat)
      case atStart => exact ⟨0, Nat.zero_le _, rfl, Below.refl _ _⟩
      case round =>
        obtain ⟨k, hk, rfl, hbk⟩ := hrel
        replace x0 := cell_below' hbk x0
        replace x1 := cell_below' hbk x1
        replace x2 := cell_below' hbk x2
        replace t0 := cell_below' hbk t0
        replace t1 := cell_below' hbk t1
        replace t2 := cell_below' hbk t2
        replace hPt := RowsAt.below hPt hbk
        replace hHs := RowsAt.below hHs hbk
        replace hO := RowsAt.below hO hbk
        replace hY := RowsAt.below hY hbk
        have hzk := hbk.size
        have hbw' := hbw.trans (hbk.mono (by omega))
        have zk0 : w.heap.size < wr.heap.size := by omega
        have zk2 : w2.heap.size + 1 < wr.heap.size := by omega
        by_cases hlt : k < fs.length
        ·
          have hkY : k < Y.length := by omega
          have hkH : k < HL.length := by have := HML.out; omega
          have hkT : k < ths.length := by have := HNT.out; omega
          obtain ⟨b1, o1, rfl, hb1, d0⟩ := IntsAt.at_ hHs hkH
          obtain ⟨b2, o2, rfl, hb2, d1, d2⟩ := RngsAt.at_ hY hkY
          obtain ⟨b3, o3, rfl, hb3, d3⟩ := IntsAt.at_ hB hkT
          replace d3 := cell_below' hbw' d3
          have hy := HYH.out k hkY hlt
          have hg := HMG.out k hkH hlt
          have hw1 : withinB HL[k] Y[k].lo Y[k].hi = true := by rw [hg]; exact withinB_true.2 hy
          have hth : ∀ (h : k < o.length), withinB ths[k] o[k].lo o[k].hi = true := fun h => withinB_true.2 (HOTH.out k h hkT)
          have HTH := Lib.hid hth
          have hwc1 : ∀ W, Calls Try.prog 23 #[.int .i64 HL[k], .int .i64 Y[k].lo, .int .i64 Y[k].hi] W fun e w' => e = .returned (.bool true) ∧ W = w' := fun W => (by have := Within_any HL[k] Y[k].lo Y[k].hi W; rwa [hw1] at this)
          have HW1 := Lib.hid hwc1
          clear hy hg hw1 hwc1 hth
          have hk0 : (0 : Int) ≤ (k : Int) := by omega
          have hk1 : (k : Int) < (fs.length : Int) := by omega
          have hk2 : (k : Int) < (Y.length : Int) := by omega
          go_upto_region 29 with (fail)
          go_cut [237] from 192 to 237 (fun s wx => s = .bool false ∧ Below wr.heap.size wr wx)
          case first =>
            by_cases hko : k < o.length
            · obtain ⟨b4, o4, rfl, hb4, d4, d5⟩ := RngsAt.at_ hO hko
              have hto := HTH.out hko
              have hwc2 : ∀ W, Calls Try.prog 23 #[.int .i64 ths[k], .int .i64 o[k].lo, .int .i64 o[k].hi] W fun e w' => e = .returned (.bool true) ∧ W = w' := fun W => (by have := Within_any ths[k] o[k].lo o[k].hi W; rwa [hto] at this)
              have HW2 := Lib.hid hwc2
              have hk3 : (k : Int) < (o.length : Int) := by omega
              have hk4 : decide ((k : Int) < (fs.length : Int) - 1) = true := by simp; omega
              clear hto hwc2 HTH
              generalize HL[k] = hv at *
              generalize Y[k] = yv at *
              generalize ths[k] = tv at *
              generalize o[k] = ov at *
              (refine region_full (by kernel_rfl) (by kernel_rfl) fun hx => ?_; (repeat (any_goals (first | go_big_quiet_step ((first | (go_at_call 23; with_reducible exact ext_same (HW1.out _)) | (go_at_call 23; with_reducible exact ext_same (HW2.out _)))) | quiet_step ((first | (go_at_call 23; with_reducible exact ext_same (HW1.out _)) | (go_at_call 23; with_reducible exact ext_same (HW2.out _))))))))
              (refine wpQuiet_nil ?_; clear hx; intro u; have hbw9 := ext_bel _ u; have hxw9 := ext_cell _ u; generalize ext _ u = w9 at *; clear u; have hsw9 := hbw9.size; (try simp at hsw9))
              go_wp2_with (fail)
              go_meet
              exact ⟨rfl, (by repeat (first | assumption | exact Below.refl _ _ | refine Below.drew ?_ | (refine below_alloc _ ?_ ?_; focus (first | omega | (simp; done) | (simp; omega) | (simp at *; omega))) | (refine below_set _ ?_ ?_; focus (first | omega | (simp; done) | (simp; omega) | (simp at *; omega))) | refine below_drewN ?_ _ | (refine below_call (by assumption) ?_ ?_; focus (first | omega | (simp; done) | (simp; omega) | (simp at *; omega))) | (refine below_call' (by assumption) ?_ ?_; focus (first | omega | (simp; done) | (simp; omega) | (simp at *; omega)))))⟩
            · have hk4 : decide ((k : Int) < (fs.length : Int) - 1) = false := by simp; omega
              clear HTH
              generalize HL[k] = hv at *
              generalize Y[k] = yv at *
              (refine region_full (by kernel_rfl) (by kernel_rfl) fun hx => ?_; (repeat (any_goals (first | go_big_quiet_step ((go_at_call 23; with_reducible exact ext_same (HW1.out _))) | quiet_step ((go_at_call 23; with_reducible exact ext_same (HW1.out _)))))))
              (refine wpQuiet_nil ?_; clear hx; intro u; have hbw9 := ext_bel _ u; have hxw9 := ext_cell _ u; generalize ext _ u = w9 at *; clear u; have hsw9 := hbw9.size; (try simp at hsw9))
              go_wp2_with (fail)
              go_meet
              exact ⟨rfl, (by repeat (first | assumption | exact Below.refl _ _ | refine Below.drew ?_ | (refine below_alloc _ ?_ ?_; focus (first | omega | (simp; done) | (simp; omega) | (simp at *; omega))) | (refine below_set _ ?_ ?_; focus (first | omega | (simp; done) | (simp; omega) | (simp at *; omega))) | refine below_drewN ?_ _ | (refine below_call (by assumption) ?_ ?_; focus (first | omega | (simp; done) | (simp; omega) | (simp at *; omega))) | (refine below_call' (by assumption) ?_ ?_; focus (first | omega | (simp; done) | (simp; omega) | (simp at *; omega)))))⟩
          case rest =>
          obtain ⟨rfl, hbx⟩ := hcut
          go_wp2_with (fail)
          exact ⟨⟨k + 1, by omega, by go_num, hbk.trans (hbx.mono (by omega))⟩, by simp [intOf]; omega⟩
        · obtain rfl : k = fs.length := by omega
          clear hbk hlt hY hHs hzk HYH HMG HML HOTH hyl
          replace hbw := hbw'
          clear hbw'
          obtain ⟨z0, rfl⟩ : ∃ z0, z0 = wr := ⟨_, rfl⟩
          have T0 := Lib.hid t0
          have HPT := Lib.hid hPt
          have HRO := Lib.hid hO
          go_wp2_with (fail)
          refine (HCT.out _ hPt).mono ?_
          rintro e z1 ⟨A6, c6, rfl, own6, hb6⟩
          obtain ⟨gw, cw, hvw, gw0, gw1⟩ := own6.form n0
          injection hvw with hvw1 hvw2 hvw3
          subst hvw1 hvw3
          replace x0 := cell_below' hb6 x0
          replace x1 := cell_below' hb6 x1
          replace x2 := cell_below' hb6 x2
          replace t0 := cell_below' hb6 t0
          replace t1 := cell_below' hb6 t1
          replace t2 := cell_below' hb6 t2
          replace hPt := RowsAt.below hPt hb6
          replace hO := RowsAt.below hO hb6
          have hz6 := hb6.size
          clear HCT
          go_upto_region 32 with (fail)
          have hwid := HS.out.w0
          have hwid1 := HS.out.w1
          have hw0 : z0.heap.size ≤ gw := gw0
          have r0 : (z1.alloc (.cells #[.slice (some ⟨gw, 0, none⟩) fs.length c6, .int .i64 an, .int .i64 width] 53)).cell? ⟨z1.heap.size, 0, none⟩ = some (.slice (some ⟨gw, 0, none⟩) fs.length c6) := cell_new rfl rfl
          have r1 : (z1.alloc (.cells #[.slice (some ⟨gw, 0, none⟩) fs.length c6, .int .i64 an, .int .i64 width] 53)).cell? ⟨z1.heap.size, 1, none⟩ = some (.int .i64 an) := cell_new rfl rfl
          have r2 : (z1.alloc (.cells #[.slice (some ⟨gw, 0, none⟩) fs.length c6, .int .i64 an, .int .i64 width] 53)).cell? ⟨z1.heap.size, 2, none⟩ = some (.int .i64 width) := cell_new rfl rfl
          have rf2 : (z1.alloc (.cells #[.slice (some ⟨gw, 0, none⟩) fs.length c6, .int .i64 an, .int .i64 width] 53)).frozen? ⟨z1.heap.size, 2, none⟩ = false := frozen_new rfl
          have hz7 : (z1.alloc (.cells #[.slice (some ⟨gw, 0, none⟩) fs.length c6, .int .i64 an, .int .i64 width] 53)).heap.size = z1.heap.size + 1 := by simp
          have hbZ : Below z0.heap.size z0 (z1.alloc (.cells #[.slice (some ⟨gw, 0, none⟩) fs.length c6, .int .i64 an, .int .i64 width] 53)) := (by repeat (first | assumption | exact Below.refl _ _ | refine Below.drew ?_ | (refine below_alloc _ ?_ ?_; focus (first | omega | (simp; done) | (simp; omega) | (simp at *; omega))) | (refine below_set _ ?_ ?_; focus (first | omega | (simp; done) | (simp; omega) | (simp at *; omega))) | refine below_drewN ?_ _ | (refine below_call (by assumption) ?_ ?_; focus (first | omega | (simp; done) | (simp; omega) | (simp at *; omega))) | (refine below_call' (by assumption) ?_ ?_; focus (first | omega | (simp; done) | (simp; omega) | (simp at *; omega)))))
          replace x0 := cell_alloc (.cells #[.slice (some ⟨gw, 0, none⟩) fs.length c6, .int .i64 an, .int .i64 width] 53) x0
          replace x1 := cell_alloc (.cells #[.slice (some ⟨gw, 0, none⟩) fs.length c6, .int .i64 an, .int .i64 width] 53) x1
          replace x2 := cell_alloc (.cells #[.slice (some ⟨gw, 0, none⟩) fs.length c6, .int .i64 an, .int .i64 width] 53) x2
          replace t0 := cell_alloc (.cells #[.slice (some ⟨gw, 0, none⟩) fs.length c6, .int .i64 an, .int .i64 width] 53) t0
          replace t1 := cell_alloc (.cells #[.slice (some ⟨gw, 0, none⟩) fs.length c6, .int .i64 an, .int .i64 width] 53) t1
          replace t2 := cell_alloc (.cells #[.slice (some ⟨gw, 0, none⟩) fs.length c6, .int .i64 an, .int .i64 width] 53) t2
          replace own6 := own6.alloc (.cells #[.slice (some ⟨gw, 0, none⟩) fs.length c6, .int .i64 an, .int .i64 width] 53)
          generalize (z1.alloc (.cells #[.slice (some ⟨gw, 0, none⟩) fs.length c6, .int .i64 an, .int .i64 width] 53)) = z2 at *
          have zn0 : w2.heap.size + 1 < z2.heap.size := by omega
          have zn1 : z1.heap.size < z2.heap.size := by omega
          go_cut [] from 240 to 244 (fun wx => wx = z2.setCell ⟨z1.heap.size, 2, none⟩ (.int .i64 (minI 500 (width + 5))))
          case first =>
            go_wp2_with (fail)
            all_goals go_meet
            all_goals (rw [show minI 500 (width + 5) = if width + 5 < 500 then width + 5 else 500 from rfl]; split <;> first | rfl | (exfalso; omega))
          case rest =>
          subst hcut
          have hbY : Below z0.heap.size z0 (z2.setCell ⟨z1.heap.size, 2, none⟩ (.int .i64 (minI 500 (width + 5)))) := below_set _ (by show z0.heap.size ≤ z1.heap.size; omega) hbZ
          have q0 : (z2.setCell ⟨z1.heap.size, 2, none⟩ (.int .i64 (minI 500 (width + 5)))).cell? ⟨z1.heap.size, 0, none⟩ = some (.slice (some ⟨gw, 0, none⟩) fs.length c6) := (World.cell?_setCell_other _ _ _ _ (by simp)).trans r0
          have q1 : (z2.setCell ⟨z1.heap.size, 2, none⟩ (.int .i64 (minI 500 (width + 5)))).cell? ⟨z1.heap.size, 1, none⟩ = some (.int .i64 an) := (World.cell?_setCell_other _ _ _ _ (by simp)).trans r1
          have q2 : (z2.setCell ⟨z1.heap.size, 2, none⟩ (.int .i64 (minI 500 (width + 5)))).cell? ⟨z1.heap.size, 2, none⟩ = some (.int .i64 (minI 500 (width + 5))) := cell_same r2
          replace own6 := own_set_ne own6 (a := ⟨z1.heap.size, 2, none⟩) (by simp [Value.ownBlock]; omega) (.int .i64 (minI 500 (width + 5)))
          replace x0 := cell_far (q := ⟨z1.heap.size, 2, none⟩) (u := .int .i64 (minI 500 (width + 5))) (by show z1.heap.size ≠ w.heap.size; omega) x0
          replace t0 := cell_far (q := ⟨z1.heap.size, 2, none⟩) (u := .int .i64 (minI 500 (width + 5))) (by show z1.heap.size ≠ w2.heap.size + 1; omega) t0
          have hz8 : (z2.setCell ⟨z1.heap.size, 2, none⟩ (.int .i64 (minI 500 (width + 5)))).heap.size = z2.heap.size := by simp
          clear r0 r1 r2 rf2 hbZ x1 x2 t1 t2
          generalize z2.setCell ⟨z1.heap.size, 2, none⟩ (.int .i64 (minI 500 (width + 5))) = z3 at *
          obtain ⟨hWd, hWc⟩ := wide_of HT.out hwid1
          obtain ⟨o', hlam', hwdr⟩ := lam_wd hWd HLAM.out
          have hlo := Wdr.len o o' hwdr
          have HLO := Lib.hid hlo
          have HWC := Lib.hid hWc
          have HLAM' := Lib.hid hlam'
          have HWDR := Lib.hid hwdr
          have hWl : (L.map wdPt).length = fs.length := by rw [List.length_map, HLL.out]
          have HWL := Lib.hid hWl
          have hpx : ∀ x ∈ L, 0 ≤ x.lo ∧ x.lo ≤ 20000 ∧ 0 ≤ x.hi ∧ x.hi ≤ 20000 := fun x hx => by have := (okT_of_chk HT.out).pt x hx; omega
          have HPX := Lib.hid hpx
          clear hWd hWc hlam' hwdr hWl hpx HLAM hwid hwid1 hlo
          have hmi : 0 ≤ minI 500 (width + 5) ∧ minI 500 (width + 5) ≤ 500 := by have := HS.out.w0; unfold minI; split <;> omega
          generalize minI 500 (width + 5) = W5 at *
          go_wp2
          go_loopw [24] (fun i wr => ∃ k : Nat, k ≤ fs.length ∧ i = .int .i64 k ∧ wr.cell? ⟨z1.heap.size, 0, none⟩ = some (.slice (some ⟨gw, 0, none⟩) fs.length c6) ∧ wr.cell? ⟨z1.heap.size, 1, none⟩ = some (.int .i64 an) ∧ wr.cell? ⟨z1.heap.size, 2, none⟩ = some (.int .i64 W5) ∧ wr.ownsRow z0.heap.size 75 3 (.slice (some ⟨gw, 0, none⟩) fs.length c6) fs.length (cellsOf 3 ptC (mix (L.map wdPt) L k)) ∧ Below z0.heap.size z0 wr ∧ z3.heap.size ≤ wr.heap.size) (fun i _ => fs.length - (intOf i).toNat)
          case atStart => exact ⟨0, Nat.zero_le _, rfl, q0, q1, q2, own6, hbY, Nat.le_refl _⟩
          case round =>
            clear q0 q1 q2 own6 hbY x0 t0 hPt hO
            obtain ⟨k, hk, rfl, q0, q1, q2, own6, hbY, hz9⟩ := hrel
            have t0 := cell_below' hbY T0.out
            have hPt := RowsAt.below HPT.out hbY
            by_cases hlt : k < fs.length
            ·
              have hkL : k < L.length := by have := HLL.out; omega
              obtain ⟨b1, o1, he1, hb1, f0, f1, f2⟩ := PtsAt.at_ hPt hkL
              injection he1 with he1
              injection he1 with he1 he2
              subst he1 he2
              have hp := HPX.out L[k] (List.getElem_mem hkL)
              have hml : (mix (L.map wdPt) L k).length = fs.length := by rw [mix_len (by rw [HWL.out, HLL.out]), HLL.out]
              have hkm : k < (mix (L.map wdPt) L k).length := by omega
              have hma := mix_at (P := L.map wdPt) (T := L) (k := k) (by rw [HWL.out, HLL.out]) hkL hkm
              have hms := mix_set (P := L.map wdPt) (T := L) (k := k) (by rw [HWL.out, HLL.out]) hkL (by rw [HWL.out]; exact hlt)
              rw [List.getElem_map] at hms
              have HMA := Lib.hid hma
              have HMS := Lib.hid hms
              clear hma hms hml
              generalize hpe : L[k] = p at *
              have HPE := Lib.hid hpe
              clear hpe
              generalize mix (L.map wdPt) L k = M at *
              obtain ⟨pf, plo, phi⟩ := p
              obtain ⟨hp0, hp1, hp2, hp3⟩ := hp
              simp only at hp0 hp1 hp2 hp3
              simp only [Nat.zero_add] at f0 f1 f2
              have hk0 : (0 : Int) ≤ (k : Int) := by omega
              have hk1 : (k : Int) < (fs.length : Int) := by omega
              have zw0 : z1.heap.size < wr.heap.size := by omega
              have zw1 : w2.heap.size + 1 < wr.heap.size := by omega
              have zw2 : gw < wr.heap.size := (own6.lt _ rfl).2
              have zw3 : gt < wr.heap.size := by omega
              obtain ⟨g0, g1, g2, y1, y2⟩ := ownP_at own6 hlt hkm
              go_upto_region 36 with (fail)
              go_cut [] from 245 to 264 (fun wx => wx.ownsRow z0.heap.size 75 3 (.slice (some ⟨gw, 0, none⟩) fs.length c6) fs.length (cellsOf 3 ptC (M.set k ⟨pf, maxZ (plo - 3), phi⟩)) ∧ wx.cell? ⟨z1.heap.size, 0, none⟩ = some (.slice (some ⟨gw, 0, none⟩) fs.length c6) ∧ wx.cell? ⟨z1.heap.size, 1, none⟩ = some (.int .i64 an) ∧ wx.cell? ⟨z1.heap.size, 2, none⟩ = some (.int .i64 W5) ∧ Below z0.heap.size z0 wx ∧ z3.heap.size ≤ wx.heap.size)
              case first =>
                by_cases h3 : 3 < plo
                · have hmx : maxZ (plo - 3) = plo - 3 := by unfold maxZ; split <;> omega
                  (refine region_extx 12 (by kernel_rfl) (by kernel_rfl) fun hx => ?_; simp only [List.take_succ_cons, List.take_zero, List.drop_succ_cons, List.drop_zero]; (repeat (any_goals (first | go_big_quiet_step (fail) | quiet_step (fail)))))
                  (refine wpQuiet_nil ?_; clear hx; intro u; have hbw6 := ext_bel _ u; have hxw6 := ext_cell _ u; generalize ext _ u = w6 at *; clear u; have hsw6 := hbw6.size; (try simp at hsw6))
                  replace q0 := cell_below' hbw6 q0
                  replace q1 := cell_below' hbw6 q1
                  replace q2 := cell_below' hbw6 q2
                  replace own6 := own_below own6 hbw6
                  have hz10 := hbw6.size
                  replace hbY := hbY.trans (hbw6.mono (by omega))
                  clear hbw6 hxw6
                  obtain ⟨g0, g1, g2, y1, y2⟩ := ownP_at own6 hlt hkm
                  go_wp2_with (fail)
                  go_meet
                  have hP := ownP_set1 own6 hkm (maxZ (plo - 3))
                  simp only [HMA.out] at hP
                  rw [hmx] at hP ⊢
                  exact ⟨hP, cell_far (by show gw ≠ z1.heap.size; omega) q0, cell_far (by show gw ≠ z1.heap.size; omega) q1, cell_far (by show gw ≠ z1.heap.size; omega) q2, below_set _ (by show z0.heap.size ≤ gw; omega) hbY, by simp; omega⟩
                · have hmx : maxZ (plo - 3) = 0 := by unfold maxZ; split <;> omega
                  (refine region_extx 12 (by kernel_rfl) (by kernel_rfl) fun hx => ?_; simp only [List.take_succ_cons, List.take_zero, List.drop_succ_cons, List.drop_zero]; (repeat (any_goals (first | go_big_quiet_step (fail) | quiet_step (fail)))))
                  (refine wpQuiet_nil ?_; clear hx; intro u; have hbw6 := ext_bel _ u; have hxw6 := ext_cell _ u; generalize ext _ u = w6 at *; clear u; have hsw6 := hbw6.size; (try simp at hsw6))
                  replace q0 := cell_below' hbw6 q0
                  replace q1 := cell_below' hbw6 q1
                  replace q2 := cell_below' hbw6 q2
                  replace own6 := own_below own6 hbw6
                  have hz10 := hbw6.size
                  replace hbY := hbY.trans (hbw6.mono (by omega))
                  clear hbw6 hxw6
                  obtain ⟨g0, g1, g2, y1, y2⟩ := ownP_at own6 hlt hkm
                  go_wp2_with (fail)
                  go_meet
                  have hP := ownP_set1 own6 hkm (maxZ (plo - 3))
                  simp only [HMA.out] at hP
                  rw [hmx] at hP ⊢
                  exact ⟨hP, cell_far (by show gw ≠ z1.heap.size; omega) q0, cell_far (by show gw ≠ z1.heap.size; omega) q1, cell_far (by show gw ≠ z1.heap.size; omega) q2, below_set _ (by show z0.heap.size ≤ gw; omega) hbY, by simp; omega⟩
              case rest =>
              clear q0 q1 q2 own6 hbY hz9 t0 hPt f0 f1 f2 y1 y2 g0 g1 g2 zw0 zw1 zw2 zw3
              obtain ⟨own6, q0, q1, q2, hbY, hz9⟩ := hcut
              have t0 := cell_below' hbY T0.out
              have hPt := RowsAt.below HPT.out hbY
              obtain ⟨b1, o1, he1, hb1, f0, f1, f2⟩ := PtsAt.at_ hPt hkL
              injection he1 with he1
              injection he1 with he1 he2
              subst he1 he2
              rw [HPE.out] at f0 f1 f2
              simp only [Nat.zero_add] at f0 f1 f2
              have zw0 : z1.heap.size < wc.heap.size := by omega
              have zw1 : w2.heap.size + 1 < wc.heap.size := by omega
              have zw2 : gw < wc.heap.size := (own6.lt _ rfl).2
              have zw3 : gt < wc.heap.size := by omega
              have hkm2 : k < (M.set k ⟨pf, maxZ (plo - 3), phi⟩).length := by simpa using hkm
              obtain ⟨g0, g1, g2, y1, y2⟩ := ownP_at own6 hlt hkm2
              go_upto_region 37 with (fail)
              (refine region_extx 12 (by kernel_rfl) (by kernel_rfl) fun hx => ?_; simp only [List.take_succ_cons, List.take_zero, List.drop_succ_cons, List.drop_zero]; (repeat (any_goals (first | go_big_quiet_step (fail) | quiet_step (fail)))))
              (refine wpQuiet_nil ?_; clear hx; intro u; have hbw6 := ext_bel _ u; have hxw6 := ext_cell _ u; generalize ext _ u = w6 at *; clear u; have hsw6 := hbw6.size; (try simp at hsw6))
              replace q0 := cell_below' hbw6 q0
              replace q1 := cell_below' hbw6 q1
              replace q2 := cell_below' hbw6 q2
              replace own6 := own_below own6 hbw6
              have hz10 := hbw6.size
              replace hbY := hbY.trans (hbw6.mono (by omega))
              clear hbw6 hxw6
              obtain ⟨g0, g1, g2, y1, y2⟩ := ownP_at own6 hlt hkm2
              go_wp2_with (fail)
              have hmn : (if phi + 3 < 20000 then phi + 3 else 20000) = minI 20000 (phi + 3) := rfl
              rw [hmn]
              have hP := ownP_set2 own6 hkm2 (minI 20000 (phi + 3))
              simp only [List.getElem_set_self] at hP
              rw [List.set_set, show (⟨pf, maxZ (plo - 3), minI 20000 (phi + 3)⟩ : Pt) = wdPt ⟨pf, plo, phi⟩ from rfl, HMS.out] at hP
              exact ⟨⟨k + 1, by omega, by go_num, cell_far (by show gw ≠ z1.heap.size; omega) q0, cell_far (by show gw ≠ z1.heap.size; omega) q1, cell_far (by show gw ≠ z1.heap.size; omega) q2, hP, below_set _ (by show z0.heap.size ≤ gw; omega) hbY, by simp; omega⟩, by simp [intOf]; omega⟩
            · obtain rfl : k = fs.length := by omega
              have hme : mix (L.map wdPt) L fs.length = L.map wdPt := by
                have := mix_end (P := L.map wdPt) (T := L) (by rw [HWL.out, HLL.out])
                rwa [HLL.out] at this
              rw [hme] at own6
              have hla : ∀ W, PtsAt W (some ⟨gw, 0, none⟩) (L.map wdPt) → Calls Try.prog 30 #[.agg #[.slice (some ⟨gw, 0, none⟩) fs.length c6, .int .i64 an, .int .i64 W5]] W fun e w' => ∃ A' c', e = .returned (.tuple #[.slice A' o.length c', .int .i64 0, .int .i64 0]) ∧ w'.ownsRow W.heap.size 32 2 (.slice A' o.length c') o.length (cellsOf 2 rngC o') ∧ Below W.heap.size W w' := fun W hW => by
                have h := Laminated_any (some ⟨gw, 0, none⟩) (L.map wdPt) c6 an W5 W (by rw [HWL.out]; omega) (by rw [HWL.out]; exact own_cap' own6) hW
                have ho1 : lamdE (L.map wdPt) an W5 = 0 := by unfold lamdE; rw [if_neg (by rw [HWC.out]; decide), HLAM'.out]; rfl
                have ho2 : lamdOut (L.map wdPt) an W5 = o' := by unfold lamdOut; rw [if_neg (by rw [HWC.out]; decide), HLAM'.out]
                have ho3 : lamdAt (L.map wdPt) an W5 = 0 := by unfold lamdAt; rw [if_neg (by rw [HWC.out]; decide), HLAM'.out]
                unfold LamdPost at h
                rwa [HWL.out, ho1, ho2, ho3, ← HLO.out] at h
              have HLA := Lib.hid hla
              have hWt : PtsAt wr (some ⟨gw, 0, none⟩) (L.map wdPt) := rowsAt_of_own own6 HWL.out (by decide)
              clear hla hme own6 t0 hPt hlt
              go_wp2_with (fail)
              refine (HLA.out _ hWt).mono ?_
              rintro e s1 ⟨A7, c7, rfl, own7, hb7⟩
              have hO' : RngsAt s1 A7 o' := rowsAt_of_own own7 HLO.out.symm (by decide)
              have hbs : Below w.heap.size w s1 := (hbw.trans (hbY.mono (by omega))).trans (hb7.mono (by omega))
              have hOs : RngsAt s1 A3 o := RowsAt.below (RowsAt.below HRO.out hbY) hb7
              clear own7 hb7 hWt HLA
              have hq1 : ((o.length : Int) != (fs.length : Int) - 1) = false := by simp; omega
              go_wp2_with (fail)
              go_loopw [28] (fun i wr => ∃ k : Nat, k ≤ o.length ∧ i = .int .i64 k ∧ Below s1.heap.size s1 wr) (fun i _ => o.length - (intOf i).toNat)
              case atStart => exact ⟨0, Nat.zero_le _, rfl, Below.refl _ _⟩
              case round =>
                obtain ⟨k, hk, rfl, hbk⟩ := hrel
                have hbs' := hbs.trans (hbk.mono hbs.size)
                by_cases hlt : k < o.length
                · have hlt' : k < o'.length := by have := HLO.out; omega
                  obtain ⟨b1, o1, rfl, hb1, d0, d1⟩ := RngsAt.at_ (RowsAt.below hOs hbk) hlt
                  obtain ⟨b2, o2, rfl, hb2, d2, d3⟩ := RngsAt.at_ (RowsAt.below hO' hbk) hlt'
                  have hw := Wdr.at_ o o' HWDR.out k hlt hlt'
                  have hg1 : decide (o[k].lo < o'[k].lo) = false := by simp; exact hw.1
                  have hg2 : decide (o'[k].hi < o[k].hi) = false := by simp; exact hw.2
                  have hk0 : (0 : Int) ≤ (k : Int) := by omega
                  have hk1 : (k : Int) < (o.length : Int) := by omega
                  have hk2 : decide ((k : Int) < (fs.length : Int) - 1) = true := by simp; omega
                  clear hw
                  generalize o[k] = p at *
                  generalize o'[k] = p' at *
                  go_upto_region 44 with (fail)
                  go_cut [324] from 295 to 324 (fun s wx => s = .bool false ∧ Below wr.heap.size wr wx)
                  case first =>
                    (refine region_full (by kernel_rfl) (by kernel_rfl) fun hx => ?_; (repeat (any_goals (first | go_big_quiet_step (fail) | quiet_step (fail)))))
                    (refine wpQuiet_nil ?_; clear hx; intro u; have hbw9 := ext_bel _ u; have hxw9 := ext_cell _ u; generalize ext _ u = w9 at *; clear u; have hsw9 := hbw9.size; (try simp at hsw9))
                    go_wp2_with (fail)
                    go_meet
                    exact ⟨rfl, (by repeat (first | assumption | exact Below.refl _ _ | refine Below.drew ?_ | (refine below_alloc _ ?_ ?_; focus (first | omega | (simp; done) | (simp; omega) | (simp at *; omega))) | (refine below_set _ ?_ ?_; focus (first | omega | (simp; done) | (simp; omega) | (simp at *; omega))) | refine below_drewN ?_ _ | (refine below_call (by assumption) ?_ ?_; focus (first | omega | (simp; done) | (simp; omega) | (simp at *; omega))) | (refine below_call' (by assumption) ?_ ?_; focus (first | omega | (simp; done) | (simp; omega) | (simp at *; omega)))))⟩
                  case rest =>
                  obtain ⟨rfl, hbx⟩ := hcut
                  go_wp2_with (fail)
                  exact ⟨⟨k + 1, by omega, by go_num, hbk.trans (hbx.mono (by have := hbk.size; omega))⟩, by simp [intOf]; omega⟩
                · obtain rfl : k = o.length := by omega
                  have hk2 : decide ((o.length : Int) < (fs.length : Int) - 1) = false := by simp; omega
                  go_wp2_with (fail)
                  go_ret
                  exact ⟨rfl, hbs'⟩
end Go.Proofs.Ytoegpaolbkcleaa
