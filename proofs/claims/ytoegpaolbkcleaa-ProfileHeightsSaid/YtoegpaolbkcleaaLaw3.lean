/-
  The walk of ProfileHeights.
-/
import Derived.Test.YtoegpaolbkcleaaAwk
namespace Go.Proofs.Ytoegpaolbkcleaa
open Go.ChangeShapes Go.WideShapes Go.ChangeAt Go.RowKit
set_option linter.unusedVariables false
set_option linter.unusedSimpArgs false

set_option maxRecDepth 100000 in
set_option maxHeartbeats 2000000 in
theorem ProfileHeights_any (base : Int) (A : Option Addr) (l : List Slb) (cap : Nat) (f : Int) (w : World) (hcap : l.length ≤ cap) (hA : SlabsAt w A l) :
    Calls Try.prog 3 #[.agg #[.int .i64 base, .slice A l.length cap], .int .i64 f] w fun e w' => e = .returned (.bool true) ∧ Below w.heap.size w w' := by
  go_enter Try.func3, Try.ntmps3
  go_wp2_with (fail)
  refine (awake_any _).mono ?_
  rintro e w1 ⟨rfl, hb1⟩
  have hz1 : w.heap.size < w1.heap.size := by have := hb1.size; simp at this; omega
  have a0 : w1.cell? ⟨w.heap.size, 0, none⟩ = some (.int .i64 base) := cell_below' hb1 (by repeat (first | assumption | (refine cell_new ?_ rfl; focus (simp; done)) | refine cell_drew ?_ | refine cell_alloc _ ?_ | refine cell_drewN _ ?_ | (refine cell_far ?_ ?_; focus (first | omega | (simp; omega) | (simp; done))) | refine cell_below' (by assumption) ?_))
  have a1 : w1.cell? ⟨w.heap.size, 1, none⟩ = some (.slice A l.length cap) := cell_below' hb1 (by repeat (first | assumption | (refine cell_new ?_ rfl; focus (simp; done)) | refine cell_drew ?_ | refine cell_alloc _ ?_ | refine cell_drewN _ ?_ | (refine cell_far ?_ ?_; focus (first | omega | (simp; omega) | (simp; done))) | refine cell_below' (by assumption) ?_))
  have hbw1 : Below w.heap.size w w1 := (by repeat (first | assumption | exact Below.refl _ _ | refine Below.drew ?_ | (refine below_alloc _ ?_ ?_; focus (first | omega | (simp; done) | (simp; omega) | (simp at *; omega))) | (refine below_set _ ?_ ?_; focus (first | omega | (simp; done) | (simp; omega) | (simp at *; omega))) | refine below_drewN ?_ _ | (refine below_call (by assumption) ?_ ?_; focus (first | omega | (simp; done) | (simp; omega) | (simp at *; omega))) | (refine below_call' (by assumption) ?_ ?_; focus (first | omega | (simp; done) | (simp; omega) | (simp at *; omega)))))
  clear hb1
  go_wp2_with (fail)
  refine (Few_any base A l.length cap _).mono ?_
  rintro e w2 ⟨rfl, hb2⟩
  have hz2 : w.heap.size < w2.heap.size := by have := hb2.size; omega
  replace a0 := cell_below' hb2 a0
  replace a1 := cell_below' hb2 a1
  have hbw2 : Below w.heap.size w w2 := (by repeat (first | assumption | exact Below.refl _ _ | refine Below.drew ?_ | (refine below_alloc _ ?_ ?_; focus (first | omega | (simp; done) | (simp; omega) | (simp at *; omega))) | (refine below_set _ ?_ ?_; focus (first | omega | (simp; done) | (simp; omega) | (simp at *; omega))) | refine below_drewN ?_ _ | (refine below_call (by assumption) ?_ ?_; focus (first | omega | (simp; done) | (simp; omega) | (simp at *; omega))) | (refine below_call' (by assumption) ?_ ?_; focus (first | omega | (simp; done) | (simp; omega) | (simp at *; omega)))))
  clear hb2 hbw1
  by_cases hf : (l.length : Int) ≤ 14
  · have hl : l.length ≤ 100 := by omega
    have hA2 := hA.below hbw2
    go_wp2_with (fail)
    refine (Copy_any base A l cap _ hl hA2).mono ?_
    rintro e w3 ⟨A3, c3, rfl, own3, hb3⟩
    have hS3 : SlabsAt w3 A3 l := rowsAt_of_own own3 rfl (by decide)
    have hc3 := own_cap' own3
    have hz3 : w.heap.size < w3.heap.size := by have := hb3.size; omega
    replace a0 := cell_below' hb3 a0
    replace a1 := cell_below' hb3 a1
    have hA3 := hA2.below hb3
    have hbw3 : Below w.heap.size w w3 := (by repeat (first | assumption | exact Below.refl _ _ | refine Below.drew ?_ | (refine below_alloc _ ?_ ?_; focus (first | omega | (simp; done) | (simp; omega) | (simp at *; omega))) | (refine below_set _ ?_ ?_; focus (first | omega | (simp; done) | (simp; omega) | (simp at *; omega))) | refine below_drewN ?_ _ | (refine below_call (by assumption) ?_ ?_; focus (first | omega | (simp; done) | (simp; omega) | (simp at *; omega))) | (refine below_call' (by assumption) ?_ ?_; focus (first | omega | (simp; done) | (simp; omega) | (simp at *; omega)))))
    clear own3 hb3 hbw2
    go_wp2_with (fail)
    refine (ReflectedAt_any base A3 l c3 f _ hl hS3).mono ?_
    rintro e w4 ⟨rfl, hb4⟩
    have hz4 : w.heap.size < w4.heap.size := by have := hb4.size; omega
    replace a0 := cell_below' hb4 a0
    replace a1 := cell_below' hb4 a1
    have hA4 := hA3.below hb4
    have hbw4 : Below w.heap.size w w4 := (by repeat (first | assumption | exact Below.refl _ _ | refine Below.drew ?_ | (refine below_alloc _ ?_ ?_; focus (first | omega | (simp; done) | (simp; omega) | (simp at *; omega))) | (refine below_set _ ?_ ?_; focus (first | omega | (simp; done) | (simp; omega) | (simp at *; omega))) | refine below_drewN ?_ _ | (refine below_call (by assumption) ?_ ?_; focus (first | omega | (simp; done) | (simp; omega) | (simp at *; omega))) | (refine below_call' (by assumption) ?_ ?_; focus (first | omega | (simp; done) | (simp; omega) | (simp at *; omega)))))
    clear hb4 hbw3 hS3
    go_wp2_with (fail)
    refine (Copy_any base A l cap _ hl hA4).mono ?_
    rintro e w5 ⟨A5, c5, rfl, own5, hb5⟩
    have hS5 : SlabsAt w5 A5 l := rowsAt_of_own own5 rfl (by decide)
    have hc5 := own_cap' own5
    have hz5 : w.heap.size < w5.heap.size := by have := hb5.size; omega
    replace a0 := cell_below' hb5 a0
    replace a1 := cell_below' hb5 a1
    have hA5 := hA4.below hb5
    have hbw5 : Below w.heap.size w w5 := (by repeat (first | assumption | exact Below.refl _ _ | refine Below.drew ?_ | (refine below_alloc _ ?_ ?_; focus (first | omega | (simp; done) | (simp; omega) | (simp at *; omega))) | (refine below_set _ ?_ ?_; focus (first | omega | (simp; done) | (simp; omega) | (simp at *; omega))) | refine below_drewN ?_ _ | (refine below_call (by assumption) ?_ ?_; focus (first | omega | (simp; done) | (simp; omega) | (simp at *; omega))) | (refine below_call' (by assumption) ?_ ?_; focus (first | omega | (simp; done) | (simp; omega) | (simp at *; omega)))))
    clear own5 hb5 hbw4
    go_wp2_with (fail)
    refine (VirtualAt_any base A5 l c5 f _ hl hc5 hS5).mono ?_
    rintro e w6 ⟨rfl, hb6⟩
    have hz6 : w.heap.size < w6.heap.size := by have := hb6.size; omega
    replace a0 := cell_below' hb6 a0
    replace a1 := cell_below' hb6 a1
    have hA6 := hA5.below hb6
    have hbw6 : Below w.heap.size w w6 := (by repeat (first | assumption | exact Below.refl _ _ | refine Below.drew ?_ | (refine below_alloc _ ?_ ?_; focus (first | omega | (simp; done) | (simp; omega) | (simp at *; omega))) | (refine below_set _ ?_ ?_; focus (first | omega | (simp; done) | (simp; omega) | (simp at *; omega))) | refine below_drewN ?_ _ | (refine below_call (by assumption) ?_ ?_; focus (first | omega | (simp; done) | (simp; omega) | (simp at *; omega))) | (refine below_call' (by assumption) ?_ ?_; focus (first | omega | (simp; done) | (simp; omega) | (simp at *; omega)))))
    clear hb6 hbw5 hS5
    go_wp2_with (fail)
    refine (ProfileErr_any base A l cap _ hl (hA6.below (by repeat (first | assumption | exact Below.refl _ _ | refine Below.drew ?_ | (refine below_alloc _ ?_ ?_; focus (first | omega | (simp; done) | (simp; omega) | (simp at *; omega))) | (refine below_set _ ?_ ?_; focus (first | omega | (simp; done) | (simp; omega) | (simp at *; omega))) | refine below_drewN ?_ _ | (refine below_call (by assumption) ?_ ?_; focus (first | omega | (simp; done) | (simp; omega) | (simp at *; omega))) | (refine below_call' (by assumption) ?_ ?_; focus (first | omega | (simp; done) | (simp; omega) | (simp at *; omega))))))).mono ?_
    rintro e w7 ⟨rfl, hb7⟩
    have hz7 : w.heap.size < w7.heap.size := by have := hb7.size; simp at this; omega
    have hz8 : w6.heap.size < w7.heap.size := by have := hb7.size; simp at this; omega
    replace a0 := cell_below' hb7 (cell_alloc _ a0)
    replace a1 := cell_below' hb7 (cell_alloc _ a1)
    have v0 : w7.cell? ⟨w6.heap.size, 0, none⟩ = some (.int .i64 (vatLo base l f)) := cell_below' hb7 (by repeat (first | assumption | (refine cell_new ?_ rfl; focus (simp; done)) | refine cell_drew ?_ | refine cell_alloc _ ?_ | refine cell_drewN _ ?_ | (refine cell_far ?_ ?_; focus (first | omega | (simp; omega) | (simp; done))) | refine cell_below' (by assumption) ?_))
    have v1 : w7.cell? ⟨w6.heap.size, 1, none⟩ = some (.int .i64 (vatHi base l f)) := cell_below' hb7 (by repeat (first | assumption | (refine cell_new ?_ rfl; focus (simp; done)) | refine cell_drew ?_ | refine cell_alloc _ ?_ | refine cell_drewN _ ?_ | (refine cell_far ?_ ?_; focus (first | omega | (simp; omega) | (simp; done))) | refine cell_below' (by assumption) ?_))
    have hA7 := (hA6.below (below_alloc _ (Nat.le_refl _) (Below.refl _ _))).below hb7
    have hbw7 : Below w.heap.size w w7 := (by repeat (first | assumption | exact Below.refl _ _ | refine Below.drew ?_ | (refine below_alloc _ ?_ ?_; focus (first | omega | (simp; done) | (simp; omega) | (simp at *; omega))) | (refine below_set _ ?_ ?_; focus (first | omega | (simp; done) | (simp; omega) | (simp at *; omega))) | refine below_drewN ?_ _ | (refine below_call (by assumption) ?_ ?_; focus (first | omega | (simp; done) | (simp; omega) | (simp at *; omega))) | (refine below_call' (by assumption) ?_ ?_; focus (first | omega | (simp; done) | (simp; omega) | (simp at *; omega)))))
    clear hb7 hbw6
    by_cases h0 : chkE base l = 0
    · have ho := ok_of_chk h0
      have HO := Lib.hid ho
      clear ho
      by_cases h1 : unl (withinB f 1 3000) 2 = 0
      · have hE0 : reflAtE0 base l f = 0 := by unfold reflAtE0; rw [firstE2]; exact ⟨h0, h1⟩
        obtain ⟨_, f0, f1⟩ := reflAtE0_ok hE0
        have H1 := Lib.hid h1
        rw [h0]
        clear h0 h1
        by_cases hi : (refl base l f).2 < 0
        · have hE : reflAtE base l f = 21 := by unfold reflAtE; rw [if_neg (by simp [hE0]), if_pos hi]
          have e1 : reflAt1 base l f = 0 := by unfold reflAt1; rw [hE]; rfl
          have e2 : reflAt2 base l f = 0 := by unfold reflAt2; rw [hE]; rfl
          have e3 : vatLo base l f = 0 := by unfold vatLo; rw [hE]; rfl
          have e4 : vatHi base l f = 0 := by unfold vatHi; rw [hE]; rfl
          have hr : rreflV (refl base l f) = .tuple #[.int .i64 0, .int .i64 0, .bool false] := by unfold rreflV; rw [if_pos hi]
          have HR := Lib.hid hr
          rw [hE, e1, e2]
          rw [e3] at v0
          rw [e4] at v1
          rw [e3, e4]
          clear hE e1 e2 e3 e4 hr hi hE0
          go_wp2_with (go_at_call 20; refine (FrequencyErr_any _ _).mono ?_; rintro e w' ⟨rfl, rfl⟩; rw [H1.out])
          refine (RReflected_any base A l cap f _ HO.out hA7 (by omega) f1).mono ?_
          rintro e w8 ⟨rfl, hb8⟩
          rw [HR.out]
          replace v0 := cell_below' hb8 v0
          replace v1 := cell_below' hb8 v1
          go_wp2
          go_ret
          exact ⟨rfl, (by repeat (first | assumption | exact Below.refl _ _ | refine Below.drew ?_ | (refine below_alloc _ ?_ ?_; focus (first | omega | (simp; done) | (simp; omega) | (simp at *; omega))) | (refine below_set _ ?_ ?_; focus (first | omega | (simp; done) | (simp; omega) | (simp at *; omega))) | refine below_drewN ?_ _ | (refine below_call (by assumption) ?_ ?_; focus (first | omega | (simp; done) | (simp; omega) | (simp at *; omega))) | (refine below_call' (by assumption) ?_ ?_; focus (first | omega | (simp; done) | (simp; omega) | (simp at *; omega)))))⟩
        · have hE : reflAtE base l f = 0 := by unfold reflAtE; rw [if_neg (by simp [hE0]), if_neg hi]
          have e1 : reflAt1 base l f = (refl base l f).1 := by unfold reflAt1; rw [hE]; rfl
          have e2 : reflAt2 base l f = (refl base l f).2 := by unfold reflAt2; rw [hE]; rfl
          have hr : rreflV (refl base l f) = .tuple #[.int .i64 (refl base l f).1, .int .i64 (refl base l f).2, .bool true] := by unfold rreflV; rw [if_neg hi]
          have HR := Lib.hid hr
          have hrv := fun W hW => RVirtual_any base A l cap f W hE hW
          have HRV := Lib.hid hrv
          rw [hE, e1, e2]
          clear hE e1 e2 hr hi hE0 hrv
          go_wp2_with (go_at_call 20; refine (FrequencyErr_any _ _).mono ?_; rintro e w' ⟨rfl, rfl⟩; rw [H1.out])
          refine (RReflected_any base A l cap f _ HO.out hA7 (by omega) f1).mono ?_
          rintro e w8 ⟨rfl, hb8⟩
          rw [HR.out]
          have hz9 : w.heap.size < w8.heap.size := by have := hb8.size; omega
          have hz10 : w6.heap.size < w8.heap.size := by have := hb8.size; omega
          replace v0 := cell_below' hb8 v0
          replace v1 := cell_below' hb8 v1
          replace a0 := cell_below' hb8 a0
          replace a1 := cell_below' hb8 a1
          have hA8 := hA7.below hb8
          have hbw8 : Below w.heap.size w w8 := (by repeat (first | assumption | exact Below.refl _ _ | refine Below.drew ?_ | (refine below_alloc _ ?_ ?_; focus (first | omega | (simp; done) | (simp; omega) | (simp at *; omega))) | (refine below_set _ ?_ ?_; focus (first | omega | (simp; done) | (simp; omega) | (simp at *; omega))) | refine below_drewN ?_ _ | (refine below_call (by assumption) ?_ ?_; focus (first | omega | (simp; done) | (simp; omega) | (simp at *; omega))) | (refine below_call' (by assumption) ?_ ?_; focus (first | omega | (simp; done) | (simp; omega) | (simp at *; omega)))))
          clear hb8 hbw7 HR
          generalize refl base l f = r at *
          obtain ⟨r1, r2⟩ := r
          go_wp2
          (refine region_extx 23 (by kernel_rfl) (by kernel_rfl) fun hx => ?_; simp only [List.take_succ_cons, List.take_zero, List.drop_succ_cons, List.drop_zero]; (repeat (any_goals (first | go_big_quiet_step ((go_at_call 22; exact ext_call (HRV.out _ (hA8.below (ext_bel _ _))))) | quiet_step ((go_at_call 22; exact ext_call (HRV.out _ (hA8.below (ext_bel _ _)))))))))
          (refine wpQuiet_nil ?_; clear hx; intro u; have hbw9 := ext_bel _ u; have hxw9 := ext_cell _ u; generalize ext _ u = w9 at *; clear u; have hsw9 := hbw9.size; (try simp at hsw9))
          go_wp2
          go_ret
          exact ⟨rfl, (by repeat (first | assumption | exact Below.refl _ _ | refine Below.drew ?_ | (refine below_alloc _ ?_ ?_; focus (first | omega | (simp; done) | (simp; omega) | (simp at *; omega))) | (refine below_set _ ?_ ?_; focus (first | omega | (simp; done) | (simp; omega) | (simp at *; omega))) | refine below_drewN ?_ _ | (refine below_call (by assumption) ?_ ?_; focus (first | omega | (simp; done) | (simp; omega) | (simp at *; omega))) | (refine below_call' (by assumption) ?_ ?_; focus (first | omega | (simp; done) | (simp; omega) | (simp at *; omega)))))⟩
      · have hE0 : reflAtE0 base l f = unl (withinB f 1 3000) 2 := by unfold reflAtE0; rw [h0]; unfold firstE; rw [if_pos rfl]; unfold firstE; rw [if_neg h1]
        have hE : reflAtE base l f = unl (withinB f 1 3000) 2 := by unfold reflAtE; rw [if_pos (by rw [hE0]; exact h1), hE0]
        have e1 : reflAt1 base l f = 0 := by unfold reflAt1; rw [if_neg (by rw [hE]; exact h1)]
        have e2 : reflAt2 base l f = 0 := by unfold reflAt2; rw [if_neg (by rw [hE]; exact h1)]
        have e3 : vatLo base l f = 0 := by unfold vatLo; rw [if_neg (by rw [hE]; exact h1)]
        have e4 : vatHi base l f = 0 := by unfold vatHi; rw [if_neg (by rw [hE]; exact h1)]
        rw [hE, e1, e2, h0]
        rw [e3] at v0
        rw [e4] at v1
        rw [e3, e4]
        clear hE e1 e2 e3 e4 h0 hE0
        have h1' : (unl (withinB f 1 3000) 2 == 0) = false := by simpa using h1
        have h1'' : (unl (withinB f 1 3000) 2 != 0) = true := by simpa using h1
        clear h1
        go_wp2_with (go_at_call 20; refine (FrequencyErr_any _ _).mono ?_; rintro e w' ⟨rfl, rfl⟩)
        go_ret
        exact ⟨rfl, (by repeat (first | assumption | exact Below.refl _ _ | refine Below.drew ?_ | (refine below_alloc _ ?_ ?_; focus (first | omega | (simp; done) | (simp; omega) | (simp at *; omega))) | (refine below_set _ ?_ ?_; focus (first | omega | (simp; done) | (simp; omega) | (simp at *; omega))) | refine below_drewN ?_ _ | (refine below_call (by assumption) ?_ ?_; focus (first | omega | (simp; done) | (simp; omega) | (simp at *; omega))) | (refine below_call' (by assumption) ?_ ?_; focus (first | omega | (simp; done) | (simp; omega) | (simp at *; omega)))))⟩
    · have hE0 : reflAtE0 base l f = chkE base l := by unfold reflAtE0; unfold firstE; rw [if_neg h0]
      have hE : reflAtE base l f = chkE base l := by unfold reflAtE; rw [if_pos (by rw [hE0]; exact h0), hE0]
      have e1 : reflAt1 base l f = 0 := by unfold reflAt1; rw [if_neg (by rw [hE]; exact h0)]
      have e2 : reflAt2 base l f = 0 := by unfold reflAt2; rw [if_neg (by rw [hE]; exact h0)]
      have e3 : vatLo base l f = 0 := by unfold vatLo; rw [if_neg (by rw [hE]; exact h0)]
      have e4 : vatHi base l f = 0 := by unfold vatHi; rw [if_neg (by rw [hE]; exact h0)]
      rw [hE, e1, e2]
      rw [e3] at v0
      rw [e4] at v1
      rw [e3, e4]
      clear hE e1 e2 e3 e4 hE0
      have h1' : (chkE base l == 0) = false := by simpa using h0
      have h1'' : (chkE base l != 0) = true := by simpa using h0
      clear h0
      go_wp2
      go_ret
      exact ⟨rfl, (by repeat (first | assumption | exact Below.refl _ _ | refine Below.drew ?_ | (refine below_alloc _ ?_ ?_; focus (first | omega | (simp; done) | (simp; omega) | (simp at *; omega))) | (refine below_set _ ?_ ?_; focus (first | omega | (simp; done) | (simp; omega) | (simp at *; omega))) | refine below_drewN ?_ _ | (refine below_call (by assumption) ?_ ?_; focus (first | omega | (simp; done) | (simp; omega) | (simp at *; omega))) | (refine below_call' (by assumption) ?_ ?_; focus (first | omega | (simp; done) | (simp; omega) | (simp at *; omega)))))⟩
  · have hfd : decide ((l.length : Int) ≤ 14) = false := by simpa using hf
    go_wp2
    go_ret
    exact ⟨rfl, (by repeat (first | assumption | exact Below.refl _ _ | refine Below.drew ?_ | (refine below_alloc _ ?_ ?_; focus (first | omega | (simp; done) | (simp; omega) | (simp at *; omega))) | (refine below_set _ ?_ ?_; focus (first | omega | (simp; done) | (simp; omega) | (simp at *; omega))) | refine below_drewN ?_ _ | (refine below_call (by assumption) ?_ ?_; focus (first | omega | (simp; done) | (simp; omega) | (simp at *; omega))) | (refine below_call' (by assumption) ?_ ?_; focus (first | omega | (simp; done) | (simp; omega) | (simp at *; omega)))))⟩
end Go.Proofs.Ytoegpaolbkcleaa
