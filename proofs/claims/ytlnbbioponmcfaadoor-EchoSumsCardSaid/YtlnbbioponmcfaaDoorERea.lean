/-
  Chapter 2: readings: their errors; phases of directions.
-/
import Derived.Test.YtlnbbioponmcfaaDoorESmp
namespace Go.Proofs.YtlnbbioponmcfaaDoor
open Go.ChangeShapes Go.WideShapes Go.ChangeAt Go.RowKit
set_option linter.unusedVariables false
set_option linter.unusedSimpArgs false

theorem phs_E (s d : Int) : firstE [unl (withinB s (-360) 360) 2, unl (withinB d (-90) 90) 2] = if withinB s (-360) 360 && withinB d (-90) 90 then 0 else 2 := by
  cases withinB s (-360) 360 <;> cases withinB d (-90) 90 <;> rfl
/-- the phase of a direction for a spacing, or the error -/
def phaseQ (s d : Int) : Int × Int := if withinB s (-360) 360 && withinB d (-90) 90 then (s * d % 720, 0) else (0, 2)
/-- the error of a reading -/
def rdB (r : Rd) : Bool := withinB r.s (-360) 360 && (withinB r.p 0 719 && withinB r.e 0 360)
def rdE (r : Rd) : Int := unl (rdB r) 2
structure OkRd (r : Rd) : Prop where
  s0 : -360 ≤ r.s
  s1 : r.s ≤ 360
  p0 : 0 ≤ r.p
  p1 : r.p ≤ 719
  e0 : 0 ≤ r.e
  e1 : r.e ≤ 360
theorem rdB_true {r : Rd} (h : rdB r = true) : OkRd r := by
  unfold rdB at h
  rw [Bool.and_eq_true, Bool.and_eq_true, withinB_true, withinB_true, withinB_true] at h
  exact ⟨h.1.1, h.1.2, h.2.1.1, h.2.1.2, h.2.2.1, h.2.2.2⟩
theorem rdB_of {r : Rd} (h : OkRd r) : rdB r = true := by
  unfold rdB
  rw [Bool.and_eq_true, Bool.and_eq_true, withinB_true, withinB_true, withinB_true]
  exact ⟨⟨h.s0, h.s1⟩, ⟨h.p0, h.p1⟩, h.e0, h.e1⟩
theorem rdE_zero {r : Rd} (h : rdE r = 0) : OkRd r := by
  unfold rdE at h
  cases hb : rdB r
  · rw [hb] at h; cases h
  · exact rdB_true hb
theorem rdE_of {r : Rd} (h : OkRd r) : rdE r = 0 := by unfold rdE; rw [rdB_of h]; rfl
theorem rdE_eq (b1 b2 b3 : Bool) : firstE [unl b1 2, unl (b2 && b3) 2] = unl (b1 && (b2 && b3)) 2 := by cases b1 <;> cases b2 <;> cases b3 <;> rfl
set_option maxRecDepth 100000 in
set_option maxHeartbeats 1000000 in
theorem CheckReading_any (r : Rd) (w : World) :
    Calls Tryd.prog 56 #[rv r] w fun e w' => e = .returned (.int .i64 (rdE r)) ∧ Below w.heap.size w w' := by
  have hq : rdE r = unl (withinB r.s (-360) 360 && (withinB r.p 0 719 && withinB r.e 0 360)) 2 := rfl
  rw [← rdE_eq] at hq
  have H1 := Lib.hid (fun W => spacingErr_any r.s W)
  have H2 := Lib.hid (fun W => within_any r.p 0 719 W)
  have H3 := Lib.hid (fun W => within_any r.e 0 360 W)
  generalize withinB r.s (-360) 360 = b1 at *
  generalize withinB r.p 0 719 = b2 at *
  generalize withinB r.e 0 360 = b3 at *
  obtain ⟨s, p, e⟩ := r
  simp only [rv] at *
  cases b2
  all_goals
    have HQ := Lib.hid hq
    clear hq
    go_enter Tryd.func56, Tryd.ntmps56
    go_wp2_with (fail)
    (refine region_extx 12 (by kernel_rfl) (by kernel_rfl) fun hx => ?_; simp only [List.take_succ_cons, List.take_zero, List.drop_succ_cons, List.drop_zero]; (repeat (any_goals (first | go_big_quiet_step ((first | ((go_at_call 40; with_reducible exact ext_same (H1.out _))) | ((go_at_call 32; with_reducible exact ext_same (H2.out _))) | ((go_at_call 32; with_reducible exact ext_same (H3.out _))) | ((go_at_call 28; with_reducible exact ext_same (unless_any _ _ _))))) | quiet_step ((first | ((go_at_call 40; with_reducible exact ext_same (H1.out _))) | ((go_at_call 32; with_reducible exact ext_same (H2.out _))) | ((go_at_call 32; with_reducible exact ext_same (H3.out _))) | ((go_at_call 28; with_reducible exact ext_same (unless_any _ _ _)))))))))
    (refine wpQuiet_nil ?_; clear hx; intro u; have hbw2 := ext_bel _ u; have hxw2 := ext_cell _ u; generalize ext _ u = w2 at *; clear u; have hsw2 := hbw2.size; (try simp at hsw2))
    go_wp2_with (go_at_call 27; refine (first2 _ _ _ _ (by simp) (cell_new (by simp) rfl) (cell_new (by simp) rfl)).mono ?_; rintro e w' ⟨rfl, rfl⟩)
    go_ret
    exact ⟨ret_int (by rw [HQ.out]; rfl), (by repeat (first | assumption | exact Below.refl _ _ | refine Below.drew ?_ | (refine below_alloc _ ?_ ?_; focus (first | omega | (simp; done) | (simp; omega) | (simp at *; omega))) | (refine below_set _ ?_ ?_; focus (first | omega | (simp; done) | (simp; omega) | (simp at *; omega))) | refine below_drewN ?_ _ | (refine below_call (by assumption) ?_ ?_; focus (first | omega | (simp; done) | (simp; omega) | (simp at *; omega))) | (refine below_call' (by assumption) ?_ ?_; focus (first | omega | (simp; done) | (simp; omega) | (simp at *; omega)))))⟩
def rdsG (l : List Rd) : Int := firstE (l.map rdE)
theorem rdsG_cons (x : Rd) (r : List Rd) : rdsG (x :: r) = if rdE x = 0 then rdsG r else rdE x := rfl
theorem rdsG_zero {l : List Rd} (h : rdsG l = 0) : ∀ x ∈ l, OkRd x := by
  induction l with
  | nil => intro x hx; cases hx
  | cons y r ih =>
    rw [rdsG_cons] at h
    by_cases hy : rdE y = 0
    · rw [if_pos hy] at h
      intro x hx
      rcases List.mem_cons.1 hx with rfl | hx
      · exact rdE_zero hy
      · exact ih h x hx
    · rw [if_neg hy] at h; exact absurd h hy
theorem rdsG_of {l : List Rd} (h : ∀ x ∈ l, OkRd x) : rdsG l = 0 := by
  induction l with
  | nil => rfl
  | cons y r ih => rw [rdsG_cons, if_pos (rdE_of (h y (List.mem_cons_self ..)))]; exact ih fun x hx => h x (List.mem_cons_of_mem _ hx)
def rdsE (l : List Rd) : Int := firstE [unl (decide (l.length ≤ 8)) 8, rdsG l]
theorem rdsE_zero {l : List Rd} (h : rdsE l = 0) : l.length ≤ 8 ∧ ∀ x ∈ l, OkRd x := by
  unfold rdsE at h
  by_cases hl : l.length ≤ 8
  · rw [decide_eq_true hl, unl_true, firstE_z, firstE1] at h
    exact ⟨hl, rdsG_zero h⟩
  · rw [decide_eq_false hl, unl_false, firstE_nz (by decide)] at h
    cases h
theorem rdsE_of {l : List Rd} (h1 : l.length ≤ 8) (h2 : ∀ x ∈ l, OkRd x) : rdsE l = 0 := by
  unfold rdsE
  rw [decide_eq_true h1, unl_true, firstE_z, firstE1, rdsG_of h2]
set_option maxHeartbeats 1000000 in
theorem eachR_any (A : Option Addr) (l : List Rd) (cap : Nat) (w : World) (hl : l.length ≤ 1000) (hA : RdsAt w A l) :
    Calls Tryd.prog 55 #[.slice A l.length cap, .func (.func 56) #[] #[]] w fun e w' => e = .returned (.int .i64 (rdsG l)) ∧ Below w.heap.size w w' := by
  go_enter Tryd.func55, Tryd.ntmps55
  go_wp2_with (fail)
  go_loopw [10] (fun i wr => ∃ k : Nat, k ≤ l.length ∧ i = .int .i64 k ∧ rdsG l = rdsG (l.drop k) ∧ Below w.heap.size w wr) (fun i _ => l.length - (intOf i).toNat)
  case atStart => exact ⟨0, Nat.zero_le _, rfl, rfl, Below.refl _ _⟩
  case round =>
    obtain ⟨k, hk, rfl, he, hbr⟩ := hrel
    have H := Lib.hid he
    have hAr := RowsAt.below hA hbr
    clear he
    by_cases hlt : k < l.length
    · have hd : l.drop k = l[k] :: l.drop (k + 1) := List.drop_eq_getElem_cons hlt
      rw [hd, rdsG_cons] at H
      clear hd
      obtain ⟨b1, o1, rfl, hb1, c0, c1, c2⟩ := RdsAt.at_ hAr hlt
      have HS := Lib.hid (fun W => CheckReading_any l[k] W)
      generalize l[k] = g at *
      simp only [rv] at HS
      have hk1 : (k : Int) < (l.length : Int) := by omega
      by_cases hx : rdE g = 0
      · rw [if_pos hx] at H
        rw [hx] at HS
        clear hx
        go_wp2_with (fail)
        refine (HS.out _).mono ?_
        rintro e w2 ⟨rfl, hb2⟩
        have hw2 : Below w.heap.size w w2 := (by repeat (first | assumption | exact Below.refl _ _ | refine Below.drew ?_ | (refine below_alloc _ ?_ ?_; focus (first | omega | (simp; done) | (simp; omega) | (simp at *; omega))) | (refine below_set _ ?_ ?_; focus (first | omega | (simp; done) | (simp; omega) | (simp at *; omega))) | refine below_drewN ?_ _ | (refine below_call (by assumption) ?_ ?_; focus (first | omega | (simp; done) | (simp; omega) | (simp at *; omega))) | (refine below_call' (by assumption) ?_ ?_; focus (first | omega | (simp; done) | (simp; omega) | (simp at *; omega)))))
        clear hb2
        go_wp2_with (fail)
        exact ⟨⟨k + 1, by omega, by go_num, H.out, hw2⟩, by simp [intOf]; omega⟩
      · rw [if_neg hx] at H
        have e2 : (rdE g != 0) = true := by simpa using hx
        clear hx
        generalize rdE g = E at *
        go_wp2_with (fail)
        refine (HS.out _).mono ?_
        rintro e w2 ⟨rfl, hb2⟩
        have hw2 : Below w.heap.size w w2 := (by repeat (first | assumption | exact Below.refl _ _ | refine Below.drew ?_ | (refine below_alloc _ ?_ ?_; focus (first | omega | (simp; done) | (simp; omega) | (simp at *; omega))) | (refine below_set _ ?_ ?_; focus (first | omega | (simp; done) | (simp; omega) | (simp at *; omega))) | refine below_drewN ?_ _ | (refine below_call (by assumption) ?_ ?_; focus (first | omega | (simp; done) | (simp; omega) | (simp at *; omega))) | (refine below_call' (by assumption) ?_ ?_; focus (first | omega | (simp; done) | (simp; omega) | (simp at *; omega)))))
        clear hb2
        go_wp2_with (fail)
        go_ret
        exact ⟨ret_int (by rw [H.out]), hw2⟩
    · have e : l.drop k = [] := List.drop_eq_nil_of_le (by omega)
      rw [e] at H
      clear e
      go_wp2_with (fail)
      go_ret
      exact ⟨ret_int (by rw [H.out]; rfl), hbr⟩
set_option maxHeartbeats 1000000 in
theorem readingsErr_any (A : Option Addr) (l : List Rd) (cap : Nat) (w : World) (hl : l.length ≤ 1000) (hA : RdsAt w A l) :
    Calls Tryd.prog 36 #[.slice A l.length cap] w fun e w' => e = .returned (.int .i64 (rdsE l)) ∧ Below w.heap.size w w' := by
  have hq : rdsE l = firstE [unl (decide (l.length ≤ 8)) 8, rdsG l] := rfl
  have HE := Lib.hid (fun W (h : RdsAt W A l) => eachR_any A l cap W hl h)
  generalize rdsG l = e2 at *
  have e64 : decide ((l.length : Int) ≤ 8) = decide (l.length ≤ 8) := by by_cases h : l.length ≤ 8 <;> simp [h] <;> omega
  have HQ := Lib.hid hq
  clear hq
  generalize hb : decide (l.length ≤ 8) = b at *
  clear hb
  go_enter Tryd.func36, Tryd.ntmps36
  go_wp2_with (go_at_call 28; refine (unless_any _ _ _).mono ?_; rintro e w' ⟨rfl, rfl⟩)
  refine (HE.out _ hA).mono ?_
  rintro e w1 ⟨rfl, hb1⟩
  go_wp2_with (go_at_call 27; refine (first2 _ _ _ _ (by simp) (cell_new (by simp) rfl) (cell_new (by simp) rfl)).mono ?_; rintro e w' ⟨rfl, rfl⟩)
  go_ret
  exact ⟨ret_int (by rw [HQ.out]), (by repeat (first | assumption | exact Below.refl _ _ | refine Below.drew ?_ | (refine below_alloc _ ?_ ?_; focus (first | omega | (simp; done) | (simp; omega) | (simp at *; omega))) | (refine below_set _ ?_ ?_; focus (first | omega | (simp; done) | (simp; omega) | (simp at *; omega))) | refine below_drewN ?_ _ | (refine below_call (by assumption) ?_ ?_; focus (first | omega | (simp; done) | (simp; omega) | (simp at *; omega))) | (refine below_call' (by assumption) ?_ ?_; focus (first | omega | (simp; done) | (simp; omega) | (simp at *; omega)))))⟩end Go.Proofs.YtlnbbioponmcfaaDoor
