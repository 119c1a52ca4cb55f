/-
  Chapter 8: stateErr, StepOf; the reference's StateErr.
-/
import Derived.Test.YtcfbnmcdncndpaaWRcR
namespace Go.Proofs.Ytcfbnmcdncndpaa
open Go.ChangeShapes Go.WideShapes Go.ChangeAt Go.RowKit
set_option linter.unusedVariables false
set_option linter.unusedSimpArgs false

def stB (n : Nat) (hold : Int) (s : Sta) : Bool := withinB s.l 0 n && (withinB s.b 0 (hold - 1) && withinB s.v 0 999999)
def stZ (s : Sta) : Bool := decide (0 < s.l) || (s.b == 0)
def stE (n : Nat) (hold : Int) (s : Sta) : Int := firstE [unl (stB n hold s) 2, unl (stZ s) 13]
theorem stE_ok {n : Nat} {hold : Int} {s : Sta} (h : stE n hold s = 0) (hh : hold ≤ 20) : OkS n s := by
  unfold stE at h
  rw [firstE2, unl_zero (by decide), unl_zero (by decide)] at h
  obtain ⟨h, -⟩ := h
  unfold stB at h
  rw [Bool.and_eq_true, Bool.and_eq_true, withinB_true, withinB_true, withinB_true] at h
  obtain ⟨⟨a, b⟩, ⟨c, d⟩, e, f⟩ := h
  exact ⟨a, b, c, by omega, e, by omega⟩
set_option maxRecDepth 100000 in
set_option maxHeartbeats 4000000 in
theorem stateErr_any (nm : ByteArray) (A : Option Addr) (u : List Int) (ca : Nat) (B : Option Addr) (ld cb : Nat) (hold l b v : Int) (w : World) (h1 : 1 ≤ hold) (h2 : hold ≤ 20) :
    Calls Try.prog 100 #[.agg #[.string nm, .slice A u.length ca, .slice B ld cb, .int .i64 hold], .agg #[.int .i64 l, .int .i64 b, .int .i64 v]] w fun e w' => e = .returned (.int .i64 (stE u.length hold ⟨l, b, v⟩)) ∧ Below w.heap.size w w' := by
  have hq : stE u.length hold ⟨l, b, v⟩ = firstE [unl (withinB l 0 u.length && (withinB b 0 (hold - 1) && withinB v 0 999999)) 2, unl (decide (0 < l) || (b == 0)) 13] := rfl
  cases a1 : withinB l 0 u.length <;> cases a2 : withinB b 0 (hold - 1) <;> cases a3 : withinB v 0 999999 <;> cases a4 : decide (0 < l) <;> cases a5 : (b == 0)
  all_goals
    rw [a1, a2, a3, a4, a5] at hq
    rw [hq]
    have H1 := Lib.hid a1
    have H2 := Lib.hid a2
    have H3 := Lib.hid a3
    clear hq a1 a2 a3
    go_enter Try.func100, Try.ntmps100
    go_wp2_with (go_at_call 88; refine (within_any _ _ _ _).mono ?_; rintro e w' ⟨rfl, rfl⟩; first | rw [H1.out] | rw [H2.out] | rw [H3.out])
    (refine region_extx 11 (by kernel_rfl) (by kernel_rfl) fun hx => ?_; simp only [List.take_succ_cons, List.take_zero, List.drop_succ_cons, List.drop_zero]; (repeat (any_goals (first | go_big_quiet_step (((go_at_call 86; exact ext_same (unless_any _ _ _)))) | quiet_step (((go_at_call 86; exact ext_same (unless_any _ _ _))))))))
    (refine wpQuiet_nil ?_; clear hx; intro u; have hbw2 := ext_bel _ u; have hxw2 := ext_cell _ u; generalize ext _ u = w2 at *; clear u; have hsw2 := hbw2.size; (try simp at hsw2))
    go_wp2_with (go_at_call 84; refine (first2 _ _ _ _ (by simp) (cell_new (by simp) rfl) (cell_new (by simp) rfl)).mono ?_; rintro e w' ⟨rfl, rfl⟩)
    go_ret
    exact ⟨rfl, (by repeat (first | assumption | exact Below.refl _ _ | refine Below.drew ?_ | (refine below_alloc _ ?_ ?_; focus (first | omega | (simp; done) | (simp; omega) | (simp at *; omega))) | (refine below_set _ ?_ ?_; focus (first | omega | (simp; done) | (simp; omega) | (simp at *; omega))) | refine below_drewN ?_ _ | (refine below_call (by assumption) ?_ ?_; focus (first | omega | (simp; done) | (simp; omega) | (simp at *; omega))) | (refine below_call' (by assumption) ?_ ?_; focus (first | omega | (simp; done) | (simp; omega) | (simp at *; omega)))))⟩
theorem stB_l {n : Nat} {hold : Int} {s : Sta} (h : stB n hold s = true) : 0 ≤ s.l := by
  unfold stB at h
  rw [Bool.and_eq_true, withinB_true] at h
  exact h.1.1
set_option maxRecDepth 100000 in
set_option maxHeartbeats 4000000 in
theorem RStateErr_any (nm : ByteArray) (A : Option Addr) (u : List Int) (ca : Nat) (B : Option Addr) (ld cb : Nat) (hold l b v : Int) (w : World) (h1 : 1 ≤ hold) (h2 : hold ≤ 20) :
    Calls Try.prog 44 #[.agg #[.string nm, .slice A u.length ca, .slice B ld cb, .int .i64 hold], .agg #[.int .i64 l, .int .i64 b, .int .i64 v]] w fun e w' => e = .returned (.int .i64 (stE u.length hold ⟨l, b, v⟩)) ∧ Below w.heap.size w w' := by
  have hq : stE u.length hold ⟨l, b, v⟩ = firstE [unl (withinB l 0 u.length && (withinB b 0 (hold - 1) && withinB v 0 999999)) 2, unl (decide (0 < l) || (b == 0)) 13] := rfl
  cases a1 : withinB l 0 u.length
  · rw [a1] at hq
    rw [hq]
    have H1 := Lib.hid a1
    clear hq a1
    go_enter Try.func44, Try.ntmps44
    go_wp2_with (go_at_call 22; refine (Within_any _ _ _ _).mono ?_; rintro e w' ⟨rfl, rfl⟩; rw [H1.out])
    go_ret
    exact ⟨rfl, (by repeat (first | assumption | exact Below.refl _ _ | refine Below.drew ?_ | (refine below_alloc _ ?_ ?_; focus (first | omega | (simp; done) | (simp; omega) | (simp at *; omega))) | (refine below_set _ ?_ ?_; focus (first | omega | (simp; done) | (simp; omega) | (simp at *; omega))) | refine below_drewN ?_ _ | (refine below_call (by assumption) ?_ ?_; focus (first | omega | (simp; done) | (simp; omega) | (simp at *; omega))) | (refine below_call' (by assumption) ?_ ?_; focus (first | omega | (simp; done) | (simp; omega) | (simp at *; omega)))))⟩
  have hl := (withinB_true.1 a1).1
  cases a2 : withinB b 0 (hold - 1) <;> cases a3 : withinB v 0 999999 <;> cases a5 : (b == 0)
  all_goals
    have H1 := Lib.hid a1
    have H2 := Lib.hid a2
    have H3 := Lib.hid a3
    rw [a1, a2, a3, a5] at hq
    have hb : (b != 0) = !(b == 0) := rfl
    rw [a5] at hb
    by_cases hl0 : l = 0
    · have a4 : decide (0 < l) = false := by simp; omega
      rw [a4] at hq
      rw [hq]
      have e1 : (l == 0) = true := by simp [hl0]
      clear hq a1 a2 a3 hl0 a4
      go_enter Try.func44, Try.ntmps44
      go_wp2_with (go_at_call 22; refine (Within_any _ _ _ _).mono ?_; rintro e w' ⟨rfl, rfl⟩; first | rw [H1.out] | rw [H2.out] | rw [H3.out])
      go_ret
      exact ⟨rfl, (by repeat (first | assumption | exact Below.refl _ _ | refine Below.drew ?_ | (refine below_alloc _ ?_ ?_; focus (first | omega | (simp; done) | (simp; omega) | (simp at *; omega))) | (refine below_set _ ?_ ?_; focus (first | omega | (simp; done) | (simp; omega) | (simp at *; omega))) | refine below_drewN ?_ _ | (refine below_call (by assumption) ?_ ?_; focus (first | omega | (simp; done) | (simp; omega) | (simp at *; omega))) | (refine below_call' (by assumption) ?_ ?_; focus (first | omega | (simp; done) | (simp; omega) | (simp at *; omega)))))⟩
    · have a4 : decide (0 < l) = true := by simp; omega
      rw [a4] at hq
      rw [hq]
      have e1 : (l == 0) = false := by simp [hl0]
      clear hq a1 a2 a3 hl0 a4
      go_enter Try.func44, Try.ntmps44
      go_wp2_with (go_at_call 22; refine (Within_any _ _ _ _).mono ?_; rintro e w' ⟨rfl, rfl⟩; first | rw [H1.out] | rw [H2.out] | rw [H3.out])
      go_ret
      exact ⟨rfl, (by repeat (first | assumption | exact Below.refl _ _ | refine Below.drew ?_ | (refine below_alloc _ ?_ ?_; focus (first | omega | (simp; done) | (simp; omega) | (simp at *; omega))) | (refine below_set _ ?_ ?_; focus (first | omega | (simp; done) | (simp; omega) | (simp at *; omega))) | refine below_drewN ?_ _ | (refine below_call (by assumption) ?_ ?_; focus (first | omega | (simp; done) | (simp; omega) | (simp at *; omega))) | (refine below_call' (by assumption) ?_ ?_; focus (first | omega | (simp; done) | (simp; omega) | (simp at *; omega)))))⟩
end Go.Proofs.Ytcfbnmcdncndpaa
