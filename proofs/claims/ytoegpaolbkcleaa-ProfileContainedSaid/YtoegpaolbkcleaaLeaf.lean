/-
  The walks of the small functions: ranges, errors, quotients, roots, indexes.
-/
import Derived.Test.YtoegpaolbkcleaaNum
namespace Go.Proofs.Ytoegpaolbkcleaa
open Go.ChangeShapes Go.WideShapes Go.ChangeAt Go.RowKit

theorem Within_any (n lo hi : Int) (w : World) :
    Calls Try.prog 23 #[.int .i64 n, .int .i64 lo, .int .i64 hi] w fun e w' => e = .returned (.bool (withinB n lo hi)) ∧ w = w' := by
  unfold withinB
  by_cases h1 : lo ≤ n <;> by_cases h2 : n ≤ hi
  all_goals
    go_enter Try.func23, Try.ntmps23
    go_wp2
    go_ret
    exact ⟨by simp [h1, h2], rfl⟩
theorem within_any (n lo hi : Int) (w : World) :
    Calls Try.prog 75 #[.int .i64 n, .int .i64 lo, .int .i64 hi] w fun e w' => e = .returned (.bool (withinB n lo hi)) ∧ w = w' := by
  unfold withinB
  by_cases h1 : lo ≤ n <;> by_cases h2 : n ≤ hi
  all_goals
    go_enter Try.func75, Try.ntmps75
    go_wp2
    go_ret
    exact ⟨by simp [h1, h2], rfl⟩
theorem isThickness_any (n : Int) (w : World) :
    Calls Try.prog 78 #[.int .i64 n] w fun e w' => e = .returned (.bool (withinB n 0 500)) ∧ w = w' := by
  go_enter Try.func78, Try.ntmps78
  go_wp2_with (go_at_call 75; refine (within_any _ _ _ _).mono ?_; rintro e w' ⟨rfl, rfl⟩)
  go_ret
  exact ⟨rfl, rfl⟩
theorem isFrequency_any (n : Int) (w : World) :
    Calls Try.prog 95 #[.int .i64 n] w fun e w' => e = .returned (.bool (withinB n 1 3000)) ∧ w = w' := by
  go_enter Try.func95, Try.ntmps95
  go_wp2_with (go_at_call 75; refine (within_any _ _ _ _).mono ?_; rintro e w' ⟨rfl, rfl⟩)
  go_ret
  exact ⟨rfl, rfl⟩
def unl (b : Bool) (e : Int) : Int := if b then 0 else e
theorem unless_any (b : Bool) (e : Int) (w : World) :
    Calls Try.prog 74 #[.bool b, .int .i64 e] w fun r w' => r = .returned (.int .i64 (unl b e)) ∧ w = w' := by
  cases b
  all_goals
    go_enter Try.func74, Try.ntmps74
    go_wp2
    go_ret
    exact ⟨rfl, rfl⟩
theorem frequencyErr_any (n : Int) (w : World) :
    Calls Try.prog 69 #[.int .i64 n] w fun e w' => e = .returned (.int .i64 (unl (withinB n 1 3000) 2)) ∧ w = w' := by
  go_enter Try.func69, Try.ntmps69
  go_wp2_with (first | (go_at_call 95; refine (isFrequency_any _ _).mono ?_; rintro e w' ⟨rfl, rfl⟩) | (go_at_call 74; refine (unless_any _ _ _).mono ?_; rintro e w' ⟨rfl, rfl⟩))
  go_ret
  exact ⟨rfl, rfl⟩
theorem FrequencyErr_any (n : Int) (w : World) :
    Calls Try.prog 20 #[.int .i64 n] w fun e w' => e = .returned (.int .i64 (unl (withinB n 1 3000) 2)) ∧ w = w' := by
  cases hb : withinB n 1 3000
  all_goals
    have H := Lib.hid hb
    clear hb
    go_enter Try.func20, Try.ntmps20
    go_wp2_with (go_at_call 23; refine (Within_any _ _ _ _).mono ?_; rintro e w' ⟨rfl, rfl⟩; rw [H.out])
    go_ret
    exact ⟨rfl, rfl⟩
theorem first_any (A : Option Addr) (l : List Int) (cap : Nat) (w : World) (hl : l.length ≤ 100) (hA : RowsAt 1 (fun x _ => .int .i64 x) w A l) :
    Calls Try.prog 68 #[.slice A l.length cap] w fun e w' => e = .returned (.int .i64 (firstE l)) ∧ w = w' := by
  go_enter Try.func68, Try.ntmps68
  go_wp2
  go_loop [7] (fun i => ∃ k : Nat, k ≤ l.length ∧ i = .int .i64 k ∧ firstE l = firstE (l.drop k)) (fun i => l.length - (intOf i).toNat)
  case atStart => exact ⟨0, Nat.zero_le _, rfl, rfl⟩
  case round =>
    obtain ⟨k, hk, rfl, he⟩ := hrel
    have H := Lib.hid he
    clear he
    by_cases hlt : k < l.length
    · have hd : l.drop k = l[k] :: l.drop (k + 1) := List.drop_eq_getElem_cons hlt
      rw [hd] at H
      obtain ⟨b, off, rfl, hb, hc⟩ := hA k l[k] (List.getElem?_eq_getElem hlt)
      have hc0 := hc 0 (by omega)
      simp only [Nat.mul_one, Nat.add_zero] at hc0
      clear hc hd
      by_cases hx : l[k] = 0
      · rw [hx] at H hc0
        go_wp2
        go_round
        case rel => exact ⟨k + 1, by omega, by go_num, H.out⟩
        case measure => simp [intOf]; omega
      · generalize l[k] = x at *
        have hx' : (x == 0) = false := by simpa using hx
        have hx2 : (x != 0) = true := by simpa using hx
        have HX := Lib.hid hx
        clear hx
        go_wp2
        go_ret
        exact ⟨ret_int (by rw [H.out]; simp [firstE, HX.out]), rfl⟩
    · have e : l.drop k = [] := List.drop_eq_nil_of_le (by omega)
      rw [e] at H
      clear e
      go_wp2
      go_ret
      exact ⟨ret_int (by rw [H.out]; rfl), rfl⟩
theorem floor_any (n b : Int) (w : World) (hb : 0 < b) (hb2 : b ≤ 4000000) (h1 : -4611686018427387904 ≤ n) (h2 : n ≤ 4611686018427387904) :
    Calls Try.prog 97 #[.int .i64 n, .int .i64 b] w fun e w' => e = .returned (.int .i64 (n / b)) ∧ w = w' := by
  have hbd := ediv_bd n b hb _ _ h1 h2 (by omega) (by omega)
  have hf := floor_of n b hb
  by_cases hc : n.tmod b < 0
  · rw [if_pos hc] at hf
    have h3 : -4611686018427387904 ≤ n.tdiv b - 1 := by omega
    have h4 : n.tdiv b - 1 ≤ 4611686018427387904 := by omega
    have H := Lib.hid hf
    clear hf hbd
    go_enter Try.func97, Try.ntmps97
    go_wp2
    go_ret
    exact ⟨ret_int H.out, rfl⟩
  · rw [if_neg hc] at hf
    have H := Lib.hid hf
    clear hf hbd
    go_enter Try.func97, Try.ntmps97
    go_wp2
    go_ret
    exact ⟨ret_int H.out, rfl⟩
theorem Floor_any (n b : Int) (w : World) (hb : 0 < b) (hb2 : b ≤ 4000000) (h1 : -4611686018427387904 ≤ n) (h2 : n ≤ 4611686018427387904) :
    Calls Try.prog 72 #[.int .i64 n, .int .i64 b] w fun e w' => e = .returned (.int .i64 (n / b)) ∧ w = w' := by
  have hbd := ediv_bd n b hb _ _ h1 h2 (by omega) (by omega)
  have hf := floor_of n b hb
  by_cases hc : n.tmod b < 0
  · rw [if_pos hc] at hf
    have h3 : -4611686018427387904 ≤ n.tdiv b - 1 := by omega
    have h4 : n.tdiv b - 1 ≤ 4611686018427387904 := by omega
    have H := Lib.hid hf
    clear hf hbd
    go_enter Try.func72, Try.ntmps72
    go_wp2
    go_ret
    exact ⟨ret_int H.out, rfl⟩
  · rw [if_neg hc] at hf
    have H := Lib.hid hf
    clear hf hbd
    go_enter Try.func72, Try.ntmps72
    go_wp2
    go_ret
    exact ⟨ret_int H.out, rfl⟩
theorem ceil_any (n b : Int) (w : World) (hb : 0 < b) (hb2 : b ≤ 4000000) (h1 : -4611686018427387904 ≤ n) (h2 : n ≤ 4611686018427387904) :
    Calls Try.prog 98 #[.int .i64 n, .int .i64 b] w fun e w' => e = .returned (.int .i64 (ceilI n b)) ∧ w = w' := by
  have hbd := ediv_bd (-n) b hb (-4611686018427387904) 4611686018427387904 (by omega) (by omega) (by omega) (by omega)
  unfold ceilI
  go_enter Try.func98, Try.ntmps98
  go_wp2_with (go_at_call 97; refine (floor_any _ _ _ (by omega) (by omega) (by omega) (by omega)).mono ?_; rintro e w' ⟨rfl, rfl⟩)
  go_ret
  exact ⟨rfl, rfl⟩
theorem Ceil_any (n b : Int) (w : World) (hb : 0 < b) (hb2 : b ≤ 4000000) (h1 : -4611686018427387904 ≤ n) (h2 : n ≤ 4611686018427387904) :
    Calls Try.prog 73 #[.int .i64 n, .int .i64 b] w fun e w' => e = .returned (.int .i64 (ceilI n b)) ∧ w = w' := by
  have hbd := ediv_bd (-n) b hb (-4611686018427387904) 4611686018427387904 (by omega) (by omega) (by omega) (by omega)
  unfold ceilI
  go_enter Try.func73, Try.ntmps73
  go_wp2_with (go_at_call 72; refine (Floor_any _ _ _ (by omega) (by omega) (by omega) (by omega)).mono ?_; rintro e w' ⟨rfl, rfl⟩)
  go_ret
  exact ⟨rfl, rfl⟩
end Go.Proofs.Ytoegpaolbkcleaa
