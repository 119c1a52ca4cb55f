/-
  Chapter 8: the small functions: ranges, errors, values.
-/
import Derived.Test.YtcfbnmcdncndpaaNum
namespace Go.Proofs.Ytcfbnmcdncndpaa
open Go.ChangeShapes Go.WideShapes Go.ChangeAt Go.RowKit
set_option linter.unusedVariables false

theorem Within_any (n lo hi : Int) (w : World) :
    Calls Try.prog 22 #[.int .i64 n, .int .i64 lo, .int .i64 hi] w fun e w' => e = .returned (.bool (withinB n lo hi)) ∧ w = w' := by
  unfold withinB
  by_cases h1 : lo ≤ n <;> by_cases h2 : n ≤ hi
  all_goals
    go_enter Try.func22, Try.ntmps22
    go_wp2
    go_ret
    exact ⟨by simp [h1, h2], rfl⟩
theorem within_any (n lo hi : Int) (w : World) :
    Calls Try.prog 88 #[.int .i64 n, .int .i64 lo, .int .i64 hi] w fun e w' => e = .returned (.bool (withinB n lo hi)) ∧ w = w' := by
  unfold withinB
  by_cases h1 : lo ≤ n <;> by_cases h2 : n ≤ hi
  all_goals
    go_enter Try.func88, Try.ntmps88
    go_wp2
    go_ret
    exact ⟨by simp [h1, h2], rfl⟩
def unl (b : Bool) (e : Int) : Int := if b then 0 else e
theorem unless_any (b : Bool) (e : Int) (w : World) :
    Calls Try.prog 86 #[.bool b, .int .i64 e] w fun r w' => r = .returned (.int .i64 (unl b e)) ∧ w = w' := by
  cases b
  all_goals
    go_enter Try.func86, Try.ntmps86
    go_wp2
    go_ret
    exact ⟨rfl, rfl⟩
theorem first_any (A : Option Addr) (l : List Int) (cap : Nat) (w : World) (hl : l.length ≤ 100) (hA : RowsAt 1 (fun x _ => .int .i64 x) w A l) :
    Calls Try.prog 84 #[.slice A l.length cap] w fun e w' => e = .returned (.int .i64 (firstE l)) ∧ w = w' := by
  go_enter Try.func84, Try.ntmps84
  go_wp2
  go_loop [7] (fun i => ∃ k : Nat, k ≤ l.length ∧ i = .int .i64 k ∧ firstE l = firstE (l.drop k)) (fun i => l.length - (intOf i).toNat)
  case atStart => exact ⟨0, Nat.zero_le _, rfl, rfl⟩
  case round =>
    obtain ⟨k, hk, rfl, he⟩ := hrel
    have H := Lib.hid he
    clear he
    by_cases hlt : k < l.length
    · have hd : l.drop k = l[k] :: l.drop (k + 1) := List.drop_eq_getElem_cons hlt
      rw [hd] at H
      obtain ⟨b, off, rfl, hb, hc⟩ := hA k l[k] (List.getElem?_eq_getElem hlt)
      have hc0 := hc 0 (by omega)
      simp only [Nat.mul_one, Nat.add_zero] at hc0
      clear hc hd
      by_cases hx : l[k] = 0
      · rw [hx] at H hc0
        go_wp2
        go_round
        case rel => exact ⟨k + 1, by omega, by go_num, H.out⟩
        case measure => simp [intOf]; omega
      · generalize l[k] = x at *
        have hx' : (x == 0) = false := by simpa using hx
        have hx2 : (x != 0) = true := by simpa using hx
        have HX := Lib.hid hx
        clear hx
        go_wp2
        go_ret
        exact ⟨ret_int (by rw [H.out]; simp [firstE, HX.out]), rfl⟩
    · have e : l.drop k = [] := List.drop_eq_nil_of_le (by omega)
      rw [e] at H
      clear e
      go_wp2
      go_ret
      exact ⟨ret_int (by rw [H.out]; rfl), rfl⟩
theorem isSized_any (n m : Int) (h0 : 0 ≤ m) (h1 : m ≤ 4611686018427387904) (w : World) :
    Calls Try.prog 115 #[.int .i64 n, .int .i64 m] w fun e w' => e = .returned (.bool (withinB n (-m) m)) ∧ w = w' := by
  go_enter Try.func115, Try.ntmps115
  go_wp2_with (go_at_call 88; refine (within_any _ _ _ _).mono ?_; rintro e w' ⟨rfl, rfl⟩)
  go_ret
  exact ⟨rfl, rfl⟩
theorem isValue_any (n : Int) (w : World) :
    Calls Try.prog 87 #[.int .i64 n] w fun e w' => e = .returned (.bool (withinB n (-1000000) 1000000)) ∧ w = w' := by
  go_enter Try.func87, Try.ntmps87
  go_wp2_with (go_at_call 115; refine (isSized_any _ _ (by decide) (by decide) _).mono ?_; rintro e w' ⟨rfl, rfl⟩)
  go_ret
  exact ⟨rfl, rfl⟩
theorem valueErr_any (n : Int) (w : World) :
    Calls Try.prog 90 #[.int .i64 n] w fun e w' => e = .returned (.int .i64 (unl (withinB n (-1000000) 1000000) 2)) ∧ w = w' := by
  go_enter Try.func90, Try.ntmps90
  go_wp2_with (first | (go_at_call 87; refine (isValue_any _ _).mono ?_; rintro e w' ⟨rfl, rfl⟩) | (go_at_call 86; refine (unless_any _ _ _).mono ?_; rintro e w' ⟨rfl, rfl⟩))
  go_ret
  exact ⟨rfl, rfl⟩
theorem RValueErr_any (n : Int) (w : World) :
    Calls Try.prog 24 #[.int .i64 n] w fun e w' => e = .returned (.int .i64 (unl (withinB n (-1000000) 1000000) 2)) ∧ w = w' := by
  cases hb : withinB n (-1000000) 1000000
  all_goals
    have H := Lib.hid hb
    clear hb
    go_enter Try.func24, Try.ntmps24
    go_wp2_with (go_at_call 22; refine (Within_any _ _ _ _).mono ?_; rintro e w' ⟨rfl, rfl⟩; rw [H.out])
    go_ret
    exact ⟨rfl, rfl⟩
end Go.Proofs.Ytcfbnmcdncndpaa
