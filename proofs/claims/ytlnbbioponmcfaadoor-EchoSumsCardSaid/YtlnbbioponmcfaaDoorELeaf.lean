/-
  Chapter 2: the small functions: ranges, errors, phases.
-/
import Derived.Test.YtlnbbioponmcfaaDoorNum
import Derived.WalkLawsBesides
import Derived.Deep.CutRange
import Derived.Deep.DeepCutAuto
import Derived.IntWalk
namespace Go.Proofs.YtlnbbioponmcfaaDoor
open Go.ChangeShapes Go.WideShapes Go.ChangeAt Go.RowKit
set_option linter.unusedVariables false
set_option linter.unusedSimpArgs false

theorem Within_any (n lo hi : Int) (w : World) :
    Calls Tryd.prog 25 #[.int .i64 n, .int .i64 lo, .int .i64 hi] w fun e w' => e = .returned (.bool (withinB n lo hi)) ∧ w = w' := by
  unfold withinB
  by_cases h1 : lo ≤ n <;> by_cases h2 : n ≤ hi
  all_goals
    go_enter Tryd.func25, Tryd.ntmps25
    go_wp2
    go_ret
    exact ⟨by simp [h1, h2], rfl⟩
theorem within_any (n lo hi : Int) (w : World) :
    Calls Tryd.prog 32 #[.int .i64 n, .int .i64 lo, .int .i64 hi] w fun e w' => e = .returned (.bool (withinB n lo hi)) ∧ w = w' := by
  unfold withinB
  by_cases h1 : lo ≤ n <;> by_cases h2 : n ≤ hi
  all_goals
    go_enter Tryd.func32, Tryd.ntmps32
    go_wp2
    go_ret
    exact ⟨by simp [h1, h2], rfl⟩
def unl (b : Bool) (e : Int) : Int := if b then 0 else e
theorem unless_any (b : Bool) (e : Int) (w : World) :
    Calls Tryd.prog 28 #[.bool b, .int .i64 e] w fun r w' => r = .returned (.int .i64 (unl b e)) ∧ w = w' := by
  cases b
  all_goals
    go_enter Tryd.func28, Tryd.ntmps28
    go_wp2
    go_ret
    exact ⟨rfl, rfl⟩
theorem first_any (A : Option Addr) (l : List Int) (cap : Nat) (w : World) (hl : l.length ≤ 100) (hA : RowsAt 1 (fun x _ => .int .i64 x) w A l) :
    Calls Tryd.prog 27 #[.slice A l.length cap] w fun e w' => e = .returned (.int .i64 (firstE l)) ∧ w = w' := by
  go_enter Tryd.func27, Tryd.ntmps27
  go_wp2
  go_loop [7] (fun i => ∃ k : Nat, k ≤ l.length ∧ i = .int .i64 k ∧ firstE l = firstE (l.drop k)) (fun i => l.length - (intOf i).toNat)
  case atStart => exact ⟨0, Nat.zero_le _, rfl, rfl⟩
  case round =>
    obtain ⟨k, hk, rfl, he⟩ := hrel
    have H := Lib.hid he
    clear he
    by_cases hlt : k < l.length
    · have hd : l.drop k = l[k] :: l.drop (k + 1) := List.drop_eq_getElem_cons hlt
      rw [hd] at H
      obtain ⟨b, off, rfl, hb, hc⟩ := hA k l[k] (List.getElem?_eq_getElem hlt)
      have hc0 := hc 0 (by omega)
      simp only [Nat.mul_one, Nat.add_zero] at hc0
      clear hc hd
      by_cases hx : l[k] = 0
      · rw [hx] at H hc0
        go_wp2
        go_round
        case rel => exact ⟨k + 1, by omega, by go_num, H.out⟩
        case measure => simp [intOf]; omega
      · generalize l[k] = x at *
        have hx' : (x == 0) = false := by simpa using hx
        have hx2 : (x != 0) = true := by simpa using hx
        have HX := Lib.hid hx
        clear hx
        go_wp2
        go_ret
        exact ⟨ret_int (by rw [H.out]; simp [firstE, HX.out]), rfl⟩
    · have e : l.drop k = [] := List.drop_eq_nil_of_le (by omega)
      rw [e] at H
      clear e
      go_wp2
      go_ret
      exact ⟨ret_int (by rw [H.out]; rfl), rfl⟩
theorem rows_lit {l : List Int} {b : Nat} (w : World) (hb : b < w.heap.size) (h : ∀ k x, l[k]? = some x → w.cell? ⟨b, k, none⟩ = some (.int .i64 x)) : RowsAt 1 (fun (x : Int) _ => Value.int .i64 x) w (some ⟨b, 0, none⟩) l := fun k x hk => by
  refine ⟨b, 0, rfl, hb, fun j hj => ?_⟩
  obtain rfl : j = 0 := by omega
  simpa using h k x hk
theorem first2 (x y : Int) (b : Nat) (w : World) (hb : b < w.heap.size) (h0 : w.cell? ⟨b, 0, none⟩ = some (.int .i64 x)) (h1 : w.cell? ⟨b, 1, none⟩ = some (.int .i64 y)) :
    Calls Tryd.prog 27 #[.slice (some ⟨b, 0, none⟩) 2 2] w fun e w' => e = .returned (.int .i64 (firstE [x, y])) ∧ w = w' :=
  first_any _ [x, y] 2 w (by simp) (rows_lit _ hb fun k x hk => by
    match k with
    | 0 => simp at hk; subst hk; exact h0
    | 1 => simp at hk; subst hk; exact h1
    | k + 2 => simp at hk)
theorem first3 (x y z : Int) (b : Nat) (w : World) (hb : b < w.heap.size) (h0 : w.cell? ⟨b, 0, none⟩ = some (.int .i64 x)) (h1 : w.cell? ⟨b, 1, none⟩ = some (.int .i64 y)) (h2 : w.cell? ⟨b, 2, none⟩ = some (.int .i64 z)) :
    Calls Tryd.prog 27 #[.slice (some ⟨b, 0, none⟩) 3 3] w fun e w' => e = .returned (.int .i64 (firstE [x, y, z])) ∧ w = w' :=
  first_any _ [x, y, z] 3 w (by simp) (rows_lit _ hb fun k x hk => by
    match k with
    | 0 => simp at hk; subst hk; exact h0
    | 1 => simp at hk; subst hk; exact h1
    | 2 => simp at hk; subst hk; exact h2
    | k + 3 => simp at hk)
theorem first4 (x y z u : Int) (b : Nat) (w : World) (hb : b < w.heap.size) (h0 : w.cell? ⟨b, 0, none⟩ = some (.int .i64 x)) (h1 : w.cell? ⟨b, 1, none⟩ = some (.int .i64 y)) (h2 : w.cell? ⟨b, 2, none⟩ = some (.int .i64 z)) (h3 : w.cell? ⟨b, 3, none⟩ = some (.int .i64 u)) :
    Calls Tryd.prog 27 #[.slice (some ⟨b, 0, none⟩) 4 4] w fun e w' => e = .returned (.int .i64 (firstE [x, y, z, u])) ∧ w = w' :=
  first_any _ [x, y, z, u] 4 w (by simp) (rows_lit _ hb fun k x hk => by
    match k with
    | 0 => simp at hk; subst hk; exact h0
    | 1 => simp at hk; subst hk; exact h1
    | 2 => simp at hk; subst hk; exact h2
    | 3 => simp at hk; subst hk; exact h3
    | k + 4 => simp at hk)
theorem first5 (x y z u v : Int) (b : Nat) (w : World) (hb : b < w.heap.size) (h0 : w.cell? ⟨b, 0, none⟩ = some (.int .i64 x)) (h1 : w.cell? ⟨b, 1, none⟩ = some (.int .i64 y)) (h2 : w.cell? ⟨b, 2, none⟩ = some (.int .i64 z)) (h3 : w.cell? ⟨b, 3, none⟩ = some (.int .i64 u)) (h4 : w.cell? ⟨b, 4, none⟩ = some (.int .i64 v)) :
    Calls Tryd.prog 27 #[.slice (some ⟨b, 0, none⟩) 5 5] w fun e w' => e = .returned (.int .i64 (firstE [x, y, z, u, v])) ∧ w = w' :=
  first_any _ [x, y, z, u, v] 5 w (by simp) (rows_lit _ hb fun k x hk => by
    match k with
    | 0 => simp at hk; subst hk; exact h0
    | 1 => simp at hk; subst hk; exact h1
    | 2 => simp at hk; subst hk; exact h2
    | 3 => simp at hk; subst hk; exact h3
    | 4 => simp at hk; subst hk; exact h4
    | k + 5 => simp at hk)
theorem firstE_z {r : List Int} : firstE (0 :: r) = firstE r := by rw [firstE, if_pos rfl]
theorem firstE_nz {x : Int} {r : List Int} (h : x ≠ 0) : firstE (x :: r) = x := by rw [firstE, if_neg h]
theorem firstE1 {a : Int} : firstE [a] = a := by
  by_cases h : a = 0
  · rw [h]; rfl
  · exact firstE_nz h
theorem unl_true (e : Int) : unl true e = 0 := rfl
theorem unl_false (e : Int) : unl false e = e := rfl
theorem isSized_any (n m : Int) (h0 : 0 ≤ m) (h1 : m ≤ 4611686018427387904) (w : World) :
    Calls Tryd.prog 57 #[.int .i64 n, .int .i64 m] w fun e w' => e = .returned (.bool (withinB n (-m) m)) ∧ w = w' := by
  go_enter Tryd.func57, Tryd.ntmps57
  go_wp2_with (go_at_call 32; refine (within_any _ _ _ _).mono ?_; rintro e w' ⟨rfl, rfl⟩)
  go_ret
  exact ⟨rfl, rfl⟩
theorem spacingErr_any (n : Int) (w : World) :
    Calls Tryd.prog 40 #[.int .i64 n] w fun e w' => e = .returned (.int .i64 (unl (withinB n (-360) 360) 2)) ∧ w = w' := by
  go_enter Tryd.func40, Tryd.ntmps40
  go_wp2_with (first | (go_at_call 57; refine (isSized_any _ _ (by decide) (by decide) _).mono ?_; rintro e w' ⟨rfl, rfl⟩) | (go_at_call 28; refine (unless_any _ _ _).mono ?_; rintro e w' ⟨rfl, rfl⟩))
  go_ret
  exact ⟨rfl, rfl⟩
theorem tmod_bd (n b : Int) (hb : 0 < b) : -b < n.tmod b ∧ n.tmod b < b ∧ (n.tmod b = n % b ∨ n.tmod b = n % b - b) := by
  have hm0 := Int.emod_nonneg n (show b ≠ 0 by omega)
  have hm1 := Int.emod_lt_of_pos n hb
  have ht : n.tmod b = n % b ∨ n.tmod b = n % b - b := by
    have h := Int.tmod_eq_emod (a := n) (b := b)
    split at h
    · left; omega
    · right; omega
  have h2 : n.tmod b = n % b - b → n % b ≠ 0 := fun h e => by
    have h3 := Int.tmod_eq_emod (a := n) (b := b)
    rw [if_pos (Or.inr (Int.dvd_of_emod_eq_zero e))] at h3
    omega
  refine ⟨?_, ?_, ht⟩ <;> rcases ht with h | h
  · omega
  · have := h2 h; omega
  · omega
  · omega
theorem modulo_any (n : Int) (w : World) :
    Calls Tryd.prog 58 #[.int .i64 n] w fun e w' => e = .returned (.int .i64 (n % 720)) ∧ w = w' := by
  obtain ⟨h1, h2, h3⟩ := tmod_bd n 720 (by decide)
  have he : (n.tmod 720 + 720) % 720 = n % 720 := by omega
  have HE := Lib.hid he
  clear h3 he
  go_enter Tryd.func58, Tryd.ntmps58
  go_wp2
  go_ret
  exact ⟨ret_int HE.out, rfl⟩
/-- the distance of two phases -/
def dstP (a b : Int) : Int := if (a - b) % 720 ≤ 720 - (a - b) % 720 then (a - b) % 720 else 720 - (a - b) % 720
theorem min_if (a b : Int) : (if a ≤ b then a else b) = min a b := by
  by_cases h : a ≤ b
  · rw [if_pos h]; omega
  · rw [if_neg h]; omega
theorem distance_any (a b : Int) (w : World) (ha : -1000000000000 ≤ a) (ha2 : a ≤ 1000000000000) (hb : -1000000000000 ≤ b) (hb2 : b ≤ 1000000000000) :
    Calls Tryd.prog 41 #[.int .i64 a, .int .i64 b] w fun e w' => e = .returned (.int .i64 (dstP a b)) ∧ w = w' := by
  have hd : dstP a b = if (a - b) % 720 ≤ 720 - (a - b) % 720 then (a - b) % 720 else 720 - (a - b) % 720 := rfl
  have m1 := Int.emod_nonneg (a - b) (show (720 : Int) ≠ 0 by decide)
  have m2 := Int.emod_lt_of_pos (a - b) (show (0 : Int) < 720 by decide)
  have HD := Lib.hid hd
  have HM := Lib.hid (fun W => modulo_any (a - b) W)
  clear hd
  generalize (a - b) % 720 = m at *
  go_enter Tryd.func41, Tryd.ntmps41
  go_wp2_with (fail)
  refine (HM.out _).mono ?_
  rintro e w' ⟨rfl, rfl⟩
  by_cases hm : m ≤ 720 - m
  · rw [if_pos hm] at HD
    go_wp2
    all_goals
      go_ret
      first
        | exact ⟨ret_int HD.out.symm, rfl⟩
        | exact ⟨ret_int (by have := HD.out; omega), rfl⟩
  · rw [if_neg hm] at HD
    go_wp2
    all_goals
      go_ret
      first
        | exact ⟨ret_int HD.out.symm, rfl⟩
        | exact ⟨ret_int (by have := HD.out; omega), rfl⟩
theorem mul_bd {a b M N : Int} (ha : -M ≤ a) (ha2 : a ≤ M) (hb : -N ≤ b) (hb2 : b ≤ N) : -(M * N) ≤ a * b ∧ a * b ≤ M * N := by
  have h := Int.mul_le_mul (a := (a.natAbs : Int)) (b := (b.natAbs : Int)) (c := M) (d := N) (by omega) (by omega) (by omega) (by omega)
  rw [← Int.natCast_mul, ← Int.natAbs_mul] at h
  omega
def phsQ (s d : Int) : Int × Int := if firstE [unl (withinB s (-360) 360) 2, unl (withinB d (-90) 90) 2] = 0 then (s * d % 720, 0) else (0, 2)
end Go.Proofs.YtlnbbioponmcfaaDoor
