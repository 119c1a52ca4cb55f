/-
  The walks of both roots and both indexes.
-/
import Derived.Test.YtoegpaolbkcleaaLeaf
namespace Go.Proofs.Ytoegpaolbkcleaa
open Go.ChangeShapes Go.WideShapes Go.ChangeAt Go.RowKit

/-- what the loop of the bitwise root keeps -/
def RootIs (n bit r : Int) : Prop := ∃ k : Nat, k ≤ 31 ∧ bit = 2 ^ k / 2 ∧ 0 ≤ r ∧ r + 2 ^ k ≤ 2147483648 ∧ rt n = rootGo k n bit r
theorem RootIs.start (n : Int) : RootIs n 1073741824 0 := ⟨31, by omega, by decide, by omega, by decide, rfl⟩
theorem RootIs.bd {n bit r : Int} (h : RootIs n bit r) : 0 ≤ bit ∧ bit ≤ 1073741824 ∧ 0 ≤ r ∧ r ≤ 2147483647 ∧ r + bit ≤ 2147483648 := by
  obtain ⟨k, hk, rfl, h0, h1, _⟩ := h
  have hp : (0 : Int) < 2 ^ k := Int.pow_pos (by omega)
  omega
theorem RootIs.done {n r : Int} (h : RootIs n 0 r) : rt n = r := by
  obtain ⟨k, hk, e, h0, h1, h2⟩ := h
  cases k with
  | zero => exact h2
  | succ k => exfalso; have hp : (0 : Int) < 2 ^ k := Int.pow_pos (by omega); rw [Int.pow_succ] at e; omega
theorem RootIs.yes {n bit r : Int} (h : RootIs n bit r) (h0 : 0 < bit) (hc : (r + bit) * (r + bit) ≤ n) : RootIs n (bit / 2) (r + bit) := by
  obtain ⟨k, hk, e, h1, h2, h3⟩ := h
  cases k with
  | zero => simp at e; omega
  | succ k =>
    have hp : (0 : Int) < 2 ^ k := Int.pow_pos (by omega)
    have e2 : bit = 2 ^ k := by rw [e, Int.pow_succ]; omega
    rw [Int.pow_succ] at h2
    refine ⟨k, by omega, by rw [e2], by omega, by omega, ?_⟩
    rw [h3, rootGo, if_pos hc]
theorem RootIs.no {n bit r : Int} (h : RootIs n bit r) (h0 : 0 < bit) (hc : n < (r + bit) * (r + bit)) : RootIs n (bit / 2) r := by
  obtain ⟨k, hk, e, h1, h2, h3⟩ := h
  cases k with
  | zero => simp at e; omega
  | succ k =>
    have hp : (0 : Int) < 2 ^ k := Int.pow_pos (by omega)
    have e2 : bit = 2 ^ k := by rw [e, Int.pow_succ]; omega
    rw [Int.pow_succ] at h2
    refine ⟨k, by omega, by rw [e2], by omega, by omega, ?_⟩
    rw [h3, rootGo, if_neg (by omega)]
theorem mul_bd31 (a : Int) (h0 : 0 ≤ a) (h1 : a ≤ 2147483648) : 0 ≤ a * a ∧ a * a ≤ 4611686018427387904 :=
  ⟨Int.mul_nonneg h0 h0, by have := Int.mul_le_mul h1 h1 h0 (by omega); omega⟩

theorem Root_any (n : Int) (w : World) (_h0 : 0 ≤ n) (_h1 : n < 4611686018427387904) :
    Calls Try.prog 77 #[.int .i64 n] w fun e w' => e = .returned (.int .i64 (rt n)) ∧ w = w' := by
  go_enter Try.func77, Try.ntmps77
  go_wp2
  go_loop [3, 4] (fun r b => ∃ rr bb : Int, r = .int .i64 rr ∧ b = .int .i64 bb ∧ RootIs n bb rr) (fun _ b => (intOf b).toNat)
  case atStart => exact ⟨0, _, rfl, rfl, RootIs.start n⟩
  case round =>
    obtain ⟨r, bit, rfl, rfl, hR⟩ := hrel
    have hbd := hR.bd
    obtain ⟨b1, b2, b3, b4, b5⟩ := hbd
    by_cases hb : 0 < bit
    · obtain ⟨m1, m2⟩ := mul_bd31 (r + bit) (by omega) (by omega)
      by_cases hc : (r + bit) * (r + bit) ≤ n
      · have hn := hR.yes hb hc
        go_wp2
        go_round
        case rel => exact ⟨_, _, rfl, rfl, hn⟩
        case measure => simp [intOf]; omega
      · have hn := hR.no hb (by omega)
        go_wp2
        go_round
        case rel => exact ⟨_, _, rfl, rfl, hn⟩
        case measure => simp [intOf]; omega
    · obtain rfl : bit = 0 := by omega
      have hd := Lib.hid hR.done
      go_wp2
      go_ret
      exact ⟨ret_int hd.out.symm, rfl⟩

/-- what the loop of the other root keeps -/
def BinIs (n lo hi : Int) : Prop := 0 ≤ lo ∧ lo ≤ hi ∧ hi ≤ 2147483648 ∧ lo * lo ≤ n ∧ n < (hi + 1) * (hi + 1)
theorem BinIs.done {n lo : Int} (h : BinIs n lo lo) (h0 : 0 ≤ n) (h1 : n < 4611686018427387904) : rt n = lo :=
  (rt_is n h0 h1).unique ⟨h.1, h.2.2.2.1, h.2.2.2.2⟩
theorem root_any (n : Int) (w : World) (h0 : 0 ≤ n) (h1 : n < 4611686018427387904) :
    Calls Try.prog 99 #[.int .i64 n] w fun e w' => e = .returned (.int .i64 (rt n)) ∧ w = w' := by
  go_enter Try.func99, Try.ntmps99
  go_wp2
  go_loop [3, 4] (fun a b => ∃ lo hi : Int, a = .int .i64 lo ∧ b = .int .i64 hi ∧ BinIs n lo hi) (fun a b => (intOf b - intOf a).toNat)
  case atStart => exact ⟨0, _, rfl, rfl, by omega, by omega, by omega, by omega, by omega⟩
  case round =>
    obtain ⟨lo, hi, rfl, rfl, hR⟩ := hrel
    obtain ⟨b1, b2, b3, b4, b5⟩ := hR
    by_cases hb : lo < hi
    · obtain ⟨m1, m2⟩ := mul_bd31 ((lo + hi + 1) / 2) (by omega) (by omega)
      by_cases hc : ((lo + hi + 1) / 2) * ((lo + hi + 1) / 2) ≤ n
      · have hn : BinIs n ((lo + hi + 1) / 2) hi := ⟨by omega, by omega, by omega, hc, b5⟩
        go_wp2
        go_round
        case rel => exact ⟨_, _, rfl, rfl, hn⟩
        case measure => simp [intOf]; omega
      · have hn : BinIs n lo ((lo + hi + 1) / 2 - 1) := ⟨by omega, by omega, by omega, b4, by
          have e : (lo + hi + 1) / 2 - 1 + 1 = (lo + hi + 1) / 2 := by omega
          rw [e]; omega⟩
        go_wp2
        go_round
        case rel => exact ⟨_, _, rfl, rfl, hn⟩
        case measure => simp [intOf]; omega
    · obtain rfl : lo = hi := by omega
      have hd := Lib.hid (BinIs.done (n := n) (lo := lo) ⟨b1, b2, b3, b4, b5⟩ h0 h1)
      go_wp2
      go_ret
      exact ⟨ret_int hd.out.symm, rfl⟩

theorem Index_any (sq f : Int) (w : World) (h0 : 0 ≤ sq) (h1 : sq < f * f) (f0 : 0 ≤ f) (f1 : f ≤ 3000) :
    Calls Try.prog 25 #[.int .i64 sq, .int .i64 f] w fun e w' => e = .returned (.agg #[.int .i64 (idxLo sq f), .int .i64 (idxHi sq f)]) ∧ Below w.heap.size w w' := by
  have hs := sq_bd f f0 f1
  have hq := idx_q sq f h0 h1 f0 f1
  have hl := idxLo_bd sq f h0 h1 f0 f1
  have hle := idxLo_le sq f h0 h1 f0 f1
  have e : 1000000 * f * f = 1000000 * (f * f) := Int.mul_assoc _ _ _
  have hx : idxLo sq f = rt (1000000 * f * f / (f * f - sq)) := rfl
  have hh : idxHi sq f = if idxLo sq f * idxLo sq f * (f * f - sq) = 1000000 * f * f then idxLo sq f else idxLo sq f + 1 := rfl
  have b1 : 0 ≤ 1000000 * f * f := by omega
  have b2 : 1000000 * f * f ≤ 9000000000000 := by omega
  have b3 : 0 ≤ idxLo sq f * idxLo sq f := Int.mul_nonneg (by omega) (by omega)
  have b4 : idxLo sq f * idxLo sq f ≤ 9000000000000 := by have := Int.mul_le_mul hl.2 hl.2 (by omega) (by omega); omega
  have b5 : 0 ≤ idxLo sq f * idxLo sq f * (f * f - sq) := Int.mul_nonneg b3 (by omega)
  have b6 : 0 < f * f - sq := by omega
  have b7 : f * f - sq ≤ 9000000 := by omega
  obtain ⟨s1, s2⟩ := hs
  obtain ⟨q1, q2⟩ := hq
  obtain ⟨l1, l2⟩ := hl
  have HX := Lib.hid hx
  have HH := Lib.hid hh
  clear hx hh e
  generalize idxLo sq f = lo at *
  generalize idxHi sq f = hi at *
  by_cases hc : lo * lo * (f * f - sq) = 1000000 * f * f
  · have hc' : (lo * lo * (f * f - sq) == 1000000 * f * f) = true := by simpa using hc
    have HC := Lib.hid hc
    clear hc
    go_enter Try.func25, Try.ntmps25
    go_wp2_with (go_at_call 77; refine (Root_any _ _ (by omega) (by omega)).mono ?_; rintro e w' ⟨rfl, rfl⟩; rw [← HX.out])
    refine bodyPost_ret (v := .agg #[.int .i64 lo, .int .i64 hi]) (by rw [HH.out, if_pos HC.out]; simp [results, Try.results25, go_sem]) rfl ⟨rfl, (by repeat (first | assumption | exact Below.refl _ _ | refine Below.drew ?_ | (refine below_alloc _ ?_ ?_; focus (first | omega | (simp; done) | (simp; omega) | (simp at *; omega))) | (refine below_set _ ?_ ?_; focus (first | omega | (simp; done) | (simp; omega) | (simp at *; omega))) | refine below_drewN ?_ _ | (refine below_call (by assumption) ?_ ?_; focus (first | omega | (simp; done) | (simp; omega) | (simp at *; omega))) | (refine below_call' (by assumption) ?_ ?_; focus (first | omega | (simp; done) | (simp; omega) | (simp at *; omega)))))⟩
  · have hc' : (lo * lo * (f * f - sq) == 1000000 * f * f) = false := by simpa using hc
    have HC := Lib.hid hc
    clear hc
    go_enter Try.func25, Try.ntmps25
    go_wp2_with (go_at_call 77; refine (Root_any _ _ (by omega) (by omega)).mono ?_; rintro e w' ⟨rfl, rfl⟩; rw [← HX.out])
    refine bodyPost_ret (v := .agg #[.int .i64 lo, .int .i64 hi]) (by rw [HH.out, if_neg HC.out]; simp [results, Try.results25, go_sem]) rfl ⟨rfl, (by repeat (first | assumption | exact Below.refl _ _ | refine Below.drew ?_ | (refine below_alloc _ ?_ ?_; focus (first | omega | (simp; done) | (simp; omega) | (simp at *; omega))) | (refine below_set _ ?_ ?_; focus (first | omega | (simp; done) | (simp; omega) | (simp at *; omega))) | refine below_drewN ?_ _ | (refine below_call (by assumption) ?_ ?_; focus (first | omega | (simp; done) | (simp; omega) | (simp at *; omega))) | (refine below_call' (by assumption) ?_ ?_; focus (first | omega | (simp; done) | (simp; omega) | (simp at *; omega)))))⟩
end Go.Proofs.Ytoegpaolbkcleaa
