/-
  Plain arithmetic: roots, quotients rounded down, the first error. No program in sight.
-/
import Derived.Test.YtlnbbioponmcfaaDoorMem
namespace Go.Proofs.YtlnbbioponmcfaaDoor

theorem floor_of (n b : Int) (hb : 0 < b) : (if n.tmod b < 0 then n.tdiv b - 1 else n.tdiv b) = n / b := by
  rw [Int.tdiv_eq_ediv, Int.tmod_eq_emod]
  have h1 := Int.emod_nonneg n (by omega : b ≠ 0)
  have h2 := Int.emod_lt_of_pos n hb
  by_cases h : 0 ≤ n ∨ b ∣ n
  · rw [if_pos h, if_pos h, if_neg (by omega)]; omega
  · rw [if_neg h, if_neg h]
    have h3 : n % b ≠ 0 := fun e => h (.inr (Int.dvd_of_emod_eq_zero e))
    have hs : b.sign = 1 := Int.sign_eq_one_of_pos hb
    have hn : (b.natAbs : Int) = b := by omega
    rw [hs]
    rw [if_pos (by omega)]; omega
theorem ediv_bd (n b : Int) (hb : 0 < b) (lo hi : Int) (h1 : lo ≤ n) (h2 : n ≤ hi) (hlo : lo ≤ 0) (hhi : 0 ≤ hi) : lo ≤ n / b ∧ n / b ≤ hi := by
  refine ⟨(Int.le_ediv_iff_mul_le hb).2 ?_, ?_⟩
  · have : lo * b ≤ lo * 1 := (Int.mul_le_mul_of_nonpos_left (a := lo) (b := b) (c := 1) (by first | exact hlo | omega) (by first | exact hlo | omega))
    omega
  · refine Int.lt_add_one_iff.1 ((Int.ediv_lt_iff_lt_mul hb).2 ?_)
    have : (hi + 1) * 1 ≤ (hi + 1) * b := Int.mul_le_mul_of_nonneg_left (by omega) (by omega)
    omega
def ceilI (n b : Int) : Int := -((-n) / b)

def firstE : List Int → Int
  | [] => 0
  | x :: r => if x = 0 then firstE r else x

/-- r is the root of n: the greatest number whose square is at most n -/
def IsRoot (n r : Int) : Prop := 0 ≤ r ∧ r * r ≤ n ∧ n < (r + 1) * (r + 1)
theorem IsRoot.unique {n r s : Int} (h : IsRoot n r) (k : IsRoot n s) : r = s := by
  obtain ⟨h0, h1, h2⟩ := h
  obtain ⟨k0, k1, k2⟩ := k
  rcases Int.lt_trichotomy r s with hl | he | hg
  · have : (r + 1) * (r + 1) ≤ s * s := Int.mul_le_mul (by omega) (by omega) (by omega) (by omega)
    omega
  · exact he
  · have : (s + 1) * (s + 1) ≤ r * r := Int.mul_le_mul (by omega) (by omega) (by omega) (by omega)
    omega
def rootGo : Nat → Int → Int → Int → Int
  | 0, _, _, r => r
  | k + 1, n, bit, r => rootGo k n (bit / 2) (if (r + bit) * (r + bit) ≤ n then r + bit else r)
/-- the root, bit by bit -/
def rt (n : Int) : Int := rootGo 31 n 1073741824 0

theorem rootGo_is : ∀ (k : Nat) (n r : Int), 0 ≤ r → r * r ≤ n → n < (r + 2 ^ k) * (r + 2 ^ k) → k ≤ 31 → IsRoot n (rootGo k n (2 ^ k / 2) r)
  | 0, n, r, h0, h1, h2, _ => ⟨h0, h1, h2⟩
  | k + 1, n, r, h0, h1, h2, hk => by
    have hp : (2 : Int) ^ (k + 1) / 2 = 2 ^ k := by rw [Int.pow_succ]; omega
    have hpos : (0 : Int) < 2 ^ k := Int.pow_pos (by omega)
    rw [hp]
    show IsRoot n (rootGo k n (2 ^ k / 2) _)
    by_cases hc : (r + 2 ^ k) * (r + 2 ^ k) ≤ n
    · rw [if_pos hc]
      refine rootGo_is k n _ (by omega) hc ?_ (by omega)
      have e : r + 2 ^ k + 2 ^ k = r + 2 ^ (k + 1) := by rw [Int.pow_succ]; omega
      rw [e]; exact h2
    · rw [if_neg hc]
      exact rootGo_is k n r h0 h1 (by omega) (by omega)
theorem rt_is (n : Int) (h0 : 0 ≤ n) (h1 : n < 4611686018427387904) : IsRoot n (rt n) := by
  have := rootGo_is 31 n 0 (by omega) (by omega) (by simp; omega) (by omega)
  simp only [show (2 : Int) ^ 31 / 2 = 1073741824 from by decide] at this
  unfold rt
  exact this
theorem rt_le (n : Int) (h0 : 0 ≤ n) (h1 : n < 4611686018427387904) : 0 ≤ rt n ∧ rt n < 2147483648 := by
  obtain ⟨a, b, c⟩ := rt_is n h0 h1
  refine ⟨a, ?_⟩
  apply Int.not_le.1
  intro h
  have : (2147483648 : Int) * 2147483648 ≤ rt n * rt n := Int.mul_le_mul h h (by omega) (by omega)
  omega

/-- the index of a frequency for a square that it passes -/
def idxLo (sq f : Int) : Int := rt (1000000 * f * f / (f * f - sq))
def idxHi (sq f : Int) : Int := if idxLo sq f * idxLo sq f * (f * f - sq) = 1000000 * f * f then idxLo sq f else idxLo sq f + 1

theorem sq_bd (f : Int) (h0 : 0 ≤ f) (h1 : f ≤ 3000) : 0 ≤ f * f ∧ f * f ≤ 9000000 :=
  ⟨Int.mul_nonneg h0 h0, by have := Int.mul_le_mul h1 h1 h0 (by omega); omega⟩
theorem idx_q (sq f : Int) (h0 : 0 ≤ sq) (h1 : sq < f * f) (f0 : 0 ≤ f) (f1 : f ≤ 3000) :
    1000000 ≤ 1000000 * f * f / (f * f - sq) ∧ 1000000 * f * f / (f * f - sq) ≤ 9000000000000 := by
  have hs := sq_bd f f0 f1
  have e : 1000000 * f * f = 1000000 * (f * f) := Int.mul_assoc _ _ _
  rw [e]
  refine ⟨(Int.le_ediv_iff_mul_le (by omega)).2 (by omega), ?_⟩
  have := (ediv_bd (1000000 * (f * f)) (f * f - sq) (by omega) 0 9000000000000 (by omega) (by omega) (by omega) (by omega)).2
  exact this
theorem idxLo_bd (sq f : Int) (h0 : 0 ≤ sq) (h1 : sq < f * f) (f0 : 0 ≤ f) (f1 : f ≤ 3000) : 1000 ≤ idxLo sq f ∧ idxLo sq f ≤ 3000000 := by
  have hq := idx_q sq f h0 h1 f0 f1
  have hr := rt_is (1000000 * f * f / (f * f - sq)) (by omega) (by omega)
  obtain ⟨a, b, c⟩ := hr
  unfold idxLo
  refine ⟨?_, ?_⟩
  · apply Int.not_lt.1; intro h
    have : (rt (1000000 * f * f / (f * f - sq)) + 1) * (rt (1000000 * f * f / (f * f - sq)) + 1) ≤ 1000 * 1000 := Int.mul_le_mul (by omega) (by omega) (by omega) (by omega)
    omega
  · apply Int.not_lt.1; intro h
    have : (3000001 : Int) * 3000001 ≤ rt (1000000 * f * f / (f * f - sq)) * rt (1000000 * f * f / (f * f - sq)) := Int.mul_le_mul (by omega) (by omega) (by omega) (by omega)
    omega
/-- its square times the rest is at most the parts -/
theorem idxLo_le (sq f : Int) (h0 : 0 ≤ sq) (h1 : sq < f * f) (f0 : 0 ≤ f) (f1 : f ≤ 3000) : idxLo sq f * idxLo sq f * (f * f - sq) ≤ 1000000 * f * f := by
  have hq := idx_q sq f h0 h1 f0 f1
  obtain ⟨a, b, c⟩ := rt_is (1000000 * f * f / (f * f - sq)) (by omega) (by omega)
  exact (Int.le_ediv_iff_mul_le (by omega)).1 b
theorem idxLo_lt (sq f : Int) (h0 : 0 ≤ sq) (h1 : sq < f * f) (f0 : 0 ≤ f) (f1 : f ≤ 3000) : 1000000 * f * f < (idxLo sq f + 1) * (idxLo sq f + 1) * (f * f - sq) := by
  have hq := idx_q sq f h0 h1 f0 f1
  obtain ⟨a, b, c⟩ := rt_is (1000000 * f * f / (f * f - sq)) (by omega) (by omega)
  exact (Int.ediv_lt_iff_lt_mul (by omega)).1 c
theorem idxHi_eq (sq f : Int) (h0 : 0 ≤ sq) (h1 : sq < f * f) (f0 : 0 ≤ f) (f1 : f ≤ 3000) :
    idxHi sq f = if idxLo sq f * idxLo sq f * (f * f - sq) < 1000000 * f * f then idxLo sq f + 1 else idxLo sq f := by
  have := idxLo_le sq f h0 h1 f0 f1
  unfold idxHi
  by_cases h : idxLo sq f * idxLo sq f * (f * f - sq) = 1000000 * f * f
  · rw [if_pos h, if_neg (by omega)]
  · rw [if_neg h, if_pos (by omega)]
theorem idxHi_bd (sq f : Int) (h0 : 0 ≤ sq) (h1 : sq < f * f) (f0 : 0 ≤ f) (f1 : f ≤ 3000) : idxLo sq f ≤ idxHi sq f ∧ idxHi sq f ≤ idxLo sq f + 1 ∧ idxHi sq f ≤ 3000000 := by
  have hb := idxLo_bd sq f h0 h1 f0 f1
  have hl := idxLo_le sq f h0 h1 f0 f1
  have hs := sq_bd f f0 f1
  unfold idxHi
  by_cases h : idxLo sq f * idxLo sq f * (f * f - sq) = 1000000 * f * f
  · rw [if_pos h]; omega
  · rw [if_neg h]
    refine ⟨by omega, by omega, ?_⟩
    apply Int.not_lt.1; intro hh
    have e : idxLo sq f = 3000000 := by omega
    rw [e] at h hl
    have e2 : 1000000 * f * f = 1000000 * (f * f) := Int.mul_assoc _ _ _
    rw [e2] at h hl
    omega
end Go.Proofs.YtlnbbioponmcfaaDoor
