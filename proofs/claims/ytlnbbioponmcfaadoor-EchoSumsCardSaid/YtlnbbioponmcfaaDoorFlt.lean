/-
  Whole numbers as floats: sums, differences and products of whole numbers below 2 to the 53rd are exact. Plain theorems.
-/
import Derived.WalkLawsBesides
namespace Go.Proofs.YtlnbbioponmcfaaDoor
open Ieee
set_option linter.unusedVariables false

def sg (s : Bool) (m : Nat) : Int := if s then -(m : Int) else (m : Int)
theorem sg_mul (s t : Bool) (m n : Nat) : sg (s ^^ t) (m * n) = sg s m * sg t n := by
  cases s <;> cases t <;> simp [sg, Int.neg_mul, Int.mul_neg]
theorem sg_shift (s : Bool) (m k : Nat) : signed s m k = sg s m * (2 ^ k : Nat) := by
  unfold signed sg
  rw [Nat.shiftLeft_eq]
  cases s <;> simp [Int.neg_mul]
theorem sg_abs (n : Int) : sg (decide (n < 0)) n.natAbs = n := by
  unfold sg
  by_cases h : n < 0
  · rw [decide_eq_true h, if_pos rfl]; omega
  · rw [decide_eq_false h, if_neg (by decide)]; omega
theorem sg_zero (s : Bool) : sg s 0 = 0 := by cases s <;> rfl
theorem sg_natAbs (s : Bool) (m : Nat) : (sg s m).natAbs = m := by cases s <;> simp [sg]
/-- the number 'n', with some digits behind the point that are 0 -/
def Val (d : Datum) (n : Int) : Prop := ∃ (s : Bool) (m k : Nat), d = .number s m (-(k : Int)) ∧ sg s m = n * (2 ^ k : Nat)
theorem Val.sum {d e : Datum} {a b : Int} (h : Val d a) (g : Val e b) : ∃ r, d.sum e = some r ∧ Val r (a + b) := by
  obtain ⟨s, m, k, rfl, h⟩ := h
  obtain ⟨t, n, l, rfl, g⟩ := g
  refine ⟨_, rfl, ?_⟩
  have hb : min (-(k : Int)) (-(l : Int)) = -((max k l : Nat) : Int) := by omega
  have h1 : (-(k : Int) - -((max k l : Nat) : Int)).toNat = max k l - k := by omega
  have h2 : (-(l : Int) - -((max k l : Nat) : Int)).toNat = max k l - l := by omega
  simp only [hb, h1, h2, sg_shift, h, g]
  have e1 : a * ((2 ^ k : Nat) : Int) * ((2 ^ (max k l - k) : Nat) : Int) = a * ((2 ^ max k l : Nat) : Int) := by
    rw [Int.mul_assoc, ← Int.natCast_mul, ← Nat.pow_add, show k + (max k l - k) = max k l by omega]
  have e2 : b * ((2 ^ l : Nat) : Int) * ((2 ^ (max k l - l) : Nat) : Int) = b * ((2 ^ max k l : Nat) : Int) := by
    rw [Int.mul_assoc, ← Int.natCast_mul, ← Nat.pow_add, show l + (max k l - l) = max k l by omega]
  rw [e1, e2, ← Int.add_mul]
  refine ⟨_, _, max k l, rfl, ?_⟩
  generalize (a + b) * ((2 ^ max k l : Nat) : Int) = T at *
  by_cases hT : T = 0
  · rw [hT]; exact sg_zero _
  · rw [if_neg hT]; exact sg_abs T
theorem Val.opposite {d : Datum} {a : Int} (h : Val d a) : Val d.opposite (-a) := by
  obtain ⟨s, m, k, rfl, h⟩ := h
  refine ⟨!s, m, k, rfl, ?_⟩
  rw [Int.neg_mul, ← h]
  cases s <;> simp [sg]
theorem Val.product {d e : Datum} {a b : Int} (h : Val d a) (g : Val e b) : ∃ r, d.product e = some r ∧ Val r (a * b) := by
  obtain ⟨s, m, k, rfl, h⟩ := h
  obtain ⟨t, n, l, rfl, g⟩ := g
  refine ⟨_, rfl, s ^^ t, m * n, k + l, ?_, ?_⟩
  · congr 1; omega
  · rw [sg_mul, h, g, Nat.pow_add, Int.natCast_mul]
    simp only [Int.mul_assoc, Int.mul_left_comm]
theorem val_mag {s : Bool} {m k : Nat} {n : Int} (h : sg s m = n * (2 ^ k : Nat)) : m = n.natAbs * 2 ^ k := by
  have := congrArg Int.natAbs h
  rw [sg_natAbs, Int.natAbs_mul, Int.natAbs_natCast] at this
  exact this
theorem val_sign {s : Bool} {m k : Nat} {n : Int} (h : sg s m = n * (2 ^ k : Nat)) : sg s n.natAbs = n := by
  have hp : 0 < 2 ^ k := Nat.two_pow_pos k
  have hm := val_mag h
  subst hm
  have : sg s (n.natAbs * 2 ^ k) = sg s n.natAbs * (2 ^ k : Nat) := by cases s <;> simp [sg, Int.neg_mul]
  rw [this] at h
  exact Int.eq_of_mul_eq_mul_right (by omega) h
theorem log2_shift {N k : Nat} (h : N ≠ 0) : (N * 2 ^ k).log2 = N.log2 + k := by
  have hp : 0 < 2 ^ k := Nat.two_pow_pos k
  have h1 := Nat.log2_self_le h
  have h2 := Nat.lt_log2_self (n := N)
  rw [Nat.log2_eq_iff (Nat.mul_ne_zero h (by omega))]
  constructor
  · rw [Nat.pow_add]; exact Nat.mul_le_mul_right _ h1
  · rw [show N.log2 + k + 1 = (N.log2 + 1) + k by omega, Nat.pow_add]; exact Nat.mul_lt_mul_of_pos_right h2 hp
theorem cut_exact (neg : Bool) (M : Nat) (d : Nat) (hM : d ≤ (M * 2 ^ d).log2 + 2) : Toward.even.cut neg (M * 2 ^ d) d = M := by
  have hp : 0 < 2 ^ d := Nat.two_pow_pos d
  unfold Toward.cut
  simp only [Nat.min_eq_left hM, Nat.one_shiftLeft, Nat.mul_mod_left, Nat.mul_div_cancel _ hp, Nat.mul_zero]
  have h1 : decide (2 ^ d < 0) = false := by simp
  have h2 : (2 ^ d == 0) = false := by simp
  rw [h1, h2]
  simp
theorem cut_zero (neg : Bool) (M d : Nat) (hM : M ≠ 0 → d ≤ (M * 2 ^ d).log2 + 2) : Toward.zero.cut neg (M * 2 ^ d) d = M := by
  have hp : 0 < 2 ^ d := Nat.two_pow_pos d
  unfold Toward.cut
  by_cases h : M = 0
  · subst h; simp
  · simp only [Nat.min_eq_left (hM h), Nat.one_shiftLeft, Nat.mul_div_cancel _ hp]
    simp
theorem Val.toInt {d : Datum} {n : Int} (h : Val d n) : d.toInt .zero = some n := by
  obtain ⟨s, m, k, rfl, h⟩ := h
  have hm := val_mag h
  have hs := val_sign h
  unfold Datum.toInt Datum.integral
  simp only
  have h1 : (-(k : Int)).toNat = 0 := by omega
  have h2 : (- -(k : Int)).toNat = k := by omega
  rw [h1, h2, hm, Nat.shiftLeft_zero, cut_zero s n.natAbs k (fun hn => by rw [log2_shift hn]; omega), sg_shift]
  simp [hs]
/-- a word that stands for a whole number -/
def Rep (x : Nat) (n : Int) : Prop := Val (FloatKind.f64.decode x) n
theorem read_word (neg : Bool) (p kept : Nat) (hp : p ≤ 1074) (h1 : 4503599627370496 ≤ kept) (h2 : kept < 9007199254740992) :
    Ieee.double.read (Ieee.double.word neg (p * 4503599627370496 + kept)) = .number neg kept (-1074 + p) := by
  have hs : Ieee.double.signWeight = 9223372036854775808 := by rfl
  have hb : Ieee.double.binade = 4503599627370496 := by rfl
  have hi : Ieee.double.infRung = 9218868437227405312 := by rfl
  have hl : Ieee.double.leastPlace = -1074 := by rfl
  have hr : (Ieee.double.word neg (p * 4503599627370496 + kept)) % 9223372036854775808 = p * 4503599627370496 + kept := by
    unfold Format.word
    rw [hs]
    split <;> omega
  have hn : ((Ieee.double.word neg (p * 4503599627370496 + kept)) / 9223372036854775808 % 2 == 1) = neg := by
    unfold Format.word
    rw [hs]
    cases neg
    · rw [if_neg (by decide), show (p * 4503599627370496 + kept) / 9223372036854775808 = 0 by omega]; rfl
    · rw [if_pos rfl, show (9223372036854775808 + (p * 4503599627370496 + kept)) / 9223372036854775808 = 1 by omega]; rfl
  unfold Format.read
  simp only [hs, hb, hi, hl, hr, hn]
  rw [if_neg (by omega), if_pos (by omega), show (p * 4503599627370496 + kept) % 4503599627370496 = kept - 4503599627370496 by omega, show (p * 4503599627370496 + kept) / 4503599627370496 - 1 = p by omega, show 4503599627370496 + (kept - 4503599627370496) = kept by omega]
theorem Val.write {d : Datum} {n : Int} (h : Val d n) (hn : n.natAbs < 9007199254740992) : Rep (FloatKind.f64.encode d) n := by
  obtain ⟨s, m, k, rfl, h⟩ := h
  have hm := val_mag h
  have hs := val_sign h
  have hl : Ieee.double.leastPlace = -1074 := by rfl
  have hb : Ieee.double.binade = 4503599627370496 := by rfl
  have hi : Ieee.double.infRung = 9218868437227405312 := by rfl
  have hf : Ieee.double.fractionBits = 52 := by rfl
  show Val (Ieee.double.read (Ieee.double.nearest s m (-(k : Int)))) n
  by_cases h0 : n.natAbs = 0
  · have hm0 : m = 0 := by rw [hm, h0, Nat.zero_mul]
    have hn0 : n = 0 := by omega
    subst hm0 hn0
    have hw : Ieee.double.nearest s 0 (-(k : Int)) = Ieee.double.word s 0 := by unfold Format.nearest; rw [if_pos rfl]
    rw [hw]
    cases s
    · exact ⟨false, 0, 1074, by decide +kernel, by rw [sg_zero, Int.zero_mul]⟩
    · exact ⟨true, 0, 1074, by decide +kernel, by rw [sg_zero, Int.zero_mul]⟩
  generalize hN : n.natAbs = N at *
  have hpk : 0 < 2 ^ k := Nat.two_pow_pos k
  have hm1 : m ≠ 0 := by rw [hm]; exact Nat.mul_ne_zero h0 (by omega)
  have hlog : m.log2 = N.log2 + k := by rw [hm]; exact log2_shift h0
  have l1 := Nat.log2_self_le h0
  have l2 := Nat.lt_log2_self (n := N)
  have l3 : N.log2 < 53 := (Nat.log2_lt h0).2 hn
  obtain ⟨q, hq⟩ : ∃ q, q = 52 - N.log2 := ⟨_, rfl⟩
  have hlast : max (-(k : Int) + (m.log2 : Int) - (Ieee.double.fractionBits : Int)) Ieee.double.leastPlace = -(q : Int) := by rw [hlog, hl, hf]; omega
  have hkept : Toward.even.cut s (m <<< (-(k : Int) - -(q : Int)).toNat) (-(q : Int) - -(k : Int)).toNat = N * 2 ^ q := by
    rw [hm, Nat.shiftLeft_eq]
    by_cases hkq : k ≤ q
    · rw [show (-(k : Int) - -(q : Int)).toNat = q - k by omega, show (-(q : Int) - -(k : Int)).toNat = 0 by omega, Nat.mul_assoc, ← Nat.pow_add, show k + (q - k) = q by omega]
      have := cut_exact s (N * 2 ^ q) 0 (by omega)
      rw [Nat.pow_zero, Nat.mul_one] at this
      exact this
    · rw [show (-(k : Int) - -(q : Int)).toNat = 0 by omega, show (-(q : Int) - -(k : Int)).toNat = k - q by omega, Nat.pow_zero, Nat.mul_one]
      have e : N * 2 ^ k = N * 2 ^ q * 2 ^ (k - q) := by rw [Nat.mul_assoc, ← Nat.pow_add, show q + (k - q) = k by omega]
      rw [e]
      exact cut_exact s _ _ (by rw [← e, log2_shift h0]; omega)
  have k1 : 4503599627370496 ≤ N * 2 ^ q := by
    have := Nat.mul_le_mul_right (2 ^ q) l1
    rw [← Nat.pow_add, show N.log2 + q = 52 by omega] at this
    exact this
  have k2 : N * 2 ^ q < 9007199254740992 := by
    have := Nat.mul_lt_mul_of_pos_right l2 (Nat.two_pow_pos q)
    rw [← Nat.pow_add, show N.log2 + 1 + q = 53 by omega] at this
    exact this
  unfold Format.nearest
  rw [if_neg hm1]
  simp only [hlast]
  rw [hkept, hl, hb, hi]
  rw [show (-(q : Int) - -1074).toNat = 1074 - q by omega, Nat.min_eq_left (by omega), read_word s (1074 - q) _ (by omega) k1 k2]
  refine ⟨s, N * 2 ^ q, q, by congr 1; omega, ?_⟩
  rw [← hs]
  cases s <;> simp [sg, Int.neg_mul]
theorem rep_int (n : Int) (h : n.natAbs < 9007199254740992) : Rep (FloatKind.f64.nearest n) n :=
  Val.write ⟨decide (n < 0), n.natAbs, 0, rfl, by rw [sg_abs]; simp⟩ h
theorem Rep.add {x y : Nat} {a b : Int} (h : Rep x a) (g : Rep y b) (hn : (a + b).natAbs < 9007199254740992) : ∃ r, floatBits .add .f64 x y = some r ∧ Rep r (a + b) := by
  obtain ⟨r, e, hr⟩ := Val.sum h g
  refine ⟨_, ?_, hr.write hn⟩
  show ((FloatKind.f64.decode x).sum (FloatKind.f64.decode y)).map Ieee.double.write = _
  rw [e]; rfl
theorem Rep.sub {x y : Nat} {a b : Int} (h : Rep x a) (g : Rep y b) (hn : (a - b).natAbs < 9007199254740992) : ∃ r, floatBits .sub .f64 x y = some r ∧ Rep r (a - b) := by
  obtain ⟨r, e, hr⟩ := Val.sum h g.opposite
  rw [← Int.sub_eq_add_neg] at hr
  refine ⟨_, ?_, hr.write hn⟩
  show ((FloatKind.f64.decode x).sum (FloatKind.f64.decode y).opposite).map Ieee.double.write = _
  rw [e]; rfl
theorem Rep.mul {x y : Nat} {a b : Int} (h : Rep x a) (g : Rep y b) (hn : (a * b).natAbs < 9007199254740992) : ∃ r, floatBits .mul .f64 x y = some r ∧ Rep r (a * b) := by
  obtain ⟨r, e, hr⟩ := Val.product h g
  refine ⟨_, ?_, hr.write hn⟩
  show ((FloatKind.f64.decode x).product (FloatKind.f64.decode y)).map Ieee.double.write = _
  rw [e]; rfl
theorem Rep.csum {x y x' y' : Nat} {a b c d : Int} (h1 : Rep x a) (h2 : Rep y b) (h3 : Rep x' c) (h4 : Rep y' d) (k1 : (a + c).natAbs < 9007199254740992) (k2 : (b + d).natAbs < 9007199254740992) :
    ∃ re im, cSumBits .add .f64 x y x' y' = some (re, im) ∧ Rep re (a + c) ∧ Rep im (b + d) := by
  obtain ⟨r, e, hr⟩ := h1.add h3 k1
  obtain ⟨s, f, hs⟩ := h2.add h4 k2
  exact ⟨r, s, by unfold cSumBits; rw [e, f]; rfl, hr, hs⟩
theorem Rep.cmul {x y x' y' : Nat} {a b c d : Int} (h1 : Rep x a) (h2 : Rep y b) (h3 : Rep x' c) (h4 : Rep y' d)
    (k1 : (a * c).natAbs < 9007199254740992) (k2 : (b * d).natAbs < 9007199254740992) (k3 : (a * d).natAbs < 9007199254740992) (k4 : (b * c).natAbs < 9007199254740992) (k5 : (a * c - b * d).natAbs < 9007199254740992) (k6 : (a * d + b * c).natAbs < 9007199254740992) :
    ∃ re im, cMulBits x y x' y' = some (re, im) ∧ Rep re (a * c - b * d) ∧ Rep im (a * d + b * c) := by
  obtain ⟨ac, e1, r1⟩ := h1.mul h3 k1
  obtain ⟨bd, e2, r2⟩ := h2.mul h4 k2
  obtain ⟨ad, e3, r3⟩ := h1.mul h4 k3
  obtain ⟨bc, e4, r4⟩ := h2.mul h3 k4
  obtain ⟨re, e5, r5⟩ := r1.sub r2 k5
  obtain ⟨im, e6, r6⟩ := r3.add r4 k6
  exact ⟨re, im, by unfold cMulBits; rw [e1, e2]; simp only [Option.bind_some]; rw [e5, e3, e4]; simp only [Option.bind_some]; rw [e6]; rfl, r5, r6⟩
theorem Rep.toInt {x : Nat} {n : Int} (h : Rep x n) (h1 : -9223372036854775808 ≤ n) (h2 : n ≤ 9223372036854775807) : floatToIntVal .f64 x .i64 = some n := by
  unfold floatToIntVal
  rw [Val.toInt h]
  simp only
  rw [if_pos ⟨h1, h2⟩]
theorem rep_one : Rep 4607182418800017408 1 := ⟨false, 4503599627370496, 52, by decide +kernel, by decide +kernel⟩
theorem rep_neg : Rep 13830554455654793216 (-1) := ⟨true, 4503599627370496, 52, by decide +kernel, by decide +kernel⟩
theorem rep_zero : Rep 0 0 := ⟨false, 0, 1074, by decide +kernel, by rw [sg_zero, Int.zero_mul]⟩
theorem rep_nzero : Rep 9223372036854775808 0 := ⟨true, 0, 1074, by decide +kernel, by rw [sg_zero, Int.zero_mul]⟩
end Go.Proofs.YtlnbbioponmcfaaDoor
