/-
  Chapter 2: plain laws of lines: the sums of the lines are the sums; samples that all turn alike have one line.
-/
import Derived.Test.YtlnbbioponmcfaaDoorEDop
namespace Go.Proofs.YtlnbbioponmcfaaDoor
open Go.ChangeShapes Go.WideShapes Go.ChangeAt Go.RowKit
set_option linter.unusedVariables false
set_option linter.unusedSimpArgs false

theorem tI_add (a b : Gs) : tI (gadd a b) = gadd (tI a) (tI b) := by
  apply Gs.ext2
  · simp only [tI, gadd]; omega
  · rfl
theorem rotN_add (a b : Gs) : ∀ n, rotN n (gadd a b) = gadd (rotN n a) (rotN n b)
  | 0 => rfl
  | n + 1 => by rw [rotN, rotN_add a b n, tI_add]; rfl
theorem rot_add (n : Int) (a b : Gs) : rot n (gadd a b) = gadd (rot n a) (rot n b) := rotN_add a b _
theorem rot_congr {a b : Int} (h : a % 4 = b % 4) (g : Gs) : rot a g = rot b g := by unfold rot; rw [h]
/-- the sum of those of the first m whose number is q modulo 4 -/
def qS (x : List Gs) : Nat → Nat → Gs
  | 0, _ => gz
  | m + 1, q => if m % 4 = q then gadd (qS x m q) (gd x m) else qS x m q
def g4 (n : Int) (g : Gs) : Gs := ⟨n * g.re, n * g.im⟩
/-- four numbers, each turned, as a sum -/
def fourS (v : Nat → Gs) (q : Int) : Gs := gadd (gadd (gadd (gadd gz (rot (1 * q * (0 : Nat)) (v 0))) (rot (1 * q * (1 : Nat)) (v 1))) (rot (1 * q * (2 : Nat)) (v 2))) (rot (1 * q * (3 : Nat)) (v 3))
theorem red_line (n : Nat) (m : Nat) (y : Gs) : rot (-1 * (n : Int) * (m : Int)) y = rot (-1 * (n : Int) * ((m % 4 : Nat) : Int)) y := by
  refine rot_congr ?_ y
  rw [Int.mul_emod, Int.natCast_emod, show ((4 : Nat) : Int) = 4 from rfl, Int.mul_emod (-1 * (n : Int)) ((m : Int) % 4), Int.emod_emod_of_dvd _ (by decide : (4 : Int) ∣ 4)]
theorem sums_lines (x : List Gs) (q : Nat) (hq : q < 4) : ∀ m, fourS (fun n => lnK x (-1) n m) q = g4 4 (qS x m q)
  | 0 => by
    have h : q = 0 ∨ q = 1 ∨ q = 2 ∨ q = 3 := by omega
    rcases h with rfl | rfl | rfl | rfl <;> rfl
  | m + 1 => by
    have ih := sums_lines x q hq m
    have hs : ∀ n : Nat, lnK x (-1) n (m + 1) = gadd (lnK x (-1) n m) (rot (-1 * (n : Int) * ((m % 4 : Nat) : Int)) (gd x m)) := fun n => by
      rw [← red_line n m (gd x m)]; rfl
    have hr : m % 4 = 0 ∨ m % 4 = 1 ∨ m % 4 = 2 ∨ m % 4 = 3 := by omega
    unfold fourS at ih ⊢
    simp only [qS]
    have e0 := hs 0
    have e1 := hs 1
    have e2 := hs 2
    have e3 := hs 3
    simp only [Int.natCast_zero, show ((1 : Nat) : Int) = 1 from rfl, show ((2 : Nat) : Int) = 2 from rfl, show ((3 : Nat) : Int) = 3 from rfl] at e0 e1 e2 e3 ih ⊢
    rw [e0, e1, e2, e3]
    clear hs e0 e1 e2 e3
    generalize lnK x (-1) 0 m = a0 at *
    generalize lnK x (-1) 1 m = a1 at *
    generalize lnK x (-1) 2 m = a2 at *
    generalize lnK x (-1) 3 m = a3 at *
    generalize qS x m q = s at *
    generalize gd x m = y at *
    obtain ⟨a00, a01⟩ := a0
    obtain ⟨a10, a11⟩ := a1
    obtain ⟨a20, a21⟩ := a2
    obtain ⟨a30, a31⟩ := a3
    obtain ⟨s0, s1⟩ := s
    obtain ⟨y0, y1⟩ := y
    have h : q = 0 ∨ q = 1 ∨ q = 2 ∨ q = 3 := by omega
    rcases h with rfl | rfl | rfl | rfl <;> rcases hr with hr | hr | hr | hr <;> simp [hr, rot, rotN, tI, gadd, gz, g4] at ih ⊢ <;> omega
/-- samples that turn by p quarters -/
def turnL (p : Nat) (g : Gs) (n : Nat) : List Gs := (List.range n).map fun k => rotN (p * k % 4) g
theorem turnL_len (p : Nat) (g : Gs) (n : Nat) : (turnL p g n).length = n := by simp [turnL]
theorem turnL_at (p : Nat) (g : Gs) (n k : Nat) (h : k < n) : gd (turnL p g n) k = rotN (p * k % 4) g := by
  have hl : k < (turnL p g n).length := by rw [turnL_len]; exact h
  rw [gd_eq hl]
  simp [turnL]
theorem turnL_snoc (p : Nat) (g : Gs) (n : Nat) : turnL p g (n + 1) = turnL p g n ++ [rotN (p * n % 4) g] := by
  simp [turnL, List.range_succ]
theorem turn_line (p : Nat) (g : Gs) (N n : Nat) (hp : p < 4) (hn : n < 4) : ∀ b, 4 * b ≤ N → lnK (turnL p g N) (-1) n (4 * b) = if n = p then g4 (4 * b) g else gz
  | 0, _ => by
    show gz = _
    split
    · simp [g4, gz]
    · rfl
  | b + 1, hb => by
    have ih := turn_line p g N n hp hn b (by omega)
    have st : ∀ j, j < 4 → lnK (turnL p g N) (-1) n (4 * b + j + 1) = gadd (lnK (turnL p g N) (-1) n (4 * b + j)) (rot (-1 * (n : Int) * (j : Int)) (rotN (p * j % 4) g)) := fun j hj => by
      have e : lnK (turnL p g N) (-1) n (4 * b + j + 1) = gadd (lnK (turnL p g N) (-1) n (4 * b + j)) (rot (-1 * (n : Int) * ((4 * b + j : Nat) : Int)) (gd (turnL p g N) (4 * b + j))) := rfl
      rw [e, turnL_at _ _ _ _ (by omega), red_line, show (4 * b + j) % 4 = j by omega]
      rw [show p * (4 * b + j) % 4 = p * j % 4 by rw [Nat.mul_add, show p * (4 * b) = 4 * (p * b) by rw [Nat.mul_left_comm], Nat.mul_add_mod]]
    have s0 := st 0 (by decide)
    have s1 := st 1 (by decide)
    have s2 := st 2 (by decide)
    have s3 := st 3 (by decide)
    simp only [Nat.add_zero] at s0
    rw [show 4 * (b + 1) = 4 * b + 3 + 1 by omega, s3, s2, s1, s0, ih]
    clear s0 s1 s2 s3 st ih
    obtain ⟨g0, g1⟩ := g
    have h : n = 0 ∨ n = 1 ∨ n = 2 ∨ n = 3 := by omega
    have k : p = 0 ∨ p = 1 ∨ p = 2 ∨ p = 3 := by omega
    rcases h with rfl | rfl | rfl | rfl <;> rcases k with rfl | rfl | rfl | rfl <;> simp [rot, rotN, tI, gadd, gz, g4] <;> grind
/-- one line alone: this is the Doppler line -/
theorem one_line (p : Nat) (V : Gs) (hp : p < 4) (hV : 0 < gnorm V) (v : Nat → Gs) (hv : ∀ n, n < 4 → v n = if n = p then V else gz) : dopK v 4 = p ∧ nzL v = true := by
  have hz : gnorm gz = 0 := rfl
  have h0 := hv 0 (by decide)
  have h1 := hv 1 (by decide)
  have h2 := hv 2 (by decide)
  have h3 := hv 3 (by decide)
  have hn : ¬ gnorm V < 0 := by omega
  have hVz : eqB V gz = false := by
    cases hb : eqB V gz
    · rfl
    · unfold eqB at hb
      rw [Bool.and_eq_true, beq_iff_eq, beq_iff_eq] at hb
      have : V = gz := Gs.ext2 hb.1 hb.2
      rw [this, hz] at hV
      omega
  have hzz : eqB gz gz = true := rfl
  have k : p = 0 ∨ p = 1 ∨ p = 2 ∨ p = 3 := by omega
  rcases k with rfl | rfl | rfl | rfl <;> simp at h0 h1 h2 h3 <;> simp [dopK, nzL, eqL4, h0, h1, h2, h3, hz, hV, hn, hVz, hzz]
end Go.Proofs.YtlnbbioponmcfaaDoor
