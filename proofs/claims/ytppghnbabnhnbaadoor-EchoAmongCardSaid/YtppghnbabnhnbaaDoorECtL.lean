/-
  Chapter 2: plain laws of readings that contradict each other.
-/
import Derived.Test.YtppghnbabnhnbaaDoorECnd
namespace Go.Proofs.YtppghnbabnhnbaaDoor
open Go.ChangeShapes Go.WideShapes Go.ChangeAt Go.RowKit
set_option linter.unusedVariables false
set_option linter.unusedSimpArgs false

/-- the indexes in a set, of those below n -/
def idxS (set n : Nat) : List Int := ((List.range n).filter fun i => set.testBit i).map fun (i : Nat) => (i : Int)
theorem idxS_succ (set n : Nat) : idxS set (n + 1) = if set.testBit n then idxS set n ++ [(n : Int)] else idxS set n := by
  unfold idxS
  rw [List.range_succ, List.filter_append, List.map_append]
  cases h : set.testBit n
  · simp [h]
  · simp [h]
theorem idxS_more {set n : Nat} (h : set < 2 ^ n) : ∀ k, idxS set (n + k) = idxS set n
  | 0 => rfl
  | k + 1 => by
    rw [← Nat.add_assoc, idxS_succ, Nat.testBit_lt_two_pow (Nat.lt_of_lt_of_le h (Nat.pow_le_pow_right (by decide) (Nat.le_add_right n k))), idxS_more h k]
    rfl
theorem idxS_mem {set n : Nat} {x : Int} : x ∈ idxS set n ↔ ∃ i : Nat, i < n ∧ set.testBit i = true ∧ x = i := by
  unfold idxS
  simp only [List.mem_map, List.mem_filter, List.mem_range]
  constructor
  · rintro ⟨i, ⟨h1, h2⟩, rfl⟩; exact ⟨i, h1, h2, rfl⟩
  · rintro ⟨i, h1, h2, rfl⟩; exact ⟨i, ⟨h1, h2⟩, rfl⟩
theorem idxS_len (set n : Nat) : (idxS set n).length ≤ n := by
  unfold idxS
  rw [List.length_map]
  exact Nat.le_trans (List.length_filter_le _ _) (by simp)
theorem idxS_nodup (set n : Nat) : (idxS set n).Nodup := by
  unfold idxS
  exact List.Pairwise.map _ (fun a b (h : a ≠ b) h' => h (by omega)) (List.Pairwise.filter _ List.nodup_range)
/-- first differences decide, then lengths -/
def lexB : List Int → List Int → Bool
  | [], [] => false
  | [], _ :: _ => true
  | _ :: _, [] => false
  | x :: a, y :: b => if x = y then lexB a b else decide (x < y)
def lexC : List Int → List Int → Int
  | [], [] => 0
  | [], _ :: _ => -1
  | _ :: _, [] => 1
  | x :: a, y :: b => if x = y then lexC a b else if x < y then -1 else 1
theorem lexC_neg : ∀ a b, decide (lexC a b < 0) = lexB a b
  | [], [] => rfl
  | [], _ :: _ => rfl
  | _ :: _, [] => rfl
  | x :: a, y :: b => by
    rw [lexC, lexB]
    by_cases h : x = y
    · rw [if_pos h, if_pos h, lexC_neg a b]
    · rw [if_neg h, if_neg h]
      by_cases h2 : x < y
      · rw [if_pos h2, decide_eq_true h2]; rfl
      · rw [if_neg h2, decide_eq_false h2]; rfl
/-- the better of two sets that contradict -/
def betB (x : List Int) (b : Option (List Int)) : Bool := match b with
  | none => true
  | some b => decide (x.length < b.length) || (decide (x.length = b.length) && lexB x b)
/-- the best set of the first m, of those that leave no candidate -/
def bestK (l : List Rd) : Nat → Option (List Int)
  | 0 => none
  | m + 1 => if (candS l m).isEmpty && betB (idxS m l.length) (bestK l m) then some (idxS m l.length) else bestK l m
theorem cand_zero (l : List Rd) : (candS l 0).isEmpty = false := by
  rw [candS_eq]
  have h : ∀ (l : List Rd) (i : Nat), subUp l 0 i = [] := fun l => by
    induction l with
    | nil => intro i; rfl
    | cons x r ih => intro i; rw [subUp, ih]; simp
  rw [h]
  have : (0 : Int) ∈ candA [] := candA_mem.2 ⟨by decide, rfl⟩
  cases hc : candA [] with
  | nil => rw [hc] at this; cases this
  | cons a r => rfl
theorem bestK_one (l : List Rd) : bestK l 1 = none := by
  rw [bestK, cand_zero]; rfl
theorem bestK_spec (l : List Rd) : ∀ m, (∀ b, bestK l m = some b → ∃ k, k < m ∧ (candS l k).isEmpty = true ∧ b = idxS k l.length) ∧ (∀ k, k < m → (candS l k).isEmpty = true → ∃ b, bestK l m = some b ∧ b.length ≤ (idxS k l.length).length)
  | 0 => ⟨fun b h => (by cases h), fun k h => (by omega)⟩
  | m + 1 => by
    obtain ⟨h1, h2⟩ := bestK_spec l m
    rw [bestK]
    cases hc : ((candS l m).isEmpty && betB (idxS m l.length) (bestK l m))
    · rw [if_neg (by simp)]
      refine ⟨fun b hb => ?_, fun k hk he => ?_⟩
      · obtain ⟨k, q1, q2, q3⟩ := h1 b hb
        exact ⟨k, by omega, q2, q3⟩
      · by_cases hkm : k < m
        · exact h2 k hkm he
        · obtain rfl : k = m := by omega
          rw [he, Bool.true_and] at hc
          cases hb : bestK l k with
          | none => rw [hb] at hc; cases hc
          | some b =>
            rw [hb] at hc
            refine ⟨b, rfl, ?_⟩
            simp only [betB, Bool.or_eq_false_iff, decide_eq_false_iff_not] at hc
            omega
    · rw [if_pos rfl]
      rw [Bool.and_eq_true] at hc
      refine ⟨fun b hb => ⟨m, by omega, hc.1, (Option.some.inj hb).symm⟩, fun k hk he => ⟨_, rfl, ?_⟩⟩
      by_cases hkm : k < m
      · obtain ⟨b, q1, q2⟩ := h2 k hkm he
        have h3 := hc.2
        rw [q1] at h3
        simp only [betB, Bool.or_eq_true, Bool.and_eq_true, decide_eq_true_eq] at h3
        omega
      · obtain rfl : k = m := by omega
        exact Nat.le_refl _
theorem bestK_len (l : List Rd) (m : Nat) (b : List Int) (h : bestK l m = some b) : b.length ≤ l.length ∧ b ≠ [] := by
  obtain ⟨k, h1, h2, rfl⟩ := (bestK_spec l m).1 b h
  refine ⟨idxS_len _ _, fun e => ?_⟩
  have hs : subUp l k 0 = [] := by
    have q : ∀ (l : List Rd) (i : Nat), (∀ j, i ≤ j → j < i + l.length → k.testBit j = false) → subUp l k i = [] := fun l => by
      induction l with
      | nil => intro i _; rfl
      | cons x r ih =>
        intro i hi
        rw [subUp, hi i (Nat.le_refl _) (by simp), ih (i + 1) (fun j a b => hi j (by omega) (by simp; omega))]
        rfl
    refine q l 0 fun j _ hj => ?_
    cases hb : k.testBit j
    · rfl
    · have : (j : Int) ∈ idxS k l.length := idxS_mem.2 ⟨j, by omega, hb, rfl⟩
      rw [e] at this
      cases this
  have h0 := cand_zero l
  rw [candS_eq] at h2 h0
  rw [hs] at h2
  have h00 : subUp l 0 0 = [] := by
    have h : ∀ (l : List Rd) (i : Nat), subUp l 0 i = [] := fun l => by
      induction l with
      | nil => intro i; rfl
      | cons x r ih => intro i; rw [subUp, ih]; simp
    exact h l 0
  rw [h00, h2] at h0
  cases h0
end Go.Proofs.YtppghnbabnhnbaaDoor
