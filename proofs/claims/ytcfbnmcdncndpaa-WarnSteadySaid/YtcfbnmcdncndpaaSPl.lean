/-
  Chapter 8: plain laws of states: levels, thresholds, runs.
-/
import Derived.Test.YtcfbnmcdncndpaaLw03
namespace Go.Proofs.Ytcfbnmcdncndpaa
open Go.ChangeShapes Go.WideShapes Go.ChangeAt Go.RowKit
set_option linter.unusedVariables false
set_option linter.unusedSimpArgs false

theorem upIdx_spec (v : Int) : ∀ (l : List Int) (k : Int), 0 ≤ k →
    (upIdx v l k = -1 ∧ ∀ i, i < l.length → gt l i ≤ v) ∨ ∃ j : Nat, j < l.length ∧ upIdx v l k = k + j ∧ (∀ i, i < j → gt l i ≤ v) ∧ v < gt l j
  | [], k, h => .inl ⟨rfl, fun i hi => by cases hi⟩
  | x :: r, k, h => by
    unfold upIdx
    by_cases hx : v < x
    · rw [if_pos hx]
      exact .inr ⟨0, by simp, by simp, fun i hi => by omega, hx⟩
    · rw [if_neg hx]
      rcases upIdx_spec v r (k + 1) (by omega) with ⟨h1, h2⟩ | ⟨j, h1, h2, h3, h4⟩
      · refine .inl ⟨h1, fun i hi => ?_⟩
        cases i with
        | zero => have : gt (x :: r) 0 = x := rfl
                  omega
        | succ i => rw [gt_cons]; exact h2 i (by simpa using hi)
      · refine .inr ⟨j + 1, by simpa using h1, by rw [h2]; push_cast; omega, fun i hi => ?_, by rw [gt_cons]; exact h4⟩
        cases i with
        | zero => have : gt (x :: r) 0 = x := rfl
                  omega
        | succ i => rw [gt_cons]; exact h3 i (by omega)
theorem reach_spec (v : Int) (l : List Int) : ∃ j : Nat, j ≤ l.length ∧ reach l v = j ∧ (∀ i, i < j → gt l i ≤ v) ∧ (j < l.length → v < gt l j) := by
  unfold reach
  rcases upIdx_spec v l 0 (by omega) with ⟨h1, h2⟩ | ⟨j, h1, h2, h3, h4⟩
  · exact ⟨l.length, Nat.le_refl _, by rw [h1]; simp, h2, fun h => by omega⟩
  · exact ⟨j, by omega, by rw [h2, if_neg (by omega)]; omega, h3, fun _ => h4⟩
theorem Inc.mono {l : List Int} (h : Inc l) : ∀ {i j : Nat}, i ≤ j → j < l.length → gt l i ≤ gt l j := by
  intro i j hij
  induction j with
  | zero => intro _; obtain rfl : i = 0 := by omega
            exact Int.le_refl _
  | succ j ih =>
    intro hj
    rcases Nat.lt_or_ge i (j + 1) with h1 | h1
    · have := ih (by omega) (by omega)
      have := h j hj
      omega
    · obtain rfl : i = j + 1 := by omega
      exact Int.le_refl _
theorem gt_take {l : List Int} {j i : Nat} (h : i < j) : gt (l.take j) i = gt l i := by
  unfold gt
  rw [List.getD_eq_getElem?_getD, List.getD_eq_getElem?_getD, List.getElem?_take, if_pos h]
theorem Inc.take {l : List Int} (h : Inc l) (j : Nat) : Inc (l.take j) := fun i hi => by
  have h1 : i + 1 < j := by simp at hi; omega
  have h2 : i + 1 < l.length := by simp at hi; omega
  rw [gt_take (by omega), gt_take h1]
  exact h i h2
/-- a level below which all thresholds are passed is reached -/
theorem reach_ge {l : List Int} (h : Inc l) {k : Nat} {v : Int} (hk : k ≤ l.length) (hv : k = 0 ∨ gt l (k - 1) ≤ v) : (k : Int) ≤ reach l v := by
  obtain ⟨j, hj, e, h1, h2⟩ := reach_spec v l
  rw [e]
  rcases Nat.lt_or_ge j k with hl | hl
  · have a := h2 (by omega)
    have b := h.mono (show j ≤ k - 1 by omega) (by omega)
    rcases hv with hv | hv <;> omega
  · omega
theorem reach_up {l : List Int} (h : Inc l) {k : Nat} {v : Int} (hk : (k : Int) ≤ reach l v) (h0 : 0 < k) : gt l (k - 1) ≤ v := by
  obtain ⟨j, hj, e, h1, h2⟩ := reach_spec v l
  rw [e] at hk
  exact h1 (k - 1) (by omega)
theorem kindOf_zero {a b : Int} : kindOf a b = 0 ↔ a = 0 := by
  unfold kindOf
  split
  · exact ⟨fun _ => by assumption, fun _ => rfl⟩
  · rename_i h
    refine ⟨fun h1 => ?_, fun h1 => absurd h1 h⟩
    split at h1
    · cases h1
    · split at h1 <;> cases h1
/-- what a step does to the level -/
theorem step_cases (u d : List Int) (hold : Int) (s : Sta) (x : Int) :
    (s.l < reach u x ∧ stepS u d hold s x = ⟨reach u x, 0, s.v + 1⟩) ∨
    (reach u x ≤ s.l ∧ (s.l = 0 ∨ gt d (s.l - 1).toNat ≤ x) ∧ stepS u d hold s x = ⟨s.l, 0, s.v⟩) ∨
    (reach u x ≤ s.l ∧ s.l ≠ 0 ∧ x < gt d (s.l - 1).toNat ∧ s.b + 1 = hold ∧ stepS u d hold s x = ⟨reach (d.take (s.l - 1).toNat) x, 0, s.v + 1⟩) ∨
    (reach u x ≤ s.l ∧ s.l ≠ 0 ∧ x < gt d (s.l - 1).toNat ∧ s.b + 1 ≠ hold ∧ stepS u d hold s x = ⟨s.l, s.b + 1, s.v⟩) := by
  by_cases h1 : s.l < reach u x
  · exact .inl ⟨h1, by unfold stepS; rw [if_pos h1]⟩
  by_cases h2 : s.l = 0
  · exact .inr (.inl ⟨by omega, .inl h2, by unfold stepS; rw [if_neg h1, if_pos h2]⟩)
  by_cases h3 : gt d (s.l - 1).toNat ≤ x
  · exact .inr (.inl ⟨by omega, .inr h3, by unfold stepS; rw [if_neg h1, if_neg h2, if_pos h3]⟩)
  by_cases h4 : s.b + 1 = hold
  · exact .inr (.inr (.inl ⟨by omega, h2, by omega, h4, by unfold stepS; rw [if_neg h1, if_neg h2, if_neg h3, if_pos h4]⟩))
  · exact .inr (.inr (.inr ⟨by omega, h2, by omega, h4, by unfold stepS; rw [if_neg h1, if_neg h2, if_neg h3, if_neg h4]⟩))
section
variable {nm : ByteArray} {u d : List Int} {hold : Int}
theorem OkR.incU (h : OkR nm u d hold) : Inc u := h.iu
theorem OkR.incD (h : OkR nm u d hold) : Inc d := fun i hi => h.id i (by have := h.dl; omega)
/-- a level that is kept: while no value is below its lower threshold -/
theorem step_keep (ho : OkR nm u d hold) {s : Sta} {x : Int} {k : Nat} (hs : (k : Int) ≤ s.l) (hl : s.l ≤ u.length) (hk : k = 0 ∨ gt d (k - 1) ≤ x) : (k : Int) ≤ (stepS u d hold s x).l := by
  rcases step_cases u d hold s x with ⟨h1, e⟩ | ⟨h1, h2, e⟩ | ⟨h1, h2, h3, h4, e⟩ | ⟨h1, h2, h3, h4, e⟩ <;> rw [e]
  · show (k : Int) ≤ reach u x
    omega
  · exact hs
  · show (k : Int) ≤ reach (d.take (s.l - 1).toNat) x
    have hdl := ho.dl
    have hlt : k ≤ (s.l - 1).toNat := by
      rcases hk with hk | hk
      · omega
      · rcases Nat.lt_or_ge (s.l - 1).toNat k with h5 | h5
        · have := ho.incD.mono (show (s.l - 1).toNat ≤ k - 1 by omega) (by omega)
          omega
        · exact h5
    refine reach_ge (ho.incD.take _) (by rw [List.length_take]; omega) ?_
    rcases hk with hk | hk
    · exact .inl hk
    · rcases Nat.eq_zero_or_pos k with h6 | h6
      · exact .inl h6
      · exact .inr (by rw [gt_take (by omega)]; exact hk)
  · exact hs
/-- behind a value the level is at least that from the value -/
theorem step_reach (ho : OkR nm u d hold) {s : Sta} {x : Int} (h0 : 0 ≤ s.l) (hl : s.l ≤ u.length) : reach u x ≤ (stepS u d hold s x).l := by
  rcases step_cases u d hold s x with ⟨h1, e⟩ | ⟨h1, h2, e⟩ | ⟨h1, h2, h3, h4, e⟩ | ⟨h1, h2, h3, h4, e⟩ <;> rw [e]
  · exact Int.le_refl _
  · exact h1
  · show reach u x ≤ reach (d.take (s.l - 1).toNat) x
    have hdl := ho.dl
    obtain ⟨j, hj, e1, h5, h6⟩ := reach_spec x u
    rw [e1] at h1 ⊢
    have hjl : j ≤ (s.l - 1).toNat := by
      rcases Nat.lt_or_ge (s.l - 1).toNat j with h7 | h7
      · have a := h5 _ h7
        have b := ho.lt (s.l - 1).toNat (by omega)
        omega
      · exact h7
    refine reach_ge (ho.incD.take _) (by rw [List.length_take]; omega) ?_
    rcases Nat.eq_zero_or_pos j with h8 | h8
    · exact .inl h8
    · refine .inr ?_
      rw [gt_take (by omega)]
      have a := h5 (j - 1) (by omega)
      have b := ho.lt (j - 1) (by omega)
      omega
  · exact h1
theorem runS_append (s : Sta) (l m : List Int) : runS u d hold s (l ++ m) = runS u d hold (runS u d hold s l) m := List.foldl_append ..
theorem runS_snoc (s : Sta) (l : List Int) (x : Int) : runS u d hold s (l ++ [x]) = stepS u d hold (runS u d hold s l) x := runS_append s l [x]
theorem runS_okK (ho : OkR nm u d hold) : ∀ (l : List Int) (s : Sta) (k : Nat), OkK u.length hold k s → OkK u.length hold (k + l.length) (runS u d hold s l)
  | [], s, k, h => h
  | x :: l, s, k, h => by
    have := runS_okK ho l _ _ (h.step ho.dl ho.h0 x)
    rw [List.length_cons, show k + (l.length + 1) = k + 1 + l.length by omega]
    exact this
/-- the version tells whether the level has changed -/
theorem step_ver (u d : List Int) (hold : Int) (s : Sta) (x : Int) (h0 : 0 ≤ s.l) :
    ((stepS u d hold s x).v = s.v ∧ (stepS u d hold s x).l = s.l) ∨ ((stepS u d hold s x).v = s.v + 1 ∧ (stepS u d hold s x).l ≠ s.l) := by
  rcases step_cases u d hold s x with ⟨h1, e⟩ | ⟨h1, h2, e⟩ | ⟨h1, h2, h3, h4, e⟩ | ⟨h1, h2, h3, h4, e⟩ <;> rw [e]
  · exact .inr ⟨rfl, by show reach u x ≠ s.l; omega⟩
  · exact .inl ⟨rfl, rfl⟩
  · refine .inr ⟨rfl, ?_⟩
    show reach (d.take (s.l - 1).toNat) x ≠ s.l
    have := reach_bd (d.take (s.l - 1).toNat) x
    have hl : (d.take (s.l - 1).toNat).length ≤ (s.l - 1).toNat := by rw [List.length_take]; omega
    omega
  · exact .inl ⟨rfl, rfl⟩
theorem chs_snoc (u d : List Int) (hold : Int) : ∀ (l : List Int) (i : Nat) (s : Sta) (x : Int),
    chs u d hold i s (l ++ [x]) = chs u d hold i s l ++ (if (stepS u d hold (runS u d hold s l) x).v = (runS u d hold s l).v then [] else [(i + l.length, runS u d hold s l, stepS u d hold (runS u d hold s l) x)])
  | [], i, s, x => by
    have e : runS u d hold s [] = s := rfl
    rw [List.nil_append, chs, chs, chs, e, List.append_nil, List.nil_append]
    rfl
  | y :: l, i, s, x => by
    have ih := chs_snoc u d hold l (i + 1) (stepS u d hold s y) x
    have e : runS u d hold s (y :: l) = runS u d hold (stepS u d hold s y) l := rfl
    rw [List.cons_append]
    unfold chs
    rw [ih, e, List.append_assoc, List.length_cons, show i + 1 + l.length = i + (l.length + 1) by omega]
theorem okK0 (ho : OkR nm u d hold) : OkK u.length hold 0 ⟨0, 0, 0⟩ := ⟨by simp, by simp, by simp, by have := ho.h0; simp; omega, by simp, by simp⟩
theorem runS_ok (ho : OkR nm u d hold) (l : List Int) : OkK u.length hold l.length (runS u d hold ⟨0, 0, 0⟩ l) := by
  have := runS_okK ho l _ _ (okK0 ho)
  rwa [Nat.zero_add] at this
end
end Go.Proofs.Ytcfbnmcdncndpaa
