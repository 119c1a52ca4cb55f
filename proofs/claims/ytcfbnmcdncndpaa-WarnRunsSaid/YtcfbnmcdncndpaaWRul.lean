/-
  Chapter 8: what valid rules are (plain).
-/
import Derived.Test.YtcfbnmcdncndpaaWLev
namespace Go.Proofs.Ytcfbnmcdncndpaa
open Go.ChangeShapes Go.WideShapes Go.ChangeAt Go.RowKit
set_option linter.unusedVariables false
set_option linter.unusedSimpArgs false

structure OkR (s : ByteArray) (u d : List Int) (hold : Int) : Prop where
  nm : isNm s = true
  n0 : 0 < u.length
  n4 : u.length ≤ 4
  dl : d.length = u.length
  h0 : 1 ≤ hold
  h1 : hold ≤ 20
  ur : ∀ i, i < u.length → -1000000 ≤ gt u i ∧ gt u i ≤ 1000000
  dr : ∀ i, i < u.length → -1000000 ≤ gt d i ∧ gt d i ≤ 1000000
  lt : ∀ i, i < u.length → gt d i < gt u i
  iu : ∀ i, i + 1 < u.length → gt u i < gt u (i + 1)
  id : ∀ i, i + 1 < u.length → gt d i < gt d (i + 1)
theorem badRow_ok {u d : List Int} : ∀ (n i : Nat), (badRow u d n i).2 = 0 → ∀ j, i ≤ j → j < i + n → rowE u d j = 0
  | 0, i, _, j, h1, h2 => by omega
  | n + 1, i, h, j, h1, h2 => by
    unfold badRow at h
    by_cases hr : rowE u d i = 0
    · rw [if_pos hr] at h
      by_cases e : j = i
      · rw [e]; exact hr
      · exact badRow_ok n (i + 1) h j (by omega) (by omega)
    · rw [if_neg hr] at h; exact absurd h hr
theorem rowE_zero {u d : List Int} {i : Nat} (h : rowE u d i = 0) : (-1000000 ≤ gt u i ∧ gt u i ≤ 1000000) ∧ (-1000000 ≤ gt d i ∧ gt d i ≤ 1000000) ∧ gt d i < gt u i ∧ (i = 0 ∨ gt u (i - 1) < gt u i ∧ gt d (i - 1) < gt d i) := by
  unfold rowE vB at h
  rw [firstE3, unl_zero (by decide), unl_zero (by decide), unl_zero (by decide), Bool.and_eq_true, withinB_true, withinB_true, decide_eq_true_eq, Bool.or_eq_true, Bool.and_eq_true, decide_eq_true_eq, decide_eq_true_eq, decide_eq_true_eq] at h
  exact ⟨h.1.1, h.1.2, h.2.1, h.2.2⟩
theorem okR_of {s : ByteArray} {u d : List Int} {hold : Int} (h : chkRE s u d hold = 0) : OkR s u d hold := by
  unfold chkRE chkR at h
  by_cases hE : rulE0 s u.length d.length = 0
  · rw [if_neg (by simp [hE])] at h
    obtain ⟨hnm, hn0, hdl, hn4⟩ := rulE0_zero hE
    by_cases hb : (badRow u d u.length 0).2 = 0
    · rw [if_neg (by simp [hb])] at h
      have hh := withinB_true.1 ((unl_zero (by decide)).1 h)
      have hr : ∀ i, i < u.length → _ := fun i hi => rowE_zero (badRow_ok u.length 0 hb i (by omega) (by omega))
      refine ⟨hnm, hn0, hn4, hdl, hh.1, hh.2, fun i hi => (hr i hi).1, fun i hi => (hr i hi).2.1, fun i hi => (hr i hi).2.2.1, fun i hi => ?_, fun i hi => ?_⟩
      · have := (hr (i + 1) hi).2.2.2
        simp at this
        exact this.1
      · have := (hr (i + 1) hi).2.2.2
        simp at this
        exact this.2
    · rw [if_pos hb] at h; exact absurd h hb
  · rw [if_pos hE] at h; exact absurd h hE
end Go.Proofs.Ytcfbnmcdncndpaa
