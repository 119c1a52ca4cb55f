/-
  Chapter 8: names: which strings are names.
-/
import Derived.Test.YtcfbnmcdncndpaaWLeaf
import Derived.Laws.IdiomStrings
import Derived.Deep.DeepCutAuto
namespace Go.Proofs.Ytcfbnmcdncndpaa
open Go.ChangeShapes Go.WideShapes Go.ChangeAt Go.RowKit
set_option linter.unusedVariables false
set_option linter.unusedSimpArgs false

def letB (c : Int) : Bool := withinB c 97 122 || withinB c 65 90
/-- a byte that no name has at this place -/
def oddB (k : Nat) (c : Int) : Bool := !letB c && (decide (k = 0) || (decide (c ≠ 45) && !withinB c 48 57))
def chAt (s : ByteArray) (i : Nat) : Int := ((s.data.getD i 0).toNat : Int)
def isNm (s : ByteArray) : Bool := decide (1 ≤ s.size) && decide (s.size ≤ 12) && (List.range s.size).all fun i => !oddB i (chAt s i)
theorem chAt_bd (s : ByteArray) (i : Nat) : 0 ≤ chAt s i ∧ chAt s i ≤ 255 := by
  unfold chAt
  have := (s.data.getD i 0).toNat_lt
  omega
theorem chAt_eq (s : ByteArray) {i : Nat} (h : i < s.data.size) : chAt s i = (s.data[i].toNat : Int) := by
  unfold chAt
  simp only [Array.getD]
  rw [dif_pos h]
  rfl
theorem isNm_bad {s : ByteArray} {k : Nat} (hk : k < s.size) (h : oddB k (chAt s k) = true) : isNm s = false := by
  unfold isNm
  have : ((List.range s.size).all fun i => !oddB i (chAt s i)) = false := by
    rw [List.all_eq_false]
    exact ⟨k, by simpa using hk, by simp [h]⟩
  rw [this, Bool.and_false]
theorem isNm_good {s : ByteArray} (h : ∀ j, j < s.size → oddB j (chAt s j) = false) : isNm s = withinB (s.size : Int) 1 12 := by
  unfold isNm withinB
  have : ((List.range s.size).all fun i => !oddB i (chAt s i)) = true := by
    rw [List.all_eq_true]
    intro x hx
    simp [h x (by simpa using hx)]
  rw [this, Bool.and_true]
  congr 1
  · simp; omega
  · simp; omega
set_option maxHeartbeats 1000000 in
theorem isName_any (s : ByteArray) (w : World) (hs : s.size ≤ 1000) :
    Calls Try.prog 114 #[.string s] w fun e w' => e = .returned (.bool (isNm s)) ∧ Below w.heap.size w w' := by
  obtain ⟨cap, W1, hconv, hb, hcells⟩ : ∃ cap W1, (convert 9 194 (.string s)).run Try.prog w = .ok (.slice (some ⟨w.heap.size, 0, none⟩) s.size cap) W1 ∧ Below w.heap.size w W1 ∧ ∀ j (h : j < s.data.size), W1.cell? ⟨w.heap.size, j, none⟩ = some (.int .u8 (s.data[j].toNat : Int)) :=
    ⟨_, _, run_bytes_of_string w _ _ 5 s Try.underlying9 Try.underlying194 Try.underlying5, (by repeat (first | assumption | exact Below.refl _ _ | refine Below.drew ?_ | (refine below_alloc _ ?_ ?_; focus (first | omega | (simp; done) | (simp; omega) | (simp at *; omega))) | (refine below_set _ ?_ ?_; focus (first | omega | (simp; done) | (simp; omega) | (simp at *; omega))) | refine below_drewN ?_ _ | (refine below_call (by assumption) ?_ ?_; focus (first | omega | (simp; done) | (simp; omega) | (simp at *; omega))) | (refine below_call' (by assumption) ?_ ?_; focus (first | omega | (simp; done) | (simp; omega) | (simp at *; omega))))), fun j h => (World.cell?_alloc_mark _ _ _ _ _).trans (bytesRow_at s _ j h)⟩
  have HC := Lib.hid hcells
  clear hcells
  go_enter Try.func114, Try.ntmps114
  go_wp2_with (fail)
  go_loopw [9] (fun i wr => ∃ k : Nat, k ≤ s.size ∧ i = .int .i64 k ∧ W1 = wr ∧ ∀ j, j < k → oddB j (chAt s j) = false) (fun i _ => s.size - (intOf i).toNat)
  case atStart => exact ⟨0, Nat.zero_le _, rfl, rfl, fun j h => absurd h (Nat.not_lt_zero _)⟩
  case round =>
    obtain ⟨k, hk, rfl, rfl, hok⟩ := hrel
    have HK := Lib.hid hok
    clear hok
    by_cases hlt : k < s.size
    · have h0 := HC.out k hlt
      rw [← chAt_eq s hlt] at h0
      obtain ⟨c0, c1⟩ := chAt_bd s k
      have HBD := Lib.hid (fun h => isNm_bad (s := s) hlt h)
      have HSU := Lib.hid (show oddB k (chAt s k) = false → ∀ j, j < k + 1 → oddB j (chAt s j) = false from fun h j hj => by
        by_cases e : j = k
        · rw [e]; exact h
        · exact HK.out j (by omega))
      generalize chAt s k = c at *
      go_upto_region 4 with (fail)
      go_cut [5] from 10 to 21 (fun t wx => t = .bool (letB c) ∧ W1 = wx)
      case first =>
        cases h1 : withinB c 97 122
        · cases h2 : withinB c 65 90
          all_goals
            have hl := letB.eq_1 c
            rw [h1, h2] at hl
            have H1 := Lib.hid h1
            have H2 := Lib.hid h2
            have HL := Lib.hid hl
            clear h1 h2 hl
            go_wp2_with (go_at_call 88; refine (within_any _ _ _ _).mono ?_; rintro e w' ⟨rfl, rfl⟩; first | rw [H1.out] | rw [H2.out])
            go_meet
            exact ⟨by rw [HL.out]; rfl, rfl⟩
        · have hl := letB.eq_1 c
          rw [h1] at hl
          have H1 := Lib.hid h1
          have H2 := Lib.hid h1
          have HL := Lib.hid hl
          clear h1 hl
          go_wp2_with (go_at_call 88; refine (within_any _ _ _ _).mono ?_; rintro e w' ⟨rfl, rfl⟩; first | rw [H1.out] | rw [H2.out])
          go_meet
          exact ⟨by rw [HL.out]; rfl, rfl⟩
      case rest =>
      obtain ⟨rfl, rfl⟩ := hcut
      go_upto_region 5 with (fail)
      go_cut [5, 37] from 22 to 37 (fun t5 t wx => t = .bool (oddB k c) ∧ W1 = wx)
      case first =>
        have ho := oddB.eq_1 k c
        cases hl : letB c
        rotate_left 1
        · rw [hl] at ho
          have HO := Lib.hid ho
          clear ho hl
          go_wp2_with (fail)
          go_meet
          exact ⟨by rw [HO.out]; rfl, rfl⟩
        rw [hl] at ho
        by_cases hk0 : k = 0
        · rw [decide_eq_true hk0] at ho
          have HO := Lib.hid ho
          have hk1 : ((k : Int) == 0) = true := by simpa using hk0
          clear ho hl hk0
          go_wp2_with (fail)
          go_meet
          exact ⟨by rw [HO.out]; rfl, rfl⟩
        rw [decide_eq_false hk0] at ho
        have hk1 : ((k : Int) == 0) = false := by simpa using hk0
        by_cases hc45 : c = 45
        · rw [decide_eq_false (by simpa using hc45)] at ho
          have HO := Lib.hid ho
          have hc1 : (c != 45) = false := by simpa using hc45
          clear ho hl hk0 hc45
          go_wp2_with (fail)
          go_meet
          exact ⟨by rw [HO.out]; rfl, rfl⟩
        rw [decide_eq_true hc45] at ho
        have hc1 : (c != 45) = true := by simpa using hc45
        cases hd : withinB c 48 57
        all_goals
          rw [hd] at ho
          have HO := Lib.hid ho
          have H1 := Lib.hid hd
          have H2 := Lib.hid hd
          clear ho hl hk0 hc45 hd
          go_wp2_with (go_at_call 88; refine (within_any _ _ _ _).mono ?_; rintro e w' ⟨rfl, rfl⟩; first | rw [H1.out] | rw [H2.out])
          go_meet
          exact ⟨by rw [HO.out]; rfl, rfl⟩
      case rest =>
      obtain ⟨rfl, rfl⟩ := hcut
      cases ho : oddB k c
      rotate_left 1
      · have hb2 := HBD.out ho
        have HB2 := Lib.hid hb2
        clear ho hb2 HBD HSU
        go_wp2_with (fail)
        go_ret
        rw [HB2.out]
        exact ⟨rfl, hb⟩
      · have HS2 := Lib.hid (HSU.out ho)
        clear ho HBD HSU
        go_wp2_with (fail)
        exact ⟨⟨k + 1, by omega, by go_num, trivial, HS2.out⟩, by simp [intOf]; omega⟩
    · obtain rfl : k = s.size := by omega
      have hg := isNm_good HK.out
      have HG := Lib.hid hg
      clear hg
      go_wp2_with (go_at_call 88; refine (within_any _ _ _ _).mono ?_; rintro e w' ⟨rfl, rfl⟩)
      go_ret
      rw [HG.out]
      exact ⟨rfl, hb⟩
theorem nameErr_any (s : ByteArray) (w : World) (hs : s.size ≤ 1000) :
    Calls Try.prog 85 #[.string s] w fun e w' => e = .returned (.int .i64 (unl (isNm s) 4)) ∧ Below w.heap.size w w' := by
  go_enter Try.func85, Try.ntmps85
  go_wp2_with (fail)
  refine (isName_any s _ hs).mono ?_
  rintro e w1 ⟨rfl, hb1⟩
  go_wp2_with (go_at_call 86; refine (unless_any _ _ _).mono ?_; rintro e w' ⟨rfl, rfl⟩)
  go_ret
  exact ⟨rfl, hb1⟩
theorem isNm_long {s : ByteArray} (h : withinB (s.size : Int) 1 12 = false) : isNm s = false := by
  unfold isNm
  unfold withinB at h
  have : (decide (1 ≤ s.size) && decide (s.size ≤ 12)) = false := by
    rw [← h]
    congr 1
    · simp; omega
    · simp; omega
  rw [this, Bool.false_and]
set_option maxHeartbeats 1000000 in
theorem IsName_any (s : ByteArray) (w : World) :
    Calls Try.prog 92 #[.string s] w fun e w' => e = .returned (.bool (isNm s)) ∧ w = w' := by
  cases hl : withinB (s.size : Int) 1 12
  · have HL := Lib.hid (isNm_long hl)
    by_cases h1 : (s.size : Int) < 1
    · clear hl
      go_enter Try.func92, Try.ntmps92
      go_wp2_with (fail)
      go_ret
      rw [HL.out]
      exact ⟨rfl, rfl⟩
    · have h2 : ¬ (s.size : Int) ≤ 12 := fun h => by
        have := withinB_true.2 (show (1 : Int) ≤ s.size ∧ (s.size : Int) ≤ 12 from ⟨by omega, h⟩)
        rw [this] at hl
        cases hl
      have h3 : (12 : Int) < (s.size : Int) := by omega
      clear hl
      go_enter Try.func92, Try.ntmps92
      go_wp2_with (fail)
      go_ret
      rw [HL.out]
      exact ⟨rfl, rfl⟩
  obtain ⟨h1, h2⟩ := withinB_true.1 hl
  have HL := Lib.hid hl
  clear hl
  have h1' : ¬ (s.size : Int) < 1 := by omega
  have h2' : ¬ (12 : Int) < (s.size : Int) := by omega
  go_enter Try.func92, Try.ntmps92
  go_wp2_with (fail)
  go_loopw [3] (fun i wr => ∃ k : Nat, k ≤ s.size ∧ i = .int .i64 k ∧ w = wr ∧ ∀ j, j < k → oddB j (chAt s j) = false) (fun i _ => s.size - (intOf i).toNat)
  case atStart => exact ⟨0, Nat.zero_le _, rfl, rfl, fun j h => absurd h (Nat.not_lt_zero _)⟩
  case round =>
    obtain ⟨k, hk, rfl, rfl, hok⟩ := hrel
    have HK := Lib.hid hok
    clear hok
    by_cases hlt : k < s.size
    · have hck : ((s[k]'hlt).toNat : Int) = chAt s k := by rw [chAt_eq s hlt]; rfl
      go_upto_region 7 with (fail)
      obtain ⟨c0, c1⟩ := chAt_bd s k
      have HBD := Lib.hid (fun h => isNm_bad (s := s) hlt h)
      have HSU := Lib.hid (show oddB k (chAt s k) = false → ∀ j, j < k + 1 → oddB j (chAt s j) = false from fun h j hj => by
        by_cases e : j = k
        · rw [e]; exact h
        · exact HK.out j (by omega))
      clear hck
      generalize chAt s k = c at *
      go_cut [5] from 14 to 36 (fun t wx => t = .bool (letB c) ∧ w = wx)
      case first =>
        have hl := letB.eq_1 c
        unfold withinB at hl
        by_cases a1 : 97 ≤ c <;> by_cases a2 : c ≤ 122 <;> by_cases a3 : 65 ≤ c <;> by_cases a4 : c ≤ 90
        all_goals first
          | (exfalso; omega)
          | skip
        all_goals
          (try rw [decide_eq_true a1] at hl); (try rw [decide_eq_false a1] at hl)
          (try rw [decide_eq_true a2] at hl); (try rw [decide_eq_false a2] at hl)
          (try rw [decide_eq_true a3] at hl); (try rw [decide_eq_false a3] at hl)
          (try rw [decide_eq_true a4] at hl); (try rw [decide_eq_false a4] at hl)
          have HL2 := Lib.hid hl
          clear hl
          go_wp2_with (fail)
          go_meet
          exact ⟨by rw [HL2.out]; rfl, rfl⟩
      case rest =>
      obtain ⟨rfl, rfl⟩ := hcut
      go_upto_region 8 with (fail)
      go_cut [5, 54] from 37 to 54 (fun t5 t wx => t = .bool (oddB k c) ∧ w = wx)
      case first =>
        have ho := oddB.eq_1 k c
        cases hl : letB c
        rotate_left 1
        · rw [hl] at ho
          have HO := Lib.hid ho
          clear ho hl
          go_wp2_with (fail)
          go_meet
          exact ⟨by rw [HO.out]; rfl, rfl⟩
        rw [hl] at ho
        by_cases hk0 : k = 0
        · rw [decide_eq_true hk0] at ho
          have HO := Lib.hid ho
          have hk1 : ((k : Int) == 0) = true := by simpa using hk0
          clear ho hl hk0
          go_wp2_with (fail)
          go_meet
          exact ⟨by rw [HO.out]; rfl, rfl⟩
        rw [decide_eq_false hk0] at ho
        have hk1 : ((k : Int) == 0) = false := by simpa using hk0
        by_cases hc45 : c = 45
        · rw [decide_eq_false (by simpa using hc45)] at ho
          have HO := Lib.hid ho
          have hc1 : (c != 45) = false := by simpa using hc45
          clear ho hl hk0 hc45
          go_wp2_with (fail)
          go_meet
          exact ⟨by rw [HO.out]; rfl, rfl⟩
        rw [decide_eq_true hc45] at ho
        have hc1 : (c != 45) = true := by simpa using hc45
        unfold withinB at ho
        by_cases a1 : 48 ≤ c <;> by_cases a2 : c ≤ 57
        all_goals first
          | (exfalso; omega)
          | skip
        all_goals
          (try rw [decide_eq_true a1] at ho); (try rw [decide_eq_false a1] at ho)
          (try rw [decide_eq_true a2] at ho); (try rw [decide_eq_false a2] at ho)
          have HO := Lib.hid ho
          clear ho hl hk0 hc45
          go_wp2_with (fail)
          go_meet
          exact ⟨by rw [HO.out]; first | rfl | (congr 1; simp; omega), rfl⟩
      case rest =>
      obtain ⟨rfl, rfl⟩ := hcut
      cases ho : oddB k c
      rotate_left 1
      · have hb2 := HBD.out ho
        have HB2 := Lib.hid hb2
        clear ho hb2 HBD HSU
        go_wp2_with (fail)
        go_ret
        rw [HB2.out]
        exact ⟨rfl, rfl⟩
      · have HS2 := Lib.hid (HSU.out ho)
        clear ho HBD HSU
        go_wp2_with (fail)
        exact ⟨⟨k + 1, by omega, by go_num, trivial, HS2.out⟩, by simp [intOf]; omega⟩
    · obtain rfl : k = s.size := by omega
      have hg := isNm_good HK.out
      have HG := Lib.hid (hg.trans HL.out)
      clear hg
      go_wp2_with (fail)
      go_ret
      rw [HG.out]
      exact ⟨rfl, rfl⟩
end Go.Proofs.Ytcfbnmcdncndpaa
