/-
  The strings' small functions: a number read (Number).
-/
import Derived.Test.YtlnbbioponmcfaaGreatDoorStrP
import Derived.Test.YtlnbbioponmcfaaGreatDoorELeaf
namespace Go.Proofs.YtlnbbioponmcfaaGreatDoor
open Go.ChangeShapes Go.WideShapes Go.ChangeAt Go.RowKit
set_option linter.unusedVariables false
set_option linter.unusedSimpArgs false

/-- the byte at a place -/
def chL (l : List UInt8) (k : Nat) : Int := ((l.getD k 0).toNat : Int)
theorem chL_bd (l : List UInt8) (k : Nat) : 0 ≤ chL l k ∧ chL l k ≤ 255 := by
  unfold chL
  have := (l.getD k 0).toNat_lt
  omega
theorem chL_get {l : List UInt8} {k : Nat} (h : k < l.length) : chL l k = (l[k].toNat : Int) := by
  unfold chL
  rw [List.getD_eq_getElem?_getD, List.getElem?_eq_getElem h]
  rfl
theorem get_str (s : ByteArray) (k : Nat) (h : k < s.size) : (((s[k]'h).toNat : Nat) : Int) = chL s.data.toList k := by
  rw [chL_get (by simpa using h)]
  rfl
theorem len_list (s : ByteArray) : s.data.toList.length = s.size := (Lib.size_eq s).symm
def numB (d : Nat) (s : ByteArray) : Option Int := numQ d s.data.toList
theorem decFrom_bad {l : List UInt8} {k : Nat} (h : k < l.length) (hc : chL l k < 48 ∨ 57 < chL l k) (acc : Nat) : Lib.decFrom acc l = none := by
  cases hd : Lib.decFrom acc l with
  | none => rfl
  | some n =>
    have := decFrom_all l acc n hd l[k] (List.getElem_mem h)
    rw [chL_get h] at hc
    omega
theorem decFrom_step {l : List UInt8} {k n : Nat} (h : k < l.length) (hn : Lib.decFrom 0 (l.take k) = some n) (h0 : 48 ≤ chL l k) (h1 : chL l k ≤ 57) :
    Lib.decFrom 0 (l.take (k + 1)) = some (n * 10 + (chL l k - 48).toNat) := by
  rw [List.take_succ_eq_append_getElem h, decFrom_snoc, hn]
  rw [chL_get h] at h0 h1 ⊢
  have e : Lib.digitVal l[k] = some (l[k].toNat - 48) := by
    unfold Lib.digitVal
    rw [if_pos ⟨by omega, by omega⟩]
  rw [e]
  simp
  omega
theorem decFrom_small {l : List UInt8} {k n : Nat} (hk : k ≤ 17) (hn : Lib.decFrom 0 (l.take k) = some n) : n < 100000000000000000 := Lib.decFrom_take_lt hn hk
/-- how the number's string begins: 1 behind a sign -/
def atS (l : List UInt8) : Nat := if l.head? = some 45 then 1 else 0
theorem chL_drop (l : List UInt8) (a k : Nat) : chL (l.drop a) k = chL l (a + k) := by
  unfold chL
  rw [List.getD_eq_getElem?_getD, List.getD_eq_getElem?_getD, List.getElem?_drop]
theorem atS_one {l : List UInt8} (h : chL l 0 = 45) : atS l = 1 := by
  unfold atS
  rw [if_pos]
  cases l with
  | nil => simp [chL] at h
  | cons x r =>
    have h9 : (x.toNat : Int) = 45 := by simpa [chL] using h
    have : x.toNat = 45 := by omega
    have e : x = 45 := UInt8.toNat_inj.1 this
    rw [e]; rfl
theorem atS_zero {l : List UInt8} (h : chL l 0 ≠ 45) : atS l = 0 := by
  unfold atS
  rw [if_neg]
  intro e
  apply h
  cases l with
  | nil => cases e
  | cons x r =>
    rw [List.head?_cons, Option.some.injEq] at e
    subst e
    rfl
theorem head48 {l : List UInt8} (hl : 0 < l.length) : l.head? = some 48 ↔ chL l 0 = 48 := by
  cases l with
  | nil => simp at hl
  | cons x r =>
    constructor
    · intro e
      rw [List.head?_cons, Option.some.injEq] at e
      subst e
      rfl
    · intro e
      have h9 : (x.toNat : Int) = 48 := by simpa [chL] using e
      have h2 : x.toNat = 48 := by omega
      have h3 : x = 48 := UInt8.toNat_inj.1 h2
      rw [h3]; rfl
/-- which strings are refused at once -/
theorem numQ_bad {d : Nat} {l : List UInt8} (h : l.length = atS l ∨ d < l.length - atS l ∨ (chL l (atS l) = 48 ∧ 1 < l.length)) : numQ d l = none := by
  unfold numQ
  by_cases hm : l.head? = some 45
  · have ha : atS l = 1 := by unfold atS; rw [if_pos hm]
    rw [ha] at h
    rw [if_pos hm]
    unfold negQ
    rw [if_pos]
    have hl : l.tail.length = l.length - 1 := List.length_tail
    rcases h with h | h | ⟨h, h'⟩
    · exact Or.inl (List.eq_nil_of_length_eq_zero (by omega))
    · exact Or.inr (Or.inl (by omega))
    · refine Or.inr (Or.inr ((head48 (by omega)).2 ?_))
      have := chL_drop l 1 0
      rw [List.drop_one] at this
      rw [this]
      exact h
  · have ha : atS l = 0 := by unfold atS; rw [if_neg hm]
    rw [ha] at h
    rw [if_neg hm]
    unfold posQ
    rw [if_pos]
    rcases h with h | h | ⟨h, h'⟩
    · exact Or.inl (List.eq_nil_of_length_eq_zero h)
    · exact Or.inr (Or.inl (by omega))
    · exact Or.inr (Or.inr ⟨(head48 (by omega)).2 h, h'⟩)
/-- the others are what their digits are -/
theorem numQ_good {d : Nat} {l : List UInt8} (h1 : l.length ≠ atS l) (h2 : ¬ d < l.length - atS l) (h3 : ¬ (chL l (atS l) = 48 ∧ 1 < l.length)) :
    numQ d l = (Lib.decFrom 0 (l.drop (atS l))).map fun (m : Nat) => if atS l = 1 then -(m : Int) else (m : Int) := by
  unfold numQ
  by_cases hm : l.head? = some 45
  · have ha : atS l = 1 := by unfold atS; rw [if_pos hm]
    rw [ha] at h1 h2 h3 ⊢
    rw [if_pos hm]
    unfold negQ
    have hl : l.tail.length = l.length - 1 := List.length_tail
    have hp : 0 < l.length := by cases l with | nil => cases hm | cons _ _ => simp
    rw [if_neg, List.drop_one]
    · rfl
    · rintro (h | h | h)
      · rw [h] at hl; simp at hl; omega
      · omega
      · have h5 := (head48 (by cases hx : l.tail with | nil => rw [hx] at h; cases h | cons _ _ => simp)).1 h
        have := chL_drop l 1 0
        rw [List.drop_one] at this
        rw [this] at h5
        exact h3 ⟨h5, by omega⟩
  · have ha : atS l = 0 := by unfold atS; rw [if_neg hm]
    rw [ha] at h1 h2 h3 ⊢
    rw [if_neg hm]
    unfold posQ
    rw [if_neg, List.drop_zero]
    · rfl
    · rintro (h | h | ⟨h, h'⟩)
      · rw [h] at h1; exact h1 rfl
      · omega
      · exact h3 ⟨(head48 (by omega)).1 h, h'⟩
set_option maxHeartbeats 2000000 in
theorem Number_any (s : ByteArray) (d : Nat) (w : World) (hd : d ≤ 17) (hs : s.size ≤ 1000000) :
    Calls Tryz.prog 85 #[.string s, .int .i64 (d : Int)] w fun e w' => e = .returned (.tuple #[.int .i64 ((numB d s).getD 0), .bool (numB d s).isSome]) ∧ w' = w := by
  have hll := len_list s
  obtain ⟨L, hL⟩ : ∃ L, L = s.data.toList := ⟨_, rfl⟩
  have hq : numB d s = numQ d L := by rw [hL]; rfl
  rw [← hL] at hll
  rw [hq]
  have HIX := Lib.hid (fun (k : Nat) (h : k < s.size) => get_str s k h)
  rw [← hL] at HIX
  clear hq hL
  by_cases h0 : s.size = 0
  · have hq : numQ d L = none := numQ_bad (Or.inl (by obtain rfl : L = [] := List.eq_nil_of_length_eq_zero (by omega); rfl))
    rw [hq]
    have e1 : decide ((0 : Int) < (s.size : Int)) = false := decide_eq_false (by omega)
    have e2 : ((s.size : Int) == 0) = true := by simp [h0]
    have e3 : decide (0 < s.size) = false := decide_eq_false (by omega)
    go_enter Tryz.func85, Tryz.ntmps85
    go_wp2_with (fail)
    go_ret2
    exact ⟨rfl, rfl⟩
  have hp : 0 < s.size := by omega
  have i0 := HIX.out 0 hp
  obtain ⟨a, ha⟩ : ∃ a, a = atS L := ⟨_, rfl⟩
  obtain ⟨c0, hc0⟩ : ∃ c, c = chL L 0 := ⟨_, rfl⟩
  rw [← hc0] at i0
  have hca : (c0 == 45) = decide (a = 1) := by
    rw [hc0, ha]
    by_cases h : chL L 0 = 45
    · rw [atS_one h]; simp [h]
    · rw [atS_zero h]; simp [h]
  have ha1 : a ≤ 1 := by rw [ha]; unfold atS; split <;> omega
  have e1 : decide ((0 : Int) < (s.size : Int)) = true := decide_eq_true (by omega)
  have e3 : decide (0 < s.size) = true := decide_eq_true hp
  have HA := Lib.hid ha
  have HLL := Lib.hid hll
  obtain ⟨q, hqq⟩ : ∃ q, q = numQ d L := ⟨_, rfl⟩
  rw [← hqq]
  have HQ := Lib.hid hqq
  clear hc0 ha hll hqq
  go_enter Tryz.func85, Tryz.ntmps85
  go_upto_if 16 with (fail)
  go_cut [6] from 9 to 16 (fun t wx => t = .int .i64 (a : Int) ∧ wx = w)
  case first =>
    by_cases h1 : a = 1
    · rw [decide_eq_true h1] at hca
      go_wp2_with (fail)
      go_meet
      exact ⟨by rw [h1]; rfl, rfl⟩
    · rw [decide_eq_false h1] at hca
      have h2 : a = 0 := by omega
      go_wp2_with (fail)
      go_meet
      exact ⟨by rw [h2]; rfl, rfl⟩
  case rest =>
  obtain ⟨rfl, rfl⟩ := hcut
  clear i0 hca e1 e3
  obtain ⟨c, hcc⟩ : ∃ c, c = chL L a := ⟨_, rfl⟩
  have HC := Lib.hid hcc
  clear hcc
  go_upto_region 4 with (fail)
  go_cut [39] from 17 to 39 (fun t wx => t = .bool (decide (s.size = a ∨ d < s.size - a ∨ (c = 48 ∧ 1 < s.size))) ∧ wx = wc)
  case first =>
    by_cases hA : s.size = a
    · have HN := Lib.hid (decide_eq_true (show s.size = a ∨ d < s.size - a ∨ (c = 48 ∧ 1 < s.size) from Or.inl hA))
      have e1 : ((s.size : Int) == (a : Int)) = true := by simp [hA]
      have e2 : (s.size == a) = true := by simp [hA]
      clear hA
      go_wp2_with (fail)
      go_meet
      exact ⟨by rw [HN.out], rfl⟩
    have e1 : ((s.size : Int) == (a : Int)) = false := by rw [beq_eq_false_iff_ne]; omega
    have e2 : (s.size == a) = false := by rw [beq_eq_false_iff_ne]; omega
    have hlt : a < s.size := by omega
    have hw : IntKind.i64.wrap ((s.size : Int) - (a : Int)) = (s.size : Int) - (a : Int) := by rw [IntKind.wrap_i64]; omega
    by_cases hB : d < s.size - a
    · have HN := Lib.hid (decide_eq_true (show s.size = a ∨ d < s.size - a ∨ (c = 48 ∧ 1 < s.size) from Or.inr (Or.inl hB)))
      have e3 : decide ((d : Int) < (s.size : Int) - (a : Int)) = true := decide_eq_true (by omega)
      clear hA hB
      go_wp2_with (fail)
      go_meet
      exact ⟨by rw [HN.out], rfl⟩
    have e3 : decide ((d : Int) < (s.size : Int) - (a : Int)) = false := decide_eq_false (by omega)
    have ia := HIX.out a hlt
    rw [← HC.out] at ia
    by_cases h48 : c = 48
    · have e4 : (c == 48) = true := by simp [h48]
      by_cases h1 : 1 < s.size
      · have HN := Lib.hid (decide_eq_true (show s.size = a ∨ d < s.size - a ∨ (c = 48 ∧ 1 < s.size) from Or.inr (Or.inr ⟨h48, h1⟩)))
        have e5 : decide ((1 : Int) < (s.size : Int)) = true := decide_eq_true (by omega)
        have e6 : decide (1 < s.size) = true := decide_eq_true h1
        clear hA hB h48 h1
        go_wp2_with (fail)
        go_meet
        exact ⟨by rw [HN.out], rfl⟩
      · have HN := Lib.hid (decide_eq_false (show ¬ (s.size = a ∨ d < s.size - a ∨ (c = 48 ∧ 1 < s.size)) by omega))
        have e5 : decide ((1 : Int) < (s.size : Int)) = false := decide_eq_false (by omega)
        have e6 : decide (1 < s.size) = false := decide_eq_false h1
        clear hA hB h48 h1
        go_wp2_with (fail)
        go_meet
        exact ⟨by rw [HN.out], rfl⟩
    · have e4 : (c == 48) = false := by rw [beq_eq_false_iff_ne]; exact h48
      have HN := Lib.hid (decide_eq_false (show ¬ (s.size = a ∨ d < s.size - a ∨ (c = 48 ∧ 1 < s.size)) by omega))
      clear hA hB h48
      go_wp2_with (fail)
      go_meet
      exact ⟨by rw [HN.out], rfl⟩
  case rest =>
  obtain ⟨rfl, rfl⟩ := hcut
  by_cases hbad : s.size = a ∨ d < s.size - a ∨ (c = 48 ∧ 1 < s.size)
  · have HN := Lib.hid (HQ.out.trans (numQ_bad (by rw [HLL.out, ← HA.out, ← HC.out]; exact hbad)))
    have e1 := decide_eq_true hbad
    clear hbad
    generalize decide (s.size = a ∨ d < s.size - a ∨ (c = 48 ∧ 1 < s.size)) = b at *
    subst e1
    go_wp2_with (fail)
    go_ret2
    exact ⟨by rw [HN.out]; rfl, rfl⟩
  have e1 := decide_eq_false hbad
  have hlt : a < s.size := by omega
  have hdd : s.size - a ≤ 17 := by omega
  have hg := HQ.out.trans (numQ_good (by rw [HLL.out, ← HA.out]; omega) (by rw [HLL.out, ← HA.out]; omega) (by rw [HLL.out, ← HA.out, ← HC.out]; omega))
  rw [← HA.out] at hg
  have HG := Lib.hid hg
  clear hbad hg
  generalize decide (s.size = a ∨ d < s.size - a ∨ (c = 48 ∧ 1 < s.size)) = b at *
  subst e1
  have hdl : (L.drop a).length = s.size - a := by rw [List.length_drop, HLL.out]
  have HDL := Lib.hid hdl
  clear hdl HQ HC
  go_wp2_with (fail)
  go_loopw [7, 8] (fun n i wr => ∃ (k m : Nat), k ≤ s.size - a ∧ i = .int .i64 ((a + k : Nat) : Int) ∧ n = .int .i64 (m : Int) ∧ Lib.decFrom 0 ((L.drop a).take k) = some m ∧ wr = wc) (fun _ i _ => s.size - (intOf i).toNat)
  case atStart => exact ⟨0, 0, Nat.zero_le _, rfl, rfl, rfl, rfl⟩
  case round =>
    obtain ⟨k, m, hk, rfl, rfl, hm, rfl⟩ := hrel
    have hms := decFrom_small (by omega) hm
    have HM := Lib.hid hm
    clear hm
    obtain ⟨j, hj⟩ : ∃ j, j = a + k := ⟨_, rfl⟩
    rw [← hj]
    by_cases hjl : j < s.size
    · have ij := HIX.out j hjl
      have hkl : k < (L.drop a).length := by rw [HDL.out]; omega
      rw [show chL L j = chL (L.drop a) k by rw [chL_drop, hj]] at ij
      obtain ⟨hc0, hc1⟩ := chL_bd (L.drop a) k
      have HB := Lib.hid (decFrom_bad hkl)
      have HS := Lib.hid (decFrom_step hkl HM.out)
      generalize chL (L.drop a) k = x at *
      have hjI : (j : Int) < (s.size : Int) := by omega
      have HJ := Lib.hid hj
      clear hj hkl
      by_cases hx0 : x < 48
      · have e1 : decide (x < 48) = true := decide_eq_true hx0
        have HN := Lib.hid (HG.out.trans (by rw [HB.out (Or.inl hx0) 0]))
        clear hx0
        go_wp2_with (fail)
        go_ret2
        exact ⟨by rw [HN.out]; rfl, rfl⟩
      have e1 : decide (x < 48) = false := decide_eq_false hx0
      by_cases hx1 : 57 < x
      · have e2 : decide (57 < x) = true := decide_eq_true hx1
        have HN := Lib.hid (HG.out.trans (by rw [HB.out (Or.inr hx1) 0]))
        clear hx0 hx1
        go_wp2_with (fail)
        go_ret2
        exact ⟨by rw [HN.out]; rfl, rfl⟩
      have e2 : decide (57 < x) = false := decide_eq_false hx1
      have HS2 := Lib.hid (HS.out (by omega) (by omega))
      have hmI : (m : Int) < 100000000000000000 := by omega
      have hx2 : 48 ≤ x := by omega
      have hx3 : x ≤ 57 := by omega
      have hw8 : IntKind.u8.wrap (x - 48) = x - 48 := by rw [IntKind.wrap_u8]; omega
      have hw1 : IntKind.i64.wrap (x - 48) = x - 48 := by rw [IntKind.wrap_i64]; omega
      have hw2 : IntKind.i64.wrap (10 * (m : Int)) = 10 * (m : Int) := by rw [IntKind.wrap_i64]; omega
      have hw3 : IntKind.i64.wrap (10 * (m : Int) + (x - 48)) = 10 * (m : Int) + (x - 48) := by rw [IntKind.wrap_i64]; omega
      clear HB HS hx0 hx1
      go_wp2_with (fail)
      have hj2 := HJ.out
      refine ⟨⟨k + 1, m * 10 + (x - 48).toNat, by omega, by rw [hj2]; go_num, by congr 1; omega, HS2.out, trivial⟩, by simp [intOf]; omega⟩
    · have hjn : s.size = j := by omega
      have hfull : (L.drop a).take k = L.drop a := List.take_of_length_le (by rw [HDL.out]; omega)
      have HN := Lib.hid (HG.out.trans (by rw [← hfull, HM.out]))
      have HJ := Lib.hid hj
      clear hj hfull
      have hmI : (m : Int) < 100000000000000000 := by omega
      subst hjn
      by_cases h1 : a = 1
      · have e1 : ((a : Int) == 1) = true := by simp [h1]
        have hw : IntKind.i64.wrap (-(m : Int)) = -(m : Int) := by rw [IntKind.wrap_i64]; omega
        have HN2 := Lib.hid (HN.out.trans (show _ = some (-(m : Int)) by rw [Option.map_some, if_pos h1]))
        clear h1
        go_wp2_with (fail)
        go_ret2
        exact ⟨by rw [HN2.out]; rfl, rfl⟩
      · have e1 : ((a : Int) == 1) = false := by rw [beq_eq_false_iff_ne]; omega
        have HN2 := Lib.hid (HN.out.trans (show _ = some (m : Int) by rw [Option.map_some, if_neg h1]))
        clear h1
        go_wp2_with (fail)
        go_ret2
        exact ⟨by rw [HN2.out]; rfl, rfl⟩
end Go.Proofs.YtlnbbioponmcfaaGreatDoor
