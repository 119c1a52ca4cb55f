/-
  Chapter 8: the reference's CheckRules, RulesErr, ValuesErr.
-/
import Derived.Test.YtcfbnmcdncndpaaWAwk
namespace Go.Proofs.Ytcfbnmcdncndpaa
open Go.ChangeShapes Go.WideShapes Go.ChangeAt Go.RowKit
set_option linter.unusedVariables false
set_option linter.unusedSimpArgs false

theorem firstE_nz {a : Int} {l : List Int} (h : a ≠ 0) : firstE (a :: l) = a := by unfold firstE; rw [if_neg h]
theorem firstE_z {l : List Int} : firstE (0 :: l) = firstE l := by conv => lhs; unfold firstE; rw [if_pos rfl]
theorem rowE_bad2 {u d : List Int} {i : Nat} (h : (vB (gt u i) && vB (gt d i)) = false) : rowE u d i = 2 := by
  unfold rowE; rw [h]; rfl
theorem rowE_bad3 {u d : List Int} {i : Nat} (h : (vB (gt u i) && vB (gt d i)) = true) (h2 : ¬ gt d i < gt u i) : rowE u d i = 3 := by
  unfold rowE; rw [h, decide_eq_false h2]; rfl
theorem rowE_bad9 {u d : List Int} {i : Nat} (h : (vB (gt u i) && vB (gt d i)) = true) (h2 : gt d i < gt u i) (h3 : (decide (i = 0) || (decide (gt u (i - 1) < gt u i) && decide (gt d (i - 1) < gt d i))) = false) : rowE u d i = 9 := by
  unfold rowE; rw [h, decide_eq_true h2, h3]; rfl
theorem rowE_ok {u d : List Int} {i : Nat} (h : (vB (gt u i) && vB (gt d i)) = true) (h2 : gt d i < gt u i) (h3 : (decide (i = 0) || (decide (gt u (i - 1) < gt u i) && decide (gt d (i - 1) < gt d i))) = true) : rowE u d i = 0 := by
  unfold rowE; rw [h, decide_eq_true h2, h3]; rfl
theorem badRow_at {u d : List Int} {n i : Nat} (h : rowE u d i ≠ 0) : badRow u d (n + 1) i = ((i : Int), rowE u d i) := by rw [badRow, if_neg h]
theorem badRow_next {u d : List Int} {n i : Nat} (h : rowE u d i = 0) : badRow u d (n + 1) i = badRow u d n (i + 1) := by rw [badRow, if_pos h]
theorem chkR_name {s : ByteArray} {u d : List Int} {hold : Int} (h : isNm s = false) : chkR s u d hold = (0, 4) := by
  have : rulE0 s u.length d.length = 4 := by unfold rulE0; rw [h]; rfl
  unfold chkR; rw [this]; rfl
theorem chkR_len {s : ByteArray} {u d : List Int} {hold : Int} (h : isNm s = true) (h2 : ¬ (0 < u.length ∧ d.length = u.length)) : chkR s u d hold = (0, 10) := by
  have : rulE0 s u.length d.length = 10 := by
    unfold rulE0
    rw [h, show (decide (0 < u.length) && decide (d.length = u.length)) = false by
      rw [← Bool.decide_and]; exact decide_eq_false h2]; rfl
  unfold chkR; rw [this]; rfl
theorem chkR_many {s : ByteArray} {u d : List Int} {hold : Int} (h : isNm s = true) (h2 : 0 < u.length ∧ d.length = u.length) (h3 : ¬ u.length ≤ 4) : chkR s u d hold = (0, 8) := by
  have : rulE0 s u.length d.length = 8 := by
    unfold rulE0
    rw [h, show (decide (0 < u.length) && decide (d.length = u.length)) = true by rw [← Bool.decide_and]; exact decide_eq_true h2, decide_eq_false h3]; rfl
  unfold chkR; rw [this]; rfl
theorem chkR_rows {s : ByteArray} {u d : List Int} {hold : Int} (h : isNm s = true) (h2 : 0 < u.length ∧ d.length = u.length) (h3 : u.length ≤ 4) : chkR s u d hold = if (badRow u d u.length 0).2 ≠ 0 then badRow u d u.length 0 else (0, unl (withinB hold 1 20) 2) := by
  have : rulE0 s u.length d.length = 0 := by
    unfold rulE0
    rw [h, show (decide (0 < u.length) && decide (d.length = u.length)) = true by rw [← Bool.decide_and]; exact decide_eq_true h2, decide_eq_true h3]; rfl
  unfold chkR; rw [this]; rfl
theorem chk_bad {q b c : Int × Int} {k e : Int} (h : q = if b.2 ≠ 0 then b else c) (hb : b = (k, e)) (he : e ≠ 0) : q = (k, e) := by
  rw [h, hb]; exact if_pos he
theorem chk_fine {q b c : Int × Int} {k : Int} (h : q = if b.2 ≠ 0 then b else c) (hb : b = (k, 0)) : q = c := by
  rw [h, hb]; exact if_neg (by simp)
theorem vU {n : Int} (h : vB n = true) : unl (withinB n (-1000000) 1000000) 2 = 0 := by unfold vB at h; rw [h]; rfl
theorem vU2 {n : Int} (h : vB n = false) : unl (withinB n (-1000000) 1000000) 2 = 2 := by unfold vB at h; rw [h]; rfl
set_option maxRecDepth 100000 in
set_option maxHeartbeats 4000000 in
theorem RCheckRules_any (s : ByteArray) (A : Option Addr) (u : List Int) (ca : Nat) (B : Option Addr) (d : List Int) (cb : Nat) (hold : Int) (w : World) (hs : s.size ≤ 1000) (hu : u.length ≤ 100) (hd : d.length ≤ 100) (hA : IntsAt w A u) (hB : IntsAt w B d) :
    Calls Try.prog 21 #[.agg #[.string s, .slice A u.length ca, .slice B d.length cb, .int .i64 hold]] w fun e w' => e = .returned (.tuple #[.int .i64 (chkR s u d hold).1, .int .i64 (chkR s u d hold).2]) ∧ Below w.heap.size w w' := by
  have HN := Lib.hid (fun W => IsName_any s W)
  cases hn : isNm s
  · rw [chkR_name hn]
    have HNM := Lib.hid hn
    clear hn
    go_enter Try.func21, Try.ntmps21
    go_wp2_with (go_at_call 92; refine (HN.out _).mono ?_; rintro e w' ⟨rfl, rfl⟩; rw [HNM.out])
    go_ret2
    exact ⟨rfl, (by repeat (first | assumption | exact Below.refl _ _ | refine Below.drew ?_ | (refine below_alloc _ ?_ ?_; focus (first | omega | (simp; done) | (simp; omega) | (simp at *; omega))) | (refine below_set _ ?_ ?_; focus (first | omega | (simp; done) | (simp; omega) | (simp at *; omega))) | refine below_drewN ?_ _ | (refine below_call (by assumption) ?_ ?_; focus (first | omega | (simp; done) | (simp; omega) | (simp at *; omega))) | (refine below_call' (by assumption) ?_ ?_; focus (first | omega | (simp; done) | (simp; omega) | (simp at *; omega)))))⟩
  have HNM := Lib.hid hn
  by_cases hl : 0 < u.length ∧ d.length = u.length
  rotate_left 1
  · rw [chkR_len hn hl]
    clear hn
    by_cases h0 : u.length = 0
    · have h0' : ((u.length : Int) == 0) = true := by simp [h0]
      clear h0 hl
      go_enter Try.func21, Try.ntmps21
      go_wp2_with (go_at_call 92; refine (HN.out _).mono ?_; rintro e w' ⟨rfl, rfl⟩; rw [HNM.out])
      go_ret2
      exact ⟨rfl, (by repeat (first | assumption | exact Below.refl _ _ | refine Below.drew ?_ | (refine below_alloc _ ?_ ?_; focus (first | omega | (simp; done) | (simp; omega) | (simp at *; omega))) | (refine below_set _ ?_ ?_; focus (first | omega | (simp; done) | (simp; omega) | (simp at *; omega))) | refine below_drewN ?_ _ | (refine below_call (by assumption) ?_ ?_; focus (first | omega | (simp; done) | (simp; omega) | (simp at *; omega))) | (refine below_call' (by assumption) ?_ ?_; focus (first | omega | (simp; done) | (simp; omega) | (simp at *; omega)))))⟩
    · have h0' : ((u.length : Int) == 0) = false := by simp; exact fun e => h0 (by rw [e]; rfl)
      have h1' : ((d.length : Int) != (u.length : Int)) = true := by simp; omega
      clear h0 hl
      go_enter Try.func21, Try.ntmps21
      go_wp2_with (go_at_call 92; refine (HN.out _).mono ?_; rintro e w' ⟨rfl, rfl⟩; rw [HNM.out])
      go_ret2
      exact ⟨rfl, (by repeat (first | assumption | exact Below.refl _ _ | refine Below.drew ?_ | (refine below_alloc _ ?_ ?_; focus (first | omega | (simp; done) | (simp; omega) | (simp at *; omega))) | (refine below_set _ ?_ ?_; focus (first | omega | (simp; done) | (simp; omega) | (simp at *; omega))) | refine below_drewN ?_ _ | (refine below_call (by assumption) ?_ ?_; focus (first | omega | (simp; done) | (simp; omega) | (simp at *; omega))) | (refine below_call' (by assumption) ?_ ?_; focus (first | omega | (simp; done) | (simp; omega) | (simp at *; omega)))))⟩
  have h0' : ((u.length : Int) == 0) = false := by simp; intro e; rw [e] at hl; exact absurd hl.1 (by simp)
  have h1' : ((d.length : Int) != (u.length : Int)) = false := by simp; omega
  by_cases h4 : u.length ≤ 4
  rotate_left 1
  · rw [chkR_many hn hl h4]
    have h4' : decide (4 < (u.length : Int)) = true := by simp; omega
    clear hn hl h4
    go_enter Try.func21, Try.ntmps21
    go_wp2_with (go_at_call 92; refine (HN.out _).mono ?_; rintro e w' ⟨rfl, rfl⟩; rw [HNM.out])
    go_ret2
    exact ⟨rfl, (by repeat (first | assumption | exact Below.refl _ _ | refine Below.drew ?_ | (refine below_alloc _ ?_ ?_; focus (first | omega | (simp; done) | (simp; omega) | (simp at *; omega))) | (refine below_set _ ?_ ?_; focus (first | omega | (simp; done) | (simp; omega) | (simp at *; omega))) | refine below_drewN ?_ _ | (refine below_call (by assumption) ?_ ?_; focus (first | omega | (simp; done) | (simp; omega) | (simp at *; omega))) | (refine below_call' (by assumption) ?_ ?_; focus (first | omega | (simp; done) | (simp; omega) | (simp at *; omega)))))⟩
  have hq := chkR_rows (hold := hold) hn hl h4
  have h4' : decide (4 < (u.length : Int)) = false := by simp; omega
  have HQ := Lib.hid hq
  have HL := Lib.hid hl.2
  clear hn hl hq
  go_enter Try.func21, Try.ntmps21
  go_wp2_with (go_at_call 92; refine (HN.out _).mono ?_; rintro e w' ⟨rfl, rfl⟩; rw [HNM.out])
  have hbv : Below w.heap.size w (w.alloc (.cells #[.string s, .slice A u.length ca, .slice B d.length cb, .int .i64 hold] 24)) := (by repeat (first | assumption | exact Below.refl _ _ | refine Below.drew ?_ | (refine below_alloc _ ?_ ?_; focus (first | omega | (simp; done) | (simp; omega) | (simp at *; omega))) | (refine below_set _ ?_ ?_; focus (first | omega | (simp; done) | (simp; omega) | (simp at *; omega))) | refine below_drewN ?_ _ | (refine below_call (by assumption) ?_ ?_; focus (first | omega | (simp; done) | (simp; omega) | (simp at *; omega))) | (refine below_call' (by assumption) ?_ ?_; focus (first | omega | (simp; done) | (simp; omega) | (simp at *; omega)))))
  have hA1 := RowsAt.below hA hbv
  have hB1 := RowsAt.below hB hbv
  have x1 : (w.alloc (.cells #[.string s, .slice A u.length ca, .slice B d.length cb, .int .i64 hold] 24)).cell? ⟨w.heap.size, 1, none⟩ = some (.slice A u.length ca) := cell_new rfl rfl
  have x2 : (w.alloc (.cells #[.string s, .slice A u.length ca, .slice B d.length cb, .int .i64 hold] 24)).cell? ⟨w.heap.size, 2, none⟩ = some (.slice B d.length cb) := cell_new rfl rfl
  have x3 : (w.alloc (.cells #[.string s, .slice A u.length ca, .slice B d.length cb, .int .i64 hold] 24)).cell? ⟨w.heap.size, 3, none⟩ = some (.int .i64 hold) := cell_new rfl rfl
  have zv : w.heap.size < (w.alloc (.cells #[.string s, .slice A u.length ca, .slice B d.length cb, .int .i64 hold] 24)).heap.size := by simp
  generalize (w.alloc (.cells #[.string s, .slice A u.length ca, .slice B d.length cb, .int .i64 hold] 24)) = v at *
  clear hA hB h0' h1' h4'
  go_loopw [4] (fun i wr => ∃ k : Nat, k ≤ u.length ∧ i = .int .i64 k ∧ badRow u d u.length 0 = badRow u d (u.length - k) k ∧ Below v.heap.size v wr) (fun i _ => u.length - (intOf i).toNat)
  case atStart => exact ⟨0, Nat.zero_le _, rfl, rfl, Below.refl _ _⟩
  case round =>
    obtain ⟨k, hk, rfl, he, hbr⟩ := hrel
    have H := Lib.hid he
    have hbw : Below w.heap.size w wr := hbv.trans (hbr.mono hbv.size)
    have hA2 := RowsAt.below hA1 hbr
    have hB2 := RowsAt.below hB1 hbr
    replace x1 := cell_below' hbr x1
    replace x2 := cell_below' hbr x2
    replace x3 := cell_below' hbr x3
    replace zv : w.heap.size < wr.heap.size := Nat.lt_of_lt_of_le zv hbr.size
    clear he
    by_cases hlt : k < u.length
    · have hlt2 : k < d.length := by have := HL.out; omega
      obtain ⟨b1, o1, rfl, hb1, c1⟩ := IntsAt.at_ hA2 hlt
      obtain ⟨b2, o2, rfl, hb2, c2⟩ := IntsAt.at_ hB2 hlt2
      rw [← gt_eq hlt] at c1
      rw [← gt_eq hlt2] at c2
      have hkl : (k : Int) < (d.length : Int) := by omega
      obtain ⟨m, hm⟩ : ∃ m, u.length - k = m + 1 := ⟨u.length - k - 1, by omega⟩
      rw [hm] at H
      have hm2 : u.length - (k + 1) = m := by omega
      cases hv : (vB (gt u k) && vB (gt d k))
      · have hr := rowE_bad2 hv
        have hb := badRow_at (n := m) (show rowE u d k ≠ 0 by rw [hr]; decide)
        rw [hr] at hb
        have hc := chk_bad HQ.out (H.out.trans hb) (by decide)
        have HC := Lib.hid hc
        clear hr hb hc H HQ
        cases hv1 : vB (gt u k)
        · have HV1 := Lib.hid (vU2 hv1)
          clear hv hv1
          generalize gt u k = x at *
          generalize gt d k = y at *
          go_wp2_with (go_at_call 24; refine (RValueErr_any _ _).mono ?_; rintro e w' ⟨rfl, rfl⟩; rw [HV1.out])
          go_ret2
          exact ⟨by rw [HC.out] <;> rfl, hbw⟩
        · have HV1 := Lib.hid (vU hv1)
          rw [hv1, Bool.true_and] at hv
          have HV2 := Lib.hid (vU2 hv)
          clear hv hv1
          generalize gt u k = x at *
          generalize gt d k = y at *
          go_wp2_with (go_at_call 24; refine (RValueErr_any _ _).mono ?_; rintro e w' ⟨rfl, rfl⟩; first | rw [HV1.out] | rw [HV2.out])
          go_ret2
          exact ⟨by rw [HC.out] <;> rfl, hbw⟩
      · have hv12 := hv
        rw [Bool.and_eq_true] at hv12
        have HV1 := Lib.hid (vU hv12.1)
        have HV2 := Lib.hid (vU hv12.2)
        clear hv12
        by_cases hlt3 : gt d k < gt u k
        rotate_left 1
        · have hr := rowE_bad3 hv hlt3
          have hb := badRow_at (n := m) (show rowE u d k ≠ 0 by rw [hr]; decide)
          rw [hr] at hb
          have hc := chk_bad HQ.out (H.out.trans hb) (by decide)
          have HC := Lib.hid hc
          have hle : decide (gt u k ≤ gt d k) = true := by simp; omega
          clear hr hb hc H HQ hv hlt3
          generalize gt u k = x at *
          generalize gt d k = y at *
          go_wp2_with (go_at_call 24; refine (RValueErr_any _ _).mono ?_; rintro e w' ⟨rfl, rfl⟩; first | rw [HV1.out] | rw [HV2.out])
          go_quiet (fail)
          go_wp2
          go_ret2
          exact ⟨by rw [HC.out] <;> rfl, (by repeat (first | assumption | exact Below.refl _ _ | refine Below.drew ?_ | (refine below_alloc _ ?_ ?_; focus (first | omega | (simp; done) | (simp; omega) | (simp at *; omega))) | (refine below_set _ ?_ ?_; focus (first | omega | (simp; done) | (simp; omega) | (simp at *; omega))) | refine below_drewN ?_ _ | (refine below_call (by assumption) ?_ ?_; focus (first | omega | (simp; done) | (simp; omega) | (simp at *; omega))) | (refine below_call' (by assumption) ?_ ?_; focus (first | omega | (simp; done) | (simp; omega) | (simp at *; omega)))))⟩
        have hle : decide (gt u k ≤ gt d k) = false := by simp; omega
        match k, hlt, hlt2, c1, c2, hkl, hm, hm2, hv, hlt3, hle, H, HV1, HV2, hk with
        | 0, hlt, hlt2, c1, c2, hkl, hm, hm2, hv, hlt3, hle, H, HV1, HV2, hk =>
          have hr := rowE_ok hv hlt3 rfl
          have hb := badRow_next (n := m) hr
          have HB := Lib.hid (H.out.trans hb)
          rw [Nat.add_zero] at c1 c2
          clear hr hb H hv hlt3
          generalize gt u 0 = x at *
          generalize gt d 0 = y at *
          go_wp2_with (go_at_call 24; refine (RValueErr_any _ _).mono ?_; rintro e w' ⟨rfl, rfl⟩; first | rw [HV1.out] | rw [HV2.out])
          go_quiet (fail)
          go_wp2_with (fail)
          go_quiet (fail)
          go_wp2
          go_roundw
          case rel => exact ⟨1, by omega, by go_num, by rw [HB.out, hm2], (by repeat (first | assumption | exact Below.refl _ _ | refine Below.drew ?_ | (refine below_alloc _ ?_ ?_; focus (first | omega | (simp; done) | (simp; omega) | (simp at *; omega))) | (refine below_set _ ?_ ?_; focus (first | omega | (simp; done) | (simp; omega) | (simp at *; omega))) | refine below_drewN ?_ _ | (refine below_call (by assumption) ?_ ?_; focus (first | omega | (simp; done) | (simp; omega) | (simp at *; omega))) | (refine below_call' (by assumption) ?_ ?_; focus (first | omega | (simp; done) | (simp; omega) | (simp at *; omega)))))⟩
          case measure => simp [intOf]; omega
        | j + 1, hlt, hlt2, c1, c2, hkl, hm, hm2, hv, hlt3, hle, H, HV1, HV2, hk =>
          have hj1 : j < u.length := by omega
          have hj2 : j < d.length := by omega
          obtain ⟨b3, o3, e3, hb3, c3⟩ := IntsAt.at_ hA2 hj1
          obtain ⟨b4, o4, e4, hb4, c4⟩ := IntsAt.at_ hB2 hj2
          obtain ⟨rfl, rfl⟩ : b1 = b3 ∧ o1 = o3 := by injection e3 with e3; injection e3 with e3 e3'; exact ⟨e3, e3'⟩
          obtain ⟨rfl, rfl⟩ : b2 = b4 ∧ o2 = o4 := by injection e4 with e4; injection e4 with e4 e4'; exact ⟨e4, e4'⟩
          rw [← gt_eq hj1] at c3
          rw [← gt_eq hj2] at c4
          clear e3 e4
          have n1 : ((j + 1 : Nat) : Int) - 1 = (j : Int) := by omega
          have n2 : IntKind.i64.wrap ((j : Int)) = (j : Int) := IntWalk.i64_in _ (by omega)
          have n3 : (j : Int) < (u.length : Int) := by omega
          have n4 : (j : Int) < (d.length : Int) := by omega
          have n5 : (0 : Int) ≤ (j : Int) := by omega
          have n6 : decide (0 < ((j + 1 : Nat) : Int)) = true := decide_eq_true (by omega)
          have hrow : (decide (j + 1 = 0) || (decide (gt u (j + 1 - 1) < gt u (j + 1)) && decide (gt d (j + 1 - 1) < gt d (j + 1)))) = (decide (gt u j < gt u (j + 1)) && decide (gt d j < gt d (j + 1))) := by simp
          by_cases hup : gt u j < gt u (j + 1) ∧ gt d j < gt d (j + 1)
          · have hr := rowE_ok hv hlt3 (hrow.trans (by rw [← Bool.decide_and]; exact decide_eq_true hup))
            have hb := badRow_next (n := m) hr
            have HB := Lib.hid (H.out.trans hb)
            have q1 : decide (gt u (j + 1) ≤ gt u j) = false := by simp; omega
            have q2 : decide (gt d (j + 1) ≤ gt d j) = false := by simp; omega
            clear hr hb H hv hlt3 hrow hup
            generalize gt u (j + 1) = x at *
            generalize gt d (j + 1) = y at *
            generalize gt u j = x' at *
            generalize gt d j = y' at *
            go_wp2_with (go_at_call 24; refine (RValueErr_any _ _).mono ?_; rintro e w' ⟨rfl, rfl⟩; first | rw [HV1.out] | rw [HV2.out])
            go_quiet (fail)
            go_wp2_with (fail)
            go_quiet (fail)
            go_wp2
            go_roundw
            case rel => exact ⟨j + 1 + 1, by omega, by go_num, by rw [HB.out, hm2], (by repeat (first | assumption | exact Below.refl _ _ | refine Below.drew ?_ | (refine below_alloc _ ?_ ?_; focus (first | omega | (simp; done) | (simp; omega) | (simp at *; omega))) | (refine below_set _ ?_ ?_; focus (first | omega | (simp; done) | (simp; omega) | (simp at *; omega))) | refine below_drewN ?_ _ | (refine below_call (by assumption) ?_ ?_; focus (first | omega | (simp; done) | (simp; omega) | (simp at *; omega))) | (refine below_call' (by assumption) ?_ ?_; focus (first | omega | (simp; done) | (simp; omega) | (simp at *; omega)))))⟩
            case measure => simp [intOf]; omega
          · have hr := rowE_bad9 hv hlt3 (hrow.trans (by rw [← Bool.decide_and]; exact decide_eq_false hup))
            have hb := badRow_at (n := m) (show rowE u d (j + 1) ≠ 0 by rw [hr]; decide)
            rw [hr] at hb
            have hc := chk_bad HQ.out (H.out.trans hb) (by decide)
            have HC := Lib.hid hc
            clear hr hb hc H HQ hv hlt3 hrow
            generalize gt u (j + 1) = x at *
            generalize gt d (j + 1) = y at *
            generalize gt u j = x' at *
            generalize gt d j = y' at *
            by_cases hux : x' < x
            · have q1 : decide (x ≤ x') = false := by simp; omega
              have q2 : decide (y ≤ y') = true := by simp; omega
              clear hup hux
              go_wp2_with (go_at_call 24; refine (RValueErr_any _ _).mono ?_; rintro e w' ⟨rfl, rfl⟩; first | rw [HV1.out] | rw [HV2.out])
              go_quiet (fail)
              go_wp2_with (fail)
              go_quiet (fail)
              go_wp2
              go_ret2
              exact ⟨by rw [HC.out] <;> rfl, (by repeat (first | assumption | exact Below.refl _ _ | refine Below.drew ?_ | (refine below_alloc _ ?_ ?_; focus (first | omega | (simp; done) | (simp; omega) | (simp at *; omega))) | (refine below_set _ ?_ ?_; focus (first | omega | (simp; done) | (simp; omega) | (simp at *; omega))) | refine below_drewN ?_ _ | (refine below_call (by assumption) ?_ ?_; focus (first | omega | (simp; done) | (simp; omega) | (simp at *; omega))) | (refine below_call' (by assumption) ?_ ?_; focus (first | omega | (simp; done) | (simp; omega) | (simp at *; omega)))))⟩
            · have q1 : decide (x ≤ x') = true := by simp; omega
              clear hup hux
              go_wp2_with (go_at_call 24; refine (RValueErr_any _ _).mono ?_; rintro e w' ⟨rfl, rfl⟩; first | rw [HV1.out] | rw [HV2.out])
              go_quiet (fail)
              go_wp2_with (fail)
              go_quiet (fail)
              go_wp2
              go_ret2
              exact ⟨by rw [HC.out] <;> rfl, (by repeat (first | assumption | exact Below.refl _ _ | refine Below.drew ?_ | (refine below_alloc _ ?_ ?_; focus (first | omega | (simp; done) | (simp; omega) | (simp at *; omega))) | (refine below_set _ ?_ ?_; focus (first | omega | (simp; done) | (simp; omega) | (simp at *; omega))) | refine below_drewN ?_ _ | (refine below_call (by assumption) ?_ ?_; focus (first | omega | (simp; done) | (simp; omega) | (simp at *; omega))) | (refine below_call' (by assumption) ?_ ?_; focus (first | omega | (simp; done) | (simp; omega) | (simp at *; omega)))))⟩
    · have e : u.length - k = 0 := by omega
      rw [e] at H
      have hc := chk_fine HQ.out (H.out.trans rfl)
      have HC := Lib.hid hc
      clear hc HQ H e
      cases hw : withinB hold 1 20
      · have HW := Lib.hid hw
        clear hw
        go_wp2_with (go_at_call 22; refine (Within_any _ _ _ _).mono ?_; rintro e w' ⟨rfl, rfl⟩; rw [HW.out])
        go_ret2
        exact ⟨by rw [HC.out, HW.out] <;> rfl, hbw⟩
      · have HW := Lib.hid hw
        clear hw
        go_wp2_with (go_at_call 22; refine (Within_any _ _ _ _).mono ?_; rintro e w' ⟨rfl, rfl⟩; rw [HW.out])
        go_ret2
        exact ⟨by rw [HC.out, HW.out] <;> rfl, hbw⟩
end Go.Proofs.Ytcfbnmcdncndpaa
