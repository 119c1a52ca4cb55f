/-
  Chapter 8: which rules are valid (CheckRules).
-/
import Derived.Test.YtcfbnmcdncndpaaNam
import Derived.Test.YtcfbnmcdncndpaaWRea
import Derived.Test.YtcfbnmcdncndpaaOrdF
import Derived.Deep.RegionHeld3
import Derived.Deep.DeepCutAuto
namespace Go.Proofs.Ytcfbnmcdncndpaa
open Go.ChangeShapes Go.WideShapes Go.ChangeAt Go.RowKit
set_option linter.unusedVariables false
set_option linter.unusedSimpArgs false

def vB (n : Int) : Bool := withinB n (-1000000) 1000000
def rulE0 (s : ByteArray) (n m : Nat) : Int := firstE [unl (isNm s) 4, unl (decide (0 < n) && decide (m = n)) 10, unl (decide (n ≤ 4)) 8]
def gt (l : List Int) (i : Nat) : Int := l.getD i 0
def rowE (u d : List Int) (i : Nat) : Int := firstE [unl (vB (gt u i) && vB (gt d i)) 2, unl (decide (gt d i < gt u i)) 3, unl (decide (i = 0) || (decide (gt u (i - 1) < gt u i) && decide (gt d (i - 1) < gt d i))) 9]
def badRow (u d : List Int) : Nat → Nat → Int × Int
  | 0, _ => (0, 0)
  | n + 1, i => if rowE u d i = 0 then badRow u d n (i + 1) else ((i : Int), rowE u d i)
def chkR (s : ByteArray) (u d : List Int) (hold : Int) : Int × Int :=
  if rulE0 s u.length d.length ≠ 0 then (0, rulE0 s u.length d.length) else if (badRow u d u.length 0).2 ≠ 0 then badRow u d u.length 0 else (0, unl (withinB hold 1 20) 2)
theorem unl_zero {b : Bool} {e : Int} (he : e ≠ 0) : unl b e = 0 ↔ b = true := by
  cases b
  · simp [unl, he]
  · simp [unl]
theorem firstE2 {a b : Int} : firstE [a, b] = 0 ↔ a = 0 ∧ b = 0 := by
  unfold firstE
  by_cases h : a = 0
  · rw [if_pos h]; unfold firstE; by_cases k : b = 0
    · rw [if_pos k]; simp [h, k, firstE]
    · rw [if_neg k]; simp [h, k]
  · rw [if_neg h]; simp [h]
theorem firstE3 {a b c : Int} : firstE [a, b, c] = 0 ↔ a = 0 ∧ b = 0 ∧ c = 0 := by
  unfold firstE
  by_cases h : a = 0
  · rw [if_pos h, firstE2]; simp [h]
  · rw [if_neg h]; simp [h]
theorem rulE0_zero {s : ByteArray} {n m : Nat} (h : rulE0 s n m = 0) : isNm s = true ∧ 0 < n ∧ m = n ∧ n ≤ 4 := by
  unfold rulE0 at h
  rw [firstE3, unl_zero (by decide), unl_zero (by decide), unl_zero (by decide), Bool.and_eq_true, decide_eq_true_eq, decide_eq_true_eq, decide_eq_true_eq] at h
  exact ⟨h.1, h.2.1.1, h.2.1.2, h.2.2⟩
theorem gt_eq {l : List Int} {i : Nat} (h : i < l.length) : gt l i = l[i] := by
  unfold gt
  rw [List.getD_eq_getElem?_getD, List.getElem?_eq_getElem h]; rfl
theorem rows_lit (l : List Int) {w : World} {b : Nat} (hb : b < w.heap.size) (h : ∀ k x, l[k]? = some x → w.cell? ⟨b, k, none⟩ = some (.int .i64 x)) : RowsAt 1 (fun x _ => .int .i64 x) w (some ⟨b, 0, none⟩) l := fun k x hk => by
  refine ⟨b, 0, rfl, hb, fun j hj => ?_⟩
  obtain rfl : j = 0 := by omega
  simpa using h k x hk
theorem first3 (x y z : Int) (b : Nat) (w : World) (hb : b < w.heap.size) (h0 : w.cell? ⟨b, 0, none⟩ = some (.int .i64 x)) (h1 : w.cell? ⟨b, 1, none⟩ = some (.int .i64 y)) (h2 : w.cell? ⟨b, 2, none⟩ = some (.int .i64 z)) :
    Calls Try.prog 84 #[.slice (some ⟨b, 0, none⟩) 3 3] w fun e w' => e = .returned (.int .i64 (firstE [x, y, z])) ∧ w = w' :=
  first_any _ [x, y, z] 3 w (by simp) (rows_lit _ hb fun k x hk => by
    match k with
    | 0 => simp at hk; subst hk; exact h0
    | 1 => simp at hk; subst hk; exact h1
    | 2 => simp at hk; subst hk; exact h2
    | k + 3 => simp at hk)

set_option maxRecDepth 100000 in
set_option maxHeartbeats 2000000 in
theorem CheckRules_any (s : ByteArray) (A : Option Addr) (u : List Int) (ca : Nat) (B : Option Addr) (d : List Int) (cb : Nat) (hold : Int) (w : World) (hs : s.size ≤ 1000) (hu : u.length ≤ 100) (hd : d.length ≤ 100) (hA : IntsAt w A u) (hB : IntsAt w B d) :
    Calls Try.prog 17 #[.agg #[.string s, .slice A u.length ca, .slice B d.length cb, .int .i64 hold]] w fun e w' => e = .returned (.tuple #[.int .i64 (chkR s u d hold).1, .int .i64 (chkR s u d hold).2]) ∧ Below w.heap.size w w' := by
  go_enter Try.func17, Try.ntmps17
  go_upto_region 1 with (fail)
  have x0 : (w.alloc (.cells #[.string s, .slice A u.length ca, .slice B d.length cb, .int .i64 hold] 24)).cell? ⟨w.heap.size, 0, none⟩ = some (.string s) := cell_new rfl rfl
  have x1 : (w.alloc (.cells #[.string s, .slice A u.length ca, .slice B d.length cb, .int .i64 hold] 24)).cell? ⟨w.heap.size, 1, none⟩ = some (.slice A u.length ca) := cell_new rfl rfl
  have x2 : (w.alloc (.cells #[.string s, .slice A u.length ca, .slice B d.length cb, .int .i64 hold] 24)).cell? ⟨w.heap.size, 2, none⟩ = some (.slice B d.length cb) := cell_new rfl rfl
  have x3 : (w.alloc (.cells #[.string s, .slice A u.length ca, .slice B d.length cb, .int .i64 hold] 24)).cell? ⟨w.heap.size, 3, none⟩ = some (.int .i64 hold) := cell_new rfl rfl
  have hz : (w.alloc (.cells #[.string s, .slice A u.length ca, .slice B d.length cb, .int .i64 hold] 24)).heap.size = w.heap.size + 1 := by simp
  have hb1 : Below w.heap.size w (w.alloc (.cells #[.string s, .slice A u.length ca, .slice B d.length cb, .int .i64 hold] 24)) := (by repeat (first | assumption | exact Below.refl _ _ | refine Below.drew ?_ | (refine below_alloc _ ?_ ?_; focus (first | omega | (simp; done) | (simp; omega) | (simp at *; omega))) | (refine below_set _ ?_ ?_; focus (first | omega | (simp; done) | (simp; omega) | (simp at *; omega))) | refine below_drewN ?_ _ | (refine below_call (by assumption) ?_ ?_; focus (first | omega | (simp; done) | (simp; omega) | (simp at *; omega))) | (refine below_call' (by assumption) ?_ ?_; focus (first | omega | (simp; done) | (simp; omega) | (simp at *; omega)))))
  generalize (w.alloc (.cells #[.string s, .slice A u.length ca, .slice B d.length cb, .int .i64 hold] 24)) = v at *
  have zv : w.heap.size < v.heap.size := by omega
  have AV := hA.below hb1
  have BV := hB.below hb1
  clear hA hB hz
  have HNE := Lib.hid (fun W => nameErr_any s W hs)
  clear hs
  go_cut [4] from 10 to 33 (fun t wx => t = .int .i64 (rulE0 s u.length d.length) ∧ Below v.heap.size v wx)
  case first =>
    have he : rulE0 s u.length d.length = firstE [unl (isNm s) 4, unl (decide (0 < u.length) && decide (d.length = u.length)) 10, unl (decide (u.length ≤ 4)) 8] := rfl
    have k0 : decide (0 < u.length) = decide (0 < (u.length : Int)) := by simp
    have k1 : decide (d.length = u.length) = ((d.length : Int) == (u.length : Int)) := by
      by_cases h : d.length = u.length
      · rw [decide_eq_true h, h]; simp
      · rw [decide_eq_false h]; symm; simp; omega
    have k2 : decide (u.length ≤ 4) = decide ((u.length : Int) ≤ 4) := by
      by_cases h : u.length ≤ 4
      · rw [decide_eq_true h]; symm; simp; omega
      · rw [decide_eq_false h]; symm; simp; omega
    rw [k0, k1, k2] at he
    have K0 := Lib.hid k0
    have K1 := Lib.hid k1
    clear k0 k1 k2
    cases h0 : decide (0 < (u.length : Int)) <;> cases h1 : ((d.length : Int) == (u.length : Int)) <;> cases h2 : decide ((u.length : Int) ≤ 4)
    all_goals
      rw [h0, h1, h2] at he
      have HE := Lib.hid he
      have h0n := K0.out.trans h0
      have h1n := K1.out.trans h1
      clear he K0 K1
      (refine region_extx 22 (by kernel_rfl) (by kernel_rfl) fun hx => ?_; simp only [List.take_succ_cons, List.take_zero, List.drop_succ_cons, List.drop_zero]; (repeat (any_goals (first | go_big_quiet_step ((first | (go_at_call 85; with_reducible exact ext_call (HNE.out _)) | (go_at_call 86; with_reducible exact ext_same (unless_any _ _ _)))) | quiet_step ((first | (go_at_call 85; with_reducible exact ext_call (HNE.out _)) | (go_at_call 86; with_reducible exact ext_same (unless_any _ _ _))))))))
      (refine wpQuiet_nil ?_; clear hx; intro u; have hbw2 := ext_bel _ u; have hxw2 := ext_cell _ u; generalize ext _ u = w2 at *; clear u; have hsw2 := hbw2.size; (try simp at hsw2))
      go_wp2_with (go_at_call 84; refine (first3 _ _ _ _ _ (by simp) (cell_new (by simp) rfl) (cell_new (by simp) rfl) (cell_new (by simp) rfl)).mono ?_; rintro e w' ⟨rfl, rfl⟩)
      go_meet
      exact ⟨by rw [HE.out]; rfl, (by repeat (first | assumption | exact Below.refl _ _ | refine Below.drew ?_ | (refine below_alloc _ ?_ ?_; focus (first | omega | (simp; done) | (simp; omega) | (simp at *; omega))) | (refine below_set _ ?_ ?_; focus (first | omega | (simp; done) | (simp; omega) | (simp at *; omega))) | refine below_drewN ?_ _ | (refine below_call (by assumption) ?_ ?_; focus (first | omega | (simp; done) | (simp; omega) | (simp at *; omega))) | (refine below_call' (by assumption) ?_ ?_; focus (first | omega | (simp; done) | (simp; omega) | (simp at *; omega)))))⟩
  case rest =>
  obtain ⟨rfl, hbx⟩ := hcut
  obtain ⟨wc0, rfl⟩ : ∃ wc0, wc0 = wc := ⟨_, rfl⟩
  have hch : chkR s u d hold = if rulE0 s u.length d.length ≠ 0 then (0, rulE0 s u.length d.length) else if (badRow u d u.length 0).2 ≠ 0 then badRow u d u.length 0 else (0, unl (withinB hold 1 20) 2) := rfl
  have hzx := hbx.size
  replace x1 := cell_below' hbx x1
  replace x2 := cell_below' hbx x2
  replace x3 := cell_below' hbx x3
  have zw : w.heap.size < wc0.heap.size := by omega
  have AW := RowsAt.below AV hbx
  have BW := RowsAt.below BV hbx
  have hbw : Below w.heap.size w wc0 := hb1.trans (hbx.mono (by omega))
  clear x0 AV BV hbx hb1 HNE
  by_cases hE : rulE0 s u.length d.length = 0
  rotate_left 1
  · rw [if_pos hE] at hch
    have HCH := Lib.hid hch
    have hE1 : (rulE0 s u.length d.length == 0) = false := by simpa using hE
    have hE2 : (rulE0 s u.length d.length != 0) = true := by simpa using hE
    clear hch hE
    generalize rulE0 s u.length d.length = E at *
    go_wp2_with (fail)
    go_ret2
    rw [HCH.out]
    exact ⟨rfl, hbw⟩
  obtain ⟨-, hn0, hdl, hn4⟩ := rulE0_zero hE
  rw [if_neg (by rw [hE]; decide)] at hch
  rw [hE]
  have HCH := Lib.hid hch
  have HDL := Lib.hid hdl
  clear hch hE hdl
  go_wp2_with (fail)
  go_loopw [40] (fun i wr => ∃ k : Nat, k ≤ u.length ∧ i = .int .i64 k ∧ badRow u d u.length 0 = badRow u d (u.length - k) k ∧ Below wc0.heap.size wc0 wr) (fun i _ => u.length - (intOf i).toNat)
  case atStart => exact ⟨0, Nat.zero_le _, rfl, rfl, Below.refl _ _⟩
  case round =>
    obtain ⟨k, hk, rfl, hbr, hbk⟩ := hrel
    have HBR := Lib.hid hbr
    clear hbr
    replace x1 := cell_below' hbk x1
    replace x2 := cell_below' hbk x2
    replace x3 := cell_below' hbk x3
    have hzk := hbk.size
    have zk : w.heap.size < wr.heap.size := by omega
    have AR := RowsAt.below AW hbk
    have BR := RowsAt.below BW hbk
    have hdl := HDL.out
    by_cases hlt : k < u.length
    · obtain ⟨b1, o1, rfl, hb1, e1⟩ := IntsAt.at_ AR hlt
      obtain ⟨b2, o2, rfl, hb2, e2⟩ := IntsAt.at_ BR (show k < d.length by omega)
      rw [← gt_eq] at e1 e2
      have hprev : ∀ j, k = j + 1 → wr.cell? ⟨b1, o1 + j, none⟩ = some (.int .i64 (gt u j)) ∧ wr.cell? ⟨b2, o2 + j, none⟩ = some (.int .i64 (gt d j)) := fun j e => by
        obtain ⟨c1, p1, h1, _, h2⟩ := IntsAt.at_ AR (show j < u.length by omega)
        obtain ⟨c2, p2, h3, _, h4⟩ := IntsAt.at_ BR (show j < d.length by omega)
        injection h1 with h1
        injection h1 with h1 h1'
        injection h3 with h3
        injection h3 with h3 h3'
        subst h1 h1' h3 h3'
        rw [gt_eq (by omega), gt_eq (by omega)]
        exact ⟨h2, h4⟩
      have HPR := Lib.hid hprev
      have HLT := Lib.hid hlt
      clear hprev hdl
      have hk0 : (0 : Int) ≤ (k : Int) := by omega
      have hk1 : (k : Int) < (u.length : Int) := by omega
      have hk2 : (k : Int) < (d.length : Int) := by have := HDL.out; omega
      go_upto_region 7 with (fail)
      go_cut [7, 8] from 41 to 52 (fun s7 s8 wx => s7 = .int .i64 (gt d k) ∧ s8 = .int .i64 ((k - 1 : Nat) : Int) ∧ wr = wx)
      case first =>
        by_cases hz2 : 0 < (k : Int) - 1
        · have HZ := Lib.hid (show ((k - 1 : Nat) : Int) = (k : Int) - 1 by omega)
          go_wp2_with (fail)
          go_meet
          exact ⟨rfl, by rw [HZ.out], rfl⟩
        · have HZ := Lib.hid (show ((k - 1 : Nat) : Int) = 0 by omega)
          go_wp2_with (fail)
          go_meet
          exact ⟨rfl, by rw [HZ.out], rfl⟩
      case rest =>
      obtain ⟨rfl, rfl, rfl⟩ := hcut
      have hre : rowE u d k = firstE [unl (vB (gt u k) && vB (gt d k)) 2, unl (decide (gt d k < gt u k)) 3, unl (decide (k = 0) || (decide (gt u (k - 1) < gt u k) && decide (gt d (k - 1) < gt d k))) 9] := rfl
      have hbs : badRow u d (u.length - k) k = if rowE u d k = 0 then badRow u d (u.length - (k + 1)) (k + 1) else ((k : Int), rowE u d k) := by
        rw [show u.length - k = (u.length - (k + 1)) + 1 by omega]; rfl
      have HBS := Lib.hid hbs
      clear hbs
      go_upto_region 8 with (fail)
      go_cut [9] from 41 to 86 (fun t wx => t = .int .i64 (rowE u d k) ∧ Below wr.heap.size wr wx)
      case first =>
        by_cases hz0 : k = 0
        · have hkz : ((k : Int) == 0) = true := by simpa using hz0
          rw [decide_eq_true hz0] at hre
          generalize gt u k = uk at *
          generalize gt d k = dk at *
          clear HPR hz0
          cases hvu : vB uk <;> cases hvd : vB dk
          all_goals
            rw [hvu, hvd] at hre
            have HRE := Lib.hid hre
            have HVU := Lib.hid (show withinB uk (-1000000) 1000000 = _ from hvu)
            have HVD := Lib.hid (show withinB dk (-1000000) 1000000 = _ from hvd)
            clear hre hvu hvd
            go_wp2_with (first | (go_at_call 87; refine (isValue_any _ _).mono ?_; rintro e w' ⟨rfl, rfl⟩; first | rw [HVU.out] | rw [HVD.out]) | (go_at_call 86; refine (unless_any _ _ _).mono ?_; rintro e w' ⟨rfl, rfl⟩) | (go_at_call 84; refine (first3 _ _ _ _ _ (by simp) (cell_new (by simp) rfl) (cell_new (by simp) rfl) (cell_new (by simp) rfl)).mono ?_; rintro e w' ⟨rfl, rfl⟩))
            go_meet
            exact ⟨by rw [HRE.out]; rfl, (by repeat (first | assumption | exact Below.refl _ _ | refine Below.drew ?_ | (refine below_alloc _ ?_ ?_; focus (first | omega | (simp; done) | (simp; omega) | (simp at *; omega))) | (refine below_set _ ?_ ?_; focus (first | omega | (simp; done) | (simp; omega) | (simp at *; omega))) | refine below_drewN ?_ _ | (refine below_call (by assumption) ?_ ?_; focus (first | omega | (simp; done) | (simp; omega) | (simp at *; omega))) | (refine below_call' (by assumption) ?_ ?_; focus (first | omega | (simp; done) | (simp; omega) | (simp at *; omega)))))⟩
        · have hkz : ((k : Int) == 0) = false := by simpa using hz0
          obtain ⟨p1, p2⟩ := HPR.out (k - 1) (by omega)
          rw [decide_eq_false hz0] at hre
          have hj0 : (0 : Int) ≤ ((k - 1 : Nat) : Int) := by omega
          have hj1 : ((k - 1 : Nat) : Int) < (u.length : Int) := by omega
          have hj2 : ((k - 1 : Nat) : Int) < (d.length : Int) := by omega
          generalize gt u k = uk at *
          generalize gt d k = dk at *
          generalize gt u (k - 1) = uj at *
          generalize gt d (k - 1) = dj at *
          clear HPR hz0
          generalize k - 1 = j at *
          cases hvu : vB uk <;> cases hvd : vB dk <;> cases huj : decide (uj < uk)
          all_goals
            rw [hvu, hvd, huj] at hre
            have HRE := Lib.hid hre
            have HVU := Lib.hid (show withinB uk (-1000000) 1000000 = _ from hvu)
            have HVD := Lib.hid (show withinB dk (-1000000) 1000000 = _ from hvd)
            clear hre hvu hvd
            go_wp2_with (first | (go_at_call 87; refine (isValue_any _ _).mono ?_; rintro e w' ⟨rfl, rfl⟩; first | rw [HVU.out] | rw [HVD.out]) | (go_at_call 86; refine (unless_any _ _ _).mono ?_; rintro e w' ⟨rfl, rfl⟩) | (go_at_call 84; refine (first3 _ _ _ _ _ (by simp) (cell_new (by simp) rfl) (cell_new (by simp) rfl) (cell_new (by simp) rfl)).mono ?_; rintro e w' ⟨rfl, rfl⟩))
            go_meet
            exact ⟨by rw [HRE.out]; rfl, (by repeat (first | assumption | exact Below.refl _ _ | refine Below.drew ?_ | (refine below_alloc _ ?_ ?_; focus (first | omega | (simp; done) | (simp; omega) | (simp at *; omega))) | (refine below_set _ ?_ ?_; focus (first | omega | (simp; done) | (simp; omega) | (simp at *; omega))) | refine below_drewN ?_ _ | (refine below_call (by assumption) ?_ ?_; focus (first | omega | (simp; done) | (simp; omega) | (simp at *; omega))) | (refine below_call' (by assumption) ?_ ?_; focus (first | omega | (simp; done) | (simp; omega) | (simp at *; omega)))))⟩
      case rest =>
      obtain ⟨rfl, hbx⟩ := hcut
      replace x3 := cell_below' hbx x3
      have hzy := hbx.size
      have hbk2 : Below wc0.heap.size wc0 wc := hbk.trans (hbx.mono (by omega))
      clear hbx HPR hre e1 e2 AR BR x1 x2
      by_cases hro : rowE u d k = 0
      rotate_left 1
      · have hr2 := HBS.out
        rw [if_neg hro] at hr2
        have hch := HCH.out
        rw [HBR.out, hr2, if_pos hro] at hch
        have HCH2 := Lib.hid hch
        have hE1 : (rowE u d k == 0) = false := by simpa using hro
        have hE2 : (rowE u d k != 0) = true := by simpa using hro
        clear hr2 hch hro HBS HBR HCH
        generalize rowE u d k = E at *
        go_wp2_with (fail)
        go_ret2
        rw [HCH2.out]
        exact ⟨rfl, (by repeat (first | assumption | exact Below.refl _ _ | refine Below.drew ?_ | (refine below_alloc _ ?_ ?_; focus (first | omega | (simp; done) | (simp; omega) | (simp at *; omega))) | (refine below_set _ ?_ ?_; focus (first | omega | (simp; done) | (simp; omega) | (simp at *; omega))) | refine below_drewN ?_ _ | (refine below_call (by assumption) ?_ ?_; focus (first | omega | (simp; done) | (simp; omega) | (simp at *; omega))) | (refine below_call' (by assumption) ?_ ?_; focus (first | omega | (simp; done) | (simp; omega) | (simp at *; omega)))))⟩
      · have hr2 := HBS.out
        rw [if_pos hro] at hr2
        have HB2 := Lib.hid (HBR.out.trans hr2)
        rw [hro]
        clear hr2 hro HBS HBR
        go_wp2_with (fail)
        exact ⟨⟨k + 1, by omega, by go_num, HB2.out, hbk2⟩, by simp [intOf]; omega⟩
    · obtain rfl : k = u.length := by omega
      have hbr := HBR.out
      rw [Nat.sub_self] at hbr
      have hch := HCH.out
      rw [hbr, if_neg (by simp [badRow])] at hch
      have HCH2 := Lib.hid hch
      clear hbr hch HBR HCH hdl
      go_wp2_with (first | (go_at_call 88; refine (within_any _ _ _ _).mono ?_; rintro e w' ⟨rfl, rfl⟩) | (go_at_call 86; refine (unless_any _ _ _).mono ?_; rintro e w' ⟨rfl, rfl⟩))
      go_ret2
      rw [HCH2.out]
      exact ⟨rfl, (by repeat (first | assumption | exact Below.refl _ _ | refine Below.drew ?_ | (refine below_alloc _ ?_ ?_; focus (first | omega | (simp; done) | (simp; omega) | (simp at *; omega))) | (refine below_set _ ?_ ?_; focus (first | omega | (simp; done) | (simp; omega) | (simp at *; omega))) | refine below_drewN ?_ _ | (refine below_call (by assumption) ?_ ?_; focus (first | omega | (simp; done) | (simp; omega) | (simp at *; omega))) | (refine below_call' (by assumption) ?_ ?_; focus (first | omega | (simp; done) | (simp; omega) | (simp at *; omega)))))⟩
end Go.Proofs.Ytcfbnmcdncndpaa
