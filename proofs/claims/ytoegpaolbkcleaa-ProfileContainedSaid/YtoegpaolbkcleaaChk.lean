/-
  The walks of the checks of profiles, frequencies and indexes.
-/
import Derived.Test.YtoegpaolbkcleaaRoot
import Derived.Deep.RegionHeld3
namespace Go.Proofs.Ytoegpaolbkcleaa
open Go.ChangeShapes Go.WideShapes Go.ChangeAt Go.RowKit
set_option linter.unusedVariables false
set_option linter.unusedSimpArgs false

structure Slb where
  sq : Int
  th : Int
def slbC (x : Slb) : Nat → Value
  | 0 => .int .i64 x.sq
  | _ => .int .i64 x.th
abbrev SlabsAt := RowsAt 2 slbC
theorem SlabsAt.at_ {w : World} {A : Option Addr} {l : List Slb} (h : SlabsAt w A l) {k : Nat} (hk : k < l.length) :
    ∃ b off, A = some ⟨b, off, none⟩ ∧ b < w.heap.size ∧ w.cell? ⟨b, off + k * 2, none⟩ = some (.int .i64 l[k].sq) ∧ w.cell? ⟨b, off + k * 2 + 1, none⟩ = some (.int .i64 l[k].th) := by
  obtain ⟨b, off, e, hb, hc⟩ := h k l[k] (List.getElem?_eq_getElem hk)
  exact ⟨b, off, e, hb, hc 0 (by omega), hc 1 (by omega)⟩

theorem index_any (sq f : Int) (w : World) (h0 : 0 ≤ sq) (h1 : sq < f * f) (f0 : 0 ≤ f) (f1 : f ≤ 3000) :
    Calls Try.prog 76 #[.int .i64 sq, .int .i64 f] w fun e w' => e = .returned (.agg #[.int .i64 (idxLo sq f), .int .i64 (idxHi sq f)]) ∧ Below w.heap.size w w' := by
  have hs := sq_bd f f0 f1
  have hq := idx_q sq f h0 h1 f0 f1
  have hl := idxLo_bd sq f h0 h1 f0 f1
  have e : 1000000 * f * f = 1000000 * (f * f) := Int.mul_assoc _ _ _
  have hx : idxLo sq f = rt (1000000 * f * f / (f * f - sq)) := rfl
  have hh := idxHi_eq sq f h0 h1 f0 f1
  have b1 : 0 ≤ 1000000 * f * f := by omega
  have b2 : 1000000 * f * f ≤ 9000000000000 := by omega
  have b3 : 0 ≤ idxLo sq f * idxLo sq f := Int.mul_nonneg (by omega) (by omega)
  have b4 : idxLo sq f * idxLo sq f ≤ 9000000000000 := by have := Int.mul_le_mul hl.2 hl.2 (by omega) (by omega); omega
  have b5 : 0 ≤ idxLo sq f * idxLo sq f * (f * f - sq) := Int.mul_nonneg b3 (by omega)
  have b5' := idxLo_le sq f h0 h1 f0 f1
  have b6 : 0 < f * f - sq := by omega
  have b7 : f * f - sq ≤ 9000000 := by omega
  obtain ⟨s1, s2⟩ := hs
  obtain ⟨q1, q2⟩ := hq
  obtain ⟨l1, l2⟩ := hl
  have HX := Lib.hid hx
  have HH := Lib.hid hh
  clear hx hh e
  generalize idxLo sq f = lo at *
  generalize idxHi sq f = hi at *
  by_cases hc : lo * lo * (f * f - sq) < 1000000 * f * f
  all_goals
    go_enter Try.func76, Try.ntmps76
    go_wp2_with (go_at_call 99; refine (root_any _ _ (by omega) (by omega)).mono ?_; rintro e w' ⟨rfl, rfl⟩; rw [← HX.out])
    refine bodyPost_ret (v := .agg #[.int .i64 lo, .int .i64 hi]) (by rw [HH.out]; (first | rw [if_pos (by assumption)] | rw [if_neg (by omega)]); simp [results, Try.results76, go_sem]) rfl ⟨rfl, (by repeat (first | assumption | exact Below.refl _ _ | refine Below.drew ?_ | (refine below_alloc _ ?_ ?_; focus (first | omega | (simp; done) | (simp; omega) | (simp at *; omega))) | (refine below_set _ ?_ ?_; focus (first | omega | (simp; done) | (simp; omega) | (simp at *; omega))) | refine below_drewN ?_ _ | (refine below_call (by assumption) ?_ ?_; focus (first | omega | (simp; done) | (simp; omega) | (simp at *; omega))) | (refine below_call' (by assumption) ?_ ?_; focus (first | omega | (simp; done) | (simp; omega) | (simp at *; omega)))))⟩

/-- the error of a profile, with an index -/
def slbOk (x : Slb) : Bool := withinB x.sq 0 9000000 && withinB x.th 0 500
def badSlb : List Slb → Int → Int
  | [], _ => -1
  | x :: r, i => if slbOk x then badSlb r (i + 1) else i
def chkHead (base : Int) (n : Nat) : Int := firstE [unl (withinB base 0 500) 2, unl (decide (0 < n)) 10, unl (decide ((n : Int) ≤ 12)) 8]
def chkI (base : Int) (l : List Slb) : Int := if chkHead base l.length ≠ 0 then 0 else if 0 ≤ badSlb l 0 then badSlb l 0 else 0
def chkE (base : Int) (l : List Slb) : Int := if chkHead base l.length ≠ 0 then chkHead base l.length else if 0 ≤ badSlb l 0 then 2 else 0

theorem bad_any (x : Slb) (w : World) :
    Calls Try.prog 88 #[.agg #[.int .i64 x.sq, .int .i64 x.th]] w fun e w' => e = .returned (.bool (!slbOk x)) ∧ Below w.heap.size w w' := by
  have hh : slbOk x = (withinB x.sq 0 9000000 && withinB x.th 0 500) := rfl
  have HH := Lib.hid hh
  clear hh
  cases h1 : withinB x.sq 0 9000000 <;> cases h2 : withinB x.th 0 500
  all_goals
    have H1 := Lib.hid h1
    have H2 := Lib.hid h2
    clear h1 h2
    go_enter Try.func88, Try.ntmps88
    go_wp2_with (first | (go_at_call 75; refine (within_any _ _ _ _).mono ?_; rintro e w' ⟨rfl, rfl⟩; rw [H1.out]) | (go_at_call 78; refine (isThickness_any _ _).mono ?_; rintro e w' ⟨rfl, rfl⟩; rw [H2.out]))
    go_ret
    exact ⟨ret_bool (by rw [HH.out, H1.out, H2.out]; rfl), (by repeat (first | assumption | exact Below.refl _ _ | refine Below.drew ?_ | (refine below_alloc _ ?_ ?_; focus (first | omega | (simp; done) | (simp; omega) | (simp at *; omega))) | (refine below_set _ ?_ ?_; focus (first | omega | (simp; done) | (simp; omega) | (simp at *; omega))) | refine below_drewN ?_ _ | (refine below_call (by assumption) ?_ ?_; focus (first | omega | (simp; done) | (simp; omega) | (simp at *; omega))) | (refine below_call' (by assumption) ?_ ?_; focus (first | omega | (simp; done) | (simp; omega) | (simp at *; omega)))))⟩
theorem IndexFunc_any (A : Option Addr) (l : List Slb) (cap : Nat) (w : World) (hl : l.length ≤ 100) (hA : SlabsAt w A l) :
    Calls Try.prog 87 #[.slice A l.length cap, .func (.func 88) #[] #[]] w fun e w' => e = .returned (.int .i64 (badSlb l 0)) ∧ Below w.heap.size w w' := by
  go_enter Try.func87, Try.ntmps87
  go_wp2
  go_loopw [8] (fun i wr => ∃ k : Nat, k ≤ l.length ∧ i = .int .i64 k ∧ badSlb l 0 = badSlb (l.drop k) k ∧ Below w.heap.size w wr) (fun i _ => l.length - (intOf i).toNat)
  case atStart => exact ⟨0, Nat.zero_le _, rfl, rfl, Below.refl _ _⟩
  case round =>
    obtain ⟨k, hk, rfl, he, hbw⟩ := hrel
    have H := Lib.hid he
    clear he
    by_cases hlt : k < l.length
    · have hd : l.drop k = l[k] :: l.drop (k + 1) := List.drop_eq_getElem_cons hlt
      rw [hd] at H
      clear hd
      obtain ⟨b, off, rfl, hb, h1, h2⟩ := SlabsAt.at_ (hA.below hbw) hlt
      generalize l[k] = x at *
      cases hx : slbOk x
      all_goals
        have HX := Lib.hid hx
        clear hx
        go_wp2_with (go_at_call 88; refine (bad_any x _).mono ?_; rintro e w' ⟨rfl, hb1⟩; rw [HX.out])
      · go_ret
        exact ⟨ret_int (by rw [H.out]; simp [badSlb, HX.out]), (by repeat (first | assumption | exact Below.refl _ _ | refine Below.drew ?_ | (refine below_alloc _ ?_ ?_; focus (first | omega | (simp; done) | (simp; omega) | (simp at *; omega))) | (refine below_set _ ?_ ?_; focus (first | omega | (simp; done) | (simp; omega) | (simp at *; omega))) | refine below_drewN ?_ _ | (refine below_call (by assumption) ?_ ?_; focus (first | omega | (simp; done) | (simp; omega) | (simp at *; omega))) | (refine below_call' (by assumption) ?_ ?_; focus (first | omega | (simp; done) | (simp; omega) | (simp at *; omega)))))⟩
      · go_roundw
        case rel => exact ⟨k + 1, by omega, by go_num, by rw [H.out]; simp [badSlb, HX.out], (by repeat (first | assumption | exact Below.refl _ _ | refine Below.drew ?_ | (refine below_alloc _ ?_ ?_; focus (first | omega | (simp; done) | (simp; omega) | (simp at *; omega))) | (refine below_set _ ?_ ?_; focus (first | omega | (simp; done) | (simp; omega) | (simp at *; omega))) | refine below_drewN ?_ _ | (refine below_call (by assumption) ?_ ?_; focus (first | omega | (simp; done) | (simp; omega) | (simp at *; omega))) | (refine below_call' (by assumption) ?_ ?_; focus (first | omega | (simp; done) | (simp; omega) | (simp at *; omega)))))⟩
        case measure => simp [intOf]; omega
    · have e : l.drop k = [] := List.drop_eq_nil_of_le (by omega)
      rw [e] at H
      clear e
      go_wp2
      go_ret
      exact ⟨ret_int (by rw [H.out]; rfl), hbw⟩


theorem rows_lit (l : List Int) {w : World} {b : Nat} (hb : b < w.heap.size) (h : ∀ k x, l[k]? = some x → w.cell? ⟨b, k, none⟩ = some (.int .i64 x)) : RowsAt 1 (fun x _ => .int .i64 x) w (some ⟨b, 0, none⟩) l := fun k x hk => by
  refine ⟨b, 0, rfl, hb, fun j hj => ?_⟩
  obtain rfl : j = 0 := by omega
  simpa using h k x hk
theorem first2 (x y : Int) (b : Nat) (w : World) (hb : b < w.heap.size) (h0 : w.cell? ⟨b, 0, none⟩ = some (.int .i64 x)) (h1 : w.cell? ⟨b, 1, none⟩ = some (.int .i64 y)) :
    Calls Try.prog 68 #[.slice (some ⟨b, 0, none⟩) 2 2] w fun e w' => e = .returned (.int .i64 (firstE [x, y])) ∧ w = w' :=
  first_any _ [x, y] 2 w (by simp) (rows_lit _ hb fun k x hk => by
    match k with
    | 0 => simp at hk; subst hk; exact h0
    | 1 => simp at hk; subst hk; exact h1
    | k + 2 => simp at hk)
theorem first3 (x y z : Int) (b : Nat) (w : World) (hb : b < w.heap.size) (h0 : w.cell? ⟨b, 0, none⟩ = some (.int .i64 x)) (h1 : w.cell? ⟨b, 1, none⟩ = some (.int .i64 y)) (h2 : w.cell? ⟨b, 2, none⟩ = some (.int .i64 z)) :
    Calls Try.prog 68 #[.slice (some ⟨b, 0, none⟩) 3 3] w fun e w' => e = .returned (.int .i64 (firstE [x, y, z])) ∧ w = w' :=
  first_any _ [x, y, z] 3 w (by simp) (rows_lit _ hb fun k x hk => by
    match k with
    | 0 => simp at hk; subst hk; exact h0
    | 1 => simp at hk; subst hk; exact h1
    | 2 => simp at hk; subst hk; exact h2
    | k + 3 => simp at hk)
theorem first4 (x y z u : Int) (b : Nat) (w : World) (hb : b < w.heap.size) (h0 : w.cell? ⟨b, 0, none⟩ = some (.int .i64 x)) (h1 : w.cell? ⟨b, 1, none⟩ = some (.int .i64 y)) (h2 : w.cell? ⟨b, 2, none⟩ = some (.int .i64 z)) (h3 : w.cell? ⟨b, 3, none⟩ = some (.int .i64 u)) :
    Calls Try.prog 68 #[.slice (some ⟨b, 0, none⟩) 4 4] w fun e w' => e = .returned (.int .i64 (firstE [x, y, z, u])) ∧ w = w' :=
  first_any _ [x, y, z, u] 4 w (by simp) (rows_lit _ hb fun k x hk => by
    match k with
    | 0 => simp at hk; subst hk; exact h0
    | 1 => simp at hk; subst hk; exact h1
    | 2 => simp at hk; subst hk; exact h2
    | 3 => simp at hk; subst hk; exact h3
    | k + 4 => simp at hk)

set_option maxHeartbeats 1000000 in
theorem CheckProfile_any (base : Int) (A : Option Addr) (l : List Slb) (cap : Nat) (w : World) (hl : l.length ≤ 100) (hA : SlabsAt w A l) :
    Calls Try.prog 48 #[.agg #[.int .i64 base, .slice A l.length cap]] w fun e w' => e = .returned (.tuple #[.int .i64 (chkI base l), .int .i64 (chkE base l)]) ∧ Below w.heap.size w w' := by
  go_enter Try.func48, Try.ntmps48
  go_wp2
  go_region_held3 (fun w' => w'.cell? ⟨w.heap.size, 0, none⟩ = some (.int .i64 base) ∧ w'.cell? ⟨w.heap.size, 1, none⟩ = some (.slice A l.length cap) ∧ Below w.heap.size w w') (first | exact ⟨by simp, by simp, (by repeat (first | assumption | exact Below.refl _ _ | refine Below.drew ?_ | (refine below_alloc _ ?_ ?_; focus (first | omega | (simp; done) | (simp; omega) | (simp at *; omega))) | (refine below_set _ ?_ ?_; focus (first | omega | (simp; done) | (simp; omega) | (simp at *; omega))) | refine below_drewN ?_ _ | (refine below_call (by assumption) ?_ ?_; focus (first | omega | (simp; done) | (simp; omega) | (simp at *; omega))) | (refine below_call' (by assumption) ?_ ?_; focus (first | omega | (simp; done) | (simp; omega) | (simp at *; omega)))))⟩ | exact ⟨by assumption, by assumption, (by repeat (first | assumption | exact Below.refl _ _ | refine Below.drew ?_ | (refine below_alloc _ ?_ ?_; focus (first | omega | (simp; done) | (simp; omega) | (simp at *; omega))) | (refine below_set _ ?_ ?_; focus (first | omega | (simp; done) | (simp; omega) | (simp at *; omega))) | refine below_drewN ?_ _ | (refine below_call (by assumption) ?_ ?_; focus (first | omega | (simp; done) | (simp; omega) | (simp at *; omega))) | (refine below_call' (by assumption) ?_ ?_; focus (first | omega | (simp; done) | (simp; omega) | (simp at *; omega)))))⟩) (first | (go_at_call 78; refine (isThickness_any _ _).mono ?_; rintro e w' ⟨rfl, rfl⟩) | (go_at_call 74; refine (unless_any _ _ _).mono ?_; rintro e w' ⟨rfl, rfl⟩) | (go_at_call 68; refine (first3 (unl (withinB base 0 500) 2) (unl (decide (0 < l.length)) 10) (unl (decide ((l.length : Int) ≤ 12)) 8) _ _ (by simp) (by simp) (by simp) (by simp)).mono ?_; rintro e w' ⟨rfl, rfl⟩))
  have hI : chkI base l = if chkHead base l.length ≠ 0 then 0 else if 0 ≤ badSlb l 0 then badSlb l 0 else 0 := rfl
  have hE : chkE base l = if chkHead base l.length ≠ 0 then chkHead base l.length else if 0 ≤ badSlb l 0 then 2 else 0 := rfl
  have hH : chkHead base l.length = firstE [unl (withinB base 0 500) 2, unl (decide (0 < l.length)) 10, unl (decide ((l.length : Int) ≤ 12)) 8] := rfl
  rw [← hH]
  clear hH
  generalize chkHead base l.length = hd at *
  have HI := Lib.hid hI
  have HE := Lib.hid hE
  clear hI hE
  by_cases h0 : hd = 0
  · subst h0
    go_wp2_with (fail)
    refine (IndexFunc_any A l cap _ hl (hA.below (by repeat (first | assumption | exact Below.refl _ _ | refine Below.drew ?_ | (refine below_alloc _ ?_ ?_; focus (first | omega | (simp; done) | (simp; omega) | (simp at *; omega))) | (refine below_set _ ?_ ?_; focus (first | omega | (simp; done) | (simp; omega) | (simp at *; omega))) | refine below_drewN ?_ _ | (refine below_call (by assumption) ?_ ?_; focus (first | omega | (simp; done) | (simp; omega) | (simp at *; omega))) | (refine below_call' (by assumption) ?_ ?_; focus (first | omega | (simp; done) | (simp; omega) | (simp at *; omega))))))).mono ?_
    rintro e w1 ⟨rfl, hb1⟩
    have hR := Lib.hid (rfl : badSlb l 0 = badSlb l 0)
    generalize badSlb l 0 = r at *
    by_cases hr : 0 ≤ r
    · rw [if_neg (by simp), if_pos hr] at HI HE
      go_wp2
      go_ret2
      exact ⟨ret_eq (by rw [HI.out, HE.out]; rfl), (by repeat (first | assumption | exact Below.refl _ _ | refine Below.drew ?_ | (refine below_alloc _ ?_ ?_; focus (first | omega | (simp; done) | (simp; omega) | (simp at *; omega))) | (refine below_set _ ?_ ?_; focus (first | omega | (simp; done) | (simp; omega) | (simp at *; omega))) | refine below_drewN ?_ _ | (refine below_call (by assumption) ?_ ?_; focus (first | omega | (simp; done) | (simp; omega) | (simp at *; omega))) | (refine below_call' (by assumption) ?_ ?_; focus (first | omega | (simp; done) | (simp; omega) | (simp at *; omega)))))⟩
    · rw [if_neg (by simp), if_neg hr] at HI HE
      go_wp2
      go_ret2
      exact ⟨ret_eq (by rw [HI.out, HE.out]; rfl), (by repeat (first | assumption | exact Below.refl _ _ | refine Below.drew ?_ | (refine below_alloc _ ?_ ?_; focus (first | omega | (simp; done) | (simp; omega) | (simp at *; omega))) | (refine below_set _ ?_ ?_; focus (first | omega | (simp; done) | (simp; omega) | (simp at *; omega))) | refine below_drewN ?_ _ | (refine below_call (by assumption) ?_ ?_; focus (first | omega | (simp; done) | (simp; omega) | (simp at *; omega))) | (refine below_call' (by assumption) ?_ ?_; focus (first | omega | (simp; done) | (simp; omega) | (simp at *; omega)))))⟩
  · rw [if_pos h0] at HI HE
    have h1 : (hd == 0) = false := by simpa using h0
    have h2 : (hd != 0) = true := by simpa using h0
    have H0 := Lib.hid h0
    clear h0
    go_wp2
    go_ret2
    exact ⟨ret_eq (by rw [HI.out, HE.out]; rfl), (by repeat (first | assumption | exact Below.refl _ _ | refine Below.drew ?_ | (refine below_alloc _ ?_ ?_; focus (first | omega | (simp; done) | (simp; omega) | (simp at *; omega))) | (refine below_set _ ?_ ?_; focus (first | omega | (simp; done) | (simp; omega) | (simp at *; omega))) | refine below_drewN ?_ _ | (refine below_call (by assumption) ?_ ?_; focus (first | omega | (simp; done) | (simp; omega) | (simp at *; omega))) | (refine below_call' (by assumption) ?_ ?_; focus (first | omega | (simp; done) | (simp; omega) | (simp at *; omega)))))⟩
end Go.Proofs.Ytoegpaolbkcleaa
