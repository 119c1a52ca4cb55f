/-
  The square at a height, the critical square, the content: the exported functions and the reference's.
-/
import Derived.Test.YtoegpaolbkcleaaPls
import Derived.Test.YtoegpaolbkcleaaSml
namespace Go.Proofs.Ytoegpaolbkcleaa
open Go.ChangeShapes Go.WideShapes Go.ChangeAt Go.RowKit
set_option linter.unusedVariables false
set_option linter.unusedSimpArgs false

def plE (base : Int) (l : List Slb) (h : Int) : Int := firstE [chkE base l, unl (withinB h 0 10000) 2]
def plV (base : Int) (l : List Slb) (h : Int) : Int := if plE base l h = 0 then plas base l h else 0
set_option maxHeartbeats 1000000 in
theorem PlasmaAt_any (base : Int) (A : Option Addr) (l : List Slb) (cap : Nat) (h : Int) (w : World) (hl : l.length ≤ 100) (hA : SlabsAt w A l) :
    Calls Try.prog 49 #[.agg #[.int .i64 base, .slice A l.length cap], .int .i64 h] w fun e w' => e = .returned (.tuple #[.int .i64 (plV base l h), .int .i64 (plE base l h)]) ∧ Below w.heap.size w w' := by
  have h1 : plE base l h = firstE [chkE base l, unl (withinB h 0 10000) 2] := rfl
  have h2 : plV base l h = if plE base l h = 0 then plas base l h else 0 := rfl
  have H1 := Lib.hid h1
  have H2 := Lib.hid h2
  clear h1 h2
  go_enter Try.func49, Try.ntmps49
  go_wp2_with (fail)
  refine (open_any base A l cap _ hl (hA.below (by repeat (first | assumption | exact Below.refl _ _ | refine Below.drew ?_ | (refine below_alloc _ ?_ ?_; focus (first | omega | (simp; done) | (simp; omega) | (simp at *; omega))) | (refine below_set _ ?_ ?_; focus (first | omega | (simp; done) | (simp; omega) | (simp at *; omega))) | refine below_drewN ?_ _ | (refine below_call (by assumption) ?_ ?_; focus (first | omega | (simp; done) | (simp; omega) | (simp at *; omega))) | (refine below_call' (by assumption) ?_ ?_; focus (first | omega | (simp; done) | (simp; omega) | (simp at *; omega))))))).mono ?_
  rintro e w1 ⟨rfl, hb1⟩
  have hbw1 : Below w.heap.size w w1 := (by repeat (first | assumption | exact Below.refl _ _ | refine Below.drew ?_ | (refine below_alloc _ ?_ ?_; focus (first | omega | (simp; done) | (simp; omega) | (simp at *; omega))) | (refine below_set _ ?_ ?_; focus (first | omega | (simp; done) | (simp; omega) | (simp at *; omega))) | refine below_drewN ?_ _ | (refine below_call (by assumption) ?_ ?_; focus (first | omega | (simp; done) | (simp; omega) | (simp at *; omega))) | (refine below_call' (by assumption) ?_ ?_; focus (first | omega | (simp; done) | (simp; omega) | (simp at *; omega)))))
  have hz1 : w.heap.size < w1.heap.size := by have := hb1.size; simp at this; omega
  go_wp2_with (first | (go_at_call 74; refine (unless_any _ _ _).mono ?_; rintro e w' ⟨rfl, rfl⟩) | (go_at_call 75; refine (within_any _ _ _ _).mono ?_; rintro e w' ⟨rfl, rfl⟩))
  refine (first2 (chkE base l) (unl (withinB h 0 10000) 2) _ _ (by simp) (by repeat (first | assumption | (refine cell_new ?_ rfl; focus (simp; done)) | refine cell_drew ?_ | refine cell_alloc _ ?_ | refine cell_drewN _ ?_ | (refine cell_far ?_ ?_; focus (first | omega | (simp; omega) | (simp; done))) | refine cell_below' (by assumption) ?_)) (by repeat (first | assumption | (refine cell_new ?_ rfl; focus (simp; done)) | refine cell_drew ?_ | refine cell_alloc _ ?_ | refine cell_drewN _ ?_ | (refine cell_far ?_ ?_; focus (first | omega | (simp; omega) | (simp; done))) | refine cell_below' (by assumption) ?_))).mono ?_
  rintro e w2 ⟨rfl, rfl⟩
  rw [← H1.out]
  by_cases h0 : plE base l h = 0
  · have h00 := h0
    unfold plE at h00
    rw [firstE2] at h00
    have HO := Lib.hid (ok_of_chk h00.1)
    rw [if_pos h0] at H2
    have H0 := Lib.hid h0
    rw [h0]
    clear h0 h00 H1
    go_wp2_with (fail)
    refine (plasma_any base A l cap h _ HO.out ((hA.below hbw1).below (by repeat (first | assumption | exact Below.refl _ _ | refine Below.drew ?_ | (refine below_alloc _ ?_ ?_; focus (first | omega | (simp; done) | (simp; omega) | (simp at *; omega))) | (refine below_set _ ?_ ?_; focus (first | omega | (simp; done) | (simp; omega) | (simp at *; omega))) | refine below_drewN ?_ _ | (refine below_call (by assumption) ?_ ?_; focus (first | omega | (simp; done) | (simp; omega) | (simp at *; omega))) | (refine below_call' (by assumption) ?_ ?_; focus (first | omega | (simp; done) | (simp; omega) | (simp at *; omega))))))).mono ?_
    rintro e w3 ⟨rfl, hb3⟩
    go_wp2
    go_ret2
    exact ⟨ret_eq (by rw [H0.out, H2.out]; rfl), (by repeat (first | assumption | exact Below.refl _ _ | refine Below.drew ?_ | (refine below_alloc _ ?_ ?_; focus (first | omega | (simp; done) | (simp; omega) | (simp at *; omega))) | (refine below_set _ ?_ ?_; focus (first | omega | (simp; done) | (simp; omega) | (simp at *; omega))) | refine below_drewN ?_ _ | (refine below_call (by assumption) ?_ ?_; focus (first | omega | (simp; done) | (simp; omega) | (simp at *; omega))) | (refine below_call' (by assumption) ?_ ?_; focus (first | omega | (simp; done) | (simp; omega) | (simp at *; omega)))))⟩
  · rw [if_neg h0] at H2
    have h0' : (plE base l h == 0) = false := by simpa using h0
    have h0'' : (plE base l h != 0) = true := by simpa using h0
    clear h0 H1
    go_wp2
    go_ret2
    exact ⟨ret_eq (by rw [H2.out]; rfl), (by repeat (first | assumption | exact Below.refl _ _ | refine Below.drew ?_ | (refine below_alloc _ ?_ ?_; focus (first | omega | (simp; done) | (simp; omega) | (simp at *; omega))) | (refine below_set _ ?_ ?_; focus (first | omega | (simp; done) | (simp; omega) | (simp at *; omega))) | refine below_drewN ?_ _ | (refine below_call (by assumption) ?_ ?_; focus (first | omega | (simp; done) | (simp; omega) | (simp at *; omega))) | (refine below_call' (by assumption) ?_ ?_; focus (first | omega | (simp; done) | (simp; omega) | (simp at *; omega)))))⟩

def sqAt (l : List Slb) (k : Nat) : Int := (l.getD k ⟨0, 0⟩).sq
/-- the first slab with the greatest square among the first k -/
def crit (l : List Slb) : Nat → Nat
  | 0 => 0
  | k + 1 => if sqAt l (crit l k) < sqAt l k then k else crit l k
theorem crit_lt {l : List Slb} (h : 0 < l.length) : ∀ k, k ≤ l.length → crit l k < l.length
  | 0, _ => h
  | k + 1, hk => by
    have := crit_lt h k (by omega)
    unfold crit
    split <;> omega
theorem sqAt_eq {l : List Slb} {k : Nat} (h : k < l.length) : sqAt l k = l[k].sq := by
  unfold sqAt; simp [List.getD, List.getElem?_eq_getElem h]
theorem slab_sq {w : World} {b off : Nat} {l : List Slb} (h : SlabsAt w (some ⟨b, off, none⟩) l) {k : Nat} (hk : k < l.length) : w.cell? ⟨b, off + k * 2, none⟩ = some (.int .i64 (sqAt l k)) := by
  obtain ⟨b', o', e, _, hc⟩ := h k l[k] (List.getElem?_eq_getElem hk)
  injection e with e
  injection e with e1 e2
  subst e1 e2
  rw [sqAt_eq hk]
  exact hc 0 (by omega)
def crI (base : Int) (l : List Slb) : Int := if chkE base l = 0 then (crit l l.length : Int) else 0
def crV (base : Int) (l : List Slb) : Int := if chkE base l = 0 then sqAt l (crit l l.length) else 0

set_option maxHeartbeats 1000000 in
theorem CriticalOf_any (base : Int) (A : Option Addr) (l : List Slb) (cap : Nat) (w : World) (hl : l.length ≤ 100) (hA : SlabsAt w A l) :
    Calls Try.prog 50 #[.agg #[.int .i64 base, .slice A l.length cap]] w fun e w' => e = .returned (.tuple #[.int .i64 (crV base l), .int .i64 (crI base l), .int .i64 (chkE base l)]) ∧ Below w.heap.size w w' := by
  have h1 : crI base l = if chkE base l = 0 then (crit l l.length : Int) else 0 := rfl
  have h2 : crV base l = if chkE base l = 0 then sqAt l (crit l l.length) else 0 := rfl
  have H1 := Lib.hid h1
  have H2 := Lib.hid h2
  clear h1 h2
  go_enter Try.func50, Try.ntmps50
  go_wp2_with (fail)
  refine (open_any base A l cap _ hl (hA.below (by repeat (first | assumption | exact Below.refl _ _ | refine Below.drew ?_ | (refine below_alloc _ ?_ ?_; focus (first | omega | (simp; done) | (simp; omega) | (simp at *; omega))) | (refine below_set _ ?_ ?_; focus (first | omega | (simp; done) | (simp; omega) | (simp at *; omega))) | refine below_drewN ?_ _ | (refine below_call (by assumption) ?_ ?_; focus (first | omega | (simp; done) | (simp; omega) | (simp at *; omega))) | (refine below_call' (by assumption) ?_ ?_; focus (first | omega | (simp; done) | (simp; omega) | (simp at *; omega))))))).mono ?_
  rintro e w1 ⟨rfl, hb1⟩
  have hbw1 : Below w.heap.size w w1 := (by repeat (first | assumption | exact Below.refl _ _ | refine Below.drew ?_ | (refine below_alloc _ ?_ ?_; focus (first | omega | (simp; done) | (simp; omega) | (simp at *; omega))) | (refine below_set _ ?_ ?_; focus (first | omega | (simp; done) | (simp; omega) | (simp at *; omega))) | refine below_drewN ?_ _ | (refine below_call (by assumption) ?_ ?_; focus (first | omega | (simp; done) | (simp; omega) | (simp at *; omega))) | (refine below_call' (by assumption) ?_ ?_; focus (first | omega | (simp; done) | (simp; omega) | (simp at *; omega)))))
  have hA1 := hA.below hbw1
  have hz1 : w.heap.size < w1.heap.size := by have := hb1.size; simp at this; omega
  by_cases h0 : chkE base l = 0
  · rw [if_pos h0] at H1 H2
    have HO := Lib.hid (ok_of_chk h0)
    have H0 := Lib.hid h0
    rw [h0]
    clear h0
    have hn0 := HO.out.n0
    have hn := HO.out.n1
    obtain ⟨bb, off, rfl, hb, _, _⟩ := SlabsAt.at_ hA1 hn0
    go_wp2
    go_loopw [7, 22] (fun a i wr => ∃ j : Nat, j ≤ l.length ∧ i = .int .i64 j ∧ a = .int .i64 (crit l j) ∧ Below (w1.heap.size + 1) (w1.alloc (.cells #[.int .i64 base, .slice (some ⟨bb, off, none⟩) l.length cap] 113)) wr) (fun _ i _ => l.length - (intOf i).toNat)
    case atStart => exact ⟨0, Nat.zero_le _, rfl, rfl, Below.refl _ _⟩
    case round =>
      obtain ⟨j, hj, rfl, rfl, hbw⟩ := hrel
      have hAr : SlabsAt wr (some ⟨bb, off, none⟩) l := RowsAt.below hA1 (by repeat (first | assumption | exact Below.refl _ _ | refine Below.drew ?_ | (refine below_alloc _ ?_ ?_; focus (first | omega | (simp; done) | (simp; omega) | (simp at *; omega))) | (refine below_set _ ?_ ?_; focus (first | omega | (simp; done) | (simp; omega) | (simp at *; omega))) | refine below_drewN ?_ _ | (refine below_call (by assumption) ?_ ?_; focus (first | omega | (simp; done) | (simp; omega) | (simp at *; omega))) | (refine below_call' (by assumption) ?_ ?_; focus (first | omega | (simp; done) | (simp; omega) | (simp at *; omega)))))
      have hzr := hbw.size
      simp at hzr
      have hzr1 : w1.heap.size < wr.heap.size := by omega
      have s0 : wr.cell? ⟨w1.heap.size, 0, none⟩ = some (.int .i64 base) := cell_below hbw (by repeat (first | assumption | (refine cell_new ?_ rfl; focus (simp; done)) | refine cell_drew ?_ | refine cell_alloc _ ?_ | refine cell_drewN _ ?_ | (refine cell_far ?_ ?_; focus (first | omega | (simp; omega) | (simp; done))) | refine cell_below' (by assumption) ?_)) (by simp)
      have s1 : wr.cell? ⟨w1.heap.size, 1, none⟩ = some (.slice (some ⟨bb, off, none⟩) l.length cap) := cell_below hbw (by repeat (first | assumption | (refine cell_new ?_ rfl; focus (simp; done)) | refine cell_drew ?_ | refine cell_alloc _ ?_ | refine cell_drewN _ ?_ | (refine cell_far ?_ ?_; focus (first | omega | (simp; omega) | (simp; done))) | refine cell_below' (by assumption) ?_)) (by simp)
      have hbr : Below w.heap.size w wr := (by repeat (first | assumption | exact Below.refl _ _ | refine Below.drew ?_ | (refine below_alloc _ ?_ ?_; focus (first | omega | (simp; done) | (simp; omega) | (simp at *; omega))) | (refine below_set _ ?_ ?_; focus (first | omega | (simp; done) | (simp; omega) | (simp at *; omega))) | refine below_drewN ?_ _ | (refine below_call (by assumption) ?_ ?_; focus (first | omega | (simp; done) | (simp; omega) | (simp at *; omega))) | (refine below_call' (by assumption) ?_ ?_; focus (first | omega | (simp; done) | (simp; omega) | (simp at *; omega)))))
      have hcl := crit_lt hn0 j hj
      have c4 := slab_sq hAr hcl
      by_cases hlt : j < l.length
      · obtain ⟨b2, o2, e2, hb2, c2, c3⟩ := SlabsAt.at_ hAr hlt
        injection e2 with e2
        injection e2 with e21 e22
        subst e21 e22
        have hq := sqAt_eq hlt
        have hcr : crit l (j + 1) = if sqAt l (crit l j) < sqAt l j then j else crit l j := rfl
        rw [hq] at hcr
        have HCR := Lib.hid hcr
        clear hq hcr
        generalize l[j] = x at *
        generalize crit l j = c at *
        generalize sqAt l c = s at *
        by_cases hc : s < x.sq
        · rw [if_pos hc] at HCR
          go_wp2
          go_quiet (fail)
          go_wp2
          go_roundw
          case rel => exact ⟨j + 1, by omega, by go_num, by rw [HCR.out], (by repeat (first | assumption | exact Below.refl _ _ | refine Below.drew ?_ | (refine below_alloc _ ?_ ?_; focus (first | omega | (simp; done) | (simp; omega) | (simp at *; omega))) | (refine below_set _ ?_ ?_; focus (first | omega | (simp; done) | (simp; omega) | (simp at *; omega))) | refine below_drewN ?_ _ | (refine below_call (by assumption) ?_ ?_; focus (first | omega | (simp; done) | (simp; omega) | (simp at *; omega))) | (refine below_call' (by assumption) ?_ ?_; focus (first | omega | (simp; done) | (simp; omega) | (simp at *; omega)))))⟩
          case measure => simp [intOf]; omega
        · rw [if_neg hc] at HCR
          have hcd : decide (s < x.sq) = false := by simpa using hc
          go_wp2
          go_quiet (fail)
          go_wp2
          go_roundw
          case rel => exact ⟨j + 1, by omega, by go_num, by rw [HCR.out], (by repeat (first | assumption | exact Below.refl _ _ | refine Below.drew ?_ | (refine below_alloc _ ?_ ?_; focus (first | omega | (simp; done) | (simp; omega) | (simp at *; omega))) | (refine below_set _ ?_ ?_; focus (first | omega | (simp; done) | (simp; omega) | (simp at *; omega))) | refine below_drewN ?_ _ | (refine below_call (by assumption) ?_ ?_; focus (first | omega | (simp; done) | (simp; omega) | (simp at *; omega))) | (refine below_call' (by assumption) ?_ ?_; focus (first | omega | (simp; done) | (simp; omega) | (simp at *; omega)))))⟩
          case measure => simp [intOf]; omega
      · obtain rfl : j = l.length := by omega
        generalize crit l l.length = c at *
        generalize sqAt l c = s at *
        go_wp2
        go_ret3
        exact ⟨ret_eq (by rw [H1.out, H2.out, H0.out]; rfl), (by repeat (first | assumption | exact Below.refl _ _ | refine Below.drew ?_ | (refine below_alloc _ ?_ ?_; focus (first | omega | (simp; done) | (simp; omega) | (simp at *; omega))) | (refine below_set _ ?_ ?_; focus (first | omega | (simp; done) | (simp; omega) | (simp at *; omega))) | refine below_drewN ?_ _ | (refine below_call (by assumption) ?_ ?_; focus (first | omega | (simp; done) | (simp; omega) | (simp at *; omega))) | (refine below_call' (by assumption) ?_ ?_; focus (first | omega | (simp; done) | (simp; omega) | (simp at *; omega)))))⟩
  · rw [if_neg h0] at H1 H2
    have h0' : (chkE base l == 0) = false := by simpa using h0
    have h0'' : (chkE base l != 0) = true := by simpa using h0
    clear h0
    go_wp2
    go_ret3
    exact ⟨ret_eq (by rw [H1.out, H2.out]; rfl), (by repeat (first | assumption | exact Below.refl _ _ | refine Below.drew ?_ | (refine below_alloc _ ?_ ?_; focus (first | omega | (simp; done) | (simp; omega) | (simp at *; omega))) | (refine below_set _ ?_ ?_; focus (first | omega | (simp; done) | (simp; omega) | (simp at *; omega))) | refine below_drewN ?_ _ | (refine below_call (by assumption) ?_ ?_; focus (first | omega | (simp; done) | (simp; omega) | (simp at *; omega))) | (refine below_call' (by assumption) ?_ ?_; focus (first | omega | (simp; done) | (simp; omega) | (simp at *; omega)))))⟩

set_option maxHeartbeats 1000000 in
theorem RCritical_any (base : Int) (A : Option Addr) (l : List Slb) (cap : Nat) (w : World) (hn0 : 0 < l.length) (hl : l.length ≤ 100) (hA : SlabsAt w A l) :
    Calls Try.prog 54 #[.agg #[.int .i64 base, .slice A l.length cap]] w fun e w' => e = .returned (.tuple #[.int .i64 (sqAt l (crit l l.length)), .int .i64 (crit l l.length)]) ∧ Below w.heap.size w w' := by
  obtain ⟨bb, off, rfl, hb, _, _⟩ := SlabsAt.at_ hA hn0
  go_enter Try.func54, Try.ntmps54
  go_wp2
  go_loopw [4, 5] (fun a i wr => ∃ j : Nat, j ≤ l.length ∧ i = .int .i64 j ∧ a = .int .i64 (crit l j) ∧ Below (w.heap.size + 1) (w.alloc (.cells #[.int .i64 base, .slice (some ⟨bb, off, none⟩) l.length cap] 24)) wr) (fun _ i _ => l.length - (intOf i).toNat)
  case atStart => exact ⟨0, Nat.zero_le _, rfl, rfl, Below.refl _ _⟩
  case round =>
    obtain ⟨j, hj, rfl, rfl, hbw⟩ := hrel
    have hAr : SlabsAt wr (some ⟨bb, off, none⟩) l := RowsAt.below hA (by repeat (first | assumption | exact Below.refl _ _ | refine Below.drew ?_ | (refine below_alloc _ ?_ ?_; focus (first | omega | (simp; done) | (simp; omega) | (simp at *; omega))) | (refine below_set _ ?_ ?_; focus (first | omega | (simp; done) | (simp; omega) | (simp at *; omega))) | refine below_drewN ?_ _ | (refine below_call (by assumption) ?_ ?_; focus (first | omega | (simp; done) | (simp; omega) | (simp at *; omega))) | (refine below_call' (by assumption) ?_ ?_; focus (first | omega | (simp; done) | (simp; omega) | (simp at *; omega)))))
    have hzr := hbw.size
    simp at hzr
    have hzr1 : w.heap.size < wr.heap.size := by omega
    have s0 : wr.cell? ⟨w.heap.size, 0, none⟩ = some (.int .i64 base) := cell_below hbw (by repeat (first | assumption | (refine cell_new ?_ rfl; focus (simp; done)) | refine cell_drew ?_ | refine cell_alloc _ ?_ | refine cell_drewN _ ?_ | (refine cell_far ?_ ?_; focus (first | omega | (simp; omega) | (simp; done))) | refine cell_below' (by assumption) ?_)) (by simp)
    have s1 : wr.cell? ⟨w.heap.size, 1, none⟩ = some (.slice (some ⟨bb, off, none⟩) l.length cap) := cell_below hbw (by repeat (first | assumption | (refine cell_new ?_ rfl; focus (simp; done)) | refine cell_drew ?_ | refine cell_alloc _ ?_ | refine cell_drewN _ ?_ | (refine cell_far ?_ ?_; focus (first | omega | (simp; omega) | (simp; done))) | refine cell_below' (by assumption) ?_)) (by simp)
    have hbr : Below w.heap.size w wr := (by repeat (first | assumption | exact Below.refl _ _ | refine Below.drew ?_ | (refine below_alloc _ ?_ ?_; focus (first | omega | (simp; done) | (simp; omega) | (simp at *; omega))) | (refine below_set _ ?_ ?_; focus (first | omega | (simp; done) | (simp; omega) | (simp at *; omega))) | refine below_drewN ?_ _ | (refine below_call (by assumption) ?_ ?_; focus (first | omega | (simp; done) | (simp; omega) | (simp at *; omega))) | (refine below_call' (by assumption) ?_ ?_; focus (first | omega | (simp; done) | (simp; omega) | (simp at *; omega)))))
    have hcl := crit_lt hn0 j hj
    have c4 := slab_sq hAr hcl
    by_cases hlt : j < l.length
    · obtain ⟨b2, o2, e2, hb2, c2, c3⟩ := SlabsAt.at_ hAr hlt
      injection e2 with e2
      injection e2 with e21 e22
      subst e21 e22
      have hq := sqAt_eq hlt
      have hcr : crit l (j + 1) = if sqAt l (crit l j) < sqAt l j then j else crit l j := rfl
      rw [hq] at hcr
      have HCR := Lib.hid hcr
      clear hq hcr
      generalize l[j] = x at *
      generalize crit l j = c at *
      generalize sqAt l c = s at *
      by_cases hc : s < x.sq
      · rw [if_pos hc] at HCR
        go_wp2
        go_quiet (fail)
        go_wp2
        go_roundw
        case rel => exact ⟨j + 1, by omega, by go_num, by rw [HCR.out], (by repeat (first | assumption | exact Below.refl _ _ | refine Below.drew ?_ | (refine below_alloc _ ?_ ?_; focus (first | omega | (simp; done) | (simp; omega) | (simp at *; omega))) | (refine below_set _ ?_ ?_; focus (first | omega | (simp; done) | (simp; omega) | (simp at *; omega))) | refine below_drewN ?_ _ | (refine below_call (by assumption) ?_ ?_; focus (first | omega | (simp; done) | (simp; omega) | (simp at *; omega))) | (refine below_call' (by assumption) ?_ ?_; focus (first | omega | (simp; done) | (simp; omega) | (simp at *; omega)))))⟩
        case measure => simp [intOf]; omega
      · rw [if_neg hc] at HCR
        have hcd : decide (s < x.sq) = false := by simpa using hc
        go_wp2
        go_quiet (fail)
        go_wp2
        go_roundw
        case rel => exact ⟨j + 1, by omega, by go_num, by rw [HCR.out], (by repeat (first | assumption | exact Below.refl _ _ | refine Below.drew ?_ | (refine below_alloc _ ?_ ?_; focus (first | omega | (simp; done) | (simp; omega) | (simp at *; omega))) | (refine below_set _ ?_ ?_; focus (first | omega | (simp; done) | (simp; omega) | (simp at *; omega))) | refine below_drewN ?_ _ | (refine below_call (by assumption) ?_ ?_; focus (first | omega | (simp; done) | (simp; omega) | (simp at *; omega))) | (refine below_call' (by assumption) ?_ ?_; focus (first | omega | (simp; done) | (simp; omega) | (simp at *; omega)))))⟩
        case measure => simp [intOf]; omega
    · obtain rfl : j = l.length := by omega
      generalize hcc : crit l l.length = c at *
      generalize hss : sqAt l c = s at *
      have HC := Lib.hid hcc
      have HS := Lib.hid hss
      clear hcc hss
      go_wp2
      go_ret2
      exact ⟨ret_eq (by rw [HC.out, HS.out]; rfl), (by repeat (first | assumption | exact Below.refl _ _ | refine Below.drew ?_ | (refine below_alloc _ ?_ ?_; focus (first | omega | (simp; done) | (simp; omega) | (simp at *; omega))) | (refine below_set _ ?_ ?_; focus (first | omega | (simp; done) | (simp; omega) | (simp at *; omega))) | refine below_drewN ?_ _ | (refine below_call (by assumption) ?_ ?_; focus (first | omega | (simp; done) | (simp; omega) | (simp at *; omega))) | (refine below_call' (by assumption) ?_ ?_; focus (first | omega | (simp; done) | (simp; omega) | (simp at *; omega)))))⟩

set_option maxHeartbeats 1000000 in
theorem RContent_any (base : Int) (A : Option Addr) (l : List Slb) (cap : Nat) (w : World) (ho : Ok base l) (hA : SlabsAt w A l) :
    Calls Try.prog 55 #[.agg #[.int .i64 base, .slice A l.length cap]] w fun e w' => e = .returned (.int .i64 (sumC l)) ∧ Below w.heap.size w w' := by
  have HO := Lib.hid ho
  have hn := ho.n1
  clear ho
  go_enter Try.func55, Try.ntmps55
  go_wp2
  go_loopw [3, 4] (fun a i wr => ∃ j : Nat, j ≤ l.length ∧ i = .int .i64 j ∧ a = .int .i64 (sumC (l.take j)) ∧ Below (w.heap.size + 1) (w.alloc (.cells #[.int .i64 base, .slice A l.length cap] 24)) wr) (fun _ i _ => l.length - (intOf i).toNat)
  case atStart => exact ⟨0, Nat.zero_le _, rfl, by simp [sumC], Below.refl _ _⟩
  case round =>
    obtain ⟨j, hj, rfl, rfl, hbw⟩ := hrel
    have hbr : Below w.heap.size w wr := (by repeat (first | assumption | exact Below.refl _ _ | refine Below.drew ?_ | (refine below_alloc _ ?_ ?_; focus (first | omega | (simp; done) | (simp; omega) | (simp at *; omega))) | (refine below_set _ ?_ ?_; focus (first | omega | (simp; done) | (simp; omega) | (simp at *; omega))) | refine below_drewN ?_ _ | (refine below_call (by assumption) ?_ ?_; focus (first | omega | (simp; done) | (simp; omega) | (simp at *; omega))) | (refine below_call' (by assumption) ?_ ?_; focus (first | omega | (simp; done) | (simp; omega) | (simp at *; omega)))))
    have hAr := hA.below hbr
    have hzr := hbw.size
    simp at hzr
    have hzr1 : w.heap.size < wr.heap.size := by omega
    have s0 : wr.cell? ⟨w.heap.size, 0, none⟩ = some (.int .i64 base) := cell_below hbw (by repeat (first | assumption | (refine cell_new ?_ rfl; focus (simp; done)) | refine cell_drew ?_ | refine cell_alloc _ ?_ | refine cell_drewN _ ?_ | (refine cell_far ?_ ?_; focus (first | omega | (simp; omega) | (simp; done))) | refine cell_below' (by assumption) ?_)) (by simp)
    have s1 : wr.cell? ⟨w.heap.size, 1, none⟩ = some (.slice A l.length cap) := cell_below hbw (by repeat (first | assumption | (refine cell_new ?_ rfl; focus (simp; done)) | refine cell_drew ?_ | refine cell_alloc _ ?_ | refine cell_drewN _ ?_ | (refine cell_far ?_ ?_; focus (first | omega | (simp; omega) | (simp; done))) | refine cell_below' (by assumption) ?_)) (by simp)
    by_cases hlt : j < l.length
    · obtain ⟨bb, off, rfl, hb, c2, c3⟩ := SlabsAt.at_ hAr hlt
      have hs := HO.out.sl l[j] (List.getElem_mem hlt)
      have b1 := HO.out.sumC j
      have b2 := HO.out.sumC (j + 1)
      have e1 : sumC (l.take (j + 1)) = sumC (l.take j) + l[j].sq * l[j].th := by rw [take_snoc l j hlt, sumC_append]; simp [sumC]
      have m1 := mul_bd l[j].sq l[j].th 9000000 500 hs.1 hs.2.1 hs.2.2.1 hs.2.2.2
      rw [e1] at b2
      have E1 := Lib.hid e1
      clear e1
      generalize l[j] = x at *
      generalize sumC (l.take j) = s at *
      obtain ⟨m11, m12⟩ := m1
      obtain ⟨b11, b12⟩ := b1
      obtain ⟨b21, b22⟩ := b2
      go_wp2
      go_quiet (fail)
      go_wp2
      go_roundw
      case rel => exact ⟨j + 1, by omega, by go_num, by rw [E1.out], (by repeat (first | assumption | exact Below.refl _ _ | refine Below.drew ?_ | (refine below_alloc _ ?_ ?_; focus (first | omega | (simp; done) | (simp; omega) | (simp at *; omega))) | (refine below_set _ ?_ ?_; focus (first | omega | (simp; done) | (simp; omega) | (simp at *; omega))) | refine below_drewN ?_ _ | (refine below_call (by assumption) ?_ ?_; focus (first | omega | (simp; done) | (simp; omega) | (simp at *; omega))) | (refine below_call' (by assumption) ?_ ?_; focus (first | omega | (simp; done) | (simp; omega) | (simp at *; omega)))))⟩
      case measure => simp [intOf]; omega
    · obtain rfl : j = l.length := by omega
      rw [List.take_length]
      go_wp2
      go_ret
      exact ⟨rfl, (by repeat (first | assumption | exact Below.refl _ _ | refine Below.drew ?_ | (refine below_alloc _ ?_ ?_; focus (first | omega | (simp; done) | (simp; omega) | (simp at *; omega))) | (refine below_set _ ?_ ?_; focus (first | omega | (simp; done) | (simp; omega) | (simp at *; omega))) | refine below_drewN ?_ _ | (refine below_call (by assumption) ?_ ?_; focus (first | omega | (simp; done) | (simp; omega) | (simp at *; omega))) | (refine below_call' (by assumption) ?_ ?_; focus (first | omega | (simp; done) | (simp; omega) | (simp at *; omega)))))⟩

set_option maxHeartbeats 1000000 in
theorem RPlasmaAt_any (base : Int) (A : Option Addr) (l : List Slb) (cap : Nat) (h : Int) (w : World) (ho : Ok base l) (hA : SlabsAt w A l) :
    Calls Try.prog 53 #[.agg #[.int .i64 base, .slice A l.length cap], .int .i64 h] w fun e w' => e = .returned (.int .i64 (plas base l h)) ∧ Below w.heap.size w w' := by
  have HO := Lib.hid ho
  have hn := ho.n1
  have hb0 := ho.b0
  have hb1 := ho.b1
  clear ho
  go_enter Try.func53, Try.ntmps53
  go_wp2
  go_loopw [5, 6] (fun a i wr => ∃ j : Nat, j ≤ l.length ∧ i = .int .i64 j ∧ a = .int .i64 (base + sumTh (l.take j)) ∧ plas base l h = plGo h (base + sumTh (l.take j)) (l.drop j) ∧ Below (w.heap.size + 1) (w.alloc (.cells #[.int .i64 base, .slice A l.length cap] 24)) wr) (fun _ i _ => l.length - (intOf i).toNat)
  case atStart => exact ⟨0, Nat.zero_le _, rfl, by simp [sumTh], by simp [sumTh, plas], Below.refl _ _⟩
  case round =>
    obtain ⟨j, hj, rfl, rfl, he, hbw⟩ := hrel
    have H := Lib.hid he
    clear he
    have hbr : Below w.heap.size w wr := (by repeat (first | assumption | exact Below.refl _ _ | refine Below.drew ?_ | (refine below_alloc _ ?_ ?_; focus (first | omega | (simp; done) | (simp; omega) | (simp at *; omega))) | (refine below_set _ ?_ ?_; focus (first | omega | (simp; done) | (simp; omega) | (simp at *; omega))) | refine below_drewN ?_ _ | (refine below_call (by assumption) ?_ ?_; focus (first | omega | (simp; done) | (simp; omega) | (simp at *; omega))) | (refine below_call' (by assumption) ?_ ?_; focus (first | omega | (simp; done) | (simp; omega) | (simp at *; omega)))))
    have hAr := hA.below hbr
    have hzr := hbw.size
    simp at hzr
    have hzr1 : w.heap.size < wr.heap.size := by omega
    have s0 : wr.cell? ⟨w.heap.size, 0, none⟩ = some (.int .i64 base) := cell_below hbw (by repeat (first | assumption | (refine cell_new ?_ rfl; focus (simp; done)) | refine cell_drew ?_ | refine cell_alloc _ ?_ | refine cell_drewN _ ?_ | (refine cell_far ?_ ?_; focus (first | omega | (simp; omega) | (simp; done))) | refine cell_below' (by assumption) ?_)) (by simp)
    have s1 : wr.cell? ⟨w.heap.size, 1, none⟩ = some (.slice A l.length cap) := cell_below hbw (by repeat (first | assumption | (refine cell_new ?_ rfl; focus (simp; done)) | refine cell_drew ?_ | refine cell_alloc _ ?_ | refine cell_drewN _ ?_ | (refine cell_far ?_ ?_; focus (first | omega | (simp; omega) | (simp; done))) | refine cell_below' (by assumption) ?_)) (by simp)
    by_cases hlt : j < l.length
    · obtain ⟨bb, off, rfl, hb, c2, c3⟩ := SlabsAt.at_ hAr hlt
      have hs := HO.out.sl l[j] (List.getElem_mem hlt)
      have b1 := HO.out.th j
      have hd : l.drop j = l[j] :: l.drop (j + 1) := List.drop_eq_getElem_cons hlt
      have e1 : sumTh (l.take (j + 1)) = sumTh (l.take j) + l[j].th := by rw [take_snoc l j hlt, sumTh_append]; simp [sumTh]
      rw [hd, plGo] at H
      have E1 := Lib.hid e1
      clear e1 hd
      generalize l[j] = x at *
      generalize hsj : sumTh (l.take j) = s at *
      clear hsj
      obtain ⟨b11, b12⟩ := b1
      obtain ⟨x1, x2, x3, x4⟩ := hs
      cases hwb : withinB h (base + s) (base + s + x.th - 1)
      · have hq : ∀ W, Calls Try.prog 23 #[.int .i64 h, .int .i64 (base + s), .int .i64 (base + s + x.th - 1)] W fun e w' => e = .returned (.bool false) ∧ W = w' := fun W => hwb ▸ Within_any _ _ _ W
        have HQ := Lib.hid hq
        rw [hwb] at H
        clear hq hwb
        go_wp2_with (go_at_call 23; refine (HQ.out _).mono ?_; rintro e w' ⟨rfl, rfl⟩)
        go_roundw
        case rel => exact ⟨j + 1, by omega, by go_num, by rw [E1.out, Int.add_assoc], by rw [H.out, E1.out, Int.add_assoc]; rfl, (by repeat (first | assumption | exact Below.refl _ _ | refine Below.drew ?_ | (refine below_alloc _ ?_ ?_; focus (first | omega | (simp; done) | (simp; omega) | (simp at *; omega))) | (refine below_set _ ?_ ?_; focus (first | omega | (simp; done) | (simp; omega) | (simp at *; omega))) | refine below_drewN ?_ _ | (refine below_call (by assumption) ?_ ?_; focus (first | omega | (simp; done) | (simp; omega) | (simp at *; omega))) | (refine below_call' (by assumption) ?_ ?_; focus (first | omega | (simp; done) | (simp; omega) | (simp at *; omega)))))⟩
        case measure => simp [intOf]; omega
      · have hq : ∀ W, Calls Try.prog 23 #[.int .i64 h, .int .i64 (base + s), .int .i64 (base + s + x.th - 1)] W fun e w' => e = .returned (.bool true) ∧ W = w' := fun W => hwb ▸ Within_any _ _ _ W
        have HQ := Lib.hid hq
        rw [hwb] at H
        clear hq hwb
        go_wp2_with (go_at_call 23; refine (HQ.out _).mono ?_; rintro e w' ⟨rfl, rfl⟩)
        go_ret
        exact ⟨ret_eq (by rw [H.out]; rfl), (by repeat (first | assumption | exact Below.refl _ _ | refine Below.drew ?_ | (refine below_alloc _ ?_ ?_; focus (first | omega | (simp; done) | (simp; omega) | (simp at *; omega))) | (refine below_set _ ?_ ?_; focus (first | omega | (simp; done) | (simp; omega) | (simp at *; omega))) | refine below_drewN ?_ _ | (refine below_call (by assumption) ?_ ?_; focus (first | omega | (simp; done) | (simp; omega) | (simp at *; omega))) | (refine below_call' (by assumption) ?_ ?_; focus (first | omega | (simp; done) | (simp; omega) | (simp at *; omega)))))⟩
    · obtain rfl : j = l.length := by omega
      rw [List.drop_length] at H
      go_wp2
      go_ret
      exact ⟨ret_eq (by rw [H.out]; rfl), (by repeat (first | assumption | exact Below.refl _ _ | refine Below.drew ?_ | (refine below_alloc _ ?_ ?_; focus (first | omega | (simp; done) | (simp; omega) | (simp at *; omega))) | (refine below_set _ ?_ ?_; focus (first | omega | (simp; done) | (simp; omega) | (simp at *; omega))) | refine below_drewN ?_ _ | (refine below_call (by assumption) ?_ ?_; focus (first | omega | (simp; done) | (simp; omega) | (simp at *; omega))) | (refine below_call' (by assumption) ?_ ?_; focus (first | omega | (simp; done) | (simp; omega) | (simp at *; omega)))))⟩
end Go.Proofs.Ytoegpaolbkcleaa
