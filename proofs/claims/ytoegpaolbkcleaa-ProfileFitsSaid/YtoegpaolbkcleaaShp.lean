/-
  Whether a profile rises; two profiles, two rows of integers that are the same.
-/
import Derived.Test.YtoegpaolbkcleaaSlb
import Derived.Test.YtoegpaolbkcleaaTrs
namespace Go.Proofs.Ytoegpaolbkcleaa
open Go.ChangeShapes Go.WideShapes Go.ChangeAt Go.RowKit
set_option linter.unusedVariables false
set_option linter.unusedSimpArgs false

def ris : List Slb → Bool
  | x :: y :: r => decide (x.sq < y.sq) && ris (y :: r)
  | _ => true
theorem ris_step {l : List Slb} {k : Nat} (h : k + 1 < l.length) : ris (l.drop k) = (decide (l[k].sq < l[k + 1].sq) && ris (l.drop (k + 1))) := by
  rw [List.drop_eq_getElem_cons (show k < l.length by omega), List.drop_eq_getElem_cons h, ris]
theorem ris_last {l : List Slb} {k : Nat} (h : l.length ≤ k + 1) : ris (l.drop k) = true := by
  have : (l.drop k).length ≤ 1 := by simp; omega
  match hd : l.drop k, this with
  | [], _ => rfl
  | [x], _ => rfl
def risV (base : Int) (l : List Slb) : Bool := if chkE base l = 0 then ris l else false
theorem tail_slabs (b off n cap : Nat) (hn : 0 < n) (hc : n ≤ cap) : ∃ B, (∀ W, (Instr.sliceAt 22 (.slice (some ⟨b, off, none⟩) n cap) (some (.int .i64 1)) none none).run Try.prog W = .ok (.slice B (n - 1) (cap - 1)) W) := by
  by_cases h : cap = 1
  · refine ⟨some ⟨b, off, none⟩, fun W => ?_⟩
    subst h
    have h1 : n = 1 := by omega
    subst h1
    go_simp
  · refine ⟨some ⟨b, off + 2, none⟩, fun W => ?_⟩
    have h1 : 1 < cap := by omega
    go_simp
    intro hx
    omega
set_option maxHeartbeats 1000000 in
theorem IsRising_any (base : Int) (A : Option Addr) (l : List Slb) (cap : Nat) (w : World) (hl : l.length ≤ 100) (hcap : l.length ≤ cap) (hA : SlabsAt w A l) :
    Calls Try.prog 60 #[.agg #[.int .i64 base, .slice A l.length cap]] w fun e w' => e = .returned (.tuple #[.bool (risV base l), .int .i64 (chkE base l)]) ∧ Below w.heap.size w w' := by
  have h1 : risV base l = if chkE base l = 0 then ris l else false := rfl
  have H1 := Lib.hid h1
  clear h1
  go_enter Try.func60, Try.ntmps60
  go_wp2_with (fail)
  refine (open_any base A l cap _ hl (hA.below (by repeat (first | assumption | exact Below.refl _ _ | refine Below.drew ?_ | (refine below_alloc _ ?_ ?_; focus (first | omega | (simp; done) | (simp; omega) | (simp at *; omega))) | (refine below_set _ ?_ ?_; focus (first | omega | (simp; done) | (simp; omega) | (simp at *; omega))) | refine below_drewN ?_ _ | (refine below_call (by assumption) ?_ ?_; focus (first | omega | (simp; done) | (simp; omega) | (simp at *; omega))) | (refine below_call' (by assumption) ?_ ?_; focus (first | omega | (simp; done) | (simp; omega) | (simp at *; omega))))))).mono ?_
  rintro e w1 ⟨rfl, hb1⟩
  have hbw1 : Below w.heap.size w w1 := (by repeat (first | assumption | exact Below.refl _ _ | refine Below.drew ?_ | (refine below_alloc _ ?_ ?_; focus (first | omega | (simp; done) | (simp; omega) | (simp at *; omega))) | (refine below_set _ ?_ ?_; focus (first | omega | (simp; done) | (simp; omega) | (simp at *; omega))) | refine below_drewN ?_ _ | (refine below_call (by assumption) ?_ ?_; focus (first | omega | (simp; done) | (simp; omega) | (simp at *; omega))) | (refine below_call' (by assumption) ?_ ?_; focus (first | omega | (simp; done) | (simp; omega) | (simp at *; omega)))))
  have hA1 := hA.below hbw1
  have hz1 : w.heap.size < w1.heap.size := by have := hb1.size; simp at this; omega
  by_cases h0 : chkE base l = 0
  · have h1 := H1.out
    rw [if_pos h0] at h1
    have H2 := Lib.hid h1
    have HO := Lib.hid (ok_of_chk h0)
    have H0 := Lib.hid h0
    rw [h0]
    clear h0 h1 H1
    have hn0 := HO.out.n0
    have hn := HO.out.n1
    obtain ⟨bb, off, rfl, hb, _, _⟩ := SlabsAt.at_ hA1 hn0
    obtain ⟨B, hB⟩ := tail_slabs bb off l.length cap hn0 hcap
    go_wp2
    go_loopw [20] (fun i wr => ∃ k : Nat, k + 1 ≤ l.length ∧ i = .int .i64 k ∧ ris l = ris (l.drop k) ∧ Below (w1.heap.size + 1) (w1.alloc (.cells #[.int .i64 base, .slice (some ⟨bb, off, none⟩) l.length cap] 113)) wr) (fun i _ => l.length - (intOf i).toNat)
    case atStart => exact ⟨0, by omega, rfl, rfl, Below.refl _ _⟩
    case round =>
      obtain ⟨k, hk, rfl, hr, hbw⟩ := hrel
      have HR := Lib.hid hr
      clear hr
      have hbr : Below w.heap.size w wr := (by repeat (first | assumption | exact Below.refl _ _ | refine Below.drew ?_ | (refine below_alloc _ ?_ ?_; focus (first | omega | (simp; done) | (simp; omega) | (simp at *; omega))) | (refine below_set _ ?_ ?_; focus (first | omega | (simp; done) | (simp; omega) | (simp at *; omega))) | refine below_drewN ?_ _ | (refine below_call (by assumption) ?_ ?_; focus (first | omega | (simp; done) | (simp; omega) | (simp at *; omega))) | (refine below_call' (by assumption) ?_ ?_; focus (first | omega | (simp; done) | (simp; omega) | (simp at *; omega)))))
      have hAr : SlabsAt wr (some ⟨bb, off, none⟩) l := RowsAt.below hA hbr
      have hzr := hbw.size
      simp at hzr
      have hzr1 : w1.heap.size < wr.heap.size := by omega
      have s0 : wr.cell? ⟨w1.heap.size, 0, none⟩ = some (.int .i64 base) := cell_below hbw (by repeat (first | assumption | (refine cell_new ?_ rfl; focus (simp; done)) | refine cell_drew ?_ | refine cell_alloc _ ?_ | refine cell_drewN _ ?_ | (refine cell_far ?_ ?_; focus (first | omega | (simp; omega) | (simp; done))) | refine cell_below' (by assumption) ?_)) (by simp)
      have s1 : wr.cell? ⟨w1.heap.size, 1, none⟩ = some (.slice (some ⟨bb, off, none⟩) l.length cap) := cell_below hbw (by repeat (first | assumption | (refine cell_new ?_ rfl; focus (simp; done)) | refine cell_drew ?_ | refine cell_alloc _ ?_ | refine cell_drewN _ ?_ | (refine cell_far ?_ ?_; focus (first | omega | (simp; omega) | (simp; done))) | refine cell_below' (by assumption) ?_)) (by simp)
      by_cases hlt : k + 1 < l.length
      · have c1 := slab_sq hAr hlt
        have c0 := slab_sq hAr (show k < l.length by omega)
        rw [sqAt_eq hlt] at c1
        rw [sqAt_eq (show k < l.length by omega)] at c0
        have hst := ris_step hlt
        have hbb2 : bb < wr.heap.size := World.block_lt_of_cell? _ _ c0
        have hkn : ((k : Int) + 1).toNat = k + 1 := by omega
        have hlt' : k < l.length - 1 := by omega
        by_cases hq : l[k].sq < l[k + 1].sq
        · have hd : decide (l[k + 1].sq ≤ l[k].sq) = false := by simp; omega
          rw [decide_eq_true hq, Bool.true_and] at hst
          rw [hst] at HR
          clear hst
          generalize l[k + 1].sq = y at *
          generalize l[k].sq = x at *
          go_wp2
          go_quiet (fail)
          go_wp2
          go_roundw
          case rel => exact ⟨k + 1, by omega, by go_num, HR.out, (by repeat (first | assumption | exact Below.refl _ _ | refine Below.drew ?_ | (refine below_alloc _ ?_ ?_; focus (first | omega | (simp; done) | (simp; omega) | (simp at *; omega))) | (refine below_set _ ?_ ?_; focus (first | omega | (simp; done) | (simp; omega) | (simp at *; omega))) | refine below_drewN ?_ _ | (refine below_call (by assumption) ?_ ?_; focus (first | omega | (simp; done) | (simp; omega) | (simp at *; omega))) | (refine below_call' (by assumption) ?_ ?_; focus (first | omega | (simp; done) | (simp; omega) | (simp at *; omega)))))⟩
          case measure => simp [intOf]; omega
        · have hd : l[k + 1].sq ≤ l[k].sq := by omega
          rw [decide_eq_false hq, Bool.false_and] at hst
          rw [hst] at HR
          clear hst hq
          generalize l[k + 1].sq = y at *
          generalize l[k].sq = x at *
          go_wp2
          go_quiet (fail)
          go_wp2
          go_ret2
          exact ⟨ret_eq (by rw [H2.out, HR.out, H0.out]; rfl), (by repeat (first | assumption | exact Below.refl _ _ | refine Below.drew ?_ | (refine below_alloc _ ?_ ?_; focus (first | omega | (simp; done) | (simp; omega) | (simp at *; omega))) | (refine below_set _ ?_ ?_; focus (first | omega | (simp; done) | (simp; omega) | (simp at *; omega))) | refine below_drewN ?_ _ | (refine below_call (by assumption) ?_ ?_; focus (first | omega | (simp; done) | (simp; omega) | (simp at *; omega))) | (refine below_call' (by assumption) ?_ ?_; focus (first | omega | (simp; done) | (simp; omega) | (simp at *; omega)))))⟩
      · have hst : ris (l.drop k) = true := ris_last (by omega)
        rw [hst] at HR
        have hlt' : ¬ k < l.length - 1 := by omega
        clear hst
        go_wp2
        go_ret2
        exact ⟨ret_eq (by rw [H2.out, HR.out, H0.out]; rfl), (by repeat (first | assumption | exact Below.refl _ _ | refine Below.drew ?_ | (refine below_alloc _ ?_ ?_; focus (first | omega | (simp; done) | (simp; omega) | (simp at *; omega))) | (refine below_set _ ?_ ?_; focus (first | omega | (simp; done) | (simp; omega) | (simp at *; omega))) | refine below_drewN ?_ _ | (refine below_call (by assumption) ?_ ?_; focus (first | omega | (simp; done) | (simp; omega) | (simp at *; omega))) | (refine below_call' (by assumption) ?_ ?_; focus (first | omega | (simp; done) | (simp; omega) | (simp at *; omega)))))⟩
  · have h1 := H1.out
    rw [if_neg h0] at h1
    have H2 := Lib.hid h1
    have h0' : (chkE base l == 0) = false := by simpa using h0
    have h0'' : (chkE base l != 0) = true := by simpa using h0
    clear h0 h1 H1
    go_wp2
    go_ret2
    exact ⟨ret_eq (by rw [H2.out]; rfl), (by repeat (first | assumption | exact Below.refl _ _ | refine Below.drew ?_ | (refine below_alloc _ ?_ ?_; focus (first | omega | (simp; done) | (simp; omega) | (simp at *; omega))) | (refine below_set _ ?_ ?_; focus (first | omega | (simp; done) | (simp; omega) | (simp at *; omega))) | refine below_drewN ?_ _ | (refine below_call (by assumption) ?_ ?_; focus (first | omega | (simp; done) | (simp; omega) | (simp at *; omega))) | (refine below_call' (by assumption) ?_ ?_; focus (first | omega | (simp; done) | (simp; omega) | (simp at *; omega)))))⟩

set_option maxHeartbeats 1000000 in
theorem RIsRising_any (base : Int) (A : Option Addr) (l : List Slb) (cap : Nat) (w : World) (hn0 : 0 < l.length) (hl : l.length ≤ 100) (hA : SlabsAt w A l) :
    Calls Try.prog 64 #[.agg #[.int .i64 base, .slice A l.length cap]] w fun e w' => e = .returned (.bool (ris l)) ∧ Below w.heap.size w w' := by
  obtain ⟨bb, off, rfl, hb, _, _⟩ := SlabsAt.at_ hA hn0
  go_enter Try.func64, Try.ntmps64
  go_wp2
  go_loopw [3] (fun i wr => ∃ k : Nat, k + 1 ≤ l.length ∧ i = .int .i64 ((k + 1 : Nat) : Int) ∧ ris l = ris (l.drop k) ∧ Below (w.heap.size + 1) (w.alloc (.cells #[.int .i64 base, .slice (some ⟨bb, off, none⟩) l.length cap] 24)) wr) (fun i _ => l.length + 1 - (intOf i).toNat)
  case atStart => exact ⟨0, by omega, rfl, rfl, Below.refl _ _⟩
  case round =>
    obtain ⟨k, hk, rfl, hr, hbw⟩ := hrel
    have HR := Lib.hid hr
    clear hr
    have hbr : Below w.heap.size w wr := (by repeat (first | assumption | exact Below.refl _ _ | refine Below.drew ?_ | (refine below_alloc _ ?_ ?_; focus (first | omega | (simp; done) | (simp; omega) | (simp at *; omega))) | (refine below_set _ ?_ ?_; focus (first | omega | (simp; done) | (simp; omega) | (simp at *; omega))) | refine below_drewN ?_ _ | (refine below_call (by assumption) ?_ ?_; focus (first | omega | (simp; done) | (simp; omega) | (simp at *; omega))) | (refine below_call' (by assumption) ?_ ?_; focus (first | omega | (simp; done) | (simp; omega) | (simp at *; omega)))))
    have hAr : SlabsAt wr (some ⟨bb, off, none⟩) l := RowsAt.below hA hbr
    have hzr := hbw.size
    simp at hzr
    have hzr1 : w.heap.size < wr.heap.size := by omega
    have s0 : wr.cell? ⟨w.heap.size, 0, none⟩ = some (.int .i64 base) := cell_below hbw (by repeat (first | assumption | (refine cell_new ?_ rfl; focus (simp; done)) | refine cell_drew ?_ | refine cell_alloc _ ?_ | refine cell_drewN _ ?_ | (refine cell_far ?_ ?_; focus (first | omega | (simp; omega) | (simp; done))) | refine cell_below' (by assumption) ?_)) (by simp)
    have s1 : wr.cell? ⟨w.heap.size, 1, none⟩ = some (.slice (some ⟨bb, off, none⟩) l.length cap) := cell_below hbw (by repeat (first | assumption | (refine cell_new ?_ rfl; focus (simp; done)) | refine cell_drew ?_ | refine cell_alloc _ ?_ | refine cell_drewN _ ?_ | (refine cell_far ?_ ?_; focus (first | omega | (simp; omega) | (simp; done))) | refine cell_below' (by assumption) ?_)) (by simp)
    by_cases hlt : k + 1 < l.length
    · have c1 := slab_sq hAr hlt
      have c0 := slab_sq hAr (show k < l.length by omega)
      rw [sqAt_eq hlt] at c1
      rw [sqAt_eq (show k < l.length by omega)] at c0
      have hst := ris_step hlt
      have hbb2 : bb < wr.heap.size := World.block_lt_of_cell? _ _ c0
      have hkn : ((k : Int) + 1).toNat = k + 1 := by omega
      have hk0 : k < l.length := by omega
      by_cases hq : l[k].sq < l[k + 1].sq
      · have hd : decide (l[k + 1].sq ≤ l[k].sq) = false := by simp; omega
        rw [decide_eq_true hq, Bool.true_and] at hst
        rw [hst] at HR
        clear hst
        generalize l[k + 1].sq = y at *
        generalize l[k].sq = x at *
        go_wp2
        go_quiet (fail)
        go_wp2
        go_roundw
        case rel => exact ⟨k + 1, by omega, by go_num, HR.out, (by repeat (first | assumption | exact Below.refl _ _ | refine Below.drew ?_ | (refine below_alloc _ ?_ ?_; focus (first | omega | (simp; done) | (simp; omega) | (simp at *; omega))) | (refine below_set _ ?_ ?_; focus (first | omega | (simp; done) | (simp; omega) | (simp at *; omega))) | refine below_drewN ?_ _ | (refine below_call (by assumption) ?_ ?_; focus (first | omega | (simp; done) | (simp; omega) | (simp at *; omega))) | (refine below_call' (by assumption) ?_ ?_; focus (first | omega | (simp; done) | (simp; omega) | (simp at *; omega)))))⟩
        case measure => simp [intOf]; omega
      · have hd : l[k + 1].sq ≤ l[k].sq := by omega
        rw [decide_eq_false hq, Bool.false_and] at hst
        rw [hst] at HR
        clear hst hq
        generalize l[k + 1].sq = y at *
        generalize l[k].sq = x at *
        go_wp2
        go_quiet (fail)
        go_wp2
        go_ret
        exact ⟨ret_eq (by rw [HR.out]; rfl), (by repeat (first | assumption | exact Below.refl _ _ | refine Below.drew ?_ | (refine below_alloc _ ?_ ?_; focus (first | omega | (simp; done) | (simp; omega) | (simp at *; omega))) | (refine below_set _ ?_ ?_; focus (first | omega | (simp; done) | (simp; omega) | (simp at *; omega))) | refine below_drewN ?_ _ | (refine below_call (by assumption) ?_ ?_; focus (first | omega | (simp; done) | (simp; omega) | (simp at *; omega))) | (refine below_call' (by assumption) ?_ ?_; focus (first | omega | (simp; done) | (simp; omega) | (simp at *; omega)))))⟩
    · have hst : ris (l.drop k) = true := ris_last (by omega)
      rw [hst] at HR
      clear hst
      go_wp2
      go_ret
      exact ⟨ret_eq (by rw [HR.out]; rfl), (by repeat (first | assumption | exact Below.refl _ _ | refine Below.drew ?_ | (refine below_alloc _ ?_ ?_; focus (first | omega | (simp; done) | (simp; omega) | (simp at *; omega))) | (refine below_set _ ?_ ?_; focus (first | omega | (simp; done) | (simp; omega) | (simp at *; omega))) | refine below_drewN ?_ _ | (refine below_call (by assumption) ?_ ?_; focus (first | omega | (simp; done) | (simp; omega) | (simp at *; omega))) | (refine below_call' (by assumption) ?_ ?_; focus (first | omega | (simp; done) | (simp; omega) | (simp at *; omega)))))⟩

set_option maxHeartbeats 1000000 in
theorem Same_refl (A B : Option Addr) (l : List Slb) (ca cb : Nat) (x : Int) (w : World) (hl : l.length ≤ 100) (hA : SlabsAt w A l) (hB : SlabsAt w B l) :
    Calls Try.prog 45 #[.agg #[.int .i64 x, .slice A l.length ca], .agg #[.int .i64 x, .slice B l.length cb]] w fun e w' => e = .returned (.bool true) ∧ Below w.heap.size w w' := by
  go_enter Try.func45, Try.ntmps45
  go_wp2
  go_loopw [5] (fun i wr => ∃ k : Nat, k ≤ l.length ∧ i = .int .i64 k ∧ Below (w.heap.size + 2) ((w.alloc (.cells #[.int .i64 x, .slice A l.length ca] 24)).alloc (.cells #[.int .i64 x, .slice B l.length cb] 24)) wr) (fun i _ => l.length - (intOf i).toNat)
  case atStart => exact ⟨0, Nat.zero_le _, rfl, Below.refl _ _⟩
  case round =>
    obtain ⟨k, hk, rfl, hbw⟩ := hrel
    have hbr : Below w.heap.size w wr := (by repeat (first | assumption | exact Below.refl _ _ | refine Below.drew ?_ | (refine below_alloc _ ?_ ?_; focus (first | omega | (simp; done) | (simp; omega) | (simp at *; omega))) | (refine below_set _ ?_ ?_; focus (first | omega | (simp; done) | (simp; omega) | (simp at *; omega))) | refine below_drewN ?_ _ | (refine below_call (by assumption) ?_ ?_; focus (first | omega | (simp; done) | (simp; omega) | (simp at *; omega))) | (refine below_call' (by assumption) ?_ ?_; focus (first | omega | (simp; done) | (simp; omega) | (simp at *; omega)))))
    have hzr := hbw.size
    simp at hzr
    have hz1 : w.heap.size < wr.heap.size := by omega
    have hz2 : w.heap.size + 1 < wr.heap.size := by omega
    have a1 : wr.cell? ⟨w.heap.size, 1, none⟩ = some (.slice A l.length ca) := cell_below hbw (by repeat (first | assumption | (refine cell_new ?_ rfl; focus (simp; done)) | refine cell_drew ?_ | refine cell_alloc _ ?_ | refine cell_drewN _ ?_ | (refine cell_far ?_ ?_; focus (first | omega | (simp; omega) | (simp; done))) | refine cell_below' (by assumption) ?_)) (by simp)
    have b1 : wr.cell? ⟨w.heap.size + 1, 1, none⟩ = some (.slice B l.length cb) := cell_below hbw (by repeat (first | assumption | (refine cell_new ?_ rfl; focus (simp; done)) | refine cell_drew ?_ | refine cell_alloc _ ?_ | refine cell_drewN _ ?_ | (refine cell_far ?_ ?_; focus (first | omega | (simp; omega) | (simp; done))) | refine cell_below' (by assumption) ?_)) (by simp)
    have hAr := hA.below hbr
    have hBr := hB.below hbr
    by_cases hlt : k < l.length
    · obtain ⟨b1', o1, rfl, hb1, c0, c1⟩ := SlabsAt.at_ hAr hlt
      obtain ⟨b2', o2, rfl, hb2, d0, d1⟩ := SlabsAt.at_ hBr hlt
      generalize l[k] = p at *
      go_wp2
      go_quiet (fail)
      go_wp2
      go_roundw
      case rel => exact ⟨k + 1, by omega, by go_num, (by repeat (first | assumption | exact Below.refl _ _ | refine Below.drew ?_ | (refine below_alloc _ ?_ ?_; focus (first | omega | (simp; done) | (simp; omega) | (simp at *; omega))) | (refine below_set _ ?_ ?_; focus (first | omega | (simp; done) | (simp; omega) | (simp at *; omega))) | refine below_drewN ?_ _ | (refine below_call (by assumption) ?_ ?_; focus (first | omega | (simp; done) | (simp; omega) | (simp at *; omega))) | (refine below_call' (by assumption) ?_ ?_; focus (first | omega | (simp; done) | (simp; omega) | (simp at *; omega)))))⟩
      case measure => simp [intOf]; omega
    · go_wp2
      go_ret
      exact ⟨rfl, (by repeat (first | assumption | exact Below.refl _ _ | refine Below.drew ?_ | (refine below_alloc _ ?_ ?_; focus (first | omega | (simp; done) | (simp; omega) | (simp at *; omega))) | (refine below_set _ ?_ ?_; focus (first | omega | (simp; done) | (simp; omega) | (simp at *; omega))) | refine below_drewN ?_ _ | (refine below_call (by assumption) ?_ ?_; focus (first | omega | (simp; done) | (simp; omega) | (simp at *; omega))) | (refine below_call' (by assumption) ?_ ?_; focus (first | omega | (simp; done) | (simp; omega) | (simp at *; omega)))))⟩

set_option maxHeartbeats 1000000 in
theorem Ints_refl (A B : Option Addr) (l : List Int) (ca cb : Nat) (w : World) (hl : l.length ≤ 100) (hA : IntsAt w A l) (hB : IntsAt w B l) :
    Calls Try.prog 61 #[.slice A l.length ca, .slice B l.length cb] w fun e w' => e = .returned (.bool true) ∧ Below w.heap.size w w' := by
  go_enter Try.func61, Try.ntmps61
  go_wp2
  go_loopw [5] (fun i wr => ∃ k : Nat, k ≤ l.length ∧ i = .int .i64 k ∧ Below w.heap.size w wr) (fun i _ => l.length - (intOf i).toNat)
  case atStart => exact ⟨0, Nat.zero_le _, rfl, (by repeat (first | assumption | exact Below.refl _ _ | refine Below.drew ?_ | (refine below_alloc _ ?_ ?_; focus (first | omega | (simp; done) | (simp; omega) | (simp at *; omega))) | (refine below_set _ ?_ ?_; focus (first | omega | (simp; done) | (simp; omega) | (simp at *; omega))) | refine below_drewN ?_ _ | (refine below_call (by assumption) ?_ ?_; focus (first | omega | (simp; done) | (simp; omega) | (simp at *; omega))) | (refine below_call' (by assumption) ?_ ?_; focus (first | omega | (simp; done) | (simp; omega) | (simp at *; omega)))))⟩
  case round =>
    obtain ⟨k, hk, rfl, hbw⟩ := hrel
    have hAr := RowsAt.below hA hbw
    have hBr := RowsAt.below hB hbw
    by_cases hlt : k < l.length
    · obtain ⟨b1', o1, rfl, hb1, c0⟩ := IntsAt.at_ hAr hlt
      obtain ⟨b2', o2, rfl, hb2, d0⟩ := IntsAt.at_ hBr hlt
      generalize l[k] = p at *
      go_wp2
      go_quiet (fail)
      go_wp2
      go_roundw
      case rel => exact ⟨k + 1, by omega, by go_num, (by repeat (first | assumption | exact Below.refl _ _ | refine Below.drew ?_ | (refine below_alloc _ ?_ ?_; focus (first | omega | (simp; done) | (simp; omega) | (simp at *; omega))) | (refine below_set _ ?_ ?_; focus (first | omega | (simp; done) | (simp; omega) | (simp at *; omega))) | refine below_drewN ?_ _ | (refine below_call (by assumption) ?_ ?_; focus (first | omega | (simp; done) | (simp; omega) | (simp at *; omega))) | (refine below_call' (by assumption) ?_ ?_; focus (first | omega | (simp; done) | (simp; omega) | (simp at *; omega)))))⟩
      case measure => simp [intOf]; omega
    · go_wp2
      go_ret
      exact ⟨rfl, (by repeat (first | assumption | exact Below.refl _ _ | refine Below.drew ?_ | (refine below_alloc _ ?_ ?_; focus (first | omega | (simp; done) | (simp; omega) | (simp at *; omega))) | (refine below_set _ ?_ ?_; focus (first | omega | (simp; done) | (simp; omega) | (simp at *; omega))) | refine below_drewN ?_ _ | (refine below_call (by assumption) ?_ ?_; focus (first | omega | (simp; done) | (simp; omega) | (simp at *; omega))) | (refine below_call' (by assumption) ?_ ?_; focus (first | omega | (simp; done) | (simp; omega) | (simp at *; omega)))))⟩
end Go.Proofs.Ytoegpaolbkcleaa
