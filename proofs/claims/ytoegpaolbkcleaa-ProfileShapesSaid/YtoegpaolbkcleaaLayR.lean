/-
  The layers of a profile: the reference's.
-/
import Derived.Test.YtoegpaolbkcleaaLayP
import Derived.Test.YtoegpaolbkcleaaTrs
namespace Go.Proofs.Ytoegpaolbkcleaa
open Go.ChangeShapes Go.WideShapes Go.ChangeAt Go.RowKit
set_option linter.unusedVariables false
set_option linter.unusedSimpArgs false

theorem slab_th {w : World} {b off : Nat} {l : List Slb} (h : SlabsAt w (some ⟨b, off, none⟩) l) {k : Nat} (hk : k < l.length) : w.cell? ⟨b, off + k * 2 + 1, none⟩ = some (.int .i64 (thAt l k)) := by
  obtain ⟨b', o', e, _, hc⟩ := h k l[k] (List.getElem?_eq_getElem hk)
  injection e with e
  injection e with e1 e2
  subst e1 e2
  rw [thAt_eq hk]
  exact hc 1 (by omega)
theorem upS_drop {l : List Slb} {j : Nat} (h : j < l.length) : upS (l.drop j) = if 0 < thAt l j then sqAt l j else upS (l.drop (j + 1)) := by
  rw [List.drop_eq_getElem_cons h, upS, thAt_eq h, sqAt_eq h]
set_option maxRecDepth 100000 in
set_option maxHeartbeats 1000000 in
theorem beside_up (base : Int) (A : Option Addr) (l : List Slb) (cap i : Nat) (w : World) (hl : l.length ≤ 100) (hi : i < l.length) (hA : SlabsAt w A l) :
    Calls Try.prog 94 #[.agg #[.int .i64 base, .slice A l.length cap], .int .i64 i, .int .i64 1] w fun e w' => e = .returned (.int .i64 (upS (l.drop (i + 1)))) ∧ Below w.heap.size w w' := by
  obtain ⟨bb, off, rfl, hb, _, _⟩ := SlabsAt.at_ hA hi
  go_enter Try.func94, Try.ntmps94
  go_wp2
  go_loopw [7] (fun x wr => ∃ j : Nat, i + 1 ≤ j ∧ j ≤ l.length ∧ x = .int .i64 j ∧ upS (l.drop (i + 1)) = upS (l.drop j) ∧ Below (w.heap.size + 1) (w.alloc (.cells #[.int .i64 base, .slice (some ⟨bb, off, none⟩) l.length cap] 24)) wr) (fun x _ => l.length - (intOf x).toNat)
  case atStart => exact ⟨i + 1, Nat.le_refl _, hi, by go_num, rfl, Below.refl _ _⟩
  case round =>
    obtain ⟨j, hj1, hj2, rfl, hu, hbw⟩ := hrel
    have HU := Lib.hid hu
    clear hu
    have hbr : Below w.heap.size w wr := (by repeat (first | assumption | exact Below.refl _ _ | refine Below.drew ?_ | (refine below_alloc _ ?_ ?_; focus (first | omega | (simp; done) | (simp; omega) | (simp at *; omega))) | (refine below_set _ ?_ ?_; focus (first | omega | (simp; done) | (simp; omega) | (simp at *; omega))) | refine below_drewN ?_ _ | (refine below_call (by assumption) ?_ ?_; focus (first | omega | (simp; done) | (simp; omega) | (simp at *; omega))) | (refine below_call' (by assumption) ?_ ?_; focus (first | omega | (simp; done) | (simp; omega) | (simp at *; omega)))))
    have hAr : SlabsAt wr (some ⟨bb, off, none⟩) l := RowsAt.below hA hbr
    have hzr := hbw.size
    simp at hzr
    have hzr1 : w.heap.size < wr.heap.size := by omega
    have s1 : wr.cell? ⟨w.heap.size, 1, none⟩ = some (.slice (some ⟨bb, off, none⟩) l.length cap) := cell_below hbw (by repeat (first | assumption | (refine cell_new ?_ rfl; focus (simp; done)) | refine cell_drew ?_ | refine cell_alloc _ ?_ | refine cell_drewN _ ?_ | (refine cell_far ?_ ?_; focus (first | omega | (simp; omega) | (simp; done))) | refine cell_below' (by assumption) ?_)) (by simp)
    have hwb : ∀ W, Calls Try.prog 23 #[.int .i64 j, .int .i64 0, .int .i64 ((l.length : Int) - 1)] W fun e w' => e = .returned (.bool (decide (j < l.length))) ∧ W = w' := fun W => by
      have h := Within_any j 0 ((l.length : Int) - 1) W
      have e : withinB (j : Int) 0 ((l.length : Int) - 1) = decide (j < l.length) := by
        rw [Bool.eq_iff_iff, withinB_true, decide_eq_true_eq]
        omega
      rwa [e] at h
    by_cases hlt : j < l.length
    · rw [decide_eq_true hlt] at hwb
      have HWB := Lib.hid hwb
      clear hwb
      have c0 := slab_sq hAr hlt
      have c1 := slab_th hAr hlt
      have hbb2 : bb < wr.heap.size := World.block_lt_of_cell? _ _ c0
      have hst := upS_drop hlt
      rw [hst] at HU
      clear hst
      generalize thAt l j = t at *
      generalize sqAt l j = q at *
      by_cases ht : 0 < t
      · rw [if_pos ht] at HU
        go_wp2_with (go_at_call 23; refine (HWB.out _).mono ?_; rintro e w' ⟨rfl, rfl⟩)
        go_ret
        exact ⟨ret_eq (by rw [HU.out]; rfl), (by repeat (first | assumption | exact Below.refl _ _ | refine Below.drew ?_ | (refine below_alloc _ ?_ ?_; focus (first | omega | (simp; done) | (simp; omega) | (simp at *; omega))) | (refine below_set _ ?_ ?_; focus (first | omega | (simp; done) | (simp; omega) | (simp at *; omega))) | refine below_drewN ?_ _ | (refine below_call (by assumption) ?_ ?_; focus (first | omega | (simp; done) | (simp; omega) | (simp at *; omega))) | (refine below_call' (by assumption) ?_ ?_; focus (first | omega | (simp; done) | (simp; omega) | (simp at *; omega)))))⟩
      · rw [if_neg ht] at HU
        have ht' : t ≤ 0 := by omega
        go_wp2_with (go_at_call 23; refine (HWB.out _).mono ?_; rintro e w' ⟨rfl, rfl⟩)
        go_roundw
        case rel => exact ⟨j + 1, by omega, by omega, by go_num, HU.out, (by repeat (first | assumption | exact Below.refl _ _ | refine Below.drew ?_ | (refine below_alloc _ ?_ ?_; focus (first | omega | (simp; done) | (simp; omega) | (simp at *; omega))) | (refine below_set _ ?_ ?_; focus (first | omega | (simp; done) | (simp; omega) | (simp at *; omega))) | refine below_drewN ?_ _ | (refine below_call (by assumption) ?_ ?_; focus (first | omega | (simp; done) | (simp; omega) | (simp at *; omega))) | (refine below_call' (by assumption) ?_ ?_; focus (first | omega | (simp; done) | (simp; omega) | (simp at *; omega)))))⟩
        case measure => simp [intOf]; omega
    · rw [decide_eq_false hlt] at hwb
      have HWB := Lib.hid hwb
      clear hwb
      have he : l.drop j = [] := List.drop_eq_nil_of_le (by omega)
      rw [he] at HU
      clear he
      go_wp2_with (go_at_call 23; refine (HWB.out _).mono ?_; rintro e w' ⟨rfl, rfl⟩)
      go_ret
      exact ⟨ret_eq (by rw [HU.out]; rfl), (by repeat (first | assumption | exact Below.refl _ _ | refine Below.drew ?_ | (refine below_alloc _ ?_ ?_; focus (first | omega | (simp; done) | (simp; omega) | (simp at *; omega))) | (refine below_set _ ?_ ?_; focus (first | omega | (simp; done) | (simp; omega) | (simp at *; omega))) | refine below_drewN ?_ _ | (refine below_call (by assumption) ?_ ?_; focus (first | omega | (simp; done) | (simp; omega) | (simp at *; omega))) | (refine below_call' (by assumption) ?_ ?_; focus (first | omega | (simp; done) | (simp; omega) | (simp at *; omega)))))⟩

set_option maxRecDepth 100000 in
set_option maxHeartbeats 1000000 in
theorem beside_dn (base : Int) (A : Option Addr) (l : List Slb) (cap i : Nat) (w : World) (hl : l.length ≤ 100) (hi : i < l.length) (hA : SlabsAt w A l) :
    Calls Try.prog 94 #[.agg #[.int .i64 base, .slice A l.length cap], .int .i64 i, .int .i64 (-1)] w fun e w' => e = .returned (.int .i64 (dnS l i)) ∧ Below w.heap.size w w' := by
  obtain ⟨bb, off, rfl, hb, _, _⟩ := SlabsAt.at_ hA hi
  go_enter Try.func94, Try.ntmps94
  go_wp2
  go_loopw [7] (fun x wr => ∃ j : Nat, j ≤ i ∧ x = .int .i64 ((j : Int) - 1) ∧ dnS l i = dnS l j ∧ Below (w.heap.size + 1) (w.alloc (.cells #[.int .i64 base, .slice (some ⟨bb, off, none⟩) l.length cap] 24)) wr) (fun x _ => (intOf x + 1).toNat)
  case atStart => exact ⟨i, Nat.le_refl _, by simp [Int.sub_eq_add_neg], rfl, Below.refl _ _⟩
  case round =>
    obtain ⟨j, hj1, rfl, hu, hbw⟩ := hrel
    have HU := Lib.hid hu
    clear hu
    have hbr : Below w.heap.size w wr := (by repeat (first | assumption | exact Below.refl _ _ | refine Below.drew ?_ | (refine below_alloc _ ?_ ?_; focus (first | omega | (simp; done) | (simp; omega) | (simp at *; omega))) | (refine below_set _ ?_ ?_; focus (first | omega | (simp; done) | (simp; omega) | (simp at *; omega))) | refine below_drewN ?_ _ | (refine below_call (by assumption) ?_ ?_; focus (first | omega | (simp; done) | (simp; omega) | (simp at *; omega))) | (refine below_call' (by assumption) ?_ ?_; focus (first | omega | (simp; done) | (simp; omega) | (simp at *; omega)))))
    have hAr : SlabsAt wr (some ⟨bb, off, none⟩) l := RowsAt.below hA hbr
    have hzr := hbw.size
    simp at hzr
    have hzr1 : w.heap.size < wr.heap.size := by omega
    have s1 : wr.cell? ⟨w.heap.size, 1, none⟩ = some (.slice (some ⟨bb, off, none⟩) l.length cap) := cell_below hbw (by repeat (first | assumption | (refine cell_new ?_ rfl; focus (simp; done)) | refine cell_drew ?_ | refine cell_alloc _ ?_ | refine cell_drewN _ ?_ | (refine cell_far ?_ ?_; focus (first | omega | (simp; omega) | (simp; done))) | refine cell_below' (by assumption) ?_)) (by simp)
    cases j with
    | zero =>
      have hwb : ∀ W, Calls Try.prog 23 #[.int .i64 (-1), .int .i64 0, .int .i64 ((l.length : Int) - 1)] W fun e w' => e = .returned (.bool false) ∧ W = w' := fun W => by
        have h := Within_any (-1) 0 ((l.length : Int) - 1) W
        have e : withinB (-1 : Int) 0 ((l.length : Int) - 1) = false := by
          apply Bool.eq_false_iff.2
          intro hh
          have := withinB_true.1 hh
          omega
        rwa [e] at h
      have HWB := Lib.hid hwb
      clear hwb
      rw [show ((0 : Nat) : Int) - 1 = -1 from rfl]
      go_wp2_with (go_at_call 23; refine (HWB.out _).mono ?_; rintro e w' ⟨rfl, rfl⟩)
      go_ret
      exact ⟨ret_eq (by rw [HU.out]; rfl), (by repeat (first | assumption | exact Below.refl _ _ | refine Below.drew ?_ | (refine below_alloc _ ?_ ?_; focus (first | omega | (simp; done) | (simp; omega) | (simp at *; omega))) | (refine below_set _ ?_ ?_; focus (first | omega | (simp; done) | (simp; omega) | (simp at *; omega))) | refine below_drewN ?_ _ | (refine below_call (by assumption) ?_ ?_; focus (first | omega | (simp; done) | (simp; omega) | (simp at *; omega))) | (refine below_call' (by assumption) ?_ ?_; focus (first | omega | (simp; done) | (simp; omega) | (simp at *; omega)))))⟩
    | succ j =>
      have hlt : j < l.length := by omega
      rw [show ((j + 1 : Nat) : Int) - 1 = (j : Int) by omega]
      have hwb : ∀ W, Calls Try.prog 23 #[.int .i64 j, .int .i64 0, .int .i64 ((l.length : Int) - 1)] W fun e w' => e = .returned (.bool true) ∧ W = w' := fun W => by
        have h := Within_any j 0 ((l.length : Int) - 1) W
        rwa [show withinB (j : Int) 0 ((l.length : Int) - 1) = true from withinB_true.2 ⟨by omega, by omega⟩] at h
      have HWB := Lib.hid hwb
      clear hwb
      have c0 := slab_sq hAr hlt
      have c1 := slab_th hAr hlt
      have hbb2 : bb < wr.heap.size := World.block_lt_of_cell? _ _ c0
      have hst : dnS l (j + 1) = if 0 < thAt l j then sqAt l j else dnS l j := rfl
      rw [hst] at HU
      clear hst
      generalize thAt l j = t at *
      generalize sqAt l j = q at *
      by_cases ht : 0 < t
      · rw [if_pos ht] at HU
        go_wp2_with (go_at_call 23; refine (HWB.out _).mono ?_; rintro e w' ⟨rfl, rfl⟩)
        go_ret
        exact ⟨ret_eq (by rw [HU.out]; rfl), (by repeat (first | assumption | exact Below.refl _ _ | refine Below.drew ?_ | (refine below_alloc _ ?_ ?_; focus (first | omega | (simp; done) | (simp; omega) | (simp at *; omega))) | (refine below_set _ ?_ ?_; focus (first | omega | (simp; done) | (simp; omega) | (simp at *; omega))) | refine below_drewN ?_ _ | (refine below_call (by assumption) ?_ ?_; focus (first | omega | (simp; done) | (simp; omega) | (simp at *; omega))) | (refine below_call' (by assumption) ?_ ?_; focus (first | omega | (simp; done) | (simp; omega) | (simp at *; omega)))))⟩
      · rw [if_neg ht] at HU
        have ht' : t ≤ 0 := by omega
        go_wp2_with (go_at_call 23; refine (HWB.out _).mono ?_; rintro e w' ⟨rfl, rfl⟩)
        go_roundw
        case rel => exact ⟨j, by omega, by simp [Int.sub_eq_add_neg], HU.out, (by repeat (first | assumption | exact Below.refl _ _ | refine Below.drew ?_ | (refine below_alloc _ ?_ ?_; focus (first | omega | (simp; done) | (simp; omega) | (simp at *; omega))) | (refine below_set _ ?_ ?_; focus (first | omega | (simp; done) | (simp; omega) | (simp at *; omega))) | refine below_drewN ?_ _ | (refine below_call (by assumption) ?_ ?_; focus (first | omega | (simp; done) | (simp; omega) | (simp at *; omega))) | (refine below_call' (by assumption) ?_ ?_; focus (first | omega | (simp; done) | (simp; omega) | (simp at *; omega)))))⟩
        case measure => simp [intOf]; omega
end Go.Proofs.Ytoegpaolbkcleaa
