/-
  The reference's check of traces; copies of traces.
-/
import Derived.Test.YtoegpaolbkcleaaLam
import Derived.Test.YtoegpaolbkcleaaOrdF
namespace Go.Proofs.Ytoegpaolbkcleaa
open Go.ChangeShapes Go.WideShapes Go.ChangeAt Go.RowKit
set_option linter.unusedVariables false
set_option linter.unusedSimpArgs false

theorem FewPoints_any (S : Option Addr) (n cap : Nat) (after width : Int) (w : World) :
    Calls Try.prog 27 #[.agg #[.slice S n cap, .int .i64 after, .int .i64 width]] w fun e w' => e = .returned (.bool (decide ((n : Int) ≤ 10))) ∧ Below w.heap.size w w' := by
  by_cases h : (n : Int) ≤ 10
  all_goals
    go_enter Try.func27, Try.ntmps27
    go_wp2
    go_ret
    exact ⟨by simp [h], (by repeat (first | assumption | exact Below.refl _ _ | refine Below.drew ?_ | (refine below_alloc _ ?_ ?_; focus (first | omega | (simp; done) | (simp; omega) | (simp at *; omega))) | (refine below_set _ ?_ ?_; focus (first | omega | (simp; done) | (simp; omega) | (simp at *; omega))) | refine below_drewN ?_ _ | (refine below_call (by assumption) ?_ ?_; focus (first | omega | (simp; done) | (simp; omega) | (simp at *; omega))) | (refine below_call' (by assumption) ?_ ?_; focus (first | omega | (simp; done) | (simp; omega) | (simp at *; omega)))))⟩

theorem ptC_oneT (x : Pt) (i : Nat) : (ptC x i).oneCell' = true := by unfold ptC; split <;> rfl
def CopyTPost (l : List Pt) (after width : Int) (w : World) (e : Ending) (w' : World) : Prop :=
  ∃ A' c', e = .returned (.agg #[.slice A' l.length c', .int .i64 after, .int .i64 width]) ∧ w'.ownsRow w.heap.size 75 3 (.slice A' l.length c') l.length (cellsOf 3 ptC l) ∧ Below w.heap.size w w'
set_option maxHeartbeats 1000000 in
theorem CopyTrace_any (A : Option Addr) (l : List Pt) (cap : Nat) (after width : Int) (w : World) (hl : l.length ≤ 100) (hA : PtsAt w A l) :
    Calls Try.prog 29 #[.agg #[.slice A l.length cap, .int .i64 after, .int .i64 width]] w (CopyTPost l after width w) := by
  go_enter Try.func29, Try.ntmps29
  go_wp2
  have K0 : ((w.alloc (.cells #[.slice A l.length cap, .int .i64 after, .int .i64 width] 53)).alloc (.cells #[.slice none 0 0, .int .i64 0, .int .i64 0] 53)).cell? ⟨w.heap.size, 0, none⟩ = some (.slice A l.length cap) := cell_alloc _ (cell_new rfl rfl)
  have K1 : ((w.alloc (.cells #[.slice A l.length cap, .int .i64 after, .int .i64 width] 53)).alloc (.cells #[.slice none 0 0, .int .i64 0, .int .i64 0] 53)).cell? ⟨w.heap.size, 1, none⟩ = some (.int .i64 after) := cell_alloc _ (cell_new rfl rfl)
  have K2 : ((w.alloc (.cells #[.slice A l.length cap, .int .i64 after, .int .i64 width] 53)).alloc (.cells #[.slice none 0 0, .int .i64 0, .int .i64 0] 53)).cell? ⟨w.heap.size, 2, none⟩ = some (.int .i64 width) := cell_alloc _ (cell_new rfl rfl)
  have N0 : ((w.alloc (.cells #[.slice A l.length cap, .int .i64 after, .int .i64 width] 53)).alloc (.cells #[.slice none 0 0, .int .i64 0, .int .i64 0] 53)).cell? ⟨w.heap.size + 1, 0, none⟩ = some (.slice none 0 0) := cell_new (by simp) rfl
  have N1 : ((w.alloc (.cells #[.slice A l.length cap, .int .i64 after, .int .i64 width] 53)).alloc (.cells #[.slice none 0 0, .int .i64 0, .int .i64 0] 53)).cell? ⟨w.heap.size + 1, 1, none⟩ = some (.int .i64 0) := cell_new (by simp) rfl
  have N2 : ((w.alloc (.cells #[.slice A l.length cap, .int .i64 after, .int .i64 width] 53)).alloc (.cells #[.slice none 0 0, .int .i64 0, .int .i64 0] 53)).cell? ⟨w.heap.size + 1, 2, none⟩ = some (.int .i64 0) := cell_new (by simp) rfl
  have F0 : ((w.alloc (.cells #[.slice A l.length cap, .int .i64 after, .int .i64 width] 53)).alloc (.cells #[.slice none 0 0, .int .i64 0, .int .i64 0] 53)).frozen? ⟨w.heap.size + 1, 0, none⟩ = false := frozen_new (by simp)
  have F1 : ((w.alloc (.cells #[.slice A l.length cap, .int .i64 after, .int .i64 width] 53)).alloc (.cells #[.slice none 0 0, .int .i64 0, .int .i64 0] 53)).frozen? ⟨w.heap.size + 1, 1, none⟩ = false := frozen_new (by simp)
  have F2 : ((w.alloc (.cells #[.slice A l.length cap, .int .i64 after, .int .i64 width] 53)).alloc (.cells #[.slice none 0 0, .int .i64 0, .int .i64 0] 53)).frozen? ⟨w.heap.size + 1, 2, none⟩ = false := frozen_new (by simp)
  have hv : ((w.alloc (.cells #[.slice A l.length cap, .int .i64 after, .int .i64 width] 53)).alloc (.cells #[.slice none 0 0, .int .i64 0, .int .i64 0] 53)).heap.size = w.heap.size + 2 := by simp
  have hbv : Below w.heap.size w ((w.alloc (.cells #[.slice A l.length cap, .int .i64 after, .int .i64 width] 53)).alloc (.cells #[.slice none 0 0, .int .i64 0, .int .i64 0] 53)) := (by repeat (first | assumption | exact Below.refl _ _ | refine Below.drew ?_ | (refine below_alloc _ ?_ ?_; focus (first | omega | (simp; done) | (simp; omega) | (simp at *; omega))) | (refine below_set _ ?_ ?_; focus (first | omega | (simp; done) | (simp; omega) | (simp at *; omega))) | refine below_drewN ?_ _ | (refine below_call (by assumption) ?_ ?_; focus (first | omega | (simp; done) | (simp; omega) | (simp at *; omega))) | (refine below_call' (by assumption) ?_ ?_; focus (first | omega | (simp; done) | (simp; omega) | (simp at *; omega)))))
  generalize ((w.alloc (.cells #[.slice A l.length cap, .int .i64 after, .int .i64 width] 53)).alloc (.cells #[.slice none 0 0, .int .i64 0, .int .i64 0] 53)) = v at *
  have AV := hA.below hbv
  have hv0 : w.heap.size < v.heap.size := by omega
  have hv1 : w.heap.size + 1 < v.heap.size := by omega
  clear hA hv
  go_region_held3 (fun w' => w'.cell? ⟨w.heap.size, 0, none⟩ = some (.slice A l.length cap) ∧ w'.cell? ⟨w.heap.size, 1, none⟩ = some (.int .i64 after) ∧ w'.cell? ⟨w.heap.size, 2, none⟩ = some (.int .i64 width)) ((((try go_split_ands); (repeat' (apply And.intro)) <;> (repeat (first | (with_reducible assumption) | (with_reducible refine cell_drew ?_) | (with_reducible refine cell_alloc _ ?_) | (with_reducible refine cell_below' (by with_reducible assumption) ?_) | (with_reducible refine cell_far ?_ ?_; focus (first | omega | (simp; omega) | (simp; done)))))))) (first | (refine step_appPoint _ rfl (.tmp 3) (.tmp 5) rfl v.heap.size _ 0 0 [] rfl (own_empty (by omega) (by repeat (first | assumption | (refine blk_new ?_; focus (simp; done)) | refine blk_drew ?_ | refine blk_alloc _ ?_ | refine blk_drewN _ ?_ | (refine blk_far _ ?_ ?_; focus (first | omega | (simp; omega) | (simp; done))) | refine blk_below' (by assumption) ?_))) A l.length cap (cellsOf 3 ptC l) rfl (cellsOf_length l) (fun e => by subst e; exact RowsAt.nil_len AV) (fun ad e => by subst e; exact RowsAt.news (AV.below (by repeat (first | assumption | exact Below.refl _ _ | refine Below.drew ?_ | (refine below_alloc _ ?_ ?_; focus (first | omega | (simp; done) | (simp; omega) | (simp at *; omega))) | (refine below_set _ ?_ ?_; focus (first | omega | (simp; done) | (simp; omega) | (simp at *; omega))) | refine below_drewN ?_ _ | (refine below_call (by assumption) ?_ ?_; focus (first | omega | (simp; done) | (simp; omega) | (simp at *; omega))) | (refine below_call' (by assumption) ?_ ?_; focus (first | omega | (simp; done) | (simp; omega) | (simp at *; omega)))))) (by decide)) (cellsOf_one ptC_oneT (by decide) l) (by omega) (by simp) ?_; intro A' c' w1 hown hg _; rw [Nat.zero_add, List.nil_append] at hown; (try rw [Nat.zero_add]); have hb1 : Below v.heap.size v w1 := grown_below hg (Nat.le_refl _) (Nat.le_refl _) (by repeat (first | assumption | exact Below.refl _ _ | refine Below.drew ?_ | (refine below_alloc _ ?_ ?_; focus (first | omega | (simp; done) | (simp; omega) | (simp at *; omega))) | (refine below_set _ ?_ ?_; focus (first | omega | (simp; done) | (simp; omega) | (simp at *; omega))) | refine below_drewN ?_ _ | (refine below_call (by assumption) ?_ ?_; focus (first | omega | (simp; done) | (simp; omega) | (simp at *; omega))) | (refine below_call' (by assumption) ?_ ?_; focus (first | omega | (simp; done) | (simp; omega) | (simp at *; omega))))); have hd0 := cell_grown hg (show World.cell? _ ⟨w.heap.size + 1, 0, none⟩ = some (.slice none 0 0) from (by repeat (first | (with_reducible assumption) | (with_reducible refine cell_drew ?_) | (with_reducible refine cell_alloc _ ?_) | (with_reducible refine cell_drewN _ ?_)))) (by first | (simp [Value.ownBlock]; done) | (simp [Value.ownBlock]; omega) | omega); have hd1 := cell_grown hg (show World.cell? _ ⟨w.heap.size + 1, 1, none⟩ = some (.int .i64 0) from (by repeat (first | (with_reducible assumption) | (with_reducible refine cell_drew ?_) | (with_reducible refine cell_alloc _ ?_) | (with_reducible refine cell_drewN _ ?_)))) (by first | (simp [Value.ownBlock]; done) | (simp [Value.ownBlock]; omega) | omega); have hd2 := cell_grown hg (show World.cell? _ ⟨w.heap.size + 1, 2, none⟩ = some (.int .i64 0) from (by repeat (first | (with_reducible assumption) | (with_reducible refine cell_drew ?_) | (with_reducible refine cell_alloc _ ?_) | (with_reducible refine cell_drewN _ ?_)))) (by first | (simp [Value.ownBlock]; done) | (simp [Value.ownBlock]; omega) | omega); have hf0 := frozen_grown hg (show World.frozen? _ ⟨w.heap.size + 1, 0, none⟩ = false from (by repeat (first | (with_reducible assumption) | (with_reducible refine frozen_drew ?_) | (with_reducible refine frozen_alloc _ (by first | (simp; done) | (simp; omega)) ?_) | (with_reducible refine frozen_drewN _ ?_)))) (by first | (simp [Value.ownBlock]; done) | (simp [Value.ownBlock]; omega) | omega) (by first | (simp [Value.ownBlock]; done) | (simp [Value.ownBlock]; omega) | omega); have hf1 := frozen_grown hg (show World.frozen? _ ⟨w.heap.size + 1, 1, none⟩ = false from (by repeat (first | (with_reducible assumption) | (with_reducible refine frozen_drew ?_) | (with_reducible refine frozen_alloc _ (by first | (simp; done) | (simp; omega)) ?_) | (with_reducible refine frozen_drewN _ ?_)))) (by first | (simp [Value.ownBlock]; done) | (simp [Value.ownBlock]; omega) | omega) (by first | (simp [Value.ownBlock]; done) | (simp [Value.ownBlock]; omega) | omega); have hf2 := frozen_grown hg (show World.frozen? _ ⟨w.heap.size + 1, 2, none⟩ = false from (by repeat (first | (with_reducible assumption) | (with_reducible refine frozen_drew ?_) | (with_reducible refine frozen_alloc _ (by first | (simp; done) | (simp; omega)) ?_) | (with_reducible refine frozen_drewN _ ?_)))) (by first | (simp [Value.ownBlock]; done) | (simp [Value.ownBlock]; omega) | omega) (by first | (simp [Value.ownBlock]; done) | (simp [Value.ownBlock]; omega) | omega); have hk0 := cell_grown hg (show World.cell? _ ⟨w.heap.size, 0, none⟩ = some (.slice A l.length cap) from (by repeat (first | (with_reducible assumption) | (with_reducible refine cell_drew ?_) | (with_reducible refine cell_alloc _ ?_) | (with_reducible refine cell_drewN _ ?_)))) (by first | (simp [Value.ownBlock]; done) | (simp [Value.ownBlock]; omega) | omega); have hk1 := cell_grown hg (show World.cell? _ ⟨w.heap.size, 1, none⟩ = some (.int .i64 after) from (by repeat (first | (with_reducible assumption) | (with_reducible refine cell_drew ?_) | (with_reducible refine cell_alloc _ ?_) | (with_reducible refine cell_drewN _ ?_)))) (by first | (simp [Value.ownBlock]; done) | (simp [Value.ownBlock]; omega) | omega); have hk2 := cell_grown hg (show World.cell? _ ⟨w.heap.size, 2, none⟩ = some (.int .i64 width) from (by repeat (first | (with_reducible assumption) | (with_reducible refine cell_drew ?_) | (with_reducible refine cell_alloc _ ?_) | (with_reducible refine cell_drewN _ ?_)))) (by first | (simp [Value.ownBlock]; done) | (simp [Value.ownBlock]; omega) | omega); clear hg))
  go_wp2
  refine bodyPost_ret (v := .agg #[.slice A' l.length c', .int .i64 after, .int .i64 width]) (by simp [results, Try.results29, go_sem, hd0, hd1, hd2]) rfl ⟨A', c', rfl, own_mono (ownsRow_setCell_below (ownsRow_setCell_below (ownsRow_setCell_below hown (by omega) _) (by omega) _) (by omega) _) (by omega), (by repeat (first | assumption | exact Below.refl _ _ | refine Below.drew ?_ | (refine below_alloc _ ?_ ?_; focus (first | omega | (simp; done) | (simp; omega) | (simp at *; omega))) | (refine below_set _ ?_ ?_; focus (first | omega | (simp; done) | (simp; omega) | (simp at *; omega))) | refine below_drewN ?_ _ | (refine below_call (by assumption) ?_ ?_; focus (first | omega | (simp; done) | (simp; omega) | (simp at *; omega))) | (refine below_call' (by assumption) ?_ ?_; focus (first | omega | (simp; done) | (simp; omega) | (simp at *; omega)))))⟩

def lastT (l : List Pt) : Nat → Int
  | 0 => 0
  | k + 1 => fAt l k
theorem cell_pt {w : World} {b off : Nat} {l : List Pt} (h : PtsAt w (some ⟨b, off, none⟩) l) {k : Nat} (hk : k < l.length) : w.cell? ⟨b, off + k * 3, none⟩ = some (.int .i64 (fAt l k)) := by
  obtain ⟨b', o', e, _, hc⟩ := h k l[k] (List.getElem?_eq_getElem hk)
  injection e with e
  injection e with e1 e2
  subst e1 e2
  rw [fAt_eq hk]
  exact hc 0 (by omega)
set_option maxRecDepth 100000 in
set_option maxHeartbeats 2000000 in
theorem CheckTraceR_any (A : Option Addr) (l : List Pt) (cap : Nat) (after width : Int) (w : World) (hl : l.length ≤ 100) (hA : PtsAt w A l) :
    Calls Try.prog 32 #[.agg #[.slice A l.length cap, .int .i64 after, .int .i64 width]] w fun e w' => e = .returned (.tuple #[.int .i64 (chkT l after width).1, .int .i64 (chkT l after width).2]) ∧ Below w.heap.size w w' := by
  have hc : chkT l after width = if chkTHead l.length after width ≠ 0 then (0, chkTHead l.length after width) else badPt l 0 0 := rfl
  have hh : chkTHead l.length after width = firstE [unl (decide (0 < l.length)) 10, unl (decide ((l.length : Int) ≤ 8)) 8, unl (withinB width 0 500) 2, unl (withinB after 0 ((l.length : Int) - 1)) 6] := rfl
  by_cases hn0 : l.length = 0
  · have e1 : chkT l after width = (0, 10) := by rw [hc, hh, hn0]; simp [unl, firstE]
    have HC := Lib.hid e1
    have hl0 := List.eq_nil_of_length_eq_zero hn0
    have hz : ((l.length : Int) == 0) = true := by simp [hl0]
    clear hc hh e1 hn0 hl0
    go_enter Try.func32, Try.ntmps32
    go_wp2
    go_ret2
    exact ⟨ret_eq (by rw [HC.out]; rfl), (by repeat (first | assumption | exact Below.refl _ _ | refine Below.drew ?_ | (refine below_alloc _ ?_ ?_; focus (first | omega | (simp; done) | (simp; omega) | (simp at *; omega))) | (refine below_set _ ?_ ?_; focus (first | omega | (simp; done) | (simp; omega) | (simp at *; omega))) | refine below_drewN ?_ _ | (refine below_call (by assumption) ?_ ?_; focus (first | omega | (simp; done) | (simp; omega) | (simp at *; omega))) | (refine below_call' (by assumption) ?_ ?_; focus (first | omega | (simp; done) | (simp; omega) | (simp at *; omega)))))⟩
  have hz : ((l.length : Int) == 0) = false := by simp; exact fun e => hn0 (by simp [e])
  have hd0 : decide (0 < l.length) = true := by simp; omega
  rw [hd0] at hh
  clear hd0
  by_cases hn1 : (l.length : Int) ≤ 8
  rotate_left 1
  · have e1 : chkT l after width = (0, 8) := by rw [hc, hh]; simp [unl, firstE, hn1]
    have HC := Lib.hid e1
    have hgt : 8 < (l.length : Int) := by omega
    clear hc hh e1 hn1
    go_enter Try.func32, Try.ntmps32
    go_wp2
    go_ret2
    exact ⟨ret_eq (by rw [HC.out]; rfl), (by repeat (first | assumption | exact Below.refl _ _ | refine Below.drew ?_ | (refine below_alloc _ ?_ ?_; focus (first | omega | (simp; done) | (simp; omega) | (simp at *; omega))) | (refine below_set _ ?_ ?_; focus (first | omega | (simp; done) | (simp; omega) | (simp at *; omega))) | refine below_drewN ?_ _ | (refine below_call (by assumption) ?_ ?_; focus (first | omega | (simp; done) | (simp; omega) | (simp at *; omega))) | (refine below_call' (by assumption) ?_ ?_; focus (first | omega | (simp; done) | (simp; omega) | (simp at *; omega)))))⟩
  have hn1d : decide (8 < (l.length : Int)) = false := by simp; omega
  have hd1 : decide ((l.length : Int) ≤ 8) = true := by simpa using hn1
  rw [hd1] at hh
  clear hd1
  cases hw : withinB width 0 500
  · have e1 : chkT l after width = (0, 2) := by rw [hc, hh, hw]; simp [unl, firstE]
    have HC := Lib.hid e1
    have HW := Lib.hid hw
    clear hc hh e1 hw
    go_enter Try.func32, Try.ntmps32
    go_wp2_with (go_at_call 23; refine (Within_any _ _ _ _).mono ?_; rintro e w' ⟨rfl, rfl⟩; rw [HW.out])
    go_ret2
    exact ⟨ret_eq (by rw [HC.out]; rfl), (by repeat (first | assumption | exact Below.refl _ _ | refine Below.drew ?_ | (refine below_alloc _ ?_ ?_; focus (first | omega | (simp; done) | (simp; omega) | (simp at *; omega))) | (refine below_set _ ?_ ?_; focus (first | omega | (simp; done) | (simp; omega) | (simp at *; omega))) | refine below_drewN ?_ _ | (refine below_call (by assumption) ?_ ?_; focus (first | omega | (simp; done) | (simp; omega) | (simp at *; omega))) | (refine below_call' (by assumption) ?_ ?_; focus (first | omega | (simp; done) | (simp; omega) | (simp at *; omega)))))⟩
  have HW := Lib.hid hw
  rw [hw] at hh
  clear hw
  cases ha : withinB after 0 ((l.length : Int) - 1)
  · have e1 : chkT l after width = (0, 6) := by rw [hc, hh, ha]; simp [unl, firstE]
    have HC := Lib.hid e1
    have HWA := Lib.hid ha
    clear hc hh e1 ha
    go_enter Try.func32, Try.ntmps32
    go_wp2_with (go_at_call 23; refine (Within_any _ _ _ _).mono ?_; rintro e w' ⟨rfl, rfl⟩; first | rw [HW.out] | rw [HWA.out])
    go_ret2
    exact ⟨ret_eq (by rw [HC.out]; rfl), (by repeat (first | assumption | exact Below.refl _ _ | refine Below.drew ?_ | (refine below_alloc _ ?_ ?_; focus (first | omega | (simp; done) | (simp; omega) | (simp at *; omega))) | (refine below_set _ ?_ ?_; focus (first | omega | (simp; done) | (simp; omega) | (simp at *; omega))) | refine below_drewN ?_ _ | (refine below_call (by assumption) ?_ ?_; focus (first | omega | (simp; done) | (simp; omega) | (simp at *; omega))) | (refine below_call' (by assumption) ?_ ?_; focus (first | omega | (simp; done) | (simp; omega) | (simp at *; omega)))))⟩
  have HWA := Lib.hid ha
  have e1 : chkT l after width = badPt l 0 0 := by rw [hc, hh, ha]; simp [unl, firstE]
  have HC := Lib.hid e1
  have hn0' : 0 < l.length := by omega
  clear hc hh e1 ha hn0
  obtain ⟨bb, oo, rfl, hbb, _, _, _⟩ := PtsAt.at_ hA hn0'
  go_enter Try.func32, Try.ntmps32
  go_wp2_with (go_at_call 23; refine (Within_any _ _ _ _).mono ?_; rintro e w' ⟨rfl, rfl⟩; first | rw [HW.out] | rw [HWA.out])
  go_loopw [4] (fun i wr => ∃ k : Nat, k ≤ l.length ∧ i = .int .i64 k ∧ badPt l 0 0 = badPt (l.drop k) (lastT l k) k ∧ Below (w.heap.size + 1) (w.alloc (.cells #[.slice (some ⟨bb, oo, none⟩) l.length cap, .int .i64 after, .int .i64 width] 53)) wr) (fun i _ => l.length - (intOf i).toNat)
  case atStart => exact ⟨0, Nat.zero_le _, rfl, rfl, Below.refl _ _⟩
  case round =>
    obtain ⟨k, hk, rfl, he, hbw⟩ := hrel
    have H := Lib.hid he
    clear he
    have hbr : Below w.heap.size w wr := (by repeat (first | assumption | exact Below.refl _ _ | refine Below.drew ?_ | (refine below_alloc _ ?_ ?_; focus (first | omega | (simp; done) | (simp; omega) | (simp at *; omega))) | (refine below_set _ ?_ ?_; focus (first | omega | (simp; done) | (simp; omega) | (simp at *; omega))) | refine below_drewN ?_ _ | (refine below_call (by assumption) ?_ ?_; focus (first | omega | (simp; done) | (simp; omega) | (simp at *; omega))) | (refine below_call' (by assumption) ?_ ?_; focus (first | omega | (simp; done) | (simp; omega) | (simp at *; omega)))))
    have hAr : PtsAt wr (some ⟨bb, oo, none⟩) l := RowsAt.below hA hbr
    have hzr := hbw.size
    simp at hzr
    have hzr1 : w.heap.size < wr.heap.size := by omega
    have s0 : wr.cell? ⟨w.heap.size, 0, none⟩ = some (.slice (some ⟨bb, oo, none⟩) l.length cap) := cell_below hbw (by repeat (first | assumption | (refine cell_new ?_ rfl; focus (simp; done)) | refine cell_drew ?_ | refine cell_alloc _ ?_ | refine cell_drewN _ ?_ | (refine cell_far ?_ ?_; focus (first | omega | (simp; omega) | (simp; done))) | refine cell_below' (by assumption) ?_)) (by simp)
    by_cases hlt : k < l.length
    · have hd : l.drop k = l[k] :: l.drop (k + 1) := List.drop_eq_getElem_cons hlt
      rw [hd, badPt] at H
      clear hd
      obtain ⟨b2, o2, e2, hb2, c0, c1, c2⟩ := PtsAt.at_ hAr hlt
      injection e2 with e2
      injection e2 with e21 e22
      subst e21 e22
      have hls : lastT l (k + 1) = l[k].f := fAt_eq hlt
      have hpr : ∀ k', k = k' + 1 → wr.cell? ⟨bb, oo + k' * 3, none⟩ = some (.int .i64 (lastT l k)) := fun k' e => by
        subst e
        exact cell_pt hAr (by omega)
      have HPR := Lib.hid hpr
      have HLS := Lib.hid hls
      have hl0 : k = 0 → lastT l k = 0 := fun e => by subst e; rfl
      have HL0 := Lib.hid hl0
      clear hpr hls hl0
      generalize l[k] = p at *
      generalize lastT l k = last at *
      have ht : ptE last p = firstE [unl (withinB p.f 1 3000) 2, unl (withinB p.lo 0 20000 && withinB p.hi 0 20000) 2, unl (decide (p.lo ≤ p.hi) && decide (last < p.f)) 9] := rfl
      cases hf : withinB p.f 1 3000
      · have e1 : ptE last p = 2 := by rw [ht, hf]; simp [unl, firstE]
        rw [e1, if_neg (by decide)] at H
        have hu : unl (withinB p.f 1 3000) 2 = 2 := by rw [hf]; rfl
        have HU := Lib.hid hu
        clear ht e1 hu hf
        go_wp2_with (first | (go_at_call 23; refine (Within_any _ _ _ _).mono ?_; rintro e w' ⟨rfl, rfl⟩; first | rw [HW.out] | rw [HWA.out] ) | (go_at_call 20; refine (FrequencyErr_any _ _).mono ?_; rintro e w' ⟨rfl, rfl⟩; rw [HU.out]))
        go_ret2
        exact ⟨ret_eq (by rw [HC.out, H.out]; rfl), (by repeat (first | assumption | exact Below.refl _ _ | refine Below.drew ?_ | (refine below_alloc _ ?_ ?_; focus (first | omega | (simp; done) | (simp; omega) | (simp at *; omega))) | (refine below_set _ ?_ ?_; focus (first | omega | (simp; done) | (simp; omega) | (simp at *; omega))) | refine below_drewN ?_ _ | (refine below_call (by assumption) ?_ ?_; focus (first | omega | (simp; done) | (simp; omega) | (simp at *; omega))) | (refine below_call' (by assumption) ?_ ?_; focus (first | omega | (simp; done) | (simp; omega) | (simp at *; omega)))))⟩
      have hu : unl (withinB p.f 1 3000) 2 = 0 := by rw [hf]; rfl
      have HU := Lib.hid hu
      have hf1 := (withinB_true.1 hf).1
      rw [hf] at ht
      clear hu hf
      cases hlo : withinB p.lo 0 20000
      · have e1 : ptE last p = 2 := by rw [ht, hlo]; simp [unl, firstE]
        rw [e1, if_neg (by decide)] at H
        have HLO := Lib.hid hlo
        clear ht e1 hlo
        go_wp2_with (first | (go_at_call 23; refine (Within_any _ _ _ _).mono ?_; rintro e w' ⟨rfl, rfl⟩; first | rw [HLO.out] | rw [HW.out] | rw [HWA.out] ) | (go_at_call 20; refine (FrequencyErr_any _ _).mono ?_; rintro e w' ⟨rfl, rfl⟩; rw [HU.out]))
        go_ret2
        exact ⟨ret_eq (by rw [HC.out, H.out]; rfl), (by repeat (first | assumption | exact Below.refl _ _ | refine Below.drew ?_ | (refine below_alloc _ ?_ ?_; focus (first | omega | (simp; done) | (simp; omega) | (simp at *; omega))) | (refine below_set _ ?_ ?_; focus (first | omega | (simp; done) | (simp; omega) | (simp at *; omega))) | refine below_drewN ?_ _ | (refine below_call (by assumption) ?_ ?_; focus (first | omega | (simp; done) | (simp; omega) | (simp at *; omega))) | (refine below_call' (by assumption) ?_ ?_; focus (first | omega | (simp; done) | (simp; omega) | (simp at *; omega)))))⟩
      cases hhi : withinB p.hi 0 20000
      · have e1 : ptE last p = 2 := by rw [ht, hlo, hhi]; simp [unl, firstE]
        rw [e1, if_neg (by decide)] at H
        have HLO := Lib.hid hlo
        have HHI := Lib.hid hhi
        clear ht e1 hlo hhi
        go_wp2_with (first | (go_at_call 23; refine (Within_any _ _ _ _).mono ?_; rintro e w' ⟨rfl, rfl⟩; first | rw [HLO.out] | rw [HHI.out] | rw [HW.out] | rw [HWA.out] ) | (go_at_call 20; refine (FrequencyErr_any _ _).mono ?_; rintro e w' ⟨rfl, rfl⟩; rw [HU.out]))
        go_ret2
        exact ⟨ret_eq (by rw [HC.out, H.out]; rfl), (by repeat (first | assumption | exact Below.refl _ _ | refine Below.drew ?_ | (refine below_alloc _ ?_ ?_; focus (first | omega | (simp; done) | (simp; omega) | (simp at *; omega))) | (refine below_set _ ?_ ?_; focus (first | omega | (simp; done) | (simp; omega) | (simp at *; omega))) | refine below_drewN ?_ _ | (refine below_call (by assumption) ?_ ?_; focus (first | omega | (simp; done) | (simp; omega) | (simp at *; omega))) | (refine below_call' (by assumption) ?_ ?_; focus (first | omega | (simp; done) | (simp; omega) | (simp at *; omega)))))⟩
      have HLO := Lib.hid hlo
      have HHI := Lib.hid hhi
      rw [hlo, hhi] at ht
      clear hlo hhi
      by_cases hle : p.lo ≤ p.hi
      rotate_left 1
      · have e1 : ptE last p = 9 := by rw [ht]; simp [unl, firstE, hle]
        rw [e1, if_neg (by decide)] at H
        have hgt : p.hi < p.lo := by omega
        clear ht e1 hle
        go_wp2_with (first | (go_at_call 23; refine (Within_any _ _ _ _).mono ?_; rintro e w' ⟨rfl, rfl⟩; first | rw [HLO.out] | rw [HHI.out] | rw [HW.out] | rw [HWA.out] ) | (go_at_call 20; refine (FrequencyErr_any _ _).mono ?_; rintro e w' ⟨rfl, rfl⟩; rw [HU.out]))
        go_quiet (fail)
        go_wp2
        go_ret2
        exact ⟨ret_eq (by rw [HC.out, H.out]; rfl), (by repeat (first | assumption | exact Below.refl _ _ | refine Below.drew ?_ | (refine below_alloc _ ?_ ?_; focus (first | omega | (simp; done) | (simp; omega) | (simp at *; omega))) | (refine below_set _ ?_ ?_; focus (first | omega | (simp; done) | (simp; omega) | (simp at *; omega))) | refine below_drewN ?_ _ | (refine below_call (by assumption) ?_ ?_; focus (first | omega | (simp; done) | (simp; omega) | (simp at *; omega))) | (refine below_call' (by assumption) ?_ ?_; focus (first | omega | (simp; done) | (simp; omega) | (simp at *; omega)))))⟩
      have hgd : decide (p.hi < p.lo) = false := by simp; omega
      by_cases hlf : last < p.f
      · have e1 : ptE last p = 0 := by rw [ht]; simp [unl, firstE, hle, hlf]
        rw [e1, if_pos rfl] at H
        have hlfd : decide (p.f ≤ last) = false := by simp; omega
        clear ht e1
        by_cases hk0 : 0 < k
        all_goals
          first
            | (have hpc := HPR.out (k - 1) (by omega)
               have hkp : decide (0 < (k : Int)) = true := by simpa using hk0
               have hkn : ((k : Int) - 1).toNat = k - 1 := by omega
               have hk1 : (1 : Int) ≤ (k : Int) := by omega)
            | (have hkp : decide (0 < (k : Int)) = false := by simp; omega)
          go_wp2_with (first | (go_at_call 23; refine (Within_any _ _ _ _).mono ?_; rintro e w' ⟨rfl, rfl⟩; first | rw [HLO.out] | rw [HHI.out] | rw [HW.out] | rw [HWA.out] ) | (go_at_call 20; refine (FrequencyErr_any _ _).mono ?_; rintro e w' ⟨rfl, rfl⟩; rw [HU.out]))
          go_quiet (fail)
          go_wp2
          go_roundw
          case rel => exact ⟨k + 1, by omega, by go_num, by rw [HLS.out]; exact H.out, (by repeat (first | assumption | exact Below.refl _ _ | refine Below.drew ?_ | (refine below_alloc _ ?_ ?_; focus (first | omega | (simp; done) | (simp; omega) | (simp at *; omega))) | (refine below_set _ ?_ ?_; focus (first | omega | (simp; done) | (simp; omega) | (simp at *; omega))) | refine below_drewN ?_ _ | (refine below_call (by assumption) ?_ ?_; focus (first | omega | (simp; done) | (simp; omega) | (simp at *; omega))) | (refine below_call' (by assumption) ?_ ?_; focus (first | omega | (simp; done) | (simp; omega) | (simp at *; omega)))))⟩
          case measure => simp [intOf]; omega
      · have e1 : ptE last p = 9 := by rw [ht]; simp [unl, firstE, hlf]
        rw [e1, if_neg (by decide)] at H
        have hkpos : 0 < k := Nat.pos_of_ne_zero fun e => by have := HL0.out e; omega
        have hpc := HPR.out (k - 1) (by omega)
        have hkp : decide (0 < (k : Int)) = true := by simpa using hkpos
        have hkn : ((k : Int) - 1).toNat = k - 1 := by omega
        have hk1 : (1 : Int) ≤ (k : Int) := by omega
        have hfl : p.f ≤ last := by omega
        clear ht e1 hlf HL0
        go_wp2_with (first | (go_at_call 23; refine (Within_any _ _ _ _).mono ?_; rintro e w' ⟨rfl, rfl⟩; first | rw [HLO.out] | rw [HHI.out] | rw [HW.out] | rw [HWA.out] ) | (go_at_call 20; refine (FrequencyErr_any _ _).mono ?_; rintro e w' ⟨rfl, rfl⟩; rw [HU.out]))
        go_quiet (fail)
        go_wp2
        go_ret2
        exact ⟨ret_eq (by rw [HC.out, H.out]; rfl), (by repeat (first | assumption | exact Below.refl _ _ | refine Below.drew ?_ | (refine below_alloc _ ?_ ?_; focus (first | omega | (simp; done) | (simp; omega) | (simp at *; omega))) | (refine below_set _ ?_ ?_; focus (first | omega | (simp; done) | (simp; omega) | (simp at *; omega))) | refine below_drewN ?_ _ | (refine below_call (by assumption) ?_ ?_; focus (first | omega | (simp; done) | (simp; omega) | (simp at *; omega))) | (refine below_call' (by assumption) ?_ ?_; focus (first | omega | (simp; done) | (simp; omega) | (simp at *; omega)))))⟩
    · have e : l.drop k = [] := List.drop_eq_nil_of_le (by omega)
      rw [e] at H
      clear e
      go_wp2
      go_ret2
      exact ⟨ret_eq (by rw [HC.out, H.out]; rfl), (by repeat (first | assumption | exact Below.refl _ _ | refine Below.drew ?_ | (refine below_alloc _ ?_ ?_; focus (first | omega | (simp; done) | (simp; omega) | (simp at *; omega))) | (refine below_set _ ?_ ?_; focus (first | omega | (simp; done) | (simp; omega) | (simp at *; omega))) | refine below_drewN ?_ _ | (refine below_call (by assumption) ?_ ?_; focus (first | omega | (simp; done) | (simp; omega) | (simp at *; omega))) | (refine below_call' (by assumption) ?_ ?_; focus (first | omega | (simp; done) | (simp; omega) | (simp at *; omega)))))⟩
theorem TraceErr_any (A : Option Addr) (l : List Pt) (cap : Nat) (after width : Int) (w : World) (hl : l.length ≤ 100) (hA : PtsAt w A l) :
    Calls Try.prog 37 #[.agg #[.slice A l.length cap, .int .i64 after, .int .i64 width]] w fun e w' => e = .returned (.int .i64 (chkTE l after width)) ∧ Below w.heap.size w w' := by
  have he : chkTE l after width = (chkT l after width).2 := rfl
  have HE := Lib.hid he
  clear he
  go_enter Try.func37, Try.ntmps37
  go_wp2_with (fail)
  refine (CheckTraceR_any A l cap after width _ hl (hA.below (by repeat (first | assumption | exact Below.refl _ _ | refine Below.drew ?_ | (refine below_alloc _ ?_ ?_; focus (first | omega | (simp; done) | (simp; omega) | (simp at *; omega))) | (refine below_set _ ?_ ?_; focus (first | omega | (simp; done) | (simp; omega) | (simp at *; omega))) | refine below_drewN ?_ _ | (refine below_call (by assumption) ?_ ?_; focus (first | omega | (simp; done) | (simp; omega) | (simp at *; omega))) | (refine below_call' (by assumption) ?_ ?_; focus (first | omega | (simp; done) | (simp; omega) | (simp at *; omega))))))).mono ?_
  rintro e w1 ⟨rfl, hb1⟩
  generalize chkT l after width = q at *
  obtain ⟨q1, q2⟩ := q
  go_wp2
  go_ret
  exact ⟨ret_eq (by rw [HE.out]; rfl), (by repeat (first | assumption | exact Below.refl _ _ | refine Below.drew ?_ | (refine below_alloc _ ?_ ?_; focus (first | omega | (simp; done) | (simp; omega) | (simp at *; omega))) | (refine below_set _ ?_ ?_; focus (first | omega | (simp; done) | (simp; omega) | (simp at *; omega))) | refine below_drewN ?_ _ | (refine below_call (by assumption) ?_ ?_; focus (first | omega | (simp; done) | (simp; omega) | (simp at *; omega))) | (refine below_call' (by assumption) ?_ ?_; focus (first | omega | (simp; done) | (simp; omega) | (simp at *; omega)))))⟩
end Go.Proofs.Ytoegpaolbkcleaa
