/-
  The walks of the reference's check, of the copy, and of 'open'.
-/
import Derived.Test.YtoegpaolbkcleaaChk
import Derived.Test.YtoegpaolbkcleaaAppT
namespace Go.Proofs.Ytoegpaolbkcleaa
open Go.ChangeShapes Go.WideShapes Go.ChangeAt Go.RowKit
set_option linter.unusedVariables false
set_option linter.unusedSimpArgs false

theorem slbC_one (x : Slb) (i : Nat) : (slbC x i).oneCell' = true := by cases i <;> rfl

theorem open_any (base : Int) (A : Option Addr) (l : List Slb) (cap : Nat) (w : World) (hl : l.length ≤ 100) (hA : SlabsAt w A l) :
    Calls Try.prog 67 #[.agg #[.int .i64 base, .slice A l.length cap]] w fun e w' => e = .returned (.tuple #[.agg #[.int .i64 base, .slice A l.length cap], .int .i64 (chkE base l)]) ∧ Below w.heap.size w w' := by
  go_enter Try.func67, Try.ntmps67
  go_wp2_with (fail)
  refine (CheckProfile_any base A l cap _ hl (hA.below (by repeat (first | assumption | exact Below.refl _ _ | refine Below.drew ?_ | (refine below_alloc _ ?_ ?_; focus (first | omega | (simp; done) | (simp; omega) | (simp at *; omega))) | (refine below_set _ ?_ ?_; focus (first | omega | (simp; done) | (simp; omega) | (simp at *; omega))) | refine below_drewN ?_ _ | (refine below_call (by assumption) ?_ ?_; focus (first | omega | (simp; done) | (simp; omega) | (simp at *; omega))) | (refine below_call' (by assumption) ?_ ?_; focus (first | omega | (simp; done) | (simp; omega) | (simp at *; omega))))))).mono ?_
  rintro e w1 ⟨rfl, hb1⟩
  have hz1 := hb1.size
  obtain ⟨hc1, hf1⟩ := bcell hb1
  simp at hz1 hc1 hf1
  go_wp2
  refine bodyPost_ret (v := .tuple #[.agg #[.int .i64 base, .slice A l.length cap], .int .i64 (chkE base l)]) (by simp [results, Try.results67, go_sem, hc1]) rfl ⟨rfl, (by repeat (first | assumption | exact Below.refl _ _ | refine Below.drew ?_ | (refine below_alloc _ ?_ ?_; focus (first | omega | (simp; done) | (simp; omega) | (simp at *; omega))) | (refine below_set _ ?_ ?_; focus (first | omega | (simp; done) | (simp; omega) | (simp at *; omega))) | refine below_drewN ?_ _ | (refine below_call (by assumption) ?_ ?_; focus (first | omega | (simp; done) | (simp; omega) | (simp at *; omega))) | (refine below_call' (by assumption) ?_ ?_; focus (first | omega | (simp; done) | (simp; omega) | (simp at *; omega)))))⟩

theorem CheckProfileR_any (base : Int) (A : Option Addr) (l : List Slb) (cap : Nat) (w : World) (hl : l.length ≤ 100) (hA : SlabsAt w A l) :
    Calls Try.prog 52 #[.agg #[.int .i64 base, .slice A l.length cap]] w fun e w' => e = .returned (.tuple #[.int .i64 (chkI base l), .int .i64 (chkE base l)]) ∧ Below w.heap.size w w' := by
  have hI : chkI base l = if chkHead base l.length ≠ 0 then 0 else if 0 ≤ badSlb l 0 then badSlb l 0 else 0 := rfl
  have hE : chkE base l = if chkHead base l.length ≠ 0 then chkHead base l.length else if 0 ≤ badSlb l 0 then 2 else 0 := rfl
  have hH : chkHead base l.length = firstE [unl (withinB base 0 500) 2, unl (decide (0 < l.length)) 10, unl (decide ((l.length : Int) ≤ 12)) 8] := rfl
  have HI := Lib.hid hI
  have HE := Lib.hid hE
  have HH := Lib.hid hH
  clear hI hE hH
  cases h1 : withinB base 0 500
  · have H1 := Lib.hid h1
    clear h1
    go_enter Try.func52, Try.ntmps52
    go_wp2_with (go_at_call 23; refine (Within_any _ _ _ _).mono ?_; rintro e w' ⟨rfl, rfl⟩; rw [H1.out])
    go_ret2
    exact ⟨ret_eq (by rw [HI.out, HE.out, HH.out, H1.out]; simp [unl, firstE]), (by repeat (first | assumption | exact Below.refl _ _ | refine Below.drew ?_ | (refine below_alloc _ ?_ ?_; focus (first | omega | (simp; done) | (simp; omega) | (simp at *; omega))) | (refine below_set _ ?_ ?_; focus (first | omega | (simp; done) | (simp; omega) | (simp at *; omega))) | refine below_drewN ?_ _ | (refine below_call (by assumption) ?_ ?_; focus (first | omega | (simp; done) | (simp; omega) | (simp at *; omega))) | (refine below_call' (by assumption) ?_ ?_; focus (first | omega | (simp; done) | (simp; omega) | (simp at *; omega)))))⟩
  have H1 := Lib.hid h1
  clear h1
  by_cases h2 : l.length = 0
  · obtain rfl := List.eq_nil_of_length_eq_zero h2
    go_enter Try.func52, Try.ntmps52
    go_wp2_with (go_at_call 23; refine (Within_any _ _ _ _).mono ?_; rintro e w' ⟨rfl, rfl⟩; rw [H1.out])
    go_ret2
    exact ⟨ret_eq (by rw [HI.out, HE.out, HH.out, H1.out]; simp [unl, firstE]), (by repeat (first | assumption | exact Below.refl _ _ | refine Below.drew ?_ | (refine below_alloc _ ?_ ?_; focus (first | omega | (simp; done) | (simp; omega) | (simp at *; omega))) | (refine below_set _ ?_ ?_; focus (first | omega | (simp; done) | (simp; omega) | (simp at *; omega))) | refine below_drewN ?_ _ | (refine below_call (by assumption) ?_ ?_; focus (first | omega | (simp; done) | (simp; omega) | (simp at *; omega))) | (refine below_call' (by assumption) ?_ ?_; focus (first | omega | (simp; done) | (simp; omega) | (simp at *; omega)))))⟩
  have h2' : ((l.length : Int) == 0) = false := by simp; exact fun e => h2 (by simp [e])
  have h2d : decide (0 < l.length) = true := by simp; omega
  have H2 := Lib.hid h2
  have H2d := Lib.hid h2d
  clear h2 h2d
  by_cases h3 : (l.length : Int) ≤ 12
  · have hh : chkHead base l.length = 0 := by rw [HH.out, H1.out, H2d.out]; simp [unl, firstE, h3]
    rw [if_neg (by simp [hh])] at HI HE
    have HN := Lib.hid hh
    clear hh HH H2 H2d
    go_enter Try.func52, Try.ntmps52
    go_wp2_with (go_at_call 23; refine (Within_any _ _ _ _).mono ?_; rintro e w' ⟨rfl, rfl⟩; rw [H1.out])
    go_loop [4] (fun i => ∃ k : Nat, k ≤ l.length ∧ i = .int .i64 k ∧ badSlb l 0 = badSlb (l.drop k) k) (fun i => l.length - (intOf i).toNat)
    case atStart => exact ⟨0, Nat.zero_le _, rfl, rfl⟩
    case round =>
      obtain ⟨k, hk, rfl, he⟩ := hrel
      have H := Lib.hid he
      clear he
      by_cases hlt : k < l.length
      · have hd : l.drop k = l[k] :: l.drop (k + 1) := List.drop_eq_getElem_cons hlt
        rw [hd] at H
        clear hd
        obtain ⟨b, off, rfl, hb, h1, h2⟩ := SlabsAt.at_ hA hlt
        generalize l[k] = x at *
        have hx : slbOk x = (withinB x.sq 0 9000000 && withinB x.th 0 500) := rfl
        have HX := Lib.hid hx
        clear hx
        cases hx1 : withinB x.sq 0 9000000 <;> cases hx2 : withinB x.th 0 500
        all_goals
          have HX1 := Lib.hid hx1
          have HX2 := Lib.hid hx2
          clear hx1 hx2
          rw [HX1.out, HX2.out] at HX
          go_wp2_with (go_at_call 23; refine (Within_any _ _ _ _).mono ?_; rintro e w' ⟨rfl, rfl⟩; first | rw [HX1.out] | rw [HX2.out])
        · go_ret2
          exact ⟨ret_eq (by rw [HI.out, HE.out, H.out]; simp [badSlb, HX.out]), (by repeat (first | assumption | exact Below.refl _ _ | refine Below.drew ?_ | (refine below_alloc _ ?_ ?_; focus (first | omega | (simp; done) | (simp; omega) | (simp at *; omega))) | (refine below_set _ ?_ ?_; focus (first | omega | (simp; done) | (simp; omega) | (simp at *; omega))) | refine below_drewN ?_ _ | (refine below_call (by assumption) ?_ ?_; focus (first | omega | (simp; done) | (simp; omega) | (simp at *; omega))) | (refine below_call' (by assumption) ?_ ?_; focus (first | omega | (simp; done) | (simp; omega) | (simp at *; omega)))))⟩
        · go_ret2
          exact ⟨ret_eq (by rw [HI.out, HE.out, H.out]; simp [badSlb, HX.out]), (by repeat (first | assumption | exact Below.refl _ _ | refine Below.drew ?_ | (refine below_alloc _ ?_ ?_; focus (first | omega | (simp; done) | (simp; omega) | (simp at *; omega))) | (refine below_set _ ?_ ?_; focus (first | omega | (simp; done) | (simp; omega) | (simp at *; omega))) | refine below_drewN ?_ _ | (refine below_call (by assumption) ?_ ?_; focus (first | omega | (simp; done) | (simp; omega) | (simp at *; omega))) | (refine below_call' (by assumption) ?_ ?_; focus (first | omega | (simp; done) | (simp; omega) | (simp at *; omega)))))⟩
        · go_ret2
          exact ⟨ret_eq (by rw [HI.out, HE.out, H.out]; simp [badSlb, HX.out]), (by repeat (first | assumption | exact Below.refl _ _ | refine Below.drew ?_ | (refine below_alloc _ ?_ ?_; focus (first | omega | (simp; done) | (simp; omega) | (simp at *; omega))) | (refine below_set _ ?_ ?_; focus (first | omega | (simp; done) | (simp; omega) | (simp at *; omega))) | refine below_drewN ?_ _ | (refine below_call (by assumption) ?_ ?_; focus (first | omega | (simp; done) | (simp; omega) | (simp at *; omega))) | (refine below_call' (by assumption) ?_ ?_; focus (first | omega | (simp; done) | (simp; omega) | (simp at *; omega)))))⟩
        · go_round
          case rel => exact ⟨k + 1, by omega, by go_num, by rw [H.out]; simp [badSlb, HX.out]⟩
          case measure => simp [intOf]; omega
      · have e : l.drop k = [] := List.drop_eq_nil_of_le (by omega)
        rw [e] at H
        clear e
        go_wp2
        go_ret2
        exact ⟨ret_eq (by rw [HI.out, HE.out, H.out]; simp [badSlb]), (by repeat (first | assumption | exact Below.refl _ _ | refine Below.drew ?_ | (refine below_alloc _ ?_ ?_; focus (first | omega | (simp; done) | (simp; omega) | (simp at *; omega))) | (refine below_set _ ?_ ?_; focus (first | omega | (simp; done) | (simp; omega) | (simp at *; omega))) | refine below_drewN ?_ _ | (refine below_call (by assumption) ?_ ?_; focus (first | omega | (simp; done) | (simp; omega) | (simp at *; omega))) | (refine below_call' (by assumption) ?_ ?_; focus (first | omega | (simp; done) | (simp; omega) | (simp at *; omega)))))⟩
  · have H3 := Lib.hid h3
    have h3' : 12 < (l.length : Int) := by omega
    clear h3
    go_enter Try.func52, Try.ntmps52
    go_wp2_with (go_at_call 23; refine (Within_any _ _ _ _).mono ?_; rintro e w' ⟨rfl, rfl⟩; rw [H1.out])
    go_ret2
    exact ⟨ret_eq (by rw [HI.out, HE.out, HH.out, H1.out, H2d.out]; simp [unl, firstE, H3.out]), (by repeat (first | assumption | exact Below.refl _ _ | refine Below.drew ?_ | (refine below_alloc _ ?_ ?_; focus (first | omega | (simp; done) | (simp; omega) | (simp at *; omega))) | (refine below_set _ ?_ ?_; focus (first | omega | (simp; done) | (simp; omega) | (simp at *; omega))) | refine below_drewN ?_ _ | (refine below_call (by assumption) ?_ ?_; focus (first | omega | (simp; done) | (simp; omega) | (simp at *; omega))) | (refine below_call' (by assumption) ?_ ?_; focus (first | omega | (simp; done) | (simp; omega) | (simp at *; omega)))))⟩

def CopyPost (base : Int) (l : List Slb) (w : World) (e : Ending) (w' : World) : Prop :=
  ∃ A' c', e = .returned (.agg #[.int .i64 base, .slice A' l.length c']) ∧ w'.ownsRow w.heap.size 45 2 (.slice A' l.length c') l.length (cellsOf 2 slbC l) ∧ Below w.heap.size w w'

set_option maxHeartbeats 1000000 in
theorem Copy_any (base : Int) (A : Option Addr) (l : List Slb) (cap : Nat) (w : World) (hl : l.length ≤ 100) (hA : SlabsAt w A l) :
    Calls Try.prog 17 #[.agg #[.int .i64 base, .slice A l.length cap]] w (CopyPost base l w) := by
  go_enter Try.func17, Try.ntmps17
  go_wp2
  go_region_held3 (fun w' => w'.cell? ⟨w.heap.size, 0, none⟩ = some (.int .i64 base) ∧ w'.cell? ⟨w.heap.size, 1, none⟩ = some (.slice A l.length cap) ∧ Below w.heap.size w w') (exact ⟨(by repeat (first | assumption | (refine cell_new ?_ rfl; focus (simp; done)) | refine cell_drew ?_ | refine cell_alloc _ ?_ | refine cell_drewN _ ?_ | (refine cell_far ?_ ?_; focus (first | omega | (simp; omega) | (simp; done))) | refine cell_below' (by assumption) ?_)), (by repeat (first | assumption | (refine cell_new ?_ rfl; focus (simp; done)) | refine cell_drew ?_ | refine cell_alloc _ ?_ | refine cell_drewN _ ?_ | (refine cell_far ?_ ?_; focus (first | omega | (simp; omega) | (simp; done))) | refine cell_below' (by assumption) ?_)), (by repeat (first | assumption | exact Below.refl _ _ | refine Below.drew ?_ | (refine below_alloc _ ?_ ?_; focus (first | omega | (simp; done) | (simp; omega) | (simp at *; omega))) | (refine below_set _ ?_ ?_; focus (first | omega | (simp; done) | (simp; omega) | (simp at *; omega))) | refine below_drewN ?_ _ | (refine below_call (by assumption) ?_ ?_; focus (first | omega | (simp; done) | (simp; omega) | (simp at *; omega))) | (refine below_call' (by assumption) ?_ ?_; focus (first | omega | (simp; done) | (simp; omega) | (simp at *; omega)))))⟩) (first | (refine step_appSlab _ rfl (.tmp 5) (.tmp 7) rfl (w.heap.size + 2) _ 0 0 [] rfl (own_empty (by omega) (by repeat (first | assumption | (refine blk_new ?_; focus (simp; done)) | refine blk_drew ?_ | refine blk_alloc _ ?_ | refine blk_drewN _ ?_ | (refine blk_far _ ?_ ?_; focus (first | omega | (simp; omega) | (simp; done))) | refine blk_below' (by assumption) ?_))) A l.length cap (cellsOf 2 slbC l) rfl (cellsOf_length l) (fun e => by subst e; exact RowsAt.nil_len hA) (fun ad e => by subst e; exact RowsAt.news (hA.below (by repeat (first | assumption | exact Below.refl _ _ | refine Below.drew ?_ | (refine below_alloc _ ?_ ?_; focus (first | omega | (simp; done) | (simp; omega) | (simp at *; omega))) | (refine below_set _ ?_ ?_; focus (first | omega | (simp; done) | (simp; omega) | (simp at *; omega))) | refine below_drewN ?_ _ | (refine below_call (by assumption) ?_ ?_; focus (first | omega | (simp; done) | (simp; omega) | (simp at *; omega))) | (refine below_call' (by assumption) ?_ ?_; focus (first | omega | (simp; done) | (simp; omega) | (simp at *; omega)))))) (by decide)) (cellsOf_one slbC_one (by decide) l) (by omega) (by simp) ?_; intro A' c' w1 hown hg _; rw [Nat.zero_add, List.nil_append] at hown; (try rw [Nat.zero_add]); have hb1 : Below w.heap.size w w1 := grown_below hg (by omega) (by omega) (by repeat (first | assumption | exact Below.refl _ _ | refine Below.drew ?_ | (refine below_alloc _ ?_ ?_; focus (first | omega | (simp; done) | (simp; omega) | (simp at *; omega))) | (refine below_set _ ?_ ?_; focus (first | omega | (simp; done) | (simp; omega) | (simp at *; omega))) | refine below_drewN ?_ _ | (refine below_call (by assumption) ?_ ?_; focus (first | omega | (simp; done) | (simp; omega) | (simp at *; omega))) | (refine below_call' (by assumption) ?_ ?_; focus (first | omega | (simp; done) | (simp; omega) | (simp at *; omega))))); have hc0 : w1.cell? ⟨w.heap.size, 0, none⟩ = some (.int .i64 base) := cell_grown hg (by repeat (first | assumption | (refine cell_new ?_ rfl; focus (simp; done)) | refine cell_drew ?_ | refine cell_alloc _ ?_ | refine cell_drewN _ ?_ | (refine cell_far ?_ ?_; focus (first | omega | (simp; omega) | (simp; done))) | refine cell_below' (by assumption) ?_)) (by first | (simp [Value.ownBlock]; done) | (simp [Value.ownBlock]; omega) | omega); have hc1 : w1.cell? ⟨w.heap.size, 1, none⟩ = some (.slice A l.length cap) := cell_grown hg (by repeat (first | assumption | (refine cell_new ?_ rfl; focus (simp; done)) | refine cell_drew ?_ | refine cell_alloc _ ?_ | refine cell_drewN _ ?_ | (refine cell_far ?_ ?_; focus (first | omega | (simp; omega) | (simp; done))) | refine cell_below' (by assumption) ?_)) (by first | (simp [Value.ownBlock]; done) | (simp [Value.ownBlock]; omega) | omega); have hd0 : w1.cell? ⟨w.heap.size + 1, 0, none⟩ = some (.int .i64 0) := cell_grown hg (by repeat (first | assumption | (refine cell_new ?_ rfl; focus (simp; done)) | refine cell_drew ?_ | refine cell_alloc _ ?_ | refine cell_drewN _ ?_ | (refine cell_far ?_ ?_; focus (first | omega | (simp; omega) | (simp; done))) | refine cell_below' (by assumption) ?_)) (by first | (simp [Value.ownBlock]; done) | (simp [Value.ownBlock]; omega) | omega); have hd1 : w1.cell? ⟨w.heap.size + 1, 1, none⟩ = some (.slice none 0 0) := cell_grown hg (by repeat (first | assumption | (refine cell_new ?_ rfl; focus (simp; done)) | refine cell_drew ?_ | refine cell_alloc _ ?_ | refine cell_drewN _ ?_ | (refine cell_far ?_ ?_; focus (first | omega | (simp; omega) | (simp; done))) | refine cell_below' (by assumption) ?_)) (by first | (simp [Value.ownBlock]; done) | (simp [Value.ownBlock]; omega) | omega); have hf0 : w1.frozen? ⟨w.heap.size + 1, 0, none⟩ = false := frozen_grown hg (by repeat (first | assumption | (refine frozen_new ?_; focus (simp; done)) | refine frozen_drew ?_ | (refine frozen_alloc _ ?_ ?_; focus (first | (simp; done) | (simp; omega))) | refine frozen_drewN _ ?_ | refine frozen_set _ _ ?_ | (refine frozen_below (by assumption) ?_ ?_; focus (first | (simp; done) | (simp; omega))))) (by first | (simp [Value.ownBlock]; done) | (simp [Value.ownBlock]; omega) | omega) (by first | (simp [Value.ownBlock]; done) | (simp [Value.ownBlock]; omega) | omega); have hf1 : w1.frozen? ⟨w.heap.size + 1, 1, none⟩ = false := frozen_grown hg (by repeat (first | assumption | (refine frozen_new ?_; focus (simp; done)) | refine frozen_drew ?_ | (refine frozen_alloc _ ?_ ?_; focus (first | (simp; done) | (simp; omega))) | refine frozen_drewN _ ?_ | refine frozen_set _ _ ?_ | (refine frozen_below (by assumption) ?_ ?_; focus (first | (simp; done) | (simp; omega))))) (by first | (simp [Value.ownBlock]; done) | (simp [Value.ownBlock]; omega) | omega) (by first | (simp [Value.ownBlock]; done) | (simp [Value.ownBlock]; omega) | omega); clear hg))
  go_wp2
  refine bodyPost_ret (v := .agg #[.int .i64 base, .slice A' l.length c']) (by simp [results, Try.results17, go_sem, hd0, hd1]) rfl ⟨A', c', rfl, own_mono (ownsRow_setCell_below (ownsRow_setCell_below hown (by simp) _) (by simp) _) (by omega), (by repeat (first | assumption | exact Below.refl _ _ | refine Below.drew ?_ | (refine below_alloc _ ?_ ?_; focus (first | omega | (simp; done) | (simp; omega) | (simp at *; omega))) | (refine below_set _ ?_ ?_; focus (first | omega | (simp; done) | (simp; omega) | (simp at *; omega))) | refine below_drewN ?_ _ | (refine below_call (by assumption) ?_ ?_; focus (first | omega | (simp; done) | (simp; omega) | (simp at *; omega))) | (refine below_call' (by assumption) ?_ ?_; focus (first | omega | (simp; done) | (simp; omega) | (simp at *; omega)))))⟩
end Go.Proofs.Ytoegpaolbkcleaa
