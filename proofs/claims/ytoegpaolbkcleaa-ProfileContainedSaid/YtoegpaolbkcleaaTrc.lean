/-
  The walks of the checks of traces, and of the small functions of a trace.
-/
import Derived.Test.YtoegpaolbkcleaaOrd
import Derived.StillTailTactics
import Derived.BigQuiet
import Derived.Test.YtoegpaolbkcleaaVirtR
import Derived.Deep.DeepCutAuto
namespace Go.Proofs.Ytoegpaolbkcleaa
open Go.ChangeShapes Go.WideShapes Go.ChangeAt Go.RowKit
set_option linter.unusedVariables false
set_option linter.unusedSimpArgs false

theorem still_of {P : Program} {f : FuncId} {args : Array Value} {w : World} {v : Value} (h : Calls P f args w fun e w' => e = .returned v ∧ w = w') : Calls P f args w fun e w' => e = .returned v ∧ w' = w :=
  h.mono fun _ _ ⟨he, hw⟩ => ⟨he, hw.symm⟩
structure Pt where
  f : Int
  lo : Int
  hi : Int
def ptC (x : Pt) : Nat → Value
  | 0 => .int .i64 x.f
  | 1 => .int .i64 x.lo
  | _ => .int .i64 x.hi
abbrev PtsAt := RowsAt 3 ptC
theorem PtsAt.at_ {w : World} {A : Option Addr} {l : List Pt} (h : PtsAt w A l) {k : Nat} (hk : k < l.length) :
    ∃ b off, A = some ⟨b, off, none⟩ ∧ b < w.heap.size ∧ w.cell? ⟨b, off + k * 3, none⟩ = some (.int .i64 l[k].f) ∧ w.cell? ⟨b, off + k * 3 + 1, none⟩ = some (.int .i64 l[k].lo) ∧ w.cell? ⟨b, off + k * 3 + 2, none⟩ = some (.int .i64 l[k].hi) := by
  obtain ⟨b, off, e, hb, hc⟩ := h k l[k] (List.getElem?_eq_getElem hk)
  exact ⟨b, off, e, hb, hc 0 (by omega), hc 1 (by omega), hc 2 (by omega)⟩
def chkTHead (n : Nat) (after width : Int) : Int := firstE [unl (decide (0 < n)) 10, unl (decide ((n : Int) ≤ 8)) 8, unl (withinB width 0 500) 2, unl (withinB after 0 ((n : Int) - 1)) 6]
def ptE (last : Int) (p : Pt) : Int := firstE [unl (withinB p.f 1 3000) 2, unl (withinB p.lo 0 20000 && withinB p.hi 0 20000) 2, unl (decide (p.lo ≤ p.hi) && decide (last < p.f)) 9]
def badPt : List Pt → Int → Int → Int × Int
  | [], _, _ => (0, 0)
  | p :: r, last, i => if ptE last p = 0 then badPt r p.f (i + 1) else (i, ptE last p)
def chkT (l : List Pt) (after width : Int) : Int × Int := if chkTHead l.length after width ≠ 0 then (0, chkTHead l.length after width) else badPt l 0 0
def chkTE (l : List Pt) (after width : Int) : Int := (chkT l after width).2

theorem isHeight_any (n : Int) (w : World) :
    Calls Try.prog 79 #[.int .i64 n] w fun e w' => e = .returned (.bool (withinB n 0 20000)) ∧ w = w' := by
  go_enter Try.func79, Try.ntmps79
  go_wp2_with (go_at_call 75; refine (within_any _ _ _ _).mono ?_; rintro e w' ⟨rfl, rfl⟩)
  go_ret
  exact ⟨rfl, rfl⟩

theorem isHeight_true {n : Int} {w : World} (h : withinB n 0 20000 = true) :
    Calls Try.prog 79 #[.int .i64 n] w fun e w' => e = .returned (.bool true) ∧ w = w' := h ▸ isHeight_any n w
theorem isHeight_false {n : Int} {w : World} (h : withinB n 0 20000 = false) :
    Calls Try.prog 79 #[.int .i64 n] w fun e w' => e = .returned (.bool false) ∧ w = w' := h ▸ isHeight_any n w
set_option maxRecDepth 100000 in
set_option maxHeartbeats 2000000 in
theorem CheckTrace_any (A : Option Addr) (l : List Pt) (cap : Nat) (after width : Int) (w : World) (hl : l.length ≤ 100) (hA : PtsAt w A l) :
    Calls Try.prog 28 #[.agg #[.slice A l.length cap, .int .i64 after, .int .i64 width]] w fun e w' => e = .returned (.tuple #[.int .i64 (chkT l after width).1, .int .i64 (chkT l after width).2]) ∧ Below w.heap.size w w' := by
  have hc : chkT l after width = if chkTHead l.length after width ≠ 0 then (0, chkTHead l.length after width) else badPt l 0 0 := rfl
  have hh : chkTHead l.length after width = firstE [unl (decide (0 < l.length)) 10, unl (decide ((l.length : Int) ≤ 8)) 8, unl (withinB width 0 500) 2, unl (withinB after 0 ((l.length : Int) - 1)) 6] := rfl
  have HC := Lib.hid hc
  have HH := Lib.hid hh
  clear hc hh
  go_enter Try.func28, Try.ntmps28
  go_wp2
  (refine region_extx 22 (by kernel_rfl) (by kernel_rfl) fun hx => ?_; simp only [List.take_succ_cons, List.take_zero, List.drop_succ_cons, List.drop_zero]; (repeat (any_goals (first | go_big_quiet_step (first | (go_at_call 74; exact ext_same (unless_any _ _ _)) | (go_at_call 78; exact ext_same (isThickness_any _ _)) | (go_at_call 75; exact ext_same (within_any _ _ _ _))) | quiet_step (first | (go_at_call 74; exact ext_same (unless_any _ _ _)) | (go_at_call 78; exact ext_same (isThickness_any _ _)) | (go_at_call 75; exact ext_same (within_any _ _ _ _)))))))
  (refine wpQuiet_nil ?_; clear hx; intro u; have hbw2 := ext_bel _ u; have hxw2 := ext_cell _ u; generalize ext _ u = w2 at *; clear u; have hsw2 := hbw2.size; (try simp at hsw2))
  have hl2 : w.heap.size < w2.heap.size := by omega
  go_wp2_with (fail)
  refine (first4 (unl (decide (0 < l.length)) 10) (unl (decide ((l.length : Int) ≤ 8)) 8) (unl (withinB width 0 500) 2) (unl (withinB after 0 ((l.length : Int) - 1)) 6) _ _ (by simp) (by repeat (first | assumption | (refine cell_new ?_ rfl; focus (simp; done)) | refine cell_drew ?_ | refine cell_alloc _ ?_ | refine cell_drewN _ ?_ | (refine cell_far ?_ ?_; focus (first | omega | (simp; omega) | (simp; done))) | refine cell_below' (by assumption) ?_)) (by repeat (first | assumption | (refine cell_new ?_ rfl; focus (simp; done)) | refine cell_drew ?_ | refine cell_alloc _ ?_ | refine cell_drewN _ ?_ | (refine cell_far ?_ ?_; focus (first | omega | (simp; omega) | (simp; done))) | refine cell_below' (by assumption) ?_)) (by repeat (first | assumption | (refine cell_new ?_ rfl; focus (simp; done)) | refine cell_drew ?_ | refine cell_alloc _ ?_ | refine cell_drewN _ ?_ | (refine cell_far ?_ ?_; focus (first | omega | (simp; omega) | (simp; done))) | refine cell_below' (by assumption) ?_)) (by repeat (first | assumption | (refine cell_new ?_ rfl; focus (simp; done)) | refine cell_drew ?_ | refine cell_alloc _ ?_ | refine cell_drewN _ ?_ | (refine cell_far ?_ ?_; focus (first | omega | (simp; omega) | (simp; done))) | refine cell_below' (by assumption) ?_))).mono ?_
  rintro e w3 ⟨rfl, rfl⟩
  rw [← HH.out]
  by_cases h0 : chkTHead l.length after width = 0
  · rw [if_neg (by simp [h0])] at HC
    rw [h0]
    clear h0 HH
    go_wp2
    go_loopw [5, 40] (fun a i wr => ∃ (k : Nat) (last : Int), k ≤ l.length ∧ i = .int .i64 k ∧ a = .int .i64 last ∧ badPt l 0 0 = badPt (l.drop k) last k ∧ Below w.heap.size w wr) (fun _ i _ => l.length - (intOf i).toNat)
    case atStart => exact ⟨0, 0, Nat.zero_le _, rfl, rfl, rfl, (by repeat (first | assumption | exact Below.refl _ _ | refine Below.drew ?_ | (refine below_alloc _ ?_ ?_; focus (first | omega | (simp; done) | (simp; omega) | (simp at *; omega))) | (refine below_set _ ?_ ?_; focus (first | omega | (simp; done) | (simp; omega) | (simp at *; omega))) | refine below_drewN ?_ _ | (refine below_call (by assumption) ?_ ?_; focus (first | omega | (simp; done) | (simp; omega) | (simp at *; omega))) | (refine below_call' (by assumption) ?_ ?_; focus (first | omega | (simp; done) | (simp; omega) | (simp at *; omega)))))⟩
    case round =>
      obtain ⟨k, last, hk, rfl, rfl, he, hbw⟩ := hrel
      have H := Lib.hid he
      clear he
      by_cases hlt : k < l.length
      · have hd : l.drop k = l[k] :: l.drop (k + 1) := List.drop_eq_getElem_cons hlt
        rw [hd, badPt] at H
        clear hd
        obtain ⟨b, off, rfl, hb, c1, c2, c3⟩ := PtsAt.at_ (hA.below hbw) hlt
        generalize l[k] = p at *
        cases h1 : withinB p.lo 0 20000 <;> by_cases h2 : p.lo ≤ p.hi
        · have he : ptE last p = firstE [unl (withinB p.f 1 3000) 2, unl false 2, unl (decide (last < p.f)) 9] := by unfold ptE; simp [h1, h2]
          have HE := Lib.hid he
          have H1 := Lib.hid h1
          
          
          clear he h1
          go_wp2
          (refine region_extx 30 (by kernel_rfl) (by kernel_rfl) fun hx => ?_; simp only [List.take_succ_cons, List.take_zero, List.drop_succ_cons, List.drop_zero]; (repeat (any_goals (first | go_big_quiet_step (first | (go_at_call 74; exact ext_same (unless_any _ _ _)) | (go_at_call 69; exact ext_same (frequencyErr_any _ _)) | (go_at_call 79; exact ext_same (isHeight_false H1.out))) | quiet_step (first | (go_at_call 74; exact ext_same (unless_any _ _ _)) | (go_at_call 69; exact ext_same (frequencyErr_any _ _)) | (go_at_call 79; exact ext_same (isHeight_false H1.out)))))))
          (refine wpQuiet_nil ?_; clear hx; intro u; have hbw2 := ext_bel _ u; have hxw2 := ext_cell _ u; generalize ext _ u = w2 at *; clear u; have hsw2 := hbw2.size; (try simp at hsw2))
          have hl2 : wr.heap.size < w2.heap.size := by omega
          go_wp2_with (fail)
          refine (first3 (unl (withinB p.f 1 3000) 2) (unl false 2) (unl (decide (last < p.f)) 9) _ _ (by simp) (by repeat (first | assumption | (refine cell_new ?_ rfl; focus (simp; done)) | refine cell_drew ?_ | refine cell_alloc _ ?_ | refine cell_drewN _ ?_ | (refine cell_far ?_ ?_; focus (first | omega | (simp; omega) | (simp; done))) | refine cell_below' (by assumption) ?_)) (by repeat (first | assumption | (refine cell_new ?_ rfl; focus (simp; done)) | refine cell_drew ?_ | refine cell_alloc _ ?_ | refine cell_drewN _ ?_ | (refine cell_far ?_ ?_; focus (first | omega | (simp; omega) | (simp; done))) | refine cell_below' (by assumption) ?_)) (by repeat (first | assumption | (refine cell_new ?_ rfl; focus (simp; done)) | refine cell_drew ?_ | refine cell_alloc _ ?_ | refine cell_drewN _ ?_ | (refine cell_far ?_ ?_; focus (first | omega | (simp; omega) | (simp; done))) | refine cell_below' (by assumption) ?_))).mono ?_
          rintro e w3 ⟨rfl, rfl⟩
          rw [← HE.out]
          by_cases h3 : ptE last p = 0
          · rw [if_pos h3] at H
            rw [h3]
            clear h3 HE
            go_wp2
            go_roundw
            case rel => exact ⟨k + 1, p.f, by omega, by go_num, rfl, by rw [H.out]; rfl, (by repeat (first | assumption | exact Below.refl _ _ | refine Below.drew ?_ | (refine below_alloc _ ?_ ?_; focus (first | omega | (simp; done) | (simp; omega) | (simp at *; omega))) | (refine below_set _ ?_ ?_; focus (first | omega | (simp; done) | (simp; omega) | (simp at *; omega))) | refine below_drewN ?_ _ | (refine below_call (by assumption) ?_ ?_; focus (first | omega | (simp; done) | (simp; omega) | (simp at *; omega))) | (refine below_call' (by assumption) ?_ ?_; focus (first | omega | (simp; done) | (simp; omega) | (simp at *; omega)))))⟩
            case measure => simp [intOf]; omega
          · rw [if_neg h3] at H
            have h3' : (ptE last p == 0) = false := by simpa using h3
            have h3'' : (ptE last p != 0) = true := by simpa using h3
            clear h3 HE
            go_wp2
            go_ret2
            exact ⟨ret_eq (by rw [HC.out, H.out]; rfl), (by repeat (first | assumption | exact Below.refl _ _ | refine Below.drew ?_ | (refine below_alloc _ ?_ ?_; focus (first | omega | (simp; done) | (simp; omega) | (simp at *; omega))) | (refine below_set _ ?_ ?_; focus (first | omega | (simp; done) | (simp; omega) | (simp at *; omega))) | refine below_drewN ?_ _ | (refine below_call (by assumption) ?_ ?_; focus (first | omega | (simp; done) | (simp; omega) | (simp at *; omega))) | (refine below_call' (by assumption) ?_ ?_; focus (first | omega | (simp; done) | (simp; omega) | (simp at *; omega)))))⟩
        · have he : ptE last p = firstE [unl (withinB p.f 1 3000) 2, unl false 2, unl false 9] := by unfold ptE; simp [h1, h2]
          have HE := Lib.hid he
          have H1 := Lib.hid h1
          have h2d : decide (p.lo ≤ p.hi) = false := by simpa using h2
          clear he h1
          go_wp2
          (refine region_extx 30 (by kernel_rfl) (by kernel_rfl) fun hx => ?_; simp only [List.take_succ_cons, List.take_zero, List.drop_succ_cons, List.drop_zero]; (repeat (any_goals (first | go_big_quiet_step (first | (go_at_call 74; exact ext_same (unless_any _ _ _)) | (go_at_call 69; exact ext_same (frequencyErr_any _ _)) | (go_at_call 79; exact ext_same (isHeight_false H1.out))) | quiet_step (first | (go_at_call 74; exact ext_same (unless_any _ _ _)) | (go_at_call 69; exact ext_same (frequencyErr_any _ _)) | (go_at_call 79; exact ext_same (isHeight_false H1.out)))))))
          (refine wpQuiet_nil ?_; clear hx; intro u; have hbw2 := ext_bel _ u; have hxw2 := ext_cell _ u; generalize ext _ u = w2 at *; clear u; have hsw2 := hbw2.size; (try simp at hsw2))
          have hl2 : wr.heap.size < w2.heap.size := by omega
          go_wp2_with (fail)
          refine (first3 (unl (withinB p.f 1 3000) 2) (unl false 2) (unl false 9) _ _ (by simp) (by repeat (first | assumption | (refine cell_new ?_ rfl; focus (simp; done)) | refine cell_drew ?_ | refine cell_alloc _ ?_ | refine cell_drewN _ ?_ | (refine cell_far ?_ ?_; focus (first | omega | (simp; omega) | (simp; done))) | refine cell_below' (by assumption) ?_)) (by repeat (first | assumption | (refine cell_new ?_ rfl; focus (simp; done)) | refine cell_drew ?_ | refine cell_alloc _ ?_ | refine cell_drewN _ ?_ | (refine cell_far ?_ ?_; focus (first | omega | (simp; omega) | (simp; done))) | refine cell_below' (by assumption) ?_)) (by repeat (first | assumption | (refine cell_new ?_ rfl; focus (simp; done)) | refine cell_drew ?_ | refine cell_alloc _ ?_ | refine cell_drewN _ ?_ | (refine cell_far ?_ ?_; focus (first | omega | (simp; omega) | (simp; done))) | refine cell_below' (by assumption) ?_))).mono ?_
          rintro e w3 ⟨rfl, rfl⟩
          rw [← HE.out]
          by_cases h3 : ptE last p = 0
          · rw [if_pos h3] at H
            rw [h3]
            clear h3 HE
            go_wp2
            go_roundw
            case rel => exact ⟨k + 1, p.f, by omega, by go_num, rfl, by rw [H.out]; rfl, (by repeat (first | assumption | exact Below.refl _ _ | refine Below.drew ?_ | (refine below_alloc _ ?_ ?_; focus (first | omega | (simp; done) | (simp; omega) | (simp at *; omega))) | (refine below_set _ ?_ ?_; focus (first | omega | (simp; done) | (simp; omega) | (simp at *; omega))) | refine below_drewN ?_ _ | (refine below_call (by assumption) ?_ ?_; focus (first | omega | (simp; done) | (simp; omega) | (simp at *; omega))) | (refine below_call' (by assumption) ?_ ?_; focus (first | omega | (simp; done) | (simp; omega) | (simp at *; omega)))))⟩
            case measure => simp [intOf]; omega
          · rw [if_neg h3] at H
            have h3' : (ptE last p == 0) = false := by simpa using h3
            have h3'' : (ptE last p != 0) = true := by simpa using h3
            clear h3 HE
            go_wp2
            go_ret2
            exact ⟨ret_eq (by rw [HC.out, H.out]; rfl), (by repeat (first | assumption | exact Below.refl _ _ | refine Below.drew ?_ | (refine below_alloc _ ?_ ?_; focus (first | omega | (simp; done) | (simp; omega) | (simp at *; omega))) | (refine below_set _ ?_ ?_; focus (first | omega | (simp; done) | (simp; omega) | (simp at *; omega))) | refine below_drewN ?_ _ | (refine below_call (by assumption) ?_ ?_; focus (first | omega | (simp; done) | (simp; omega) | (simp at *; omega))) | (refine below_call' (by assumption) ?_ ?_; focus (first | omega | (simp; done) | (simp; omega) | (simp at *; omega)))))⟩
        · have he : ptE last p = firstE [unl (withinB p.f 1 3000) 2, unl (withinB p.hi 0 20000) 2, unl (decide (last < p.f)) 9] := by unfold ptE; simp [h1, h2]
          have HE := Lib.hid he
          have H1 := Lib.hid h1
          
          
          clear he h1
          go_wp2
          (refine region_extx 30 (by kernel_rfl) (by kernel_rfl) fun hx => ?_; simp only [List.take_succ_cons, List.take_zero, List.drop_succ_cons, List.drop_zero]; (repeat (any_goals (first | go_big_quiet_step (first | (go_at_call 74; exact ext_same (unless_any _ _ _)) | (go_at_call 69; exact ext_same (frequencyErr_any _ _)) | (go_at_call 79; exact ext_same (isHeight_true H1.out)) | (go_at_call 79; exact ext_same (isHeight_any _ _))) | quiet_step (first | (go_at_call 74; exact ext_same (unless_any _ _ _)) | (go_at_call 69; exact ext_same (frequencyErr_any _ _)) | (go_at_call 79; exact ext_same (isHeight_true H1.out)) | (go_at_call 79; exact ext_same (isHeight_any _ _)))))))
          (refine wpQuiet_nil ?_; clear hx; intro u; have hbw2 := ext_bel _ u; have hxw2 := ext_cell _ u; generalize ext _ u = w2 at *; clear u; have hsw2 := hbw2.size; (try simp at hsw2))
          have hl2 : wr.heap.size < w2.heap.size := by omega
          go_wp2_with (fail)
          refine (first3 (unl (withinB p.f 1 3000) 2) (unl (withinB p.hi 0 20000) 2) (unl (decide (last < p.f)) 9) _ _ (by simp) (by repeat (first | assumption | (refine cell_new ?_ rfl; focus (simp; done)) | refine cell_drew ?_ | refine cell_alloc _ ?_ | refine cell_drewN _ ?_ | (refine cell_far ?_ ?_; focus (first | omega | (simp; omega) | (simp; done))) | refine cell_below' (by assumption) ?_)) (by repeat (first | assumption | (refine cell_new ?_ rfl; focus (simp; done)) | refine cell_drew ?_ | refine cell_alloc _ ?_ | refine cell_drewN _ ?_ | (refine cell_far ?_ ?_; focus (first | omega | (simp; omega) | (simp; done))) | refine cell_below' (by assumption) ?_)) (by repeat (first | assumption | (refine cell_new ?_ rfl; focus (simp; done)) | refine cell_drew ?_ | refine cell_alloc _ ?_ | refine cell_drewN _ ?_ | (refine cell_far ?_ ?_; focus (first | omega | (simp; omega) | (simp; done))) | refine cell_below' (by assumption) ?_))).mono ?_
          rintro e w3 ⟨rfl, rfl⟩
          rw [← HE.out]
          by_cases h3 : ptE last p = 0
          · rw [if_pos h3] at H
            rw [h3]
            clear h3 HE
            go_wp2
            go_roundw
            case rel => exact ⟨k + 1, p.f, by omega, by go_num, rfl, by rw [H.out]; rfl, (by repeat (first | assumption | exact Below.refl _ _ | refine Below.drew ?_ | (refine below_alloc _ ?_ ?_; focus (first | omega | (simp; done) | (simp; omega) | (simp at *; omega))) | (refine below_set _ ?_ ?_; focus (first | omega | (simp; done) | (simp; omega) | (simp at *; omega))) | refine below_drewN ?_ _ | (refine below_call (by assumption) ?_ ?_; focus (first | omega | (simp; done) | (simp; omega) | (simp at *; omega))) | (refine below_call' (by assumption) ?_ ?_; focus (first | omega | (simp; done) | (simp; omega) | (simp at *; omega)))))⟩
            case measure => simp [intOf]; omega
          · rw [if_neg h3] at H
            have h3' : (ptE last p == 0) = false := by simpa using h3
            have h3'' : (ptE last p != 0) = true := by simpa using h3
            clear h3 HE
            go_wp2
            go_ret2
            exact ⟨ret_eq (by rw [HC.out, H.out]; rfl), (by repeat (first | assumption | exact Below.refl _ _ | refine Below.drew ?_ | (refine below_alloc _ ?_ ?_; focus (first | omega | (simp; done) | (simp; omega) | (simp at *; omega))) | (refine below_set _ ?_ ?_; focus (first | omega | (simp; done) | (simp; omega) | (simp at *; omega))) | refine below_drewN ?_ _ | (refine below_call (by assumption) ?_ ?_; focus (first | omega | (simp; done) | (simp; omega) | (simp at *; omega))) | (refine below_call' (by assumption) ?_ ?_; focus (first | omega | (simp; done) | (simp; omega) | (simp at *; omega)))))⟩
        · have he : ptE last p = firstE [unl (withinB p.f 1 3000) 2, unl (withinB p.hi 0 20000) 2, unl false 9] := by unfold ptE; simp [h1, h2]
          have HE := Lib.hid he
          have H1 := Lib.hid h1
          have h2d : decide (p.lo ≤ p.hi) = false := by simpa using h2
          clear he h1
          go_wp2
          (refine region_extx 30 (by kernel_rfl) (by kernel_rfl) fun hx => ?_; simp only [List.take_succ_cons, List.take_zero, List.drop_succ_cons, List.drop_zero]; (repeat (any_goals (first | go_big_quiet_step (first | (go_at_call 74; exact ext_same (unless_any _ _ _)) | (go_at_call 69; exact ext_same (frequencyErr_any _ _)) | (go_at_call 79; exact ext_same (isHeight_true H1.out)) | (go_at_call 79; exact ext_same (isHeight_any _ _))) | quiet_step (first | (go_at_call 74; exact ext_same (unless_any _ _ _)) | (go_at_call 69; exact ext_same (frequencyErr_any _ _)) | (go_at_call 79; exact ext_same (isHeight_true H1.out)) | (go_at_call 79; exact ext_same (isHeight_any _ _)))))))
          (refine wpQuiet_nil ?_; clear hx; intro u; have hbw2 := ext_bel _ u; have hxw2 := ext_cell _ u; generalize ext _ u = w2 at *; clear u; have hsw2 := hbw2.size; (try simp at hsw2))
          have hl2 : wr.heap.size < w2.heap.size := by omega
          go_wp2_with (fail)
          refine (first3 (unl (withinB p.f 1 3000) 2) (unl (withinB p.hi 0 20000) 2) (unl false 9) _ _ (by simp) (by repeat (first | assumption | (refine cell_new ?_ rfl; focus (simp; done)) | refine cell_drew ?_ | refine cell_alloc _ ?_ | refine cell_drewN _ ?_ | (refine cell_far ?_ ?_; focus (first | omega | (simp; omega) | (simp; done))) | refine cell_below' (by assumption) ?_)) (by repeat (first | assumption | (refine cell_new ?_ rfl; focus (simp; done)) | refine cell_drew ?_ | refine cell_alloc _ ?_ | refine cell_drewN _ ?_ | (refine cell_far ?_ ?_; focus (first | omega | (simp; omega) | (simp; done))) | refine cell_below' (by assumption) ?_)) (by repeat (first | assumption | (refine cell_new ?_ rfl; focus (simp; done)) | refine cell_drew ?_ | refine cell_alloc _ ?_ | refine cell_drewN _ ?_ | (refine cell_far ?_ ?_; focus (first | omega | (simp; omega) | (simp; done))) | refine cell_below' (by assumption) ?_))).mono ?_
          rintro e w3 ⟨rfl, rfl⟩
          rw [← HE.out]
          by_cases h3 : ptE last p = 0
          · rw [if_pos h3] at H
            rw [h3]
            clear h3 HE
            go_wp2
            go_roundw
            case rel => exact ⟨k + 1, p.f, by omega, by go_num, rfl, by rw [H.out]; rfl, (by repeat (first | assumption | exact Below.refl _ _ | refine Below.drew ?_ | (refine below_alloc _ ?_ ?_; focus (first | omega | (simp; done) | (simp; omega) | (simp at *; omega))) | (refine below_set _ ?_ ?_; focus (first | omega | (simp; done) | (simp; omega) | (simp at *; omega))) | refine below_drewN ?_ _ | (refine below_call (by assumption) ?_ ?_; focus (first | omega | (simp; done) | (simp; omega) | (simp at *; omega))) | (refine below_call' (by assumption) ?_ ?_; focus (first | omega | (simp; done) | (simp; omega) | (simp at *; omega)))))⟩
            case measure => simp [intOf]; omega
          · rw [if_neg h3] at H
            have h3' : (ptE last p == 0) = false := by simpa using h3
            have h3'' : (ptE last p != 0) = true := by simpa using h3
            clear h3 HE
            go_wp2
            go_ret2
            exact ⟨ret_eq (by rw [HC.out, H.out]; rfl), (by repeat (first | assumption | exact Below.refl _ _ | refine Below.drew ?_ | (refine below_alloc _ ?_ ?_; focus (first | omega | (simp; done) | (simp; omega) | (simp at *; omega))) | (refine below_set _ ?_ ?_; focus (first | omega | (simp; done) | (simp; omega) | (simp at *; omega))) | refine below_drewN ?_ _ | (refine below_call (by assumption) ?_ ?_; focus (first | omega | (simp; done) | (simp; omega) | (simp at *; omega))) | (refine below_call' (by assumption) ?_ ?_; focus (first | omega | (simp; done) | (simp; omega) | (simp at *; omega)))))⟩
      · have e : l.drop k = [] := List.drop_eq_nil_of_le (by omega)
        rw [e] at H
        clear e
        go_wp2
        go_ret2
        exact ⟨ret_eq (by rw [HC.out, H.out]; rfl), (by repeat (first | assumption | exact Below.refl _ _ | refine Below.drew ?_ | (refine below_alloc _ ?_ ?_; focus (first | omega | (simp; done) | (simp; omega) | (simp at *; omega))) | (refine below_set _ ?_ ?_; focus (first | omega | (simp; done) | (simp; omega) | (simp at *; omega))) | refine below_drewN ?_ _ | (refine below_call (by assumption) ?_ ?_; focus (first | omega | (simp; done) | (simp; omega) | (simp at *; omega))) | (refine below_call' (by assumption) ?_ ?_; focus (first | omega | (simp; done) | (simp; omega) | (simp at *; omega)))))⟩
  · rw [if_pos h0] at HC
    have h0' : (chkTHead l.length after width == 0) = false := by simpa using h0
    have h0'' : (chkTHead l.length after width != 0) = true := by simpa using h0
    clear h0 HH
    go_wp2
    go_ret2
    exact ⟨ret_eq (by rw [HC.out]; rfl), (by repeat (first | assumption | exact Below.refl _ _ | refine Below.drew ?_ | (refine below_alloc _ ?_ ?_; focus (first | omega | (simp; done) | (simp; omega) | (simp at *; omega))) | (refine below_set _ ?_ ?_; focus (first | omega | (simp; done) | (simp; omega) | (simp at *; omega))) | refine below_drewN ?_ _ | (refine below_call (by assumption) ?_ ?_; focus (first | omega | (simp; done) | (simp; omega) | (simp at *; omega))) | (refine below_call' (by assumption) ?_ ?_; focus (first | omega | (simp; done) | (simp; omega) | (simp at *; omega)))))⟩
end Go.Proofs.Ytoegpaolbkcleaa
