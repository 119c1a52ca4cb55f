/-
  The walk of ProfileLaminations.
-/
import Derived.Test.YtoegpaolbkcleaaHtsR
import Derived.Test.YtoegpaolbkcleaaCkR
import Derived.Test.YtoegpaolbkcleaaAwk
namespace Go.Proofs.Ytoegpaolbkcleaa
open Go.ChangeShapes Go.WideShapes Go.ChangeAt Go.RowKit
set_option linter.unusedVariables false
set_option linter.unusedSimpArgs false

theorem lamGo_said (l : List Pt) (after width : Int) (p0 : Pt) : ∀ (r : List Pt) (k : Nat) (out : List Rng), ((lamGo l after width p0 r k out).2.2 = true → (lamGo l after width p0 r k out).2.1 = 0) ∧ ((lamGo l after width p0 r k out).2.2 = false → (lamGo l after width p0 r k out).1 = [])
  | [], k, out => by simp [lamGo]
  | p :: r, k, out => by
    unfold lamGo
    split
    · simp
    · exact lamGo_said l after width p0 r (k + 1) _
theorem lam_said (l : List Pt) (after width : Int) : ((lam l after width).2.2 = true → (lam l after width).2.1 = 0) ∧ ((lam l after width).2.2 = false → (lam l after width).1 = []) := lamGo_said ..

set_option maxRecDepth 100000 in
set_option maxHeartbeats 2000000 in
theorem ProfileLaminations_any (A : Option Addr) (l : List Pt) (cap : Nat) (after width : Int) (w : World) (hcap : l.length ≤ cap) (hA : PtsAt w A l) :
    Calls Try.prog 6 #[.agg #[.slice A l.length cap, .int .i64 after, .int .i64 width]] w fun e w' => e = .returned (.bool true) ∧ Below w.heap.size w w' := by
  go_enter Try.func6, Try.ntmps6
  go_wp2_with (fail)
  refine (awake_any _).mono ?_
  rintro e w1 ⟨rfl, hb1⟩
  have hz1 : w.heap.size < w1.heap.size := by have := hb1.size; simp at this; omega
  have a0 : w1.cell? ⟨w.heap.size, 0, none⟩ = some (.slice A l.length cap) := cell_below' hb1 (by repeat (first | assumption | (refine cell_new ?_ rfl; focus (simp; done)) | refine cell_drew ?_ | refine cell_alloc _ ?_ | refine cell_drewN _ ?_ | (refine cell_far ?_ ?_; focus (first | omega | (simp; omega) | (simp; done))) | refine cell_below' (by assumption) ?_))
  have a1 : w1.cell? ⟨w.heap.size, 1, none⟩ = some (.int .i64 after) := cell_below' hb1 (by repeat (first | assumption | (refine cell_new ?_ rfl; focus (simp; done)) | refine cell_drew ?_ | refine cell_alloc _ ?_ | refine cell_drewN _ ?_ | (refine cell_far ?_ ?_; focus (first | omega | (simp; omega) | (simp; done))) | refine cell_below' (by assumption) ?_))
  have a2 : w1.cell? ⟨w.heap.size, 2, none⟩ = some (.int .i64 width) := cell_below' hb1 (by repeat (first | assumption | (refine cell_new ?_ rfl; focus (simp; done)) | refine cell_drew ?_ | refine cell_alloc _ ?_ | refine cell_drewN _ ?_ | (refine cell_far ?_ ?_; focus (first | omega | (simp; omega) | (simp; done))) | refine cell_below' (by assumption) ?_))
  have hbw1 : Below w.heap.size w w1 := (by repeat (first | assumption | exact Below.refl _ _ | refine Below.drew ?_ | (refine below_alloc _ ?_ ?_; focus (first | omega | (simp; done) | (simp; omega) | (simp at *; omega))) | (refine below_set _ ?_ ?_; focus (first | omega | (simp; done) | (simp; omega) | (simp at *; omega))) | refine below_drewN ?_ _ | (refine below_call (by assumption) ?_ ?_; focus (first | omega | (simp; done) | (simp; omega) | (simp at *; omega))) | (refine below_call' (by assumption) ?_ ?_; focus (first | omega | (simp; done) | (simp; omega) | (simp at *; omega)))))
  have hA1 := hA.below hbw1
  clear hb1
  go_wp2_with (fail)
  refine (FewPoints_any A l.length cap after width _).mono ?_
  rintro e w2 ⟨rfl, hb2⟩
  (have hz2 : w.heap.size < w2.heap.size := (by have := hb2.size; omega); replace a0 := cell_below' hb2 a0; replace a1 := cell_below' hb2 a1; replace a2 := cell_below' hb2 a2; have hA2 := hA1.below hb2; have hbw2 : Below w.heap.size w w2 := (by repeat (first | assumption | exact Below.refl _ _ | refine Below.drew ?_ | (refine below_alloc _ ?_ ?_; focus (first | omega | (simp; done) | (simp; omega) | (simp at *; omega))) | (refine below_set _ ?_ ?_; focus (first | omega | (simp; done) | (simp; omega) | (simp at *; omega))) | refine below_drewN ?_ _ | (refine below_call (by assumption) ?_ ?_; focus (first | omega | (simp; done) | (simp; omega) | (simp at *; omega))) | (refine below_call' (by assumption) ?_ ?_; focus (first | omega | (simp; done) | (simp; omega) | (simp at *; omega))))))
  clear hb2 hbw1 hA1
  by_cases hf : (l.length : Int) ≤ 10
  · have hl : l.length ≤ 100 := by omega
    (go_wp2_with (fail); refine (CopyTrace_any A l cap after width _ hl hA2).mono ?_; rintro e w3 ⟨A3, c3, rfl, own3, hb3⟩; have hS3 : PtsAt w3 A3 l := rowsAt_of_own own3 rfl (by decide); have hc3 := own_cap' own3; (have hz3 : w.heap.size < w3.heap.size := (by have := hb3.size; omega); replace a0 := cell_below' hb3 a0; replace a1 := cell_below' hb3 a1; replace a2 := cell_below' hb3 a2; have hA3 := hA2.below hb3; have hbw3 : Below w.heap.size w w3 := (by repeat (first | assumption | exact Below.refl _ _ | refine Below.drew ?_ | (refine below_alloc _ ?_ ?_; focus (first | omega | (simp; done) | (simp; omega) | (simp at *; omega))) | (refine below_set _ ?_ ?_; focus (first | omega | (simp; done) | (simp; omega) | (simp at *; omega))) | refine below_drewN ?_ _ | (refine below_call (by assumption) ?_ ?_; focus (first | omega | (simp; done) | (simp; omega) | (simp at *; omega))) | (refine below_call' (by assumption) ?_ ?_; focus (first | omega | (simp; done) | (simp; omega) | (simp at *; omega)))))))
    clear hb3 hbw2 hA2 own3
    go_wp2_with (fail)
    refine (CheckTrace_any A3 l c3 after width _ hl hS3).mono ?_
    rintro e w4 ⟨rfl, hb4⟩
    (have hz4 : w.heap.size < w4.heap.size := (by have := hb4.size; omega); replace a0 := cell_below' hb4 a0; replace a1 := cell_below' hb4 a1; replace a2 := cell_below' hb4 a2; have hA4 := hA3.below hb4; have hbw4 : Below w.heap.size w w4 := (by repeat (first | assumption | exact Below.refl _ _ | refine Below.drew ?_ | (refine below_alloc _ ?_ ?_; focus (first | omega | (simp; done) | (simp; omega) | (simp at *; omega))) | (refine below_set _ ?_ ?_; focus (first | omega | (simp; done) | (simp; omega) | (simp at *; omega))) | refine below_drewN ?_ _ | (refine below_call (by assumption) ?_ ?_; focus (first | omega | (simp; done) | (simp; omega) | (simp at *; omega))) | (refine below_call' (by assumption) ?_ ?_; focus (first | omega | (simp; done) | (simp; omega) | (simp at *; omega))))))
    clear hb4 hbw3 hA3 hS3
    (go_wp2_with (fail); refine (CopyTrace_any A l cap after width _ hl hA4).mono ?_; rintro e w5 ⟨A5, c5, rfl, own5, hb5⟩; have hS5 : PtsAt w5 A5 l := rowsAt_of_own own5 rfl (by decide); have hc5 := own_cap' own5; (have hz5 : w.heap.size < w5.heap.size := (by have := hb5.size; omega); replace a0 := cell_below' hb5 a0; replace a1 := cell_below' hb5 a1; replace a2 := cell_below' hb5 a2; have hA5 := hA4.below hb5; have hbw5 : Below w.heap.size w w5 := (by repeat (first | assumption | exact Below.refl _ _ | refine Below.drew ?_ | (refine below_alloc _ ?_ ?_; focus (first | omega | (simp; done) | (simp; omega) | (simp at *; omega))) | (refine below_set _ ?_ ?_; focus (first | omega | (simp; done) | (simp; omega) | (simp at *; omega))) | refine below_drewN ?_ _ | (refine below_call (by assumption) ?_ ?_; focus (first | omega | (simp; done) | (simp; omega) | (simp at *; omega))) | (refine below_call' (by assumption) ?_ ?_; focus (first | omega | (simp; done) | (simp; omega) | (simp at *; omega)))))))
    clear hb5 hbw4 hA4 own5
    go_wp2_with (fail)
    refine (Laminated_any A5 l c5 after width _ hl hc5 hS5).mono ?_
    rintro e w6 ⟨AL, cL, rfl, ownL, hb6⟩
    have hL : RngsAt w6 AL (lamdOut l after width) := rowsAt_of_own ownL rfl (by decide)
    (have hz6 : w.heap.size < w6.heap.size := (by have := hb6.size; omega); replace a0 := cell_below' hb6 a0; replace a1 := cell_below' hb6 a1; replace a2 := cell_below' hb6 a2; have hA6 := hA5.below hb6; have hbw6 : Below w.heap.size w w6 := (by repeat (first | assumption | exact Below.refl _ _ | refine Below.drew ?_ | (refine below_alloc _ ?_ ?_; focus (first | omega | (simp; done) | (simp; omega) | (simp at *; omega))) | (refine below_set _ ?_ ?_; focus (first | omega | (simp; done) | (simp; omega) | (simp at *; omega))) | refine below_drewN ?_ _ | (refine below_call (by assumption) ?_ ?_; focus (first | omega | (simp; done) | (simp; omega) | (simp at *; omega))) | (refine below_call' (by assumption) ?_ ?_; focus (first | omega | (simp; done) | (simp; omega) | (simp at *; omega))))))
    clear hb6 hbw5 hA5 hS5 ownL
    (go_wp2_with (fail); refine (CopyTrace_any A l cap after width _ hl hA6).mono ?_; rintro e w7 ⟨A7, c7, rfl, own7, hb7⟩; have hS7 : PtsAt w7 A7 l := rowsAt_of_own own7 rfl (by decide); have hc7 := own_cap' own7; (have hz7 : w.heap.size < w7.heap.size := (by have := hb7.size; omega); replace a0 := cell_below' hb7 a0; replace a1 := cell_below' hb7 a1; replace a2 := cell_below' hb7 a2; have hA7 := hA6.below hb7; have hbw7 : Below w.heap.size w w7 := (by repeat (first | assumption | exact Below.refl _ _ | refine Below.drew ?_ | (refine below_alloc _ ?_ ?_; focus (first | omega | (simp; done) | (simp; omega) | (simp at *; omega))) | (refine below_set _ ?_ ?_; focus (first | omega | (simp; done) | (simp; omega) | (simp at *; omega))) | refine below_drewN ?_ _ | (refine below_call (by assumption) ?_ ?_; focus (first | omega | (simp; done) | (simp; omega) | (simp at *; omega))) | (refine below_call' (by assumption) ?_ ?_; focus (first | omega | (simp; done) | (simp; omega) | (simp at *; omega)))))))
    replace hL := RowsAt.below hL hb7
    clear hb7 hbw6 hA6 own7
    go_wp2_with (fail)
    refine (HeightsOf_any A7 l c7 after width _ hl hc7 hS7).mono ?_
    rintro e w8 ⟨AH, cH, rfl, ownH, hb8⟩
    have hH : RngsAt w8 AH (htsV l after width) := rowsAt_of_own ownH rfl (by decide)
    replace hL := RowsAt.below hL hb8
    (have hz8 : w.heap.size < w8.heap.size := (by have := hb8.size; omega); replace a0 := cell_below' hb8 a0; replace a1 := cell_below' hb8 a1; replace a2 := cell_below' hb8 a2; have hA8 := hA7.below hb8; have hbw8 : Below w.heap.size w w8 := (by repeat (first | assumption | exact Below.refl _ _ | refine Below.drew ?_ | (refine below_alloc _ ?_ ?_; focus (first | omega | (simp; done) | (simp; omega) | (simp at *; omega))) | (refine below_set _ ?_ ?_; focus (first | omega | (simp; done) | (simp; omega) | (simp at *; omega))) | refine below_drewN ?_ _ | (refine below_call (by assumption) ?_ ?_; focus (first | omega | (simp; done) | (simp; omega) | (simp at *; omega))) | (refine below_call' (by assumption) ?_ ?_; focus (first | omega | (simp; done) | (simp; omega) | (simp at *; omega))))))
    clear hb8 hbw7 hA7 hS7 ownH
    go_wp2_with (fail)
    refine (CheckTraceR_any A l cap after width _ hl hA8).mono ?_
    rintro e w9 ⟨rfl, hb9⟩
    replace hL := RowsAt.below hL hb9
    replace hH := RowsAt.below hH hb9
    (have hz9 : w.heap.size < w9.heap.size := (by have := hb9.size; omega); replace a0 := cell_below' hb9 a0; replace a1 := cell_below' hb9 a1; replace a2 := cell_below' hb9 a2; have hA9 := hA8.below hb9; have hbw9 : Below w.heap.size w w9 := (by repeat (first | assumption | exact Below.refl _ _ | refine Below.drew ?_ | (refine below_alloc _ ?_ ?_; focus (first | omega | (simp; done) | (simp; omega) | (simp at *; omega))) | (refine below_set _ ?_ ?_; focus (first | omega | (simp; done) | (simp; omega) | (simp at *; omega))) | refine below_drewN ?_ _ | (refine below_call (by assumption) ?_ ?_; focus (first | omega | (simp; done) | (simp; omega) | (simp at *; omega))) | (refine below_call' (by assumption) ?_ ?_; focus (first | omega | (simp; done) | (simp; omega) | (simp at *; omega))))))
    clear hb9 hbw8 hA8
    have he : chkTE l after width = (chkT l after width).2 := rfl
    have h1 : lamdE l after width = if chkTE l after width ≠ 0 then chkTE l after width else unl (lam l after width).2.2 13 := rfl
    have h2 : lamdOut l after width = if chkTE l after width ≠ 0 then [] else (lam l after width).1 := rfl
    have h3 : lamdAt l after width = if chkTE l after width ≠ 0 then 0 else (lam l after width).2.1 := rfl
    have h4 : htsV l after width = if lamdE l after width = 0 then hts l after width (lam l after width).1 else [] := rfl
    by_cases h0 : chkTE l after width = 0
    · have HO := Lib.hid (okT_of_chk h0)
      rw [if_neg (by simp [h0])] at h1 h2 h3
      rw [he] at h0
      have HS := Lib.hid (lam_said l after width)
      have HK := Lib.hid (lam_ok HO.out)
      rw [h2] at hL
      rw [h2, h3, h0]
      clear h2 h3
      have H1 := Lib.hid h1
      have H4 := Lib.hid h4
      clear h1 h4 he h0
      generalize (chkT l after width).1 = i1 at *
      go_wp2_with (fail)
      refine (RLaminated_any A l cap after width _ HO.out hA9).mono ?_
      rintro e w10 ⟨AR, cR, rfl, ownR, hb10⟩
      have hR : RngsAt w10 AR (lam l after width).1 := rowsAt_of_own ownR rfl (by decide)
      replace hL := RowsAt.below hL hb10
      replace hH := RowsAt.below hH hb10
      (have hz10 : w.heap.size < w10.heap.size := (by have := hb10.size; omega); replace a0 := cell_below' hb10 a0; replace a1 := cell_below' hb10 a1; replace a2 := cell_below' hb10 a2; have hA10 := hA9.below hb10; have hbw10 : Below w.heap.size w w10 := (by repeat (first | assumption | exact Below.refl _ _ | refine Below.drew ?_ | (refine below_alloc _ ?_ ?_; focus (first | omega | (simp; done) | (simp; omega) | (simp at *; omega))) | (refine below_set _ ?_ ?_; focus (first | omega | (simp; done) | (simp; omega) | (simp at *; omega))) | refine below_drewN ?_ _ | (refine below_call (by assumption) ?_ ?_; focus (first | omega | (simp; done) | (simp; omega) | (simp at *; omega))) | (refine below_call' (by assumption) ?_ ?_; focus (first | omega | (simp; done) | (simp; omega) | (simp at *; omega))))))
      clear hb10 hbw9 hA9 ownR
      generalize lam l after width = q at *
      obtain ⟨q1, q2, q3⟩ := q
      simp only at hR hL
      cases q3
      · have e1 : q1 = [] := HS.out.2 rfl
        have e2 : lamdE l after width = 13 := H1.out
        have e3 : htsV l after width = [] := by rw [H4.out, e2]; rfl
        rw [e2, e3, e1]
        clear e1 e2 e3
        go_wp2
        go_ret
        exact ⟨rfl, (by repeat (first | assumption | exact Below.refl _ _ | refine Below.drew ?_ | (refine below_alloc _ ?_ ?_; focus (first | omega | (simp; done) | (simp; omega) | (simp at *; omega))) | (refine below_set _ ?_ ?_; focus (first | omega | (simp; done) | (simp; omega) | (simp at *; omega))) | refine below_drewN ?_ _ | (refine below_call (by assumption) ?_ ?_; focus (first | omega | (simp; done) | (simp; omega) | (simp at *; omega))) | (refine below_call' (by assumption) ?_ ?_; focus (first | omega | (simp; done) | (simp; omega) | (simp at *; omega)))))⟩
      · have e1 : q2 = 0 := HS.out.1 rfl
        have e2 : lamdE l after width = 0 := H1.out
        have e3 : htsV l after width = hts l after width q1 := by rw [H4.out, e2]; rfl
        have hlen := hts_len l after width q1
        obtain ⟨hRB, h8⟩ := HK.out
        have HRB := Lib.hid hRB
        rw [e3] at hH
        rw [e2, e3, e1]
        clear e1 e2 e3 hRB
        simp only at h8
        have hh : (hts l after width q1).length ≤ 100 := by omega
        clear hlen
        have hr1 : ∀ W, RngsAt W AL q1 → RngsAt W AR q1 → Calls Try.prog 34 #[.slice AL q1.length cL, .slice AR q1.length cR] W fun e w' => e = .returned (.bool true) ∧ Below W.heap.size W w' := fun W x y => (Ranges_any AL AR q1 q1 cL cR W (by omega) (by omega) x y).mono fun _ _ ⟨e, hb⟩ => ⟨by rw [e]; simp, hb⟩
        have HR1 := Lib.hid hr1
        clear hr1
        go_wp2_with (fail)
        refine (HR1.out _ hL hR).mono ?_
        rintro e w11 ⟨rfl, hb11⟩
        replace hR := RowsAt.below hR hb11
        replace hH := RowsAt.below hH hb11
        (have hz11 : w.heap.size < w11.heap.size := (by have := hb11.size; omega); replace a0 := cell_below' hb11 a0; replace a1 := cell_below' hb11 a1; replace a2 := cell_below' hb11 a2; have hA11 := hA10.below hb11; have hbw11 : Below w.heap.size w w11 := (by repeat (first | assumption | exact Below.refl _ _ | refine Below.drew ?_ | (refine below_alloc _ ?_ ?_; focus (first | omega | (simp; done) | (simp; omega) | (simp at *; omega))) | (refine below_set _ ?_ ?_; focus (first | omega | (simp; done) | (simp; omega) | (simp at *; omega))) | refine below_drewN ?_ _ | (refine below_call (by assumption) ?_ ?_; focus (first | omega | (simp; done) | (simp; omega) | (simp at *; omega))) | (refine below_call' (by assumption) ?_ ?_; focus (first | omega | (simp; done) | (simp; omega) | (simp at *; omega))))))
        clear hb11 hbw10 hA10
        go_wp2_with (fail)
        refine (RHeightsOf_any A l cap after width AR q1 cR _ HO.out HRB.out h8 hA11 hR).mono ?_
        rintro e w12 ⟨AZ, cZ, rfl, ownZ, hb12⟩
        have hZ : RngsAt w12 AZ (hts l after width q1) := rowsAt_of_own ownZ rfl (by decide)
        replace hH := RowsAt.below hH hb12
        (have hz12 : w.heap.size < w12.heap.size := (by have := hb12.size; omega); replace a0 := cell_below' hb12 a0; replace a1 := cell_below' hb12 a1; replace a2 := cell_below' hb12 a2; have hA12 := hA11.below hb12; have hbw12 : Below w.heap.size w w12 := (by repeat (first | assumption | exact Below.refl _ _ | refine Below.drew ?_ | (refine below_alloc _ ?_ ?_; focus (first | omega | (simp; done) | (simp; omega) | (simp at *; omega))) | (refine below_set _ ?_ ?_; focus (first | omega | (simp; done) | (simp; omega) | (simp at *; omega))) | refine below_drewN ?_ _ | (refine below_call (by assumption) ?_ ?_; focus (first | omega | (simp; done) | (simp; omega) | (simp at *; omega))) | (refine below_call' (by assumption) ?_ ?_; focus (first | omega | (simp; done) | (simp; omega) | (simp at *; omega))))))
        clear hb12 hbw11 hA11 ownZ HRB
        generalize hts l after width q1 = z at *
        have hr2 : ∀ W, RngsAt W AH z → RngsAt W AZ z → Calls Try.prog 34 #[.slice AH z.length cH, .slice AZ z.length cZ] W fun e w' => e = .returned (.bool true) ∧ Below W.heap.size W w' := fun W x y => (Ranges_any AH AZ z z cH cZ W (by omega) (by omega) x y).mono fun _ _ ⟨e, hb⟩ => ⟨by rw [e]; simp, hb⟩
        have HR2 := Lib.hid hr2
        clear hr2
        go_wp2_with (fail)
        refine (HR2.out _ hH hZ).mono ?_
        rintro e w13 ⟨rfl, hb13⟩
        go_wp2
        go_ret
        exact ⟨rfl, (by repeat (first | assumption | exact Below.refl _ _ | refine Below.drew ?_ | (refine below_alloc _ ?_ ?_; focus (first | omega | (simp; done) | (simp; omega) | (simp at *; omega))) | (refine below_set _ ?_ ?_; focus (first | omega | (simp; done) | (simp; omega) | (simp at *; omega))) | refine below_drewN ?_ _ | (refine below_call (by assumption) ?_ ?_; focus (first | omega | (simp; done) | (simp; omega) | (simp at *; omega))) | (refine below_call' (by assumption) ?_ ?_; focus (first | omega | (simp; done) | (simp; omega) | (simp at *; omega)))))⟩
    · rw [if_pos h0] at h1 h2 h3
      rw [h1, if_neg h0] at h4
      rw [h1, h2, h3, h4, he]
      rw [he] at h0
      clear h1 h2 h3 h4 he
      generalize chkT l after width = q at *
      obtain ⟨q1, q2⟩ := q
      simp only at h0
      have h0' : (q2 == 0) = false := by simpa using h0
      have h0'' : (q2 != 0) = true := by simpa using h0
      clear h0 hL hH
      go_wp2
      go_ret
      exact ⟨rfl, (by repeat (first | assumption | exact Below.refl _ _ | refine Below.drew ?_ | (refine below_alloc _ ?_ ?_; focus (first | omega | (simp; done) | (simp; omega) | (simp at *; omega))) | (refine below_set _ ?_ ?_; focus (first | omega | (simp; done) | (simp; omega) | (simp at *; omega))) | refine below_drewN ?_ _ | (refine below_call (by assumption) ?_ ?_; focus (first | omega | (simp; done) | (simp; omega) | (simp at *; omega))) | (refine below_call' (by assumption) ?_ ?_; focus (first | omega | (simp; done) | (simp; omega) | (simp at *; omega)))))⟩
  · have hfd : decide ((l.length : Int) ≤ 10) = false := by simpa using hf
    go_wp2
    go_ret
    exact ⟨rfl, (by repeat (first | assumption | exact Below.refl _ _ | refine Below.drew ?_ | (refine below_alloc _ ?_ ?_; focus (first | omega | (simp; done) | (simp; omega) | (simp at *; omega))) | (refine below_set _ ?_ ?_; focus (first | omega | (simp; done) | (simp; omega) | (simp at *; omega))) | refine below_drewN ?_ _ | (refine below_call (by assumption) ?_ ?_; focus (first | omega | (simp; done) | (simp; omega) | (simp at *; omega))) | (refine below_call' (by assumption) ?_ ?_; focus (first | omega | (simp; done) | (simp; omega) | (simp at *; omega)))))⟩
end Go.Proofs.Ytoegpaolbkcleaa
