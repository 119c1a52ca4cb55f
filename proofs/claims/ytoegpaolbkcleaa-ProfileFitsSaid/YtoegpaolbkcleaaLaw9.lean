/-
  The walk of ProfileFits.
-/
import Derived.Test.YtoegpaolbkcleaaRFt
import Derived.Test.YtoegpaolbkcleaaShp
import Derived.Test.YtoegpaolbkcleaaCkR
import Derived.Test.YtoegpaolbkcleaaAwk
namespace Go.Proofs.Ytoegpaolbkcleaa
open Go.ChangeShapes Go.WideShapes Go.ChangeAt Go.RowKit
set_option linter.unusedVariables false
set_option linter.unusedSimpArgs false

theorem fitGo_len (l : List Pt) (base : Int) : ∀ (r : List Pt) (k : Nat) (sl : List Slb), (fitGo l base r k sl).1.length ≤ sl.length + r.length + 1
  | [], k, sl => by simp [fitGo]
  | p :: r, k, sl => by
    unfold fitGo
    cases fitTh base sl (fAt l k * fAt l k) p.f p.lo 501 0 with
    | none => simp
    | some t =>
      simp only
      split
      · simp
      · have := fitGo_len l base r (k + 1) (sl ++ [⟨fAt l k * fAt l k, t⟩])
        simp only [List.length_append, List.length_cons, List.length_nil] at this ⊢
        omega
theorem fit_len (l : List Pt) (after width : Int) (h : l.length ≤ 50) : (fit l after width).sl.length ≤ 100 := by
  unfold fit
  split
  · simp
  · have := fitGo_len l (loAt0 l) (l.drop 1) 0 []
    simp at this ⊢
    omega
theorem fit_bad {l : List Pt} {after width : Int} (h : chkTE l after width ≠ 0) : fit l after width = ⟨0, [], 0, chkTE l after width⟩ := by
  have e1 : fitE1 l after width = chkTE l after width := by unfold fitE1; unfold firstE; rw [if_neg h]
  have e2 : fitE2 l after width = chkTE l after width := by unfold fitE2; rw [e1, if_neg h]
  unfold fit
  rw [e2, if_pos h]
theorem fit_said {l : List Pt} {after width : Int} (hc : chkTE l after width = 0) (he : (fit l after width).e = 0) : Ok (fit l after width).base (fit l after width).sl ∧ ∀ z ∈ l.map (ansI (fit l after width).base (fit l after width).sl), z ≠ 0 := by
  have hO := okT_of_chk hc
  have hn0 := hO.n0
  have h2 : fitE2 l after width = 0 := by
    apply Classical.byContradiction
    intro hn
    unfold fit at he
    rw [if_pos hn] at he
    exact hn he
  have hE1 : fitE1 l after width = 0 := by
    apply Classical.byContradiction
    intro hn
    unfold fitE2 at h2
    rw [if_neg hn] at h2
    exact hn h2
  have hb : withinB (loAt0 l) 0 500 = true := by
    unfold fitE2 at h2
    rw [if_pos hE1] at h2
    exact (unl_zero (by decide)).1 h2
  have hlo : loAt0 l = l[0].lo := by unfold loAt0; rw [List.getD_eq_getElem?_getD, List.getElem?_eq_getElem hn0]; rfl
  have hf : fit l after width = ⟨if (fitGo l (loAt0 l) (l.drop 1) 0 []).2.2 = 0 then loAt0 l else 0, (fitGo l (loAt0 l) (l.drop 1) 0 []).1, (fitGo l (loAt0 l) (l.drop 1) 0 []).2.1, (fitGo l (loAt0 l) (l.drop 1) 0 []).2.2⟩ := by unfold fit; rw [if_neg (by simp [h2])]
  rw [hf] at he ⊢
  simp only at he ⊢
  rw [if_pos he]
  have hb' := withinB_true.1 hb
  have hfits := fitGo_law (base := loAt0 l) hn0 (l.drop 1) 0 [] rfl (by omega) ⟨rfl, fun j h => absurd h (by simp), fun j _ h => absurd h (by omega)⟩ he
  refine ⟨fits_ok hO hb'.1 hb'.2 hfits, fun z hz => ?_⟩
  obtain ⟨p, hp, rfl⟩ := List.mem_map.1 hz
  obtain ⟨i, hi, rfl⟩ := List.getElem_of_mem hp
  exact fits_ans hO hb'.1 hb'.2 hfits (fun _ => hlo) hi

set_option maxRecDepth 100000 in
set_option maxHeartbeats 4000000 in
theorem ProfileFits_any (base : Int) (A : Option Addr) (l : List Slb) (cap : Nat) (B : Option Addr) (ps : List Pt) (capB : Nat) (after width : Int) (w : World) (hcap : l.length ≤ cap) (hcapB : ps.length ≤ capB) (hA : SlabsAt w A l) (hB : PtsAt w B ps) :
    Calls Try.prog 9 #[.agg #[.int .i64 base, .slice A l.length cap], .agg #[.slice B ps.length capB, .int .i64 after, .int .i64 width]] w fun e w' => e = .returned (.bool true) ∧ Below w.heap.size w w' := by
  go_enter Try.func9, Try.ntmps9
  go_wp2_with (fail)
  refine (awake_any _).mono ?_
  rintro e w1 ⟨rfl, hb1⟩
  have a0 : w1.cell? ⟨w.heap.size, 0, none⟩ = some (.int .i64 base) := cell_below' hb1 (by repeat (first | assumption | (refine cell_new ?_ rfl; focus (simp; done)) | refine cell_drew ?_ | refine cell_alloc _ ?_ | refine cell_drewN _ ?_ | (refine cell_far ?_ ?_; focus (first | omega | (simp; omega) | (simp; done))) | refine cell_below' (by assumption) ?_))
  have a1 : w1.cell? ⟨w.heap.size, 1, none⟩ = some (.slice A l.length cap) := cell_below' hb1 (by repeat (first | assumption | (refine cell_new ?_ rfl; focus (simp; done)) | refine cell_drew ?_ | refine cell_alloc _ ?_ | refine cell_drewN _ ?_ | (refine cell_far ?_ ?_; focus (first | omega | (simp; omega) | (simp; done))) | refine cell_below' (by assumption) ?_))
  have p0 : w1.cell? ⟨w.heap.size + 1, 0, none⟩ = some (.slice B ps.length capB) := cell_below' hb1 (by repeat (first | assumption | (refine cell_new ?_ rfl; focus (simp; done)) | refine cell_drew ?_ | refine cell_alloc _ ?_ | refine cell_drewN _ ?_ | (refine cell_far ?_ ?_; focus (first | omega | (simp; omega) | (simp; done))) | refine cell_below' (by assumption) ?_))
  have p1 : w1.cell? ⟨w.heap.size + 1, 1, none⟩ = some (.int .i64 after) := cell_below' hb1 (by repeat (first | assumption | (refine cell_new ?_ rfl; focus (simp; done)) | refine cell_drew ?_ | refine cell_alloc _ ?_ | refine cell_drewN _ ?_ | (refine cell_far ?_ ?_; focus (first | omega | (simp; omega) | (simp; done))) | refine cell_below' (by assumption) ?_))
  have p2 : w1.cell? ⟨w.heap.size + 1, 2, none⟩ = some (.int .i64 width) := cell_below' hb1 (by repeat (first | assumption | (refine cell_new ?_ rfl; focus (simp; done)) | refine cell_drew ?_ | refine cell_alloc _ ?_ | refine cell_drewN _ ?_ | (refine cell_far ?_ ?_; focus (first | omega | (simp; omega) | (simp; done))) | refine cell_below' (by assumption) ?_))
  have hz1 : w.heap.size < w1.heap.size := by have := hb1.size; simp at this; omega
  have hy1 : w.heap.size + 1 < w1.heap.size := by have := hb1.size; simp at this; omega
  have hbw1 : Below w.heap.size w w1 := (by repeat (first | assumption | exact Below.refl _ _ | refine Below.drew ?_ | (refine below_alloc _ ?_ ?_; focus (first | omega | (simp; done) | (simp; omega) | (simp at *; omega))) | (refine below_set _ ?_ ?_; focus (first | omega | (simp; done) | (simp; omega) | (simp at *; omega))) | refine below_drewN ?_ _ | (refine below_call (by assumption) ?_ ?_; focus (first | omega | (simp; done) | (simp; omega) | (simp at *; omega))) | (refine below_call' (by assumption) ?_ ?_; focus (first | omega | (simp; done) | (simp; omega) | (simp at *; omega)))))
  clear hb1
  go_wp2_with (fail)
  refine (Few_any base A l.length cap _).mono ?_
  rintro e w2 ⟨rfl, hb2⟩
  replace a0 := cell_below' hb2 a0
  replace a1 := cell_below' hb2 a1
  replace p0 := cell_below' hb2 p0
  replace p1 := cell_below' hb2 p1
  replace p2 := cell_below' hb2 p2
  have hz2 : w.heap.size < w2.heap.size := World.block_lt_of_cell? _ _ a0
  have hy2 : w.heap.size + 1 < w2.heap.size := World.block_lt_of_cell? _ _ p0
  have hbw2 : Below w.heap.size w w2 := (by repeat (first | assumption | exact Below.refl _ _ | refine Below.drew ?_ | (refine below_alloc _ ?_ ?_; focus (first | omega | (simp; done) | (simp; omega) | (simp at *; omega))) | (refine below_set _ ?_ ?_; focus (first | omega | (simp; done) | (simp; omega) | (simp at *; omega))) | refine below_drewN ?_ _ | (refine below_call (by assumption) ?_ ?_; focus (first | omega | (simp; done) | (simp; omega) | (simp at *; omega))) | (refine below_call' (by assumption) ?_ ?_; focus (first | omega | (simp; done) | (simp; omega) | (simp at *; omega)))))
  clear hb2 hbw1 hz1 hy1 
  by_cases hf : (l.length : Int) ≤ 14
  rotate_left 1
  · have hfd : decide ((l.length : Int) ≤ 14) = false := by simpa using hf
    go_wp2
    go_ret
    exact ⟨rfl, (by repeat (first | assumption | exact Below.refl _ _ | refine Below.drew ?_ | (refine below_alloc _ ?_ ?_; focus (first | omega | (simp; done) | (simp; omega) | (simp at *; omega))) | (refine below_set _ ?_ ?_; focus (first | omega | (simp; done) | (simp; omega) | (simp at *; omega))) | refine below_drewN ?_ _ | (refine below_call (by assumption) ?_ ?_; focus (first | omega | (simp; done) | (simp; omega) | (simp at *; omega))) | (refine below_call' (by assumption) ?_ ?_; focus (first | omega | (simp; done) | (simp; omega) | (simp at *; omega)))))⟩
  have hl : l.length ≤ 100 := by omega
  go_wp2_with (fail)
  refine (FewPoints_any B ps.length capB after width _).mono ?_
  rintro e w3 ⟨rfl, hb3⟩
  replace a0 := cell_below' hb3 a0
  replace a1 := cell_below' hb3 a1
  replace p0 := cell_below' hb3 p0
  replace p1 := cell_below' hb3 p1
  replace p2 := cell_below' hb3 p2
  have hz3 : w.heap.size < w3.heap.size := World.block_lt_of_cell? _ _ a0
  have hy3 : w.heap.size + 1 < w3.heap.size := World.block_lt_of_cell? _ _ p0
  have hbw3 : Below w.heap.size w w3 := (by repeat (first | assumption | exact Below.refl _ _ | refine Below.drew ?_ | (refine below_alloc _ ?_ ?_; focus (first | omega | (simp; done) | (simp; omega) | (simp at *; omega))) | (refine below_set _ ?_ ?_; focus (first | omega | (simp; done) | (simp; omega) | (simp at *; omega))) | refine below_drewN ?_ _ | (refine below_call (by assumption) ?_ ?_; focus (first | omega | (simp; done) | (simp; omega) | (simp at *; omega))) | (refine below_call' (by assumption) ?_ ?_; focus (first | omega | (simp; done) | (simp; omega) | (simp at *; omega)))))
  clear hb3 hbw2 hz2 hy2 
  by_cases hg : (ps.length : Int) ≤ 10
  rotate_left 1
  · have hgd : decide ((ps.length : Int) ≤ 10) = false := by simpa using hg
    go_wp2
    go_ret
    exact ⟨rfl, (by repeat (first | assumption | exact Below.refl _ _ | refine Below.drew ?_ | (refine below_alloc _ ?_ ?_; focus (first | omega | (simp; done) | (simp; omega) | (simp at *; omega))) | (refine below_set _ ?_ ?_; focus (first | omega | (simp; done) | (simp; omega) | (simp at *; omega))) | refine below_drewN ?_ _ | (refine below_call (by assumption) ?_ ?_; focus (first | omega | (simp; done) | (simp; omega) | (simp at *; omega))) | (refine below_call' (by assumption) ?_ ?_; focus (first | omega | (simp; done) | (simp; omega) | (simp at *; omega)))))⟩
  have hps : ps.length ≤ 100 := by omega
  have hps50 : ps.length ≤ 50 := by omega
  go_wp2_with (fail)
  refine (CopyTrace_any B ps capB after width _ hps (hB.below hbw3)).mono ?_
  rintro e w4 ⟨A4, c4, rfl, own4, hb4⟩
  have hS4 : PtsAt w4 A4 ps := rowsAt_of_own own4 rfl (by decide)
  have hc4 := own_cap' own4
  replace a0 := cell_below' hb4 a0
  replace a1 := cell_below' hb4 a1
  replace p0 := cell_below' hb4 p0
  replace p1 := cell_below' hb4 p1
  replace p2 := cell_below' hb4 p2
  have hz4 : w.heap.size < w4.heap.size := World.block_lt_of_cell? _ _ a0
  have hy4 : w.heap.size + 1 < w4.heap.size := World.block_lt_of_cell? _ _ p0
  have hbw4 : Below w.heap.size w w4 := (by repeat (first | assumption | exact Below.refl _ _ | refine Below.drew ?_ | (refine below_alloc _ ?_ ?_; focus (first | omega | (simp; done) | (simp; omega) | (simp at *; omega))) | (refine below_set _ ?_ ?_; focus (first | omega | (simp; done) | (simp; omega) | (simp at *; omega))) | refine below_drewN ?_ _ | (refine below_call (by assumption) ?_ ?_; focus (first | omega | (simp; done) | (simp; omega) | (simp at *; omega))) | (refine below_call' (by assumption) ?_ ?_; focus (first | omega | (simp; done) | (simp; omega) | (simp at *; omega)))))
  clear hb4 hbw3 hz3 hy3 own4
  go_wp2_with (fail)
  refine (Fitted_any A4 ps c4 after width _ hps hc4 hS4).mono ?_
  rintro e w5 ⟨AF, cF, rfl, ownF, hb5⟩
  have hSF : SlabsAt w5 AF (fit ps after width).sl := rowsAt_of_own ownF rfl (by decide)
  have hcF := own_cap' ownF
  replace a0 := cell_below' hb5 a0
  replace a1 := cell_below' hb5 a1
  replace p0 := cell_below' hb5 p0
  replace p1 := cell_below' hb5 p1
  replace p2 := cell_below' hb5 p2
  have hz5 : w.heap.size < w5.heap.size := World.block_lt_of_cell? _ _ a0
  have hy5 : w.heap.size + 1 < w5.heap.size := World.block_lt_of_cell? _ _ p0
  have hbw5 : Below w.heap.size w w5 := (by repeat (first | assumption | exact Below.refl _ _ | refine Below.drew ?_ | (refine below_alloc _ ?_ ?_; focus (first | omega | (simp; done) | (simp; omega) | (simp at *; omega))) | (refine below_set _ ?_ ?_; focus (first | omega | (simp; done) | (simp; omega) | (simp at *; omega))) | refine below_drewN ?_ _ | (refine below_call (by assumption) ?_ ?_; focus (first | omega | (simp; done) | (simp; omega) | (simp at *; omega))) | (refine below_call' (by assumption) ?_ ?_; focus (first | omega | (simp; done) | (simp; omega) | (simp at *; omega)))))
  clear hb5 hbw4 hz4 hy4 ownF hS4 hc4
  have hfl := fit_len ps after width hps50
  have X0 : (w5.alloc (.cells #[.int .i64 (fit ps after width).base, .slice AF (fit ps after width).sl.length cF] 24)).cell? ⟨w5.heap.size, 0, none⟩ = some (.int .i64 (fit ps after width).base) := cell_new rfl rfl
  have X1 : (w5.alloc (.cells #[.int .i64 (fit ps after width).base, .slice AF (fit ps after width).sl.length cF] 24)).cell? ⟨w5.heap.size, 1, none⟩ = some (.slice AF (fit ps after width).sl.length cF) := cell_new rfl rfl
  have hbX : Below w5.heap.size w5 (w5.alloc (.cells #[.int .i64 (fit ps after width).base, .slice AF (fit ps after width).sl.length cF] 24)) := below_alloc _ (Nat.le_refl _) (Below.refl _ _)
  have hbw6 : Below w.heap.size w (w5.alloc (.cells #[.int .i64 (fit ps after width).base, .slice AF (fit ps after width).sl.length cF] 24)) := (by repeat (first | assumption | exact Below.refl _ _ | refine Below.drew ?_ | (refine below_alloc _ ?_ ?_; focus (first | omega | (simp; done) | (simp; omega) | (simp at *; omega))) | (refine below_set _ ?_ ?_; focus (first | omega | (simp; done) | (simp; omega) | (simp at *; omega))) | refine below_drewN ?_ _ | (refine below_call (by assumption) ?_ ?_; focus (first | omega | (simp; done) | (simp; omega) | (simp at *; omega))) | (refine below_call' (by assumption) ?_ ?_; focus (first | omega | (simp; done) | (simp; omega) | (simp at *; omega)))))
  have hxz : w5.heap.size < (w5.alloc (.cells #[.int .i64 (fit ps after width).base, .slice AF (fit ps after width).sl.length cF] 24)).heap.size := by simp
  go_wp2_with (fail)
  generalize (w5.alloc (.cells #[.int .i64 (fit ps after width).base, .slice AF (fit ps after width).sl.length cF] 24)) = w6 at *
  replace hSF := RowsAt.below hSF hbX
  replace a0 := cell_below' hbX a0
  replace a1 := cell_below' hbX a1
  replace p0 := cell_below' hbX p0
  replace p1 := cell_below' hbX p1
  replace p2 := cell_below' hbX p2
  have hz6 : w.heap.size < w6.heap.size := World.block_lt_of_cell? _ _ a0
  have hy6 : w.heap.size + 1 < w6.heap.size := World.block_lt_of_cell? _ _ p0
  have hxp : w.heap.size + 1 < w5.heap.size := hy5
  clear hbX hbw5 hz5 hy5
  generalize w5.heap.size = xb at *
  have HCA := Lib.hid (fun W hW => Copy_any base A l cap W hl hW)
  have HCT := Lib.hid (fun W hW => CopyTrace_any B ps capB after width W hps hW)
  go_region_held3 (fun w' => w'.cell? ⟨w.heap.size, 0, none⟩ = some (.int .i64 base) ∧ w'.cell? ⟨w.heap.size, 1, none⟩ = some (.slice A l.length cap) ∧ w'.cell? ⟨w.heap.size + 1, 0, none⟩ = some (.slice B ps.length capB) ∧ w'.cell? ⟨w.heap.size + 1, 1, none⟩ = some (.int .i64 after) ∧ w'.cell? ⟨w.heap.size + 1, 2, none⟩ = some (.int .i64 width))
    ((((try go_split_ands); (repeat' (apply And.intro)) <;> (repeat (first | (with_reducible assumption) | (with_reducible refine cell_drew ?_) | (with_reducible refine cell_alloc _ ?_) | (with_reducible refine cell_below' (by with_reducible assumption) ?_) | (with_reducible refine cell_far ?_ ?_; focus (first | omega | (simp; omega) | (simp; done))))))))
    (first
      | (go_at_call 17; ((with_reducible refine (HCA.out _ ?_).mono ?_); (focus (exact RowsAt.below hA (by repeat (first | assumption | exact Below.refl _ _ | refine Below.drew ?_ | (refine below_alloc _ ?_ ?_; focus (first | omega | (simp; done) | (simp; omega) | (simp at *; omega))) | (refine below_set _ ?_ ?_; focus (first | omega | (simp; done) | (simp; omega) | (simp at *; omega))) | refine below_drewN ?_ _ | (refine below_call (by assumption) ?_ ?_; focus (first | omega | (simp; done) | (simp; omega) | (simp at *; omega))) | (refine below_call' (by assumption) ?_ ?_; focus (first | omega | (simp; done) | (simp; omega) | (simp at *; omega))))))); (rintro e y1 ⟨A1, c1, rfl, own1, hc1⟩)))
      | (go_at_call 29; ((with_reducible refine (HCT.out _ ?_).mono ?_); (focus (exact RowsAt.below hB (by repeat (first | assumption | exact Below.refl _ _ | refine Below.drew ?_ | (refine below_alloc _ ?_ ?_; focus (first | omega | (simp; done) | (simp; omega) | (simp at *; omega))) | (refine below_set _ ?_ ?_; focus (first | omega | (simp; done) | (simp; omega) | (simp at *; omega))) | refine below_drewN ?_ _ | (refine below_call (by assumption) ?_ ?_; focus (first | omega | (simp; done) | (simp; omega) | (simp at *; omega))) | (refine below_call' (by assumption) ?_ ?_; focus (first | omega | (simp; done) | (simp; omega) | (simp at *; omega))))))); (rintro e y2 ⟨A2, c2, rfl, own2, hc2⟩)))
      | (go_at_call 43; (refine (AgreesWith_any base A1 l c1 A2 ps c2 after width _ hl (own_cap' own1) hps (RowsAt.below (rowsAt_of_own own1 rfl (by decide)) (by repeat (first | assumption | exact Below.refl _ _ | refine Below.drew ?_ | (refine below_alloc _ ?_ ?_; focus (first | omega | (simp; done) | (simp; omega) | (simp at *; omega))) | (refine below_set _ ?_ ?_; focus (first | omega | (simp; done) | (simp; omega) | (simp at *; omega))) | refine below_drewN ?_ _ | (refine below_call (by assumption) ?_ ?_; focus (first | omega | (simp; done) | (simp; omega) | (simp at *; omega))) | (refine below_call' (by assumption) ?_ ?_; focus (first | omega | (simp; done) | (simp; omega) | (simp at *; omega)))))) (rowsAt_of_own own2 rfl (by decide))).mono ?_; rintro e w7 ⟨AG, cG, rfl, ownG, hc3⟩)))
  have hIG : IntsAt w7 AG (agw base l ps after width) := rowsAt_of_own ownG rfl (by decide)
  have hbx : Below w6.heap.size w6 w7 := (by repeat (first | assumption | exact Below.refl _ _ | refine Below.drew ?_ | (refine below_alloc _ ?_ ?_; focus (first | omega | (simp; done) | (simp; omega) | (simp at *; omega))) | (refine below_set _ ?_ ?_; focus (first | omega | (simp; done) | (simp; omega) | (simp at *; omega))) | refine below_drewN ?_ _ | (refine below_call (by assumption) ?_ ?_; focus (first | omega | (simp; done) | (simp; omega) | (simp at *; omega))) | (refine below_call' (by assumption) ?_ ?_; focus (first | omega | (simp; done) | (simp; omega) | (simp at *; omega)))))
  replace hSF := RowsAt.below hSF hbx
  replace X0 := cell_below' hbx X0
  replace X1 := cell_below' hbx X1
  replace a0 := cell_below' hbx a0
  replace a1 := cell_below' hbx a1
  replace p0 := cell_below' hbx p0
  replace p1 := cell_below' hbx p1
  replace p2 := cell_below' hbx p2
  have hz7 : w.heap.size < w7.heap.size := World.block_lt_of_cell? _ _ a0
  have hy7 : w.heap.size + 1 < w7.heap.size := World.block_lt_of_cell? _ _ p0
  replace hxz : xb < w7.heap.size := World.block_lt_of_cell? _ _ X0
  have hbw7 : Below w.heap.size w w7 := (by repeat (first | assumption | exact Below.refl _ _ | refine Below.drew ?_ | (refine below_alloc _ ?_ ?_; focus (first | omega | (simp; done) | (simp; omega) | (simp at *; omega))) | (refine below_set _ ?_ ?_; focus (first | omega | (simp; done) | (simp; omega) | (simp at *; omega))) | refine below_drewN ?_ _ | (refine below_call (by assumption) ?_ ?_; focus (first | omega | (simp; done) | (simp; omega) | (simp at *; omega))) | (refine below_call' (by assumption) ?_ ?_; focus (first | omega | (simp; done) | (simp; omega) | (simp at *; omega)))))
  clear hbx hc1 hc2 hc3 own1 own2 ownG hbw6 hz6 hy6
  go_wp2_with (fail)
  (refine region_extx 4 (by kernel_rfl) (by kernel_rfl) fun hx => ?_; simp only [List.take_succ_cons, List.take_zero, List.drop_succ_cons, List.drop_zero]; (repeat (any_goals (first | go_big_quiet_step (first | (go_at_call 37; exact ext_call (TraceErr_any B ps capB after width _ hps ((hB.below hbw7).below (ext_bel _ _)))) | (go_at_call 19; exact ext_call (ProfileErr_any base A l cap _ hl ((hA.below hbw7).below (ext_bel _ _))))) | quiet_step (first | (go_at_call 37; exact ext_call (TraceErr_any B ps capB after width _ hps ((hB.below hbw7).below (ext_bel _ _)))) | (go_at_call 19; exact ext_call (ProfileErr_any base A l cap _ hl ((hA.below hbw7).below (ext_bel _ _)))))))))
  (refine wpQuiet_nil ?_; clear hx; intro u; have hbw8 := ext_bel _ u; have hxw8 := ext_cell _ u; generalize ext _ u = w8 at *; clear u; have hsw8 := hbw8.size; (try simp at hsw8))
  replace hIG := RowsAt.below hIG hbw8
  replace hSF := RowsAt.below hSF hbw8
  replace X0 := cell_below' hbw8 X0
  replace X1 := cell_below' hbw8 X1
  replace a0 := cell_below' hbw8 a0
  replace a1 := cell_below' hbw8 a1
  replace p0 := cell_below' hbw8 p0
  replace p1 := cell_below' hbw8 p1
  replace p2 := cell_below' hbw8 p2
  have hz8 : w.heap.size < w8.heap.size := World.block_lt_of_cell? _ _ a0
  have hy8 : w.heap.size + 1 < w8.heap.size := World.block_lt_of_cell? _ _ p0
  replace hxz : xb < w8.heap.size := World.block_lt_of_cell? _ _ X0
  have hbq : Below w.heap.size w w8 := (by repeat (first | assumption | exact Below.refl _ _ | refine Below.drew ?_ | (refine below_alloc _ ?_ ?_; focus (first | omega | (simp; done) | (simp; omega) | (simp at *; omega))) | (refine below_set _ ?_ ?_; focus (first | omega | (simp; done) | (simp; omega) | (simp at *; omega))) | refine below_drewN ?_ _ | (refine below_call (by assumption) ?_ ?_; focus (first | omega | (simp; done) | (simp; omega) | (simp at *; omega))) | (refine below_call' (by assumption) ?_ ?_; focus (first | omega | (simp; done) | (simp; omega) | (simp at *; omega)))))
  clear hbw8 hbw7 hxw8 hz7 hy7 hsw8
  have hge : agwE base l ps after width = firstE [chkE base l, chkTE ps after width] := rfl
  have hgv : agw base l ps after width = if agwE base l ps after width = 0 then ps.map (ansI base l) else [] := rfl
  by_cases hT : chkTE ps after width = 0
  rotate_left 1
  · have hfb := fit_bad hT
    rw [hfb] at X0 X1 hSF ⊢
    simp only at X0 X1 hSF ⊢
    have hsm : ∀ W, Calls Try.prog 45 #[.agg #[.int .i64 0, .slice AF 0 cF], .agg #[.int .i64 0, .slice none 0 0]] W fun e w' => e = .returned (.bool true) ∧ Below W.heap.size W w' := fun W => Same_refl AF none [] cF 0 0 W (by simp) (fun k x h => by simp at h) (fun k x h => by simp at h)
    have HSM := Lib.hid hsm
    have hT' : (chkTE ps after width == 0) = false := by simpa using hT
    have hT'' : (chkTE ps after width != 0) = true := by simpa using hT
    by_cases hP : chkE base l = 0
    · have e1 : agwE base l ps after width = chkTE ps after width := by rw [hge, hP, firstE_zero2]
      rw [e1, if_neg hT] at hgv
      rw [hgv] at hIG
      rw [hgv, e1, hP]
      clear hsm hfb hge hgv e1 hT hP hfl hcF
      simp only [List.length_nil] at X1 ⊢
      go_wp2_with (go_at_call 45; refine (HSM.out _).mono ?_; rintro e w10 ⟨rfl, hb10⟩)
      go_ret
      exact ⟨rfl, (by repeat (first | assumption | exact Below.refl _ _ | refine Below.drew ?_ | (refine below_alloc _ ?_ ?_; focus (first | omega | (simp; done) | (simp; omega) | (simp at *; omega))) | (refine below_set _ ?_ ?_; focus (first | omega | (simp; done) | (simp; omega) | (simp at *; omega))) | refine below_drewN ?_ _ | (refine below_call (by assumption) ?_ ?_; focus (first | omega | (simp; done) | (simp; omega) | (simp at *; omega))) | (refine below_call' (by assumption) ?_ ?_; focus (first | omega | (simp; done) | (simp; omega) | (simp at *; omega)))))⟩
    · have e1 : agwE base l ps after width = chkE base l := by rw [hge]; unfold firstE; rw [if_neg hP]
      rw [e1, if_neg hP] at hgv
      rw [hgv] at hIG
      rw [hgv, e1]
      have hP' : (chkE base l == 0) = false := by simpa using hP
      have hP'' : (chkE base l != 0) = true := by simpa using hP
      clear hsm hfb hge hgv e1 hT hP hfl hcF
      simp only [List.length_nil] at X1 ⊢
      go_wp2_with (go_at_call 45; refine (HSM.out _).mono ?_; rintro e w10 ⟨rfl, hb10⟩)
      go_ret
      exact ⟨rfl, (by repeat (first | assumption | exact Below.refl _ _ | refine Below.drew ?_ | (refine below_alloc _ ?_ ?_; focus (first | omega | (simp; done) | (simp; omega) | (simp at *; omega))) | (refine below_set _ ?_ ?_; focus (first | omega | (simp; done) | (simp; omega) | (simp at *; omega))) | refine below_drewN ?_ _ | (refine below_call (by assumption) ?_ ?_; focus (first | omega | (simp; done) | (simp; omega) | (simp at *; omega))) | (refine below_call' (by assumption) ?_ ?_; focus (first | omega | (simp; done) | (simp; omega) | (simp at *; omega)))))⟩
  have HFS := Lib.hid (fit_said hT)
  have hfe : fit ps after width = fit ps after width := rfl
  generalize hFF : fit ps after width = F at *
  obtain ⟨Fb, Fs, Fa, Fe⟩ := F
  have HFE := Lib.hid hFF
  simp only at X0 X1 hSF HFS hfl hcF ⊢
  clear hFF hfe
  by_cases hP : chkE base l = 0
  rotate_left 1
  · have e1 : agwE base l ps after width = chkE base l := by rw [hge]; unfold firstE; rw [if_neg hP]
    rw [e1, if_neg hP] at hgv
    rw [hgv, e1, hT]
    have hP' : (chkE base l == 0) = false := by simpa using hP
    have hP'' : (chkE base l != 0) = true := by simpa using hP
    clear hge hgv e1 hP hIG
    simp only [List.length_nil]
    go_wp2_with (fail)
    refine (RFitted_any B ps capB after width _ hT (hB.below hbq)).mono ?_
    rintro e u1 ⟨AR, cR, rfl, ownR, hr1⟩
    rw [HFE.out] at ownR ⊢
    simp only at ownR ⊢
    have hSR : SlabsAt u1 AR Fs := rowsAt_of_own ownR rfl (by decide)
    replace hSF := RowsAt.below hSF hr1
    replace a0 := cell_below' hr1 a0
    replace a1 := cell_below' hr1 a1
    replace p0 := cell_below' hr1 p0
    replace p1 := cell_below' hr1 p1
    replace p2 := cell_below' hr1 p2
    replace X0 := cell_below' hr1 X0
    replace X1 := cell_below' hr1 X1
    have hu1 : Below w.heap.size w u1 := (by repeat (first | assumption | exact Below.refl _ _ | refine Below.drew ?_ | (refine below_alloc _ ?_ ?_; focus (first | omega | (simp; done) | (simp; omega) | (simp at *; omega))) | (refine below_set _ ?_ ?_; focus (first | omega | (simp; done) | (simp; omega) | (simp at *; omega))) | refine below_drewN ?_ _ | (refine below_call (by assumption) ?_ ?_; focus (first | omega | (simp; done) | (simp; omega) | (simp at *; omega))) | (refine below_call' (by assumption) ?_ ?_; focus (first | omega | (simp; done) | (simp; omega) | (simp at *; omega)))))
    have zu0 : w.heap.size < u1.heap.size := World.block_lt_of_cell? _ _ a0
    have zu1 : w.heap.size + 1 < u1.heap.size := World.block_lt_of_cell? _ _ p0
    have zu2 : xb < u1.heap.size := World.block_lt_of_cell? _ _ X0
    have hsm : ∀ W, SlabsAt W AF Fs → SlabsAt W AR Fs → Calls Try.prog 45 #[.agg #[.int .i64 Fb, .slice AF Fs.length cF], .agg #[.int .i64 Fb, .slice AR Fs.length cR]] W fun e w' => e = .returned (.bool true) ∧ Below W.heap.size W w' := fun W h1 h2 => Same_refl AF AR Fs cF cR Fb W hfl h1 h2
    have HSM := Lib.hid hsm
    clear hsm ownR
    go_wp2_with (fail)
    refine (HSM.out _ (RowsAt.below hSF (by repeat (first | assumption | exact Below.refl _ _ | refine Below.drew ?_ | (refine below_alloc _ ?_ ?_; focus (first | omega | (simp; done) | (simp; omega) | (simp at *; omega))) | (refine below_set _ ?_ ?_; focus (first | omega | (simp; done) | (simp; omega) | (simp at *; omega))) | refine below_drewN ?_ _ | (refine below_call (by assumption) ?_ ?_; focus (first | omega | (simp; done) | (simp; omega) | (simp at *; omega))) | (refine below_call' (by assumption) ?_ ?_; focus (first | omega | (simp; done) | (simp; omega) | (simp at *; omega)))))) (RowsAt.below hSR (by repeat (first | assumption | exact Below.refl _ _ | refine Below.drew ?_ | (refine below_alloc _ ?_ ?_; focus (first | omega | (simp; done) | (simp; omega) | (simp at *; omega))) | (refine below_set _ ?_ ?_; focus (first | omega | (simp; done) | (simp; omega) | (simp at *; omega))) | refine below_drewN ?_ _ | (refine below_call (by assumption) ?_ ?_; focus (first | omega | (simp; done) | (simp; omega) | (simp at *; omega))) | (refine below_call' (by assumption) ?_ ?_; focus (first | omega | (simp; done) | (simp; omega) | (simp at *; omega))))))).mono ?_
    rintro e u2 ⟨rfl, hr2⟩
    have hr3 : Below u1.heap.size u1 u2 := (below_alloc _ (Nat.le_refl _) (Below.refl _ u1)).trans (hr2.mono (by simp))
    replace hSF := RowsAt.below hSF hr3
    replace a0 := cell_below' hr3 a0
    replace a1 := cell_below' hr3 a1
    replace p0 := cell_below' hr3 p0
    replace p1 := cell_below' hr3 p1
    replace p2 := cell_below' hr3 p2
    replace X0 := cell_below' hr3 X0
    replace X1 := cell_below' hr3 X1
    have hu2 : Below w.heap.size w u2 := (by repeat (first | assumption | exact Below.refl _ _ | refine Below.drew ?_ | (refine below_alloc _ ?_ ?_; focus (first | omega | (simp; done) | (simp; omega) | (simp at *; omega))) | (refine below_set _ ?_ ?_; focus (first | omega | (simp; done) | (simp; omega) | (simp at *; omega))) | refine below_drewN ?_ _ | (refine below_call (by assumption) ?_ ?_; focus (first | omega | (simp; done) | (simp; omega) | (simp at *; omega))) | (refine below_call' (by assumption) ?_ ?_; focus (first | omega | (simp; done) | (simp; omega) | (simp at *; omega)))))
    have zv0 : w.heap.size < u2.heap.size := World.block_lt_of_cell? _ _ a0
    have zv1 : w.heap.size + 1 < u2.heap.size := World.block_lt_of_cell? _ _ p0
    have zv2 : xb < u2.heap.size := World.block_lt_of_cell? _ _ X0
    clear hr1 hr2 hr3 hSR hu1 zu0 zu1 zu2 HSM
    by_cases hE : Fe = 0
    rotate_left 1
    · have hE' : (Fe == 0) = false := by simpa using hE
      have hE'' : (Fe != 0) = true := by simpa using hE
      go_wp2
      go_ret
      exact ⟨rfl, hu2⟩
    subst hE
    obtain ⟨hok, hans⟩ := HFS.out rfl
    have hge2 : agwE Fb Fs ps after width = 0 := by unfold agwE; rw [chk_of_ok hok, hT]; rfl
    have hgv2 : agw Fb Fs ps after width = ps.map (ansI Fb Fs) := by unfold agw; rw [if_pos hge2]
    have hag : ∀ A1 c1 A2 c2 W, Fs.length ≤ c1 → SlabsAt W A1 Fs → PtsAt W A2 ps → Calls Try.prog 43 #[.agg #[.int .i64 Fb, .slice A1 Fs.length c1], .agg #[.slice A2 ps.length c2, .int .i64 after, .int .i64 width]] W fun e w' => ∃ A' c', e = .returned (.tuple #[.slice A' ps.length c', .int .i64 0]) ∧ w'.ownsRow W.heap.size 3 1 (.slice A' ps.length c') ps.length (cellsOf 1 intC (ps.map (ansI Fb Fs))) ∧ Below W.heap.size W w' := fun A1 c1 A2 c2 W h1 h2 h3 => by
      have h := AgreesWith_any Fb A1 Fs c1 A2 ps c2 after width W hfl h1 hps h2 h3
      unfold AgwPost at h
      rw [hge2, hgv2] at h
      simp only [List.length_map] at h
      exact h
    have HAGW := Lib.hid hag
    have HCX := Lib.hid (fun W hW => Copy_any Fb AF Fs cF W hfl hW)
    have HANS := Lib.hid hans
    clear hag hge2 hgv2 hok hans
    go_wp2_with (fail)
    go_region_held3 (fun w' => w'.cell? ⟨xb, 0, none⟩ = some (.int .i64 Fb) ∧ w'.cell? ⟨xb, 1, none⟩ = some (.slice AF Fs.length cF) ∧ w'.cell? ⟨w.heap.size + 1, 0, none⟩ = some (.slice B ps.length capB) ∧ w'.cell? ⟨w.heap.size + 1, 1, none⟩ = some (.int .i64 after) ∧ w'.cell? ⟨w.heap.size + 1, 2, none⟩ = some (.int .i64 width))
      ((((try go_split_ands); (repeat' (apply And.intro)) <;> (repeat (first | (with_reducible assumption) | (with_reducible refine cell_drew ?_) | (with_reducible refine cell_alloc _ ?_) | (with_reducible refine cell_below' (by with_reducible assumption) ?_) | (with_reducible refine cell_far ?_ ?_; focus (first | omega | (simp; omega) | (simp; done))))))))
      (first
        | (go_at_call 17; ((with_reducible refine (HCX.out _ ?_).mono ?_); (focus (exact RowsAt.below hSF (by repeat (first | assumption | exact Below.refl _ _ | refine Below.drew ?_ | (refine below_alloc _ ?_ ?_; focus (first | omega | (simp; done) | (simp; omega) | (simp at *; omega))) | (refine below_set _ ?_ ?_; focus (first | omega | (simp; done) | (simp; omega) | (simp at *; omega))) | refine below_drewN ?_ _ | (refine below_call (by assumption) ?_ ?_; focus (first | omega | (simp; done) | (simp; omega) | (simp at *; omega))) | (refine below_call' (by assumption) ?_ ?_; focus (first | omega | (simp; done) | (simp; omega) | (simp at *; omega))))))); (rintro e x1 ⟨A1, c1, rfl, own1, hc1⟩)))
        | (go_at_call 29; ((with_reducible refine (HCT.out _ ?_).mono ?_); (focus (exact RowsAt.below hB (by repeat (first | assumption | exact Below.refl _ _ | refine Below.drew ?_ | (refine below_alloc _ ?_ ?_; focus (first | omega | (simp; done) | (simp; omega) | (simp at *; omega))) | (refine below_set _ ?_ ?_; focus (first | omega | (simp; done) | (simp; omega) | (simp at *; omega))) | refine below_drewN ?_ _ | (refine below_call (by assumption) ?_ ?_; focus (first | omega | (simp; done) | (simp; omega) | (simp at *; omega))) | (refine below_call' (by assumption) ?_ ?_; focus (first | omega | (simp; done) | (simp; omega) | (simp at *; omega))))))); (rintro e x2 ⟨A2, c2, rfl, own2, hc2⟩)))
        | (go_at_call 43; ((with_reducible refine (HAGW.out A1 c1 A2 c2 _ (own_cap' own1) ?_ ?_).mono ?_); (focus (exact RowsAt.below (rowsAt_of_own own1 rfl (by decide)) (by repeat (first | assumption | exact Below.refl _ _ | refine Below.drew ?_ | (refine below_alloc _ ?_ ?_; focus (first | omega | (simp; done) | (simp; omega) | (simp at *; omega))) | (refine below_set _ ?_ ?_; focus (first | omega | (simp; done) | (simp; omega) | (simp at *; omega))) | refine below_drewN ?_ _ | (refine below_call (by assumption) ?_ ?_; focus (first | omega | (simp; done) | (simp; omega) | (simp at *; omega))) | (refine below_call' (by assumption) ?_ ?_; focus (first | omega | (simp; done) | (simp; omega) | (simp at *; omega))))))); (focus (exact rowsAt_of_own own2 rfl (by decide))); (rintro e x3 ⟨AM, cM, rfl, ownM, hc3⟩))))
    have hIM : IntsAt x3 AM (ps.map (ansI Fb Fs)) := rowsAt_of_own ownM (by simp) (by decide)
    have hx3 : Below w.heap.size w x3 := (by repeat (first | assumption | exact Below.refl _ _ | refine Below.drew ?_ | (refine below_alloc _ ?_ ?_; focus (first | omega | (simp; done) | (simp; omega) | (simp at *; omega))) | (refine below_set _ ?_ ?_; focus (first | omega | (simp; done) | (simp; omega) | (simp at *; omega))) | refine below_drewN ?_ _ | (refine below_call (by assumption) ?_ ?_; focus (first | omega | (simp; done) | (simp; omega) | (simp at *; omega))) | (refine below_call' (by assumption) ?_ ?_; focus (first | omega | (simp; done) | (simp; omega) | (simp at *; omega)))))
    have hpx : x3.cell? ⟨w.heap.size + 1, 0, none⟩ = some (.slice B ps.length capB) := cell_below' hc3 (cell_below' hc2 (cell_below' hc1 (cell_drew p0)))
    have zx1 : w.heap.size + 1 < x3.heap.size := World.block_lt_of_cell? _ _ hpx
    have hhn : ∀ W, IntsAt W AM (ps.map (ansI Fb Fs)) → Calls Try.prog 47 #[.slice AM ps.length cM, .int .i64 0] W fun e w' => e = .returned (.bool false) ∧ Below W.heap.size W w' := fun W hW => by
      have h := Has_no AM (ps.map (ansI Fb Fs)) cM 0 W (by simpa using hps) hW HANS.out
      rwa [List.length_map] at h
    have HHN := Lib.hid hhn
    clear hhn hc1 hc2 hc3 own1 own2 ownM
    go_wp2_with (fail)
    refine (HHN.out _ hIM).mono ?_
    rintro e x4 ⟨rfl, hc4⟩
    go_wp2
    go_ret
    exact ⟨rfl, (by repeat (first | assumption | exact Below.refl _ _ | refine Below.drew ?_ | (refine below_alloc _ ?_ ?_; focus (first | omega | (simp; done) | (simp; omega) | (simp at *; omega))) | (refine below_set _ ?_ ?_; focus (first | omega | (simp; done) | (simp; omega) | (simp at *; omega))) | refine below_drewN ?_ _ | (refine below_call (by assumption) ?_ ?_; focus (first | omega | (simp; done) | (simp; omega) | (simp at *; omega))) | (refine below_call' (by assumption) ?_ ?_; focus (first | omega | (simp; done) | (simp; omega) | (simp at *; omega)))))⟩
  have HO := Lib.hid (ok_of_chk hP)
  have HT := Lib.hid (okT_of_chk hT)
  have e1 : agwE base l ps after width = 0 := by rw [hge, hP, hT]; rfl
  rw [if_pos e1] at hgv
  rw [hgv] at hIG
  rw [hgv, e1, hP, hT]
  have hml : (ps.map (ansI base l)).length = ps.length := by simp
  rw [hml]
  clear hge hgv e1 hP hml
  go_wp2
  go_loopw [12] (fun i wr => ∃ k : Nat, k ≤ ps.length ∧ i = .int .i64 k ∧ Below w8.heap.size w8 wr) (fun i _ => ps.length - (intOf i).toNat)
  case atStart => exact ⟨0, Nat.zero_le _, rfl, Below.refl _ _⟩
  case round =>
    obtain ⟨k, hk, rfl, hbk⟩ := hrel
    replace hIG := RowsAt.below hIG hbk
    replace hSF := RowsAt.below hSF hbk
    replace a0 := cell_below' hbk a0
    replace a1 := cell_below' hbk a1
    replace p0 := cell_below' hbk p0
    replace p1 := cell_below' hbk p1
    replace p2 := cell_below' hbk p2
    replace X0 := cell_below' hbk X0
    replace X1 := cell_below' hbk X1
    have hz8' : w.heap.size < wr.heap.size := World.block_lt_of_cell? _ _ a0
    have hy8' : w.heap.size + 1 < wr.heap.size := World.block_lt_of_cell? _ _ p0
    have hxz' : xb < wr.heap.size := World.block_lt_of_cell? _ _ X0
    have hbq' : Below w.heap.size w wr := (by repeat (first | assumption | exact Below.refl _ _ | refine Below.drew ?_ | (refine below_alloc _ ?_ ?_; focus (first | omega | (simp; done) | (simp; omega) | (simp at *; omega))) | (refine below_set _ ?_ ?_; focus (first | omega | (simp; done) | (simp; omega) | (simp at *; omega))) | refine below_drewN ?_ _ | (refine below_call (by assumption) ?_ ?_; focus (first | omega | (simp; done) | (simp; omega) | (simp at *; omega))) | (refine below_call' (by assumption) ?_ ?_; focus (first | omega | (simp; done) | (simp; omega) | (simp at *; omega)))))
    by_cases hlt : k < ps.length
    · obtain ⟨b1, o1, rfl, hb1, e0, e1, e2⟩ := PtsAt.at_ (hB.below hbq') hlt
      obtain ⟨b2, o2, rfl, hb2, d0⟩ := IntsAt.at_ hIG (show k < (ps.map (ansI base l)).length by simpa using hlt)
      rw [List.getElem_map] at d0
      have hp := HT.out.pt ps[k] (List.getElem_mem hlt)
      have hag := fun W hW => Agrees_any base A l cap ps[k] W HO.out hp.1 hp.2.1 hW
      have HAG := Lib.hid hag
      have hAr := hA.below hbq'
      clear hag hp
      generalize ansI base l ps[k] = z at *
      generalize ps[k] = p at *
      have hk0 : (0 : Int) ≤ (k : Int) := by omega
      go_wp2_with (fail)
      (refine region_full (by kernel_rfl) (by kernel_rfl) fun hx => ?_; (repeat (any_goals (first | go_big_quiet_step ((go_at_call 44; with_reducible exact ext_call (HAG.out _ (hAr.below (ext_bel _ _))))) | quiet_step ((go_at_call 44; with_reducible exact ext_call (HAG.out _ (hAr.below (ext_bel _ _)))))))))
      (refine wpQuiet_nil ?_; clear hx; intro u; have hbw9 := ext_bel _ u; have hxw9 := ext_cell _ u; generalize ext _ u = w9 at *; clear u; have hsw9 := hbw9.size; (try simp at hsw9))
      go_wp2
      go_roundw
      case rel => exact ⟨k + 1, by omega, by go_num, (by repeat (first | assumption | exact Below.refl _ _ | refine Below.drew ?_ | (refine below_alloc _ ?_ ?_; focus (first | omega | (simp; done) | (simp; omega) | (simp at *; omega))) | (refine below_set _ ?_ ?_; focus (first | omega | (simp; done) | (simp; omega) | (simp at *; omega))) | refine below_drewN ?_ _ | (refine below_call (by assumption) ?_ ?_; focus (first | omega | (simp; done) | (simp; omega) | (simp at *; omega))) | (refine below_call' (by assumption) ?_ ?_; focus (first | omega | (simp; done) | (simp; omega) | (simp at *; omega)))))⟩
      case measure => simp [intOf]; omega
    · obtain rfl : k = ps.length := by omega
      go_wp2_with (fail)
      refine (RFitted_any B ps capB after width _ hT (hB.below hbq')).mono ?_
      rintro e u1 ⟨AR, cR, rfl, ownR, hr1⟩
      rw [HFE.out] at ownR ⊢
      simp only at ownR ⊢
      have hSR : SlabsAt u1 AR Fs := rowsAt_of_own ownR rfl (by decide)
      replace hSF := RowsAt.below hSF hr1
      replace a0 := cell_below' hr1 a0
      replace a1 := cell_below' hr1 a1
      replace p0 := cell_below' hr1 p0
      replace p1 := cell_below' hr1 p1
      replace p2 := cell_below' hr1 p2
      replace X0 := cell_below' hr1 X0
      replace X1 := cell_below' hr1 X1
      have hu1 : Below w.heap.size w u1 := (by repeat (first | assumption | exact Below.refl _ _ | refine Below.drew ?_ | (refine below_alloc _ ?_ ?_; focus (first | omega | (simp; done) | (simp; omega) | (simp at *; omega))) | (refine below_set _ ?_ ?_; focus (first | omega | (simp; done) | (simp; omega) | (simp at *; omega))) | refine below_drewN ?_ _ | (refine below_call (by assumption) ?_ ?_; focus (first | omega | (simp; done) | (simp; omega) | (simp at *; omega))) | (refine below_call' (by assumption) ?_ ?_; focus (first | omega | (simp; done) | (simp; omega) | (simp at *; omega)))))
      have zu0 : w.heap.size < u1.heap.size := World.block_lt_of_cell? _ _ a0
      have zu1 : w.heap.size + 1 < u1.heap.size := World.block_lt_of_cell? _ _ p0
      have zu2 : xb < u1.heap.size := World.block_lt_of_cell? _ _ X0
      have hsm : ∀ W, SlabsAt W AF Fs → SlabsAt W AR Fs → Calls Try.prog 45 #[.agg #[.int .i64 Fb, .slice AF Fs.length cF], .agg #[.int .i64 Fb, .slice AR Fs.length cR]] W fun e w' => e = .returned (.bool true) ∧ Below W.heap.size W w' := fun W h1 h2 => Same_refl AF AR Fs cF cR Fb W hfl h1 h2
      have HSM := Lib.hid hsm
      clear hsm ownR
      go_wp2_with (fail)
      refine (HSM.out _ (RowsAt.below hSF (by repeat (first | assumption | exact Below.refl _ _ | refine Below.drew ?_ | (refine below_alloc _ ?_ ?_; focus (first | omega | (simp; done) | (simp; omega) | (simp at *; omega))) | (refine below_set _ ?_ ?_; focus (first | omega | (simp; done) | (simp; omega) | (simp at *; omega))) | refine below_drewN ?_ _ | (refine below_call (by assumption) ?_ ?_; focus (first | omega | (simp; done) | (simp; omega) | (simp at *; omega))) | (refine below_call' (by assumption) ?_ ?_; focus (first | omega | (simp; done) | (simp; omega) | (simp at *; omega)))))) (RowsAt.below hSR (by repeat (first | assumption | exact Below.refl _ _ | refine Below.drew ?_ | (refine below_alloc _ ?_ ?_; focus (first | omega | (simp; done) | (simp; omega) | (simp at *; omega))) | (refine below_set _ ?_ ?_; focus (first | omega | (simp; done) | (simp; omega) | (simp at *; omega))) | refine below_drewN ?_ _ | (refine below_call (by assumption) ?_ ?_; focus (first | omega | (simp; done) | (simp; omega) | (simp at *; omega))) | (refine below_call' (by assumption) ?_ ?_; focus (first | omega | (simp; done) | (simp; omega) | (simp at *; omega))))))).mono ?_
      rintro e u2 ⟨rfl, hr2⟩
      have hr3 : Below u1.heap.size u1 u2 := (below_alloc _ (Nat.le_refl _) (Below.refl _ u1)).trans (hr2.mono (by simp))
      replace hSF := RowsAt.below hSF hr3
      replace a0 := cell_below' hr3 a0
      replace a1 := cell_below' hr3 a1
      replace p0 := cell_below' hr3 p0
      replace p1 := cell_below' hr3 p1
      replace p2 := cell_below' hr3 p2
      replace X0 := cell_below' hr3 X0
      replace X1 := cell_below' hr3 X1
      have hu2 : Below w.heap.size w u2 := (by repeat (first | assumption | exact Below.refl _ _ | refine Below.drew ?_ | (refine below_alloc _ ?_ ?_; focus (first | omega | (simp; done) | (simp; omega) | (simp at *; omega))) | (refine below_set _ ?_ ?_; focus (first | omega | (simp; done) | (simp; omega) | (simp at *; omega))) | refine below_drewN ?_ _ | (refine below_call (by assumption) ?_ ?_; focus (first | omega | (simp; done) | (simp; omega) | (simp at *; omega))) | (refine below_call' (by assumption) ?_ ?_; focus (first | omega | (simp; done) | (simp; omega) | (simp at *; omega)))))
      have zv0 : w.heap.size < u2.heap.size := World.block_lt_of_cell? _ _ a0
      have zv1 : w.heap.size + 1 < u2.heap.size := World.block_lt_of_cell? _ _ p0
      have zv2 : xb < u2.heap.size := World.block_lt_of_cell? _ _ X0
      clear hr1 hr2 hr3 hSR hu1 zu0 zu1 zu2 HSM
      by_cases hE : Fe = 0
      rotate_left 1
      · have hE' : (Fe == 0) = false := by simpa using hE
        have hE'' : (Fe != 0) = true := by simpa using hE
        go_wp2
        go_ret
        exact ⟨rfl, hu2⟩
      subst hE
      obtain ⟨hok, hans⟩ := HFS.out rfl
      have hge2 : agwE Fb Fs ps after width = 0 := by unfold agwE; rw [chk_of_ok hok, hT]; rfl
      have hgv2 : agw Fb Fs ps after width = ps.map (ansI Fb Fs) := by unfold agw; rw [if_pos hge2]
      have hag : ∀ A1 c1 A2 c2 W, Fs.length ≤ c1 → SlabsAt W A1 Fs → PtsAt W A2 ps → Calls Try.prog 43 #[.agg #[.int .i64 Fb, .slice A1 Fs.length c1], .agg #[.slice A2 ps.length c2, .int .i64 after, .int .i64 width]] W fun e w' => ∃ A' c', e = .returned (.tuple #[.slice A' ps.length c', .int .i64 0]) ∧ w'.ownsRow W.heap.size 3 1 (.slice A' ps.length c') ps.length (cellsOf 1 intC (ps.map (ansI Fb Fs))) ∧ Below W.heap.size W w' := fun A1 c1 A2 c2 W h1 h2 h3 => by
        have h := AgreesWith_any Fb A1 Fs c1 A2 ps c2 after width W hfl h1 hps h2 h3
        unfold AgwPost at h
        rw [hge2, hgv2] at h
        simp only [List.length_map] at h
        exact h
      have HAGW := Lib.hid hag
      have HCX := Lib.hid (fun W hW => Copy_any Fb AF Fs cF W hfl hW)
      have HANS := Lib.hid hans
      clear hag hge2 hgv2 hok hans
      go_wp2_with (fail)
      go_region_held3 (fun w' => w'.cell? ⟨xb, 0, none⟩ = some (.int .i64 Fb) ∧ w'.cell? ⟨xb, 1, none⟩ = some (.slice AF Fs.length cF) ∧ w'.cell? ⟨w.heap.size + 1, 0, none⟩ = some (.slice B ps.length capB) ∧ w'.cell? ⟨w.heap.size + 1, 1, none⟩ = some (.int .i64 after) ∧ w'.cell? ⟨w.heap.size + 1, 2, none⟩ = some (.int .i64 width))
        ((((try go_split_ands); (repeat' (apply And.intro)) <;> (repeat (first | (with_reducible assumption) | (with_reducible refine cell_drew ?_) | (with_reducible refine cell_alloc _ ?_) | (with_reducible refine cell_below' (by with_reducible assumption) ?_) | (with_reducible refine cell_far ?_ ?_; focus (first | omega | (simp; omega) | (simp; done))))))))
        (first
          | (go_at_call 17; ((with_reducible refine (HCX.out _ ?_).mono ?_); (focus (exact RowsAt.below hSF (by repeat (first | assumption | exact Below.refl _ _ | refine Below.drew ?_ | (refine below_alloc _ ?_ ?_; focus (first | omega | (simp; done) | (simp; omega) | (simp at *; omega))) | (refine below_set _ ?_ ?_; focus (first | omega | (simp; done) | (simp; omega) | (simp at *; omega))) | refine below_drewN ?_ _ | (refine below_call (by assumption) ?_ ?_; focus (first | omega | (simp; done) | (simp; omega) | (simp at *; omega))) | (refine below_call' (by assumption) ?_ ?_; focus (first | omega | (simp; done) | (simp; omega) | (simp at *; omega))))))); (rintro e x1 ⟨A1, c1, rfl, own1, hc1⟩)))
          | (go_at_call 29; ((with_reducible refine (HCT.out _ ?_).mono ?_); (focus (exact RowsAt.below hB (by repeat (first | assumption | exact Below.refl _ _ | refine Below.drew ?_ | (refine below_alloc _ ?_ ?_; focus (first | omega | (simp; done) | (simp; omega) | (simp at *; omega))) | (refine below_set _ ?_ ?_; focus (first | omega | (simp; done) | (simp; omega) | (simp at *; omega))) | refine below_drewN ?_ _ | (refine below_call (by assumption) ?_ ?_; focus (first | omega | (simp; done) | (simp; omega) | (simp at *; omega))) | (refine below_call' (by assumption) ?_ ?_; focus (first | omega | (simp; done) | (simp; omega) | (simp at *; omega))))))); (rintro e x2 ⟨A2, c2, rfl, own2, hc2⟩)))
          | (go_at_call 43; ((with_reducible refine (HAGW.out A1 c1 A2 c2 _ (own_cap' own1) ?_ ?_).mono ?_); (focus (exact RowsAt.below (rowsAt_of_own own1 rfl (by decide)) (by repeat (first | assumption | exact Below.refl _ _ | refine Below.drew ?_ | (refine below_alloc _ ?_ ?_; focus (first | omega | (simp; done) | (simp; omega) | (simp at *; omega))) | (refine below_set _ ?_ ?_; focus (first | omega | (simp; done) | (simp; omega) | (simp at *; omega))) | refine below_drewN ?_ _ | (refine below_call (by assumption) ?_ ?_; focus (first | omega | (simp; done) | (simp; omega) | (simp at *; omega))) | (refine below_call' (by assumption) ?_ ?_; focus (first | omega | (simp; done) | (simp; omega) | (simp at *; omega))))))); (focus (exact rowsAt_of_own own2 rfl (by decide))); (rintro e x3 ⟨AM, cM, rfl, ownM, hc3⟩))))
      have hIM : IntsAt x3 AM (ps.map (ansI Fb Fs)) := rowsAt_of_own ownM (by simp) (by decide)
      have hx3 : Below w.heap.size w x3 := (by repeat (first | assumption | exact Below.refl _ _ | refine Below.drew ?_ | (refine below_alloc _ ?_ ?_; focus (first | omega | (simp; done) | (simp; omega) | (simp at *; omega))) | (refine below_set _ ?_ ?_; focus (first | omega | (simp; done) | (simp; omega) | (simp at *; omega))) | refine below_drewN ?_ _ | (refine below_call (by assumption) ?_ ?_; focus (first | omega | (simp; done) | (simp; omega) | (simp at *; omega))) | (refine below_call' (by assumption) ?_ ?_; focus (first | omega | (simp; done) | (simp; omega) | (simp at *; omega)))))
      have hpx : x3.cell? ⟨w.heap.size + 1, 0, none⟩ = some (.slice B ps.length capB) := cell_below' hc3 (cell_below' hc2 (cell_below' hc1 (cell_drew p0)))
      have zx1 : w.heap.size + 1 < x3.heap.size := World.block_lt_of_cell? _ _ hpx
      have hhn : ∀ W, IntsAt W AM (ps.map (ansI Fb Fs)) → Calls Try.prog 47 #[.slice AM ps.length cM, .int .i64 0] W fun e w' => e = .returned (.bool false) ∧ Below W.heap.size W w' := fun W hW => by
        have h := Has_no AM (ps.map (ansI Fb Fs)) cM 0 W (by simpa using hps) hW HANS.out
        rwa [List.length_map] at h
      have HHN := Lib.hid hhn
      clear hhn hc1 hc2 hc3 own1 own2 ownM
      go_wp2_with (fail)
      refine (HHN.out _ hIM).mono ?_
      rintro e x4 ⟨rfl, hc4⟩
      go_wp2
      go_ret
      exact ⟨rfl, (by repeat (first | assumption | exact Below.refl _ _ | refine Below.drew ?_ | (refine below_alloc _ ?_ ?_; focus (first | omega | (simp; done) | (simp; omega) | (simp at *; omega))) | (refine below_set _ ?_ ?_; focus (first | omega | (simp; done) | (simp; omega) | (simp at *; omega))) | refine below_drewN ?_ _ | (refine below_call (by assumption) ?_ ?_; focus (first | omega | (simp; done) | (simp; omega) | (simp at *; omega))) | (refine below_call' (by assumption) ?_ ?_; focus (first | omega | (simp; done) | (simp; omega) | (simp at *; omega)))))⟩
end Go.Proofs.Ytoegpaolbkcleaa
