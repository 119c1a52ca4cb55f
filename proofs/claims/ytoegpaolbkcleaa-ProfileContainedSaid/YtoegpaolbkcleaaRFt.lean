/-
  The fitted profile of a trace: the reference's.
-/
import Derived.Test.YtoegpaolbkcleaaWth
import Derived.Deep.RegionHeld3
namespace Go.Proofs.Ytoegpaolbkcleaa
open Go.ChangeShapes Go.WideShapes Go.ChangeAt Go.RowKit
set_option linter.unusedVariables false
set_option linter.unusedSimpArgs false

theorem firstE_zero2 (y : Int) : firstE [0, y] = y := by
  unfold firstE; rw [if_pos rfl]; unfold firstE
  by_cases k : y = 0
  · rw [if_pos k, k]; rfl
  · rw [if_neg k]
theorem cell_pt' {w : World} {b off : Nat} {l : List Pt} (h : PtsAt w (some ⟨b, off, none⟩) l) {k : Nat} (hk : k < l.length) : w.cell? ⟨b, off + k * 3, none⟩ = some (.int .i64 (fAt l k)) := by
  obtain ⟨b', o', e, _, hc⟩ := h k l[k] (List.getElem?_eq_getElem hk)
  injection e with e
  injection e with e1 e2
  subst e1 e2
  rw [fAt_eq hk]
  exact hc 0 (by omega)
theorem cut2_ {P G : Prop} (h1 : (Unit → P) → G) (h2 : P) : G := h1 fun _ => h2
theorem with_law {l : List Pt} {after width base : Int} {sl : List Slb} {k : Nat} {t : Int} (hO : OkT l after width) (hb0 : 0 ≤ base) (hb1 : base ≤ 500) (hf : Fits l base sl k) (hlt : k + 1 < l.length) (t0 : 0 ≤ t) (t1 : t ≤ 500) :
    reflAtE base (sl ++ [⟨fAt l k * fAt l k, t⟩] ++ [⟨l[k + 1].f * l[k + 1].f, 1⟩]) l[k + 1].f = 0 ∧ vatLo base (sl ++ [⟨fAt l k * fAt l k, t⟩] ++ [⟨l[k + 1].f * l[k + 1].f, 1⟩]) l[k + 1].f = virtLo base (sl ++ [⟨fAt l k * fAt l k, t⟩]) l[k + 1].f (k + 1) ∧ vatHi base (sl ++ [⟨fAt l k * fAt l k, t⟩] ++ [⟨l[k + 1].f * l[k + 1].f, 1⟩]) l[k + 1].f = virtHi base (sl ++ [⟨fAt l k * fAt l k, t⟩]) l[k + 1].f (k + 1) := by
  have hn1 := hO.n1
  have hs1 : ∀ j (h : j < (sl ++ [(⟨fAt l k * fAt l k, t⟩ : Slb)]).length), (sl ++ [(⟨fAt l k * fAt l k, t⟩ : Slb)])[j].sq = fAt l j * fAt l j ∧ 0 ≤ (sl ++ [(⟨fAt l k * fAt l k, t⟩ : Slb)])[j].th ∧ (sl ++ [(⟨fAt l k * fAt l k, t⟩ : Slb)])[j].th ≤ 500 := fun j h => by
    by_cases hj : j < sl.length
    · rw [List.getElem_append_left hj]; exact hf.slab j hj
    · have e : j = sl.length := by simp at h; omega
      subst e
      rw [List.getElem_append_right (by omega)]
      simp only [Nat.sub_self, List.getElem_cons_zero]
      rw [hf.len]
      exact ⟨rfl, t0, t1⟩
  have hl1 : (sl ++ [(⟨fAt l k * fAt l k, t⟩ : Slb)]).length = k + 1 := by simp [hf.len]
  generalize sl ++ [(⟨fAt l k * fAt l k, t⟩ : Slb)] = s1 at *
  have hp := hO.pt l[k + 1] (List.getElem_mem hlt)
  have hq := sq_bd l[k + 1].f (by omega) hp.2.1
  have hpass : ∀ j (h : j < (s1 ++ [(⟨l[k + 1].f * l[k + 1].f, 1⟩ : Slb)]).length), j < k + 1 → (s1 ++ [(⟨l[k + 1].f * l[k + 1].f, 1⟩ : Slb)])[j].sq < l[k + 1].f * l[k + 1].f := fun j h hj => by
    rw [List.getElem_append_left (by omega), (hs1 j (by omega)).1, fAt_eq (by omega)]
    exact (hO.sq (show j < l.length by omega) hlt (by omega)).2
  have hstop : l[k + 1].f * l[k + 1].f ≤ ((s1 ++ [(⟨l[k + 1].f * l[k + 1].f, 1⟩ : Slb)])[k + 1]'(by simp [hl1])).sq := by
    rw [List.getElem_append_right (by omega)]
    simp [hl1]
  have hok : Ok base (s1 ++ [(⟨l[k + 1].f * l[k + 1].f, 1⟩ : Slb)]) := ⟨hb0, hb1, by simp, by simp [hl1]; omega, fun x hx => by
    rcases List.mem_append.1 hx with h | h
    · obtain ⟨j, hj, e⟩ := List.getElem_of_mem h
      have hh := hs1 j hj
      rw [e] at hh
      have hpj := hO.pt (l[j]'(by omega)) (List.getElem_mem _)
      have hqj := sq_bd (l[j]'(by omega)).f (by omega) hpj.2.1
      rw [hh.1, fAt_eq (by omega)]
      exact ⟨hqj.1, hqj.2, hh.2.1, hh.2.2⟩
    · rw [List.mem_singleton.1 h]
      exact ⟨hq.1, hq.2, (by show (0 : Int) ≤ 1; decide), (by show (1 : Int) ≤ 500; decide)⟩⟩
  obtain ⟨e1, e2, e3⟩ := reflAt_of (chk_of_ok hok) hp.1 hp.2.1 (k := k + 1) (by simp [hl1]) hpass hstop
  have hv := virt_take (base := base) (a := s1 ++ [(⟨l[k + 1].f * l[k + 1].f, 1⟩ : Slb)]) (b := s1) (f := l[k + 1].f) (j := k + 1) (List.take_append_of_le_length (by omega))
  refine ⟨e1, ?_, ?_⟩
  · unfold vatLo
    rw [if_pos e1, e2, Int.toNat_natCast, hv.1]
  · unfold vatHi
    rw [if_pos e1, e2, Int.toNat_natCast, hv.2]

set_option maxRecDepth 100000 in
set_option maxHeartbeats 4000000 in
theorem RFitted_any (A : Option Addr) (l : List Pt) (cap : Nat) (after width : Int) (w : World) (hc0 : chkTE l after width = 0) (hA : PtsAt w A l) :
    Calls Try.prog 46 #[.agg #[.slice A l.length cap, .int .i64 after, .int .i64 width]] w (FitPost l after width w) := by
  have hO := okT_of_chk hc0
  have hn0 := hO.n0
  have hn1 := hO.n1
  have hw0 := hO.w0
  have hw1 := hO.w1
  have h1 : fitE1 l after width = unl (decide (width = 0)) 15 := by unfold fitE1; rw [hc0, firstE_zero2]
  have h2 : fitE2 l after width = if fitE1 l after width = 0 then unl (withinB (loAt0 l) 0 500) 22 else fitE1 l after width := rfl
  have h3 : fit l after width = if fitE2 l after width ≠ 0 then ⟨0, [], 0, fitE2 l after width⟩
    else ⟨if (fitGo l (loAt0 l) (l.drop 1) 0 []).2.2 = 0 then loAt0 l else 0, (fitGo l (loAt0 l) (l.drop 1) 0 []).1, (fitGo l (loAt0 l) (l.drop 1) 0 []).2.1, (fitGo l (loAt0 l) (l.drop 1) 0 []).2.2⟩ := rfl
  have hlo : loAt0 l = l[0].lo := by unfold loAt0; rw [List.getD_eq_getElem?_getD, List.getElem?_eq_getElem hn0]; rfl
  have hp0 := hO.pt l[0] (List.getElem_mem hn0)
  have HO := Lib.hid hO
  clear hO
  obtain ⟨bb, off, rfl, hb, c0, c1, c2⟩ := PtsAt.at_ hA hn0
  rw [← hlo] at c1 hp0
  simp only [Nat.zero_mul, Nat.add_zero] at c1
  have hlo0 : 0 ≤ loAt0 l := hp0.2.2.1
  clear c0 c2 hp0 hlo hc0
  generalize loAt0 l = base at *
  have hb2 : bb < w.heap.size + 1 := by omega
  have hb3 : bb < w.heap.size + 1 + 1 := by omega
  go_enter Try.func46, Try.ntmps46
  by_cases hw : width = 0
  rotate_left 1
  · have hwp : 0 < width := by omega
    have e1 : fitE2 l after width = 15 := by rw [h2, h1]; simp [hw, unl]
    rw [e1, if_pos (by decide)] at h3
    have H3 := Lib.hid h3
    clear h1 h2 h3 e1
    go_wp2
    refine bodyPost_ret (v := .tuple #[.agg #[.int .i64 0, .slice none 0 0], .int .i64 0, .int .i64 15]) (by simp [results, Try.results46, go_sem]) rfl ?_
    unfold FitPost
    rw [H3.out]
    exact ⟨none, 0, rfl, World.ownsRow_nil _ _ _ _, (by repeat (first | assumption | exact Below.refl _ _ | refine Below.drew ?_ | (refine below_alloc _ ?_ ?_; focus (first | omega | (simp; done) | (simp; omega) | (simp at *; omega))) | (refine below_set _ ?_ ?_; focus (first | omega | (simp; done) | (simp; omega) | (simp at *; omega))) | refine below_drewN ?_ _ | (refine below_call (by assumption) ?_ ?_; focus (first | omega | (simp; done) | (simp; omega) | (simp at *; omega))) | (refine below_call' (by assumption) ?_ ?_; focus (first | omega | (simp; done) | (simp; omega) | (simp at *; omega)))))⟩
  have hwp : ¬ 0 < width := by omega
  have e1 : fitE1 l after width = 0 := by rw [h1]; simp [hw, unl]
  rw [e1, if_pos rfl] at h2
  by_cases hbs : base ≤ 500
  rotate_left 1
  · have hbp : 500 < base := by omega
    have e2 : fitE2 l after width = 22 := by
      rw [h2, show withinB base 0 500 = false from Bool.eq_false_iff.2 fun h => hbs (withinB_true.1 h).2]
      rfl
    rw [e2, if_pos (by decide)] at h3
    have H3 := Lib.hid h3
    clear h1 h2 h3 e1 e2 hw
    go_wp2
    refine bodyPost_ret (v := .tuple #[.agg #[.int .i64 0, .slice none 0 0], .int .i64 0, .int .i64 22]) (by simp [results, Try.results46, go_sem]) rfl ?_
    unfold FitPost
    rw [H3.out]
    exact ⟨none, 0, rfl, World.ownsRow_nil _ _ _ _, (by repeat (first | assumption | exact Below.refl _ _ | refine Below.drew ?_ | (refine below_alloc _ ?_ ?_; focus (first | omega | (simp; done) | (simp; omega) | (simp at *; omega))) | (refine below_set _ ?_ ?_; focus (first | omega | (simp; done) | (simp; omega) | (simp at *; omega))) | refine below_drewN ?_ _ | (refine below_call (by assumption) ?_ ?_; focus (first | omega | (simp; done) | (simp; omega) | (simp at *; omega))) | (refine below_call' (by assumption) ?_ ?_; focus (first | omega | (simp; done) | (simp; omega) | (simp at *; omega)))))⟩
  have e2 : fitE2 l after width = 0 := by
    rw [h2, show withinB base 0 500 = true from withinB_true.2 ⟨hlo0, hbs⟩]
    rfl
  rw [if_neg (by simp [e2])] at h3
  have H3 := Lib.hid h3
  have hbp : decide (500 < base) = false := by simp; omega
  clear h1 h2 h3 e1 e2 hw
  go_wp2
  have K0 : (((w.alloc (.cells #[.slice (some ⟨bb, off, none⟩) l.length cap, .int .i64 after, .int .i64 width] 53)).alloc (.cells #[.int .i64 0, .slice none 0 0] 24)).alloc (.cells #[.int .i64 0, .slice none 0 0] 24)).cell? ⟨w.heap.size, 0, none⟩ = some (.slice (some ⟨bb, off, none⟩) l.length cap) := (by repeat (first | assumption | (refine cell_new ?_ rfl; focus (simp; done)) | refine cell_drew ?_ | refine cell_alloc _ ?_ | refine cell_drewN _ ?_ | (refine cell_far ?_ ?_; focus (first | omega | (simp; omega) | (simp; done))) | refine cell_below' (by assumption) ?_))
  have K1 : (((w.alloc (.cells #[.slice (some ⟨bb, off, none⟩) l.length cap, .int .i64 after, .int .i64 width] 53)).alloc (.cells #[.int .i64 0, .slice none 0 0] 24)).alloc (.cells #[.int .i64 0, .slice none 0 0] 24)).cell? ⟨w.heap.size, 1, none⟩ = some (.int .i64 after) := (by repeat (first | assumption | (refine cell_new ?_ rfl; focus (simp; done)) | refine cell_drew ?_ | refine cell_alloc _ ?_ | refine cell_drewN _ ?_ | (refine cell_far ?_ ?_; focus (first | omega | (simp; omega) | (simp; done))) | refine cell_below' (by assumption) ?_))
  have K2 : (((w.alloc (.cells #[.slice (some ⟨bb, off, none⟩) l.length cap, .int .i64 after, .int .i64 width] 53)).alloc (.cells #[.int .i64 0, .slice none 0 0] 24)).alloc (.cells #[.int .i64 0, .slice none 0 0] 24)).cell? ⟨w.heap.size, 2, none⟩ = some (.int .i64 width) := (by repeat (first | assumption | (refine cell_new ?_ rfl; focus (simp; done)) | refine cell_drew ?_ | refine cell_alloc _ ?_ | refine cell_drewN _ ?_ | (refine cell_far ?_ ?_; focus (first | omega | (simp; omega) | (simp; done))) | refine cell_below' (by assumption) ?_))
  have C0 : (((w.alloc (.cells #[.slice (some ⟨bb, off, none⟩) l.length cap, .int .i64 after, .int .i64 width] 53)).alloc (.cells #[.int .i64 0, .slice none 0 0] 24)).alloc (.cells #[.int .i64 0, .slice none 0 0] 24)).cell? ⟨w.heap.size + 1, 0, none⟩ = some (.int .i64 0) := (by repeat (first | assumption | (refine cell_new ?_ rfl; focus (simp; done)) | refine cell_drew ?_ | refine cell_alloc _ ?_ | refine cell_drewN _ ?_ | (refine cell_far ?_ ?_; focus (first | omega | (simp; omega) | (simp; done))) | refine cell_below' (by assumption) ?_))
  have C1 : (((w.alloc (.cells #[.slice (some ⟨bb, off, none⟩) l.length cap, .int .i64 after, .int .i64 width] 53)).alloc (.cells #[.int .i64 0, .slice none 0 0] 24)).alloc (.cells #[.int .i64 0, .slice none 0 0] 24)).cell? ⟨w.heap.size + 1, 1, none⟩ = some (.slice none 0 0) := (by repeat (first | assumption | (refine cell_new ?_ rfl; focus (simp; done)) | refine cell_drew ?_ | refine cell_alloc _ ?_ | refine cell_drewN _ ?_ | (refine cell_far ?_ ?_; focus (first | omega | (simp; omega) | (simp; done))) | refine cell_below' (by assumption) ?_))
  have N0 : (((w.alloc (.cells #[.slice (some ⟨bb, off, none⟩) l.length cap, .int .i64 after, .int .i64 width] 53)).alloc (.cells #[.int .i64 0, .slice none 0 0] 24)).alloc (.cells #[.int .i64 0, .slice none 0 0] 24)).cell? ⟨w.heap.size + 1 + 1, 0, none⟩ = some (.int .i64 0) := (by repeat (first | assumption | (refine cell_new ?_ rfl; focus (simp; done)) | refine cell_drew ?_ | refine cell_alloc _ ?_ | refine cell_drewN _ ?_ | (refine cell_far ?_ ?_; focus (first | omega | (simp; omega) | (simp; done))) | refine cell_below' (by assumption) ?_))
  have N1 : (((w.alloc (.cells #[.slice (some ⟨bb, off, none⟩) l.length cap, .int .i64 after, .int .i64 width] 53)).alloc (.cells #[.int .i64 0, .slice none 0 0] 24)).alloc (.cells #[.int .i64 0, .slice none 0 0] 24)).cell? ⟨w.heap.size + 1 + 1, 1, none⟩ = some (.slice none 0 0) := (by repeat (first | assumption | (refine cell_new ?_ rfl; focus (simp; done)) | refine cell_drew ?_ | refine cell_alloc _ ?_ | refine cell_drewN _ ?_ | (refine cell_far ?_ ?_; focus (first | omega | (simp; omega) | (simp; done))) | refine cell_below' (by assumption) ?_))
  have G0 : (((w.alloc (.cells #[.slice (some ⟨bb, off, none⟩) l.length cap, .int .i64 after, .int .i64 width] 53)).alloc (.cells #[.int .i64 0, .slice none 0 0] 24)).alloc (.cells #[.int .i64 0, .slice none 0 0] 24)).frozen? ⟨w.heap.size + 1, 0, none⟩ = false := (by repeat (first | assumption | (refine frozen_new ?_; focus (simp; done)) | refine frozen_drew ?_ | (refine frozen_alloc _ ?_ ?_; focus (first | (simp; done) | (simp; omega))) | refine frozen_drewN _ ?_ | refine frozen_set _ _ ?_ | (refine frozen_below (by assumption) ?_ ?_; focus (first | (simp; done) | (simp; omega)))))
  have G1 : (((w.alloc (.cells #[.slice (some ⟨bb, off, none⟩) l.length cap, .int .i64 after, .int .i64 width] 53)).alloc (.cells #[.int .i64 0, .slice none 0 0] 24)).alloc (.cells #[.int .i64 0, .slice none 0 0] 24)).frozen? ⟨w.heap.size + 1, 1, none⟩ = false := (by repeat (first | assumption | (refine frozen_new ?_; focus (simp; done)) | refine frozen_drew ?_ | (refine frozen_alloc _ ?_ ?_; focus (first | (simp; done) | (simp; omega))) | refine frozen_drewN _ ?_ | refine frozen_set _ _ ?_ | (refine frozen_below (by assumption) ?_ ?_; focus (first | (simp; done) | (simp; omega)))))
  have hv : (((w.alloc (.cells #[.slice (some ⟨bb, off, none⟩) l.length cap, .int .i64 after, .int .i64 width] 53)).alloc (.cells #[.int .i64 0, .slice none 0 0] 24)).alloc (.cells #[.int .i64 0, .slice none 0 0] 24)).heap.size = w.heap.size + 1 + 1 + 1 := by simp
  have hbv : Below w.heap.size w (((w.alloc (.cells #[.slice (some ⟨bb, off, none⟩) l.length cap, .int .i64 after, .int .i64 width] 53)).alloc (.cells #[.int .i64 0, .slice none 0 0] 24)).alloc (.cells #[.int .i64 0, .slice none 0 0] 24)) := (by repeat (first | assumption | exact Below.refl _ _ | refine Below.drew ?_ | (refine below_alloc _ ?_ ?_; focus (first | omega | (simp; done) | (simp; omega) | (simp at *; omega))) | (refine below_set _ ?_ ?_; focus (first | omega | (simp; done) | (simp; omega) | (simp at *; omega))) | refine below_drewN ?_ _ | (refine below_call (by assumption) ?_ ?_; focus (first | omega | (simp; done) | (simp; omega) | (simp at *; omega))) | (refine below_call' (by assumption) ?_ ?_; focus (first | omega | (simp; done) | (simp; omega) | (simp at *; omega)))))
  rw [← hv]
  generalize (((w.alloc (.cells #[.slice (some ⟨bb, off, none⟩) l.length cap, .int .i64 after, .int .i64 width] 53)).alloc (.cells #[.int .i64 0, .slice none 0 0] 24)).alloc (.cells #[.int .i64 0, .slice none 0 0] 24)) = v1 at *
  have hs1 : w.heap.size < v1.heap.size := by omega
  have hs2 : w.heap.size + 1 < v1.heap.size := by omega
  have hs3 : w.heap.size + 1 + 1 < v1.heap.size := by omega
  have AV : PtsAt v1 (some ⟨bb, off, none⟩) l := RowsAt.below hA hbv
  clear hv hb2 hb3 c1
  go_loopw [8] (fun i wr => ∃ (k : Nat) (sl : List Slb) (A' : Option Addr) (c' : Nat), k + 1 ≤ l.length ∧ i = .int .i64 k ∧ Fits l base sl k ∧ fitGo l base (l.drop 1) 0 [] = fitGo l base (l.drop (k + 1)) k sl ∧ wr.cell? ⟨v1.heap.size, 0, none⟩ = some (.int .i64 base) ∧ wr.cell? ⟨v1.heap.size, 1, none⟩ = some (.slice A' k c') ∧ wr.frozen? ⟨v1.heap.size, 0, none⟩ = false ∧ wr.frozen? ⟨v1.heap.size, 1, none⟩ = false ∧ wr.ownsRow (v1.heap.size + 1) 45 2 (.slice A' k c') k (cellsOf 2 slbC sl) ∧ Below v1.heap.size v1 wr ∧ v1.heap.size < wr.heap.size) (fun i _ => l.length - (intOf i).toNat)
  case atStart => exact ⟨0, [], none, 0, hn0, rfl, ⟨rfl, fun j h => absurd h (by simp), fun j _ h => absurd h (by omega)⟩, rfl, cell_new rfl rfl, cell_new rfl rfl, frozen_new rfl, frozen_new rfl, World.ownsRow_nil _ _ _ _, (by repeat (first | assumption | exact Below.refl _ _ | refine Below.drew ?_ | (refine below_alloc _ ?_ ?_; focus (first | omega | (simp; done) | (simp; omega) | (simp at *; omega))) | (refine below_set _ ?_ ?_; focus (first | omega | (simp; done) | (simp; omega) | (simp at *; omega))) | refine below_drewN ?_ _ | (refine below_call (by assumption) ?_ ?_; focus (first | omega | (simp; done) | (simp; omega) | (simp at *; omega))) | (refine below_call' (by assumption) ?_ ?_; focus (first | omega | (simp; done) | (simp; omega) | (simp at *; omega))))), by simp⟩
  case round =>
    obtain ⟨k, sl, A', c', hk, rfl, hfit, hgo, s0, s1, y0, y1, hown, hbw, hsz⟩ := hrel
    have HF := Lib.hid hfit
    have HM := Lib.hid hgo
    have hlen := hfit.len
    have k0 := cell_below' hbw K0
    have k1 := cell_below' hbw K1
    have c0 := cell_below' hbw C0
    have c1 := cell_below' hbw C1
    have n0 := cell_below' hbw N0
    have n1 := cell_below' hbw N1
    have g0 := frozen_below hbw (show _ from hs2) G0
    have g1 := frozen_below hbw (show _ from hs2) G1
    have hz1 : w.heap.size < wr.heap.size := by omega
    have hz2 : w.heap.size + 1 < wr.heap.size := by omega
    have hz3 : w.heap.size + 1 + 1 < wr.heap.size := by omega
    have hAr := RowsAt.below AV hbw
    have hkl : k < l.length := by omega
    have ek := cell_pt' hAr hkl
    have hpk := HO.out.pt l[k] (List.getElem_mem hkl)
    rw [← fAt_eq hkl] at hpk
    obtain ⟨pk1, pk2, -⟩ := hpk
    have hbb : bb < wr.heap.size := World.block_lt_of_cell? _ _ ek
    clear hfit hgo
    by_cases hlt : k + 1 < l.length
    rotate_left 1
    · have hke : k = l.length - 1 := by omega
      have hd : l.drop (k + 1) = [] := List.drop_eq_nil_of_le (by omega)
      rw [hd, fitGo, ← hke] at HM
      clear hd hke
      have hlt' : ¬ (k : Int) + 1 < (l.length : Int) := by omega
      have hln : (l.length : Int) - 1 = (k : Int) := by omega
      have hSl : SlabsAt wr A' sl := rowsAt_of_own hown hlen (by decide)
      have hwt := fun W hW => with_any base A' sl k c' (fAt l k) 1 W hlen (by omega) (by omega) pk2 hW
      have HWT := Lib.hid hwt
      clear hwt
      have hL : (sl ++ [(⟨fAt l k * fAt l k, 1⟩ : Slb)]).length = k + 1 := by simp [hlen]
      have hfit : fit l after width = ⟨base, sl ++ [⟨fAt l k * fAt l k, 1⟩], 0, 0⟩ := by rw [H3.out, HM.out]; rfl
      have HFIT := Lib.hid hfit
      have HL := Lib.hid hL
      have hq1 : w.heap.size + 1 ≠ v1.heap.size := by omega
      have hq2 : w.heap.size + 1 ≠ bb := by omega
      have hq3 : w.heap.size + 1 ≠ w.heap.size := by omega
      have hk1 : k < k + 1 := by omega
      have hwr1 : IntKind.i64.wrap (k : Int) = (k : Int) := by simp [IntKind.wrap, IntKind.bits, IntKind.signed]; omega
      have hwr2 : IntKind.i64.wrap (((k + 1 : Nat) : Int) - 1) = (k : Int) := by rw [show ((k + 1 : Nat) : Int) - 1 = (k : Int) by omega]; exact hwr1
      have hwr3 : IntKind.i64.wrap ((k : Int) + 1 - 1) = (k : Int) := by rw [show (k : Int) + 1 - 1 = (k : Int) by omega]; exact hwr1
      have hwr4 : (0 : Int) ≤ (k : Int) := by omega
      have hwr5 : (k : Int) < (k : Int) + 1 := by omega
      have hl1 : l.length = k + 1 := by omega
      rw [hl1] at k0 ⊢
      clear hL hfit H3 HM HF hlt' hln hlt hl1
      generalize fAt l k = fk at *
      go_wp2_with (fail)
      go_region_held3 (fun w' => w'.cell? ⟨v1.heap.size, 0, none⟩ = some (.int .i64 base) ∧ w'.cell? ⟨v1.heap.size, 1, none⟩ = some (.slice A' k c') ∧ w'.cell? ⟨w.heap.size, 0, none⟩ = some (.slice (some ⟨bb, off, none⟩) (k + 1) cap) ∧ w'.cell? ⟨bb, off + k * 3, none⟩ = some (.int .i64 fk))
        ((((try go_split_ands); (repeat' (apply And.intro)) <;> (repeat (first | (with_reducible assumption) | (with_reducible refine cell_drew ?_) | (with_reducible refine cell_alloc _ ?_) | (with_reducible refine cell_below' (by with_reducible assumption) ?_) | (with_reducible refine cell_far ?_ ?_; focus (first | omega | (simp; omega) | (simp; done))))))))
        (first | (go_at_call 86; ((with_reducible refine (HWT.out _ ?_).mono ?_); (focus (exact RowsAt.below hSl (by repeat (first | assumption | exact Below.refl _ _ | refine Below.drew ?_ | (refine below_alloc _ ?_ ?_; focus (first | omega | (simp; done) | (simp; omega) | (simp at *; omega))) | (refine below_set _ ?_ ?_; focus (first | omega | (simp; done) | (simp; omega) | (simp at *; omega))) | refine below_drewN ?_ _ | (refine below_call (by assumption) ?_ ?_; focus (first | omega | (simp; done) | (simp; omega) | (simp at *; omega))) | (refine below_call' (by assumption) ?_ ?_; focus (first | omega | (simp; done) | (simp; omega) | (simp at *; omega))))))); (rintro e y4 ⟨A4, c4, rfl, own4, hb4⟩); (have d0 := cell_below' hb4 (cell_drew c0)); (have d1 := cell_below' hb4 (cell_drew c1)); (have x0 := frozen_below hb4 (show w.heap.size + 1 < _ from hz2) (frozen_drew g0)); (have x1 := frozen_below hb4 (show w.heap.size + 1 < _ from hz2) (frozen_drew g1)); (have hz4 : w.heap.size + 1 < y4.heap.size := (by have := hb4.size; (try simp at this); omega)))))
      go_wp2
      refine bodyPost_ret (v := .tuple #[.agg #[.int .i64 base, .slice A4 (k + 1) c4], .int .i64 0, .int .i64 0]) (by simp [results, Try.results46, go_sem, d0, d1, hz4]) rfl ?_
      unfold FitPost
      rw [HFIT.out]
      simp only [HL.out]
      exact ⟨A4, c4, rfl, own_mono (ownsRow_setCell_below (ownsRow_setCell_below own4 (by (first | omega | (simp; done) | (simp; omega) | (simp at *; omega))) _) (by (first | omega | (simp; done) | (simp; omega) | (simp at *; omega))) _) (by (first | omega | (simp; done) | (simp; omega) | (simp at *; omega))), (by repeat (first | assumption | exact Below.refl _ _ | refine Below.drew ?_ | (refine below_alloc _ ?_ ?_; focus (first | omega | (simp; done) | (simp; omega) | (simp at *; omega))) | (refine below_set _ ?_ ?_; focus (first | omega | (simp; done) | (simp; omega) | (simp at *; omega))) | refine below_drewN ?_ _ | (refine below_call (by assumption) ?_ ?_; focus (first | omega | (simp; done) | (simp; omega) | (simp at *; omega))) | (refine below_call' (by assumption) ?_ ?_; focus (first | omega | (simp; done) | (simp; omega) | (simp at *; omega)))))⟩
    obtain ⟨b2, o2, e2, hb2', e0, e1, e3⟩ := PtsAt.at_ hAr hlt
    injection e2 with e2
    injection e2 with e21 e22
    subst e21 e22
    have hpp := HO.out.pt l[k + 1] (List.getElem_mem hlt)
    obtain ⟨pf1, pf2, -, -, -⟩ := hpp
    have hd : l.drop (k + 1) = l[k + 1] :: l.drop (k + 1 + 1) := List.drop_eq_getElem_cons hlt
    rw [hd, fitGo] at HM
    clear hd
    have hwl := fun t t0 t1 => with_law (t := t) HO.out hlo0 hbs HF.out hlt t0 t1
    have HWL := Lib.hid hwl
    have HSN : Hid (∀ t : Int, 0 ≤ t → t ≤ 500 → Meets base (sl ++ [⟨fAt l k * fAt l k, t⟩]) l[k + 1] (k + 1) → Fits l base (sl ++ [⟨fAt l k * fAt l k, t⟩]) (k + 1)) := Lib.hid fun t t0 t1 hm => HF.out.snoc t0 t1 fun _ => hm
    have hSl : SlabsAt wr A' sl := rowsAt_of_own hown hlen (by decide)
    clear hwl
    have HEK : Hid (∀ W, PtsAt W (some ⟨bb, off, none⟩) l → W.cell? ⟨bb, off + k * 3, none⟩ = some (.int .i64 (fAt l k))) := Lib.hid fun W h => cell_pt' h hkl
    generalize l[k + 1] = p at *
    generalize fAt l k = fk at *
    have hlt' : (k : Int) + 1 < (l.length : Int) := by omega
    have hkn : ((k : Int) + 1).toNat = k + 1 := by omega
    go_wp2
    have q0 : (wr.alloc (.cells #[.int .i64 p.f, .int .i64 p.lo, .int .i64 p.hi] 75)).cell? ⟨wr.heap.size, 0, none⟩ = some (.int .i64 p.f) := cell_new rfl rfl
    have q1 : (wr.alloc (.cells #[.int .i64 p.f, .int .i64 p.lo, .int .i64 p.hi] 75)).cell? ⟨wr.heap.size, 1, none⟩ = some (.int .i64 p.lo) := cell_new rfl rfl
    have q2 : (wr.alloc (.cells #[.int .i64 p.f, .int .i64 p.lo, .int .i64 p.hi] 75)).cell? ⟨wr.heap.size, 2, none⟩ = some (.int .i64 p.hi) := cell_new rfl rfl
    have hbp : Below v1.heap.size v1 (wr.alloc (.cells #[.int .i64 p.f, .int .i64 p.lo, .int .i64 p.hi] 75)) := below_alloc _ (by omega) hbw
    have hownp := hown.alloc (.cells #[.int .i64 p.f, .int .i64 p.lo, .int .i64 p.hi] 75)
    have s0p := cell_alloc (.cells #[.int .i64 p.f, .int .i64 p.lo, .int .i64 p.hi] 75) s0
    have s1p := cell_alloc (.cells #[.int .i64 p.f, .int .i64 p.lo, .int .i64 p.hi] 75) s1
    have y0p := frozen_alloc (.cells #[.int .i64 p.f, .int .i64 p.lo, .int .i64 p.hi] 75) (show v1.heap.size < wr.heap.size from hsz) y0
    have y1p := frozen_alloc (.cells #[.int .i64 p.f, .int .i64 p.lo, .int .i64 p.hi] 75) (show v1.heap.size < wr.heap.size from hsz) y1
    have hzp : wr.heap.size < (wr.alloc (.cells #[.int .i64 p.f, .int .i64 p.lo, .int .i64 p.hi] 75)).heap.size := by simp
    generalize (wr.alloc (.cells #[.int .i64 p.f, .int .i64 p.lo, .int .i64 p.hi] 75)) = wp at *
    obtain ⟨pb, hpb⟩ : ∃ pb, pb = wr.heap.size := ⟨_, rfl⟩
    have hpv : v1.heap.size < pb := by omega
    rw [← hpb]
    rw [← hpb] at q0 q1 q2 hzp
    clear hown s0 s1 y0 y1 hSl k0 k1 c0 c1 n0 n1 g0 g1 ek hAr e0 e1 e3 hb2' hz1 hz2 hz3 hbb hbw hsz hpb
    go_loopw [10, 11] (fun fd d wi => ∃ (fnd : Bool) (t : Nat) (n : Nat) (s' : List Slb) (B' : Option Addr) (d' : Nat), fd = .bool fnd ∧ d = .int .i64 t ∧ t ≤ 501 ∧ s'.length = n ∧ n ≤ k + 1 ∧
        (fnd = false → n = k ∧ s' = sl ∧ fitTh base sl (fk * fk) p.f p.lo 501 0 = (if t ≤ 500 then fitTh base sl (fk * fk) p.f p.lo (501 - t) t else none)) ∧
        (fnd = true → n = k + 1 ∧ ∃ z : Int, 0 ≤ z ∧ z ≤ 500 ∧ fitTh base sl (fk * fk) p.f p.lo 501 0 = some z ∧ s' = sl ++ [⟨fk * fk, z⟩] ∧ Meets base (sl ++ [⟨fk * fk, z⟩]) p (k + 1)) ∧
        wi.cell? ⟨v1.heap.size, 0, none⟩ = some (.int .i64 base) ∧ wi.cell? ⟨v1.heap.size, 1, none⟩ = some (.slice B' n d') ∧ wi.frozen? ⟨v1.heap.size, 0, none⟩ = false ∧ wi.frozen? ⟨v1.heap.size, 1, none⟩ = false ∧ wi.ownsRow (v1.heap.size + 1) 45 2 (.slice B' n d') n (cellsOf 2 slbC s') ∧
        wi.cell? ⟨pb, 0, none⟩ = some (.int .i64 p.f) ∧ wi.cell? ⟨pb, 1, none⟩ = some (.int .i64 p.lo) ∧ wi.cell? ⟨pb, 2, none⟩ = some (.int .i64 p.hi) ∧ Below v1.heap.size v1 wi ∧ pb < wi.heap.size) (fun _ d _ => 502 - (intOf d).toNat)
    case atStart => exact ⟨false, 0, k, sl, A', c', rfl, rfl, by omega, hlen, by omega, fun _ => ⟨rfl, rfl, rfl⟩, fun h => (by cases h), s0p, s1p, y0p, y1p, hownp, q0, q1, q2, hbp, hzp⟩
    case round =>
      clear s0p s1p y0p y1p hownp q0 q1 q2 hbp hzp
      obtain ⟨fnd, t, n, s', B', d', rfl, rfl, ht, hln', hnk, hF, hT, s0, s1, f0, f1, hown, q0, q1, q2, hbw, hzp⟩ := hrel
      have k0 := cell_below' hbw K0
      have c0 := cell_below' hbw C0
      have c1 := cell_below' hbw C1
      have n0 := cell_below' hbw N0
      have n1 := cell_below' hbw N1
      have g0 := frozen_below hbw (show _ from hs2) G0
      have g1 := frozen_below hbw (show _ from hs2) G1
      have hzv : v1.heap.size < wr.heap.size := by omega
      have hz1 : w.heap.size < wr.heap.size := by omega
      have hz2 : w.heap.size + 1 < wr.heap.size := by omega
      have hz3 : w.heap.size + 1 + 1 < wr.heap.size := by omega
      have hAr := RowsAt.below AV hbw
      have ek := HEK.out _ hAr
      cases fnd
      rotate_left 1
      · obtain ⟨rfl, z, z0, z1, hth, rfl, hm⟩ := hT rfl
        have hst : fitGo l base (l.drop 1) 0 [] = fitGo l base (l.drop (k + 1 + 1)) (k + 1) (sl ++ [⟨fk * fk, z⟩]) := by
          have h := HM.out
          rw [hth] at h
          simp only at h
          rw [if_neg hm.2] at h
          exact h
        have HST := Lib.hid hst
        have HFN := Lib.hid (HSN.out z z0 z1 hm)
        clear hst hF hT hth hm
        by_cases ht5 : (t : Int) ≤ 500
        all_goals
          go_wp2
          go_roundw
          case rel => exact ⟨k + 1, _, B', d', by omega, by go_num, HFN.out, HST.out, s0, s1, f0, f1, hown, hbw, hzv⟩
          case measure => simp [intOf]; omega
      obtain ⟨hnk1, hnk2, hfth⟩ := hF rfl
      obtain rfl : k = n := hnk1.symm
      obtain rfl : sl = s' := hnk2.symm
      clear hF hT
      by_cases ht5 : t ≤ 500
      rotate_left 1
      · rw [if_neg ht5] at hfth
        have hm := HM.out
        rw [hfth] at hm
        simp only at hm
        have hfit : fit l after width = ⟨0, [], ((k + 1 : Nat) : Int), 22⟩ := by rw [H3.out, hm]; rfl
        have HFIT := Lib.hid hfit
        have ht' : ¬ (t : Int) ≤ 500 := by omega
        clear hm hfit hfth
        go_wp2
        refine bodyPost_ret (v := .tuple #[.agg #[.int .i64 0, .slice none 0 0], .int .i64 ((k + 1 : Nat) : Int), .int .i64 22]) (by simp [results, Try.results46, go_sem, c0, c1, hz2]) rfl ?_
        unfold FitPost
        rw [HFIT.out]
        exact ⟨none, 0, rfl, World.ownsRow_nil _ _ _ _, (by repeat (first | assumption | exact Below.refl _ _ | refine Below.drew ?_ | (refine below_alloc _ ?_ ?_; focus (first | omega | (simp; done) | (simp; omega) | (simp at *; omega))) | (refine below_set _ ?_ ?_; focus (first | omega | (simp; done) | (simp; omega) | (simp at *; omega))) | refine below_drewN ?_ _ | (refine below_call (by assumption) ?_ ?_; focus (first | omega | (simp; done) | (simp; omega) | (simp at *; omega))) | (refine below_call' (by assumption) ?_ ?_; focus (first | omega | (simp; done) | (simp; omega) | (simp at *; omega)))))⟩
      have hunf : fitTh base sl (fk * fk) p.f p.lo ((500 - t) + 1) (t : Int) = (if virtHi base (sl ++ [⟨fk * fk, (t : Int)⟩]) p.f (k + 1) < p.lo then (if (t : Int) + 1 ≤ 500 then fitTh base sl (fk * fk) p.f p.lo (500 - t) ((t : Int) + 1) else none) else some (t : Int)) := by rw [fitTh, hln']
      rw [if_pos ht5, show 501 - t = (500 - t) + 1 by omega, hunf] at hfth
      clear hunf
      have hSl : SlabsAt wr B' sl := rowsAt_of_own hown hln' (by decide)
      have hwt := fun W hW => with_any base B' sl k d' fk (t : Int) W hln' (by omega) (by omega) pk2 hW
      have HWT := Lib.hid hwt
      obtain ⟨wl1, wl2, wl3⟩ := HWL.out (t : Int) (by omega) (by omega)
      have hL1 : (sl ++ [(⟨fk * fk, (t : Int)⟩ : Slb)]).length = k + 1 := by simp [hln']
      have hrv : ∀ A2 c2 W, SlabsAt W A2 (sl ++ [(⟨fk * fk, (t : Int)⟩ : Slb)] ++ [(⟨p.f * p.f, 1⟩ : Slb)]) → Calls Try.prog 22 #[.agg #[.int .i64 base, .slice A2 (k + 1 + 1) c2], .int .i64 p.f] W fun e w' => e = .returned (.agg #[.int .i64 (virtLo base (sl ++ [⟨fk * fk, (t : Int)⟩]) p.f (k + 1)), .int .i64 (virtHi base (sl ++ [⟨fk * fk, (t : Int)⟩]) p.f (k + 1))]) ∧ Below W.heap.size W w' := fun A2 c2 W hW => by
        have h := RVirtual_any base A2 _ c2 p.f W wl1 hW
        rw [wl2, wl3] at h
        have hlen2 : (sl ++ [(⟨fk * fk, (t : Int)⟩ : Slb)] ++ [(⟨p.f * p.f, 1⟩ : Slb)]).length = k + 1 + 1 := by simp [hln']
        rwa [hlen2] at h
      have hwt2 := fun A1 c1 W hW => with_any base A1 (sl ++ [(⟨fk * fk, (t : Int)⟩ : Slb)]) (k + 1) c1 p.f 1 W hL1 (by omega) (by omega) pf2 hW
      have HRV := Lib.hid hrv
      have HWT2 := Lib.hid hwt2
      have HL1 := Lib.hid hL1
      have HTH := Lib.hid hfth
      have hk0 : (0 : Int) ≤ (k : Int) := by omega
      have hk1 : (k : Int) < (l.length : Int) := by omega
      have ht6 : (t : Int) ≤ 500 := by omega
      clear hwt hrv hwt2 hL1 hfth wl1 wl2 wl3
      generalize hvl : virtLo base (sl ++ [⟨fk * fk, (t : Int)⟩]) p.f (k + 1) = vlo at *
      generalize hvh : virtHi base (sl ++ [⟨fk * fk, (t : Int)⟩]) p.f (k + 1) = vhi at *
      have HVL := Lib.hid hvl
      have HVH := Lib.hid hvh
      clear hvl hvh
      go_wp2_with (fail)
      apply cut2_
      · intro key
        go_region_held3 (fun w' => w'.cell? ⟨v1.heap.size, 0, none⟩ = some (.int .i64 base) ∧ w'.cell? ⟨v1.heap.size, 1, none⟩ = some (.slice B' k d') ∧ w'.cell? ⟨w.heap.size, 0, none⟩ = some (.slice (some ⟨bb, off, none⟩) l.length cap) ∧ w'.cell? ⟨bb, off + k * 3, none⟩ = some (.int .i64 fk))
          ((((try go_split_ands); (repeat' (apply And.intro)) <;> (repeat (first | (with_reducible assumption) | (with_reducible refine cell_drew ?_) | (with_reducible refine cell_alloc _ ?_) | (with_reducible refine cell_below' (by with_reducible assumption) ?_) | (with_reducible refine cell_far ?_ ?_; focus (first | omega | (simp; omega) | (simp; done))))))))
          (first | (go_at_call 86; ((with_reducible refine (HWT.out _ ?_).mono ?_); (focus (exact RowsAt.below hSl (by repeat (first | assumption | exact Below.refl _ _ | refine Below.drew ?_ | (refine below_alloc _ ?_ ?_; focus (first | omega | (simp; done) | (simp; omega) | (simp at *; omega))) | (refine below_set _ ?_ ?_; focus (first | omega | (simp; done) | (simp; omega) | (simp at *; omega))) | refine below_drewN ?_ _ | (refine below_call (by assumption) ?_ ?_; focus (first | omega | (simp; done) | (simp; omega) | (simp at *; omega))) | (refine below_call' (by assumption) ?_ ?_; focus (first | omega | (simp; done) | (simp; omega) | (simp at *; omega))))))); (rintro e y1 ⟨A1, ca, rfl, own1, hb1⟩); (have hy1 : wr.heap.size ≤ y1.heap.size := (by have := hb1.size; (try simp at this); omega)); (try have v0 : World.cell? y1 ⟨wr.heap.size, 0, none⟩ = some (.int .i64 0) := cell_below' hb1 (cell_new (by simp) rfl)); (try have v1' : World.cell? y1 ⟨wr.heap.size, 1, none⟩ = some (.slice none 0 0) := cell_below' hb1 (cell_new (by simp) rfl)); (try have y0 : World.frozen? y1 ⟨wr.heap.size, 0, none⟩ = false := frozen_below hb1 (by simp) (frozen_new (by simp))); (try have y1' : World.frozen? y1 ⟨wr.heap.size, 1, none⟩ = false := frozen_below hb1 (by simp) (frozen_new (by simp))))))
        focus
          have hbW : Below wr.heap.size wr (y1.alloc (.cells #[.int .i64 base, .slice A1 (k + 1) ca] 24)) := (by repeat (first | assumption | exact Below.refl _ _ | refine Below.drew ?_ | (refine below_alloc _ ?_ ?_; focus (first | omega | (simp; done) | (simp; omega) | (simp at *; omega))) | (refine below_set _ ?_ ?_; focus (first | omega | (simp; done) | (simp; omega) | (simp at *; omega))) | refine below_drewN ?_ _ | (refine below_call (by assumption) ?_ ?_; focus (first | omega | (simp; done) | (simp; omega) | (simp at *; omega))) | (refine below_call' (by assumption) ?_ ?_; focus (first | omega | (simp; done) | (simp; omega) | (simp at *; omega)))))
          have V0 : (y1.alloc (.cells #[.int .i64 base, .slice A1 (k + 1) ca] 24)).cell? ⟨y1.heap.size, 0, none⟩ = some (.int .i64 base) := cell_new rfl rfl
          have V1 : (y1.alloc (.cells #[.int .i64 base, .slice A1 (k + 1) ca] 24)).cell? ⟨y1.heap.size, 1, none⟩ = some (.slice A1 (k + 1) ca) := cell_new rfl rfl
          have hoW : (y1.alloc (.cells #[.int .i64 base, .slice A1 (k + 1) ca] 24)).ownsRow wr.heap.size 45 2 (.slice A1 (k + 1) ca) (k + 1) (cellsOf 2 slbC (sl ++ [⟨fk * fk, (t : Int)⟩])) := own_mono (own1.alloc _) (by simp)
          generalize (y1.alloc (.cells #[.int .i64 base, .slice A1 (k + 1) ca] 24)) = xa at *
          clear own1 hb1 hy1
          generalize y1.heap.size = na at *
          have F := And.intro hbW (And.intro V0 (And.intro V1 hoW))
          clear hbW V0 V1 hoW
          revert F
          revert na
          revert xa
          revert ca
          revert A1
          exact key ()
        focus
          have hbW : Below wr.heap.size wr ((y1.setCell ⟨wr.heap.size, 0, none⟩ (.int .i64 base)).setCell ⟨wr.heap.size, 1, none⟩ (.slice A1 (k + 1) ca)) := (by repeat (first | assumption | exact Below.refl _ _ | refine Below.drew ?_ | (refine below_alloc _ ?_ ?_; focus (first | omega | (simp; done) | (simp; omega) | (simp at *; omega))) | (refine below_set _ ?_ ?_; focus (first | omega | (simp; done) | (simp; omega) | (simp at *; omega))) | refine below_drewN ?_ _ | (refine below_call (by assumption) ?_ ?_; focus (first | omega | (simp; done) | (simp; omega) | (simp at *; omega))) | (refine below_call' (by assumption) ?_ ?_; focus (first | omega | (simp; done) | (simp; omega) | (simp at *; omega)))))
          have V0 : ((y1.setCell ⟨wr.heap.size, 0, none⟩ (.int .i64 base)).setCell ⟨wr.heap.size, 1, none⟩ (.slice A1 (k + 1) ca)).cell? ⟨wr.heap.size, 0, none⟩ = some (.int .i64 base) := (set2 v0 v1').1
          have V1 : ((y1.setCell ⟨wr.heap.size, 0, none⟩ (.int .i64 base)).setCell ⟨wr.heap.size, 1, none⟩ (.slice A1 (k + 1) ca)).cell? ⟨wr.heap.size, 1, none⟩ = some (.slice A1 (k + 1) ca) := (set2 v0 v1').2
          have hoW : ((y1.setCell ⟨wr.heap.size, 0, none⟩ (.int .i64 base)).setCell ⟨wr.heap.size, 1, none⟩ (.slice A1 (k + 1) ca)).ownsRow wr.heap.size 45 2 (.slice A1 (k + 1) ca) (k + 1) (cellsOf 2 slbC (sl ++ [⟨fk * fk, (t : Int)⟩])) := own_mono (ownsRow_setCell_below (ownsRow_setCell_below own1 (by simp) _) (by simp) _) (by simp)
          generalize ((y1.setCell ⟨wr.heap.size, 0, none⟩ (.int .i64 base)).setCell ⟨wr.heap.size, 1, none⟩ (.slice A1 (k + 1) ca)) = xa at *
          clear own1 hb1 hy1 v0 v1' y0 y1'
          obtain ⟨na, hna⟩ : ∃ na, na = wr.heap.size := ⟨_, rfl⟩
          rw [← hna]
          rw [← hna] at V0 V1
          clear hna
          have F := And.intro hbW (And.intro V0 (And.intro V1 hoW))
          clear hbW V0 V1 hoW
          revert F
          revert na
          revert xa
          revert ca
          revert A1
          exact key ()
      · intro A1 ca xa hS na F
        obtain ⟨hbW, V0, V1, hoW⟩ := F
        clear hS HWT hSl
        replace s0 := cell_below' hbW s0
        replace s1 := cell_below' hbW s1
        replace q0 := cell_below' hbW q0
        replace q1 := cell_below' hbW q1
        replace q2 := cell_below' hbW q2
        replace c0 := cell_below' hbW c0
        replace c1 := cell_below' hbW c1
        replace n0 := cell_below' hbW n0
        replace n1 := cell_below' hbW n1
        replace f0 := frozen_below hbW (show _ from hzv) f0
        replace f1 := frozen_below hbW (show _ from hzv) f1
        replace g0 := frozen_below hbW (show _ from hz2) g0
        replace g1 := frozen_below hbW (show _ from hz2) g1
        replace hown := own_below hown hbW
        have hwx := hbW.size
        have hbx : Below v1.heap.size v1 xa := hbw.trans (hbW.mono (by omega))
        have zx0 : w.heap.size + 1 < xa.heap.size := by omega
        have zx1 : v1.heap.size < xa.heap.size := by omega
        have zx2 : pb < xa.heap.size := by omega
        have zx3 : na < xa.heap.size := World.block_lt_of_cell? _ _ V0
        have zx4 : w.heap.size + 1 + 1 < xa.heap.size := by omega
        have hSA : SlabsAt xa A1 (sl ++ [(⟨fk * fk, (t : Int)⟩ : Slb)]) := rowsAt_of_own hoW HL1.out (by decide)
        have hL2 : (sl ++ [(⟨fk * fk, (t : Int)⟩ : Slb)] ++ [(⟨p.f * p.f, 1⟩ : Slb)]).length = k + 1 + 1 := by rw [List.length_append, HL1.out]; rfl
        have HL2 := Lib.hid hL2
        clear hbW hbw k0 ek hAr hz1 hz2 hz3 hL2
        go_wp2_with (fail)
        apply cut2_
        · intro key
          go_region_held3 (fun w' => w'.cell? ⟨na, 0, none⟩ = some (.int .i64 base) ∧ w'.cell? ⟨na, 1, none⟩ = some (.slice A1 (k + 1) ca) ∧ w'.cell? ⟨pb, 0, none⟩ = some (.int .i64 p.f))
            ((((try go_split_ands); (repeat' (apply And.intro)) <;> (repeat (first | (with_reducible assumption) | (with_reducible refine cell_drew ?_) | (with_reducible refine cell_alloc _ ?_) | (with_reducible refine cell_below' (by with_reducible assumption) ?_) | (with_reducible refine cell_far ?_ ?_; focus (first | omega | (simp; omega) | (simp; done))))))))
            (first
              | (go_at_call 86; ((with_reducible refine (HWT2.out A1 ca _ ?_).mono ?_); (focus (exact RowsAt.below hSA (by repeat (first | assumption | exact Below.refl _ _ | refine Below.drew ?_ | (refine below_alloc _ ?_ ?_; focus (first | omega | (simp; done) | (simp; omega) | (simp at *; omega))) | (refine below_set _ ?_ ?_; focus (first | omega | (simp; done) | (simp; omega) | (simp at *; omega))) | refine below_drewN ?_ _ | (refine below_call (by assumption) ?_ ?_; focus (first | omega | (simp; done) | (simp; omega) | (simp at *; omega))) | (refine below_call' (by assumption) ?_ ?_; focus (first | omega | (simp; done) | (simp; omega) | (simp at *; omega))))))); (rintro e z1 ⟨A2, c2, rfl, own2, hb6⟩); (have hz61 : na < z1.heap.size := (by have := hb6.size; (try simp at this); omega)); (have hz62 : pb < z1.heap.size := (by have := hb6.size; (try simp at this); omega)); (try have m0 : World.cell? z1 ⟨(xa).heap.size, 0, none⟩ = some (.int .i64 0) := cell_below' hb6 (cell_new (by simp) rfl)); (try have m1 : World.cell? z1 ⟨(xa).heap.size, 1, none⟩ = some (.int .i64 0) := cell_below' hb6 (cell_new (by simp) rfl)); (try have my0 : World.frozen? z1 ⟨(xa).heap.size, 0, none⟩ = false := frozen_below hb6 (by simp) (frozen_new (by simp))); (try have my1 : World.frozen? z1 ⟨(xa).heap.size, 1, none⟩ = false := frozen_below hb6 (by simp) (frozen_new (by simp)))))
              | (go_at_call 22; ((with_reducible refine (HRV.out A2 c2 _ ?_).mono ?_); (focus (exact RowsAt.below (rowsAt_of_own own2 HL2.out (by decide)) (by repeat (first | assumption | exact Below.refl _ _ | refine Below.drew ?_ | (refine below_alloc _ ?_ ?_; focus (first | omega | (simp; done) | (simp; omega) | (simp at *; omega))) | (refine below_set _ ?_ ?_; focus (first | omega | (simp; done) | (simp; omega) | (simp at *; omega))) | refine below_drewN ?_ _ | (refine below_call (by assumption) ?_ ?_; focus (first | omega | (simp; done) | (simp; omega) | (simp at *; omega))) | (refine below_call' (by assumption) ?_ ?_; focus (first | omega | (simp; done) | (simp; omega) | (simp at *; omega))))))); (rintro e z2 ⟨rfl, hb7⟩); (have hz71 : na < z2.heap.size := (by have := hb7.size; (try simp at this); omega)); (have hz72 : pb < z2.heap.size := (by have := hb7.size; (try simp at this); omega)); (try replace my0 := frozen_below hb7 (World.block_lt_of_cell? _ _ m0) my0); (try replace my1 := frozen_below hb7 (World.block_lt_of_cell? _ _ m1) my1); (try replace m0 := cell_below' hb7 m0); (try replace m1 := cell_below' hb7 m1); (try have m0 : World.cell? z2 ⟨(z1).heap.size, 0, none⟩ = some (.int .i64 0) := cell_below' hb7 (cell_new (by simp) rfl)); (try have m1 : World.cell? z2 ⟨(z1).heap.size, 1, none⟩ = some (.int .i64 0) := cell_below' hb7 (cell_new (by simp) rfl)); (try have my0 : World.frozen? z2 ⟨(z1).heap.size, 0, none⟩ = false := frozen_below hb7 (by simp) (frozen_new (by simp))); (try have my1 : World.frozen? z2 ⟨(z1).heap.size, 1, none⟩ = false := frozen_below hb7 (by simp) (frozen_new (by simp))))))
          focus
            have hk6 : xa.heap.size ≤ z1.heap.size := by have := hb6.size; (try simp at this); omega
            have hbX : Below xa.heap.size xa (z2.alloc (.cells #[.int .i64 vlo, .int .i64 vhi] 32)) := (by repeat (first | assumption | exact Below.refl _ _ | refine Below.drew ?_ | (refine below_alloc _ ?_ ?_; focus (first | omega | (simp; done) | (simp; omega) | (simp at *; omega))) | (refine below_set _ ?_ ?_; focus (first | omega | (simp; done) | (simp; omega) | (simp at *; omega))) | refine below_drewN ?_ _ | (refine below_call (by assumption) ?_ ?_; focus (first | omega | (simp; done) | (simp; omega) | (simp at *; omega))) | (refine below_call' (by assumption) ?_ ?_; focus (first | omega | (simp; done) | (simp; omega) | (simp at *; omega)))))
            have M0 : (z2.alloc (.cells #[.int .i64 vlo, .int .i64 vhi] 32)).cell? ⟨z2.heap.size, 0, none⟩ = some (.int .i64 vlo) := cell_new rfl rfl
            have M1 : (z2.alloc (.cells #[.int .i64 vlo, .int .i64 vhi] 32)).cell? ⟨z2.heap.size, 1, none⟩ = some (.int .i64 vhi) := cell_new rfl rfl
            generalize (z2.alloc (.cells #[.int .i64 vlo, .int .i64 vhi] 32)) = xb at *
            clear own2 hb6 hb7 hk6 hz61 hz62 hz71 hz72
            generalize z2.heap.size = mb at *
            have F := And.intro hbX (And.intro M0 M1)
            clear hbX M0 M1
            revert F
            revert mb
            revert xb
            revert c2
            revert A2
            exact key ()
          focus
            have hk6 : xa.heap.size ≤ z1.heap.size := by have := hb6.size; (try simp at this); omega
            have hbX : Below xa.heap.size xa ((z2.setCell ⟨z1.heap.size, 0, none⟩ (.int .i64 vlo)).setCell ⟨z1.heap.size, 1, none⟩ (.int .i64 vhi)) := (by repeat (first | assumption | exact Below.refl _ _ | refine Below.drew ?_ | (refine below_alloc _ ?_ ?_; focus (first | omega | (simp; done) | (simp; omega) | (simp at *; omega))) | (refine below_set _ ?_ ?_; focus (first | omega | (simp; done) | (simp; omega) | (simp at *; omega))) | refine below_drewN ?_ _ | (refine below_call (by assumption) ?_ ?_; focus (first | omega | (simp; done) | (simp; omega) | (simp at *; omega))) | (refine below_call' (by assumption) ?_ ?_; focus (first | omega | (simp; done) | (simp; omega) | (simp at *; omega)))))
            have M0 : ((z2.setCell ⟨z1.heap.size, 0, none⟩ (.int .i64 vlo)).setCell ⟨z1.heap.size, 1, none⟩ (.int .i64 vhi)).cell? ⟨z1.heap.size, 0, none⟩ = some (.int .i64 vlo) := (set2 m0 m1).1
            have M1 : ((z2.setCell ⟨z1.heap.size, 0, none⟩ (.int .i64 vlo)).setCell ⟨z1.heap.size, 1, none⟩ (.int .i64 vhi)).cell? ⟨z1.heap.size, 1, none⟩ = some (.int .i64 vhi) := (set2 m0 m1).2
            generalize ((z2.setCell ⟨z1.heap.size, 0, none⟩ (.int .i64 vlo)).setCell ⟨z1.heap.size, 1, none⟩ (.int .i64 vhi)) = xb at *
            clear own2 hb6 hb7 hk6 hz61 hz62 hz71 hz72
            clear m0 m1 my0 my1
            generalize z1.heap.size = mb at *
            have F := And.intro hbX (And.intro M0 M1)
            clear hbX M0 M1
            revert F
            revert mb
            revert xb
            revert c2
            revert A2
            exact key ()
          focus
            have hk6 : xa.heap.size ≤ z1.heap.size := by have := hb6.size; (try simp at this); omega
            have hbX : Below xa.heap.size xa ((z2.setCell ⟨xa.heap.size, 0, none⟩ (.int .i64 vlo)).setCell ⟨xa.heap.size, 1, none⟩ (.int .i64 vhi)) := (by repeat (first | assumption | exact Below.refl _ _ | refine Below.drew ?_ | (refine below_alloc _ ?_ ?_; focus (first | omega | (simp; done) | (simp; omega) | (simp at *; omega))) | (refine below_set _ ?_ ?_; focus (first | omega | (simp; done) | (simp; omega) | (simp at *; omega))) | refine below_drewN ?_ _ | (refine below_call (by assumption) ?_ ?_; focus (first | omega | (simp; done) | (simp; omega) | (simp at *; omega))) | (refine below_call' (by assumption) ?_ ?_; focus (first | omega | (simp; done) | (simp; omega) | (simp at *; omega)))))
            have M0 : ((z2.setCell ⟨xa.heap.size, 0, none⟩ (.int .i64 vlo)).setCell ⟨xa.heap.size, 1, none⟩ (.int .i64 vhi)).cell? ⟨xa.heap.size, 0, none⟩ = some (.int .i64 vlo) := (set2 m0 m1).1
            have M1 : ((z2.setCell ⟨xa.heap.size, 0, none⟩ (.int .i64 vlo)).setCell ⟨xa.heap.size, 1, none⟩ (.int .i64 vhi)).cell? ⟨xa.heap.size, 1, none⟩ = some (.int .i64 vhi) := (set2 m0 m1).2
            generalize ((z2.setCell ⟨xa.heap.size, 0, none⟩ (.int .i64 vlo)).setCell ⟨xa.heap.size, 1, none⟩ (.int .i64 vhi)) = xb at *
            clear own2 hb6 hb7 hk6 hz61 hz62 hz71 hz72
            clear m0 m1 my0 my1
            obtain ⟨mb, hmb⟩ : ∃ mb, mb = xa.heap.size := ⟨_, rfl⟩
            rw [← hmb]
            rw [← hmb] at M0 M1
            clear hmb
            have F := And.intro hbX (And.intro M0 M1)
            clear hbX M0 M1
            revert F
            revert mb
            revert xb
            revert c2
            revert A2
            exact key ()
        · intro A2 c2 xb hS2 mb F
          obtain ⟨hbX, M0, M1⟩ := F
          clear hS2 hSA HWT2 HRV HL2
          replace s0 := cell_below' hbX s0
          replace s1 := cell_below' hbX s1
          replace q0 := cell_below' hbX q0
          replace q1 := cell_below' hbX q1
          replace q2 := cell_below' hbX q2
          replace c0 := cell_below' hbX c0
          replace c1 := cell_below' hbX c1
          replace n0 := cell_below' hbX n0
          replace n1 := cell_below' hbX n1
          replace V0 := cell_below' hbX V0
          replace V1 := cell_below' hbX V1
          replace f0 := frozen_below hbX (show _ from zx1) f0
          replace f1 := frozen_below hbX (show _ from zx1) f1
          replace g0 := frozen_below hbX (show _ from zx0) g0
          replace g1 := frozen_below hbX (show _ from zx0) g1
          replace hown := own_below hown hbX
          replace hoW := own_below hoW hbX
          have hwy := hbX.size
          have hby : Below v1.heap.size v1 xb := hbx.trans (hbX.mono (by omega))
          have zy0 : w.heap.size + 1 < xb.heap.size := by omega
          have zy1 : v1.heap.size < xb.heap.size := by omega
          have zy2 : pb < xb.heap.size := by omega
          have zy3 : na < xb.heap.size := by omega
          have zy4 : w.heap.size + 1 + 1 < xb.heap.size := by omega
          have zy5 : mb < xb.heap.size := World.block_lt_of_cell? _ _ M0
          clear hbX hbx zx0 zx1 zx2 zx3 zx4
          by_cases h18 : vhi < p.lo
          · have hth := HTH.out
            rw [if_pos h18] at hth
            have hth2 : fitTh base sl (fk * fk) p.f p.lo 501 0 = (if t + 1 ≤ 500 then fitTh base sl (fk * fk) p.f p.lo (501 - (t + 1)) ((t + 1 : Nat) : Int) else none) := by
              rw [hth]
              by_cases h5 : t + 1 ≤ 500
              · rw [if_pos (by omega), if_pos h5, show 501 - (t + 1) = 500 - t by omega]
                rfl
              · rw [if_neg (by omega), if_neg h5]
            have HTH2 := Lib.hid hth2
            clear hth hth2
            go_wp2
            go_roundw
            case rel => exact ⟨false, t + 1, k, sl, B', d', rfl, by go_num, by omega, hln', by omega, fun _ => ⟨rfl, rfl, HTH2.out⟩, fun h => (by cases h), s0, s1, f0, f1, hown, q0, q1, q2, hby, zy2⟩
            case measure => simp [intOf]; omega
          have h18' : decide (vhi < p.lo) = false := by simpa using h18
          have hth := HTH.out
          rw [if_neg h18] at hth
          by_cases h19 : p.hi < vlo
          · have hm := HM.out
            rw [hth] at hm
            simp only at hm
            have hvl := HVL.out
            rw [hvl, if_pos h19] at hm
            have hfit : fit l after width = ⟨0, [], ((k + 1 : Nat) : Int), 12⟩ := by rw [H3.out, hm]; rfl
            have HFIT := Lib.hid hfit
            clear hm hfit hth hvl h18
            go_wp2
            refine bodyPost_ret (v := .tuple #[.agg #[.int .i64 0, .slice none 0 0], .int .i64 ((k + 1 : Nat) : Int), .int .i64 12]) (by simp [results, Try.results46, go_sem, c0, c1, zy0]) rfl ?_
            unfold FitPost
            rw [HFIT.out]
            exact ⟨none, 0, rfl, World.ownsRow_nil _ _ _ _, (by repeat (first | assumption | exact Below.refl _ _ | refine Below.drew ?_ | (refine below_alloc _ ?_ ?_; focus (first | omega | (simp; done) | (simp; omega) | (simp at *; omega))) | (refine below_set _ ?_ ?_; focus (first | omega | (simp; done) | (simp; omega) | (simp at *; omega))) | refine below_drewN ?_ _ | (refine below_call (by assumption) ?_ ?_; focus (first | omega | (simp; done) | (simp; omega) | (simp at *; omega))) | (refine below_call' (by assumption) ?_ ?_; focus (first | omega | (simp; done) | (simp; omega) | (simp at *; omega)))))⟩
          · have h19' : decide (p.hi < vlo) = false := by simpa using h19
            have hmt : Meets base (sl ++ [⟨fk * fk, (t : Int)⟩]) p (k + 1) := by unfold Meets; rw [HVL.out, HVH.out]; exact ⟨h18, h19⟩
            have HMT := Lib.hid hmt
            have HTH2 := Lib.hid hth
            obtain ⟨u0, u1⟩ := set2 (u := .int .i64 base) (v := .slice A1 (k + 1) ca) s0 s1
            have how2 := own_mono (ownsRow_setCell_below (ownsRow_setCell_below hoW (a := ⟨v1.heap.size, 0, none⟩) (by omega) (.int .i64 base)) (a := ⟨v1.heap.size, 1, none⟩) (by omega) (.slice A1 (k + 1) ca)) (show v1.heap.size + 1 ≤ wr.heap.size by omega)
            have hpn : v1.heap.size ≠ pb := by omega
            clear hmt hth h18 h19
            go_wp2
            go_roundw
            case rel => exact ⟨true, t + 1, k + 1, _, A1, ca, rfl, by go_num, by omega, HL1.out, by omega, fun h => (by cases h), fun _ => ⟨rfl, (t : Int), by omega, by omega, HTH2.out, rfl, HMT.out⟩, u0, u1, frozen_set _ _ (frozen_set _ _ f0), frozen_set _ _ (frozen_set _ _ f1), how2, cell_far hpn (cell_far hpn q0), cell_far hpn (cell_far hpn q1), cell_far hpn (cell_far hpn q2), below_set _ (Nat.le_refl _) (below_set _ (Nat.le_refl _) hby), by simp; omega⟩
            case measure => simp [intOf]; omega
end Go.Proofs.Ytoegpaolbkcleaa
