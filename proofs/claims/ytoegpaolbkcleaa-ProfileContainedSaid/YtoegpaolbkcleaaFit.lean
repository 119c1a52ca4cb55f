/-
  The fitted profile of a trace.
-/
import Derived.Test.YtoegpaolbkcleaaSml
import Derived.Deep.LoopGhost
namespace Go.Proofs.Ytoegpaolbkcleaa
open Go.ChangeShapes Go.WideShapes Go.ChangeAt Go.RowKit
set_option linter.unusedVariables false
set_option linter.unusedSimpArgs false
attribute [local go_sem] field_lo field_hi

def fitTh (base : Int) (sl : List Slb) (sq f lo : Int) : Nat → Int → Option Int
  | 0, _ => none
  | n + 1, t => if virtHi base (sl ++ [⟨sq, t⟩]) f (sl.length + 1) < lo then (if t + 1 ≤ 500 then fitTh base sl sq f lo n (t + 1) else none) else some t
def fitGo (l : List Pt) (base : Int) : List Pt → Nat → List Slb → List Slb × Int × Int
  | [], k, sl => (sl ++ [⟨fAt l (l.length - 1) * fAt l (l.length - 1), 1⟩], 0, 0)
  | p :: r, k, sl => match fitTh base sl (fAt l k * fAt l k) p.f p.lo 501 0 with
    | none => ([], (k + 1 : Nat), 22)
    | some t => if p.hi < virtLo base (sl ++ [⟨fAt l k * fAt l k, t⟩]) p.f (k + 1) then ([], (k + 1 : Nat), 12) else fitGo l base r (k + 1) (sl ++ [⟨fAt l k * fAt l k, t⟩])
def loAt0 (l : List Pt) : Int := (l.getD 0 ⟨0, 0, 0⟩).lo
def fitE1 (l : List Pt) (after width : Int) : Int := firstE [chkTE l after width, unl (decide (width = 0)) 15]
def fitE2 (l : List Pt) (after width : Int) : Int := if fitE1 l after width = 0 then unl (withinB (loAt0 l) 0 500) 22 else fitE1 l after width
/-- base, slabs, index, error -/
structure Fit where
  base : Int
  sl : List Slb
  at_ : Int
  e : Int
def fit (l : List Pt) (after width : Int) : Fit :=
  if fitE2 l after width ≠ 0 then ⟨0, [], 0, fitE2 l after width⟩
  else ⟨if (fitGo l (loAt0 l) (l.drop 1) 0 []).2.2 = 0 then loAt0 l else 0, (fitGo l (loAt0 l) (l.drop 1) 0 []).1, (fitGo l (loAt0 l) (l.drop 1) 0 []).2.1, (fitGo l (loAt0 l) (l.drop 1) 0 []).2.2⟩
def SB (sl : List Slb) (F : Int) : Prop := ∀ x ∈ sl, 0 ≤ x.sq ∧ x.sq < F ∧ 0 ≤ x.th ∧ x.th ≤ 500
theorem below_grown {w w' : World} (h : Below w.heap.size w w') (row : Option Nat) : w.grownBy w' row := ⟨h.os, h.tape, h.output, h.size, fun k hk _ => h.block k hk⟩
theorem own_cap {w : World} {B : Nat} {T : TypeId} {size g n c : Nat} {xs : List Value} (h : w.ownsRow B T size (.slice (some ⟨g, 0, none⟩) n c) n xs) : n ≤ c := by
  rcases h.2 with ⟨h', _⟩ | ⟨g', cap', cur, h', _, _, hnc, _⟩
  · simp at h'
  · simp only [Value.slice.injEq, true_and] at h'
    omega
theorem own_cap' {w : World} {B : Nat} {T : TypeId} {size n c : Nat} {A : Option Addr} {xs : List Value} (h : w.ownsRow B T size (.slice A n c) n xs) : n ≤ c := by
  rcases h.2 with ⟨h', h0⟩ | ⟨g', cap', cur, h', _, _, hnc, _⟩
  · omega
  · simp only [Value.slice.injEq, true_and] at h'
    omega
theorem last_cell {w : World} {B : Nat} {T : TypeId} {g n c : Nat} {sl : List Slb} {x : Slb} (h : w.ownsRow B T 2 (.slice (some ⟨g, 0, none⟩) (n + 1) c) (n + 1) (cellsOf 2 slbC (sl ++ [x]))) (hl : sl.length = n) :
    w.cell? ⟨g, n * 2 + 1, none⟩ = some (.int .i64 x.th) ∧ w.frozen? ⟨g, n * 2 + 1, none⟩ = false := by
  have hk : (sl ++ [x])[n]? = some x := by subst hl; simp
  exact ⟨(h.cellAt _ (by omega)).trans (cellsOf_get (f := slbC) hk (by omega)), h.frozenAt _⟩
theorem cellsOf_set (sl : List Slb) (x : Slb) (u : Int) : (cellsOf 2 slbC (sl ++ [x])).set (sl.length * 2 + 1) (.int .i64 u) = cellsOf 2 slbC (sl ++ [⟨x.sq, u⟩]) := by
  rw [cellsOf_append, cellsOf_append, List.set_append_right _ _ (by rw [cellsOf_length]; omega), cellsOf_length]
  rw [show sl.length * 2 + 1 - sl.length * 2 = 1 by omega]
  rfl
theorem last_store {w : World} {B : Nat} {T : TypeId} {g n c : Nat} {sl : List Slb} {x : Slb} (h : w.ownsRow B T 2 (.slice (some ⟨g, 0, none⟩) (n + 1) c) (n + 1) (cellsOf 2 slbC (sl ++ [x]))) (hl : sl.length = n) (u : Int) :
    (w.setCell ⟨g, n * 2 + 1, none⟩ (.int .i64 u)).ownsRow B T 2 (.slice (some ⟨g, 0, none⟩) (n + 1) c) (n + 1) (cellsOf 2 slbC (sl ++ [⟨x.sq, u⟩])) ∧ w.grownBy (w.setCell ⟨g, n * 2 + 1, none⟩ (.int .i64 u)) (some g) := by
  have := h.stored (n * 2 + 1) (.int .i64 u)
  subst hl
  rw [cellsOf_set] at this
  exact this
def FitPost (l : List Pt) (after width : Int) (w : World) (e : Ending) (w' : World) : Prop :=
  ∃ A' c', e = .returned (.tuple #[.agg #[.int .i64 (fit l after width).base, .slice A' (fit l after width).sl.length c'], .int .i64 (fit l after width).at_, .int .i64 (fit l after width).e]) ∧ w'.ownsRow w.heap.size 45 2 (.slice A' (fit l after width).sl.length c') (fit l after width).sl.length (cellsOf 2 slbC (fit l after width).sl) ∧ Below w.heap.size w w'

theorem tail_slice (b off n cap : Nat) (hn : 0 < n) (hc : n ≤ cap) : ∃ B, (∀ W, (Instr.sliceAt 51 (.slice (some ⟨b, off, none⟩) n cap) (some (.int .i64 1)) none none).run Try.prog W = .ok (.slice B (n - 1) (cap - 1)) W) ∧ ∀ W l, l.length = n → PtsAt W (some ⟨b, off, none⟩) l → PtsAt W B (l.drop 1) := by
  by_cases h : cap = 1
  · refine ⟨some ⟨b, off, none⟩, fun W => ?_, fun W l hl hA => ?_⟩
    · subst h
      have h1 : n = 1 := by omega
      subst h1
      go_simp
    · rw [List.drop_eq_nil_of_le (by omega)]; exact RowsAt.nil
  · refine ⟨some ⟨b, off + 3, none⟩, fun W => ?_, fun W l hl hA => ?_⟩
    · have h1 : 1 < cap := by omega
      go_simp
      intro hx
      omega
    · intro k x hk
      rw [List.getElem?_drop] at hk
      obtain ⟨b', o', e, hlt, hcell⟩ := hA (1 + k) x hk
      injection e with e
      injection e with e1 e2
      subst e1 e2
      exact ⟨b, off + 3, rfl, hlt, fun j hj => by rw [show off + 3 + k * 3 + j = off + (1 + k) * 3 + j by omega]; exact hcell j hj⟩
set_option maxRecDepth 100000 in
set_option maxHeartbeats 2000000 in
theorem Fitted_any (A : Option Addr) (l : List Pt) (cap : Nat) (after width : Int) (w : World) (hl : l.length ≤ 100) (hcap : l.length ≤ cap) (hA : PtsAt w A l) :
    Calls Try.prog 42 #[.agg #[.slice A l.length cap, .int .i64 after, .int .i64 width]] w (FitPost l after width w) := by
  have h1 : fitE1 l after width = firstE [chkTE l after width, unl (decide (width = 0)) 15] := rfl
  have h2 : fitE2 l after width = if fitE1 l after width = 0 then unl (withinB (loAt0 l) 0 500) 22 else fitE1 l after width := rfl
  have h3 : fit l after width = if fitE2 l after width ≠ 0 then ⟨0, [], 0, fitE2 l after width⟩
    else ⟨if (fitGo l (loAt0 l) (l.drop 1) 0 []).2.2 = 0 then loAt0 l else 0, (fitGo l (loAt0 l) (l.drop 1) 0 []).1, (fitGo l (loAt0 l) (l.drop 1) 0 []).2.1, (fitGo l (loAt0 l) (l.drop 1) 0 []).2.2⟩ := rfl
  have H1 := Lib.hid h1
  have H2 := Lib.hid h2
  have H3 := Lib.hid h3
  clear h1 h2 h3
  go_enter Try.func42, Try.ntmps42
  go_wp2_with (fail)
  refine (openTrace_any A l cap after width _ hl (hA.below (by repeat (first | assumption | exact Below.refl _ _ | refine Below.drew ?_ | (refine below_alloc _ ?_ ?_; focus (first | omega | (simp; done) | (simp; omega) | (simp at *; omega))) | (refine below_set _ ?_ ?_; focus (first | omega | (simp; done) | (simp; omega) | (simp at *; omega))) | refine below_drewN ?_ _ | (refine below_call (by assumption) ?_ ?_; focus (first | omega | (simp; done) | (simp; omega) | (simp at *; omega))) | (refine below_call' (by assumption) ?_ ?_; focus (first | omega | (simp; done) | (simp; omega) | (simp at *; omega))))))).mono ?_
  rintro e w1 ⟨rfl, hb1⟩
  have hbw1 : Below w.heap.size w w1 := (by repeat (first | assumption | exact Below.refl _ _ | refine Below.drew ?_ | (refine below_alloc _ ?_ ?_; focus (first | omega | (simp; done) | (simp; omega) | (simp at *; omega))) | (refine below_set _ ?_ ?_; focus (first | omega | (simp; done) | (simp; omega) | (simp at *; omega))) | refine below_drewN ?_ _ | (refine below_call (by assumption) ?_ ?_; focus (first | omega | (simp; done) | (simp; omega) | (simp at *; omega))) | (refine below_call' (by assumption) ?_ ?_; focus (first | omega | (simp; done) | (simp; omega) | (simp at *; omega)))))
  have hA1 := hA.below hbw1
  have hz1 : w.heap.size + 1 < w1.heap.size := by have := hb1.size; simp at this; omega
  have hz0 : w.heap.size < w1.heap.size := by omega
  have c0 : w1.cell? ⟨w.heap.size + 1, 0, none⟩ = some (.int .i64 0) := cell_below' hb1 (by repeat (first | assumption | (refine cell_new ?_ rfl; focus (simp; done)) | refine cell_drew ?_ | refine cell_alloc _ ?_ | refine cell_drewN _ ?_ | (refine cell_far ?_ ?_; focus (first | omega | (simp; omega) | (simp; done))) | refine cell_below' (by assumption) ?_))
  have c1 : w1.cell? ⟨w.heap.size + 1, 1, none⟩ = some (.slice none 0 0) := cell_below' hb1 (by repeat (first | assumption | (refine cell_new ?_ rfl; focus (simp; done)) | refine cell_drew ?_ | refine cell_alloc _ ?_ | refine cell_drewN _ ?_ | (refine cell_far ?_ ?_; focus (first | omega | (simp; omega) | (simp; done))) | refine cell_below' (by assumption) ?_))
  have g0 : w1.frozen? ⟨w.heap.size + 1, 0, none⟩ = false := frozen_below hb1 (by simp) (by repeat (first | assumption | (refine frozen_new ?_; focus (simp; done)) | refine frozen_drew ?_ | (refine frozen_alloc _ ?_ ?_; focus (first | (simp; done) | (simp; omega))) | refine frozen_drewN _ ?_ | refine frozen_set _ _ ?_ | (refine frozen_below (by assumption) ?_ ?_; focus (first | (simp; done) | (simp; omega)))))
  have g1 : w1.frozen? ⟨w.heap.size + 1, 1, none⟩ = false := frozen_below hb1 (by simp) (by repeat (first | assumption | (refine frozen_new ?_; focus (simp; done)) | refine frozen_drew ?_ | (refine frozen_alloc _ ?_ ?_; focus (first | (simp; done) | (simp; omega))) | refine frozen_drewN _ ?_ | refine frozen_set _ _ ?_ | (refine frozen_below (by assumption) ?_ ?_; focus (first | (simp; done) | (simp; omega)))))
  have d0 : w1.cell? ⟨w.heap.size, 0, none⟩ = some (.slice A l.length cap) := cell_below' hb1 (by repeat (first | assumption | (refine cell_new ?_ rfl; focus (simp; done)) | refine cell_drew ?_ | refine cell_alloc _ ?_ | refine cell_drewN _ ?_ | (refine cell_far ?_ ?_; focus (first | omega | (simp; omega) | (simp; done))) | refine cell_below' (by assumption) ?_))
  have d1 : w1.cell? ⟨w.heap.size, 1, none⟩ = some (.int .i64 after) := cell_below' hb1 (by repeat (first | assumption | (refine cell_new ?_ rfl; focus (simp; done)) | refine cell_drew ?_ | refine cell_alloc _ ?_ | refine cell_drewN _ ?_ | (refine cell_far ?_ ?_; focus (first | omega | (simp; omega) | (simp; done))) | refine cell_below' (by assumption) ?_))
  have d2 : w1.cell? ⟨w.heap.size, 2, none⟩ = some (.int .i64 width) := cell_below' hb1 (by repeat (first | assumption | (refine cell_new ?_ rfl; focus (simp; done)) | refine cell_drew ?_ | refine cell_alloc _ ?_ | refine cell_drewN _ ?_ | (refine cell_far ?_ ?_; focus (first | omega | (simp; omega) | (simp; done))) | refine cell_below' (by assumption) ?_))
  go_wp2_with (first | (go_at_call 74; refine (unless_any _ _ _).mono ?_; rintro e w' ⟨rfl, rfl⟩))
  refine (first2 (chkTE l after width) (unl (decide (width = 0)) 15) _ _ (by simp) (by repeat (first | assumption | (refine cell_new ?_ rfl; focus (simp; done)) | refine cell_drew ?_ | refine cell_alloc _ ?_ | refine cell_drewN _ ?_ | (refine cell_far ?_ ?_; focus (first | omega | (simp; omega) | (simp; done))) | refine cell_below' (by assumption) ?_)) (by repeat (first | assumption | (refine cell_new ?_ rfl; focus (simp; done)) | refine cell_drew ?_ | refine cell_alloc _ ?_ | refine cell_drewN _ ?_ | (refine cell_far ?_ ?_; focus (first | omega | (simp; omega) | (simp; done))) | refine cell_below' (by assumption) ?_))).mono ?_
  rintro e w2 ⟨rfl, rfl⟩
  rw [← H1.out]
  by_cases h0 : fitE1 l after width = 0
  · rw [if_pos h0] at H2
    have h00 := h0
    unfold fitE1 at h00
    rw [firstE2, unl_zero (by decide), decide_eq_true_eq] at h00
    obtain ⟨h01, rfl⟩ := h00
    have hO := okT_of_chk h01
    have hn0 := hO.n0
    have hn1 := hO.n1
    have hp0 := hO.pt l[0] (List.getElem_mem hn0)
    have HO := Lib.hid hO
    obtain ⟨b, off, rfl, hb, e0, e1, e2⟩ := PtsAt.at_ hA1 hn0
    have hl0 : loAt0 l = l[0].lo := by unfold loAt0; rw [List.getD_eq_getElem?_getD, List.getElem?_eq_getElem hn0]; rfl
    rw [hl0] at H2 H3
    rw [h0]
    clear hO h01 hl0 h0 H1
    generalize l[0] = p0 at *
    simp only [Nat.zero_mul, Nat.add_zero] at e0 e1 e2
    obtain ⟨q1, q2, q3, q4, q5⟩ := hp0
    by_cases h0 : fitE2 l after 0 = 0
    · rw [if_neg (by simp [h0])] at H3
      rw [h0] at H2
      have hb5 : withinB p0.lo 0 500 = true := (unl_zero (by decide)).1 H2.out.symm
      have HB5 := Lib.hid hb5
      have hb5' := (withinB_true.1 hb5).2
      clear hb5 h0 H2
      obtain ⟨B, hsl, hB⟩ := tail_slice b off l.length cap hn0 hcap
      have HB := Lib.hid hB
      clear hB
      have hzA : w.heap.size < w1.heap.size + 1 := by omega
      have hzB : w.heap.size < w1.heap.size + 1 + 1 := by omega
      go_wp2_with (first | (go_at_call 78; refine (isThickness_any _ _).mono ?_; rintro e w' ⟨rfl, rfl⟩; rw [HB5.out]) | (go_at_call 74; refine (unless_any _ _ _).mono ?_; rintro e w' ⟨rfl, rfl⟩; rw [show unl true 22 = 0 from rfl]))
      clear hsl
      have hv : ((w1.alloc (.cells #[.slice (some ⟨b, off, none⟩) l.length cap, .int .i64 after, .int .i64 0] 123)).alloc (.cells #[.int .i64 (chkTE l after 0), .int .i64 (unl true 15)] 27)).heap.size = w1.heap.size + 1 + 1 := by simp
      have hbV : Below w1.heap.size w1 ((w1.alloc (.cells #[.slice (some ⟨b, off, none⟩) l.length cap, .int .i64 after, .int .i64 0] 123)).alloc (.cells #[.int .i64 (chkTE l after 0), .int .i64 (unl true 15)] 27)) := (by repeat (first | assumption | exact Below.refl _ _ | refine Below.drew ?_ | (refine below_alloc _ ?_ ?_; focus (first | omega | (simp; done) | (simp; omega) | (simp at *; omega))) | (refine below_set _ ?_ ?_; focus (first | omega | (simp; done) | (simp; omega) | (simp at *; omega))) | refine below_drewN ?_ _ | (refine below_call (by assumption) ?_ ?_; focus (first | omega | (simp; done) | (simp; omega) | (simp at *; omega))) | (refine below_call' (by assumption) ?_ ?_; focus (first | omega | (simp; done) | (simp; omega) | (simp at *; omega)))))
      have K0 : ((w1.alloc (.cells #[.slice (some ⟨b, off, none⟩) l.length cap, .int .i64 after, .int .i64 0] 123)).alloc (.cells #[.int .i64 (chkTE l after 0), .int .i64 (unl true 15)] 27)).cell? ⟨w1.heap.size, 0, none⟩ = some (.slice (some ⟨b, off, none⟩) l.length cap) := cell_alloc _ (cell_new rfl rfl)
      have K1 : ((w1.alloc (.cells #[.slice (some ⟨b, off, none⟩) l.length cap, .int .i64 after, .int .i64 0] 123)).alloc (.cells #[.int .i64 (chkTE l after 0), .int .i64 (unl true 15)] 27)).cell? ⟨w1.heap.size, 1, none⟩ = some (.int .i64 after) := cell_alloc _ (cell_new rfl rfl)
      have K2 : ((w1.alloc (.cells #[.slice (some ⟨b, off, none⟩) l.length cap, .int .i64 after, .int .i64 0] 123)).alloc (.cells #[.int .i64 (chkTE l after 0), .int .i64 (unl true 15)] 27)).cell? ⟨w1.heap.size, 2, none⟩ = some (.int .i64 0) := cell_alloc _ (cell_new rfl rfl)
      rw [← hv]
      generalize ((w1.alloc (.cells #[.slice (some ⟨b, off, none⟩) l.length cap, .int .i64 after, .int .i64 0] 123)).alloc (.cells #[.int .i64 (chkTE l after 0), .int .i64 (unl true 15)] 27)) = v1 at *
      have hs5 : w1.heap.size < v1.heap.size := by omega
      have hs6 : w.heap.size < v1.heap.size := by omega
      have hs7 : w.heap.size + 1 < v1.heap.size := by omega
      clear hzA hzB hv e0 e1 e2 d1 d2
      have C0 := cell_below' hbV c0
      have C1 := cell_below' hbV c1
      have G0 := frozen_below hbV (show _ from hz1) g0
      have G1 := frozen_below hbV (show _ from hz1) g1
      have D0 := cell_below' hbV d0
      have AV := hA1.below hbV
      have BV := HB.out v1 l rfl AV
      clear c0 c1 g0 g1 d0 hA1
      have hbw2 : Below w.heap.size w v1 := (by repeat (first | assumption | exact Below.refl _ _ | refine Below.drew ?_ | (refine below_alloc _ ?_ ?_; focus (first | omega | (simp; done) | (simp; omega) | (simp at *; omega))) | (refine below_set _ ?_ ?_; focus (first | omega | (simp; done) | (simp; omega) | (simp at *; omega))) | refine below_drewN ?_ _ | (refine below_call (by assumption) ?_ ?_; focus (first | omega | (simp; done) | (simp; omega) | (simp at *; omega))) | (refine below_call' (by assumption) ?_ ?_; focus (first | omega | (simp; done) | (simp; omega) | (simp at *; omega)))))
      clear hb1 hbw1 hA
      go_loopw [50] (fun i wr => ∃ (k : Nat) (sl : List Slb) (A' : Option Addr) (c' : Nat), k + 1 ≤ l.length ∧ i = .int .i64 k ∧ sl.length = k ∧ SB sl (fAt l k * fAt l k) ∧ fitGo l p0.lo (l.drop 1) 0 [] = fitGo l p0.lo (l.drop (k + 1)) k sl ∧ wr.cell? ⟨v1.heap.size, 0, none⟩ = some (.int .i64 p0.lo) ∧ wr.cell? ⟨v1.heap.size, 1, none⟩ = some (.slice A' k c') ∧ wr.frozen? ⟨v1.heap.size, 1, none⟩ = false ∧ wr.ownsRow (v1.heap.size + 1) 45 2 (.slice A' k c') k (cellsOf 2 slbC sl) ∧ Below v1.heap.size v1 wr ∧ v1.heap.size < wr.heap.size) (fun i _ => l.length - (intOf i).toNat)
      case atStart => exact ⟨0, [], none, 0, hn0, rfl, rfl, fun x hx => (by cases hx), rfl, cell_new rfl rfl, cell_new rfl rfl, frozen_new rfl, World.ownsRow_nil _ _ _ _, (by repeat (first | assumption | exact Below.refl _ _ | refine Below.drew ?_ | (refine below_alloc _ ?_ ?_; focus (first | omega | (simp; done) | (simp; omega) | (simp at *; omega))) | (refine below_set _ ?_ ?_; focus (first | omega | (simp; done) | (simp; omega) | (simp at *; omega))) | refine below_drewN ?_ _ | (refine below_call (by assumption) ?_ ?_; focus (first | omega | (simp; done) | (simp; omega) | (simp at *; omega))) | (refine below_call' (by assumption) ?_ ?_; focus (first | omega | (simp; done) | (simp; omega) | (simp at *; omega))))), by simp⟩
      case round =>
        obtain ⟨k, sl, A', c', hk, rfl, hlen, hSB, hfit, s0, s1, s2, hown, hbw, hsz⟩ := hrel
        obtain ⟨wo, rfl⟩ : ∃ wo, wo = wr := ⟨wr, rfl⟩
        have HM := Lib.hid hfit
        have HLEN := Lib.hid hlen
        have HSB := Lib.hid hSB
        clear hfit hlen hSB
        (have c0 := cell_below' hbw C0; have c1 := cell_below' hbw C1; have g0 := frozen_below hbw (show _ from hs7) G0; have g1 := frozen_below hbw (show _ from hs7) G1; have d0 := cell_below' hbw D0; have k0 := cell_below' hbw K0; have k1 := cell_below' hbw K1; have k2 := cell_below' hbw K2; have hA1 := RowsAt.below AV hbw)
        have hBV := RowsAt.below BV hbw
        have hs8 : w1.heap.size < wo.heap.size := by omega
        have hs9 : w.heap.size < wo.heap.size := by omega
        have hs10 : w.heap.size + 1 < wo.heap.size := by omega
        by_cases hlt : k + 1 < l.length
        · obtain ⟨bb, oo, hBe, hbb, hcc⟩ := hBV k l[k + 1] (by rw [List.getElem?_drop, Nat.add_comm]; exact List.getElem?_eq_getElem hlt)
          subst hBe
          have e0 : wo.cell? ⟨bb, oo + k * 3, none⟩ = some (.int .i64 l[k + 1].f) := hcc 0 (by omega)
          have e1 : wo.cell? ⟨bb, oo + k * 3 + 1, none⟩ = some (.int .i64 l[k + 1].lo) := hcc 1 (by omega)
          have e2 : wo.cell? ⟨bb, oo + k * 3 + 2, none⟩ = some (.int .i64 l[k + 1].hi) := hcc 2 (by omega)
          have hkl : k < l.length := by omega
          have hsk := HO.out.sq hkl hlt (by omega)
          have hpk := HO.out.pt l[k] (List.getElem_mem hkl)
          have hp := HO.out.pt l[k + 1] (List.getElem_mem hlt)
          have hF := fAt_eq hlt
          rw [← fAt_eq hkl] at hsk hpk
          have hd : l.drop (k + 1) = l[k + 1] :: l.drop (k + 1 + 1) := List.drop_eq_getElem_cons hlt
          rw [hd, fitGo] at HM
          have hck : ∀ W, PtsAt W (some ⟨b, off, none⟩) l → Calls Try.prog 84 #[.agg #[.slice (some ⟨b, off, none⟩) l.length cap, .int .i64 after, .int .i64 0], .int .i64 k] W fun e w' => e = .returned (.int .i64 (fAt l k * fAt l k)) ∧ Below W.heap.size W w' := fun W hW => by
            have := square_any _ l _ cap k after 0 W hkl rfl hW (by rw [← fAt_eq hkl]; omega) (by rw [← fAt_eq hkl]; omega)
            rw [← fAt_eq hkl] at this
            exact this
          have HCK := Lib.hid hck
          have HF := Lib.hid hF
          clear hd hcc hck hF hBV
          generalize fAt l k * fAt l k = sqk at *
          generalize l[k + 1] = p at *
          obtain ⟨sk1, sk2⟩ := hsk
          obtain ⟨p1, p2, p3, p4, p5⟩ := hp
          clear hpk
          have hlt' : k < l.length - 1 := by omega
          go_wp2
          have hAy : PtsAt (wo.alloc (.cells #[.int .i64 p.f, .int .i64 p.lo, .int .i64 p.hi] 75)) (some ⟨b, off, none⟩) l := RowsAt.below hA1 (by repeat (first | assumption | exact Below.refl _ _ | refine Below.drew ?_ | (refine below_alloc _ ?_ ?_; focus (first | omega | (simp; done) | (simp; omega) | (simp at *; omega))) | (refine below_set _ ?_ ?_; focus (first | omega | (simp; done) | (simp; omega) | (simp at *; omega))) | refine below_drewN ?_ _ | (refine below_call (by assumption) ?_ ?_; focus (first | omega | (simp; done) | (simp; omega) | (simp at *; omega))) | (refine below_call' (by assumption) ?_ ?_; focus (first | omega | (simp; done) | (simp; omega) | (simp at *; omega)))))
          (refine region_alloc (T := ?_) (obj := (.cells #[.int .i64 sqk, .int .i64 0] 45)) (val := (fun nb => .slice (some ⟨nb, 0, none⟩) 1 1)) 7 64 (by kernel_rfl) (by kernel_rfl) rfl rfl rfl (Nat.le_of_ble_eq_true rfl) ?_ ?_ ?_; rotate_left 1)
          focus (intro W0 hB0 hx; simp only [List.take_succ_cons, List.take_zero]; (repeat (any_goals (first | go_big_quiet_step ((go_at_call 84; exact ext_call (HCK.out _ ((RowsAt.below hAy hB0).below (ext_bel _ _))))) | quiet_step ((go_at_call 84; exact ext_call (HCK.out _ ((RowsAt.below hAy hB0).below (ext_bel _ _)))))))); refine wpQuiet_nil ?_; exact rfl)
          focus (intro W; go_simp; done)
          (intro W0 w3 hB0 hB1; obtain ⟨hbw3, hnw3, hsw3, hkw3⟩ := alloc_out hB0 hB1; clear hB0 hB1; simp only [List.drop_succ_cons, List.drop_zero]; generalize W0.heap.size = nb at *; clear W0)
          have hb3 : Below wo.heap.size wo w3 := (by repeat (first | assumption | exact Below.refl _ _ | refine Below.drew ?_ | (refine below_alloc _ ?_ ?_; focus (first | omega | (simp; done) | (simp; omega) | (simp at *; omega))) | (refine below_set _ ?_ ?_; focus (first | omega | (simp; done) | (simp; omega) | (simp at *; omega))) | refine below_drewN ?_ _ | (refine below_call (by assumption) ?_ ?_; focus (first | omega | (simp; done) | (simp; omega) | (simp at *; omega))) | (refine below_call' (by assumption) ?_ ?_; focus (first | omega | (simp; done) | (simp; omega) | (simp at *; omega)))))
          have hz3 := hb3.size
          have f0 : w3.cell? ⟨wo.heap.size, 0, none⟩ = some (.int .i64 p.f) := cell_below' hbw3 (by repeat (first | assumption | (refine cell_new ?_ rfl; focus (simp; done)) | refine cell_drew ?_ | refine cell_alloc _ ?_ | refine cell_drewN _ ?_ | (refine cell_far ?_ ?_; focus (first | omega | (simp; omega) | (simp; done))) | refine cell_below' (by assumption) ?_))
          have f1 : w3.cell? ⟨wo.heap.size, 1, none⟩ = some (.int .i64 p.lo) := cell_below' hbw3 (by repeat (first | assumption | (refine cell_new ?_ rfl; focus (simp; done)) | refine cell_drew ?_ | refine cell_alloc _ ?_ | refine cell_drewN _ ?_ | (refine cell_far ?_ ?_; focus (first | omega | (simp; omega) | (simp; done))) | refine cell_below' (by assumption) ?_))
          have f2 : w3.cell? ⟨wo.heap.size, 2, none⟩ = some (.int .i64 p.hi) := cell_below' hbw3 (by repeat (first | assumption | (refine cell_new ?_ rfl; focus (simp; done)) | refine cell_drew ?_ | refine cell_alloc _ ?_ | refine cell_drewN _ ?_ | (refine cell_far ?_ ?_; focus (first | omega | (simp; omega) | (simp; done))) | refine cell_below' (by assumption) ?_))
          replace s0 := cell_below' hb3 s0
          replace s1 := cell_below' hb3 s1
          replace s2 := frozen_below hb3 (show _ from hsz) s2
          have hrow : SlabsAt w3 (some ⟨nb, 0, none⟩) [⟨sqk, 0⟩] := rows_blk hkw3 rfl
          have hlt2 := hown.lt
          have hown3 := own_below hown hb3
          have hnb : wo.heap.size < nb := by simp at hnw3; omega
          clear c0 c1 g0 g1 d0 k0 k1 k2 hA1 hAy e0 e1 e2 hkw3
          refine wpList_appSlab w3 rfl (.tmp 59) (.tmp 64) rfl (v1.heap.size + 1) A' k c' (cellsOf 2 slbC sl) rfl hown3 (some ⟨nb, 0, none⟩) 1 1 (cellsOf 2 slbC [⟨sqk, 0⟩]) rfl rfl (fun e => by cases e) (fun ad e => by cases e; exact RowsAt.news hrow (by decide)) (cellsOf_one slbC_one (by decide) _) (by omega) (by omega) ?_
          intro A4 c4 w4 hown4 hg halt
          rw [← cellsOf_append] at hown4
          obtain ⟨g, cap4, hge⟩ := ownsRow_succ hown4
          have hge1 : A4 = some ⟨g, 0, none⟩ := by injection hge
          clear hge
          subst hge1
          have hg4 := hown4.lt g rfl
          have hgp : g ≠ wo.heap.size := by
            rcases halt with h | h
            · have := hlt2 g h.symm; omega
            · have h2 : g = w3.heap.size := by simpa [Value.ownBlock] using h
              omega
          have hb4 : Below v1.heap.size v1 w4 := below_own (hbw.trans (hb3.mono (by omega))) hg hown3 (by omega) (by omega)
          have hn1' : some v1.heap.size ≠ Value.ownBlock (.slice A' k c') := fun e => by have := hlt2 _ e.symm; omega
          have hn2' : some wo.heap.size ≠ Value.ownBlock (.slice A' k c') := fun e => by have := hlt2 _ e.symm; omega
          replace f0 := cell_grown hg f0 hn2'
          replace f1 := cell_grown hg f1 hn2'
          replace f2 := cell_grown hg f2 hn2'
          replace s0 := cell_grown hg s0 hn1'
          replace s1 := cell_grown hg s1 hn1'
          replace s2 := frozen_grown hg s2 (by simp; omega) hn1'
          have hz4 := hg.size
          clear hown hown3 hrow hg halt hlt2 hn1' hn2'
          have HB4 := Lib.hid hb4
          (have c0 := cell_below' hb4 C0; have c1 := cell_below' hb4 C1; have g0 := frozen_below hb4 (show _ from hs7) G0; have g1 := frozen_below hb4 (show _ from hs7) G1; have d0 := cell_below' hb4 D0; have k0 := cell_below' hb4 K0; have k1 := cell_below' hb4 K1; have k2 := cell_below' hb4 K2; have hA1 := RowsAt.below AV hb4)
          go_wp2
          have hcap4 := own_cap hown4
          have hY : Below v1.heap.size v1 (w4.setCell ⟨v1.heap.size, 1, none⟩ (.slice (some ⟨g, 0, none⟩) (k + 1) c4)) := below_set _ (Nat.le_refl _) hb4
          have y0 : (w4.setCell ⟨v1.heap.size, 1, none⟩ (.slice (some ⟨g, 0, none⟩) (k + 1) c4)).cell? ⟨v1.heap.size, 0, none⟩ = some (.int .i64 p0.lo) := (World.cell?_setCell_other _ _ _ _ (by simp)).trans s0
          have y1 : (w4.setCell ⟨v1.heap.size, 1, none⟩ (.slice (some ⟨g, 0, none⟩) (k + 1) c4)).cell? ⟨v1.heap.size, 1, none⟩ = some (.slice (some ⟨g, 0, none⟩) (k + 1) c4) := cell_same s1
          have y2 : (w4.setCell ⟨v1.heap.size, 1, none⟩ (.slice (some ⟨g, 0, none⟩) (k + 1) c4)).frozen? ⟨v1.heap.size, 1, none⟩ = false := frozen_set _ _ s2
          have z0 : (w4.setCell ⟨v1.heap.size, 1, none⟩ (.slice (some ⟨g, 0, none⟩) (k + 1) c4)).cell? ⟨wo.heap.size, 0, none⟩ = some (.int .i64 p.f) := cell_far (by simp; omega) f0
          have z1 : (w4.setCell ⟨v1.heap.size, 1, none⟩ (.slice (some ⟨g, 0, none⟩) (k + 1) c4)).cell? ⟨wo.heap.size, 1, none⟩ = some (.int .i64 p.lo) := cell_far (by simp; omega) f1
          have z2 : (w4.setCell ⟨v1.heap.size, 1, none⟩ (.slice (some ⟨g, 0, none⟩) (k + 1) c4)).cell? ⟨wo.heap.size, 2, none⟩ = some (.int .i64 p.hi) := cell_far (by simp; omega) f2
          have hownY := ownsRow_setCell_below hown4 (a := ⟨v1.heap.size, 1, none⟩) (by simp) (.slice (some ⟨g, 0, none⟩) (k + 1) c4)
          have hzY : (w4.setCell ⟨v1.heap.size, 1, none⟩ (.slice (some ⟨g, 0, none⟩) (k + 1) c4)).heap.size = w4.heap.size := by simp
          clear c0 c1 g0 g1 d0 k0 k1 k2 hA1 f0 f1 f2 s0 s1 s2 hb4 hown4
          generalize w4.setCell ⟨v1.heap.size, 1, none⟩ (.slice (some ⟨g, 0, none⟩) (k + 1) c4) = wy at *
          have hzy1 : g < wy.heap.size := by omega
          have hzy2 : wo.heap.size < wy.heap.size := by omega
          have hzy3 : v1.heap.size < wy.heap.size := by omega
          clear hzY HB4
          have hP : ∀ t : Int, 0 ≤ t → t ≤ 500 → Passed p0.lo (sl ++ [⟨sqk, t⟩]) p.f (k + 1) := fun t ht0 ht1 => by
            have hq := (sq_bd p.f (by omega) p2).2
            have hall : ∀ x ∈ sl ++ [(⟨sqk, t⟩ : Slb)], 0 ≤ x.sq ∧ x.sq < p.f * p.f ∧ 0 ≤ x.th ∧ x.th ≤ 500 := fun x hx => by
              rcases List.mem_append.1 hx with h | h
              · have := HSB.out x h; omega
              · rw [List.mem_singleton.1 h]; exact ⟨sk1, sk2, ht0, ht1⟩
            refine ⟨⟨q3, hb5', by simp, by simp; have := HLEN.out; omega, fun x hx => ?_⟩, by omega, p2, by simp; have := HLEN.out; omega, fun j hj hjk => (hall _ (List.getElem_mem hj)).2.1⟩
            have := hall x hx; omega
          have hvirt : ∀ t : Int, 0 ≤ t → t ≤ 500 → ∀ W, SlabsAt W (some ⟨g, 0, none⟩) (sl ++ [⟨sqk, t⟩]) → Calls Try.prog 71 #[.agg #[.int .i64 p0.lo, .slice (some ⟨g, 0, none⟩) (k + 1) c4], .int .i64 p.f, .int .i64 ((k : Int) + 1)] W fun e w' => e = .returned (.agg #[.int .i64 (virtLo p0.lo (sl ++ [⟨sqk, t⟩]) p.f (k + 1)), .int .i64 (virtHi p0.lo (sl ++ [⟨sqk, t⟩]) p.f (k + 1))]) ∧ Below W.heap.size W w' := fun t ht0 ht1 W hW => by
            have hlen : (sl ++ [(⟨sqk, t⟩ : Slb)]).length = k + 1 := by simp [HLEN.out]
            have := virtual_any p0.lo (some ⟨g, 0, none⟩) (sl ++ [⟨sqk, t⟩]) c4 p.f (k + 1) W (hP t ht0 ht1) (by rw [hlen]; exact hcap4) hW
            rw [hlen, show ((k + 1 : Nat) : Int) = (k : Int) + 1 by omega] at this
            exact this
          have HV := Lib.hid hvirt
          clear hP hvirt
          go_loopg [] 501 (fun gk wr => ∃ t : Nat, t ≤ 500 ∧ gk = 501 - t ∧ fitTh p0.lo sl sqk p.f p.lo 501 0 = fitTh p0.lo sl sqk p.f p.lo (501 - t) t ∧ wr.ownsRow (v1.heap.size + 1) 45 2 (.slice (some ⟨g, 0, none⟩) (k + 1) c4) (k + 1) (cellsOf 2 slbC (sl ++ [⟨sqk, t⟩])) ∧ wy.grownBy wr (some g))
          case atStart => exact ⟨0, by omega, rfl, rfl, hownY, ⟨rfl, rfl, rfl, Nat.le_refl _, fun _ _ _ => rfl⟩⟩
          case round =>
            obtain ⟨t, ht, rfl, hth, hownr, hgr⟩ := hrel
            have hbr : Below v1.heap.size v1 wr := hY.grown hgr (by omega) (fun q hq => by injection hq with hq; omega)
            (have c0 := cell_below' hbr C0; have c1 := cell_below' hbr C1; have g0 := frozen_below hbr (show _ from hs7) G0; have g1 := frozen_below hbr (show _ from hs7) G1; have d0 := cell_below' hbr D0; have k0 := cell_below' hbr K0; have k1 := cell_below' hbr K1; have k2 := cell_below' hbr K2; have hA1 := RowsAt.below AV hbr)
            have n1 : some v1.heap.size ≠ some g := by intro e; injection e; omega
            have n2 : some wo.heap.size ≠ some g := by intro e; injection e with e; exact hgp e.symm
            replace y0 := cell_grown hgr y0 n1
            replace y1 := cell_grown hgr y1 n1
            replace y2 := frozen_grown hgr y2 hzy3 n1
            replace z0 := cell_grown hgr z0 n2
            replace z1 := cell_grown hgr z1 n2
            replace z2 := cell_grown hgr z2 n2
            have hzr := hgr.size
            have hzr1 : w1.heap.size < wr.heap.size := by omega
            have hzr2 : w.heap.size < wr.heap.size := by omega
            have hzr3 : w.heap.size + 1 < wr.heap.size := by omega
            have hzr4 : v1.heap.size < wr.heap.size := by omega
            have hzr5 : wo.heap.size < wr.heap.size := by omega
            have hzr6 : g < wr.heap.size := by omega
            have hrows : SlabsAt wr (some ⟨g, 0, none⟩) (sl ++ [⟨sqk, t⟩]) := rowsAt_of_own hownr (by simp [HLEN.out]) (by decide)
            have hth2 : fitTh p0.lo sl sqk p.f p.lo 501 0 = if virtHi p0.lo (sl ++ [⟨sqk, t⟩]) p.f (k + 1) < p.lo then (if (t : Int) + 1 ≤ 500 then fitTh p0.lo sl sqk p.f p.lo (500 - t) ((t : Int) + 1) else none) else some (t : Int) := by
              rw [hth, show 501 - t = (500 - t) + 1 by omega]
              show (if virtHi _ _ _ (sl.length + 1) < _ then _ else _) = _
              rw [HLEN.out]
            clear hth n1 n2
            have HT := Lib.hid hth2
            clear hth2
            by_cases hv : virtHi p0.lo (sl ++ [⟨sqk, t⟩]) p.f (k + 1) < p.lo
            · rw [if_pos hv] at HT
              go_wp2
              (refine region_extx 9 (by kernel_rfl) (by kernel_rfl) fun hx => ?_; simp only [List.take_succ_cons, List.take_zero, List.drop_succ_cons, List.drop_zero]; (repeat (any_goals (first | go_big_quiet_step ((go_at_call 71; exact ext_call (HV.out t (by omega) (by omega) _ (RowsAt.below hrows (ext_bel _ _))))) | quiet_step ((go_at_call 71; exact ext_call (HV.out t (by omega) (by omega) _ (RowsAt.below hrows (ext_bel _ _)))))))))
              (refine wpQuiet_nil ?_; clear hx; intro u; have hbw5 := ext_bel _ u; have hxw5 := ext_cell _ u; generalize ext _ u = w5 at *; clear u; have hsw5 := hbw5.size; (try simp at hsw5))
              have own5 := own_below hownr hbw5
              obtain ⟨tc, tf⟩ := last_cell own5 HLEN.out
              clear hrows
              by_cases ht5 : (t : Int) + 1 ≤ 500
              · have hwb : withinB ((t : Int) + 1) 0 500 = true := withinB_true.2 ⟨by omega, ht5⟩
                have HWB := Lib.hid hwb
                rw [if_pos ht5] at HT
                clear hwb
                go_wp2_with (go_at_call 78; refine (isThickness_any _ _).mono ?_; rintro e w' ⟨rfl, rfl⟩; rw [HWB.out])
                go_roundg (501 - (t + 1))
                case measure => omega
                case rel => 
                  obtain ⟨o1, o2⟩ := last_store own5 HLEN.out ((t : Int) + 1)
                  exact ⟨t + 1, by omega, rfl, by rw [HT.out, show 501 - (t + 1) = 500 - t by omega]; rfl, o1, hgr.trans ((below_grown hbw5 _).trans o2)⟩
              · have hwb : withinB ((t : Int) + 1) 0 500 = false := withinB_false.2 (by omega)
                have HWB := Lib.hid hwb
                rw [if_neg ht5] at HT
                clear hwb
                have hfit : fit l after 0 = ⟨0, [], ((k + 1 : Nat) : Int), 22⟩ := by rw [H3.out, HM.out, HT.out]; rfl
                have HFIT := Lib.hid hfit
                clear hfit
                replace c0 := cell_below' hbw5 c0
                replace c1 := cell_below' hbw5 c1
                replace g0 := frozen_below hbw5 (by simp; omega) g0
                replace g1 := frozen_below hbw5 (by simp; omega) g1
                go_wp2_with (go_at_call 78; refine (isThickness_any _ _).mono ?_; rintro e w' ⟨rfl, rfl⟩; rw [HWB.out])
                refine bodyPost_ret (v := .tuple #[.agg #[.int .i64 0, .slice none 0 0], .int .i64 ((k : Int) + 1), .int .i64 22]) (by simp [results, Try.results42, go_sem, c0, c1]) rfl ?_
                unfold FitPost
                rw [HFIT.out]
                exact ⟨none, 0, rfl, World.ownsRow_nil _ _ _ _, (by repeat (first | assumption | exact Below.refl _ _ | refine Below.drew ?_ | (refine below_alloc _ ?_ ?_; focus (first | omega | (simp; done) | (simp; omega) | (simp at *; omega))) | (refine below_set _ ?_ ?_; focus (first | omega | (simp; done) | (simp; omega) | (simp at *; omega))) | refine below_drewN ?_ _ | (refine below_call (by assumption) ?_ ?_; focus (first | omega | (simp; done) | (simp; omega) | (simp at *; omega))) | (refine below_call' (by assumption) ?_ ?_; focus (first | omega | (simp; done) | (simp; omega) | (simp at *; omega)))))⟩
            · rw [if_neg hv] at HT
              have hvd : decide (virtHi p0.lo (sl ++ [⟨sqk, t⟩]) p.f (k + 1) < p.lo) = false := by simpa using hv
              rw [HT.out] at HM
              simp only at HM
              go_wp2
              (refine region_extx 9 (by kernel_rfl) (by kernel_rfl) fun hx => ?_; simp only [List.take_succ_cons, List.take_zero, List.drop_succ_cons, List.drop_zero]; (repeat (any_goals (first | go_big_quiet_step ((go_at_call 71; exact ext_call (HV.out t (by omega) (by omega) _ (RowsAt.below hrows (ext_bel _ _))))) | quiet_step ((go_at_call 71; exact ext_call (HV.out t (by omega) (by omega) _ (RowsAt.below hrows (ext_bel _ _)))))))))
              (refine wpQuiet_nil ?_; clear hx; intro u; have hbw5 := ext_bel _ u; have hxw5 := ext_cell _ u; generalize ext _ u = w5 at *; clear u; have hsw5 := hbw5.size; (try simp at hsw5))
              go_wp2
              have hrow5 := RowsAt.below hrows hbw5
              replace y0 := cell_below' hbw5 y0
              replace y1 := cell_below' hbw5 y1
              replace z0 := cell_below' hbw5 z0
              replace z1 := cell_below' hbw5 z1
              replace z2 := cell_below' hbw5 z2
              replace c0 := cell_below' hbw5 c0
              replace c1 := cell_below' hbw5 c1
              replace g0 := frozen_below hbw5 (by simp; omega) g0
              replace g1 := frozen_below hbw5 (by simp; omega) g1
              replace y2 := frozen_below hbw5 (by simp; omega) y2
              have own5 := own_below hownr hbw5
              clear hrows d0 k0 k1 k2
              (refine region_extx 9 (by kernel_rfl) (by kernel_rfl) fun hx => ?_; simp only [List.take_succ_cons, List.take_zero, List.drop_succ_cons, List.drop_zero]; (repeat (any_goals (first | go_big_quiet_step ((go_at_call 71; exact ext_call (HV.out t (by omega) (by omega) _ (RowsAt.below hrow5 (ext_bel _ _))))) | quiet_step ((go_at_call 71; exact ext_call (HV.out t (by omega) (by omega) _ (RowsAt.below hrow5 (ext_bel _ _)))))))))
              (refine wpQuiet_nil ?_; clear hx; intro u; have hbw6 := ext_bel _ u; have hxw6 := ext_cell _ u; generalize ext _ u = w6 at *; clear u; have hsw6 := hbw6.size; (try simp at hsw6))
              replace y0 := cell_below' hbw6 y0
              replace y1 := cell_below' hbw6 y1
              replace y2 := frozen_below hbw6 (by simp; omega) y2
              replace c0 := cell_below' hbw6 c0
              replace c1 := cell_below' hbw6 c1
              replace g0 := frozen_below hbw6 (by simp; omega) g0
              replace g1 := frozen_below hbw6 (by simp; omega) g1
              replace own5 := own_below own5 hbw6
              clear z0 z1 z2 hrow5
              by_cases hlo : p.hi < virtLo p0.lo (sl ++ [⟨sqk, t⟩]) p.f (k + 1)
              · rw [if_pos hlo] at HM
                have hfit : fit l after 0 = ⟨0, [], ((k + 1 : Nat) : Int), 12⟩ := by rw [H3.out, HM.out]; rfl
                have HFIT := Lib.hid hfit
                clear hfit
                go_wp2
                refine bodyPost_ret (v := .tuple #[.agg #[.int .i64 0, .slice none 0 0], .int .i64 ((k : Int) + 1), .int .i64 12]) (by simp [results, Try.results42, go_sem, c0, c1]) rfl ?_
                unfold FitPost
                rw [HFIT.out]
                exact ⟨none, 0, rfl, World.ownsRow_nil _ _ _ _, (by repeat (first | assumption | exact Below.refl _ _ | refine Below.drew ?_ | (refine below_alloc _ ?_ ?_; focus (first | omega | (simp; done) | (simp; omega) | (simp at *; omega))) | (refine below_set _ ?_ ?_; focus (first | omega | (simp; done) | (simp; omega) | (simp at *; omega))) | refine below_drewN ?_ _ | (refine below_call (by assumption) ?_ ?_; focus (first | omega | (simp; done) | (simp; omega) | (simp at *; omega))) | (refine below_call' (by assumption) ?_ ?_; focus (first | omega | (simp; done) | (simp; omega) | (simp at *; omega)))))⟩
              · rw [if_neg hlo] at HM
                have hlod : decide (p.hi < virtLo p0.lo (sl ++ [⟨sqk, t⟩]) p.f (k + 1)) = false := by simpa using hlo
                clear hlo
                have hSB2 : SB (sl ++ [⟨sqk, t⟩]) (fAt l (k + 1) * fAt l (k + 1)) := fun x hx => by
                  rw [HF.out]
                  rcases List.mem_append.1 hx with h | h
                  · have := HSB.out x h; omega
                  · rw [List.mem_singleton.1 h]; exact ⟨sk1, sk2, by simp, by simp; omega⟩
                have HSB2 := Lib.hid hSB2
                clear hSB2
                go_wp2
                go_roundw
                case rel => exact ⟨k + 1, sl ++ [⟨sqk, t⟩], some ⟨g, 0, none⟩, c4, by omega, by go_num, by simp [HLEN.out], HSB2.out, HM.out, y0, y1, y2, own5, (by repeat (first | assumption | exact Below.refl _ _ | refine Below.drew ?_ | (refine below_alloc _ ?_ ?_; focus (first | omega | (simp; done) | (simp; omega) | (simp at *; omega))) | (refine below_set _ ?_ ?_; focus (first | omega | (simp; done) | (simp; omega) | (simp at *; omega))) | refine below_drewN ?_ _ | (refine below_call (by assumption) ?_ ?_; focus (first | omega | (simp; done) | (simp; omega) | (simp at *; omega))) | (refine below_call' (by assumption) ?_ ?_; focus (first | omega | (simp; done) | (simp; omega) | (simp at *; omega))))), by omega⟩
                case measure => simp [intOf]; omega
        · have hke : l.length - 1 = k := by omega
          have hd : l.drop (k + 1) = [] := List.drop_eq_nil_of_le (by omega)
          have hkl : k < l.length := by omega
          have hpk := HO.out.pt l[k] (List.getElem_mem hkl)
          rw [hd, fitGo, hke] at HM
          have hfit : fit l after 0 = ⟨p0.lo, sl ++ [⟨fAt l k * fAt l k, 1⟩], 0, 0⟩ := by rw [H3.out, HM.out]; rfl
          have HFIT := Lib.hid hfit
          have hck : ∀ W, PtsAt W (some ⟨b, off, none⟩) l → Calls Try.prog 84 #[.agg #[.slice (some ⟨b, off, none⟩) l.length cap, .int .i64 after, .int .i64 0], .int .i64 ((l.length : Int) - 1)] W fun e w' => e = .returned (.int .i64 (fAt l k * fAt l k)) ∧ Below W.heap.size W w' := fun W hW => by
            have := square_any _ l _ cap k after 0 W hkl rfl hW (by omega) (by omega)
            rw [← fAt_eq hkl, show (k : Int) = (l.length : Int) - 1 by omega] at this
            exact this
          have HCK := Lib.hid hck
          have hlt' : ¬ k < l.length - 1 := by omega
          clear hd hpk hfit hck hke
          generalize fAt l k * fAt l k = sqk at *
          go_wp2
          (refine region_alloc (T := ?_) (obj := (.cells #[.int .i64 sqk, .int .i64 1] 45)) (val := (fun nb => .slice (some ⟨nb, 0, none⟩) 1 1)) 10 121 (by kernel_rfl) (by kernel_rfl) rfl rfl rfl (Nat.le_of_ble_eq_true rfl) ?_ ?_ ?_; rotate_left 1)
          focus (intro W0 hB0 hx; simp only [List.take_succ_cons, List.take_zero]; (repeat (any_goals (first | go_big_quiet_step ((go_at_call 84; exact ext_call (HCK.out _ ((RowsAt.below hA1 hB0).below (ext_bel _ _))))) | quiet_step ((go_at_call 84; exact ext_call (HCK.out _ ((RowsAt.below hA1 hB0).below (ext_bel _ _)))))))); refine wpQuiet_nil ?_; exact rfl)
          focus (intro W; go_simp; done)
          (intro W0 w3 hB0 hB1; obtain ⟨hbw3, hnw3, hsw3, hkw3⟩ := alloc_out hB0 hB1; clear hB0 hB1; simp only [List.drop_succ_cons, List.drop_zero]; generalize W0.heap.size = nb at *; clear W0)
          replace s0 := cell_below' hbw3 s0
          replace s1 := cell_below' hbw3 s1
          replace s2 := frozen_below hbw3 (show _ from hsz) s2
          replace c0 := cell_below' hbw3 c0
          replace c1 := cell_below' hbw3 c1
          replace g0 := frozen_below hbw3 (by simp; omega) g0
          replace g1 := frozen_below hbw3 (by simp; omega) g1
          have hrow : SlabsAt w3 (some ⟨nb, 0, none⟩) [⟨sqk, 1⟩] := rows_blk hkw3 rfl
          have hlt2 := hown.lt
          have hown3 := own_below hown hbw3
          have hz3 := hbw3.size
          clear d0 k0 k1 k2 hA1 hkw3
          refine wpList_appSlab w3 rfl (.tmp 113) (.tmp 121) rfl (v1.heap.size + 1) A' k c' (cellsOf 2 slbC sl) rfl hown3 (some ⟨nb, 0, none⟩) 1 1 (cellsOf 2 slbC [⟨sqk, 1⟩]) rfl rfl (fun e => by cases e) (fun ad e => by cases e; exact RowsAt.news hrow (by decide)) (cellsOf_one slbC_one (by decide) _) (by omega) (by omega) ?_
          intro A4 c4 w4 hown4 hg halt
          rw [← cellsOf_append] at hown4
          have hb4 : Below v1.heap.size v1 w4 := below_own (hbw.trans (hbw3.mono (by omega))) hg hown3 (by omega) (by omega)
          have hn1' : some v1.heap.size ≠ Value.ownBlock (.slice A' k c') := fun e => by have := hlt2 _ e.symm; omega
          have hn2' : some (w.heap.size + 1) ≠ Value.ownBlock (.slice A' k c') := fun e => by have := hlt2 _ e.symm; omega
          replace s0 := cell_grown hg s0 hn1'
          replace s1 := cell_grown hg s1 hn1'
          replace s2 := frozen_grown hg s2 (by simp; omega) hn1'
          replace c0 := cell_grown hg c0 hn2'
          replace c1 := cell_grown hg c1 hn2'
          replace g0 := frozen_grown hg g0 (by simp; omega) hn2'
          replace g1 := frozen_grown hg g1 (by simp; omega) hn2'
          have hz4 := hg.size
          have hne7 : ¬ v1.heap.size = w.heap.size + 1 := by omega
          have hne8 : ¬ w.heap.size + 1 = v1.heap.size := by omega
          clear hown hown3 hrow hg halt hlt2 hn1' hn2'
          have HLN := HLEN.out
          have H4 := Lib.hid hown4
          clear hown4
          go_wp2
          refine bodyPost_ret (v := .tuple #[.agg #[.int .i64 p0.lo, .slice A4 (k + 1) c4], .int .i64 0, .int .i64 0]) (by simp [results, Try.results42, go_sem, c0, c1, hne7, hne8]) rfl ?_
          unfold FitPost
          rw [HFIT.out]
          have hln : (sl ++ [(⟨sqk, 1⟩ : Slb)]).length = k + 1 := by simp [HLEN.out]
          simp only [hln]
          refine ⟨A4, c4, rfl, ?_, (by repeat (first | assumption | exact Below.refl _ _ | refine Below.drew ?_ | (refine below_alloc _ ?_ ?_; focus (first | omega | (simp; done) | (simp; omega) | (simp at *; omega))) | (refine below_set _ ?_ ?_; focus (first | omega | (simp; done) | (simp; omega) | (simp at *; omega))) | refine below_drewN ?_ _ | (refine below_call (by assumption) ?_ ?_; focus (first | omega | (simp; done) | (simp; omega) | (simp at *; omega))) | (refine below_call' (by assumption) ?_ ?_; focus (first | omega | (simp; done) | (simp; omega) | (simp at *; omega)))))⟩
          exact own_mono (ownsRow_setCell_below (ownsRow_setCell_below (ownsRow_setCell_below H4.out (by simp) _) (by simp; omega) _) (by simp; omega) _) (by omega)
    · rw [if_pos h0] at H3
      have HE := Lib.hid H2.out.symm
      have h1 : unl (withinB p0.lo 0 500) 22 ≠ 0 := by rw [HE.out]; exact h0
      have h1' : (unl (withinB p0.lo 0 500) 22 == 0) = false := by simpa using h1
      have h1'' : (unl (withinB p0.lo 0 500) 22 != 0) = true := by simpa using h1
      clear h0 H2 h1
      go_wp2_with (first | (go_at_call 78; refine (isThickness_any _ _).mono ?_; rintro e w' ⟨rfl, rfl⟩) | (go_at_call 74; refine (unless_any _ _ _).mono ?_; rintro e w' ⟨rfl, rfl⟩))
      refine bodyPost_ret (v := .tuple #[.agg #[.int .i64 0, .slice none 0 0], .int .i64 0, .int .i64 (unl (withinB p0.lo 0 500) 22)]) (by simp [results, Try.results42, go_sem, c0, c1, hz0, hz1]) rfl ?_
      unfold FitPost
      rw [H3.out, ← HE.out]
      exact ⟨none, 0, rfl, World.ownsRow_nil _ _ _ _, (by repeat (first | assumption | exact Below.refl _ _ | refine Below.drew ?_ | (refine below_alloc _ ?_ ?_; focus (first | omega | (simp; done) | (simp; omega) | (simp at *; omega))) | (refine below_set _ ?_ ?_; focus (first | omega | (simp; done) | (simp; omega) | (simp at *; omega))) | refine below_drewN ?_ _ | (refine below_call (by assumption) ?_ ?_; focus (first | omega | (simp; done) | (simp; omega) | (simp at *; omega))) | (refine below_call' (by assumption) ?_ ?_; focus (first | omega | (simp; done) | (simp; omega) | (simp at *; omega)))))⟩
  · rw [if_neg h0] at H2
    rw [H2.out, if_pos h0] at H3
    have h0' : (fitE1 l after width == 0) = false := by simpa using h0
    have h0'' : (fitE1 l after width != 0) = true := by simpa using h0
    clear h0 H2 H1
    go_wp2
    refine bodyPost_ret (v := .tuple #[.agg #[.int .i64 0, .slice none 0 0], .int .i64 0, .int .i64 (fitE1 l after width)]) (by simp [results, Try.results42, go_sem, c0, c1, hz0, hz1]) rfl ?_
    unfold FitPost
    rw [H3.out]
    exact ⟨none, 0, rfl, World.ownsRow_nil _ _ _ _, (by repeat (first | assumption | exact Below.refl _ _ | refine Below.drew ?_ | (refine below_alloc _ ?_ ?_; focus (first | omega | (simp; done) | (simp; omega) | (simp at *; omega))) | (refine below_set _ ?_ ?_; focus (first | omega | (simp; done) | (simp; omega) | (simp at *; omega))) | refine below_drewN ?_ _ | (refine below_call (by assumption) ?_ ?_; focus (first | omega | (simp; done) | (simp; omega) | (simp at *; omega))) | (refine below_call' (by assumption) ?_ ?_; focus (first | omega | (simp; done) | (simp; omega) | (simp at *; omega)))))⟩
end Go.Proofs.Ytoegpaolbkcleaa
