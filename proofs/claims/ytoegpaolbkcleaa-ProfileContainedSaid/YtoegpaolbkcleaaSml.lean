/-
  The small functions about laminations, contents and the examples.
-/
import Derived.Test.YtoegpaolbkcleaaLam
import Derived.Test.YtoegpaolbkcleaaVirtR
namespace Go.Proofs.Ytoegpaolbkcleaa
open Go.ChangeShapes Go.WideShapes Go.ChangeAt Go.RowKit
set_option linter.unusedVariables false
set_option linter.unusedSimpArgs false

def lamdE (l : List Pt) (after width : Int) : Int := if chkTE l after width ≠ 0 then chkTE l after width else unl (lam l after width).2.2 13
def lamdOut (l : List Pt) (after width : Int) : List Rng := if chkTE l after width ≠ 0 then [] else (lam l after width).1
def lamdAt (l : List Pt) (after width : Int) : Int := if chkTE l after width ≠ 0 then 0 else (lam l after width).2.1
def LamdPost (l : List Pt) (after width : Int) (w : World) (e : Ending) (w' : World) : Prop :=
  ∃ A' c', e = .returned (.tuple #[.slice A' (lamdOut l after width).length c', .int .i64 (lamdAt l after width), .int .i64 (lamdE l after width)]) ∧ w'.ownsRow w.heap.size 32 2 (.slice A' (lamdOut l after width).length c') (lamdOut l after width).length (cellsOf 2 rngC (lamdOut l after width)) ∧ Below w.heap.size w w'

set_option maxHeartbeats 1000000 in
theorem Laminated_any (A : Option Addr) (l : List Pt) (cap : Nat) (after width : Int) (w : World) (hl : l.length ≤ 100) (hcap : l.length ≤ cap) (hA : PtsAt w A l) :
    Calls Try.prog 30 #[.agg #[.slice A l.length cap, .int .i64 after, .int .i64 width]] w (LamdPost l after width w) := by
  have h1 : lamdE l after width = if chkTE l after width ≠ 0 then chkTE l after width else unl (lam l after width).2.2 13 := rfl
  have h2 : lamdOut l after width = if chkTE l after width ≠ 0 then [] else (lam l after width).1 := rfl
  have h3 : lamdAt l after width = if chkTE l after width ≠ 0 then 0 else (lam l after width).2.1 := rfl
  have H1 := Lib.hid h1
  have H2 := Lib.hid h2
  have H3 := Lib.hid h3
  clear h1 h2 h3
  go_enter Try.func30, Try.ntmps30
  go_wp2_with (fail)
  refine (openTrace_any A l cap after width _ hl (hA.below (by repeat (first | assumption | exact Below.refl _ _ | refine Below.drew ?_ | (refine below_alloc _ ?_ ?_; focus (first | omega | (simp; done) | (simp; omega) | (simp at *; omega))) | (refine below_set _ ?_ ?_; focus (first | omega | (simp; done) | (simp; omega) | (simp at *; omega))) | refine below_drewN ?_ _ | (refine below_call (by assumption) ?_ ?_; focus (first | omega | (simp; done) | (simp; omega) | (simp at *; omega))) | (refine below_call' (by assumption) ?_ ?_; focus (first | omega | (simp; done) | (simp; omega) | (simp at *; omega))))))).mono ?_
  rintro e w1 ⟨rfl, hb1⟩
  have hbw1 : Below w.heap.size w w1 := (by repeat (first | assumption | exact Below.refl _ _ | refine Below.drew ?_ | (refine below_alloc _ ?_ ?_; focus (first | omega | (simp; done) | (simp; omega) | (simp at *; omega))) | (refine below_set _ ?_ ?_; focus (first | omega | (simp; done) | (simp; omega) | (simp at *; omega))) | refine below_drewN ?_ _ | (refine below_call (by assumption) ?_ ?_; focus (first | omega | (simp; done) | (simp; omega) | (simp at *; omega))) | (refine below_call' (by assumption) ?_ ?_; focus (first | omega | (simp; done) | (simp; omega) | (simp at *; omega)))))
  have hA1 := hA.below hbw1
  have hz1 : w.heap.size < w1.heap.size := by have := hb1.size; simp at this; omega
  by_cases h0 : chkTE l after width = 0
  · rw [if_neg (by simp [h0])] at H1 H2 H3
    have HO := Lib.hid (okT_of_chk h0)
    rw [h0]
    clear h0
    go_wp2_with (fail)
    refine (laminated_any A l cap after width _ HO.out hcap (hA1.below (by repeat (first | assumption | exact Below.refl _ _ | refine Below.drew ?_ | (refine below_alloc _ ?_ ?_; focus (first | omega | (simp; done) | (simp; omega) | (simp at *; omega))) | (refine below_set _ ?_ ?_; focus (first | omega | (simp; done) | (simp; omega) | (simp at *; omega))) | refine below_drewN ?_ _ | (refine below_call (by assumption) ?_ ?_; focus (first | omega | (simp; done) | (simp; omega) | (simp at *; omega))) | (refine below_call' (by assumption) ?_ ?_; focus (first | omega | (simp; done) | (simp; omega) | (simp at *; omega))))))).mono ?_
    rintro e w2 ⟨A', c', rfl, hown, hb2⟩
    have hz2 : w1.heap.size < w2.heap.size := by have := hb2.size; simp at this; omega
    have HW := Lib.hid hown
    clear hown
    generalize lam l after width = q at *
    obtain ⟨q1, q2, q3⟩ := q
    go_wp2_with (first | (go_at_call 74; refine (unless_any _ _ _).mono ?_; rintro e w' ⟨rfl, rfl⟩))
    go_ret3
    unfold LamdPost
    rw [H1.out, H2.out, H3.out]
    exact ⟨A', c', rfl, own_mono HW.out (by simp; omega), (by repeat (first | assumption | exact Below.refl _ _ | refine Below.drew ?_ | (refine below_alloc _ ?_ ?_; focus (first | omega | (simp; done) | (simp; omega) | (simp at *; omega))) | (refine below_set _ ?_ ?_; focus (first | omega | (simp; done) | (simp; omega) | (simp at *; omega))) | refine below_drewN ?_ _ | (refine below_call (by assumption) ?_ ?_; focus (first | omega | (simp; done) | (simp; omega) | (simp at *; omega))) | (refine below_call' (by assumption) ?_ ?_; focus (first | omega | (simp; done) | (simp; omega) | (simp at *; omega)))))⟩
  · rw [if_pos h0] at H1 H2 H3
    have h0' : (chkTE l after width == 0) = false := by simpa using h0
    have h0'' : (chkTE l after width != 0) = true := by simpa using h0
    clear h0
    go_wp2
    go_ret3
    unfold LamdPost
    rw [H1.out, H2.out, H3.out]
    exact ⟨none, 0, rfl, World.ownsRow_nil _ _ _ _, (by repeat (first | assumption | exact Below.refl _ _ | refine Below.drew ?_ | (refine below_alloc _ ?_ ?_; focus (first | omega | (simp; done) | (simp; omega) | (simp at *; omega))) | (refine below_set _ ?_ ?_; focus (first | omega | (simp; done) | (simp; omega) | (simp at *; omega))) | refine below_drewN ?_ _ | (refine below_call (by assumption) ?_ ?_; focus (first | omega | (simp; done) | (simp; omega) | (simp at *; omega))) | (refine below_call' (by assumption) ?_ ?_; focus (first | omega | (simp; done) | (simp; omega) | (simp at *; omega)))))⟩

def sumC : List Slb → Int
  | [] => 0
  | x :: r => x.sq * x.th + sumC r
theorem sumC_append (l r : List Slb) : sumC (l ++ r) = sumC l + sumC r := by
  induction l with
  | nil => simp [sumC]
  | cons x l ih => simp [sumC, ih, Int.add_assoc]
theorem sumC_bd : ∀ l : List Slb, (∀ x ∈ l, 0 ≤ x.sq ∧ x.sq ≤ 9000000 ∧ 0 ≤ x.th ∧ x.th ≤ 500) → 0 ≤ sumC l ∧ sumC l ≤ 4500000000 * l.length
  | [], _ => by simp [sumC]
  | x :: r, h => by
    have hx := h x (List.mem_cons_self ..)
    have ih := sumC_bd r fun y hy => h y (List.mem_cons_of_mem _ hy)
    have m1 := mul_bd x.sq x.th 9000000 500 hx.1 hx.2.1 hx.2.2.1 hx.2.2.2
    simp only [sumC, List.length_cons]
    omega
theorem Ok.sumC {base : Int} {l : List Slb} (h : Ok base l) (k : Nat) : 0 ≤ sumC (l.take k) ∧ Go.Proofs.Ytoegpaolbkcleaa.sumC (l.take k) ≤ 54000000000 := by
  have := sumC_bd (l.take k) fun x hx => h.sl x (List.mem_of_mem_take hx)
  have hn := h.n1
  have : (l.take k).length ≤ 12 := by simp; omega
  omega
def contI (base : Int) (l : List Slb) : Int := if chkE base l = 0 then sumC l else 0
set_option maxHeartbeats 1000000 in
theorem ContentOf_any (base : Int) (A : Option Addr) (l : List Slb) (cap : Nat) (w : World) (hl : l.length ≤ 100) (hA : SlabsAt w A l) :
    Calls Try.prog 51 #[.agg #[.int .i64 base, .slice A l.length cap]] w fun e w' => e = .returned (.tuple #[.int .i64 (contI base l), .int .i64 (chkE base l)]) ∧ Below w.heap.size w w' := by
  have h1 : contI base l = if chkE base l = 0 then sumC l else 0 := rfl
  have H1 := Lib.hid h1
  clear h1
  go_enter Try.func51, Try.ntmps51
  go_wp2_with (fail)
  refine (open_any base A l cap _ hl (hA.below (by repeat (first | assumption | exact Below.refl _ _ | refine Below.drew ?_ | (refine below_alloc _ ?_ ?_; focus (first | omega | (simp; done) | (simp; omega) | (simp at *; omega))) | (refine below_set _ ?_ ?_; focus (first | omega | (simp; done) | (simp; omega) | (simp at *; omega))) | refine below_drewN ?_ _ | (refine below_call (by assumption) ?_ ?_; focus (first | omega | (simp; done) | (simp; omega) | (simp at *; omega))) | (refine below_call' (by assumption) ?_ ?_; focus (first | omega | (simp; done) | (simp; omega) | (simp at *; omega))))))).mono ?_
  rintro e w1 ⟨rfl, hb1⟩
  have hbw1 : Below w.heap.size w w1 := (by repeat (first | assumption | exact Below.refl _ _ | refine Below.drew ?_ | (refine below_alloc _ ?_ ?_; focus (first | omega | (simp; done) | (simp; omega) | (simp at *; omega))) | (refine below_set _ ?_ ?_; focus (first | omega | (simp; done) | (simp; omega) | (simp at *; omega))) | refine below_drewN ?_ _ | (refine below_call (by assumption) ?_ ?_; focus (first | omega | (simp; done) | (simp; omega) | (simp at *; omega))) | (refine below_call' (by assumption) ?_ ?_; focus (first | omega | (simp; done) | (simp; omega) | (simp at *; omega)))))
  have hA1 := hA.below hbw1
  have hz1 : w.heap.size < w1.heap.size := by have := hb1.size; simp at this; omega
  by_cases h0 : chkE base l = 0
  · rw [if_pos h0] at H1
    have HO := Lib.hid (ok_of_chk h0)
    have H0 := Lib.hid h0
    rw [h0]
    clear h0
    have hn := HO.out.n1
    go_wp2
    go_loopw [6, 21] (fun a i wr => ∃ j : Nat, j ≤ l.length ∧ i = .int .i64 j ∧ a = .int .i64 (sumC (l.take j)) ∧ Below w1.heap.size w1 wr) (fun _ i _ => l.length - (intOf i).toNat)
    case atStart => exact ⟨0, Nat.zero_le _, rfl, by simp [sumC], (by repeat (first | assumption | exact Below.refl _ _ | refine Below.drew ?_ | (refine below_alloc _ ?_ ?_; focus (first | omega | (simp; done) | (simp; omega) | (simp at *; omega))) | (refine below_set _ ?_ ?_; focus (first | omega | (simp; done) | (simp; omega) | (simp at *; omega))) | refine below_drewN ?_ _ | (refine below_call (by assumption) ?_ ?_; focus (first | omega | (simp; done) | (simp; omega) | (simp at *; omega))) | (refine below_call' (by assumption) ?_ ?_; focus (first | omega | (simp; done) | (simp; omega) | (simp at *; omega)))))⟩
    case round =>
      obtain ⟨j, hj, rfl, rfl, hbw⟩ := hrel
      have hAr := hA1.below hbw
      by_cases hlt : j < l.length
      · obtain ⟨bb, off, rfl, hb, c2, c3⟩ := SlabsAt.at_ hAr hlt
        have hs := HO.out.sl l[j] (List.getElem_mem hlt)
        have b1 := HO.out.sumC j
        have b2 := HO.out.sumC (j + 1)
        have e1 : sumC (l.take (j + 1)) = sumC (l.take j) + l[j].sq * l[j].th := by rw [take_snoc l j hlt, sumC_append]; simp [sumC]
        have m1 := mul_bd l[j].sq l[j].th 9000000 500 hs.1 hs.2.1 hs.2.2.1 hs.2.2.2
        rw [e1] at b2
        have E1 := Lib.hid e1
        clear e1
        generalize l[j] = x at *
        generalize sumC (l.take j) = s at *
        obtain ⟨m11, m12⟩ := m1
        obtain ⟨b11, b12⟩ := b1
        obtain ⟨b21, b22⟩ := b2
        go_wp2
        go_roundw
        case rel => exact ⟨j + 1, by omega, by go_num, by rw [E1.out], (by repeat (first | assumption | exact Below.refl _ _ | refine Below.drew ?_ | (refine below_alloc _ ?_ ?_; focus (first | omega | (simp; done) | (simp; omega) | (simp at *; omega))) | (refine below_set _ ?_ ?_; focus (first | omega | (simp; done) | (simp; omega) | (simp at *; omega))) | refine below_drewN ?_ _ | (refine below_call (by assumption) ?_ ?_; focus (first | omega | (simp; done) | (simp; omega) | (simp at *; omega))) | (refine below_call' (by assumption) ?_ ?_; focus (first | omega | (simp; done) | (simp; omega) | (simp at *; omega)))))⟩
        case measure => simp [intOf]; omega
      · obtain rfl : j = l.length := by omega
        rw [List.take_length]
        go_wp2
        go_ret2
        exact ⟨ret_eq (by rw [H1.out, H0.out]; rfl), (by repeat (first | assumption | exact Below.refl _ _ | refine Below.drew ?_ | (refine below_alloc _ ?_ ?_; focus (first | omega | (simp; done) | (simp; omega) | (simp at *; omega))) | (refine below_set _ ?_ ?_; focus (first | omega | (simp; done) | (simp; omega) | (simp at *; omega))) | refine below_drewN ?_ _ | (refine below_call (by assumption) ?_ ?_; focus (first | omega | (simp; done) | (simp; omega) | (simp at *; omega))) | (refine below_call' (by assumption) ?_ ?_; focus (first | omega | (simp; done) | (simp; omega) | (simp at *; omega)))))⟩
  · rw [if_neg h0] at H1
    have h0' : (chkE base l == 0) = false := by simpa using h0
    have h0'' : (chkE base l != 0) = true := by simpa using h0
    clear h0
    go_wp2
    go_ret2
    exact ⟨ret_eq (by rw [H1.out]; rfl), (by repeat (first | assumption | exact Below.refl _ _ | refine Below.drew ?_ | (refine below_alloc _ ?_ ?_; focus (first | omega | (simp; done) | (simp; omega) | (simp at *; omega))) | (refine below_set _ ?_ ?_; focus (first | omega | (simp; done) | (simp; omega) | (simp at *; omega))) | refine below_drewN ?_ _ | (refine below_call (by assumption) ?_ ?_; focus (first | omega | (simp; done) | (simp; omega) | (simp at *; omega))) | (refine below_call' (by assumption) ?_ ?_; focus (first | omega | (simp; done) | (simp; omega) | (simp at *; omega)))))⟩

def skyL : List Slb := [⟨90000, 20⟩, ⟨250000, 10⟩]
def traceL : List Pt := [⟨300, 99, 101⟩, ⟨500, 124, 126⟩]
def SkyPost (w : World) (e : Ending) (w' : World) : Prop := ∃ A, e = .returned (.agg #[.int .i64 100, .slice A 2 2]) ∧ SlabsAt w' A skyL ∧ Below w.heap.size w w'
def TracePost (w : World) (e : Ending) (w' : World) : Prop := ∃ A, e = .returned (.agg #[.slice A 2 2, .int .i64 0, .int .i64 0]) ∧ PtsAt w' A traceL ∧ Below w.heap.size w w'
theorem rows_blk {α : Type} {m : Nat} {f : α → Nat → Value} {W : World} {nb : Nat} {cs : Array Value} {T : TypeId} {fr : Nat × Nat} {l : List α} (h : W.heap[nb]? = some (.cells cs T fr)) (hc : cs.toList = cellsOf m f l) : RowsAt m f W (some ⟨nb, 0, none⟩) l := fun k x hk => by
  refine ⟨nb, 0, rfl, (Array.getElem?_eq_some_iff.1 h).1, fun j hj => ?_⟩
  have := cellsOf_get (f := f) hk hj
  rw [← hc, Array.getElem?_toList] at this
  rw [Nat.zero_add]
  exact blk_cell h this
theorem Sky_any (w : World) : Calls Try.prog 65 #[] w (SkyPost w) := by
  go_enter Try.func65, Try.ntmps65
  go_wp2
  refine bodyPost_ret (v := .agg #[.int .i64 100, .slice (some ⟨w.heap.size + 1, 0, none⟩) 2 2]) (by simp [results, Try.results65, go_sem]) rfl ⟨some ⟨w.heap.size + 1, 0, none⟩, rfl, rows_blk (cs := #[.int .i64 90000, .int .i64 20, .int .i64 250000, .int .i64 10]) (T := 45) (fr := (0, 0)) (by repeat (first | assumption | exact heap_alloc_new _ _ | (refine blk_new ?_; focus (simp; done)) | (refine blk_far _ ?_ ?_; focus (first | (simp; done) | (simp; omega))))) rfl, (by repeat (first | assumption | exact Below.refl _ _ | refine Below.drew ?_ | (refine below_alloc _ ?_ ?_; focus (first | omega | (simp; done) | (simp; omega) | (simp at *; omega))) | (refine below_set _ ?_ ?_; focus (first | omega | (simp; done) | (simp; omega) | (simp at *; omega))) | refine below_drewN ?_ _ | (refine below_call (by assumption) ?_ ?_; focus (first | omega | (simp; done) | (simp; omega) | (simp at *; omega))) | (refine below_call' (by assumption) ?_ ?_; focus (first | omega | (simp; done) | (simp; omega) | (simp at *; omega)))))⟩
theorem Trace_any (w : World) : Calls Try.prog 66 #[] w (TracePost w) := by
  go_enter Try.func66, Try.ntmps66
  go_wp2
  refine bodyPost_ret (v := .agg #[.slice (some ⟨w.heap.size + 1, 0, none⟩) 2 2, .int .i64 0, .int .i64 0]) (by simp [results, Try.results66, go_sem]) rfl ⟨some ⟨w.heap.size + 1, 0, none⟩, rfl, rows_blk (cs := #[.int .i64 300, .int .i64 99, .int .i64 101, .int .i64 500, .int .i64 124, .int .i64 126]) (T := 75) (fr := (0, 0)) (by repeat (first | assumption | exact heap_alloc_new _ _ | (refine blk_new ?_; focus (simp; done)) | (refine blk_far _ ?_ ?_; focus (first | (simp; done) | (simp; omega))))) rfl, (by repeat (first | assumption | exact Below.refl _ _ | refine Below.drew ?_ | (refine below_alloc _ ?_ ?_; focus (first | omega | (simp; done) | (simp; omega) | (simp at *; omega))) | (refine below_set _ ?_ ?_; focus (first | omega | (simp; done) | (simp; omega) | (simp at *; omega))) | refine below_drewN ?_ _ | (refine below_call (by assumption) ?_ ?_; focus (first | omega | (simp; done) | (simp; omega) | (simp at *; omega))) | (refine below_call' (by assumption) ?_ ?_; focus (first | omega | (simp; done) | (simp; omega) | (simp at *; omega)))))⟩

instance : DecidableEq Rng := fun a b =>
  if h : a.lo = b.lo ∧ a.hi = b.hi then .isTrue (by cases a; cases b; simp at h; rw [h.1, h.2]) else .isFalse fun e => h (by rw [e]; exact ⟨rfl, rfl⟩)
/-- the elements from k on are the same -/
theorem drop_eq_cons {α : Type} [DecidableEq α] {a b : List α} {k : Nat} (ha : k < a.length) (hb : k < b.length) : decide (a.drop k = b.drop k) = (decide (a[k] = b[k]) && decide (a.drop (k + 1) = b.drop (k + 1))) := by
  have e1 := List.drop_eq_getElem_cons ha
  have e2 := List.drop_eq_getElem_cons hb
  rw [e1, e2, Bool.eq_iff_iff]
  simp only [decide_eq_true_eq, Bool.and_eq_true, List.cons.injEq]
set_option maxHeartbeats 1000000 in
theorem Ranges_any (A B : Option Addr) (a b : List Rng) (ca cb : Nat) (w : World) (ha : a.length ≤ 100) (hb : b.length ≤ 100) (hA : RngsAt w A a) (hB : RngsAt w B b) :
    Calls Try.prog 34 #[.slice A a.length ca, .slice B b.length cb] w fun e w' => e = .returned (.bool (decide (a = b))) ∧ Below w.heap.size w w' := by
  by_cases hl : a.length = b.length
  · have HL := Lib.hid hl
    have hl' : ((a.length : Int) != (b.length : Int)) = false := by simp; omega
    clear hl
    go_enter Try.func34, Try.ntmps34
    go_wp2
    go_loopw [5] (fun i wr => ∃ k : Nat, k ≤ a.length ∧ i = .int .i64 k ∧ decide (a = b) = decide (a.drop k = b.drop k) ∧ Below w.heap.size w wr) (fun i _ => a.length - (intOf i).toNat)
    case atStart => exact ⟨0, Nat.zero_le _, rfl, rfl, (by repeat (first | assumption | exact Below.refl _ _ | refine Below.drew ?_ | (refine below_alloc _ ?_ ?_; focus (first | omega | (simp; done) | (simp; omega) | (simp at *; omega))) | (refine below_set _ ?_ ?_; focus (first | omega | (simp; done) | (simp; omega) | (simp at *; omega))) | refine below_drewN ?_ _ | (refine below_call (by assumption) ?_ ?_; focus (first | omega | (simp; done) | (simp; omega) | (simp at *; omega))) | (refine below_call' (by assumption) ?_ ?_; focus (first | omega | (simp; done) | (simp; omega) | (simp at *; omega)))))⟩
    case round =>
      obtain ⟨k, hk, rfl, he, hbw⟩ := hrel
      have H := Lib.hid he
      clear he
      have hAr := hA.below hbw
      have hBr := hB.below hbw
      by_cases hlt : k < a.length
      · have hlb : k < b.length := by have := HL.out; omega
        rw [drop_eq_cons hlt hlb] at H
        obtain ⟨b1, o1, rfl, hb1, c1, c2⟩ := RngsAt.at_ hAr hlt
        obtain ⟨b2, o2, rfl, hb2, d1, d2⟩ := RngsAt.at_ hBr hlb
        generalize a[k] = x at *
        generalize b[k] = y at *
        have hxy : decide (x = y) = (decide (x.lo = y.lo) && decide (x.hi = y.hi)) := by
          cases x; cases y; simp
        rw [hxy] at H
        clear hxy
        obtain ⟨x1, x2⟩ := x
        obtain ⟨y1, y2⟩ := y
        simp only at c1 c2 d1 d2
        by_cases hx1 : x1 = y1
        · by_cases hx2 : x2 = y2
          · subst hx1 hx2
            simp only [decide_true, Bool.true_and, Bool.and_true] at H
            go_wp2
            go_quiet (fail)
            go_wp2
            go_roundw
            case rel => exact ⟨k + 1, by omega, by go_num, H.out, (by repeat (first | assumption | exact Below.refl _ _ | refine Below.drew ?_ | (refine below_alloc _ ?_ ?_; focus (first | omega | (simp; done) | (simp; omega) | (simp at *; omega))) | (refine below_set _ ?_ ?_; focus (first | omega | (simp; done) | (simp; omega) | (simp at *; omega))) | refine below_drewN ?_ _ | (refine below_call (by assumption) ?_ ?_; focus (first | omega | (simp; done) | (simp; omega) | (simp at *; omega))) | (refine below_call' (by assumption) ?_ ?_; focus (first | omega | (simp; done) | (simp; omega) | (simp at *; omega)))))⟩
            case measure => simp [intOf]; omega
          · subst hx1
            have hd : decide (x2 = y2) = false := by simpa using hx2
            have hx : (x2 == y2) = false := by simpa using hx2
            rw [hd, Bool.and_false, Bool.false_and] at H
            clear hd hx2
            go_wp2
            go_quiet (fail)
            go_wp2
            go_ret
            exact ⟨ret_eq (by rw [H.out]; rfl), (by repeat (first | assumption | exact Below.refl _ _ | refine Below.drew ?_ | (refine below_alloc _ ?_ ?_; focus (first | omega | (simp; done) | (simp; omega) | (simp at *; omega))) | (refine below_set _ ?_ ?_; focus (first | omega | (simp; done) | (simp; omega) | (simp at *; omega))) | refine below_drewN ?_ _ | (refine below_call (by assumption) ?_ ?_; focus (first | omega | (simp; done) | (simp; omega) | (simp at *; omega))) | (refine below_call' (by assumption) ?_ ?_; focus (first | omega | (simp; done) | (simp; omega) | (simp at *; omega)))))⟩
        · have hd : decide (x1 = y1) = false := by simpa using hx1
          have hx : (x1 == y1) = false := by simpa using hx1
          rw [hd, Bool.false_and, Bool.false_and] at H
          clear hd hx1
          go_wp2
          go_quiet (fail)
          go_wp2
          go_ret
          exact ⟨ret_eq (by rw [H.out]; rfl), (by repeat (first | assumption | exact Below.refl _ _ | refine Below.drew ?_ | (refine below_alloc _ ?_ ?_; focus (first | omega | (simp; done) | (simp; omega) | (simp at *; omega))) | (refine below_set _ ?_ ?_; focus (first | omega | (simp; done) | (simp; omega) | (simp at *; omega))) | refine below_drewN ?_ _ | (refine below_call (by assumption) ?_ ?_; focus (first | omega | (simp; done) | (simp; omega) | (simp at *; omega))) | (refine below_call' (by assumption) ?_ ?_; focus (first | omega | (simp; done) | (simp; omega) | (simp at *; omega)))))⟩
      · have e1 : a.drop k = [] := List.drop_eq_nil_of_le (by omega)
        have e2 : b.drop k = [] := List.drop_eq_nil_of_le (by have := HL.out; omega)
        rw [e1, e2] at H
        clear e1 e2
        go_wp2
        go_ret
        exact ⟨ret_eq (by rw [H.out]; rfl), (by repeat (first | assumption | exact Below.refl _ _ | refine Below.drew ?_ | (refine below_alloc _ ?_ ?_; focus (first | omega | (simp; done) | (simp; omega) | (simp at *; omega))) | (refine below_set _ ?_ ?_; focus (first | omega | (simp; done) | (simp; omega) | (simp at *; omega))) | refine below_drewN ?_ _ | (refine below_call (by assumption) ?_ ?_; focus (first | omega | (simp; done) | (simp; omega) | (simp at *; omega))) | (refine below_call' (by assumption) ?_ ?_; focus (first | omega | (simp; done) | (simp; omega) | (simp at *; omega)))))⟩
  · have hl' : ((a.length : Int) != (b.length : Int)) = true := by simp; omega
    have hne : decide (a = b) = false := by simp; exact fun e => hl (by rw [e])
    have HN := Lib.hid hne
    clear hl hne
    go_enter Try.func34, Try.ntmps34
    go_wp2
    go_ret
    exact ⟨ret_eq (by rw [HN.out]; rfl), (by repeat (first | assumption | exact Below.refl _ _ | refine Below.drew ?_ | (refine below_alloc _ ?_ ?_; focus (first | omega | (simp; done) | (simp; omega) | (simp at *; omega))) | (refine below_set _ ?_ ?_; focus (first | omega | (simp; done) | (simp; omega) | (simp at *; omega))) | refine below_drewN ?_ _ | (refine below_call (by assumption) ?_ ?_; focus (first | omega | (simp; done) | (simp; omega) | (simp at *; omega))) | (refine below_call' (by assumption) ?_ ?_; focus (first | omega | (simp; done) | (simp; omega) | (simp at *; omega)))))⟩
end Go.Proofs.Ytoegpaolbkcleaa
