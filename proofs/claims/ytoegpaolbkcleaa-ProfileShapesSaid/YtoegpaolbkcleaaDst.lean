/-
  The distance of two profiles: the program's and the reference's.
-/
import Derived.Test.YtoegpaolbkcleaaSlb
import Derived.Test.YtoegpaolbkcleaaOrdF
namespace Go.Proofs.Ytoegpaolbkcleaa
open Go.ChangeShapes Go.WideShapes Go.ChangeAt Go.RowKit
set_option linter.unusedVariables false
set_option linter.unusedSimpArgs false

def absI (d : Int) : Int := if d < -d then -d else d
theorem absI_bd {d : Int} {n : Int} (h1 : -n ≤ d) (h2 : d ≤ n) : 0 ≤ absI d ∧ absI d ≤ n := by unfold absI; split <;> omega
def topI (base : Int) (l : List Slb) : Int := base + sumTh l
def dAt (b1 : Int) (l : List Slb) (b2 : Int) (r : List Slb) (h : Nat) : Int := absI (plas b1 l h - plas b2 r h)
def sumD (b1 : Int) (l : List Slb) (b2 : Int) (r : List Slb) : Nat → Int
  | 0 => 0
  | k + 1 => sumD b1 l b2 r k + dAt b1 l b2 r k
theorem plGo_bd (h : Int) : ∀ (l : List Slb) (a : Int), (∀ x ∈ l, 0 ≤ x.sq ∧ x.sq ≤ 9000000 ∧ 0 ≤ x.th ∧ x.th ≤ 500) → 0 ≤ plGo h a l ∧ plGo h a l ≤ 9000000
  | [], _, _ => by simp [plGo]
  | x :: r, a, hx => by
    have h1 := hx x (List.mem_cons_self ..)
    have ih := plGo_bd h r (a + x.th) fun y hy => hx y (List.mem_cons_of_mem _ hy)
    unfold plGo
    split <;> omega
theorem plas_bd {base : Int} {l : List Slb} (ho : Ok base l) (h : Int) : 0 ≤ plas base l h ∧ plas base l h ≤ 9000000 := plGo_bd h l base ho.sl
theorem plGo_above (h : Int) : ∀ (l : List Slb) (a : Int), (∀ x ∈ l, 0 ≤ x.th ∧ x.th ≤ 500) → a + sumTh l ≤ h → plGo h a l = 0
  | [], _, _, _ => rfl
  | x :: r, a, hx, hh => by
    have h1 := hx x (List.mem_cons_self ..)
    simp only [sumTh] at hh
    have h2 := sumTh_bd r fun y hy => hx y (List.mem_cons_of_mem _ hy)
    unfold plGo
    rw [if_neg (by rw [withinB_true]; omega)]
    exact plGo_above h r (a + x.th) (fun y hy => hx y (List.mem_cons_of_mem _ hy)) (by omega)
theorem topI_bd {base : Int} {l : List Slb} (ho : Ok base l) : 0 ≤ topI base l ∧ topI base l ≤ 6500 := by
  have h := ho.th l.length
  rw [List.take_length] at h
  have h0 := ho.b0
  have h1 := ho.b1
  unfold topI
  omega
theorem plas_above {base : Int} {l : List Slb} (ho : Ok base l) {h : Int} (hh : topI base l ≤ h) : plas base l h = 0 := plGo_above h l base (fun x hx => (ho.sl x hx).2.2) hh
theorem dAt_bd {b1 b2 : Int} {l r : List Slb} (h1 : Ok b1 l) (h2 : Ok b2 r) (h : Nat) : 0 ≤ dAt b1 l b2 r h ∧ dAt b1 l b2 r h ≤ 9000000 := by
  have x := plas_bd h1 h
  have y := plas_bd h2 h
  exact absI_bd (by omega) (by omega)
theorem sumD_bd {b1 b2 : Int} {l r : List Slb} (h1 : Ok b1 l) (h2 : Ok b2 r) : ∀ k, 0 ≤ sumD b1 l b2 r k ∧ sumD b1 l b2 r k ≤ 9000000 * k
  | 0 => by simp [sumD]
  | k + 1 => by
    have ih := sumD_bd h1 h2 k
    have hd := dAt_bd h1 h2 k
    simp only [sumD]
    omega
/-- above both profiles nothing is added -/
theorem sumD_above {b1 b2 : Int} {l r : List Slb} (h1 : Ok b1 l) (h2 : Ok b2 r) {n : Nat} (ha : topI b1 l ≤ n) (hb : topI b2 r ≤ n) : ∀ k, sumD b1 l b2 r (n + k) = sumD b1 l b2 r n
  | 0 => rfl
  | k + 1 => by
    have ih := sumD_above h1 h2 ha hb k
    have e : n + (k + 1) = (n + k) + 1 := by omega
    rw [e, sumD, ih]
    unfold dAt
    rw [plas_above h1 (by omega), plas_above h2 (by omega)]
    simp [absI]
def maxI (a b : Int) : Int := if a < b then b else a
def dstN (b1 : Int) (l : List Slb) (b2 : Int) (r : List Slb) : Nat := (maxI (topI b1 l) (topI b2 r)).toNat
theorem dst_eq {b1 b2 : Int} {l r : List Slb} (h1 : Ok b1 l) (h2 : Ok b2 r) : sumD b1 l b2 r 6501 = sumD b1 l b2 r (dstN b1 l b2 r) := by
  have t1 := topI_bd h1
  have t2 := topI_bd h2
  have hm : topI b1 l ≤ maxI (topI b1 l) (topI b2 r) ∧ topI b2 r ≤ maxI (topI b1 l) (topI b2 r) ∧ maxI (topI b1 l) (topI b2 r) ≤ 6500 := by unfold maxI; split <;> omega
  have hn : dstN b1 l b2 r ≤ 6500 := by unfold dstN; omega
  have := sumD_above h1 h2 (n := dstN b1 l b2 r) (by unfold dstN; omega) (by unfold dstN; omega) (6501 - dstN b1 l b2 r)
  rwa [show dstN b1 l b2 r + (6501 - dstN b1 l b2 r) = 6501 by omega] at this

theorem Size_any (n : Int) (w : World) (h1 : -1000000000000 ≤ n) (h2 : n ≤ 1000000000000) :
    Calls Try.prog 91 #[.int .i64 n] w fun e w' => e = .returned (.int .i64 (absI n)) ∧ w = w' := by
  have ha : absI n = if n < -n then -n else n := rfl
  have HA := Lib.hid ha
  clear ha
  go_enter Try.func91, Try.ntmps91
  go_wp2
  all_goals
    go_ret
    exact ⟨ret_eq (by rw [HA.out]; first | (simp [*]; done) | (simp [*]; omega)), rfl⟩

set_option maxHeartbeats 1000000 in
theorem top_any (base : Int) (A : Option Addr) (l : List Slb) (cap : Nat) (w : World) (ho : Ok base l) (hA : SlabsAt w A l) :
    Calls Try.prog 90 #[.agg #[.int .i64 base, .slice A l.length cap]] w fun e w' => e = .returned (.int .i64 (topI base l)) ∧ Below w.heap.size w w' := by
  have HO := Lib.hid ho
  have hn := ho.n1
  have hb0 := ho.b0
  have hb1 := ho.b1
  clear ho
  go_enter Try.func90, Try.ntmps90
  go_wp2
  go_loopw [3, 13] (fun a i wr => ∃ j : Nat, j ≤ l.length ∧ i = .int .i64 j ∧ a = .int .i64 (base + sumTh (l.take j)) ∧ Below w.heap.size w wr) (fun _ i _ => l.length - (intOf i).toNat)
  case atStart => exact ⟨0, Nat.zero_le _, rfl, by simp [sumTh], (by repeat (first | assumption | exact Below.refl _ _ | refine Below.drew ?_ | (refine below_alloc _ ?_ ?_; focus (first | omega | (simp; done) | (simp; omega) | (simp at *; omega))) | (refine below_set _ ?_ ?_; focus (first | omega | (simp; done) | (simp; omega) | (simp at *; omega))) | refine below_drewN ?_ _ | (refine below_call (by assumption) ?_ ?_; focus (first | omega | (simp; done) | (simp; omega) | (simp at *; omega))) | (refine below_call' (by assumption) ?_ ?_; focus (first | omega | (simp; done) | (simp; omega) | (simp at *; omega)))))⟩
  case round =>
    obtain ⟨j, hj, rfl, rfl, hbw⟩ := hrel
    have hAr := hA.below hbw
    by_cases hlt : j < l.length
    · obtain ⟨bb, off, rfl, hb, c2, c3⟩ := SlabsAt.at_ hAr hlt
      have hs := HO.out.sl l[j] (List.getElem_mem hlt)
      have t1 := HO.out.th j
      have e1 : sumTh (l.take (j + 1)) = sumTh (l.take j) + l[j].th := by rw [take_snoc l j hlt, sumTh_append]; simp [sumTh]
      have E1 := Lib.hid e1
      clear e1
      generalize l[j] = x at *
      generalize hsj : sumTh (l.take j) = s at *
      clear hsj
      obtain ⟨t11, t12⟩ := t1
      obtain ⟨x1, x2, x3, x4⟩ := hs
      go_wp2
      go_roundw
      case rel => exact ⟨j + 1, by omega, by go_num, by rw [E1.out, Int.add_assoc], (by repeat (first | assumption | exact Below.refl _ _ | refine Below.drew ?_ | (refine below_alloc _ ?_ ?_; focus (first | omega | (simp; done) | (simp; omega) | (simp at *; omega))) | (refine below_set _ ?_ ?_; focus (first | omega | (simp; done) | (simp; omega) | (simp at *; omega))) | refine below_drewN ?_ _ | (refine below_call (by assumption) ?_ ?_; focus (first | omega | (simp; done) | (simp; omega) | (simp at *; omega))) | (refine below_call' (by assumption) ?_ ?_; focus (first | omega | (simp; done) | (simp; omega) | (simp at *; omega)))))⟩
      case measure => simp [intOf]; omega
    · obtain rfl : j = l.length := by omega
      rw [List.take_length]
      go_wp2
      go_ret
      exact ⟨rfl, (by repeat (first | assumption | exact Below.refl _ _ | refine Below.drew ?_ | (refine below_alloc _ ?_ ?_; focus (first | omega | (simp; done) | (simp; omega) | (simp at *; omega))) | (refine below_set _ ?_ ?_; focus (first | omega | (simp; done) | (simp; omega) | (simp at *; omega))) | refine below_drewN ?_ _ | (refine below_call (by assumption) ?_ ?_; focus (first | omega | (simp; done) | (simp; omega) | (simp at *; omega))) | (refine below_call' (by assumption) ?_ ?_; focus (first | omega | (simp; done) | (simp; omega) | (simp at *; omega)))))⟩

def dstE (b1 : Int) (l : List Slb) (b2 : Int) (r : List Slb) : Int := firstE [chkE b1 l, chkE b2 r]
def dstV (b1 : Int) (l : List Slb) (b2 : Int) (r : List Slb) : Int := if dstE b1 l b2 r = 0 then sumD b1 l b2 r (dstN b1 l b2 r) else 0
set_option maxRecDepth 100000 in
set_option maxHeartbeats 2000000 in
theorem DistanceOf_any (b1 : Int) (A : Option Addr) (l : List Slb) (c1 : Nat) (b2 : Int) (B : Option Addr) (r : List Slb) (c2 : Nat) (w : World) (hl : l.length ≤ 100) (hr : r.length ≤ 100) (hA : SlabsAt w A l) (hB : SlabsAt w B r) :
    Calls Try.prog 56 #[.agg #[.int .i64 b1, .slice A l.length c1], .agg #[.int .i64 b2, .slice B r.length c2]] w fun e w' => e = .returned (.tuple #[.int .i64 (dstV b1 l b2 r), .int .i64 (dstE b1 l b2 r)]) ∧ Below w.heap.size w w' := by
  have h1 : dstE b1 l b2 r = firstE [chkE b1 l, chkE b2 r] := rfl
  have h2 : dstV b1 l b2 r = if dstE b1 l b2 r = 0 then sumD b1 l b2 r (dstN b1 l b2 r) else 0 := rfl
  have H1 := Lib.hid h1
  have H2 := Lib.hid h2
  clear h1 h2
  go_enter Try.func56, Try.ntmps56
  go_wp2_with (fail)
  refine (open_any b1 A l c1 _ hl (hA.below (by repeat (first | assumption | exact Below.refl _ _ | refine Below.drew ?_ | (refine below_alloc _ ?_ ?_; focus (first | omega | (simp; done) | (simp; omega) | (simp at *; omega))) | (refine below_set _ ?_ ?_; focus (first | omega | (simp; done) | (simp; omega) | (simp at *; omega))) | refine below_drewN ?_ _ | (refine below_call (by assumption) ?_ ?_; focus (first | omega | (simp; done) | (simp; omega) | (simp at *; omega))) | (refine below_call' (by assumption) ?_ ?_; focus (first | omega | (simp; done) | (simp; omega) | (simp at *; omega))))))).mono ?_
  rintro e w1 ⟨rfl, hb1⟩
  have hz1 : w.heap.size + 1 < w1.heap.size := by have := hb1.size; simp at this; omega
  have d0 : w1.cell? ⟨w.heap.size + 1, 0, none⟩ = some (.int .i64 b2) := cell_below' hb1 (by repeat (first | assumption | (refine cell_new ?_ rfl; focus (simp; done)) | refine cell_drew ?_ | refine cell_alloc _ ?_ | refine cell_drewN _ ?_ | (refine cell_far ?_ ?_; focus (first | omega | (simp; omega) | (simp; done))) | refine cell_below' (by assumption) ?_))
  have d1 : w1.cell? ⟨w.heap.size + 1, 1, none⟩ = some (.slice B r.length c2) := cell_below' hb1 (by repeat (first | assumption | (refine cell_new ?_ rfl; focus (simp; done)) | refine cell_drew ?_ | refine cell_alloc _ ?_ | refine cell_drewN _ ?_ | (refine cell_far ?_ ?_; focus (first | omega | (simp; omega) | (simp; done))) | refine cell_below' (by assumption) ?_))
  have hbw1 : Below w.heap.size w w1 := (by repeat (first | assumption | exact Below.refl _ _ | refine Below.drew ?_ | (refine below_alloc _ ?_ ?_; focus (first | omega | (simp; done) | (simp; omega) | (simp at *; omega))) | (refine below_set _ ?_ ?_; focus (first | omega | (simp; done) | (simp; omega) | (simp at *; omega))) | refine below_drewN ?_ _ | (refine below_call (by assumption) ?_ ?_; focus (first | omega | (simp; done) | (simp; omega) | (simp at *; omega))) | (refine below_call' (by assumption) ?_ ?_; focus (first | omega | (simp; done) | (simp; omega) | (simp at *; omega)))))
  clear hb1
  go_wp2_with (fail)
  refine (open_any b2 B r c2 _ hr (hB.below (by repeat (first | assumption | exact Below.refl _ _ | refine Below.drew ?_ | (refine below_alloc _ ?_ ?_; focus (first | omega | (simp; done) | (simp; omega) | (simp at *; omega))) | (refine below_set _ ?_ ?_; focus (first | omega | (simp; done) | (simp; omega) | (simp at *; omega))) | refine below_drewN ?_ _ | (refine below_call (by assumption) ?_ ?_; focus (first | omega | (simp; done) | (simp; omega) | (simp at *; omega))) | (refine below_call' (by assumption) ?_ ?_; focus (first | omega | (simp; done) | (simp; omega) | (simp at *; omega))))))).mono ?_
  rintro e w2 ⟨rfl, hb2⟩
  have hz2 : w1.heap.size < w2.heap.size := by have := hb2.size; simp at this; omega
  have s0 : w2.cell? ⟨w1.heap.size, 0, none⟩ = some (.int .i64 b1) := cell_below' hb2 (by repeat (first | assumption | (refine cell_new ?_ rfl; focus (simp; done)) | refine cell_drew ?_ | refine cell_alloc _ ?_ | refine cell_drewN _ ?_ | (refine cell_far ?_ ?_; focus (first | omega | (simp; omega) | (simp; done))) | refine cell_below' (by assumption) ?_))
  have s1 : w2.cell? ⟨w1.heap.size, 1, none⟩ = some (.slice A l.length c1) := cell_below' hb2 (by repeat (first | assumption | (refine cell_new ?_ rfl; focus (simp; done)) | refine cell_drew ?_ | refine cell_alloc _ ?_ | refine cell_drewN _ ?_ | (refine cell_far ?_ ?_; focus (first | omega | (simp; omega) | (simp; done))) | refine cell_below' (by assumption) ?_))
  have hbw2 : Below w.heap.size w w2 := (by repeat (first | assumption | exact Below.refl _ _ | refine Below.drew ?_ | (refine below_alloc _ ?_ ?_; focus (first | omega | (simp; done) | (simp; omega) | (simp at *; omega))) | (refine below_set _ ?_ ?_; focus (first | omega | (simp; done) | (simp; omega) | (simp at *; omega))) | refine below_drewN ?_ _ | (refine below_call (by assumption) ?_ ?_; focus (first | omega | (simp; done) | (simp; omega) | (simp at *; omega))) | (refine below_call' (by assumption) ?_ ?_; focus (first | omega | (simp; done) | (simp; omega) | (simp at *; omega)))))
  clear hb2 hbw1 d0 d1
  go_wp2_with (fail)
  refine (first2 (chkE b1 l) (chkE b2 r) _ _ (by simp) (by repeat (first | assumption | (refine cell_new ?_ rfl; focus (simp; done)) | refine cell_drew ?_ | refine cell_alloc _ ?_ | refine cell_drewN _ ?_ | (refine cell_far ?_ ?_; focus (first | omega | (simp; omega) | (simp; done))) | refine cell_below' (by assumption) ?_)) (by repeat (first | assumption | (refine cell_new ?_ rfl; focus (simp; done)) | refine cell_drew ?_ | refine cell_alloc _ ?_ | refine cell_drewN _ ?_ | (refine cell_far ?_ ?_; focus (first | omega | (simp; omega) | (simp; done))) | refine cell_below' (by assumption) ?_))).mono ?_
  rintro e w3 ⟨rfl, rfl⟩
  rw [← H1.out]
  by_cases h0 : dstE b1 l b2 r = 0
  · have h00 := h0
    unfold dstE at h00
    rw [firstE2] at h00
    have ho1 := ok_of_chk h00.1
    have ho2 := ok_of_chk h00.2
    have t1 := topI_bd ho1
    have t2 := topI_bd ho2
    have HO1 := Lib.hid ho1
    have HO2 := Lib.hid ho2
    rw [if_pos h0] at H2
    have H0 := Lib.hid h0
    rw [h0]
    clear h0 h00 H1 ho1 ho2
    have hn : dstN b1 l b2 r = (maxI (topI b1 l) (topI b2 r)).toNat := rfl
    have HN := Lib.hid hn
    clear hn
    have hT1 := fun W hW => top_any b1 A l c1 W HO1.out hW
    have hT2 := fun W hW => top_any b2 B r c2 W HO2.out hW
    have hP1 := fun h W hW => plasma_any b1 A l c1 h W HO1.out hW
    have hP2 := fun h W hW => plasma_any b2 B r c2 h W HO2.out hW
    have HT1 := Lib.hid hT1
    have HT2 := Lib.hid hT2
    have HP1 := Lib.hid hP1
    have HP2 := Lib.hid hP2
    clear hT1 hT2 hP1 hP2
    generalize topI b1 l = n1 at *
    generalize topI b2 r = n2 at *
    obtain ⟨t11, t12⟩ := t1
    obtain ⟨t21, t22⟩ := t2
    have hbv : Below w.heap.size w ((w2.alloc (.cells #[.int .i64 b2, .slice B r.length c2] 113)).alloc (.cells #[.int .i64 (chkE b1 l), .int .i64 (chkE b2 r)] 27)) := (by repeat (first | assumption | exact Below.refl _ _ | refine Below.drew ?_ | (refine below_alloc _ ?_ ?_; focus (first | omega | (simp; done) | (simp; omega) | (simp at *; omega))) | (refine below_set _ ?_ ?_; focus (first | omega | (simp; done) | (simp; omega) | (simp at *; omega))) | refine below_drewN ?_ _ | (refine below_call (by assumption) ?_ ?_; focus (first | omega | (simp; done) | (simp; omega) | (simp at *; omega))) | (refine below_call' (by assumption) ?_ ?_; focus (first | omega | (simp; done) | (simp; omega) | (simp at *; omega)))))
    have S0 : ((w2.alloc (.cells #[.int .i64 b2, .slice B r.length c2] 113)).alloc (.cells #[.int .i64 (chkE b1 l), .int .i64 (chkE b2 r)] 27)).cell? ⟨w1.heap.size, 0, none⟩ = some (.int .i64 b1) := (by repeat (first | assumption | (refine cell_new ?_ rfl; focus (simp; done)) | refine cell_drew ?_ | refine cell_alloc _ ?_ | refine cell_drewN _ ?_ | (refine cell_far ?_ ?_; focus (first | omega | (simp; omega) | (simp; done))) | refine cell_below' (by assumption) ?_))
    have S1 : ((w2.alloc (.cells #[.int .i64 b2, .slice B r.length c2] 113)).alloc (.cells #[.int .i64 (chkE b1 l), .int .i64 (chkE b2 r)] 27)).cell? ⟨w1.heap.size, 1, none⟩ = some (.slice A l.length c1) := (by repeat (first | assumption | (refine cell_new ?_ rfl; focus (simp; done)) | refine cell_drew ?_ | refine cell_alloc _ ?_ | refine cell_drewN _ ?_ | (refine cell_far ?_ ?_; focus (first | omega | (simp; omega) | (simp; done))) | refine cell_below' (by assumption) ?_))
    have O0 : ((w2.alloc (.cells #[.int .i64 b2, .slice B r.length c2] 113)).alloc (.cells #[.int .i64 (chkE b1 l), .int .i64 (chkE b2 r)] 27)).cell? ⟨w2.heap.size, 0, none⟩ = some (.int .i64 b2) := (by repeat (first | assumption | (refine cell_new ?_ rfl; focus (simp; done)) | refine cell_drew ?_ | refine cell_alloc _ ?_ | refine cell_drewN _ ?_ | (refine cell_far ?_ ?_; focus (first | omega | (simp; omega) | (simp; done))) | refine cell_below' (by assumption) ?_))
    have O1 : ((w2.alloc (.cells #[.int .i64 b2, .slice B r.length c2] 113)).alloc (.cells #[.int .i64 (chkE b1 l), .int .i64 (chkE b2 r)] 27)).cell? ⟨w2.heap.size, 1, none⟩ = some (.slice B r.length c2) := (by repeat (first | assumption | (refine cell_new ?_ rfl; focus (simp; done)) | refine cell_drew ?_ | refine cell_alloc _ ?_ | refine cell_drewN _ ?_ | (refine cell_far ?_ ?_; focus (first | omega | (simp; omega) | (simp; done))) | refine cell_below' (by assumption) ?_))
    have hv2 : w2.heap.size < ((w2.alloc (.cells #[.int .i64 b2, .slice B r.length c2] 113)).alloc (.cells #[.int .i64 (chkE b1 l), .int .i64 (chkE b2 r)] 27)).heap.size := by simp; omega
    have hv1 : w1.heap.size < ((w2.alloc (.cells #[.int .i64 b2, .slice B r.length c2] 113)).alloc (.cells #[.int .i64 (chkE b1 l), .int .i64 (chkE b2 r)] 27)).heap.size := by simp; omega
    go_wp2_with (fail)
    generalize ((w2.alloc (.cells #[.int .i64 b2, .slice B r.length c2] 113)).alloc (.cells #[.int .i64 (chkE b1 l), .int .i64 (chkE b2 r)] 27)) = v at *
    clear s0 s1 hz1 hz2
    have hA2 := hA.below hbv
    have hB2 := hB.below hbv
    clear hA hB
    (refine region_full (by kernel_rfl) (by kernel_rfl) fun hx => ?_; (repeat (any_goals (first | go_big_quiet_step (first | (go_at_call 90; with_reducible exact ext_call (HT1.out _ (RowsAt.below hA2 (ext_bel _ _)))) | (go_at_call 90; with_reducible exact ext_call (HT2.out _ (RowsAt.below hB2 (ext_bel _ _))))) | quiet_step (first | (go_at_call 90; with_reducible exact ext_call (HT1.out _ (RowsAt.below hA2 (ext_bel _ _)))) | (go_at_call 90; with_reducible exact ext_call (HT2.out _ (RowsAt.below hB2 (ext_bel _ _)))))))))
    (refine wpQuiet_nil ?_; clear hx; intro u; have hbw4 := ext_bel _ u; have hxw4 := ext_cell _ u; generalize ext _ u = w4 at *; clear u; have hsw4 := hbw4.size; (try simp at hsw4))
    have hm : n1 ≤ (if n1 < n2 then n2 else n1) ∧ n2 ≤ (if n1 < n2 then n2 else n1) ∧ (if n1 < n2 then n2 else n1) ≤ 6500 := by split <;> omega
    have hme : maxI n1 n2 = (if n1 < n2 then n2 else n1) := rfl
    rw [hme] at HN
    clear hme
    generalize (if n1 < n2 then n2 else n1) = m at *
    obtain ⟨hm1, hm2, hm3⟩ := hm
    replace S0 := cell_below' hbw4 S0
    replace S1 := cell_below' hbw4 S1
    replace O0 := cell_below' hbw4 O0
    replace O1 := cell_below' hbw4 O1
    replace hA2 := RowsAt.below hA2 hbw4
    replace hB2 := RowsAt.below hB2 hbw4
    have hv3 : w1.heap.size < w4.heap.size := by omega
    have hv4 : w2.heap.size < w4.heap.size := by omega
    have hbv4 : Below w.heap.size w w4 := (by repeat (first | assumption | exact Below.refl _ _ | refine Below.drew ?_ | (refine below_alloc _ ?_ ?_; focus (first | omega | (simp; done) | (simp; omega) | (simp at *; omega))) | (refine below_set _ ?_ ?_; focus (first | omega | (simp; done) | (simp; omega) | (simp at *; omega))) | refine below_drewN ?_ _ | (refine below_call (by assumption) ?_ ?_; focus (first | omega | (simp; done) | (simp; omega) | (simp at *; omega))) | (refine below_call' (by assumption) ?_ ?_; focus (first | omega | (simp; done) | (simp; omega) | (simp at *; omega)))))
    clear hxw4 hbw4 hbv hsw4 hv1 hv2
    go_wp2_with (fail)
    go_loopw [10, 35] (fun a i wr => ∃ j : Nat, (j : Int) ≤ m ∧ i = .int .i64 j ∧ a = .int .i64 (sumD b1 l b2 r j) ∧ Below w4.heap.size w4 wr) (fun _ i _ => m.toNat - (intOf i).toNat)
    case atStart => exact ⟨0, by omega, rfl, rfl, Below.refl _ _⟩
    case round =>
      obtain ⟨j, hj, rfl, rfl, hbw⟩ := hrel
      have hzr := hbw.size
      have s0 := cell_below' hbw S0
      have s1 := cell_below' hbw S1
      have o0 := cell_below' hbw O0
      have o1 := cell_below' hbw O1
      have hAr := RowsAt.below hA2 hbw
      have hBr := RowsAt.below hB2 hbw
      have hv5 : w1.heap.size < wr.heap.size := by omega
      have hv6 : w2.heap.size < wr.heap.size := by omega
      by_cases hlt : (j : Int) < m
      · have q1 := plas_bd HO1.out j
        have q2 := plas_bd HO2.out j
        have q3 := sumD_bd HO1.out HO2.out j
        have hs : sumD b1 l b2 r (j + 1) = sumD b1 l b2 r j + absI (plas b1 l j - plas b2 r j) := rfl
        have HS := Lib.hid hs
        have hp1 := fun W hW => HP1.out j W hW
        have hp2 := fun W hW => HP2.out j W hW
        have HQ1 := Lib.hid hp1
        have HQ2 := Lib.hid hp2
        clear hs hp1 hp2
        generalize plas b1 l j = x at *
        generalize plas b2 r j = y at *
        generalize sumD b1 l b2 r j = s at *
        have q4 := absI_bd (d := x - y) (n := 9000000) (by omega) (by omega)
        have hae : absI (x - y) = if x - y < -(x - y) then -(x - y) else x - y := rfl
        rw [hae] at q4 HS
        clear hae
        obtain ⟨q11, q12⟩ := q1
        obtain ⟨q21, q22⟩ := q2
        obtain ⟨q31, q32⟩ := q3
        obtain ⟨q41, q42⟩ := q4
        go_wp2_with (fail)
        (refine region_extx 7 (by kernel_rfl) (by kernel_rfl) fun hx => ?_; simp only [List.take_succ_cons, List.take_zero, List.drop_succ_cons, List.drop_zero]; (repeat (any_goals (first | go_big_quiet_step (first | (go_at_call 89; with_reducible exact ext_call (HQ1.out _ (RowsAt.below hAr (ext_bel _ _)))) | (go_at_call 89; with_reducible exact ext_call (HQ2.out _ (RowsAt.below hBr (ext_bel _ _))))) | quiet_step (first | (go_at_call 89; with_reducible exact ext_call (HQ1.out _ (RowsAt.below hAr (ext_bel _ _)))) | (go_at_call 89; with_reducible exact ext_call (HQ2.out _ (RowsAt.below hBr (ext_bel _ _)))))))))
        (refine wpQuiet_nil ?_; clear hx; intro u; have hbw5 := ext_bel _ u; have hxw5 := ext_cell _ u; generalize ext _ u = w5 at *; clear u; have hsw5 := hbw5.size; (try simp at hsw5))
        go_wp2
        go_roundw
        case rel => exact ⟨j + 1, by omega, by go_num, by rw [HS.out], (by repeat (first | assumption | exact Below.refl _ _ | refine Below.drew ?_ | (refine below_alloc _ ?_ ?_; focus (first | omega | (simp; done) | (simp; omega) | (simp at *; omega))) | (refine below_set _ ?_ ?_; focus (first | omega | (simp; done) | (simp; omega) | (simp at *; omega))) | refine below_drewN ?_ _ | (refine below_call (by assumption) ?_ ?_; focus (first | omega | (simp; done) | (simp; omega) | (simp at *; omega))) | (refine below_call' (by assumption) ?_ ?_; focus (first | omega | (simp; done) | (simp; omega) | (simp at *; omega)))))⟩
        case measure => simp [intOf]; omega
      · have hjm : dstN b1 l b2 r = j := by rw [HN.out]; omega
        have HJ := Lib.hid hjm
        clear hjm
        go_wp2
        go_ret2
        exact ⟨ret_eq (by rw [H2.out, HJ.out, H0.out]; rfl), (by repeat (first | assumption | exact Below.refl _ _ | refine Below.drew ?_ | (refine below_alloc _ ?_ ?_; focus (first | omega | (simp; done) | (simp; omega) | (simp at *; omega))) | (refine below_set _ ?_ ?_; focus (first | omega | (simp; done) | (simp; omega) | (simp at *; omega))) | refine below_drewN ?_ _ | (refine below_call (by assumption) ?_ ?_; focus (first | omega | (simp; done) | (simp; omega) | (simp at *; omega))) | (refine below_call' (by assumption) ?_ ?_; focus (first | omega | (simp; done) | (simp; omega) | (simp at *; omega)))))⟩
  · have h0' : (dstE b1 l b2 r == 0) = false := by simpa using h0
    have h0'' : (dstE b1 l b2 r != 0) = true := by simpa using h0
    rw [if_neg h0] at H2
    clear h0
    go_wp2
    go_ret2
    exact ⟨ret_eq (by rw [H2.out]; rfl), (by repeat (first | assumption | exact Below.refl _ _ | refine Below.drew ?_ | (refine below_alloc _ ?_ ?_; focus (first | omega | (simp; done) | (simp; omega) | (simp at *; omega))) | (refine below_set _ ?_ ?_; focus (first | omega | (simp; done) | (simp; omega) | (simp at *; omega))) | refine below_drewN ?_ _ | (refine below_call (by assumption) ?_ ?_; focus (first | omega | (simp; done) | (simp; omega) | (simp at *; omega))) | (refine below_call' (by assumption) ?_ ?_; focus (first | omega | (simp; done) | (simp; omega) | (simp at *; omega)))))⟩

set_option maxRecDepth 100000 in
set_option maxHeartbeats 2000000 in
theorem RDistance_any (b1 : Int) (A : Option Addr) (l : List Slb) (c1 : Nat) (b2 : Int) (B : Option Addr) (r : List Slb) (c2 : Nat) (w : World) (h1 : Ok b1 l) (h2 : Ok b2 r) (hA : SlabsAt w A l) (hB : SlabsAt w B r) :
    Calls Try.prog 57 #[.agg #[.int .i64 b1, .slice A l.length c1], .agg #[.int .i64 b2, .slice B r.length c2]] w fun e w' => e = .returned (.int .i64 (sumD b1 l b2 r (dstN b1 l b2 r))) ∧ Below w.heap.size w w' := by
  have HE := Lib.hid (dst_eq h1 h2)
  have HO1 := Lib.hid h1
  have HO2 := Lib.hid h2
  clear h1 h2
  go_enter Try.func57, Try.ntmps57
  go_wp2
  have S0 : ((w.alloc (.cells #[.int .i64 b1, .slice A l.length c1] 24)).alloc (.cells #[.int .i64 b2, .slice B r.length c2] 24)).cell? ⟨w.heap.size, 0, none⟩ = some (.int .i64 b1) := (by repeat (first | assumption | (refine cell_new ?_ rfl; focus (simp; done)) | refine cell_drew ?_ | refine cell_alloc _ ?_ | refine cell_drewN _ ?_ | (refine cell_far ?_ ?_; focus (first | omega | (simp; omega) | (simp; done))) | refine cell_below' (by assumption) ?_))
  have S1 : ((w.alloc (.cells #[.int .i64 b1, .slice A l.length c1] 24)).alloc (.cells #[.int .i64 b2, .slice B r.length c2] 24)).cell? ⟨w.heap.size, 1, none⟩ = some (.slice A l.length c1) := (by repeat (first | assumption | (refine cell_new ?_ rfl; focus (simp; done)) | refine cell_drew ?_ | refine cell_alloc _ ?_ | refine cell_drewN _ ?_ | (refine cell_far ?_ ?_; focus (first | omega | (simp; omega) | (simp; done))) | refine cell_below' (by assumption) ?_))
  have O0 : ((w.alloc (.cells #[.int .i64 b1, .slice A l.length c1] 24)).alloc (.cells #[.int .i64 b2, .slice B r.length c2] 24)).cell? ⟨w.heap.size + 1, 0, none⟩ = some (.int .i64 b2) := (by repeat (first | assumption | (refine cell_new ?_ rfl; focus (simp; done)) | refine cell_drew ?_ | refine cell_alloc _ ?_ | refine cell_drewN _ ?_ | (refine cell_far ?_ ?_; focus (first | omega | (simp; omega) | (simp; done))) | refine cell_below' (by assumption) ?_))
  have O1 : ((w.alloc (.cells #[.int .i64 b1, .slice A l.length c1] 24)).alloc (.cells #[.int .i64 b2, .slice B r.length c2] 24)).cell? ⟨w.heap.size + 1, 1, none⟩ = some (.slice B r.length c2) := (by repeat (first | assumption | (refine cell_new ?_ rfl; focus (simp; done)) | refine cell_drew ?_ | refine cell_alloc _ ?_ | refine cell_drewN _ ?_ | (refine cell_far ?_ ?_; focus (first | omega | (simp; omega) | (simp; done))) | refine cell_below' (by assumption) ?_))
  have hbv : Below w.heap.size w ((w.alloc (.cells #[.int .i64 b1, .slice A l.length c1] 24)).alloc (.cells #[.int .i64 b2, .slice B r.length c2] 24)) := (by repeat (first | assumption | exact Below.refl _ _ | refine Below.drew ?_ | (refine below_alloc _ ?_ ?_; focus (first | omega | (simp; done) | (simp; omega) | (simp at *; omega))) | (refine below_set _ ?_ ?_; focus (first | omega | (simp; done) | (simp; omega) | (simp at *; omega))) | refine below_drewN ?_ _ | (refine below_call (by assumption) ?_ ?_; focus (first | omega | (simp; done) | (simp; omega) | (simp at *; omega))) | (refine below_call' (by assumption) ?_ ?_; focus (first | omega | (simp; done) | (simp; omega) | (simp at *; omega)))))
  have hv1 : w.heap.size < ((w.alloc (.cells #[.int .i64 b1, .slice A l.length c1] 24)).alloc (.cells #[.int .i64 b2, .slice B r.length c2] 24)).heap.size := by simp; omega
  have hv2 : w.heap.size + 1 < ((w.alloc (.cells #[.int .i64 b1, .slice A l.length c1] 24)).alloc (.cells #[.int .i64 b2, .slice B r.length c2] 24)).heap.size := by simp
  generalize ((w.alloc (.cells #[.int .i64 b1, .slice A l.length c1] 24)).alloc (.cells #[.int .i64 b2, .slice B r.length c2] 24)) = v at *
  have hA2 := hA.below hbv
  have hB2 := hB.below hbv
  clear hA hB
  go_loopw [5, 6] (fun a i wr => ∃ j : Nat, j ≤ 6501 ∧ i = .int .i64 j ∧ a = .int .i64 (sumD b1 l b2 r j) ∧ Below v.heap.size v wr) (fun _ i _ => 6501 - (intOf i).toNat)
  case atStart => exact ⟨0, by omega, rfl, rfl, Below.refl _ _⟩
  case round =>
    obtain ⟨j, hj, rfl, rfl, hbw⟩ := hrel
    have hzr := hbw.size
    have s0 := cell_below' hbw S0
    have s1 := cell_below' hbw S1
    have o0 := cell_below' hbw O0
    have o1 := cell_below' hbw O1
    have hAr := RowsAt.below hA2 hbw
    have hBr := RowsAt.below hB2 hbw
    have hv5 : w.heap.size < wr.heap.size := by omega
    have hv6 : w.heap.size + 1 < wr.heap.size := by omega
    by_cases hlt : j < 6501
    · have q1 := plas_bd HO1.out j
      have q2 := plas_bd HO2.out j
      have q3 := sumD_bd HO1.out HO2.out j
      have hs : sumD b1 l b2 r (j + 1) = sumD b1 l b2 r j + absI (plas b1 l j - plas b2 r j) := rfl
      have HS := Lib.hid hs
      have hp1 := fun W hW => RPlasmaAt_any b1 A l c1 j W HO1.out hW
      have hp2 := fun W hW => RPlasmaAt_any b2 B r c2 j W HO2.out hW
      have HQ1 := Lib.hid hp1
      have HQ2 := Lib.hid hp2
      clear hs hp1 hp2
      generalize plas b1 l j = x at *
      generalize plas b2 r j = y at *
      generalize sumD b1 l b2 r j = s at *
      have q4 := absI_bd (d := x - y) (n := 9000000) (by omega) (by omega)
      obtain ⟨q11, q12⟩ := q1
      obtain ⟨q21, q22⟩ := q2
      obtain ⟨q31, q32⟩ := q3
      obtain ⟨q41, q42⟩ := q4
      have hle : (j : Int) ≤ 6500 := by omega
      have hsz := fun W => Size_any (x - y) W (by omega) (by omega)
      have HSZ := Lib.hid hsz
      clear hsz
      go_wp2_with (fail)
      (refine region_extx 10 (by kernel_rfl) (by kernel_rfl) fun hx => ?_; simp only [List.take_succ_cons, List.take_zero, List.drop_succ_cons, List.drop_zero]; (repeat (any_goals (first | go_big_quiet_step (first | (go_at_call 53; with_reducible exact ext_call (HQ1.out _ (RowsAt.below hAr (ext_bel _ _)))) | (go_at_call 53; with_reducible exact ext_call (HQ2.out _ (RowsAt.below hBr (ext_bel _ _)))) | (go_at_call 91; with_reducible exact ext_same (HSZ.out _))) | quiet_step (first | (go_at_call 53; with_reducible exact ext_call (HQ1.out _ (RowsAt.below hAr (ext_bel _ _)))) | (go_at_call 53; with_reducible exact ext_call (HQ2.out _ (RowsAt.below hBr (ext_bel _ _)))) | (go_at_call 91; with_reducible exact ext_same (HSZ.out _)))))))
      (refine wpQuiet_nil ?_; clear hx; intro u; have hbw5 := ext_bel _ u; have hxw5 := ext_cell _ u; generalize ext _ u = w5 at *; clear u; have hsw5 := hbw5.size; (try simp at hsw5))
      go_wp2
      go_roundw
      case rel => exact ⟨j + 1, by omega, by go_num, by rw [HS.out], (by repeat (first | assumption | exact Below.refl _ _ | refine Below.drew ?_ | (refine below_alloc _ ?_ ?_; focus (first | omega | (simp; done) | (simp; omega) | (simp at *; omega))) | (refine below_set _ ?_ ?_; focus (first | omega | (simp; done) | (simp; omega) | (simp at *; omega))) | refine below_drewN ?_ _ | (refine below_call (by assumption) ?_ ?_; focus (first | omega | (simp; done) | (simp; omega) | (simp at *; omega))) | (refine below_call' (by assumption) ?_ ?_; focus (first | omega | (simp; done) | (simp; omega) | (simp at *; omega)))))⟩
      case measure => simp [intOf]; omega
    · obtain rfl : j = 6501 := by omega
      have hle : ¬ ((6501 : Nat) : Int) ≤ 6500 := by omega
      go_wp2
      go_ret
      exact ⟨ret_eq (by rw [← HE.out]; rfl), (by repeat (first | assumption | exact Below.refl _ _ | refine Below.drew ?_ | (refine below_alloc _ ?_ ?_; focus (first | omega | (simp; done) | (simp; omega) | (simp at *; omega))) | (refine below_set _ ?_ ?_; focus (first | omega | (simp; done) | (simp; omega) | (simp at *; omega))) | refine below_drewN ?_ _ | (refine below_call (by assumption) ?_ ?_; focus (first | omega | (simp; done) | (simp; omega) | (simp at *; omega))) | (refine below_call' (by assumption) ?_ ?_; focus (first | omega | (simp; done) | (simp; omega) | (simp at *; omega)))))⟩
end Go.Proofs.Ytoegpaolbkcleaa
