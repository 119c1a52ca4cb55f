/-
  The borders of a profile's slabs, one by one; the slab that reflects a frequency, the square at a height.
-/
import Derived.Test.YtoegpaolbkcleaaRef1
import Derived.Test.YtoegpaolbkcleaaRange
import Derived.Shelf.Abstract
import Derived.Shelf.RegionOpen
namespace Go.Proofs.Ytoegpaolbkcleaa
open Go.ChangeShapes Go.WideShapes Go.ChangeAt Go.RowKit
set_option linter.unusedVariables false
set_option linter.unusedSimpArgs false
attribute [local go_sem] Oper.semAt_some

/-- a valid profile -/
structure Ok (base : Int) (l : List Slb) : Prop where
  b0 : 0 ≤ base
  b1 : base ≤ 500
  n0 : 0 < l.length
  n1 : l.length ≤ 12
  sl : ∀ x ∈ l, 0 ≤ x.sq ∧ x.sq ≤ 9000000 ∧ 0 ≤ x.th ∧ x.th ≤ 500
theorem badSlb_ge : ∀ (l : List Slb) (i : Int), 0 ≤ i → (badSlb l i = -1 ∧ ∀ x ∈ l, slbOk x = true) ∨ 0 ≤ badSlb l i
  | [], i, _ => .inl ⟨rfl, fun x h => by cases h⟩
  | x :: r, i, h => by
    unfold badSlb
    by_cases hx : slbOk x = true
    · rw [if_pos hx]
      rcases badSlb_ge r (i + 1) (by omega) with ⟨h1, h2⟩ | h1
      · exact .inl ⟨h1, fun y hy => (List.mem_cons.1 hy).elim (fun e => e ▸ hx) (h2 y)⟩
      · exact .inr h1
    · rw [if_neg hx]; exact .inr h
theorem ok_of_chk {base : Int} {l : List Slb} (h : chkE base l = 0) : Ok base l := by
  unfold chkE at h
  have hh : chkHead base l.length = 0 := by
    apply Classical.byContradiction; intro h0
    rw [if_pos h0] at h; exact h0 h
  rw [if_neg (by simp [hh])] at h
  have hb : ¬ 0 ≤ badSlb l 0 := fun h0 => by rw [if_pos h0] at h; omega
  unfold chkHead at hh
  have h1 : withinB base 0 500 = true := by
    cases hc : withinB base 0 500
    · rw [hc] at hh; simp [unl, firstE] at hh
    · rfl
  have h2 : 0 < l.length := by
    apply Nat.pos_of_ne_zero; intro h0
    rw [h1, h0] at hh; simp [unl, firstE] at hh
  have h3 : (l.length : Int) ≤ 12 := by
    apply Int.not_lt.1; intro h0
    have hd : decide ((l.length : Int) ≤ 12) = false := by simp; omega
    have hd2 : decide (0 < l.length) = true := by simp; omega
    rw [h1, hd, hd2] at hh; simp [unl, firstE] at hh
  rcases badSlb_ge l 0 (by omega) with ⟨_, ha⟩ | h4
  · rw [withinB_true] at h1
    refine ⟨h1.1, h1.2, h2, by omega, fun x hx => ?_⟩
    have := ha x hx
    simp only [slbOk, Bool.and_eq_true, withinB_true] at this
    omega
  · exact absurd h4 hb
theorem chk_of_ok {base : Int} {l : List Slb} (h : Ok base l) : chkE base l = 0 := by
  obtain ⟨b0, b1, n0, n1, sl⟩ := h
  have hh : chkHead base l.length = 0 := by
    unfold chkHead
    rw [withinB_true.2 ⟨b0, b1⟩, show decide (0 < l.length) = true by simp; omega, show decide ((l.length : Int) ≤ 12) = true by simp; omega]
    simp [unl, firstE]
  have hb : ∀ (l : List Slb) (i : Int), (∀ x ∈ l, 0 ≤ x.sq ∧ x.sq ≤ 9000000 ∧ 0 ≤ x.th ∧ x.th ≤ 500) → badSlb l i = -1 := by
    intro l
    induction l with
    | nil => intros; rfl
    | cons x r ih =>
      intro i hs
      have hx := hs x (List.mem_cons_self ..)
      have : slbOk x = true := by simp only [slbOk, Bool.and_eq_true, withinB_true]; omega
      rw [badSlb, if_pos this]
      exact ih _ fun y hy => hs y (List.mem_cons_of_mem _ hy)
  unfold chkE
  rw [if_neg (by simp [hh]), hb l 0 sl]; simp

def bords : Nat → Int → List Slb → List (Int × Int)
  | _, _, [] => []
  | i, h, x :: r => ((i : Int), h) :: bords (i + 1) (h + x.th) r
theorem bords_length (l : List Slb) (i : Nat) (h : Int) : (bords i h l).length = l.length := by
  induction l generalizing i h with
  | nil => rfl
  | cons x r ih => simp [bords, ih]
theorem RowsAt.keep {α : Type} {m : Nat} {f : α → Nat → Value} {w w' : World} {A : Option Addr} {l : List α} (h : RowsAt m f w A l) (hs : w.heap.size ≤ w'.heap.size) (hk : ∀ p v, w.cell? p = some v → w'.cell? p = some v) : RowsAt m f w' A l := fun k x hx => by
  obtain ⟨b, off, e, hb, hc⟩ := h k x hx
  exact ⟨b, off, e, by omega, fun j hj => hk _ _ (hc j hj)⟩
def CellsKept (A B : World) : Prop := ∀ p v, A.cell? p = some v → B.cell? p = some v
def ExtSt (_ : Nat) (A B : World) : Prop := Below A.heap.size A B
theorem cellsKept_t {A B C : World} (h : CellsKept A B) (k : CellsKept B C) : CellsKept A C := fun p v hp => k p v (h p v hp)

set_option maxRecDepth 100000 in
set_option maxHeartbeats 2000000 in
theorem borders_it (n : Nat) (base : Int) (A : Option Addr) (l : List Slb) (cap : Nat) (w : World) (ho : Ok base l) (hA : SlabsAt w A l) :
    IterOk Try.prog n 96 #[.agg #[.int .i64 base, .slice A l.length cap]] #[] (fun x : Int × Int => #[Value.int .i64 x.1, Value.int .i64 x.2]) ExtSt CellsKept (fun ys => ys = bords 0 base l) (fun pre => pre <+: bords 0 base l) w := by
  intro lp J Jx W hW hJ hJx hY h0
  have hA := hA.below hW
  obtain ⟨b0, b1, n0, n1, sl⟩ := ho
  refine callsIn_of_wp Try.func96 rfl trivial ?_ rfl
  simp only [Try.ntmps96, List.size_toArray, List.length_cons, List.length_nil, Nat.reduceAdd, Nat.reduceSub, Array.replicate_succ, Array.replicate_zero, List.push_toArray, List.append_toArray, List.nil_append, List.cons_append]
  gi_wp2
  have HJ := Lib.hid hJ
  have HJx := Lib.hid hJx
  have HY := Lib.hid hY
  have HS := Lib.hid sl
  clear hJ hJx hY sl
  have h1 := HJ.out _ _ (W.alloc (.cells #[.int .i64 base, .slice A l.length cap] 113)) h0 (Nat.le_refl _) ((Below.refl _ _).alloc (Nat.le_refl _) _)
  have hA1 : SlabsAt (W.alloc (.cells #[.int .i64 base, .slice A l.length cap] 113)) A l := hA.below (by repeat (first | assumption | exact Below.refl _ _ | refine Below.drew ?_ | (refine below_alloc _ ?_ ?_; focus (first | omega | (simp; done) | (simp; omega) | (simp at *; omega))) | (refine below_set _ ?_ ?_; focus (first | omega | (simp; done) | (simp; omega) | (simp at *; omega))) | refine below_drewN ?_ _ | (refine below_call (by assumption) ?_ ?_; focus (first | omega | (simp; done) | (simp; omega) | (simp at *; omega))) | (refine below_call' (by assumption) ?_ ?_; focus (first | omega | (simp; done) | (simp; omega) | (simp at *; omega)))))
  gi_loopw [4, 14] (fun h i wr => ∃ (k : Nat) (hh : Int) (pre : List (Int × Int)), k ≤ l.length ∧ i = .int .i64 k ∧ h = .int .i64 hh ∧ 0 ≤ hh ∧ hh ≤ 500 * (k + 1) ∧ bords 0 base l = pre ++ bords k hh (l.drop k) ∧ pre.length = k ∧ J pre wr ∧ SlabsAt wr A l ∧ W.heap.size ≤ wr.heap.size)
    (fun _ i _ => l.length - (intOf i).toNat)
  case atStart => exact ⟨0, base, [], Nat.zero_le _, rfl, rfl, b0, by omega, rfl, rfl, h1, hA1, by simp⟩
  case round =>
    obtain ⟨k, hh, pre, hk, rfl, rfl, hh0, hh1, hpre, hlen, hJ, hAr, hWr⟩ := hrel
    have HP := Lib.hid hpre
    have HL := Lib.hid hlen
    clear hpre hlen h1 hA1
    by_cases hlt : k < l.length
    · obtain ⟨b, off, rfl, hb, c1, c2⟩ := SlabsAt.at_ hAr hlt
      have hd : l.drop k = l[k] :: l.drop (k + 1) := List.drop_eq_getElem_cons hlt
      have hs := HS.out l[k] (List.getElem_mem hlt)
      rw [hd] at HP
      clear hd
      generalize l[k] = x at *
      obtain ⟨s1, s2, s3, s4⟩ := hs
      have hJ' := HJ.out _ _ (wr.alloc (.cells #[.int .i64 x.sq, .int .i64 x.th] 45)) hJ hWr ((Below.refl _ _).alloc (Nat.le_refl _) _)
      obtain ⟨fn, tmps, assign, body, hy, hR⟩ := HY.out pre ((k : Int), hh) _ hJ' ⟨bords (k + 1) (hh + x.th) (l.drop (k + 1)), by rw [HP.out]; simp [bords]⟩ (by simp; omega)
      have HR := Lib.hid hR
      clear hR
      gi_wp2
      refine ⟨(fun h => by cases h), HR.out.mono ?_⟩
      rintro e W3 (⟨rfl, hJ3, hk3, hz3⟩ | ⟨rfl, hJx3, hz3⟩)
      · have HK := Lib.hid hk3
        clear hk3 hJ'
        have c3 : W3.cell? ⟨wr.heap.size, 1, none⟩ = some (.int .i64 x.th) := HK.out _ _ (cell_new (by simp) rfl)
        simp at hz3
        gi_wp2
        go_roundw
        case rel => exact ⟨k + 1, hh + x.th, pre ++ [((k : Int), hh)], by omega, by go_num, rfl, by omega, by omega, by rw [HP.out]; simp [bords], by simp [HL.out], hJ3, hAr.keep (by omega) (fun p v hp => HK.out p v (cell_alloc _ hp)), by omega⟩
        case measure => simp [intOf]; omega
      · gi_wp2
        refine bodyPost_ret (results_none rfl _ _ _) rfl ?_
        exact ⟨⟨_, rfl⟩, .inr ⟨pre ++ [((k : Int), hh)], ⟨bords (k + 1) (hh + x.th) (l.drop (k + 1)), by rw [HP.out]; simp [bords]⟩, hJx3⟩⟩
    · have e : l.drop k = [] := List.drop_eq_nil_of_le (by omega)
      rw [e] at HP
      clear e
      gi_wp2
      go_end0
      exact ⟨⟨_, rfl⟩, .inl ⟨pre, by rw [HP.out]; simp [bords], hJ⟩⟩

/-- the slab that reflects, and its height -/
def reflGo (ff : Int) : Nat → Int → List Slb → Option (Int × Int)
  | _, _, [] => none
  | i, h, x :: r => if ff ≤ x.sq then some (h, (i : Int)) else reflGo ff (i + 1) (h + x.th) r
theorem reflGo_none {ff : Int} : ∀ (l : List Slb) (i : Nat) (h : Int), (∀ x ∈ l, x.sq < ff) → reflGo ff i h l = none
  | [], _, _, _ => rfl
  | x :: r, i, h, ha => by
    have := ha x (List.mem_cons_self ..)
    rw [reflGo, if_neg (by omega)]
    exact reflGo_none r _ _ fun y hy => ha y (List.mem_cons_of_mem _ hy)
theorem bords_get : ∀ (l : List Slb) (i : Nat) (h : Int) (k : Nat) (p : Int × Int), (bords i h l)[k]? = some p → p.1 = ((i + k : Nat) : Int) ∧ k < l.length
  | [], _, _, _, _, hp => by simp [bords] at hp
  | x :: r, i, h, 0, p, hp => by simp [bords] at hp; subst hp; simp
  | x :: r, i, h, k + 1, p, hp => by
    simp [bords] at hp
    have := bords_get r (i + 1) (h + x.th) k p hp
    refine ⟨by rw [this.1]; omega, by simp; exact this.2⟩
theorem reflGo_at {ff : Int} : ∀ (l : List Slb) (i : Nat) (h : Int) (k : Nat) (p : Int × Int) (hk : k < l.length), (bords i h l)[k]? = some p → (∀ j (hj : j < l.length), j < k → l[j].sq < ff) → ff ≤ l[k].sq → reflGo ff i h l = some (p.2, p.1)
  | [], _, _, _, _, hk, _, _, _ => by simp at hk
  | x :: r, i, h, 0, p, hk, hp, ha, hf => by
    simp [bords] at hp; subst hp
    simp at hf
    rw [reflGo, if_pos hf]
  | x :: r, i, h, k + 1, p, hk, hp, ha, hf => by
    have h0 := ha 0 (by simp) (by omega)
    simp at h0
    rw [reflGo, if_neg (by omega)]
    simp [bords] at hp
    exact reflGo_at r (i + 1) (h + x.th) k p (by simpa using hk) hp (fun j hj hjk => by have := ha (j + 1) (by simp; omega) (by omega); simpa using this) (by simpa using hf)
def refl (base : Int) (l : List Slb) (f : Int) : Int × Int := (reflGo (f * f) 0 base l).getD (0, -1)

def ReflI (base : Int) (A : Option Addr) (l : List Slb) (cap : Nat) (f : Int) (w : World) (pre : List (Int × Int)) (W : World) : Prop :=
  (∀ j (hj : j < l.length), j < pre.length → l[j].sq < f * f) ∧ SlabsAt W A l ∧ Below w.heap.size w W ∧
  W.cell? ⟨w.heap.size, 0, none⟩ = some (.int .i64 base) ∧ W.cell? ⟨w.heap.size, 1, none⟩ = some (.slice A l.length cap) ∧ W.cell? ⟨w.heap.size + 1, 0, none⟩ = some (.int .i64 f) ∧
  W.cell? ⟨w.heap.size + 1 + 1, 0, none⟩ = some (.int .i64 0) ∧ W.frozen? ⟨w.heap.size + 1 + 1, 0, none⟩ = false ∧ W.cell? ⟨w.heap.size + 1 + 1 + 1, 0, none⟩ = some (.int .i64 0) ∧ W.frozen? ⟨w.heap.size + 1 + 1 + 1, 0, none⟩ = false
def ReflX (base : Int) (l : List Slb) (f : Int) (w : World) (c : Code) (pre : List (Int × Int)) (W : World) : Prop :=
  c = .ret ∧ Below w.heap.size w W ∧ ∃ h i : Int, reflGo (f * f) 0 base l = some (h, i) ∧ W.cell? ⟨w.heap.size + 1 + 1, 0, none⟩ = some (.int .i64 h) ∧ W.cell? ⟨w.heap.size + 1 + 1 + 1, 0, none⟩ = some (.int .i64 i)

theorem ext_below {B : Nat} {w A A' : World} (hb : Below B w A) (h : Below A.heap.size A A') (hB : B ≤ w.heap.size) : Below B w A' := hb.trans (h.mono (Nat.le_trans hB hb.size))

set_option maxRecDepth 100000 in
set_option maxHeartbeats 4000000 in
theorem reflected_any (base : Int) (A : Option Addr) (l : List Slb) (cap : Nat) (f : Int) (w : World) (ho : Ok base l) (hA : SlabsAt w A l) (f0 : 0 ≤ f) (f1 : f ≤ 3000) :
    Calls Try.prog 70 #[.agg #[.int .i64 base, .slice A l.length cap], .int .i64 f] w fun e w' => e = .returned (.tuple #[.int .i64 (refl base l f).1, .int .i64 (refl base l f).2]) ∧ Below w.heap.size w w' := by
  refine (callsIn_wide (n := 9)).1 ?_
  have hff := sq_bd f f0 f1
  refine callsIn_of_wp_marks Try.func70 rfl trivial ?_ rfl
  simp only [Try.ntmps70, List.size_toArray, List.length_cons, List.length_nil, Nat.reduceAdd, Nat.reduceSub, Array.replicate_succ, Array.replicate_zero, List.push_toArray, List.append_toArray, List.nil_append, List.cons_append]
  gi_wp2
  have c0 : ReflI base A l cap f w [] ((((w.alloc (.cells #[.int .i64 base, .slice A l.length cap] 113)).alloc (.cells #[.int .i64 f] 3)).alloc (.cells #[.int .i64 0] 3)).alloc (.cells #[.int .i64 0] 3)) :=
    ⟨fun j hj h => by simp at h, hA.below (by repeat (first | assumption | exact Below.refl _ _ | refine Below.drew ?_ | (refine below_alloc _ ?_ ?_; focus (first | omega | (simp; done) | (simp; omega) | (simp at *; omega))) | (refine below_set _ ?_ ?_; focus (first | omega | (simp; done) | (simp; omega) | (simp at *; omega))) | refine below_drewN ?_ _ | (refine below_call (by assumption) ?_ ?_; focus (first | omega | (simp; done) | (simp; omega) | (simp at *; omega))) | (refine below_call' (by assumption) ?_ ?_; focus (first | omega | (simp; done) | (simp; omega) | (simp at *; omega))))), (by repeat (first | assumption | exact Below.refl _ _ | refine Below.drew ?_ | (refine below_alloc _ ?_ ?_; focus (first | omega | (simp; done) | (simp; omega) | (simp at *; omega))) | (refine below_set _ ?_ ?_; focus (first | omega | (simp; done) | (simp; omega) | (simp at *; omega))) | refine below_drewN ?_ _ | (refine below_call (by assumption) ?_ ?_; focus (first | omega | (simp; done) | (simp; omega) | (simp at *; omega))) | (refine below_call' (by assumption) ?_ ?_; focus (first | omega | (simp; done) | (simp; omega) | (simp at *; omega))))), (by repeat (first | assumption | (refine cell_new ?_ rfl; focus (simp; done)) | refine cell_drew ?_ | refine cell_alloc _ ?_ | refine cell_drewN _ ?_ | (refine cell_far ?_ ?_; focus (first | omega | (simp; omega) | (simp; done))) | refine cell_below' (by assumption) ?_)), (by repeat (first | assumption | (refine cell_new ?_ rfl; focus (simp; done)) | refine cell_drew ?_ | refine cell_alloc _ ?_ | refine cell_drewN _ ?_ | (refine cell_far ?_ ?_; focus (first | omega | (simp; omega) | (simp; done))) | refine cell_below' (by assumption) ?_)), (by repeat (first | assumption | (refine cell_new ?_ rfl; focus (simp; done)) | refine cell_drew ?_ | refine cell_alloc _ ?_ | refine cell_drewN _ ?_ | (refine cell_far ?_ ?_; focus (first | omega | (simp; omega) | (simp; done))) | refine cell_below' (by assumption) ?_)), (by repeat (first | assumption | (refine cell_new ?_ rfl; focus (simp; done)) | refine cell_drew ?_ | refine cell_alloc _ ?_ | refine cell_drewN _ ?_ | (refine cell_far ?_ ?_; focus (first | omega | (simp; omega) | (simp; done))) | refine cell_below' (by assumption) ?_)), (by repeat (first | assumption | (refine frozen_new ?_; focus (simp; done)) | refine frozen_drew ?_ | (refine frozen_alloc _ ?_ ?_; focus (first | (simp; done) | (simp; omega))) | refine frozen_drewN _ ?_ | refine frozen_set _ _ ?_ | (refine frozen_below (by assumption) ?_ ?_; focus (first | (simp; done) | (simp; omega))))), (by repeat (first | assumption | (refine cell_new ?_ rfl; focus (simp; done)) | refine cell_drew ?_ | refine cell_alloc _ ?_ | refine cell_drewN _ ?_ | (refine cell_far ?_ ?_; focus (first | omega | (simp; omega) | (simp; done))) | refine cell_below' (by assumption) ?_)), (by repeat (first | assumption | (refine frozen_new ?_; focus (simp; done)) | refine frozen_drew ?_ | (refine frozen_alloc _ ?_ ?_; focus (first | (simp; done) | (simp; omega))) | refine frozen_drewN _ ?_ | refine frozen_set _ _ ?_ | (refine frozen_below (by assumption) ?_ ?_; focus (first | (simp; done) | (simp; omega)))))⟩
  obtain ⟨W0, hW0⟩ : ∃ W0, (((w.alloc (.cells #[.int .i64 base, .slice A l.length cap] 113)).alloc (.cells #[.int .i64 f] 3)).alloc (.cells #[.int .i64 0] 3)).alloc (.cells #[.int .i64 0] 3) = W0 := ⟨_, rfl⟩
  have hs0 : W0.heap.size = w.heap.size + 4 := by rw [← hW0]; simp
  rw [hW0] at c0 ⊢
  have HW := Lib.hid hW0
  clear hW0
  refine range_law (gf := 96) (first := #[.agg #[.int .i64 base, .slice A l.length cap]]) (lb := #[]) rfl (enters_of Try.func96 (by kernel_rfl) rfl)
    (borders_it 8 base A l cap W0 ho c0.2.1) (fun B X X' hB h => h.mono hB) (Below.refl _ _) (fun _ => rfl) cellsKept_t (fun X X' h p v hp => h.cell hp)
    (ReflI base A l cap f w) (ReflX base l f w) ?ic ?xc ?is ?xs c0
    (fun x => { tmps := #[.agg #[.int .i64 base, .slice A l.length cap], .int .i64 f, .pointer (some ⟨w.heap.size, 0, none⟩), .pointer (some ⟨w.heap.size + 1, 0, none⟩), .pointer (some ⟨w.heap.size + 1 + 1, 0, none⟩), .pointer (some ⟨w.heap.size + 1 + 1 + 1, 0, none⟩), .int .i64 x.1, .int .i64 x.2, .agg #[.int .i64 base, .slice A l.length cap], .func (.func 96) #[.agg #[.int .i64 base, .slice A l.length cap]] #[], .int .i64 x.1, .int .i64 x.2, undef, undef, undef, undef, undef, undef, undef, undef, undef, undef, undef, undef, undef], defers := [] }) ?assign ?body ?done ?stop
  case ic =>
    rintro s X X' ⟨h1, h2, h3, h4, h5, h6, h7, h8, h9, h10⟩ h
    exact ⟨h1, h2.keep h.size (fun p v hp => h.cell hp), CK.below h3 ⟨h.os, h.tape, h.output, h.size, fun k o hk hx => h.same k o hk (hx.imp (fun hk => by omega) id)⟩ (Nat.le_refl _), h.cell h4, h.cell h5, h.cell h6, h.cell h7, (h.frozen h7).trans h8, h.cell h9, (h.frozen h9).trans h10⟩
  case xc =>
    rintro c s X X' ⟨h1, h2, hh, i, h3, h4, h5⟩ h
    exact ⟨h1, CK.below h2 ⟨h.os, h.tape, h.output, h.size, fun k o hk hx => h.same k o hk (hx.imp (fun hk => by omega) id)⟩ (Nat.le_refl _), hh, i, h3, h.cell h4, h.cell h5⟩
  case is =>
    rintro B s X X' hB ⟨h1, h2, h3, h4, h5, h6, h7, h8, h9, h10⟩ _ h
    exact ⟨h1, h2.below h, ext_below h3 h (Nat.le_refl _), cell_below' h h4, cell_below' h h5, cell_below' h h6, cell_below' h h7, frozen_below h (World.block_lt_of_cell? _ _ h7) h8, cell_below' h h9, frozen_below h (World.block_lt_of_cell? _ _ h9) h10⟩
  case xs =>
    rintro B c s X X' hB ⟨h1, h2, hh, i, h3, h4, h5⟩ _ h
    exact ⟨h1, ext_below h2 h (Nat.le_refl _), hh, i, h3, cell_below' h h4, cell_below' h h5⟩
  case assign =>
    intro lp x W K hK
    gi_wp2
    exact hK
  case body =>
    rintro lp pre x W ⟨h1, h2, h3, h4, h5, h6, h7, h8, h9, h10⟩ hv
    obtain ⟨rest, hrest⟩ := hv
    have hx : (bords 0 base l)[pre.length]? = some x := by rw [← hrest]; simp
    obtain ⟨hx1, hlt⟩ := bords_get _ _ _ _ _ hx
    obtain ⟨x1, x2⟩ := x
    simp only [Nat.zero_add] at hx1
    subst hx1
    obtain ⟨b, off, rfl, hb, c1, c2⟩ := SlabsAt.at_ h2 hlt
    have H1 := Lib.hid h1
    have HX := Lib.hid hx
    clear h1 hx hrest
    by_cases hc : f * f ≤ l[pre.length].sq
    · have hr := reflGo_at l 0 base pre.length _ hlt HX.out (fun j hj hjk => H1.out j hj hjk) hc
      have HR := Lib.hid hr
      clear hr
      generalize l[pre.length].sq = q at *
      gi_wp2_with (fail)
      (refine round_quiet (by kernel_rfl) (by kernel_rfl) rfl ?_; (repeat (any_goals (first | go_big_quiet_step (fail) | quiet_step (fail)))); refine wpQuiet_nil ?_; intro _ hw'; obtain ⟨nq, hw''⟩ := hw'; subst hw'')
      gi_wp2
      exact ⟨(keepsOthers_drewN _ _).trans ((KeepsOthers.setCell _ _ _).trans (KeepsOthers.setCell _ _ _)), rfl, (by repeat (first | assumption | exact Below.refl _ _ | refine Below.drew ?_ | (refine below_alloc _ ?_ ?_; focus (first | omega | (simp; done) | (simp; omega) | (simp at *; omega))) | (refine below_set _ ?_ ?_; focus (first | omega | (simp; done) | (simp; omega) | (simp at *; omega))) | refine below_drewN ?_ _ | (refine below_call (by assumption) ?_ ?_; focus (first | omega | (simp; done) | (simp; omega) | (simp at *; omega))) | (refine below_call' (by assumption) ?_ ?_; focus (first | omega | (simp; done) | (simp; omega) | (simp at *; omega))))), x2, _, HR.out, cell_far (by simp) (cell_same (cell_drewN _ h7)), cell_same (cell_far (by simp) (cell_drewN _ h9))⟩
    · have hn : ∀ j (hj : j < l.length), j < (pre ++ [((pre.length : Int), x2)]).length → l[j].sq < f * f := fun j hj hjk => by
        by_cases e : j = pre.length
        · subst e; omega
        · exact H1.out j hj (by simp at hjk; omega)
      have HN := Lib.hid hn
      clear hn
      generalize l[pre.length].sq = q at *
      have hc' : q < f * f := by omega
      gi_wp2_with (fail)
      (refine round_quiet (by kernel_rfl) (by kernel_rfl) rfl ?_; (repeat (any_goals (first | go_big_quiet_step (fail) | quiet_step (fail)))); refine wpQuiet_nil ?_; intro _ hw'; obtain ⟨nq, hw''⟩ := hw'; subst hw'')
      gi_wp2
      exact ⟨keepsOthers_drewN _ _, fun p v hp => hp, HN.out, h2, (by repeat (first | assumption | exact Below.refl _ _ | refine Below.drew ?_ | (refine below_alloc _ ?_ ?_; focus (first | omega | (simp; done) | (simp; omega) | (simp at *; omega))) | (refine below_set _ ?_ ?_; focus (first | omega | (simp; done) | (simp; omega) | (simp at *; omega))) | refine below_drewN ?_ _ | (refine below_call (by assumption) ?_ ?_; focus (first | omega | (simp; done) | (simp; omega) | (simp at *; omega))) | (refine below_call' (by assumption) ?_ ?_; focus (first | omega | (simp; done) | (simp; omega) | (simp at *; omega))))), h4, h5, h6, h7, h8, h9, h10⟩
  case done =>
    rintro D xs W hD rfl ⟨h1, h2, h3, h4, h5, h6, h7, h8, h9, h10⟩ hK
    have hr : reflGo (f * f) 0 base l = none := reflGo_none l 0 base (fun x hx => by
      obtain ⟨j, hj, rfl⟩ := List.getElem_of_mem hx
      exact h1 j hj (by rw [bords_length]; exact hj))
    have HR := Lib.hid hr
    clear hr h1
    gi_wp2
    have hK1 := ((KeepsOthers.setCell W ⟨w.heap.size + 1 + 1, 0, none⟩ (.int .i64 0)).trans (KeepsOthers.setCell _ ⟨w.heap.size + 1 + 1 + 1, 0, none⟩ (.int .i64 (-1)))).same D _ hK rfl
    refine ⟨by simp, .inl ⟨_, _, rfl, run_takeDeferred hK1, ?_⟩⟩
    have hck : CK W0.heap.size _ (World.putObj _ D (.deferred none)) := CK.put (.deferred none) hD hK1 rfl
    have r1 := hck.cell (p := ⟨w.heap.size + 1 + 1, 0, none⟩) (v := .int .i64 0) (cell_far (by simp) (cell_same h7))
    have r2 := hck.cell (p := ⟨w.heap.size + 1 + 1 + 1, 0, none⟩) (v := .int .i64 (-1)) (cell_same (cell_far (by simp) h9))
    refine ⟨.tuple #[.int .i64 0, .int .i64 (-1)], by simp [results, Try.f70, go_sem, r1, r2], ret_eq (by rw [refl, HR.out]; rfl), ?_⟩
    exact CK.below (B := w.heap.size) (by repeat (first | assumption | exact Below.refl _ _ | refine Below.drew ?_ | (refine below_alloc _ ?_ ?_; focus (first | omega | (simp; done) | (simp; omega) | (simp at *; omega))) | (refine below_set _ ?_ ?_; focus (first | omega | (simp; done) | (simp; omega) | (simp at *; omega))) | refine below_drewN ?_ _ | (refine below_call (by assumption) ?_ ?_; focus (first | omega | (simp; done) | (simp; omega) | (simp at *; omega))) | (refine below_call' (by assumption) ?_ ?_; focus (first | omega | (simp; done) | (simp; omega) | (simp at *; omega))))) ⟨hck.os, hck.tape, hck.output, hck.size, fun k o hk hx => hck.same k o hk (hx.imp (fun hk => by omega) id)⟩ (Nat.le_refl _)
  case stop =>
    rintro D c pre W hD hv ⟨rfl, h2, hh, i, h3, h4, h5⟩ hK
    have HR := Lib.hid h3
    clear h3
    gi_wp2
    refine ⟨by simp, .inl ⟨_, _, rfl, run_takeDeferred hK, ?_⟩⟩
    have hck : CK W0.heap.size W (World.putObj W D (.deferred none)) := CK.put (.deferred none) hD hK rfl
    have r1 := hck.cell h4
    have r2 := hck.cell h5
    refine ⟨.tuple #[.int .i64 hh, .int .i64 i], by simp [results, Try.f70, go_sem, r1, r2], ret_eq (by rw [refl, HR.out]; rfl), ?_⟩
    exact CK.below (B := w.heap.size) h2 ⟨hck.os, hck.tape, hck.output, hck.size, fun k o hk hx => hck.same k o hk (hx.imp (fun hk => by omega) id)⟩ (Nat.le_refl _)
end Go.Proofs.Ytoegpaolbkcleaa
