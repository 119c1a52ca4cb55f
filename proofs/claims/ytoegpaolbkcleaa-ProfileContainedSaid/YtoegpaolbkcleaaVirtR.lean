/-
  The reference's heights: the slab that reflects, the virtual height; the lengths that the statements speak of.
-/
import Derived.Test.YtoegpaolbkcleaaVirt
namespace Go.Proofs.Ytoegpaolbkcleaa
open Go.ChangeShapes Go.WideShapes Go.ChangeAt Go.RowKit
set_option linter.unusedVariables false
set_option linter.unusedSimpArgs false

theorem Few_any (base : Int) (A : Option Addr) (n cap : Nat) (w : World) :
    Calls Try.prog 15 #[.agg #[.int .i64 base, .slice A n cap]] w fun e w' => e = .returned (.bool (decide ((n : Int) ≤ 14))) ∧ Below w.heap.size w w' := by
  by_cases h : (n : Int) ≤ 14
  all_goals
    go_enter Try.func15, Try.ntmps15
    go_wp2
    go_ret
    exact ⟨ret_bool (by simp [h]), (by repeat (first | assumption | exact Below.refl _ _ | refine Below.drew ?_ | (refine below_alloc _ ?_ ?_; focus (first | omega | (simp; done) | (simp; omega) | (simp at *; omega))) | (refine below_set _ ?_ ?_; focus (first | omega | (simp; done) | (simp; omega) | (simp at *; omega))) | refine below_drewN ?_ _ | (refine below_call (by assumption) ?_ ?_; focus (first | omega | (simp; done) | (simp; omega) | (simp at *; omega))) | (refine below_call' (by assumption) ?_ ?_; focus (first | omega | (simp; done) | (simp; omega) | (simp at *; omega)))))⟩
theorem ProfileErr_any (base : Int) (A : Option Addr) (l : List Slb) (cap : Nat) (w : World) (hl : l.length ≤ 100) (hA : SlabsAt w A l) :
    Calls Try.prog 19 #[.agg #[.int .i64 base, .slice A l.length cap]] w fun e w' => e = .returned (.int .i64 (chkE base l)) ∧ Below w.heap.size w w' := by
  go_enter Try.func19, Try.ntmps19
  go_wp2_with (fail)
  refine (CheckProfileR_any base A l cap _ hl (hA.below (by repeat (first | assumption | exact Below.refl _ _ | refine Below.drew ?_ | (refine below_alloc _ ?_ ?_; focus (first | omega | (simp; done) | (simp; omega) | (simp at *; omega))) | (refine below_set _ ?_ ?_; focus (first | omega | (simp; done) | (simp; omega) | (simp at *; omega))) | refine below_drewN ?_ _ | (refine below_call (by assumption) ?_ ?_; focus (first | omega | (simp; done) | (simp; omega) | (simp at *; omega))) | (refine below_call' (by assumption) ?_ ?_; focus (first | omega | (simp; done) | (simp; omega) | (simp at *; omega))))))).mono ?_
  rintro e w1 ⟨rfl, hb1⟩
  go_wp2
  go_ret
  exact ⟨rfl, (by repeat (first | assumption | exact Below.refl _ _ | refine Below.drew ?_ | (refine below_alloc _ ?_ ?_; focus (first | omega | (simp; done) | (simp; omega) | (simp at *; omega))) | (refine below_set _ ?_ ?_; focus (first | omega | (simp; done) | (simp; omega) | (simp at *; omega))) | refine below_drewN ?_ _ | (refine below_call (by assumption) ?_ ?_; focus (first | omega | (simp; done) | (simp; omega) | (simp at *; omega))) | (refine below_call' (by assumption) ?_ ?_; focus (first | omega | (simp; done) | (simp; omega) | (simp at *; omega)))))⟩

/-- the sum of thicknesses -/
def sumTh : List Slb → Int
  | [] => 0
  | x :: r => x.th + sumTh r
theorem sumTh_append (l r : List Slb) : sumTh (l ++ r) = sumTh l + sumTh r := by
  induction l with
  | nil => simp [sumTh]
  | cons x l ih => simp [sumTh, ih, Int.add_assoc]
theorem sumTh_bd : ∀ l : List Slb, (∀ x ∈ l, 0 ≤ x.th ∧ x.th ≤ 500) → 0 ≤ sumTh l ∧ sumTh l ≤ 500 * l.length
  | [], _ => by simp [sumTh]
  | x :: r, h => by
    have hx := h x (List.mem_cons_self ..)
    have ih := sumTh_bd r fun y hy => h y (List.mem_cons_of_mem _ hy)
    simp only [sumTh, List.length_cons]
    omega
theorem Ok.th {base : Int} {l : List Slb} (h : Ok base l) (k : Nat) : 0 ≤ sumTh (l.take k) ∧ sumTh (l.take k) ≤ 6000 := by
  have := sumTh_bd (l.take k) fun x hx => by have := h.sl x (List.mem_of_mem_take hx); omega
  have hn := h.n1
  have hl : (l.take k).length ≤ 12 := by simp; omega
  omega
theorem reflGo_take {ff : Int} : ∀ (l : List Slb) (i : Nat) (h : Int) (k : Nat), k ≤ l.length → (∀ j (hj : j < l.length), j < k → l[j].sq < ff) → reflGo ff i h l = reflGo ff (i + k) (h + sumTh (l.take k)) (l.drop k)
  | l, i, h, 0, _, _ => by simp [sumTh]
  | [], i, h, k + 1, hk, _ => by simp at hk
  | x :: r, i, h, k + 1, hk, ha => by
    have h0 := ha 0 (by simp) (by omega)
    simp at h0
    rw [reflGo, if_neg (by omega), reflGo_take r (i + 1) (h + x.th) k (by simpa using hk) (fun j hj hjk => by have := ha (j + 1) (by simp; omega) (by omega); simpa using this)]
    simp only [List.take_succ_cons, List.drop_succ_cons, sumTh]
    rw [show i + 1 + k = i + (k + 1) by omega, Int.add_assoc]

def rreflV (r : Int × Int) : Value := if r.2 < 0 then .tuple #[.int .i64 0, .int .i64 0, .bool false] else .tuple #[.int .i64 r.1, .int .i64 r.2, .bool true]
set_option maxHeartbeats 1000000 in
theorem RReflected_any (base : Int) (A : Option Addr) (l : List Slb) (cap : Nat) (f : Int) (w : World) (ho : Ok base l) (hA : SlabsAt w A l) (f0 : 0 ≤ f) (f1 : f ≤ 3000) :
    Calls Try.prog 21 #[.agg #[.int .i64 base, .slice A l.length cap], .int .i64 f] w fun e w' => e = .returned (rreflV (refl base l f)) ∧ Below w.heap.size w w' := by
  have hff := sq_bd f f0 f1
  obtain ⟨ff0, ff1⟩ := hff
  have hn := ho.n1
  have hb0 := ho.b0
  have hb1 := ho.b1
  have HO := Lib.hid ho
  clear ho
  have hv : rreflV (refl base l f) = if (refl base l f).2 < 0 then .tuple #[.int .i64 0, .int .i64 0, .bool false] else .tuple #[.int .i64 (refl base l f).1, .int .i64 (refl base l f).2, .bool true] := rfl
  have hr : refl base l f = (reflGo (f * f) 0 base l).getD (0, -1) := rfl
  have HV := Lib.hid hv
  have HR := Lib.hid hr
  clear hv hr
  go_enter Try.func21, Try.ntmps21
  go_wp2
  go_loop [7, 8] (fun a i => ∃ k : Nat, k ≤ l.length ∧ i = .int .i64 k ∧ a = .int .i64 (base + sumTh (l.take k)) ∧ (∀ j (hj : j < l.length), j < k → l[j].sq < f * f)) (fun _ i => l.length - (intOf i).toNat)
  case atStart => exact ⟨0, Nat.zero_le _, rfl, by simp [sumTh], fun j _ h => by omega⟩
  case round =>
    obtain ⟨k, hk, rfl, rfl, hp⟩ := hrel
    have HP := Lib.hid hp
    clear hp
    have ht := HO.out.th k
    obtain ⟨t0, t1⟩ := ht
    by_cases hlt : k < l.length
    · have ht2 := HO.out.th (k + 1)
      have e1 : sumTh (l.take (k + 1)) = sumTh (l.take k) + l[k].th := by rw [take_snoc l k hlt, sumTh_append]; simp [sumTh]
      rw [e1] at ht2
      obtain ⟨t2, t3⟩ := ht2
      have E1 := Lib.hid e1
      clear e1
      have hg := reflGo_take l 0 base k hk HP.out
      rw [List.drop_eq_getElem_cons hlt, reflGo] at hg
      have HG := Lib.hid hg
      clear hg
      obtain ⟨b, off, rfl, hb, h1, h2⟩ := SlabsAt.at_ hA hlt
      have hs := HO.out.sl l[k] (List.getElem_mem hlt)
      obtain ⟨s1, s2, s3, s4⟩ := hs
      by_cases hc : f * f ≤ l[k].sq
      · rw [if_pos hc] at HG
        generalize l[k] = x at *
        go_wp2
        go_ret3
        exact ⟨ret_eq (by rw [HV.out, HR.out, HG.out]; simp), (by repeat (first | assumption | exact Below.refl _ _ | refine Below.drew ?_ | (refine below_alloc _ ?_ ?_; focus (first | omega | (simp; done) | (simp; omega) | (simp at *; omega))) | (refine below_set _ ?_ ?_; focus (first | omega | (simp; done) | (simp; omega) | (simp at *; omega))) | refine below_drewN ?_ _ | (refine below_call (by assumption) ?_ ?_; focus (first | omega | (simp; done) | (simp; omega) | (simp at *; omega))) | (refine below_call' (by assumption) ?_ ?_; focus (first | omega | (simp; done) | (simp; omega) | (simp at *; omega)))))⟩
      · have hp' : ∀ j (hj : j < l.length), j < k + 1 → l[j].sq < f * f := fun j hj hjk => by
          by_cases e : j = k
          · subst e; omega
          · exact HP.out j hj (by omega)
        have HP' := Lib.hid hp'
        clear hp' HG
        have hc' : l[k].sq < f * f := by omega
        generalize l[k] = x at *
        go_wp2
        go_round
        case rel => exact ⟨k + 1, by omega, by go_num, by rw [E1.out, Int.add_assoc], HP'.out⟩
        case measure => simp [intOf]; omega
    · have hg := reflGo_none (ff := f * f) l 0 base (fun x hx => by
        obtain ⟨j, hj, rfl⟩ := List.getElem_of_mem hx
        exact HP.out j hj (by omega))
      have HG := Lib.hid hg
      clear hg
      go_wp2
      go_ret3
      exact ⟨ret_eq (by rw [HV.out, HR.out, HG.out]; rfl), (by repeat (first | assumption | exact Below.refl _ _ | refine Below.drew ?_ | (refine below_alloc _ ?_ ?_; focus (first | omega | (simp; done) | (simp; omega) | (simp at *; omega))) | (refine below_set _ ?_ ?_; focus (first | omega | (simp; done) | (simp; omega) | (simp at *; omega))) | refine below_drewN ?_ _ | (refine below_call (by assumption) ?_ ?_; focus (first | omega | (simp; done) | (simp; omega) | (simp at *; omega))) | (refine below_call' (by assumption) ?_ ?_; focus (first | omega | (simp; done) | (simp; omega) | (simp at *; omega)))))⟩

set_option maxHeartbeats 1000000 in
theorem RVirtual_any (base : Int) (A : Option Addr) (l : List Slb) (cap : Nat) (f : Int) (w : World) (h0 : reflAtE base l f = 0) (hA : SlabsAt w A l) :
    Calls Try.prog 22 #[.agg #[.int .i64 base, .slice A l.length cap], .int .i64 f] w fun e w' => e = .returned (.agg #[.int .i64 (vatLo base l f), .int .i64 (vatHi base l f)]) ∧ Below w.heap.size w w' := by
  have vl : vatLo base l f = virtLo base l f (reflAt2 base l f).toNat := by unfold vatLo; rw [if_pos h0]
  have vh : vatHi base l f = virtHi base l f (reflAt2 base l f).toNat := by unfold vatHi; rw [if_pos h0]
  obtain ⟨k, e1, k1, hP, f0', e5⟩ := reflAt_passed h0
  have h2 : refl base l f = ((refl base l f).1, (k : Int)) := by
    have : reflAt2 base l f = (refl base l f).2 := by unfold reflAt2; rw [if_pos h0]
    rw [← e1, this]
  rw [e1, Int.toNat_natCast] at vl vh
  have vl2 : virtLo base l f k = (1000 * base + sumLo f (l.take k)) / 1000 := rfl
  have vh2 : virtHi base l f k = ceilI (1000 * base + sumHi f (l.take k)) 1000 := rfl
  have VL := Lib.hid (vl.trans vl2)
  have VH := Lib.hid (vh.trans vh2)
  obtain ⟨ho, f0, f1, _, hpass⟩ := hP
  have hb0 := ho.b0
  have hb1 := ho.b1
  have hn := ho.n1
  have HP := Lib.hid (Passed.mk ho f0 f1 (by omega) hpass : Passed base l f k)
  have HO := Lib.hid ho
  have H2 := Lib.hid h2
  clear hpass ho vl vh vl2 vh2 e1 e5 h0 h2
  go_enter Try.func22, Try.ntmps22
  go_wp2_with (fail)
  refine (RReflected_any base A l cap f _ HO.out (hA.below (by repeat (first | assumption | exact Below.refl _ _ | refine Below.drew ?_ | (refine below_alloc _ ?_ ?_; focus (first | omega | (simp; done) | (simp; omega) | (simp at *; omega))) | (refine below_set _ ?_ ?_; focus (first | omega | (simp; done) | (simp; omega) | (simp at *; omega))) | refine below_drewN ?_ _ | (refine below_call (by assumption) ?_ ?_; focus (first | omega | (simp; done) | (simp; omega) | (simp at *; omega))) | (refine below_call' (by assumption) ?_ ?_; focus (first | omega | (simp; done) | (simp; omega) | (simp at *; omega)))))) f0 f1).mono ?_
  rintro e w1 ⟨rfl, hb1⟩
  have hv : rreflV (refl base l f) = .tuple #[.int .i64 (refl base l f).1, .int .i64 (k : Int), .bool true] := by rw [H2.out]; simp [rreflV]
  rw [hv]
  clear hv
  have hbw1 : Below w.heap.size w w1 := (by repeat (first | assumption | exact Below.refl _ _ | refine Below.drew ?_ | (refine below_alloc _ ?_ ?_; focus (first | omega | (simp; done) | (simp; omega) | (simp at *; omega))) | (refine below_set _ ?_ ?_; focus (first | omega | (simp; done) | (simp; omega) | (simp at *; omega))) | refine below_drewN ?_ _ | (refine below_call (by assumption) ?_ ?_; focus (first | omega | (simp; done) | (simp; omega) | (simp at *; omega))) | (refine below_call' (by assumption) ?_ ?_; focus (first | omega | (simp; done) | (simp; omega) | (simp at *; omega)))))
  have hz1 : w.heap.size + 1 < w1.heap.size := by have := hb1.size; simp at this; omega
  have c0 : w1.cell? ⟨w.heap.size + 1, 0, none⟩ = some (.int .i64 0) := cell_below' hb1 (by repeat (first | assumption | (refine cell_new ?_ rfl; focus (simp; done)) | refine cell_drew ?_ | refine cell_alloc _ ?_ | refine cell_drewN _ ?_ | (refine cell_far ?_ ?_; focus (first | omega | (simp; omega) | (simp; done))) | refine cell_below' (by assumption) ?_))
  have c1 : w1.cell? ⟨w.heap.size + 1, 1, none⟩ = some (.int .i64 0) := cell_below' hb1 (by repeat (first | assumption | (refine cell_new ?_ rfl; focus (simp; done)) | refine cell_drew ?_ | refine cell_alloc _ ?_ | refine cell_drewN _ ?_ | (refine cell_far ?_ ?_; focus (first | omega | (simp; omega) | (simp; done))) | refine cell_below' (by assumption) ?_))
  have g0 : w1.frozen? ⟨w.heap.size + 1, 0, none⟩ = false := frozen_below hb1 (by simp) (by repeat (first | assumption | (refine frozen_new ?_; focus (simp; done)) | refine frozen_drew ?_ | (refine frozen_alloc _ ?_ ?_; focus (first | (simp; done) | (simp; omega))) | refine frozen_drewN _ ?_ | refine frozen_set _ _ ?_ | (refine frozen_below (by assumption) ?_ ?_; focus (first | (simp; done) | (simp; omega)))))
  have g1 : w1.frozen? ⟨w.heap.size + 1, 1, none⟩ = false := frozen_below hb1 (by simp) (by repeat (first | assumption | (refine frozen_new ?_; focus (simp; done)) | refine frozen_drew ?_ | (refine frozen_alloc _ ?_ ?_; focus (first | (simp; done) | (simp; omega))) | refine frozen_drewN _ ?_ | refine frozen_set _ _ ?_ | (refine frozen_below (by assumption) ?_ ?_; focus (first | (simp; done) | (simp; omega)))))
  have d0 : w1.cell? ⟨w.heap.size, 0, none⟩ = some (.int .i64 base) := cell_below' hb1 (by repeat (first | assumption | (refine cell_new ?_ rfl; focus (simp; done)) | refine cell_drew ?_ | refine cell_alloc _ ?_ | refine cell_drewN _ ?_ | (refine cell_far ?_ ?_; focus (first | omega | (simp; omega) | (simp; done))) | refine cell_below' (by assumption) ?_))
  have d1 : w1.cell? ⟨w.heap.size, 1, none⟩ = some (.slice A l.length cap) := cell_below' hb1 (by repeat (first | assumption | (refine cell_new ?_ rfl; focus (simp; done)) | refine cell_drew ?_ | refine cell_alloc _ ?_ | refine cell_drewN _ ?_ | (refine cell_far ?_ ?_; focus (first | omega | (simp; omega) | (simp; done))) | refine cell_below' (by assumption) ?_))
  generalize (refl base l f).1 = hgt at *
  go_wp2
  go_quiet (fail)
  go_wp2
  go_loopw [8, 9, 10] (fun a b i wr => ∃ j : Nat, j ≤ k ∧ i = .int .i64 j ∧ a = .int .i64 (1000 * base + sumLo f (l.take j)) ∧ b = .int .i64 (1000 * base + sumHi f (l.take j)) ∧ Below w1.heap.size w1 wr) (fun _ _ i _ => k - (intOf i).toNat)
  case atStart => exact ⟨0, Nat.zero_le _, rfl, by simp [sumLo], by simp [sumHi], below_drewN (Below.refl _ _) _⟩
  case round =>
    obtain ⟨j, hj, rfl, rfl, rfl, hbw⟩ := hrel
    have hAr := (hA.below hbw1).below hbw
    have c0' := cell_below' hbw c0
    have c1' := cell_below' hbw c1
    have g0' := frozen_below hbw (World.block_lt_of_cell? _ _ c0) g0
    have g1' := frozen_below hbw (World.block_lt_of_cell? _ _ c1) g1
    have d0' := cell_below' hbw d0
    have d1' := cell_below' hbw d1
    have hzr : w.heap.size + 1 < wr.heap.size := by have := hbw.size; omega
    by_cases hlt : j < k
    · obtain ⟨bb, off, rfl, hb, c2, c3⟩ := SlabsAt.at_ hAr (by omega : j < l.length)
      have hs := HO.out.sl l[j] (List.getElem_mem (by omega))
      have hp := HP.out.pass j (by omega) hlt
      have b1 := HP.out.bd j (by omega)
      have b2 := HP.out.bd (j + 1) (by omega)
      have e1 : sumLo f (l.take (j + 1)) = sumLo f (l.take j) + l[j].th * idxLo l[j].sq f := by rw [take_snoc l j (by omega), sumLo_append]; simp [sumLo]
      have e2 : sumHi f (l.take (j + 1)) = sumHi f (l.take j) + l[j].th * idxHi l[j].sq f := by rw [take_snoc l j (by omega), sumHi_append]; simp [sumHi]
      rw [e1, e2] at b2
      have E1 := Lib.hid e1
      have E2 := Lib.hid e2
      clear e1 e2
      generalize l[j] = x at *
      obtain ⟨s1, s2, s3, s4⟩ := hs
      have l1 := idxLo_bd x.sq f s1 hp f0 f1
      have l2 := idxHi_bd x.sq f s1 hp f0 f1
      have m1 := mul_bd x.th (idxLo x.sq f) 500 3000000 s3 s4 (by omega) l1.2
      have m2 := mul_bd x.th (idxHi x.sq f) 500 3000000 s3 s4 (by omega) l2.2.2
      obtain ⟨m11, m12⟩ := m1
      obtain ⟨m21, m22⟩ := m2
      obtain ⟨b11, b12, b13⟩ := b1
      obtain ⟨b21, b22, b23⟩ := b2
      clear c0' c1' g0' g1' c0 c1 g0 g1 d0 d1
      go_wp2_with (fail)
      refine (Index_any x.sq f _ s1 hp f0 f1).mono ?_
      rintro e w2 ⟨rfl, hb2⟩
      have hz2 : w.heap.size + 1 < w2.heap.size := by have := hb2.size; omega
      have hz2a : w.heap.size < w2.heap.size := by omega
      have hz3 : bb < w2.heap.size := by have := hb2.size; omega
      have f1' := cell_below' hb2 d1'
      have f3' := cell_below' hb2 c3
      go_wp2
      go_quiet (fail)
      go_wp2
      go_roundw
      case rel => exact ⟨j + 1, by omega, by go_num, by rw [E1.out, Int.add_assoc], by rw [E2.out, Int.add_assoc], (by repeat (first | assumption | exact Below.refl _ _ | refine Below.drew ?_ | (refine below_alloc _ ?_ ?_; focus (first | omega | (simp; done) | (simp; omega) | (simp at *; omega))) | (refine below_set _ ?_ ?_; focus (first | omega | (simp; done) | (simp; omega) | (simp at *; omega))) | refine below_drewN ?_ _ | (refine below_call (by assumption) ?_ ?_; focus (first | omega | (simp; done) | (simp; omega) | (simp at *; omega))) | (refine below_call' (by assumption) ?_ ?_; focus (first | omega | (simp; done) | (simp; omega) | (simp at *; omega)))))⟩
      case measure => simp [intOf]; omega
    · obtain rfl : j = k := by omega
      have b1 := HP.out.bd j (by omega)
      obtain ⟨b11, b12, b13⟩ := b1
      generalize sumLo f (List.take j l) = slo at *
      generalize sumHi f (List.take j l) = shi at *
      clear c0 c1 g0 g1 d0 d1
      go_wp2_with (first | (go_at_call 72; refine (Floor_any _ _ _ (by omega) (by omega) (by omega) (by omega)).mono ?_; rintro e w' ⟨rfl, rfl⟩) | (go_at_call 73; refine (Ceil_any _ _ _ (by omega) (by omega) (by omega) (by omega)).mono ?_; rintro e w' ⟨rfl, rfl⟩))
      refine bodyPost_ret (v := .agg #[.int .i64 ((1000 * base + slo) / 1000), .int .i64 (ceilI (1000 * base + shi) 1000)]) (by simp [results, Try.results22, go_sem, c0', c1']) rfl ⟨ret_eq (by rw [VL.out, VH.out]), (by repeat (first | assumption | exact Below.refl _ _ | refine Below.drew ?_ | (refine below_alloc _ ?_ ?_; focus (first | omega | (simp; done) | (simp; omega) | (simp at *; omega))) | (refine below_set _ ?_ ?_; focus (first | omega | (simp; done) | (simp; omega) | (simp at *; omega))) | refine below_drewN ?_ _ | (refine below_call (by assumption) ?_ ?_; focus (first | omega | (simp; done) | (simp; omega) | (simp at *; omega))) | (refine below_call' (by assumption) ?_ ?_; focus (first | omega | (simp; done) | (simp; omega) | (simp at *; omega)))))⟩
end Go.Proofs.Ytoegpaolbkcleaa
