/-
  Virtual heights: the program's and the reference's walks come to the same numbers.
-/
import Derived.Test.YtoegpaolbkcleaaBord
namespace Go.Proofs.Ytoegpaolbkcleaa
open Go.ChangeShapes Go.WideShapes Go.ChangeAt Go.RowKit
set_option linter.unusedVariables false
set_option linter.unusedSimpArgs false

def sumLo (f : Int) : List Slb → Int
  | [] => 0
  | x :: r => x.th * idxLo x.sq f + sumLo f r
def sumHi (f : Int) : List Slb → Int
  | [] => 0
  | x :: r => x.th * idxHi x.sq f + sumHi f r
theorem sumLo_append (f : Int) (l r : List Slb) : sumLo f (l ++ r) = sumLo f l + sumLo f r := by
  induction l with
  | nil => simp [sumLo]
  | cons x l ih => simp [sumLo, ih, Int.add_assoc]
theorem sumHi_append (f : Int) (l r : List Slb) : sumHi f (l ++ r) = sumHi f l + sumHi f r := by
  induction l with
  | nil => simp [sumHi]
  | cons x l ih => simp [sumHi, ih, Int.add_assoc]
def virtLo (base : Int) (l : List Slb) (f : Int) (k : Nat) : Int := (1000 * base + sumLo f (l.take k)) / 1000
def virtHi (base : Int) (l : List Slb) (f : Int) (k : Nat) : Int := ceilI (1000 * base + sumHi f (l.take k)) 1000
theorem mul_bd (a b A B : Int) (h0 : 0 ≤ a) (h1 : a ≤ A) (h2 : 0 ≤ b) (h3 : b ≤ B) : 0 ≤ a * b ∧ a * b ≤ A * B :=
  ⟨Int.mul_nonneg h0 h2, Int.mul_le_mul h1 h3 h2 (by omega)⟩
theorem sum_bd (f : Int) (f0 : 0 ≤ f) (f1 : f ≤ 3000) : ∀ l : List Slb, (∀ x ∈ l, 0 ≤ x.sq ∧ x.sq < f * f ∧ 0 ≤ x.th ∧ x.th ≤ 500) → 0 ≤ sumLo f l ∧ sumLo f l ≤ sumHi f l ∧ sumHi f l ≤ 1500000000 * l.length
  | [], _ => by simp [sumLo, sumHi]
  | x :: r, h => by
    have hx := h x (List.mem_cons_self ..)
    have ih := sum_bd f f0 f1 r fun y hy => h y (List.mem_cons_of_mem _ hy)
    have b := idxLo_bd x.sq f hx.1 hx.2.1 f0 f1
    have c := idxHi_bd x.sq f hx.1 hx.2.1 f0 f1
    have m1 := mul_bd x.th (idxLo x.sq f) 500 3000000 hx.2.2.1 hx.2.2.2 (by omega) b.2
    have m2 := mul_bd x.th (idxHi x.sq f) 500 3000000 hx.2.2.1 hx.2.2.2 (by omega) c.2.2
    have m3 : x.th * idxLo x.sq f ≤ x.th * idxHi x.sq f := Int.mul_le_mul_of_nonneg_left c.1 hx.2.2.1
    simp only [sumLo, sumHi, List.length_cons]
    omega
theorem take_snoc {α : Type} (l : List α) (k : Nat) (h : k < l.length) : l.take (k + 1) = l.take k ++ [l[k]] := by
  rw [List.take_succ_eq_append_getElem h]

structure Passed (base : Int) (l : List Slb) (f : Int) (k : Nat) : Prop where
  ok : Ok base l
  f0 : 0 ≤ f
  f1 : f ≤ 3000
  k1 : k ≤ l.length
  pass : ∀ j (hj : j < l.length), j < k → l[j].sq < f * f
theorem Passed.bd {base : Int} {l : List Slb} {f : Int} {k : Nat} (h : Passed base l f k) (j : Nat) (hj : j ≤ k) :
    0 ≤ sumLo f (l.take j) ∧ sumLo f (l.take j) ≤ sumHi f (l.take j) ∧ sumHi f (l.take j) ≤ 18000000000 := by
  have := sum_bd f h.f0 h.f1 (l.take j) fun x hx => by
    obtain ⟨i, hi, rfl⟩ := List.getElem_of_mem hx
    simp at hi
    have hs := h.ok.sl l[i] (List.getElem_mem (by omega))
    have hp := h.pass i (by omega) (by omega)
    simp only [List.getElem_take]
    omega
  have hn := h.ok.n1
  have hl : (l.take j).length ≤ 12 := by simp; omega
  omega

set_option maxHeartbeats 1000000 in
theorem virtual_any (base : Int) (A : Option Addr) (l : List Slb) (cap : Nat) (f : Int) (k : Nat) (w : World) (hP : Passed base l f k) (hcap : l.length ≤ cap) (hA : SlabsAt w A l) :
    Calls Try.prog 71 #[.agg #[.int .i64 base, .slice A l.length cap], .int .i64 f, .int .i64 k] w fun e w' => e = .returned (.agg #[.int .i64 (virtLo base l f k), .int .i64 (virtHi base l f k)]) ∧ Below w.heap.size w w' := by
  obtain ⟨ho, f0, f1, k1, hpass⟩ := hP
  have hbase := And.intro ho.b0 ho.b1
  obtain ⟨hb0, hb1⟩ := hbase
  have hn := ho.n1
  have HP := Lib.hid (Passed.mk ho f0 f1 k1 hpass)
  have HO := Lib.hid ho
  clear hpass ho
  have vl : virtLo base l f k = (1000 * base + sumLo f (l.take k)) / 1000 := rfl
  have vh : virtHi base l f k = ceilI (1000 * base + sumHi f (l.take k)) 1000 := rfl
  have VL := Lib.hid vl
  have VH := Lib.hid vh
  clear vl vh
  have k2 : (k : Int) ≤ (cap : Int) := by omega
  go_enter Try.func71, Try.ntmps71
  go_wp2
  go_quiet (fail)
  go_wp2
  go_loopw [7, 8, 26] (fun a b i wr => ∃ j : Nat, j ≤ k ∧ i = .int .i64 j ∧ a = .int .i64 (1000 * base + sumLo f (l.take j)) ∧ b = .int .i64 (1000 * base + sumHi f (l.take j)) ∧ Below (w.heap.size + 2) (((w.alloc (.cells #[.int .i64 base, .slice A l.length cap] 113)).alloc (.cells #[.int .i64 0, .int .i64 0] 32)).drewN nq) wr) (fun _ _ i _ => k - (intOf i).toNat)
  case atStart => exact ⟨0, Nat.zero_le _, rfl, by simp [sumLo], by simp [sumHi], Below.refl _ _⟩
  case round =>
    obtain ⟨j, hj, rfl, rfl, rfl, hbw⟩ := hrel
    have hbw0 : Below w.heap.size w wr := (by repeat (first | assumption | exact Below.refl _ _ | refine Below.drew ?_ | (refine below_alloc _ ?_ ?_; focus (first | omega | (simp; done) | (simp; omega) | (simp at *; omega))) | (refine below_set _ ?_ ?_; focus (first | omega | (simp; done) | (simp; omega) | (simp at *; omega))) | refine below_drewN ?_ _ | (refine below_call (by assumption) ?_ ?_; focus (first | omega | (simp; done) | (simp; omega) | (simp at *; omega))) | (refine below_call' (by assumption) ?_ ?_; focus (first | omega | (simp; done) | (simp; omega) | (simp at *; omega)))))
    have hAr := hA.below hbw0
    have hzr := hbw.size
    have c0 : wr.cell? ⟨w.heap.size + 1, 0, none⟩ = some (.int .i64 0) := cell_below hbw (by repeat (first | assumption | (refine cell_new ?_ rfl; focus (simp; done)) | refine cell_drew ?_ | refine cell_alloc _ ?_ | refine cell_drewN _ ?_ | (refine cell_far ?_ ?_; focus (first | omega | (simp; omega) | (simp; done))) | refine cell_below' (by assumption) ?_)) (by simp)
    have c1 : wr.cell? ⟨w.heap.size + 1, 1, none⟩ = some (.int .i64 0) := cell_below hbw (by repeat (first | assumption | (refine cell_new ?_ rfl; focus (simp; done)) | refine cell_drew ?_ | refine cell_alloc _ ?_ | refine cell_drewN _ ?_ | (refine cell_far ?_ ?_; focus (first | omega | (simp; omega) | (simp; done))) | refine cell_below' (by assumption) ?_)) (by simp)
    have g0 : wr.frozen? ⟨w.heap.size + 1, 0, none⟩ = false := frozen_below hbw (by simp) (by repeat (first | assumption | (refine frozen_new ?_; focus (simp; done)) | refine frozen_drew ?_ | (refine frozen_alloc _ ?_ ?_; focus (first | (simp; done) | (simp; omega))) | refine frozen_drewN _ ?_ | refine frozen_set _ _ ?_ | (refine frozen_below (by assumption) ?_ ?_; focus (first | (simp; done) | (simp; omega)))))
    have g1 : wr.frozen? ⟨w.heap.size + 1, 1, none⟩ = false := frozen_below hbw (by simp) (by repeat (first | assumption | (refine frozen_new ?_; focus (simp; done)) | refine frozen_drew ?_ | (refine frozen_alloc _ ?_ ?_; focus (first | (simp; done) | (simp; omega))) | refine frozen_drewN _ ?_ | refine frozen_set _ _ ?_ | (refine frozen_below (by assumption) ?_ ?_; focus (first | (simp; done) | (simp; omega)))))
    simp at hzr
    by_cases hlt : j < k
    · obtain ⟨bb, off, rfl, hb, c2, c3⟩ := SlabsAt.at_ hAr (by omega : j < l.length)
      have hs := HO.out.sl l[j] (List.getElem_mem (by omega))
      have hp := HP.out.pass j (by omega) hlt
      have b1 := HP.out.bd j (by omega)
      have b2 := HP.out.bd (j + 1) (by omega)
      have e1 : sumLo f (l.take (j + 1)) = sumLo f (l.take j) + l[j].th * idxLo l[j].sq f := by rw [take_snoc l j (by omega), sumLo_append]; simp [sumLo]
      have e2 : sumHi f (l.take (j + 1)) = sumHi f (l.take j) + l[j].th * idxHi l[j].sq f := by rw [take_snoc l j (by omega), sumHi_append]; simp [sumHi]
      rw [e1, e2] at b2
      have E1 := Lib.hid e1
      have E2 := Lib.hid e2
      clear e1 e2
      generalize l[j] = x at *
      obtain ⟨s1, s2, s3, s4⟩ := hs
      have l1 := idxLo_bd x.sq f s1 hp f0 f1
      have l2 := idxHi_bd x.sq f s1 hp f0 f1
      have m1 := mul_bd x.th (idxLo x.sq f) 500 3000000 s3 s4 (by omega) l1.2
      have m2 := mul_bd x.th (idxHi x.sq f) 500 3000000 s3 s4 (by omega) l2.2.2
      obtain ⟨m11, m12⟩ := m1
      obtain ⟨m21, m22⟩ := m2
      obtain ⟨b11, b12, b13⟩ := b1
      obtain ⟨b21, b22, b23⟩ := b2
      clear c0 c1 g0 g1
      go_wp2_with (fail)
      refine (index_any x.sq f _ s1 hp f0 f1).mono ?_
      rintro e w1 ⟨rfl, hb2⟩
      have hz2 : wr.heap.size < w1.heap.size := by have := hb2.size; simp at this; omega
      have d0 : w1.cell? ⟨wr.heap.size, 0, none⟩ = some (.int .i64 x.sq) := cell_below' hb2 (by repeat (first | assumption | (refine cell_new ?_ rfl; focus (simp; done)) | refine cell_drew ?_ | refine cell_alloc _ ?_ | refine cell_drewN _ ?_ | (refine cell_far ?_ ?_; focus (first | omega | (simp; omega) | (simp; done))) | refine cell_below' (by assumption) ?_))
      have d1 : w1.cell? ⟨wr.heap.size, 1, none⟩ = some (.int .i64 x.th) := cell_below' hb2 (by repeat (first | assumption | (refine cell_new ?_ rfl; focus (simp; done)) | refine cell_drew ?_ | refine cell_alloc _ ?_ | refine cell_drewN _ ?_ | (refine cell_far ?_ ?_; focus (first | omega | (simp; omega) | (simp; done))) | refine cell_below' (by assumption) ?_))
      have hbb : Below (w.heap.size + 2) _ w1 := hbw.trans (Below.mono (below_call hb2 (Nat.le_refl _) ((Below.refl _ _).alloc (Nat.le_refl _) _)) (by omega))
      go_wp2
      go_quiet (fail)
      go_wp2
      go_roundw
      case rel => exact ⟨j + 1, by omega, by go_num, by rw [E1.out, Int.add_assoc], by rw [E2.out, Int.add_assoc], (by repeat (first | assumption | exact Below.refl _ _ | refine Below.drew ?_ | (refine below_alloc _ ?_ ?_; focus (first | omega | (simp; done) | (simp; omega) | (simp at *; omega))) | (refine below_set _ ?_ ?_; focus (first | omega | (simp; done) | (simp; omega) | (simp at *; omega))) | refine below_drewN ?_ _ | (refine below_call (by assumption) ?_ ?_; focus (first | omega | (simp; done) | (simp; omega) | (simp at *; omega))) | (refine below_call' (by assumption) ?_ ?_; focus (first | omega | (simp; done) | (simp; omega) | (simp at *; omega)))))⟩
      case measure => simp [intOf]; omega
    · obtain rfl : j = k := by omega
      have b1 := HP.out.bd j (by omega)
      obtain ⟨b11, b12, b13⟩ := b1
      generalize sumLo f (List.take j l) = slo at *
      generalize sumHi f (List.take j l) = shi at *
      go_wp2_with (first | (go_at_call 97; refine (floor_any _ _ _ (by omega) (by omega) (by omega) (by omega)).mono ?_; rintro e w' ⟨rfl, rfl⟩) | (go_at_call 98; refine (ceil_any _ _ _ (by omega) (by omega) (by omega) (by omega)).mono ?_; rintro e w' ⟨rfl, rfl⟩))
      refine bodyPost_ret (v := .agg #[.int .i64 ((1000 * base + slo) / 1000), .int .i64 (ceilI (1000 * base + shi) 1000)]) (by simp [results, Try.results71, go_sem, c0, c1]) rfl ⟨ret_eq (by rw [VL.out, VH.out]), (by repeat (first | assumption | exact Below.refl _ _ | refine Below.drew ?_ | (refine below_alloc _ ?_ ?_; focus (first | omega | (simp; done) | (simp; omega) | (simp at *; omega))) | (refine below_set _ ?_ ?_; focus (first | omega | (simp; done) | (simp; omega) | (simp at *; omega))) | refine below_drewN ?_ _ | (refine below_call (by assumption) ?_ ?_; focus (first | omega | (simp; done) | (simp; omega) | (simp at *; omega))) | (refine below_call' (by assumption) ?_ ?_; focus (first | omega | (simp; done) | (simp; omega) | (simp at *; omega)))))⟩

/-- the error, the height and the slab of a frequency in a profile -/
def reflAtE0 (base : Int) (l : List Slb) (f : Int) : Int := firstE [chkE base l, unl (withinB f 1 3000) 2]
def reflAtE (base : Int) (l : List Slb) (f : Int) : Int := if reflAtE0 base l f ≠ 0 then reflAtE0 base l f else if (refl base l f).2 < 0 then 21 else 0
def reflAt1 (base : Int) (l : List Slb) (f : Int) : Int := if reflAtE base l f = 0 then (refl base l f).1 else 0
def reflAt2 (base : Int) (l : List Slb) (f : Int) : Int := if reflAtE base l f = 0 then (refl base l f).2 else 0
theorem firstE2 {a b : Int} : firstE [a, b] = 0 ↔ a = 0 ∧ b = 0 := by
  unfold firstE
  by_cases h : a = 0
  · rw [if_pos h]; unfold firstE; by_cases k : b = 0
    · rw [if_pos k]; simp [h, k, firstE]
    · rw [if_neg k]; simp [h, k]
  · rw [if_neg h]; simp [h]
theorem unl_zero {b : Bool} {e : Int} (he : e ≠ 0) : unl b e = 0 ↔ b = true := by
  cases b <;> simp [unl, he]
theorem reflAtE0_ok {base : Int} {l : List Slb} {f : Int} (h : reflAtE0 base l f = 0) : Ok base l ∧ 1 ≤ f ∧ f ≤ 3000 := by
  unfold reflAtE0 at h
  rw [firstE2, unl_zero (by decide), withinB_true] at h
  exact ⟨ok_of_chk h.1, h.2⟩
theorem reflGo_bd {ff : Int} : ∀ (l : List Slb) (i : Nat) (h hh ii : Int), reflGo ff i h l = some (hh, ii) → ∃ k : Nat, k < l.length ∧ ii = ((i + k : Nat) : Int) ∧ (∀ j (hj : j < l.length), j < k → l[j].sq < ff) ∧ (∀ hk : k < l.length, ff ≤ l[k].sq)
  | [], _, _, _, _, e => by simp [reflGo] at e
  | x :: r, i, h, hh, ii, e => by
    unfold reflGo at e
    by_cases hc : ff ≤ x.sq
    · rw [if_pos hc] at e
      simp only [Option.some.injEq, Prod.mk.injEq] at e
      exact ⟨0, by simp, by omega, fun j _ hj => by omega, fun _ => by simpa using hc⟩
    · rw [if_neg hc] at e
      obtain ⟨k, hk, he, ha, hb⟩ := reflGo_bd r (i + 1) _ hh ii e
      refine ⟨k + 1, by simp; omega, by omega, fun j hj hjk => ?_, fun hk' => by simpa using hb hk⟩
      cases j with
      | zero => simp; omega
      | succ j => simpa using ha j (by simpa using hj) (by omega)
theorem refl_passed {base : Int} {l : List Slb} {f : Int} (ho : Ok base l) (f0 : 0 ≤ f) (f1 : f ≤ 3000) (h : 0 ≤ (refl base l f).2) : ∃ k : Nat, (refl base l f).2 = k ∧ k < l.length ∧ Passed base l f k ∧ (∀ hk : k < l.length, f * f ≤ l[k].sq) := by
  unfold refl at h ⊢
  cases e : reflGo (f * f) 0 base l with
  | none => rw [e] at h; simp at h
  | some p =>
    obtain ⟨hh, ii⟩ := p
    obtain ⟨k, hk, he, ha, hb⟩ := reflGo_bd l 0 base hh ii e
    exact ⟨k, by simpa using he, hk, ⟨ho, f0, f1, by omega, ha⟩, hb⟩

set_option maxHeartbeats 1000000 in
theorem ReflectedAt_any (base : Int) (A : Option Addr) (l : List Slb) (cap : Nat) (f : Int) (w : World) (hl : l.length ≤ 100) (hA : SlabsAt w A l) :
    Calls Try.prog 16 #[.agg #[.int .i64 base, .slice A l.length cap], .int .i64 f] w fun e w' => e = .returned (.tuple #[.int .i64 (reflAt1 base l f), .int .i64 (reflAt2 base l f), .int .i64 (reflAtE base l f)]) ∧ Below w.heap.size w w' := by
  have h1 : reflAt1 base l f = if reflAtE base l f = 0 then (refl base l f).1 else 0 := rfl
  have h2 : reflAt2 base l f = if reflAtE base l f = 0 then (refl base l f).2 else 0 := rfl
  have h3 : reflAtE base l f = if reflAtE0 base l f ≠ 0 then reflAtE0 base l f else if (refl base l f).2 < 0 then 21 else 0 := rfl
  have h4 : reflAtE0 base l f = firstE [chkE base l, unl (withinB f 1 3000) 2] := rfl
  have H1 := Lib.hid h1
  have H2 := Lib.hid h2
  have H3 := Lib.hid h3
  have H4 := Lib.hid h4
  clear h1 h2 h3 h4
  go_enter Try.func16, Try.ntmps16
  go_wp2_with (fail)
  refine (open_any base A l cap _ hl (hA.below (by repeat (first | assumption | exact Below.refl _ _ | refine Below.drew ?_ | (refine below_alloc _ ?_ ?_; focus (first | omega | (simp; done) | (simp; omega) | (simp at *; omega))) | (refine below_set _ ?_ ?_; focus (first | omega | (simp; done) | (simp; omega) | (simp at *; omega))) | refine below_drewN ?_ _ | (refine below_call (by assumption) ?_ ?_; focus (first | omega | (simp; done) | (simp; omega) | (simp at *; omega))) | (refine below_call' (by assumption) ?_ ?_; focus (first | omega | (simp; done) | (simp; omega) | (simp at *; omega))))))).mono ?_
  rintro e w1 ⟨rfl, hb1⟩
  have hbw1 : Below w.heap.size w w1 := (by repeat (first | assumption | exact Below.refl _ _ | refine Below.drew ?_ | (refine below_alloc _ ?_ ?_; focus (first | omega | (simp; done) | (simp; omega) | (simp at *; omega))) | (refine below_set _ ?_ ?_; focus (first | omega | (simp; done) | (simp; omega) | (simp at *; omega))) | refine below_drewN ?_ _ | (refine below_call (by assumption) ?_ ?_; focus (first | omega | (simp; done) | (simp; omega) | (simp at *; omega))) | (refine below_call' (by assumption) ?_ ?_; focus (first | omega | (simp; done) | (simp; omega) | (simp at *; omega)))))
  have hz1 : w.heap.size < w1.heap.size := by have := hb1.size; simp at this; omega
  go_wp2_with (first | (go_at_call 69; refine (frequencyErr_any _ _).mono ?_; rintro e w' ⟨rfl, rfl⟩))
  refine (first2 (chkE base l) (unl (withinB f 1 3000) 2) _ _ (by simp) (by repeat (first | assumption | (refine cell_new ?_ rfl; focus (simp; done)) | refine cell_drew ?_ | refine cell_alloc _ ?_ | refine cell_drewN _ ?_ | (refine cell_far ?_ ?_; focus (first | omega | (simp; omega) | (simp; done))) | refine cell_below' (by assumption) ?_)) (by repeat (first | assumption | (refine cell_new ?_ rfl; focus (simp; done)) | refine cell_drew ?_ | refine cell_alloc _ ?_ | refine cell_drewN _ ?_ | (refine cell_far ?_ ?_; focus (first | omega | (simp; omega) | (simp; done))) | refine cell_below' (by assumption) ?_))).mono ?_
  rintro e w2 ⟨rfl, rfl⟩
  rw [← H4.out]
  by_cases h0 : reflAtE0 base l f = 0
  · obtain ⟨ho, f0, f1⟩ := reflAtE0_ok h0
    rw [if_neg (by simp [h0])] at H3
    rw [h0]
    have hrr := @refl_passed base l f ho (by omega) f1
    have HR := Lib.hid hrr
    have HO := Lib.hid ho
    clear hrr ho h0 H4
    go_wp2_with (fail)
    refine (reflected_any base A l cap f _ HO.out ((hA.below hbw1).below (by repeat (first | assumption | exact Below.refl _ _ | refine Below.drew ?_ | (refine below_alloc _ ?_ ?_; focus (first | omega | (simp; done) | (simp; omega) | (simp at *; omega))) | (refine below_set _ ?_ ?_; focus (first | omega | (simp; done) | (simp; omega) | (simp at *; omega))) | refine below_drewN ?_ _ | (refine below_call (by assumption) ?_ ?_; focus (first | omega | (simp; done) | (simp; omega) | (simp at *; omega))) | (refine below_call' (by assumption) ?_ ?_; focus (first | omega | (simp; done) | (simp; omega) | (simp at *; omega)))))) (by omega) f1).mono ?_
    rintro e w3 ⟨rfl, hb3⟩
    by_cases hi : (refl base l f).2 < 0
    · rw [if_pos hi] at H3
      have HE := Lib.hid H3.out
      rw [HE.out, if_neg (by decide)] at H1 H2
      clear HR H3
      go_wp2
      go_ret3
      exact ⟨ret_eq (by rw [H1.out, H2.out, HE.out]; rfl), (by repeat (first | assumption | exact Below.refl _ _ | refine Below.drew ?_ | (refine below_alloc _ ?_ ?_; focus (first | omega | (simp; done) | (simp; omega) | (simp at *; omega))) | (refine below_set _ ?_ ?_; focus (first | omega | (simp; done) | (simp; omega) | (simp at *; omega))) | refine below_drewN ?_ _ | (refine below_call (by assumption) ?_ ?_; focus (first | omega | (simp; done) | (simp; omega) | (simp at *; omega))) | (refine below_call' (by assumption) ?_ ?_; focus (first | omega | (simp; done) | (simp; omega) | (simp at *; omega)))))⟩
    · rw [if_neg hi] at H3
      have HE := Lib.hid H3.out
      rw [HE.out, if_pos rfl] at H1 H2
      clear HR H3
      go_wp2
      go_ret3
      exact ⟨ret_eq (by rw [H1.out, H2.out, HE.out]; rfl), (by repeat (first | assumption | exact Below.refl _ _ | refine Below.drew ?_ | (refine below_alloc _ ?_ ?_; focus (first | omega | (simp; done) | (simp; omega) | (simp at *; omega))) | (refine below_set _ ?_ ?_; focus (first | omega | (simp; done) | (simp; omega) | (simp at *; omega))) | refine below_drewN ?_ _ | (refine below_call (by assumption) ?_ ?_; focus (first | omega | (simp; done) | (simp; omega) | (simp at *; omega))) | (refine below_call' (by assumption) ?_ ?_; focus (first | omega | (simp; done) | (simp; omega) | (simp at *; omega)))))⟩
  · rw [if_pos h0] at H3
    have h0' : (reflAtE0 base l f == 0) = false := by simpa using h0
    have h0'' : (reflAtE0 base l f != 0) = true := by simpa using h0
    have HE := Lib.hid H3.out
    rw [HE.out, if_neg h0] at H1 H2
    clear h0 H4 H3
    go_wp2
    go_ret3
    exact ⟨ret_eq (by rw [H1.out, H2.out, HE.out]; rfl), (by repeat (first | assumption | exact Below.refl _ _ | refine Below.drew ?_ | (refine below_alloc _ ?_ ?_; focus (first | omega | (simp; done) | (simp; omega) | (simp at *; omega))) | (refine below_set _ ?_ ?_; focus (first | omega | (simp; done) | (simp; omega) | (simp at *; omega))) | refine below_drewN ?_ _ | (refine below_call (by assumption) ?_ ?_; focus (first | omega | (simp; done) | (simp; omega) | (simp at *; omega))) | (refine below_call' (by assumption) ?_ ?_; focus (first | omega | (simp; done) | (simp; omega) | (simp at *; omega)))))⟩

def vatLo (base : Int) (l : List Slb) (f : Int) : Int := if reflAtE base l f = 0 then virtLo base l f (reflAt2 base l f).toNat else 0
def vatHi (base : Int) (l : List Slb) (f : Int) : Int := if reflAtE base l f = 0 then virtHi base l f (reflAt2 base l f).toNat else 0
theorem reflAt_passed {base : Int} {l : List Slb} {f : Int} (h : reflAtE base l f = 0) : ∃ k : Nat, reflAt2 base l f = k ∧ k < l.length ∧ Passed base l f k ∧ 1 ≤ f ∧ (∀ hk : k < l.length, f * f ≤ l[k].sq) := by
  have h2 : reflAt2 base l f = (refl base l f).2 := by unfold reflAt2; rw [if_pos h]
  unfold reflAtE at h
  by_cases h0 : reflAtE0 base l f = 0
  · rw [if_neg (by simp [h0])] at h
    have hi : ¬ (refl base l f).2 < 0 := fun hi => by rw [if_pos hi] at h; omega
    obtain ⟨ho, f0, f1⟩ := reflAtE0_ok h0
    obtain ⟨k, e1, e2, e3, e4⟩ := refl_passed ho (by omega) f1 (by omega : 0 ≤ (refl base l f).2)
    exact ⟨k, by rw [h2, e1], e2, e3, f0, e4⟩
  · rw [if_pos h0] at h; exact absurd h h0
set_option maxHeartbeats 1000000 in
theorem VirtualAt_any (base : Int) (A : Option Addr) (l : List Slb) (cap : Nat) (f : Int) (w : World) (hl : l.length ≤ 100) (hcap : l.length ≤ cap) (hA : SlabsAt w A l) :
    Calls Try.prog 18 #[.agg #[.int .i64 base, .slice A l.length cap], .int .i64 f] w fun e w' => e = .returned (.tuple #[.agg #[.int .i64 (vatLo base l f), .int .i64 (vatHi base l f)], .int .i64 (reflAtE base l f)]) ∧ Below w.heap.size w w' := by
  have h1 : vatLo base l f = if reflAtE base l f = 0 then virtLo base l f (reflAt2 base l f).toNat else 0 := rfl
  have h2 : vatHi base l f = if reflAtE base l f = 0 then virtHi base l f (reflAt2 base l f).toNat else 0 := rfl
  have H1 := Lib.hid h1
  have H2 := Lib.hid h2
  clear h1 h2
  go_enter Try.func18, Try.ntmps18
  go_wp2_with (fail)
  refine (ReflectedAt_any base A l cap f _ hl (hA.below (by repeat (first | assumption | exact Below.refl _ _ | refine Below.drew ?_ | (refine below_alloc _ ?_ ?_; focus (first | omega | (simp; done) | (simp; omega) | (simp at *; omega))) | (refine below_set _ ?_ ?_; focus (first | omega | (simp; done) | (simp; omega) | (simp at *; omega))) | refine below_drewN ?_ _ | (refine below_call (by assumption) ?_ ?_; focus (first | omega | (simp; done) | (simp; omega) | (simp at *; omega))) | (refine below_call' (by assumption) ?_ ?_; focus (first | omega | (simp; done) | (simp; omega) | (simp at *; omega))))))).mono ?_
  rintro e w1 ⟨rfl, hb1⟩
  have hbw1 : Below w.heap.size w w1 := (by repeat (first | assumption | exact Below.refl _ _ | refine Below.drew ?_ | (refine below_alloc _ ?_ ?_; focus (first | omega | (simp; done) | (simp; omega) | (simp at *; omega))) | (refine below_set _ ?_ ?_; focus (first | omega | (simp; done) | (simp; omega) | (simp at *; omega))) | refine below_drewN ?_ _ | (refine below_call (by assumption) ?_ ?_; focus (first | omega | (simp; done) | (simp; omega) | (simp at *; omega))) | (refine below_call' (by assumption) ?_ ?_; focus (first | omega | (simp; done) | (simp; omega) | (simp at *; omega)))))
  have hA1 := hA.below hbw1
  have hz1 : w.heap.size + 1 < w1.heap.size := by have := hb1.size; simp at this; omega
  have c0 : w1.cell? ⟨w.heap.size + 1, 0, none⟩ = some (.int .i64 0) := cell_below' hb1 (by repeat (first | assumption | (refine cell_new ?_ rfl; focus (simp; done)) | refine cell_drew ?_ | refine cell_alloc _ ?_ | refine cell_drewN _ ?_ | (refine cell_far ?_ ?_; focus (first | omega | (simp; omega) | (simp; done))) | refine cell_below' (by assumption) ?_))
  have c1 : w1.cell? ⟨w.heap.size + 1, 1, none⟩ = some (.int .i64 0) := cell_below' hb1 (by repeat (first | assumption | (refine cell_new ?_ rfl; focus (simp; done)) | refine cell_drew ?_ | refine cell_alloc _ ?_ | refine cell_drewN _ ?_ | (refine cell_far ?_ ?_; focus (first | omega | (simp; omega) | (simp; done))) | refine cell_below' (by assumption) ?_))
  have g0 : w1.frozen? ⟨w.heap.size + 1, 0, none⟩ = false := frozen_below hb1 (by simp) (by repeat (first | assumption | (refine frozen_new ?_; focus (simp; done)) | refine frozen_drew ?_ | (refine frozen_alloc _ ?_ ?_; focus (first | (simp; done) | (simp; omega))) | refine frozen_drewN _ ?_ | refine frozen_set _ _ ?_ | (refine frozen_below (by assumption) ?_ ?_; focus (first | (simp; done) | (simp; omega)))))
  have g1 : w1.frozen? ⟨w.heap.size + 1, 1, none⟩ = false := frozen_below hb1 (by simp) (by repeat (first | assumption | (refine frozen_new ?_; focus (simp; done)) | refine frozen_drew ?_ | (refine frozen_alloc _ ?_ ?_; focus (first | (simp; done) | (simp; omega))) | refine frozen_drewN _ ?_ | refine frozen_set _ _ ?_ | (refine frozen_below (by assumption) ?_ ?_; focus (first | (simp; done) | (simp; omega)))))
  have d0 : w1.cell? ⟨w.heap.size, 0, none⟩ = some (.int .i64 base) := cell_below' hb1 (by repeat (first | assumption | (refine cell_new ?_ rfl; focus (simp; done)) | refine cell_drew ?_ | refine cell_alloc _ ?_ | refine cell_drewN _ ?_ | (refine cell_far ?_ ?_; focus (first | omega | (simp; omega) | (simp; done))) | refine cell_below' (by assumption) ?_))
  have d1 : w1.cell? ⟨w.heap.size, 1, none⟩ = some (.slice A l.length cap) := cell_below' hb1 (by repeat (first | assumption | (refine cell_new ?_ rfl; focus (simp; done)) | refine cell_drew ?_ | refine cell_alloc _ ?_ | refine cell_drewN _ ?_ | (refine cell_far ?_ ?_; focus (first | omega | (simp; omega) | (simp; done))) | refine cell_below' (by assumption) ?_))
  by_cases h0 : reflAtE base l f = 0
  · obtain ⟨k, e1, e2, e3, e4, e5⟩ := reflAt_passed h0
    rw [if_pos h0, e1, Int.toNat_natCast] at H1 H2
    rw [h0, e1]
    have HP := Lib.hid e3
    have H0 := Lib.hid h0
    clear e1 e3 e5 h0
    go_wp2_with (fail)
    refine (virtual_any base A l cap f k _ HP.out hcap hA1).mono ?_
    rintro e w2 ⟨rfl, hb2⟩
    have c0' := cell_below' hb2 c0
    have c1' := cell_below' hb2 c1
    have g0' := frozen_below hb2 (World.block_lt_of_cell? _ _ c0) g0
    have g1' := frozen_below hb2 (World.block_lt_of_cell? _ _ c1) g1
    have hz2 : w.heap.size + 1 < w2.heap.size := by have := hb2.size; omega
    clear c0 c1 g0 g1 d0 d1
    go_wp2
    refine bodyPost_ret (v := .tuple #[.agg #[.int .i64 (virtLo base l f k), .int .i64 (virtHi base l f k)], .int .i64 0]) (by simp [results, Try.results18, go_sem, c0', c1']) rfl ⟨ret_eq (by rw [H1.out, H2.out, H0.out]), (by repeat (first | assumption | exact Below.refl _ _ | refine Below.drew ?_ | (refine below_alloc _ ?_ ?_; focus (first | omega | (simp; done) | (simp; omega) | (simp at *; omega))) | (refine below_set _ ?_ ?_; focus (first | omega | (simp; done) | (simp; omega) | (simp at *; omega))) | refine below_drewN ?_ _ | (refine below_call (by assumption) ?_ ?_; focus (first | omega | (simp; done) | (simp; omega) | (simp at *; omega))) | (refine below_call' (by assumption) ?_ ?_; focus (first | omega | (simp; done) | (simp; omega) | (simp at *; omega)))))⟩
  · have h0' : (reflAtE base l f == 0) = false := by simpa using h0
    have h0'' : (reflAtE base l f != 0) = true := by simpa using h0
    rw [if_neg h0] at H1 H2
    clear h0
    go_wp2
    refine bodyPost_ret (v := .tuple #[.agg #[.int .i64 0, .int .i64 0], .int .i64 (reflAtE base l f)]) (by simp [results, Try.results18, go_sem, c0, c1]) rfl ⟨ret_eq (by rw [H1.out, H2.out]), (by repeat (first | assumption | exact Below.refl _ _ | refine Below.drew ?_ | (refine below_alloc _ ?_ ?_; focus (first | omega | (simp; done) | (simp; omega) | (simp at *; omega))) | (refine below_set _ ?_ ?_; focus (first | omega | (simp; done) | (simp; omega) | (simp at *; omega))) | refine below_drewN ?_ _ | (refine below_call (by assumption) ?_ ?_; focus (first | omega | (simp; done) | (simp; omega) | (simp at *; omega))) | (refine below_call' (by assumption) ?_ ?_; focus (first | omega | (simp; done) | (simp; omega) | (simp at *; omega)))))⟩
end Go.Proofs.Ytoegpaolbkcleaa
