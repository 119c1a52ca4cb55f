/-
  Thicker is higher: the plain law. No program in sight.
-/
import Derived.Test.YtoegpaolbkcleaaVirtR
namespace Go.Proofs.Ytoegpaolbkcleaa
open Go.ChangeShapes Go.WideShapes Go.ChangeAt Go.RowKit
set_option linter.unusedVariables false
set_option linter.unusedSimpArgs false

theorem isRoot_mono {n m r s : Int} (h1 : IsRoot n r) (h2 : IsRoot m s) (h : n ≤ m) : r ≤ s := by
  obtain ⟨a1, b1, c1⟩ := h1
  obtain ⟨a2, b2, c2⟩ := h2
  apply Int.not_lt.1
  intro hlt
  have : (s + 1) * (s + 1) ≤ r * r := Int.mul_le_mul (by omega) (by omega) (by omega) (by omega)
  omega
theorem idxLo_mono {sq sq' f : Int} (h0 : 0 ≤ sq) (h : sq ≤ sq') (h1 : sq' < f * f) (f0 : 0 ≤ f) (f1 : f ≤ 3000) : idxLo sq f ≤ idxLo sq' f := by
  have q1 := idx_q sq f h0 (by omega) f0 f1
  have q2 := idx_q sq' f (by omega) h1 f0 f1
  unfold idxLo
  refine isRoot_mono (rt_is _ (by omega) (by omega)) (rt_is _ (by omega) (by omega)) ?_
  refine (Int.le_ediv_iff_mul_le (by omega)).2 ?_
  have e1 := Int.ediv_mul_le (1000000 * f * f) (show f * f - sq ≠ 0 by omega)
  have e2 : 1000000 * f * f / (f * f - sq) * (f * f - sq') ≤ 1000000 * f * f / (f * f - sq) * (f * f - sq) := Int.mul_le_mul_of_nonneg_left (by omega) (by omega)
  omega
theorem idxHi_mono {sq sq' f : Int} (h0 : 0 ≤ sq) (h : sq ≤ sq') (h1 : sq' < f * f) (f0 : 0 ≤ f) (f1 : f ≤ 3000) : idxHi sq f ≤ idxHi sq' f := by
  have hm := idxLo_mono h0 h h1 f0 f1
  have b1 := idxHi_bd sq f h0 (by omega) f0 f1
  have b2 := idxHi_bd sq' f (by omega) h1 f0 f1
  rcases Int.lt_or_eq_of_le hm with hlt | heq
  · omega
  · have e1 := idxHi_eq sq f h0 (by omega) f0 f1
    have e2 := idxHi_eq sq' f (by omega) h1 f0 f1
    by_cases hc : idxLo sq f * idxLo sq f * (f * f - sq) < 1000000 * f * f
    · have l1 := idxLo_bd sq f h0 (by omega) f0 f1
      have hm2 : idxLo sq f * idxLo sq f * (f * f - sq') ≤ idxLo sq f * idxLo sq f * (f * f - sq) := Int.mul_le_mul_of_nonneg_left (by omega) (Int.mul_nonneg (by omega) (by omega))
      rw [if_pos hc] at e1
      rw [← heq, if_pos (by omega)] at e2
      omega
    · rw [if_neg hc] at e1
      omega
/-- of two lists of slabs that a frequency passes the second is the slower one -/
def Slow (f : Int) (l r : List Slb) : Prop := l.length = r.length ∧ ∀ i (h : i < l.length) (k : i < r.length), 0 ≤ l[i].sq ∧ l[i].sq ≤ r[i].sq ∧ r[i].sq < f * f ∧ 0 ≤ l[i].th ∧ l[i].th ≤ r[i].th
theorem Slow.tail {f : Int} {x y : Slb} {l r : List Slb} (h : Slow f (x :: l) (y :: r)) : Slow f l r :=
  ⟨by have := h.1; simpa using this, fun i hi hk => by have := h.2 (i + 1) (by simpa using hi) (by simpa using hk); simpa using this⟩
theorem sum_slow {f : Int} (f0 : 0 ≤ f) (f1 : f ≤ 3000) : ∀ (l r : List Slb), Slow f l r → sumLo f l ≤ sumLo f r ∧ sumHi f l ≤ sumHi f r
  | [], [], _ => by simp [sumLo, sumHi]
  | [], y :: r, h => by have := h.1; simp at this
  | x :: l, [], h => by have := h.1; simp at this
  | x :: l, y :: r, h => by
    have ih := sum_slow f0 f1 l r h.tail
    have h0 := h.2 0 (by simp) (by simp)
    simp only [List.getElem_cons_zero] at h0
    obtain ⟨a, b, c, d, e⟩ := h0
    have l1 := idxLo_mono a b c f0 f1
    have l2 := idxHi_mono a b c f0 f1
    have b1 := idxLo_bd x.sq f a (by omega) f0 f1
    have b2 := idxHi_bd x.sq f a (by omega) f0 f1
    have m1 : x.th * idxLo x.sq f ≤ y.th * idxLo y.sq f := Int.mul_le_mul e l1 (by omega) (by omega)
    have m2 : x.th * idxHi x.sq f ≤ y.th * idxHi y.sq f := Int.mul_le_mul e l2 (by omega) (by omega)
    simp only [sumLo, sumHi]
    omega
theorem sumLo_th {f : Int} (f0 : 0 ≤ f) (f1 : f ≤ 3000) : ∀ (l : List Slb), (∀ x ∈ l, 0 ≤ x.sq ∧ x.sq < f * f ∧ 0 ≤ x.th) → 1000 * sumTh l ≤ sumLo f l
  | [], _ => by simp [sumTh, sumLo]
  | x :: l, h => by
    have hx := h x (List.mem_cons_self ..)
    have ih := sumLo_th f0 f1 l fun y hy => h y (List.mem_cons_of_mem _ hy)
    have b1 := idxLo_bd x.sq f hx.1 hx.2.1 f0 f1
    have m1 : x.th * 1000 ≤ x.th * idxLo x.sq f := Int.mul_le_mul_of_nonneg_left (by omega) hx.2.2
    simp only [sumTh, sumLo]
    omega
theorem reflGo_of {ff : Int} : ∀ (l : List Slb) (i : Nat) (h : Int) (k : Nat) (hk : k < l.length), (∀ j (hj : j < l.length), j < k → l[j].sq < ff) → ff ≤ l[k].sq → reflGo ff i h l = some (h + sumTh (l.take k), ((i + k : Nat) : Int))
  | [], _, _, _, hk, _, _ => by simp at hk
  | x :: r, i, h, 0, hk, ha, hf => by
    simp only [List.getElem_cons_zero] at hf
    unfold reflGo
    rw [if_pos hf]
    simp [sumTh]
  | x :: r, i, h, k + 1, hk, ha, hf => by
    have h0 := ha 0 (by simp) (by omega)
    simp only [List.getElem_cons_zero] at h0
    simp only [List.getElem_cons_succ] at hf
    unfold reflGo
    rw [if_neg (by omega), reflGo_of r (i + 1) (h + x.th) k (by simpa using hk) (fun j hj hjk => by have := ha (j + 1) (by simpa using hj) (by omega); simpa using this) hf]
    simp only [List.take_succ_cons, sumTh]
    congr 2
    · omega
    · omega
theorem refl_of {base : Int} {l : List Slb} {f : Int} {k : Nat} (hk : k < l.length) (ha : ∀ j (hj : j < l.length), j < k → l[j].sq < f * f) (hf : f * f ≤ l[k].sq) : refl base l f = (base + sumTh (l.take k), (k : Int)) := by
  unfold refl
  rw [reflGo_of l 0 base k hk ha hf]
  simp
theorem sumTh_take_mono : ∀ (l : List Slb) (j k : Nat), (∀ x ∈ l, 0 ≤ x.th) → j ≤ k → sumTh (l.take j) ≤ sumTh (l.take k)
  | [], j, k, _, _ => by simp
  | x :: l, 0, k, h, _ => by
    have hn : ∀ (m : List Slb), (∀ x ∈ m, 0 ≤ x.th) → 0 ≤ sumTh m := fun m => by
      induction m with
      | nil => simp [sumTh]
      | cons y m ih => intro h; have := h y (List.mem_cons_self ..); have := ih fun z hz => h z (List.mem_cons_of_mem _ hz); simp only [sumTh]; omega
    have := hn ((x :: l).take k) fun y hy => h y (List.mem_of_mem_take hy)
    simpa [sumTh] using this
  | x :: l, j + 1, 0, h, hjk => by omega
  | x :: l, j + 1, k + 1, h, hjk => by
    have := sumTh_take_mono l j k (fun y hy => h y (List.mem_cons_of_mem _ hy)) (by omega)
    simp only [List.take_succ_cons, sumTh]
    omega
/-- what a frequency that is reflected tells -/
theorem reflAt_said {base : Int} {l : List Slb} {f : Int} (h : reflAtE base l f = 0) : ∃ k : Nat, reflAt2 base l f = k ∧ k < l.length ∧ Passed base l f k ∧ 1 ≤ f ∧ (∀ hk : k < l.length, f * f ≤ l[k].sq) ∧ reflAt1 base l f = base + sumTh (l.take k) := by
  obtain ⟨k, h2, hk, hp, f0, hs⟩ := reflAt_passed h
  refine ⟨k, h2, hk, hp, f0, hs, ?_⟩
  unfold reflAt1
  rw [if_pos h, refl_of hk hp.pass (hs hk)]
theorem reflAt_of {base : Int} {l : List Slb} {f : Int} {k : Nat} (hc : chkE base l = 0) (f0 : 1 ≤ f) (f1 : f ≤ 3000) (hk : k < l.length) (ha : ∀ j (hj : j < l.length), j < k → l[j].sq < f * f) (hf : f * f ≤ l[k].sq) : reflAtE base l f = 0 ∧ reflAt2 base l f = k ∧ reflAt1 base l f = base + sumTh (l.take k) := by
  have hr := refl_of (base := base) hk ha hf
  have h0 : reflAtE0 base l f = 0 := by
    unfold reflAtE0
    rw [firstE2, unl_zero (by decide), withinB_true]
    exact ⟨hc, f0, f1⟩
  have he : reflAtE base l f = 0 := by
    unfold reflAtE
    rw [if_neg (by simp [h0]), hr, if_neg (by simp)]
  refine ⟨he, ?_, ?_⟩
  · unfold reflAt2; rw [if_pos he, hr]
  · unfold reflAt1; rw [if_pos he, hr]
theorem thk_one {base : Int} {l : List Slb} {f : Int} (h : reflAtE base l f = 0) : 0 ≤ reflAt1 base l f ∧ reflAt1 base l f ≤ 6500 ∧ reflAt1 base l f ≤ vatLo base l f ∧ vatLo base l f ≤ vatHi base l f := by
  obtain ⟨k, h2, hk, hp, f0, hs, h1⟩ := reflAt_said h
  have hth := hp.ok.th k
  have b0 := hp.ok.b0
  have b1 := hp.ok.b1
  have hb := hp.bd k (Nat.le_refl _)
  have hsum := sumLo_th (f := f) hp.f0 hp.f1 (l.take k) fun x hx => by
    obtain ⟨j, hj, e⟩ := List.getElem_of_mem hx
    simp only [List.length_take] at hj
    rw [List.getElem_take] at e
    have h3 := hp.pass j (by omega) (by omega)
    have h4 := hp.ok.sl l[j] (List.getElem_mem (by omega))
    rw [e] at h3 h4
    exact ⟨h4.1, h3, h4.2.2.1⟩
  unfold vatLo vatHi
  rw [if_pos h, if_pos h, h2, h1, Int.toNat_natCast]
  unfold virtLo virtHi ceilI
  omega
def minI (a b : Int) : Int := if b < a then b else a
def moreQ (base : Int) (l : List Slb) (f : Int) (s : Nat) (dq q : Int) : Int := if (s : Int) < reflAt2 base l f then minI (q + dq) (f * f - 1) else q
theorem thk_two {base : Int} {l : List Slb} {f : Int} (h : reflAtE base l f = 0) {s : Nat} (hs : s < l.length) {dt dq db : Int} (t0 : 0 ≤ dt) (q0 : 0 ≤ dq) (b0 : 0 ≤ db) (hc : chkE (base + db) (l.set s ⟨moreQ base l f s dq l[s].sq, l[s].th + dt⟩) = 0) :
    reflAtE (base + db) (l.set s ⟨moreQ base l f s dq l[s].sq, l[s].th + dt⟩) f = 0 ∧ vatLo base l f ≤ vatLo (base + db) (l.set s ⟨moreQ base l f s dq l[s].sq, l[s].th + dt⟩) f ∧ vatHi base l f ≤ vatHi (base + db) (l.set s ⟨moreQ base l f s dq l[s].sq, l[s].th + dt⟩) f := by
  obtain ⟨k, h2, hk, hp, f0, hst, h1⟩ := reflAt_said h
  have hq : moreQ base l f s dq l[s].sq = if s < k then minI (l[s].sq + dq) (f * f - 1) else l[s].sq := by
    unfold moreQ
    rw [h2]
    by_cases hsk : s < k
    · rw [if_pos (by omega), if_pos hsk]
    · rw [if_neg (by omega), if_neg hsk]
  generalize moreQ base l f s dq l[s].sq = q at *
  have hq1 : s < k → l[s].sq ≤ q ∧ q < f * f := fun hsk => by
    have := hp.pass s hs hsk
    rw [if_pos hsk] at hq
    unfold minI at hq
    split at hq <;> omega
  have hq2 : ¬ s < k → q = l[s].sq := fun hsk => by rw [if_neg hsk] at hq; exact hq
  generalize hl' : l.set s ⟨q, l[s].th + dt⟩ = l' at *
  have hlen : l'.length = l.length := by rw [← hl']; simp
  have hget : ∀ j (hj : j < l'.length), l'[j] = if s = j then ⟨q, l[s].th + dt⟩ else l[j]'(by omega) := fun j hj => by
    subst hl'
    rw [List.getElem_set]
  have hpass : ∀ j (hj : j < l'.length), j < k → l'[j].sq < f * f := fun j hj hjk => by
    rw [hget j hj]
    by_cases hsj : s = j
    · rw [if_pos hsj]; exact (hq1 (by omega)).2
    · rw [if_neg hsj]; exact hp.pass j (by omega) hjk
  have hstop : f * f ≤ (l'[k]'(by omega)).sq := by
    rw [hget k (by omega)]
    by_cases hsk : s = k
    · rw [if_pos hsk]
      subst hsk
      show f * f ≤ q
      rw [hq2 (by omega)]
      exact hst hk
    · rw [if_neg hsk]; exact hst hk
  obtain ⟨e1, e2, e3⟩ := reflAt_of hc f0 hp.f1 (k := k) (by omega) hpass hstop
  have hslow : Slow f (l.take k) (l'.take k) := ⟨by simp [hlen], fun i hi hi' => by
    simp only [List.length_take] at hi hi'
    rw [List.getElem_take, List.getElem_take, hget i (by omega)]
    have h4 := hp.ok.sl l[i] (List.getElem_mem (by omega))
    have h3 := hp.pass i (by omega) (by omega)
    by_cases hsi : s = i
    · subst hsi
      rw [if_pos rfl]
      have h5 := hq1 (by omega)
      exact ⟨h4.1, h5.1, h5.2, h4.2.2.1, by show l[s].th ≤ l[s].th + dt; omega⟩
    · rw [if_neg hsi]
      exact ⟨h4.1, Int.le_refl _, h3, h4.2.2.1, Int.le_refl _⟩⟩
  have hsum := sum_slow hp.f0 hp.f1 _ _ hslow
  refine ⟨e1, ?_, ?_⟩
  · unfold vatLo
    rw [if_pos h, if_pos e1, h2, e2, Int.toNat_natCast]
    unfold virtLo
    omega
  · unfold vatHi
    rw [if_pos h, if_pos e1, h2, e2, Int.toNat_natCast]
    unfold virtHi ceilI
    omega
theorem thk_three {base : Int} {l : List Slb} {f : Int} (h : reflAtE base l f = 0) (hf : f < 3000) : reflAtE base l (f + 1) = 21 ∨ (reflAtE base l (f + 1) = 0 ∧ reflAt1 base l f ≤ reflAt1 base l (f + 1)) := by
  obtain ⟨k, h2, hk, hp, f0, hst, h1⟩ := reflAt_said h
  have h0 : reflAtE0 base l f = 0 := by
    apply Classical.byContradiction
    intro hn
    unfold reflAtE at h
    rw [if_pos hn] at h
    exact hn h
  have h0' : reflAtE0 base l (f + 1) = 0 := by
    unfold reflAtE0 at h0 ⊢
    rw [firstE2, unl_zero (by decide), withinB_true] at h0 ⊢
    exact ⟨h0.1, by omega, by omega⟩
  by_cases hi : (refl base l (f + 1)).2 < 0
  · left
    unfold reflAtE
    rw [if_neg (by simp [h0']), if_pos hi]
  · right
    have he : reflAtE base l (f + 1) = 0 := by
      unfold reflAtE
      rw [if_neg (by simp [h0']), if_neg hi]
    refine ⟨he, ?_⟩
    obtain ⟨k', g2, gk, gp, g0, gst, g1⟩ := reflAt_said he
    rw [h1, g1]
    have hkk : k ≤ k' := by
      apply Nat.le_of_not_lt
      intro hlt
      have a1 := hp.pass k' gk hlt
      have a2 := gst gk
      have a3 : f * f ≤ (f + 1) * (f + 1) := Int.mul_le_mul (by omega) (by omega) (by omega) (by omega)
      omega
    have := sumTh_take_mono l k k' (fun x hx => (hp.ok.sl x hx).2.2.1) hkk
    omega
end Go.Proofs.Ytoegpaolbkcleaa
