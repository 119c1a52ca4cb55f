/-
  All thicknesses: the plain law of ProfileContained.
-/
import Derived.Test.YtoegpaolbkcleaaThk
import Derived.Test.YtoegpaolbkcleaaHts
namespace Go.Proofs.Ytoegpaolbkcleaa
open Go.ChangeShapes Go.WideShapes Go.ChangeAt Go.RowKit
set_option linter.unusedVariables false
set_option linter.unusedSimpArgs false

/-- the thicknesses of slabs lie in ranges -/
def InS : List Rng → List Slb → Prop
  | [], _ => True
  | r :: rs, s :: ss => r.lo ≤ s.th ∧ s.th ≤ r.hi ∧ InS rs ss
  | _ :: _, [] => False
theorem InS.snoc : ∀ (out : List Rng) (S : List Slb) {r : Rng} {s : Slb}, InS out S → S[out.length]? = some s → r.lo ≤ s.th → s.th ≤ r.hi → InS (out ++ [r]) S
  | [], [], _, _, _, hs, _, _ => by simp at hs
  | [], a :: S, r, s, _, hs, h1, h2 => by
    simp at hs
    subst hs
    exact ⟨h1, h2, trivial⟩
  | x :: xs, [], _, _, h, _, _, _ => h.elim
  | x :: xs, a :: S, r, s, h, hs, h1, h2 => ⟨h.1, h.2.1, InS.snoc xs S h.2.2 (by simpa using hs) h1 h2⟩
theorem InS.at_ : ∀ (out : List Rng) (S : List Slb), InS out S → ∀ i (hi : i < out.length), ∃ hs : i < S.length, out[i].lo ≤ S[i].th ∧ S[i].th ≤ out[i].hi
  | [], _, _, i, hi => by simp at hi
  | x :: xs, [], h, _, _ => h.elim
  | x :: xs, a :: S, h, 0, _ => ⟨by simp, h.1, h.2.1⟩
  | x :: xs, a :: S, h, i + 1, hi => by
    obtain ⟨h1, h2⟩ := InS.at_ xs S h.2.2 i (by simpa using hi)
    exact ⟨by simpa using h1, by simpa using h2⟩
/-- the slabs have the squares of the points -/
def SqS (l : List Pt) (S : List Slb) : Prop := l.length = S.length ∧ ∀ i (h : i < l.length) (k : i < S.length), l[i].f * l[i].f = S[i].sq
theorem SqS.tail {p : Pt} {s : Slb} {l : List Pt} {S : List Slb} (h : SqS (p :: l) (s :: S)) : p.f * p.f = s.sq ∧ SqS l S :=
  ⟨by have := h.2 0 (by simp) (by simp); simpa using this, by have := h.1; simpa using this, fun i hi hk => by have := h.2 (i + 1) (by simpa using hi) (by simpa using hk); simpa using this⟩
theorem lamA_in {f : Int} (f0 : 0 ≤ f) (f1 : f ≤ 3000) : ∀ (l : List Pt) (out : List Rng) (S : List Slb) (a : Int), SqS l S → InS out S → (∀ i (hi : i < l.length), i < out.length → 0 ≤ l[i].f * l[i].f ∧ l[i].f * l[i].f < f * f) → lamA f l out a ≤ a - sumHi f (S.take out.length)
  | [], [], _, a, _, _, _ => by simp [lamA, sumHi]
  | p :: ps, [], _, a, _, _, _ => by simp [lamA, sumHi]
  | [], r :: rs, [], a, _, h, _ => h.elim
  | [], r :: rs, s :: ss, a, h, _, _ => by have := h.1; simp at this
  | p :: ps, r :: rs, [], a, _, h, _ => h.elim
  | p :: ps, r :: rs, s :: ss, a, hq, hs, h => by
    have h0 := h 0 (by simp) (by simp)
    simp only [List.getElem_cons_zero] at h0
    have ht := hq.tail
    have h2 := idxHi_bd (p.f * p.f) f h0.1 h0.2 f0 f1
    have h1 := idxLo_bd (p.f * p.f) f h0.1 h0.2 f0 f1
    have hm : s.th * idxHi (p.f * p.f) f ≤ r.hi * idxHi (p.f * p.f) f := Int.mul_le_mul_of_nonneg_right hs.2.1 (by omega)
    have ih := lamA_in f0 f1 ps rs ss (a - r.hi * idxHi (p.f * p.f) f) ht.2 hs.2.2 (fun i hi ho => h (i + 1) (by simpa using hi) (by simpa using ho))
    simp only [lamA, List.length_cons, List.take_succ_cons, sumHi, ← ht.1]
    omega
theorem lamB_in {f : Int} (f0 : 0 ≤ f) (f1 : f ≤ 3000) : ∀ (l : List Pt) (out : List Rng) (S : List Slb) (a : Int), SqS l S → InS out S → (∀ i (hi : i < l.length), i < out.length → 0 ≤ l[i].f * l[i].f ∧ l[i].f * l[i].f < f * f) → a - sumLo f (S.take out.length) ≤ lamB f l out a
  | [], [], _, a, _, _, _ => by simp [lamB, sumLo]
  | p :: ps, [], _, a, _, _, _ => by simp [lamB, sumLo]
  | [], r :: rs, [], a, _, h, _ => h.elim
  | [], r :: rs, s :: ss, a, h, _, _ => by have := h.1; simp at this
  | p :: ps, r :: rs, [], a, _, h, _ => h.elim
  | p :: ps, r :: rs, s :: ss, a, hq, hs, h => by
    have h0 := h 0 (by simp) (by simp)
    simp only [List.getElem_cons_zero] at h0
    have ht := hq.tail
    have h1 := idxLo_bd (p.f * p.f) f h0.1 h0.2 f0 f1
    have hm : r.lo * idxLo (p.f * p.f) f ≤ s.th * idxLo (p.f * p.f) f := Int.mul_le_mul_of_nonneg_right hs.1 (by omega)
    have ih := lamB_in f0 f1 ps rs ss (a - r.lo * idxLo (p.f * p.f) f) ht.2 hs.2.2 (fun i hi ho => h (i + 1) (by simpa using hi) (by simpa using ho))
    simp only [lamB, List.length_cons, List.take_succ_cons, sumLo, ← ht.1]
    omega
/-- what the pixels must contain -/
structure Cont (l : List Pt) (after width base : Int) (S : List Slb) : Prop where
  ok : OkT l after width
  sq : SqS l S
  th : ∀ s ∈ S, 0 ≤ s.th ∧ s.th ≤ 500
  lo0 : ∀ h : 0 < l.length, l[0].lo ≤ base
  hi0 : ∀ h : 0 < l.length, base ≤ l[0].hi
  lo : ∀ k (h : k + 1 < l.length), 1000 * l[k + 1].lo ≤ 1000 * base + sumLo l[k + 1].f (S.take (k + 1)) + valI after width (k + 1) * idxHi (fAt l after.toNat * fAt l after.toNat) l[k + 1].f
  hi : ∀ k (h : k + 1 < l.length), 1000 * base + sumHi l[k + 1].f (S.take (k + 1)) ≤ 1000 * l[k + 1].hi
theorem lamGo_in {l : List Pt} {after width base : Int} {S : List Slb} (hC : Cont l after width base S) {p0 : Pt} (h0 : p0.lo ≤ base ∧ base ≤ p0.hi) : ∀ (r : List Pt) (k : Nat) (out : List Rng), r = l.drop (k + 1) → out.length = k → k + 1 ≤ l.length → InS out S → ∃ o, lamGo l after width p0 r k out = (o, 0, true) ∧ o.length + 1 = l.length ∧ InS o S
  | [], k, out, hr, hl, hk, hb => by
    have : l.length ≤ k + 1 := by
      have := congrArg List.length hr
      simp at this
      omega
    exact ⟨out, rfl, by omega, hb⟩
  | p :: r, k, out, hr, hl, hk, hb => by
    have hlt : k + 1 < l.length := by
      rcases Nat.lt_or_ge (k + 1) l.length with h | h
      · exact h
      · rw [List.drop_eq_nil_of_le h] at hr; cases hr
    rw [List.drop_eq_getElem_cons hlt] at hr
    injection hr with hp hr
    have hO := hC.ok
    have hpp := hO.pt l[k + 1] (List.getElem_mem hlt)
    have clo := hC.lo k hlt
    have chi := hC.hi k hlt
    rw [← hp] at hpp clo chi
    have hsq : ∀ i (hi : i < l.length), i < k + 1 → 0 ≤ l[i].f * l[i].f ∧ l[i].f * l[i].f < p.f * p.f := fun i hi hik => by
      have := hO.sq hi hlt hik
      rw [← hp] at this
      exact this
    have hA := lamA_in (f := p.f) (by omega) hpp.2.1 l out S (1000 * (p.lo - p0.hi)) hC.sq hb (fun i hi ho => hsq i hi (by omega))
    have hB := lamB_in (f := p.f) (by omega) hpp.2.1 l out S (1000 * (p.hi - p0.lo)) hC.sq hb (fun i hi ho => hsq i hi (by omega))
    have hk' : k < l.length := by omega
    have hkS : k < S.length := by have := hC.sq.1; omega
    have hs := hsq k hk' (by omega)
    have i1 := idxLo_bd _ p.f hs.1 hs.2 (by omega) hpp.2.1
    have i2 := idxHi_bd _ p.f hs.1 hs.2 (by omega) hpp.2.1
    have hth := hC.th S[k] (List.getElem_mem hkS)
    have hsk := hC.sq.2 k hk' hkS
    have hsum := (sum_bd p.f (by omega) hpp.2.1 (S.take k) fun x hx => by
      obtain ⟨i, hi, rfl⟩ := List.getElem_of_mem hx
      simp at hi
      have h1 := hC.th S[i] (List.getElem_mem (by omega))
      have h2 := hsq i (by omega) (by omega)
      rw [hC.sq.2 i (by omega) (by omega)] at h2
      simp only [List.getElem_take]
      exact ⟨h2.1, h2.2, h1.1, h1.2⟩).2.1
    have hv0 : 0 ≤ valI after width (k + 1) * idxHi (fAt l after.toNat * fAt l after.toNat) p.f := by
      unfold valI
      by_cases ha : after < ((k + 1 : Nat) : Int)
      · rw [if_pos ha]
        have h0 := hO.a0
        have han : after.toNat < l.length := by omega
        have hs2 := hsq after.toNat han (by omega)
        rw [fAt_eq han]
        have i3 := idxLo_bd _ p.f hs2.1 hs2.2 (by omega) hpp.2.1
        have i4 := idxHi_bd _ p.f hs2.1 hs2.2 (by omega) hpp.2.1
        exact Int.mul_nonneg hO.w0 (by omega)
      · rw [if_neg ha]; simp
    rw [take_snoc S k hkS, sumLo_append] at clo
    rw [take_snoc S k hkS, sumHi_append] at chi
    rw [hl] at hA hB
    simp only [sumLo, sumHi, ← hsk] at clo chi
    have hfk := fAt_eq hk'
    have m1 : S[k].th * idxLo (l[k].f * l[k].f) p.f ≤ S[k].th * idxHi (l[k].f * l[k].f) p.f := Int.mul_le_mul_of_nonneg_left i2.1 hth.1
    have m0 : 0 ≤ S[k].th * idxLo (l[k].f * l[k].f) p.f := Int.mul_nonneg hth.1 (by omega)
    unfold lamGo
    rw [if_neg (by omega)]
    refine lamGo_in hC h0 r (k + 1) _ hr (by simp [hl]) (by omega) (InS.snoc out S hb (s := S[k]) (by rw [hl]; exact List.getElem?_eq_getElem hkS) ?_ ?_)
    · show ownLo l after width p0 p k out ≤ S[k].th
      unfold ownLo posI
      rw [hfk]
      have : (lamA p.f l out (1000 * (p.lo - p0.hi)) - valI after width (k + 1) * idxHi (fAt l after.toNat * fAt l after.toNat) p.f) / idxHi (l[k].f * l[k].f) p.f ≤ S[k].th := Int.ediv_le_of_le_mul (by omega) (by omega)
      split <;> omega
    · show S[k].th ≤ ownHi l p0 p k out
      unfold ownHi ceilI
      rw [hfk]
      have : (-lamB p.f l out (1000 * (p.hi - p0.lo))) / idxLo (l[k].f * l[k].f) p.f ≤ -S[k].th := Int.ediv_le_of_le_mul (by omega) (by rw [Int.neg_mul]; omega)
      omega
/-- ALL THICKNESSES -/
theorem lam_in {l : List Pt} {after width base : Int} {S : List Slb} (hC : Cont l after width base S) : ∃ o, lam l after width = (o, 0, true) ∧ o.length + 1 = l.length ∧ InS o S := by
  have hn0 := hC.ok.n0
  have hg : l.getD 0 ⟨0, 0, 0⟩ = l[0] := by rw [List.getD_eq_getElem?_getD, List.getElem?_eq_getElem hn0]; rfl
  unfold lam
  rw [hg]
  exact lamGo_in hC ⟨hC.lo0 hn0, hC.hi0 hn0⟩ (l.drop 1) 0 [] rfl rfl (by omega) trivial

/-- ranges of heights hold the true ones -/
def HtIn (after width base : Int) (S : List Slb) (out : List Rng) : Prop := ∀ i (hi : i < out.length), out[i].lo ≤ base + sumTh (S.take i) ∧ base + sumTh (S.take i) + valI after width i ≤ out[i].hi
theorem htA_in {after width base : Int} {S : List Slb} : ∀ (sl : List Rng) (k : Nat) (lo hi : Int) (out : List Rng), out.length = k + 1 → InS sl (S.drop k) → lo ≤ base + sumTh (S.take k) → base + sumTh (S.take k) ≤ hi → HtIn after width base S out → HtIn after width base S (htA after width sl k lo hi out)
  | [], k, lo, hi, out, _, _, _, _, h => h
  | r :: rs, k, lo, hi, out, hl, hs, h1, h2, h => by
    obtain ⟨hk0, e1, e2⟩ := InS.at_ (r :: rs) (S.drop k) hs 0 (by simp)
    have hk : k < S.length := by simp at hk0; omega
    simp only [List.getElem_cons_zero, List.getElem_drop, Nat.add_zero] at e1 e2
    have hd : S.drop k = S[k] :: S.drop (k + 1) := List.drop_eq_getElem_cons hk
    have ht : sumTh (S.take (k + 1)) = sumTh (S.take k) + S[k].th := by rw [take_snoc S k hk, sumTh_append]; simp [sumTh]
    rw [hd] at hs
    unfold htA
    refine htA_in rs (k + 1) _ _ _ (by simp [hl]) hs.2.2 (by omega) (by omega) fun i hi => ?_
    by_cases hik : i < out.length
    · rw [List.getElem_append_left hik]; exact h i hik
    · have : i = k + 1 := by simp at hi; omega
      subst this
      rw [List.getElem_append_right (by omega)]
      simp only [hl, Nat.sub_self, List.getElem_cons_zero]
      omega
theorem hts_in {l : List Pt} {after width base : Int} {S : List Slb} (hC : Cont l after width base S) {o : List Rng} (ho : InS o S) : HtIn after width base S (hts l after width o) := by
  have hn0 := hC.ok.n0
  have hg : l.getD 0 ⟨0, 0, 0⟩ = l[0] := by rw [List.getD_eq_getElem?_getD, List.getElem?_eq_getElem hn0]; rfl
  have a := hC.lo0 hn0
  have b := hC.hi0 hn0
  have c := hC.ok.a0
  unfold hts
  rw [hg]
  refine htA_in o 0 _ _ _ rfl ho (by simpa [sumTh] using a) (by simpa [sumTh] using b) fun i hi => ?_
  have : i = 0 := by simp at hi; omega
  subst this
  have hv : valI after width 0 = 0 := by unfold valI; rw [if_neg (by omega)]
  simp only [List.getElem_cons_zero, List.take_zero, sumTh, hv]
  omega

/-- wider ranges -/
def Wdr : List Rng → List Rng → Prop
  | [], [] => True
  | r :: rs, q :: qs => q.lo ≤ r.lo ∧ r.hi ≤ q.hi ∧ Wdr rs qs
  | _, _ => False
theorem Wdr.snoc : ∀ (a b : List Rng) {r q : Rng}, Wdr a b → q.lo ≤ r.lo → r.hi ≤ q.hi → Wdr (a ++ [r]) (b ++ [q])
  | [], [], _, _, _, h1, h2 => ⟨h1, h2, trivial⟩
  | [], _ :: _, _, _, h, _, _ => h.elim
  | _ :: _, [], _, _, h, _, _ => h.elim
  | x :: xs, y :: ys, _, _, h, h1, h2 => ⟨h.1, h.2.1, Wdr.snoc xs ys h.2.2 h1 h2⟩
theorem Wdr.len : ∀ (a b : List Rng), Wdr a b → a.length = b.length
  | [], [], _ => rfl
  | [], _ :: _, h => h.elim
  | _ :: _, [], h => h.elim
  | x :: xs, y :: ys, h => by have := Wdr.len xs ys h.2.2; simp [this]
theorem Wdr.at_ : ∀ (a b : List Rng), Wdr a b → ∀ i (hi : i < a.length) (hj : i < b.length), b[i].lo ≤ a[i].lo ∧ a[i].hi ≤ b[i].hi
  | [], _, _, i, hi, _ => by simp at hi
  | _ :: _, [], h, _, _, _ => h.elim
  | x :: xs, y :: ys, h, 0, _, _ => ⟨h.1, h.2.1⟩
  | x :: xs, y :: ys, h, i + 1, hi, hj => by
    have := Wdr.at_ xs ys h.2.2 i (by simpa using hi) (by simpa using hj)
    simpa using this
theorem lamA_wd {f : Int} (f0 : 0 ≤ f) (f1 : f ≤ 3000) : ∀ (l l' : List Pt) (o o' : List Rng) (a a' : Int), l'.map Pt.f = l.map Pt.f → Wdr o o' → (∀ i (hi : i < l.length), i < o.length → 0 ≤ l[i].f * l[i].f ∧ l[i].f * l[i].f < f * f) → a' ≤ a → lamA f l' o' a' ≤ lamA f l o a
  | [], [], _, _, a, a', _, _, _, ha => by simpa [lamA] using ha
  | [], _ :: _, _, _, _, _, h, _, _, _ => by simp at h
  | _ :: _, [], _, _, _, _, h, _, _, _ => by simp at h
  | p :: ps, q :: qs, [], [], a, a', _, _, _, ha => by simpa [lamA] using ha
  | p :: ps, q :: qs, [], _ :: _, _, _, _, h, _, _ => h.elim
  | p :: ps, q :: qs, _ :: _, [], _, _, _, h, _, _ => h.elim
  | p :: ps, q :: qs, r :: rs, t :: ts, a, a', hm, hw, h, ha => by
    have h0 := h 0 (by simp) (by simp)
    simp only [List.getElem_cons_zero] at h0
    simp only [List.map_cons, List.cons.injEq] at hm
    have h1 := idxLo_bd (p.f * p.f) f h0.1 h0.2 f0 f1
    have h2 := idxHi_bd (p.f * p.f) f h0.1 h0.2 f0 f1
    have hm1 : r.hi * idxHi (p.f * p.f) f ≤ t.hi * idxHi (p.f * p.f) f := Int.mul_le_mul_of_nonneg_right hw.2.1 (by omega)
    simp only [lamA, hm.1]
    exact lamA_wd f0 f1 ps qs rs ts _ _ hm.2 hw.2.2 (fun i hi ho => h (i + 1) (by simpa using hi) (by simpa using ho)) (by omega)
theorem lamB_wd {f : Int} (f0 : 0 ≤ f) (f1 : f ≤ 3000) : ∀ (l l' : List Pt) (o o' : List Rng) (a a' : Int), l'.map Pt.f = l.map Pt.f → Wdr o o' → (∀ i (hi : i < l.length), i < o.length → 0 ≤ l[i].f * l[i].f ∧ l[i].f * l[i].f < f * f) → a ≤ a' → lamB f l o a ≤ lamB f l' o' a'
  | [], [], _, _, a, a', _, _, _, ha => by simpa [lamB] using ha
  | [], _ :: _, _, _, _, _, h, _, _, _ => by simp at h
  | _ :: _, [], _, _, _, _, h, _, _, _ => by simp at h
  | p :: ps, q :: qs, [], [], a, a', _, _, _, ha => by simpa [lamB] using ha
  | p :: ps, q :: qs, [], _ :: _, _, _, _, h, _, _ => h.elim
  | p :: ps, q :: qs, _ :: _, [], _, _, _, h, _, _ => h.elim
  | p :: ps, q :: qs, r :: rs, t :: ts, a, a', hm, hw, h, ha => by
    have h0 := h 0 (by simp) (by simp)
    simp only [List.getElem_cons_zero] at h0
    simp only [List.map_cons, List.cons.injEq] at hm
    have h1 := idxLo_bd (p.f * p.f) f h0.1 h0.2 f0 f1
    have hm1 : t.lo * idxLo (p.f * p.f) f ≤ r.lo * idxLo (p.f * p.f) f := Int.mul_le_mul_of_nonneg_right hw.1 (by omega)
    simp only [lamB, hm.1]
    exact lamB_wd f0 f1 ps qs rs ts _ _ hm.2 hw.2.2 (fun i hi ho => h (i + 1) (by simpa using hi) (by simpa using ho)) (by omega)
/-- a trace with wider pixels and a wider valley -/
structure Wide (l l' : List Pt) (after width width' : Int) : Prop where
  ok : OkT l after width
  fs : l'.map Pt.f = l.map Pt.f
  px : ∀ i (h : i < l.length) (k : i < l'.length), l'[i].lo ≤ l[i].lo ∧ l[i].hi ≤ l'[i].hi
  wd : width ≤ width'
theorem Wide.len {l l' : List Pt} {after width width' : Int} (h : Wide l l' after width width') : l'.length = l.length := by
  have := congrArg List.length h.fs
  simpa using this
theorem fAt_map (l : List Pt) (k : Nat) : fAt l k = (l.map Pt.f).getD k 0 := by
  unfold fAt
  rw [List.getD_eq_getElem?_getD, List.getD_eq_getElem?_getD, List.getElem?_map]
  cases l[k]? <;> rfl
theorem lamGo_wd {l l' : List Pt} {after width width' : Int} (hW : Wide l l' after width width') {p0 q0 : Pt} (h0 : q0.lo ≤ p0.lo ∧ p0.hi ≤ q0.hi) : ∀ (r r' : List Pt) (k : Nat) (out out' o : List Rng), r = l.drop (k + 1) → r' = l'.drop (k + 1) → out.length = k → k + 1 ≤ l.length → Wdr out out' → lamGo l after width p0 r k out = (o, 0, true) → ∃ o', lamGo l' after width' q0 r' k out' = (o', 0, true) ∧ Wdr o o'
  | [], r', k, out, out', o, hr, hr', hl, hk, hw, h => by
    have hle : l.length ≤ k + 1 := by
      have := congrArg List.length hr
      simp at this
      omega
    have : r' = [] := by rw [hr']; exact List.drop_eq_nil_of_le (by have := hW.len; omega)
    subst this
    simp only [lamGo, Prod.mk.injEq, and_true] at h
    subst h
    exact ⟨out', rfl, hw⟩
  | p :: r, r', k, out, out', o, hr, hr', hl, hk, hw, h => by
    have hlt : k + 1 < l.length := by
      rcases Nat.lt_or_ge (k + 1) l.length with h | h
      · exact h
      · rw [List.drop_eq_nil_of_le h] at hr; cases hr
    have hlt' : k + 1 < l'.length := by have := hW.len; omega
    rw [List.drop_eq_getElem_cons hlt] at hr
    rw [List.drop_eq_getElem_cons hlt'] at hr'
    subst hr'
    injection hr with hp hr
    have hO := hW.ok
    have hpp := hO.pt l[k + 1] (List.getElem_mem hlt)
    have hpx := hW.px (k + 1) hlt hlt'
    have hf' : l'[k + 1].f = l[k + 1].f := by
      have h1 : (l'.map Pt.f)[k + 1]? = (l.map Pt.f)[k + 1]? := by rw [hW.fs]
      simpa [List.getElem?_map, List.getElem?_eq_getElem hlt, List.getElem?_eq_getElem hlt'] using h1
    generalize l'[k + 1] = q at *
    rw [← hp] at hpp hpx hf'
    have hsq : ∀ i (hi : i < l.length), i < k + 1 → 0 ≤ l[i].f * l[i].f ∧ l[i].f * l[i].f < p.f * p.f := fun i hi hik => by
      have := hO.sq hi hlt hik
      rw [← hp] at this
      exact this
    have hA := lamA_wd (f := p.f) (by omega) hpp.2.1 l l' out out' (1000 * (p.lo - p0.hi)) (1000 * (q.lo - q0.hi)) hW.fs hw (fun i hi ho => hsq i hi (by omega)) (by omega)
    have hB := lamB_wd (f := p.f) (by omega) hpp.2.1 l l' out out' (1000 * (p.hi - p0.lo)) (1000 * (q.hi - q0.lo)) hW.fs hw (fun i hi ho => hsq i hi (by omega)) (by omega)
    have hk' : k < l.length := by omega
    have hs := hsq k hk' (by omega)
    have i1 := idxLo_bd _ p.f hs.1 hs.2 (by omega) hpp.2.1
    have i2 := idxHi_bd _ p.f hs.1 hs.2 (by omega) hpp.2.1
    have e1 : fAt l' k = l[k].f := by rw [fAt_map, hW.fs, ← fAt_map, fAt_eq hk']
    have e2 : fAt l' after.toNat = fAt l after.toNat := by rw [fAt_map, hW.fs, ← fAt_map]
    have hv : valI after width (k + 1) * idxHi (fAt l after.toNat * fAt l after.toNat) p.f ≤ valI after width' (k + 1) * idxHi (fAt l after.toNat * fAt l after.toNat) p.f := by
      unfold valI
      by_cases ha : after < ((k + 1 : Nat) : Int)
      · rw [if_pos ha, if_pos ha]
        have h0 := hO.a0
        have han : after.toNat < l.length := by omega
        have hs2 := hsq after.toNat han (by omega)
        rw [fAt_eq han]
        have i3 := idxLo_bd _ p.f hs2.1 hs2.2 (by omega) hpp.2.1
        have i4 := idxHi_bd _ p.f hs2.1 hs2.2 (by omega) hpp.2.1
        exact Int.mul_le_mul_of_nonneg_right hW.wd (by omega)
      · rw [if_neg ha, if_neg ha]; exact Int.le_refl _
    unfold lamGo at h ⊢
    rw [hf']
    by_cases hb : lamB p.f l out (1000 * (p.hi - p0.lo)) < 0
    · rw [if_pos hb] at h; simp at h
    · rw [if_neg hb] at h
      rw [if_neg (by omega)]
      refine lamGo_wd hW h0 r _ (k + 1) _ _ o hr rfl (by simp [hl]) (by omega) (Wdr.snoc out out' hw ?_ ?_) h
      · show ownLo l' after width' q0 q k out' ≤ ownLo l after width p0 p k out
        unfold ownLo posI
        rw [fAt_eq hk', e1, e2, hf']
        have : (lamA p.f l' out' (1000 * (q.lo - q0.hi)) - valI after width' (k + 1) * idxHi (fAt l after.toNat * fAt l after.toNat) p.f) / idxHi (l[k].f * l[k].f) p.f ≤ (lamA p.f l out (1000 * (p.lo - p0.hi)) - valI after width (k + 1) * idxHi (fAt l after.toNat * fAt l after.toNat) p.f) / idxHi (l[k].f * l[k].f) p.f := Int.ediv_le_ediv (by omega) (by omega)
        split <;> split <;> omega
      · show ownHi l p0 p k out ≤ ownHi l' q0 q k out'
        unfold ownHi ceilI
        rw [fAt_eq hk', e1, hf']
        have : (-lamB p.f l' out' (1000 * (q.hi - q0.lo))) / idxLo (l[k].f * l[k].f) p.f ≤ (-lamB p.f l out (1000 * (p.hi - p0.lo))) / idxLo (l[k].f * l[k].f) p.f := Int.ediv_le_ediv (by omega) (by omega)
        omega
/-- WIDER PIXELS -/
theorem lam_wd {l l' : List Pt} {after width width' : Int} (hW : Wide l l' after width width') {o : List Rng} (h : lam l after width = (o, 0, true)) : ∃ o', lam l' after width' = (o', 0, true) ∧ Wdr o o' := by
  have hn0 := hW.ok.n0
  have hn0' : 0 < l'.length := by rw [hW.len]; exact hn0
  have hg : l.getD 0 ⟨0, 0, 0⟩ = l[0] := by rw [List.getD_eq_getElem?_getD, List.getElem?_eq_getElem hn0]; rfl
  have hg' : l'.getD 0 ⟨0, 0, 0⟩ = l'[0] := by rw [List.getD_eq_getElem?_getD, List.getElem?_eq_getElem hn0']; rfl
  unfold lam at h ⊢
  rw [hg] at h
  rw [hg']
  exact lamGo_wd hW (hW.px 0 hn0 hn0') (l.drop 1) (l'.drop 1) 0 [] [] o rfl rfl rfl (by omega) trivial h
end Go.Proofs.Ytoegpaolbkcleaa
