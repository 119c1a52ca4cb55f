/-
  The fitted profile meets its points: the plain law. No program in sight.
-/
import Derived.Test.YtoegpaolbkcleaaFit
import Derived.Test.YtoegpaolbkcleaaAgr
import Derived.Test.YtoegpaolbkcleaaThk
namespace Go.Proofs.Ytoegpaolbkcleaa
open Go.ChangeShapes Go.WideShapes Go.ChangeAt Go.RowKit
set_option linter.unusedVariables false
set_option linter.unusedSimpArgs false

theorem fitTh_law {base : Int} {sl : List Slb} {sq f lo : Int} : ∀ (n : Nat) (t t' : Int), 0 ≤ t → t ≤ 500 → fitTh base sl sq f lo n t = some t' → 0 ≤ t' ∧ t' ≤ 500 ∧ ¬ virtHi base (sl ++ [⟨sq, t'⟩]) f (sl.length + 1) < lo
  | 0, _, _, _, _, h => by simp [fitTh] at h
  | n + 1, t, t', h0, h1, h => by
    unfold fitTh at h
    by_cases hv : virtHi base (sl ++ [⟨sq, t⟩]) f (sl.length + 1) < lo
    · rw [if_pos hv] at h
      by_cases ht : t + 1 ≤ 500
      · rw [if_pos ht] at h
        exact fitTh_law n (t + 1) t' (by omega) ht h
      · rw [if_neg ht] at h; cases h
    · rw [if_neg hv] at h
      injection h with h
      subst h
      exact ⟨h0, h1, hv⟩
/-- a point is met by the slabs below it -/
def Meets (base : Int) (sl : List Slb) (p : Pt) (j : Nat) : Prop := ¬ virtHi base sl p.f j < p.lo ∧ ¬ p.hi < virtLo base sl p.f j
theorem virt_take {base : Int} {a b : List Slb} {f : Int} {j : Nat} (h : a.take j = b.take j) : virtLo base a f j = virtLo base b f j ∧ virtHi base a f j = virtHi base b f j := by
  unfold virtLo virtHi
  rw [h]
  exact ⟨rfl, rfl⟩
/-- what the first k slabs of a fitted profile are -/
structure Fits (l : List Pt) (base : Int) (sl : List Slb) (k : Nat) : Prop where
  len : sl.length = k
  slab : ∀ j (h : j < sl.length), sl[j].sq = fAt l j * fAt l j ∧ 0 ≤ sl[j].th ∧ sl[j].th ≤ 500
  meet : ∀ j (h : j + 1 < l.length), j < k → Meets base sl l[j + 1] (j + 1)
theorem Fits.snoc {l : List Pt} {base : Int} {sl : List Slb} {k : Nat} (h : Fits l base sl k) {t : Int} (t0 : 0 ≤ t) (t1 : t ≤ 500) (hm : ∀ (hk : k + 1 < l.length), Meets base (sl ++ [⟨fAt l k * fAt l k, t⟩]) l[k + 1] (k + 1)) : Fits l base (sl ++ [⟨fAt l k * fAt l k, t⟩]) (k + 1) where
  len := by simp [h.len]
  slab := fun j hj => by
    by_cases hjk : j < sl.length
    · rw [List.getElem_append_left hjk]; exact h.slab j hjk
    · have e : j = sl.length := by simp at hj; omega
      subst e
      rw [List.getElem_append_right (by omega)]
      simp only [Nat.sub_self, List.getElem_cons_zero]
      rw [h.len]
      exact ⟨rfl, t0, t1⟩
  meet := fun j hj hjk => by
    by_cases hjk2 : j < k
    · have hmm := h.meet j hj hjk2
      have hv := virt_take (base := base) (a := sl ++ [⟨fAt l k * fAt l k, t⟩]) (b := sl) (f := l[j + 1].f) (j := j + 1) (List.take_append_of_le_length (by rw [h.len]; omega))
      unfold Meets
      rw [hv.1, hv.2]
      exact hmm
    · have e : j = k := by omega
      subst e
      exact hm hj
theorem fitGo_law {l : List Pt} {base : Int} (hn0 : 0 < l.length) : ∀ (r : List Pt) (k : Nat) (sl : List Slb), r = l.drop (k + 1) → k + 1 ≤ l.length → Fits l base sl k → (fitGo l base r k sl).2.2 = 0 → Fits l base (fitGo l base r k sl).1 l.length
  | [], k, sl, hr, hk, hf, he => by
    have hlen : l.length = k + 1 := by
      have := congrArg List.length hr
      simp at this
      omega
    unfold fitGo
    have hs := hf.snoc (t := 1) (by omega) (by omega) (fun h => by omega)
    have e : l.length - 1 = k := by omega
    rw [e, hlen]
    exact hs
  | p :: r, k, sl, hr, hk, hf, he => by
    have hlt : k + 1 < l.length := by
      rcases Nat.lt_or_ge (k + 1) l.length with h | h
      · exact h
      · rw [List.drop_eq_nil_of_le h] at hr; cases hr
    rw [List.drop_eq_getElem_cons hlt] at hr
    injection hr with hp hr
    unfold fitGo at he ⊢
    cases hth : fitTh base sl (fAt l k * fAt l k) p.f p.lo 501 0 with
    | none => rw [hth] at he; simp at he
    | some t =>
      rw [hth] at he
      obtain ⟨t0, t1, t2⟩ := fitTh_law 501 0 t (by omega) (by omega) hth
      simp only at he ⊢
      by_cases hv : p.hi < virtLo base (sl ++ [⟨fAt l k * fAt l k, t⟩]) p.f (k + 1)
      · rw [if_pos hv] at he; simp at he
      · rw [if_neg hv] at he ⊢
        refine fitGo_law hn0 r (k + 1) _ hr (by omega) (hf.snoc t0 t1 fun h => ?_) he
        rw [← hp]
        rw [hf.len] at t2
        exact ⟨t2, hv⟩
/-- a fitted profile is valid -/
theorem fits_ok {l : List Pt} {after width base : Int} {sl : List Slb} (hO : OkT l after width) (hb0 : 0 ≤ base) (hb1 : base ≤ 500) (hf : Fits l base sl l.length) : Ok base sl where
  b0 := hb0
  b1 := hb1
  n0 := by rw [hf.len]; exact hO.n0
  n1 := by rw [hf.len]; have := hO.n1; omega
  sl := fun x hx => by
    obtain ⟨j, hj, e⟩ := List.getElem_of_mem hx
    have h := hf.slab j hj
    rw [e] at h
    have hjl : j < l.length := by rw [← hf.len]; exact hj
    have hp := hO.pt l[j] (List.getElem_mem hjl)
    have hq := sq_bd l[j].f (by omega) hp.2.1
    rw [h.1, fAt_eq hjl]
    exact ⟨hq.1, hq.2, h.2.1, h.2.2⟩
/-- it answers 'no' for no point -/
theorem fits_ans {l : List Pt} {after width base : Int} {sl : List Slb} (hO : OkT l after width) (hb0 : 0 ≤ base) (hb1 : base ≤ 500) (hf : Fits l base sl l.length) (hbase : ∀ (h : 0 < l.length), base = l[0].lo) {i : Nat} (hi : i < l.length) : ansI base sl l[i] ≠ 0 := by
  have ho := fits_ok hO hb0 hb1 hf
  have hp := hO.pt l[i] (List.getElem_mem hi)
  have hr : refl base sl l[i].f = (base + sumTh (sl.take i), (i : Int)) := refl_of (by rw [hf.len]; exact hi) (fun j hj hji => by
    have hjl : j < l.length := by omega
    rw [(hf.slab j hj).1, fAt_eq hjl]
    exact (hO.sq hjl hi hji).2) (by rw [(hf.slab i (by rw [hf.len]; exact hi)).1, fAt_eq hi]; exact Int.le_refl _)
  unfold ansI
  rw [hr]
  simp only
  rw [if_neg (by omega), Int.toNat_natCast]
  have key : ¬ virtHi base sl l[i].f i < l[i].lo ∧ ¬ l[i].hi < virtLo base sl l[i].f i := by
    cases i with
    | zero =>
      have hb := hbase hi
      have e1 : virtLo base sl l[0].f 0 = base := by unfold virtLo; simp [sumLo]
      have e2 : virtHi base sl l[0].f 0 = base := by unfold virtHi ceilI; simp only [List.take_zero, sumHi]; omega
      rw [e1, e2]
      omega
    | succ j => exact hf.meet j hi (by omega)
  unfold ans3
  split
  · decide
  · rw [if_neg (fun h => h.elim key.2 key.1)]
    decide
end Go.Proofs.Ytoegpaolbkcleaa
