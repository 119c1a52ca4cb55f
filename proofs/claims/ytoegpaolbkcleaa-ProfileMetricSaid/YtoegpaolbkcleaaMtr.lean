/-
  A distance: the plain law. No program in sight.
-/
import Derived.Test.YtoegpaolbkcleaaJnd
import Derived.Test.YtoegpaolbkcleaaDst
namespace Go.Proofs.Ytoegpaolbkcleaa
open Go.ChangeShapes Go.WideShapes Go.ChangeAt Go.RowKit
set_option linter.unusedVariables false
set_option linter.unusedSimpArgs false

/-- the distance of two profiles -/
def dD (b1 : Int) (l : List Slb) (b2 : Int) (r : List Slb) : Int := sumD b1 l b2 r 6501
theorem dst_said {b1 b2 : Int} {l r : List Slb} (h1 : chkE b1 l = 0) (h2 : chkE b2 r = 0) : dstE b1 l b2 r = 0 ∧ dstV b1 l b2 r = dD b1 l b2 r := by
  have he : dstE b1 l b2 r = 0 := by unfold dstE; rw [firstE2]; exact ⟨h1, h2⟩
  refine ⟨he, ?_⟩
  unfold dstV dD
  rw [if_pos he, dst_eq (ok_of_chk h1) (ok_of_chk h2)]
theorem dD_bd {b1 b2 : Int} {l r : List Slb} (h1 : Ok b1 l) (h2 : Ok b2 r) : 0 ≤ dD b1 l b2 r ∧ dD b1 l b2 r ≤ 60000000000 := by
  have := sumD_bd h1 h2 6501
  unfold dD
  omega
theorem dD_symm (b1 b2 : Int) (l r : List Slb) : dD b1 l b2 r = dD b2 r b1 l := by
  have : ∀ k, sumD b1 l b2 r k = sumD b2 r b1 l k := fun k => by
    induction k with
    | zero => rfl
    | succ k ih =>
      simp only [sumD]
      rw [ih]
      unfold dAt absI
      split <;> split <;> omega
  exact this 6501
theorem dD_tri (b1 b2 b3 : Int) (l r s : List Slb) : dD b1 l b2 r ≤ dD b1 l b3 s + dD b3 s b2 r := by
  have : ∀ k, sumD b1 l b2 r k ≤ sumD b1 l b3 s k + sumD b3 s b2 r k := fun k => by
    induction k with
    | zero => simp [sumD]
    | succ k ih =>
      simp only [sumD]
      have hd : dAt b1 l b2 r k ≤ dAt b1 l b3 s k + dAt b3 s b2 r k := by
        unfold dAt absI
        split <;> split <;> split <;> omega
      omega
  exact this 6501
theorem dD_zero {b1 b2 : Int} {l r : List Slb} (h : ∀ t : Int, plas b1 l t = plas b2 r t) : dD b1 l b2 r = 0 := by
  have : ∀ k, sumD b1 l b2 r k = 0 := fun k => by
    induction k with
    | zero => rfl
    | succ k ih =>
      simp only [sumD]
      rw [ih]
      unfold dAt
      rw [h k]
      simp [absI]
  exact this 6501
theorem plGo_zero (h : Int) (x : Slb) (r : List Slb) (hx : x.th = 0) : ∀ (out : List Slb) (a : Int), plGo h a (out ++ x :: r) = plGo h a (out ++ r)
  | [], a => by
    simp only [List.nil_append, plGo]
    rw [if_neg (by rw [withinB_true]; omega), hx, Int.add_zero]
  | y :: o, a => by
    simp only [List.cons_append, plGo]
    rw [plGo_zero h x r hx o]
theorem plGo_join (h : Int) (y x : Slb) (r : List Slb) (hq : y.sq = x.sq) (hy : 0 ≤ y.th) (hx : 0 ≤ x.th) : ∀ (i : List Slb) (a : Int), plGo h a (i ++ y :: x :: r) = plGo h a (i ++ ⟨y.sq, y.th + x.th⟩ :: r)
  | [], a => by
    simp only [List.nil_append, plGo]
    by_cases h1 : withinB h a (a + y.th - 1) = true
    · rw [if_pos h1, if_pos (by rw [withinB_true] at h1 ⊢; omega)]
    · rw [if_neg h1]
      by_cases h2 : withinB h (a + y.th) (a + y.th + x.th - 1) = true
      · rw [if_pos h2, if_pos (by rw [withinB_true] at h2 ⊢; omega), hq]
      · rw [if_neg h2, if_neg (by rw [withinB_true] at h1 h2 ⊢; omega), Int.add_assoc]
  | z :: i, a => by
    simp only [List.cons_append, plGo]
    rw [plGo_join h y x r hq hy hx i]
theorem jnStep_len (out : List Slb) (x : Slb) : out.length ≤ (jnStep out x).length ∧ (jnStep out x).length ≤ out.length + 1 := by
  unfold jnStep
  split
  · omega
  · rcases snoc_cases out with rfl | ⟨i, y, rfl⟩
    · simp [jnAdd_nil]
    · rw [jnAdd_snoc]
      split <;> simp
theorem jnGo_len : ∀ (r out : List Slb), out.length ≤ (jnGo r out).length ∧ (jnGo r out).length ≤ out.length + r.length
  | [], out => by simp [jnGo]
  | x :: r, out => by
    have h1 := jnStep_len out x
    have h2 := jnGo_len r (jnStep out x)
    simp only [jnGo, List.length_cons]
    omega
theorem jnStep_law (h : Int) (out r : List Slb) (x : Slb) (a : Int) (ho : JB out) (hx : 0 ≤ x.sq ∧ x.sq ≤ 9000000 ∧ 0 ≤ x.th ∧ x.th ≤ 500) :
    plGo h a (jnStep out x ++ r) = plGo h a (out ++ x :: r) ∧ sumC (jnStep out x) = sumC out + x.sq * x.th ∧ JB (jnStep out x) := by
  unfold jnStep
  by_cases h0 : x.th = 0
  · rw [if_pos h0]
    exact ⟨(plGo_zero h x r h0 out a).symm, by rw [h0]; simp, ho⟩
  · rw [if_neg h0]
    rcases snoc_cases out with rfl | ⟨i, y, rfl⟩
    · rw [jnAdd_nil]
      exact ⟨rfl, by simp [sumC], JB.nil.snoc hx⟩
    · obtain ⟨hi, y1, y2, y3, y4⟩ := ho.init
      rw [jnAdd_snoc]
      by_cases hj : y.sq = x.sq ∧ y.th + x.th ≤ 500
      · rw [if_pos hj]
        refine ⟨?_, ?_, hi.snoc ⟨y1, y2, by show 0 ≤ y.th + x.th; omega, hj.2⟩⟩
        · have := plGo_join h y x r hj.1 y3 hx.2.2.1 i a
          simpa using this.symm
        · rw [sumC_append, sumC_append]
          simp only [sumC]
          rw [Int.mul_add, hj.1]
          omega
      · rw [if_neg hj]
        refine ⟨by simp, ?_, ho.snoc hx⟩
        rw [sumC_append (i ++ [y]) [x]]
        simp [sumC]
theorem jnGo_law (h : Int) : ∀ (r out : List Slb) (a : Int), JB r → JB out → plGo h a (jnGo r out) = plGo h a (out ++ r) ∧ sumC (jnGo r out) = sumC out + sumC r ∧ JB (jnGo r out)
  | [], out, a, _, ho => by simp [jnGo, sumC, ho]
  | x :: r, out, a, hr, ho => by
    have hx := hr x (List.mem_cons_self ..)
    obtain ⟨s1, s2, s3⟩ := jnStep_law h out r x a ho hx
    obtain ⟨i1, i2, i3⟩ := jnGo_law h r (jnStep out x) a (fun z hz => hr z (List.mem_cons_of_mem _ hz)) s3
    simp only [jnGo]
    refine ⟨i1.trans s1, ?_, i3⟩
    rw [i2, s2]
    simp only [sumC]
    omega
theorem jnd_law {base : Int} {l : List Slb} (ho : Ok base l) : (∀ h : Int, plas base (jnd l) h = plas base l h) ∧ sumC (jnd l) = sumC l ∧ JB (jnd l) ∧ 0 < (jnd l).length ∧ (jnd l).length ≤ 12 := by
  have hl : JB l := ho.sl
  have hn0 := ho.n0
  have hn1 := ho.n1
  have hlen := jnGo_len l []
  simp only [List.length_nil, Nat.zero_add] at hlen
  unfold jnd
  by_cases h0 : (jnGo l []).length = 0
  · rw [if_pos h0]
    have he := List.eq_nil_of_length_eq_zero h0
    match l, hn0 with
    | x :: r, _ =>
      have hx := hl x (List.mem_cons_self ..)
      have hxt : x.th = 0 := by
        apply Classical.byContradiction
        intro hc
        have h1 : jnStep [] x = [x] := by unfold jnStep; rw [if_neg hc, jnAdd_nil]
        have h2 := jnGo_len r (jnStep [] x)
        rw [h1] at h2
        simp only [jnGo, h1] at h0
        simp only [List.length_cons, List.length_nil] at h2
        omega
      refine ⟨fun h => ?_, ?_, ?_, by simp, by simp⟩
      · have hg := (jnGo_law h (x :: r) [] base hl JB.nil).1
        rw [he] at hg
        unfold plas
        rw [List.nil_append] at hg
        rw [← hg, show (x :: r).take 1 = [] ++ x :: [] from rfl, plGo_zero h x [] hxt [] base]
        rfl
      · have hg := (jnGo_law 0 (x :: r) [] base hl JB.nil).2.1
        rw [he] at hg
        simp only [sumC, List.take_succ_cons, List.take_zero] at hg ⊢
        rw [hxt] at hg ⊢
        omega
      · intro z hz
        simp at hz
        subst hz
        exact hx
  · rw [if_neg h0]
    exact ⟨fun h => by have := (jnGo_law h l [] base hl JB.nil).1; rw [List.nil_append] at this; exact this, by have := (jnGo_law 0 l [] base hl JB.nil).2.1; rw [this]; simp [sumC], (jnGo_law 0 l [] base hl JB.nil).2.2, by omega, by omega⟩
theorem jnd_chk {base : Int} {l : List Slb} (h : chkE base l = 0) : chkE base (jnd l) = 0 := by
  have ho := ok_of_chk h
  obtain ⟨_, _, h3, h4, h5⟩ := jnd_law ho
  exact chk_of_ok ⟨ho.b0, ho.b1, h4, h5, h3⟩
end Go.Proofs.Ytoegpaolbkcleaa
