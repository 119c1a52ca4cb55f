/-
  The layers of a profile: the plain law. No program in sight.
-/
import Derived.Test.YtoegpaolbkcleaaSlb
namespace Go.Proofs.Ytoegpaolbkcleaa
open Go.ChangeShapes Go.WideShapes Go.ChangeAt Go.RowKit
set_option linter.unusedVariables false
set_option linter.unusedSimpArgs false

/-- the square of the first slab with a thickness -/
def upS : List Slb → Int
  | [] => 0
  | x :: r => if 0 < x.th then x.sq else upS r
/-- of the last one ahead of i -/
def dnS (l : List Slb) : Nat → Int
  | 0 => 0
  | i + 1 => if 0 < (l.getD i ⟨0, 0⟩).th then sqAt l i else dnS l i
def thAt (l : List Slb) (k : Nat) : Int := (l.getD k ⟨0, 0⟩).th
theorem thAt_eq {l : List Slb} {k : Nat} (h : k < l.length) : thAt l k = l[k].th := by
  unfold thAt; simp [List.getD, List.getElem?_eq_getElem h]
/-- the indexes of the slabs with a thickness -/
def tix : Nat → List Slb → List Int
  | _, [] => []
  | i, x :: r => if 0 < x.th then (i : Int) :: tix (i + 1) r else tix (i + 1) r
theorem tix_append : ∀ (l r : List Slb) (i : Nat), tix i (l ++ r) = tix i l ++ tix (i + l.length) r
  | [], r, i => by simp [tix]
  | x :: l, r, i => by
    simp only [List.cons_append, tix, List.length_cons]
    rw [tix_append l r (i + 1), show i + 1 + l.length = i + (l.length + 1) by omega]
    split <;> simp
theorem tix_len : ∀ (l : List Slb) (i : Nat), (tix i l).length ≤ l.length
  | [], _ => by simp [tix]
  | x :: l, i => by
    have := tix_len l (i + 1)
    unfold tix
    split <;> simp <;> omega
theorem tix_bd : ∀ (l : List Slb) (i : Nat) (z : Int), z ∈ tix i l → (i : Int) ≤ z ∧ z < i + l.length
  | [], _, _, h => by simp [tix] at h
  | x :: l, i, z, h => by
    unfold tix at h
    split at h
    · rcases List.mem_cons.1 h with h | h
      · subst h; simp; omega
      · have := tix_bd l (i + 1) z h
        simp only [List.length_cons]
        omega
    · have := tix_bd l (i + 1) z h
      simp only [List.length_cons]
      omega
/-- the square of the k-th of them; 0 beyond -/
def sqK (l : List Slb) (T : List Int) (k : Int) : Int := if k < 0 ∨ (T.length : Int) ≤ k then 0 else sqAt l (T.getD k.toNat 0).toNat
def isLay (l : List Slb) (T : List Int) (k : Nat) : Bool := decide (sqK l T ((k : Int) - 1) < sqK l T k) && decide (sqK l T ((k : Int) + 1) < sqK l T k)
def layT (l : List Slb) (T : List Int) : Nat → List Int
  | 0 => []
  | k + 1 => if isLay l T k then layT l T k ++ [T.getD k 0] else layT l T k
/-- the layers -/
def lays (l : List Slb) : List Int := layT l (tix 0 l) (tix 0 l).length
def layR (l : List Slb) : Nat → List Int
  | 0 => []
  | i + 1 => if 0 < thAt l i ∧ dnS l i < sqAt l i ∧ upS (l.drop (i + 1)) < sqAt l i then layR l i ++ [(i : Int)] else layR l i
/-- how many have a thickness among the first i -/
def cnt (l : List Slb) (i : Nat) : Nat := (tix 0 (l.take i)).length
theorem tix_split {l : List Slb} {i : Nat} (h : i ≤ l.length) : tix 0 l = tix 0 (l.take i) ++ tix i (l.drop i) := by
  have := tix_append (l.take i) (l.drop i) 0
  rw [List.take_append_drop] at this
  rw [this, List.length_take, Nat.min_eq_left h, Nat.zero_add]
theorem cnt_succ {l : List Slb} {i : Nat} (h : i < l.length) : cnt l (i + 1) = if 0 < thAt l i then cnt l i + 1 else cnt l i := by
  unfold cnt
  rw [take_snoc l i h, tix_append, thAt_eq h]
  simp only [tix, List.length_append]
  split <;> simp
theorem upS_tix (l : List Slb) : ∀ (r : List Slb) (i : Nat), l.drop i = r → i + r.length = l.length → upS r = match tix i r with | [] => 0 | z :: _ => sqAt l z.toNat
  | [], i, _, _ => by simp [upS, tix]
  | x :: r, i, hd, hl => by
    simp only [List.length_cons] at hl
    have hi : i < l.length := by omega
    rw [List.drop_eq_getElem_cons hi] at hd
    injection hd with h1 h2
    unfold upS tix
    by_cases hx : 0 < x.th
    · rw [if_pos hx, if_pos hx]
      show x.sq = sqAt l (i : Int).toNat
      rw [Int.toNat_natCast, sqAt_eq hi, h1]
    · rw [if_neg hx, if_neg hx]
      exact upS_tix l r (i + 1) h2 (by omega)
theorem up_law {l : List Slb} {i : Nat} (h : i ≤ l.length) : upS (l.drop i) = sqK l (tix 0 l) (cnt l i) := by
  rw [upS_tix l (l.drop i) i rfl (by simp; omega)]
  unfold sqK cnt
  have hs := tix_split h
  rw [hs]
  cases ht : tix i (l.drop i) with
  | nil => simp
  | cons z r =>
    rw [if_neg (by simp; omega)]
    simp [List.getD]
theorem tix_at {l : List Slb} {i : Nat} (h : i < l.length) (ht : 0 < thAt l i) : (tix 0 l).getD (cnt l i) 0 = (i : Int) ∧ cnt l i < (tix 0 l).length := by
  have hs := tix_split (show i ≤ l.length by omega)
  rw [List.drop_eq_getElem_cons h] at hs
  rw [thAt_eq h] at ht
  unfold tix at hs
  rw [if_pos ht] at hs
  have e2 : tix 0 l = tix 0 (l.take i) ++ (i : Int) :: tix (i + 1) (l.drop (i + 1)) := by
    conv => lhs; rw [show tix 0 l = tix 0 l from rfl]
    cases l with
    | nil => simp at h
    | cons x r =>
      have := tix_split (l := x :: r) (i := i) (by omega)
      rw [List.drop_eq_getElem_cons h] at this
      rw [this]
      congr 1
      simp only [tix]
      rw [if_pos ht]
  unfold cnt
  rw [e2]
  refine ⟨by simp [List.getD], by simp⟩
theorem sqK_at {l : List Slb} {i : Nat} (h : i < l.length) (ht : 0 < thAt l i) : sqK l (tix 0 l) (cnt l i) = sqAt l i := by
  obtain ⟨h1, h2⟩ := tix_at h ht
  unfold sqK
  rw [if_neg (by omega), Int.toNat_natCast, h1, Int.toNat_natCast]
theorem dn_law {l : List Slb} : ∀ (i : Nat), i ≤ l.length → dnS l i = sqK l (tix 0 l) ((cnt l i : Int) - 1)
  | 0, _ => by simp [dnS, cnt, tix, sqK]
  | i + 1, h => by
    have hi : i < l.length := by omega
    have ih := dn_law (l := l) i (by omega)
    rw [cnt_succ hi]
    unfold dnS
    by_cases ht : 0 < thAt l i
    · rw [if_pos (show 0 < (l.getD i ⟨0, 0⟩).th from ht), if_pos ht, show ((cnt l i + 1 : Nat) : Int) - 1 = (cnt l i : Int) by omega, sqK_at hi ht]
    · rw [if_neg (show ¬ 0 < (l.getD i ⟨0, 0⟩).th from ht), if_neg ht, ih]
theorem lay_law {l : List Slb} : ∀ (i : Nat), i ≤ l.length → layR l i = layT l (tix 0 l) (cnt l i)
  | 0, _ => by simp [layR, cnt, tix, layT]
  | i + 1, h => by
    have hi : i < l.length := by omega
    have ih := lay_law (l := l) i (by omega)
    unfold layR
    by_cases ht : 0 < thAt l i
    · have hc := cnt_succ hi
      rw [if_pos ht] at hc
      have hu := up_law (l := l) (i := i + 1) h
      have hd := dn_law (l := l) i (by omega)
      have hk := sqK_at hi ht
      rw [hc]
      unfold layT
      rw [ih, (tix_at hi ht).1]
      rw [hc] at hu
      have e : isLay l (tix 0 l) (cnt l i) = (decide (dnS l i < sqAt l i) && decide (upS (l.drop (i + 1)) < sqAt l i)) := by
        unfold isLay
        rw [hk, hd, hu]
        rfl
      rw [e]
      by_cases h1 : dnS l i < sqAt l i
      · by_cases h2 : upS (l.drop (i + 1)) < sqAt l i
        · rw [if_pos ⟨ht, h1, h2⟩, if_pos (by simp [h1, h2])]
        · rw [if_neg (fun h => h2 h.2.2), if_neg (by simp [h2])]
      · rw [if_neg (fun h => h1 h.2.1), if_neg (by simp [h1])]
    · have hc := cnt_succ hi
      rw [if_neg ht] at hc
      rw [hc, if_neg (fun h => ht h.1), ih]
theorem lays_eq (l : List Slb) : layR l l.length = lays l := by
  rw [lay_law l.length (Nat.le_refl _)]
  unfold lays cnt
  rw [List.take_length]
theorem layR_len (l : List Slb) : ∀ i, (layR l i).length ≤ i
  | 0 => by simp [layR]
  | i + 1 => by
    have := layR_len l i
    unfold layR
    split <;> simp <;> omega
end Go.Proofs.Ytoegpaolbkcleaa
