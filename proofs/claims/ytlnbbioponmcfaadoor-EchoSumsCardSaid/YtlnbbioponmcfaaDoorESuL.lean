/-
  Chapter 2: plain laws of sums of frames.
-/
import Derived.Test.YtlnbbioponmcfaaDoorETuL
namespace Go.Proofs.YtlnbbioponmcfaaDoor
open Go.ChangeShapes Go.WideShapes Go.ChangeAt Go.RowKit
set_option linter.unusedVariables false
set_option linter.unusedSimpArgs false

theorem gadd_zero (a : Gs) : gadd a gz = a := by apply Gs.ext2 <;> simp [gadd, gz]
theorem zero_gadd (a : Gs) : gadd gz a = a := by apply Gs.ext2 <;> simp [gadd, gz]
theorem gadd_assoc (a b c : Gs) : gadd (gadd a b) c = gadd a (gadd b c) := by apply Gs.ext2 <;> simp [gadd] <;> omega
theorem gadd_comm (a b : Gs) : gadd a b = gadd b a := by apply Gs.ext2 <;> simp [gadd] <;> omega
def sumG : List Gs → Gs
  | [] => gz
  | a :: r => gadd a (sumG r)
theorem sumG_append : ∀ a b : List Gs, sumG (a ++ b) = gadd (sumG a) (sumG b)
  | [], b => (zero_gadd _).symm
  | x :: a, b => by rw [List.cons_append, sumG, sumG_append a b, sumG, gadd_assoc]
theorem sumG_snoc (a : List Gs) (x : Gs) : sumG (a ++ [x]) = gadd (sumG a) x := by rw [sumG_append, sumG, sumG, gadd_zero]
theorem sumG_rev : ∀ a : List Gs, sumG a.reverse = sumG a
  | [] => rfl
  | x :: a => by rw [List.reverse_cons, sumG_snoc, sumG_rev a, sumG, gadd_comm]
/-- a frame and its turn -/
abbrev Frm := List Gs × Int
/-- the k-th number of the coherent sum -/
def cohG (fs : List Frm) (k : Nat) : Gs := sumG (fs.map fun f => rot f.2 (gd f.1 k))
theorem cohG_snoc (fs : List Frm) (f : Frm) (k : Nat) : cohG (fs ++ [f]) k = gadd (cohG fs k) (rot f.2 (gd f.1 k)) := by
  unfold cohG; rw [List.map_append, List.map_singleton, sumG_snoc]
theorem cohG_rev (fs : List Frm) (k : Nat) : cohG fs.reverse k = cohG fs k := by
  unfold cohG; rw [List.map_reverse, sumG_rev]
def cohL (fs : List Frm) (n : Nat) : List Gs := (List.range n).map (cohG fs)
theorem cohL_len (fs : List Frm) (n : Nat) : (cohL fs n).length = n := by simp [cohL]
theorem cohL_rev (fs : List Frm) (n : Nat) : cohL fs.reverse n = cohL fs n := by
  unfold cohL; exact List.map_congr_left fun k _ => cohG_rev fs k
theorem cohL_at (fs : List Frm) {n k : Nat} (h : k < n) : gd (cohL fs n) k = cohG fs k := by
  rw [gd_eq (by rw [cohL_len]; exact h)]; simp [cohL]
theorem sumG_sz {M : Int} (hM : 0 ≤ M) : ∀ l : List Gs, (∀ x ∈ l, Sz M x) → Sz (l.length * M) (sumG l)
  | [], _ => ⟨by simp [sumG, gz], by simp [sumG, gz], by simp [sumG, gz], by simp [sumG, gz]⟩
  | a :: r, h => by
    have h1 := h a (List.mem_cons_self ..)
    have h2 := sumG_sz hM r fun x hx => h x (List.mem_cons_of_mem _ hx)
    refine (h1.add h2).mono ?_
    rw [List.length_cons, Int.natCast_succ, Int.add_mul, Int.one_mul]
    omega
theorem cohG_sz {M : Int} (hM : 0 ≤ M) (fs : List Frm) (h : ∀ f ∈ fs, ∀ x ∈ f.1, Sz M x) (k : Nat) : Sz (fs.length * M) (cohG fs k) := by
  have := sumG_sz hM (fs.map fun f => rot f.2 (gd f.1 k)) fun x hx => by
    obtain ⟨f, hf, rfl⟩ := List.mem_map.1 hx
    exact (gd_any hM (h f hf) k).rot _
  rw [List.length_map] at this
  exact this
theorem rot_zero (n : Int) : rot n gz = gz := by
  unfold rot
  generalize (n % 4).toNat = k
  induction k with
  | zero => rfl
  | succ k ih => rw [rotN, ih]; rfl
theorem rot_sum (n : Int) : ∀ l : List Gs, rot n (sumG l) = sumG (l.map (rot n))
  | [] => rot_zero n
  | a :: r => by rw [sumG, rot_add, rot_sum n r, List.map_cons, sumG]
theorem sumG_add {α : Type} (f g : α → Gs) : ∀ l : List α, gadd (sumG (l.map f)) (sumG (l.map g)) = sumG (l.map fun x => gadd (f x) (g x))
  | [] => gadd_zero _
  | a :: r => by
    rw [List.map_cons, List.map_cons, List.map_cons, sumG, sumG, sumG, ← sumG_add f g r]
    apply Gs.ext2 <;> simp [gadd] <;> omega
theorem sumG_zero {α : Type} : ∀ l : List α, sumG (l.map fun _ => gz) = gz
  | [] => rfl
  | a :: r => by rw [List.map_cons, sumG, sumG_zero r, gadd_zero]
/-- the lines of a coherent sum without turns are the sums of the lines -/
theorem lines_coh (fs : List Frm) (N : Nat) (hz : ∀ f ∈ fs, f.2 = 0) (sg n : Int) : ∀ m, m ≤ N → lnK (cohL fs N) sg n m = sumG (fs.map fun f => lnK f.1 sg n m)
  | 0, _ => (sumG_zero fs).symm
  | m + 1, h => by
    have e : lnK (cohL fs N) sg n (m + 1) = gadd (lnK (cohL fs N) sg n m) (rot (sg * n * m) (gd (cohL fs N) m)) := rfl
    rw [e, lines_coh fs N hz sg n m (by omega), cohL_at fs (by omega), cohG, rot_sum, List.map_map, sumG_add]
    refine congrArg sumG (List.map_congr_left fun f hf => ?_)
    show gadd _ (rot (sg * n * m) (rot f.2 (gd f.1 m))) = gadd _ (rot (sg * n * m) (gd f.1 m))
    rw [hz f hf]
    rfl
end Go.Proofs.YtlnbbioponmcfaaDoor
