/-
  Small words on memory: what a call leaves as it was, slices that read as lists. Plain theorems, no program in sight.
-/
import Derived.Test.YtlnbbioponmcfaaDoorRows
import Derived.WalkKit
import Derived.ProofKit
import Derived.OpenShut
import Derived.BigQuiet
import Derived.Deep.QuietTactic
import Derived.Deep.Draws
import Derived.Lib.Hide
import Derived.Outline
namespace Go.Proofs.YtlnbbioponmcfaaDoor
open Go.ChangeShapes Go.WideShapes Go.ChangeAt Go.RowKit

theorem bcell {W w1 : World} {B : Nat} (hb : Below B W w1) : (∀ b o, b < B → w1.cell? ⟨b, o, none⟩ = W.cell? ⟨b, o, none⟩) ∧ (∀ b o, b < B → w1.frozen? ⟨b, o, none⟩ = W.frozen? ⟨b, o, none⟩) :=
  ⟨fun b o h => hb.cell (p := ⟨b, o, none⟩) h, fun b o h => hb.frozen (p := ⟨b, o, none⟩) h⟩
theorem below_drewN {B : Nat} {a w : World} (h : Below B a w) (n : Nat) : Below B a (w.drewN n) := ⟨h.os, h.tape, h.output, h.size, h.block⟩
theorem below_eq {B : Nat} {a w w' : World} (h : Below B a w) (e : w = w') : Below B a w' := e ▸ h
theorem below_call {B : Nat} {a b c : World} (k : Below b.heap.size b c) (hB : B ≤ a.heap.size) (h : Below B a b) : Below B a c := h.trans (k.mono (Nat.le_trans hB h.size))
theorem below_call' {B B' : Nat} {a b c : World} (k : Below B' b c) (hB : B ≤ B') (h : Below B a b) : Below B a c := h.trans (k.mono hB)
theorem below_set {B : Nat} {a w : World} {p : Addr} (u : Value) (hp : B ≤ p.block) (h : Below B a w) : Below B a (w.setCell p u) := h.setCell hp u
theorem below_alloc {B : Nat} {a w : World} (o : Obj) (hB : B ≤ a.heap.size) (h : Below B a w) : Below B a (w.alloc o) := h.alloc (Nat.le_trans hB h.size) o
theorem cell_new {w : World} {cs : Array Value} {T : TypeId} {fr : Nat × Nat} {b j : Nat} {v : Value} (hb : b = w.heap.size) (hv : cs[j]? = some v) : (w.alloc (.cells cs T fr)).cell? ⟨b, j, none⟩ = some v := by
  subst hb
  rw [show (w.alloc (.cells cs T fr)).cell? ⟨w.heap.size, j, none⟩ = cs[j]? from cell_of_row _ _ j cs T fr (heap_alloc_new w _)]
  exact hv
theorem cell_alloc {w : World} {p : Addr} {v : Value} (o : Obj) (h : w.cell? p = some v) : (w.alloc o).cell? p = some v :=
  (World.cell?_alloc_lt _ _ _ (World.block_lt_of_cell? w p h)).trans h
theorem cell_drew {w : World} {p : Addr} {v : Value} (h : w.cell? p = some v) : w.drew.cell? p = some v := h
theorem cell_drewN {w : World} {p : Addr} {v : Value} (n : Nat) (h : w.cell? p = some v) : (w.drewN n).cell? p = some v := h
theorem cell_far {w : World} {p q : Addr} {u v : Value} (hne : q.block ≠ p.block) (h : w.cell? p = some v) : (w.setCell q u).cell? p = some v :=
  (World.cell?_setCell_other w q p u (fun e => hne (by rw [e]))).trans h
theorem cell_same {w : World} {p : Addr} {u v : Value} (h : w.cell? p = some u) : (w.setCell p v).cell? p = some v := World.cell?_setCell_same' w p v (by rw [h]; rfl)
theorem cell_below {B : Nat} {w w1 : World} {p : Addr} {v : Value} (hb : Below B w w1) (h : w.cell? p = some v) (hp : p.block < B) : w1.cell? p = some v := (hb.cell hp).trans h
theorem cell_below' {w w1 : World} {p : Addr} {v : Value} (hb : Below w.heap.size w w1) (h : w.cell? p = some v) : w1.cell? p = some v := (hb.cell (World.block_lt_of_cell? w p h)).trans h
theorem cell_grown {w w1 : World} {row : Option Nat} {p : Addr} {v : Value} (hb : w.grownBy w1 row) (h : w.cell? p = some v) (hne : some p.block ≠ row) : w1.cell? p = some v := hb.cell h hne
theorem frozen_new {w : World} {cs : Array Value} {T : TypeId} {b j : Nat} (hb : b = w.heap.size) : (w.alloc (.cells cs T)).frozen? ⟨b, j, none⟩ = false := by
  subst hb
  have h := heap_alloc_new w (.cells cs T)
  unfold World.frozen?
  simp only [h]
  simp
theorem frozen_alloc {w : World} {p : Addr} (o : Obj) (hlt : p.block < w.heap.size) (h : w.frozen? p = false) : (w.alloc o).frozen? p = false :=
  (World.frozen?_of_block (Below.heap_alloc w o p.block hlt)).trans h
theorem frozen_drew {w : World} {p : Addr} (h : w.frozen? p = false) : w.drew.frozen? p = false := h
theorem frozen_drewN {w : World} {p : Addr} (n : Nat) (h : w.frozen? p = false) : (w.drewN n).frozen? p = false := h
theorem frozen_set {w : World} {p : Addr} (q : Addr) (u : Value) (h : w.frozen? p = false) : (w.setCell q u).frozen? p = false := (World.frozen?_setCell w q p u).trans h
theorem frozen_below {B : Nat} {w w1 : World} {p : Addr} (hb : Below B w w1) (hp : p.block < B) (h : w.frozen? p = false) : w1.frozen? p = false := (hb.frozen hp).trans h
theorem blk_new {w : World} {o : Obj} {b : Nat} (hb : b = w.heap.size) : (w.alloc o).heap[b]? = some o := by subst hb; exact heap_alloc_new w o
theorem blk_drew {w : World} {o : Obj} {b : Nat} (h : w.heap[b]? = some o) : w.drew.heap[b]? = some o := h
theorem blk_drewN {w : World} {o : Obj} {b : Nat} (n : Nat) (h : w.heap[b]? = some o) : (w.drewN n).heap[b]? = some o := h
theorem blk_alloc {w : World} {o : Obj} {b : Nat} (x : Obj) (h : w.heap[b]? = some o) : (w.alloc x).heap[b]? = some o :=
  (Below.heap_alloc w x b (Array.getElem?_eq_some_iff.1 h).1).trans h
theorem blk_far {w : World} {o : Obj} {b : Nat} {p : Addr} (u : Value) (hne : b ≠ p.block) (h : w.heap[b]? = some o) : (w.setCell p u).heap[b]? = some o :=
  (Below.heap_setCell w p u b hne).trans h
theorem blk_below' {w w1 : World} {o : Obj} {b : Nat} (hb : Below w.heap.size w w1) (h : w.heap[b]? = some o) : w1.heap[b]? = some o :=
  (hb.block b (Array.getElem?_eq_some_iff.1 h).1).trans h
theorem ret_eq {a b : Value} (h : a = b) : Ending.returned a = Ending.returned b := by rw [h]
theorem ret_int {k : IntKind} {a b : Int} (h : a = b) : Ending.returned (.int k a) = Ending.returned (.int k b) := by rw [h]
theorem ret_bool {a b : Bool} (h : a = b) : Ending.returned (.bool a) = Ending.returned (.bool b) := by rw [h]

def withinB (n lo hi : Int) : Bool := decide (lo ≤ n) && decide (n ≤ hi)
theorem withinB_true {n lo hi : Int} : withinB n lo hi = true ↔ lo ≤ n ∧ n ≤ hi := by simp [withinB]
theorem withinB_false {n lo hi : Int} : withinB n lo hi = false ↔ n < lo ∨ hi < n := by simp [withinB]; omega

/-- rows of cells: the slice at A reads as the list, `f j x` the j-th cell of an element, `m` cells an element -/
def RowsAt {α : Type} (m : Nat) (f : α → Nat → Value) (w : World) (A : Option Addr) (l : List α) : Prop :=
  ∀ (k : Nat) (x : α), l[k]? = some x → ∃ b off, A = some ⟨b, off, none⟩ ∧ b < w.heap.size ∧ ∀ j, j < m → w.cell? ⟨b, off + k * m + j, none⟩ = some (f x j)

section
variable {α : Type} {m : Nat} {f : α → Nat → Value} {w w' : World} {A : Option Addr} {l : List α}
theorem RowsAt.below (h : RowsAt m f w A l) (hb : Below w.heap.size w w') : RowsAt m f w' A l := fun k x hk => by
  obtain ⟨b, off, rfl, hlt, hc⟩ := h k x hk
  exact ⟨b, off, rfl, Nat.lt_of_lt_of_le hlt hb.size, fun j hj => (hb.cell (p := ⟨b, off + k * m + j, none⟩) hlt).trans (hc j hj)⟩
theorem RowsAt.nil : RowsAt m f w A [] := fun k x hk => by simp at hk
theorem RowsAt.take (h : RowsAt m f w A l) (n : Nat) : RowsAt m f w A (l.take n) := fun k x hk => by
  rw [List.getElem?_take] at hk
  split at hk
  · exact h k x hk
  · cases hk
end

end Go.Proofs.YtlnbbioponmcfaaDoor
