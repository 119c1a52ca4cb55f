/-
  What an iterator keeps that writes one older block (plain).
-/
import Derived.Test.YtlnbbioponmcfaaGreatDoorWRng
namespace Go.Proofs.YtlnbbioponmcfaaGreatDoor
open Go.ChangeShapes Go.WideShapes Go.ChangeAt Go.RowKit
set_option linter.unusedVariables false
set_option linter.unusedSimpArgs false

/-- all below is kept but for one block -/
structure StL (lb : Nat) (B : Nat) (A A' : World) : Prop where
  os : A'.os = A.os
  tape : A'.tape = A.tape
  output : A'.output = A.output
  size : A.heap.size ≤ A'.heap.size
  block : ∀ k, k < A.heap.size → k ≠ lb → A'.heap[k]? = A.heap[k]?
theorem StL.of_below {lb B : Nat} {A A' : World} (h : Below A.heap.size A A') : StL lb B A A' := ⟨h.os, h.tape, h.output, h.size, fun k hk _ => h.block k hk⟩
theorem StL.trans {lb B : Nat} {A A' A'' : World} (h : StL lb B A A') (k : StL lb B A' A'') : StL lb B A A'' :=
  ⟨k.os.trans h.os, k.tape.trans h.tape, k.output.trans h.output, Nat.le_trans h.size k.size, fun i hi hn => (k.block i (Nat.lt_of_lt_of_le hi h.size) hn).trans (h.block i hi hn)⟩
theorem StL.set {lb B : Nat} {A : World} {j : Nat} {v : Value} : StL lb B A (A.setCell ⟨lb, j, none⟩ v) :=
  let h : Below 0 A (A.setCell ⟨lb, j, none⟩ v) := below_set v (Nat.zero_le _) (Below.refl _ _)
  ⟨h.os, h.tape, h.output, by simp, fun k hk hn => Below.heap_setCell A ⟨lb, j, none⟩ v k hn⟩
theorem StL.below {lb B B0 : Nat} {w A A' : World} (hb : Below B0 w A) (h : StL lb B A A') (h0 : B0 ≤ w.heap.size) (hl : B0 ≤ lb) : Below B0 w A' :=
  ⟨h.os.trans hb.os, h.tape.trans hb.tape, h.output.trans hb.output, Nat.le_trans hb.size h.size, fun k hk => (h.block k (Nat.lt_of_lt_of_le hk (Nat.le_trans h0 hb.size)) (by omega)).trans (hb.block k hk)⟩
theorem StL.frozen {lb B : Nat} {A A' : World} (h : StL lb B A A') {p : Addr} {v : Value} (hp : A.cell? p = some v) (hn : p.block ≠ lb) : A'.frozen? p = A.frozen? p := by
  obtain ⟨o, ho, hc⟩ := cells_of_cell hp
  exact World.frozen?_of_block (h.block _ (Array.getElem?_eq_some_iff.1 ho).1 hn)
theorem StL.set3 {lb B : Nat} {A : World} {v0 v1 v2 : Value} : StL lb B A (((A.setCell ⟨lb, 0, none⟩ v0).setCell ⟨lb, 1, none⟩ v1).setCell ⟨lb, 2, none⟩ v2) := StL.set.trans (StL.set.trans StL.set)
theorem StL.cell {lb B : Nat} {A A' : World} (h : StL lb B A A') {p : Addr} {v : Value} (hp : A.cell? p = some v) (hn : p.block ≠ lb) : A'.cell? p = some v := by
  obtain ⟨o, ho, hc⟩ := cells_of_cell hp
  exact (World.cell?_of_block (h.block _ (Array.getElem?_eq_some_iff.1 ho).1 hn)).trans hp
def KpO (B0 ob : Nat) (A B : World) : Prop := ∀ (k : Nat) (o : Obj), k < B0 → k ≠ ob → A.heap[k]? = some o → B.heap[k]? = some o
theorem kpO_t {B0 ob : Nat} {A B C : World} (h : KpO B0 ob A B) (k : KpO B0 ob B C) : KpO B0 ob A C := fun i o hi hn ho => k i o hi hn (h i o hi hn ho)
theorem KpO.eq {B0 ob : Nat} {A B : World} (h : KpO B0 ob A B) {k : Nat} (hk : k < B0) (hn : k ≠ ob) (hA : k < A.heap.size) : B.heap[k]? = A.heap[k]? := by
  have ho : A.heap[k]? = some A.heap[k] := Array.getElem?_eq_getElem hA
  rw [ho]; exact h k _ hk hn ho
theorem KpO.ck {B0 ob : Nat} {A B : World} (h : CK B0 A B) : KpO B0 ob A B := fun k o hk _ ho => h.same k o ho (.inl hk)
theorem RowsAt.keepB {α : Type} {m : Nat} {f : α → Nat → Value} {w w' : World} {A : Option Addr} {l : List α} (h : RowsAt m f w A l) (hs : w.heap.size ≤ w'.heap.size) (hk : ∀ k, k < w.heap.size → w'.heap[k]? = w.heap[k]?) : RowsAt m f w' A l := fun k x hx => by
  obtain ⟨b, off, e, hb, hc⟩ := h k x hx
  exact ⟨b, off, e, by omega, fun j hj => (World.cell?_of_block (hk _ hb)).trans (hc j hj)⟩
end Go.Proofs.YtlnbbioponmcfaaGreatDoor
