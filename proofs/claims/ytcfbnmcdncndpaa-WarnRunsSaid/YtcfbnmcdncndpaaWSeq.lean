/-
  A region that draws its order where the order is all but forced: walked piece by piece. Plain theorems, no program in sight.
-/
import Derived.Test.YtcfbnmcdncndpaaOrd
namespace Go.Proofs.Ytcfbnmcdncndpaa
open Go.ChangeShapes Go.WideShapes Go.ChangeAt Go.RowKit
set_option linter.unusedVariables false

section
variable {P : Program} {md : Region.Mode} {ops : Array Oper} {Q : Exit → Act → World → Prop}
/-- the operations k, k + 1, .. come up one by one -/
def chunkB (md : Region.Mode) (ops : Array Oper) : Nat → Nat → Array Bool → Bool
  | 0, _, _ => true
  | n + 1, k, listed => decide (Region.ready md ops listed = [k]) && chunkB md ops n (k + 1) (listed.setIfInBounds k true)
def setRange (listed : Array Bool) (k : Nat) : Nat → Array Bool
  | 0 => listed
  | n + 1 => setRange (listed.setIfInBounds k true) (k + 1) n
theorem wpAny_chunk_go {f : Nat} {K : Act → World → Prop} : ∀ (l : List Oper) (k : Nat) (listed : Array Bool) (a : Act) (w : World), (∀ j, j < l.length → l[j]? = ops[k + j]?) → chunkB md ops l.length k listed = true →
    (∀ a w, K a w → wpAny P md ops Q f (setRange listed k l.length) a w) → wpList P ops (Exit.then K Q) l a w → wpAny P md ops Q (l.length + f) listed a w
  | [], k, listed, a, w, _, _, hK, h => by
    have h1 : K a w := h
    simpa [setRange] using hK a w h1
  | o :: l, k, listed, a, w, hl, hB, hK, h => by
    have h0 : ops[k]? = some o := by simpa using (hl 0 (by simp)).symm
    simp only [List.length_cons, chunkB, Bool.and_eq_true, decide_eq_true_eq] at hB
    rw [show (o :: l).length + f = (l.length + f) + 1 by simp; omega]
    refine ⟨fun h1 => (by rw [hB.1] at h1; cases h1), fun i hi => ?_⟩
    rw [hB.1] at hi
    have hik : i = k := by simpa using hi
    subst hik
    have hw : wpOp P ops (Exit.then K Q) i (wpList P ops (Exit.then K Q) l) a w := by unfold wpOp; simp only [h0]; exact h
    have hw2 : wpOp P ops Q i (wpList P ops (Exit.then K Q) l) a w := hw
    exact wpOp_mono (fun a' w' h' => wpAny_chunk_go l (i + 1) _ a' w' (fun j hj => by have := hl (j + 1) (by simp; omega); simpa [Nat.add_assoc, Nat.add_comm 1 j] using this) hB.2 hK h') hw2
/-- n operations from k on, one by one; then the rest -/
theorem wpAny_chunk {L : List Oper} (n k f : Nat) {listed : Array Bool} {a : Act} {w : World} (hn : k + n ≤ L.length) (hB : chunkB md L.toArray n k listed = true)
    (h : ∀ K : Act → World → Prop, (∀ a w, wpAny P md L.toArray Q f (setRange listed k n) a w → K a w) → wpList P L.toArray (Exit.then K Q) ((L.drop k).take n) a w) : wpAny P md L.toArray Q (n + f) listed a w := by
  have hl : ((L.drop k).take n).length = n := by simp; omega
  have := wpAny_chunk_go (P := P) (md := md) (ops := L.toArray) (Q := Q) (f := f) (K := fun a w => wpAny P md L.toArray Q f (setRange listed k n) a w) ((L.drop k).take n) k listed a w (fun j hj => by
    rw [hl] at hj
    rw [List.getElem?_take, if_pos hj, List.getElem?_drop, List.getElem?_toArray]) (by rw [hl]; exact hB) (fun a w h => by rw [hl]; exact h) (h _ (fun a w h => h))
  rwa [hl] at this
/-- two may come up -/
theorem wpAny_two {f : Nat} {i j : Nat} {oi oj : Oper} {listed : Array Bool} {a : Act} {w : World} (hi : ops[i]? = some oi) (hj : ops[j]? = some oj) (hr : Region.ready md ops listed = [i, j])
    (h1 : ∀ K : Act → World → Prop, (∀ a w, wpAny P md ops Q f (listed.setIfInBounds i true) a w → K a w) → wpList P ops (Exit.then K Q) [oi] a w)
    (h2 : ∀ K : Act → World → Prop, (∀ a w, wpAny P md ops Q f (listed.setIfInBounds j true) a w → K a w) → wpList P ops (Exit.then K Q) [oj] a w) : wpAny P md ops Q (f + 1) listed a w := by
  refine ⟨fun h0 => (by rw [hr] at h0; cases h0), fun m hm => ?_⟩
  rw [hr] at hm
  rcases List.mem_cons.1 hm with rfl | hm
  · have h := h1 _ (fun a w h => h)
    have hw : wpOp P ops (Exit.then (fun a w => wpAny P md ops Q f (listed.setIfInBounds m true) a w) Q) m (wpList P ops (Exit.then (fun a w => wpAny P md ops Q f (listed.setIfInBounds m true) a w) Q) []) a w := by unfold wpOp; simp only [hi]; exact h
    exact hw
  · obtain rfl : m = j := by simpa using hm
    have h := h2 _ (fun a w h => h)
    have hw : wpOp P ops (Exit.then (fun a w => wpAny P md ops Q f (listed.setIfInBounds m true) a w) Q) m (wpList P ops (Exit.then (fun a w => wpAny P md ops Q f (listed.setIfInBounds m true) a w) Q) []) a w := by unfold wpOp; simp only [hj]; exact h
    exact hw
/-- i may be taken first -/
def firstB (md : Region.Mode) (ops : Array Oper) (i : Nat) (listed : Array Bool) : Bool :=
  (Region.ready md ops listed).contains i && Region.noSelect ops &&
  (List.range ops.size).all fun j => match ops[i]?, ops[j]? with
    | some oi, some oj => j == i || listed.getD j true || (oj.after.any fun e => Region.binds md e && e.on == i) || oi.apart ops oj
    | _, _ => true
theorem wpAny_fst {f : Nat} {oi : Oper} (i : Nat) (v : Value) {listed : Array Bool} {a : Act} {w : World} (hi : ops[i]? = some oi) (hQ : ∀ c a w, Q (.panic c) (a.put oi.dst v) w → Q (.panic c) a w) (hB : firstB md ops i listed = true) (hy : Yields P ops oi v a)
    (h : wpAny P md ops Q f (listed.setIfInBounds i true) (a.put oi.dst v) w) : wpAny P md ops Q (f + 1) listed a w := by
  simp only [firstB, Bool.and_eq_true] at hB
  obtain ⟨⟨hr, hsel⟩, hall⟩ := hB
  refine wpAny_first hi (fun j o cs b ho => Region.noSelect_spec hsel j o cs b ho) hQ f listed a w (fun j oj hj hne hl hd => ?_) (by rw [List.contains_eq_mem] at hr; simpa using hr) hy h
  have h1 := List.all_eq_true.1 hall j (List.mem_range.2 (Array.getElem?_eq_some_iff.1 hj).1)
  simp only [hi, hj, Bool.or_eq_true, beq_iff_eq] at h1
  rcases h1 with ((h1 | h1) | h1) | h1
  · exact absurd h1 hne
  · rw [hl] at h1; cases h1
  · obtain ⟨e, he, hb⟩ := Array.any_eq_true'.1 h1
    simp only [Bool.and_eq_true, beq_iff_eq] at hb
    exact absurd hb.2 (hd e he hb.1)
  · exact h1
end
end Go.Proofs.Ytcfbnmcdncndpaa
