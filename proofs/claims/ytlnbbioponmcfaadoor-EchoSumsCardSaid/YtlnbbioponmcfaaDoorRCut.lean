/-
  A drawn region whose last operations wait for all the others is cut in two: the head in whatever order, then the tail as a list.
-/
import Derived.StillTail
import Derived.Deep.RegionHeld3
namespace Go.Proofs.YtlnbbioponmcfaaDoor
set_option linter.unusedVariables false
set_option linter.unusedSimpArgs false
open Go

section
variable {P : Program} {Q : Exit → Act → World → Prop} {md : Region.Mode}

theorem wpAny_more {ops : Array Oper} : ∀ (f : Nat) (listed : Array Bool) (a : Act) (w : World), wpAny P md ops Q f listed a w → wpAny P md ops Q (f + 1) listed a w
  | 0, listed, a, w, h => ⟨fun _ => h.2, fun i hi => by rw [h.1] at hi; cases hi⟩
  | f + 1, listed, a, w, h => ⟨h.1, fun i hi => wpOp_mono (fun a' w' h' => wpAny_more f _ a' w' h') (h.2 i hi)⟩
theorem wpAny_more' {ops : Array Oper} {f : Nat} {listed : Array Bool} {a : Act} {w : World} (h : wpAny P md ops Q f listed a w) : ∀ k, wpAny P md ops Q (k + f) listed a w
  | 0 => by rw [Nat.zero_add]; exact h
  | k + 1 => by rw [show k + 1 + f = (k + f) + 1 by omega]; exact wpAny_more _ _ _ _ (wpAny_more' h k)

/-- A head's operation bears no guard and waits for earlier ones alone. -/
def headB (md : Region.Mode) (ops : Array Oper) (n : Nat) : Bool :=
  (List.range n).all fun j => match ops[j]? with
    | some o => o.guard.isNone && o.after.all (fun e => !Region.binds md e || decide (e.on < j))
    | none => false
def cutB (md : Region.Mode) (ops : Array Oper) (n : Nat) : Bool :=
  decide (n < ops.size) && headB md ops n && Region.sinkB md ops n && Region.chainB md ops n &&
    Region.seqB md ops (ops.size - n) n (Array.replicate n true ++ Array.replicate (ops.size - n) false)

theorem wpOp_then {ops ops1 : Array Oper} {T : Act → World → Prop} {i : Nat} {o : Oper} {K K' : Act → World → Prop} {a : Act} {w : World} (h0 : ops[i]? = some o) (h1 : ops1[i]? = some o)
    (hg : o.guard = none) (hK : ∀ a w, K a w → K' a w) (h : wpOp P ops1 (Exit.then T Q) i K a w) : wpOp P ops Q i K' a w := by
  unfold wpOp at *
  simp only [h0, h1] at h ⊢
  have hw : ∀ ys, Region.wanted o ys = true := fun ys => by unfold Region.wanted; rw [hg]
  rw [if_pos (hw _)] at h ⊢
  refine h.imp (fun h => ?_) (fun h => ⟨h.1, ?_⟩)
  · unfold Oper.wp at *
    generalize (execOp a.eval o).run P w = r at *
    cases r with
    | ok n w' =>
      cases n <;> simp only [Oper.upon] at h ⊢ <;>
        first
          | exact hK _ _ h
          | exact Calls.mono h (fun e w'' he => by cases e <;> first | exact hK _ _ he | exact he)
          | exact Rows.mono h (fun _ _ he => hK _ _ he)
    | halt x w' => cases x <;> simp only [Oper.upon] at h ⊢ <;> exact h
  · exact h.2

theorem getD_append_left {l1 : Array Bool} {g j : Nat} {d : Bool} (h : j < l1.size) : (l1 ++ Array.replicate g false).getD j d = l1.getD j d := by
  simp [Array.getD, h, Nat.lt_of_lt_of_le h (Nat.le_add_right _ _), Array.getElem_append_left]

theorem set_append_left {l1 : Array Bool} {g j : Nat} (h : j < l1.size) : (l1 ++ Array.replicate g false).setIfInBounds j true = l1.setIfInBounds j true ++ Array.replicate g false := by
  apply Array.ext_getElem?
  intro k
  rw [Array.getElem?_setIfInBounds, Array.getElem?_append, Array.getElem?_append, Array.getElem?_setIfInBounds]
  have hs : (l1.setIfInBounds j true).size = l1.size := by simp
  have hs2 : (l1 ++ Array.replicate g false).size = l1.size + g := by simp
  rw [hs, hs2]
  by_cases hjk : j = k
  · subst hjk
    simp [h, Nat.lt_of_lt_of_le h (Nat.le_add_right _ _)]
  · simp [hjk]

theorem wpAny_cut {l1 l2 : List Oper} {T : Act → World → Prop} (hH : headB md (l1 ++ l2).toArray l1.length = true) (hs : Region.sinkB md (l1 ++ l2).toArray l1.length = true)
    (hc : Region.chainB md (l1 ++ l2).toArray l1.length = true) (hl2 : 0 < l2.length)
    (hT : ∀ a w, T a w → wpAny P md (l1 ++ l2).toArray Q l2.length (Array.replicate l1.length true ++ Array.replicate l2.length false) a w) :
    ∀ (f : Nat) (lt : Array Bool) (a : Act) (w : World), lt.size = l1.length → HeadInv md (l1 ++ l2).toArray l1.length (lt ++ Array.replicate l2.length false) →
      wpAny P md l1.toArray (Exit.then T Q) f lt a w → wpAny P md (l1 ++ l2).toArray Q (f + l2.length) (lt ++ Array.replicate l2.length false) a w := by
  have hget : ∀ j, j < l1.length → (l1 ++ l2).toArray[j]? = l1.toArray[j]? := fun j hj => by simp [List.getElem?_append_left hj]
  have hhead : ∀ (j : Nat) (o : Oper), l1.toArray[j]? = some o → o.guard = none ∧ ∀ e ∈ o.after, Region.binds md e = true → e.on < j := fun j o ho => by
    have hj : j < l1.length := by simpa using (Array.getElem?_eq_some_iff.1 ho).1
    have h := List.all_eq_true.1 hH j (List.mem_range.2 hj)
    rw [hget j hj, ho] at h
    simp only [Bool.and_eq_true] at h
    refine ⟨by simpa using h.1, fun e he hb => ?_⟩
    have := Array.all_eq_true_iff_forall_mem.1 h.2 e he
    simpa [hb] using this
  -- an unlisted head leaves one that may come up
  have hmin : ∀ (lt : Array Bool), lt.size = l1.length → ∀ j, j < l1.length → lt.getD j true = false → ∃ i, i ∈ Region.ready md l1.toArray lt := by
    intro lt hsz j
    induction j using Nat.strongRecOn with
    | _ j ih =>
      intro hj hun
      by_cases hall : ∃ k, k < j ∧ lt.getD k true = false
      · obtain ⟨k, hk, hku⟩ := hall
        exact ih k hk (by omega) hku
      · have hall' : ∀ k, k < j → lt.getD k false = true := fun k hk => by
          have hks : k < lt.size := by omega
          have : ¬ lt.getD k true = false := fun e => hall ⟨k, hk, e⟩
          simp [hks] at this ⊢
          exact this
        obtain ⟨o, ho⟩ : ∃ o, l1.toArray[j]? = some o := ⟨l1[j], by simp [hj]⟩
        exact ⟨j, mem_ready.2 ⟨hun, o, ho, fun e he hb => hall' _ ((hhead j o ho).2 e he hb)⟩⟩
  have hdone : ∀ (lt : Array Bool), lt.size = l1.length → Region.ready md l1.toArray lt = [] → lt = Array.replicate l1.length true := fun lt hsz hr => by
    apply Array.ext
    · simpa using hsz
    · intro k h1 h2
      rw [Array.getElem_replicate]
      rcases hb : lt[k] with _ | _
      · obtain ⟨i, hi⟩ := hmin lt hsz k (by omega) (by simp [h1, hb])
        rw [hr] at hi
        cases hi
      · rfl
  intro f
  induction f with
  | zero =>
    intro lt a w hsz _ h
    rw [Nat.zero_add, hdone lt hsz h.1]
    exact hT _ _ h.2
  | succ f ih =>
    intro lt a w hsz inv h
    by_cases hr : Region.ready md l1.toArray lt = []
    · have h2 := h.1 hr
      rw [hdone lt hsz hr]
      exact wpAny_more' (hT _ _ h2) _
    · rw [show f + 1 + l2.length = (f + l2.length) + 1 by omega]
      obtain ⟨i0, hi0⟩ := List.exists_mem_of_ne_nil _ hr
      have hi0' := mem_ready.1 hi0
      obtain ⟨hi0u, o0, ho0, _⟩ := hi0'
      have hi0l : i0 < l1.length := by simpa using (Array.getElem?_eq_some_iff.1 ho0).1
      have hnot := tail_waits hs hc (by simp; omega) inv _ i0 rfl hi0l (by rw [getD_append_left (by omega)]; exact hi0u)
      have hin : ∀ i, i ∈ Region.ready md (l1 ++ l2).toArray (lt ++ Array.replicate l2.length false) → i ∈ Region.ready md l1.toArray lt := fun i hi => by
        have hil : i < l1.length := by
          rcases Nat.lt_or_ge i l1.length with h' | h'
          · exact h'
          · exact absurd hi (hnot i h')
        obtain ⟨hu, o, ho, hall⟩ := mem_ready.1 hi
        rw [hget i hil] at ho
        refine mem_ready.2 ⟨by rw [← getD_append_left (g := l2.length) (by omega)]; exact hu, o, ho, fun e he hb => ?_⟩
        have := (hhead i o ho).2 e he hb
        rw [← getD_append_left (g := l2.length) (by omega)]
        exact hall e he hb
      have hout : i0 ∈ Region.ready md (l1 ++ l2).toArray (lt ++ Array.replicate l2.length false) := by
        obtain ⟨hu, o, ho, hall⟩ := mem_ready.1 hi0
        refine mem_ready.2 ⟨by rw [getD_append_left (by omega)]; exact hu, o, by rw [hget i0 hi0l]; exact ho, fun e he hb => ?_⟩
        have := (hhead i0 o ho).2 e he hb
        rw [getD_append_left (by omega)]
        exact hall e he hb
      refine ⟨fun h0 => (by rw [h0] at hout; cases hout), fun i hi => ?_⟩
      have hi1 := hin i hi
      obtain ⟨hu, o, ho, _⟩ := mem_ready.1 hi1
      have hil : i < l1.length := by simpa using (Array.getElem?_eq_some_iff.1 ho).1
      have hset := set_append_left (g := l2.length) (show i < lt.size by omega)
      refine wpOp_then (T := T) (ops1 := l1.toArray) (by rw [hget i hil]; exact ho) ho (hhead i o ho).1 (fun a' w' h' => ?_) (h.2 i hi1)
      rw [hset]
      exact ih _ a' w' (by simpa using hsz) (by rw [← hset]; exact inv.set hi hil) h'

/-- The beginning: the head under S, the tail behind it. -/
theorem wp_region_cut {id : Nat} {l1 l2 : List Oper} {S : World → Prop} {a : Act} {w : World} (hm : P.follows .mixedOrders = true) (hB : cutB .any (l1 ++ l2).toArray l1.length = true) (hS : S w.drew)
    (h : S w.drew → wpAnyH P .any l1.toArray (Exit.then (fun a w => wpList P (l1 ++ l2).toArray Q l2 a w) Q) S l1.length (Array.replicate l1.length false) a w.drew) :
    (Code.region id (l1 ++ l2).toArray true).wp P Q a w := by
  simp only [cutB, Bool.and_eq_true, decide_eq_true_eq] at hB
  obtain ⟨⟨⟨⟨hn, hH⟩, hs⟩, hc⟩, hseq⟩ := hB
  have hl2 : 0 < l2.length := by simpa using hn
  have hsz : (l1 ++ l2).toArray.size - l1.length = l2.length := by simp
  rw [hsz] at hseq
  refine wp_region_any hm ?_
  have hrep : Array.replicate (l1 ++ l2).toArray.size false = Array.replicate l1.length false ++ Array.replicate l2.length false := by
    apply Array.ext
    · simp
    · intro k h1 h2
      rw [Array.getElem_replicate]
      rw [Array.getElem_append]
      split <;> simp
  have := wpAny_cut (P := P) (Q := Q) (md := .any) (l1 := l1) (l2 := l2) (T := fun a w => wpList P (l1 ++ l2).toArray Q l2 a w) hH hs hc hl2
    (fun a w h => wpAny_of_seq l2 l1.length _ a w (fun j => by rw [List.getElem?_toArray, List.getElem?_append_right (Nat.le_add_right _ _), Nat.add_sub_cancel_left]) hseq h) l1.length (Array.replicate l1.length false) a w.drew (by simp)
    (by
      rw [← hrep]
      exact ⟨by simp, fun j oj _ hl => (by rw [getD_replicate_false] at hl; cases hl), fun t _ ht => getD_in (by simpa using ht) (getD_replicate_false _ _)⟩)
    (wpAny_of_held _ _ _ _ (h hS))
  rw [hrep, show (l1 ++ l2).toArray.size = l1.length + l2.length by simp]
  exact this

theorem wp_region_cut_at {id : Nat} (n : Nat) {l : List Oper} {S : World → Prop} {a : Act} {w : World} (hm : P.follows .mixedOrders = true) (hB : cutB .any l.toArray n = true) (hS : S w.drew)
    (h : S w.drew → wpAnyH P .any (l.take n).toArray (Exit.then (fun a w => wpList P l.toArray Q (l.drop n) a w) Q) S n (Array.replicate n false) a w.drew) :
    (Code.region id l.toArray true).wp P Q a w := by
  have hn : n ≤ l.length := by
    simp only [cutB, Bool.and_eq_true, decide_eq_true_eq] at hB
    have := hB.1.1.1.1
    simp only [List.size_toArray] at this
    omega
  have e := List.take_append_drop n l
  have hl : (l.take n).length = n := by simp; omega
  have := wp_region_cut (P := P) (Q := Q) (id := id) (l1 := l.take n) (l2 := l.drop n) (S := S) (a := a) (w := w) hm (by rw [e, hl]; exact hB) hS (by rw [e, hl]; exact h)
  rwa [e] at this

theorem get_of_drop {l : List Oper} {i : Nat} {o : Oper} {r : List Oper} (h : l.drop i = o :: r) : l.toArray[i]? = some o := by
  have := congrArg (fun x => x[0]?) h
  simp only [List.getElem?_drop, Nat.add_zero, List.getElem?_cons_zero] at this
  simpa using this
theorem takeH {S : World → Prop} {l r : List Oper} {i : Nat} {oi : Oper} {v : Value} {fuel : Nat} {listed : Array Bool} {a : Act} {w : World} (hi : l.drop i = oi :: r)
    (hs : Region.noSelect l.toArray = true) (hf : Region.free md l.toArray listed i = true) (hr : (Region.ready md l.toArray listed).contains i = true)
    (hQ : ∀ c a w, Q (.panic c) (a.put oi.dst v) w → Q (.panic c) a w) (hg : oi.guard = none) (hy : ∀ w, S w → (execOp a.eval oi).run P w = .ok (.value v) w) (hS : S w)
    (h : wpAnyH P md l.toArray Q S fuel (listed.setIfInBounds i true) (a.put oi.dst v) w) : wpAnyH P md l.toArray Q S (fuel + 1) listed a w :=
  wpAnyH_take (get_of_drop hi) hs hf hr hQ (.inl ⟨by unfold Region.wanted; rw [hg], hy⟩) hS h
theorem consH {S : World → Prop} {l r : List Oper} {fuel : Nat} {listed : Array Bool} {a : Act} {w : World} {i : Nat} {o : Oper} {rs : List Nat} (ho : l.drop i = o :: r)
    (h : ∀ K' : Act → World → Prop, Shut (∀ a w, S w → (S w → wpAnyH P md l.toArray Q S fuel (listed.setIfInBounds i true) a w) → K' a w) → if Region.wanted o (yielded l.toArray a.tmps) = true then Oper.wp P o a w K' Q else K' (a.put o.dst undef) w)
    (hs : AllReadyH P md l.toArray Q S fuel listed a w rs) : AllReadyH P md l.toArray Q S fuel listed a w (i :: rs) :=
  AllReadyH.cons (get_of_drop ho) h hs
end
end Go.Proofs.YtlnbbioponmcfaaDoor
