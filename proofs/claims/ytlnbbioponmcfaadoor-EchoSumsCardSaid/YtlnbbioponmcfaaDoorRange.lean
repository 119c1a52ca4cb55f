/-
  A range over a function, where the iterator is a method value or a function that captured values: the iterator's contract names its own steps and what the body must keep. Plain theorems, no program in sight.
-/
import Derived.Test.YtlnbbioponmcfaaDoorApp
import Derived.RangeFuncWrites
import Derived.RangeFuncLeaves
import Derived.RangeFuncBox
import Derived.OwnWalkIn
import Derived.TacticsInMore
import Derived.LoopNIn
import Derived.LoopIn
import Derived.Deep.Quiet
import Derived.RangeFuncCalls
import Derived.BigQuiet
import Derived.OrdersIn
namespace Go.Proofs.YtlnbbioponmcfaaDoor
open Go.ChangeShapes Go.WideShapes Go.ChangeAt Go.RowKit
set_option linter.unusedVariables false

/-- blocks that hold no cells and lie from B on may turn, new ones may come; nothing else -/
structure CK (B : Nat) (A A' : World) : Prop where
  os : A'.os = A.os
  tape : A'.tape = A.tape
  output : A'.output = A.output
  size : A.heap.size ≤ A'.heap.size
  same : ∀ (k : Nat) (o : Obj), A.heap[k]? = some o → (k < B ∨ o.isCells = true) → A'.heap[k]? = some o
theorem CK.refl (B : Nat) (A : World) : CK B A A := ⟨rfl, rfl, rfl, Nat.le_refl _, fun _ _ h _ => h⟩
theorem CK.trans {B : Nat} {A A' A'' : World} (h : CK B A A') (k : CK B A' A'') : CK B A A'' :=
  ⟨k.os.trans h.os, k.tape.trans h.tape, k.output.trans h.output, Nat.le_trans h.size k.size, fun i o hi ho => k.same i o (h.same i o hi ho) ho⟩
theorem CK.alloc (B : Nat) (A : World) (o : Obj) : CK B A (A.alloc o) :=
  ⟨rfl, rfl, rfl, by simp, fun k o' hk _ => (Below.heap_alloc A o k (Array.getElem?_eq_some_iff.1 hk).1).trans hk⟩
theorem CK.put {B l : Nat} {A : World} {o : Obj} (o' : Obj) (hB : B ≤ l) (h : A.heap[l]? = some o) (ho : o.isCells = false) : CK B A (A.putObj l o') :=
  ⟨rfl, rfl, rfl, by simp, fun k x hk hx => by
    by_cases e : k = l
    · subst e
      rw [h] at hk
      obtain rfl := Option.some.inj hk
      rcases hx with hx | hx
      · omega
      · rw [ho] at hx; cases hx
    · exact (World.putObj_heap_other e).trans hk⟩
theorem CK.cell {B : Nat} {A A' : World} (h : CK B A A') {p : Addr} {v : Value} (hp : A.cell? p = some v) : A'.cell? p = some v := by
  obtain ⟨o, ho, hc⟩ := cells_of_cell hp
  exact (World.cell?_of_block ((h.same _ _ ho (.inr hc)).trans ho.symm)).trans hp
theorem CK.frozen {B : Nat} {A A' : World} (h : CK B A A') {p : Addr} {v : Value} (hp : A.cell? p = some v) : A'.frozen? p = A.frozen? p := by
  obtain ⟨o, ho, hc⟩ := cells_of_cell hp
  exact World.frozen?_of_block ((h.same _ _ ho (.inr hc)).trans ho.symm)
theorem CK.below {B : Nat} {w A A' : World} (hb : Below B w A) (h : CK B A A') (hB : B ≤ w.heap.size) : Below B w A' :=
  ⟨h.os.trans hb.os, h.tape.trans hb.tape, h.output.trans hb.output, Nat.le_trans hb.size h.size, fun k hk => by
    have e := hb.block k hk
    obtain ⟨o, ho⟩ : ∃ o, w.heap[k]? = some o := ⟨_, Array.getElem?_eq_getElem (by omega)⟩
    rw [ho] at e ⊢
    exact h.same k o e (.inl hk)⟩

theorem keepsOthers_drewN (W : World) (n : Nat) : KeepsOthers W (W.drewN n) := ⟨Nat.le_refl _, fun _ _ h _ => h⟩

/-- THE ITERATOR's CONTRACT: called with a yield whose rounds carry J on (or end it in Jx), it returns; all of S have come, or a part (V: what may come). Its own steps are St; what a round that goes on must keep: Kp. -/
def IterOk {α : Type} (P : Program) (n : Nat) (gf : Nat) (first lb : Array Value) (encs : α → Array Value) (St : Nat → World → World → Prop) (Kp : World → World → Prop) (S V : List α → Prop) (w0 : World) : Prop :=
  ∀ (l : Nat) (J Jx : List α → World → Prop) (W : World), Below w0.heap.size w0 W → (∀ s A B, J s A → W.heap.size ≤ A.heap.size → St W.heap.size A B → J s B) → (∀ s A B, Jx s A → W.heap.size ≤ A.heap.size → St W.heap.size A B → Jx s B) →
    (∀ pre x W1, J pre W1 → V (pre ++ [x]) → W.heap.size ≤ W1.heap.size → YieldAt Fence.wide (n - 1) P l (encs x) W1 fun e W' =>
      (e = .returned (.bool true) ∧ J (pre ++ [x]) W' ∧ Kp W1 W' ∧ W1.heap.size ≤ W'.heap.size) ∨ (e = .returned (.bool false) ∧ Jx (pre ++ [x]) W' ∧ W1.heap.size ≤ W'.heap.size)) →
    J [] W →
    CallsIn Fence.wide n P gf (first ++ #[.func (.yield l) #[] #[]] ++ lb) W fun e W' => (∃ v, e = .returned v) ∧ ((∃ xs, S xs ∧ J xs W') ∨ (∃ pre, V pre ∧ Jx pre W'))

theorem range_law {α : Type} {P : Program} {n : Nat} {g : Operand} {ps : Array Tmp} {assign body : Code} {Q : Exit → Act → World → Prop} {a : Act} {w : World}
    {gf : Nat} {first lb : Array Value} (hg : a.eval g = .func (.func gf) first lb) (eg : ∀ args w, (callFunc gf args).run P w = .ok (.enter gf args) w)
    {encs : α → Array Value} {St : Nat → World → World → Prop} {Kp : World → World → Prop} {S V : List α → Prop} {w0 : World} (hit : IterOk P (n - 1) gf first lb encs St Kp S V w0)
    (hSt : ∀ B A A', B ≤ A.heap.size → St B A A' → Below B A A') (hb0 : Below w0.heap.size w0 w) (hps : ∀ x, (encs x).size = ps.size)
    (hKt : ∀ {A B C : World}, Kp A B → Kp B C → Kp A C) (hKc : ∀ A B, CK w.heap.size A B → Kp A B)
    (I : List α → World → Prop) (Ix : Code → List α → World → Prop) (hIc : ∀ s A B, I s A → CK w.heap.size A B → I s B) (hXc : ∀ c s A B, Ix c s A → CK w.heap.size A B → Ix c s B)
    (hIs : ∀ B s A A', w.heap.size ≤ B → I s A → B ≤ A.heap.size → St B A A' → I s A') (hXs : ∀ B c s A A', w.heap.size ≤ B → Ix c s A → B ≤ A.heap.size → St B A A' → Ix c s A')
    (h0 : I [] w) (a₁ : α → Act)
    (hassign : ∀ (l : Nat) (x : α) (W : World) (K : Act → World → Prop), K (a₁ x) W →
      assign.wpIn (Fence.wide.inRound l) (n - 1 - 1) P (Exit.then K (fun _ _ _ => False)) { tmps := (ps.zip (encs x)).foldl (fun t (p, v) => t.setIfInBounds p v) a.tmps, defers := [] } W)
    (hbody : ∀ (l : Nat) (pre : List α) (x : α) (W : World), I pre W → V (pre ++ [x]) → body.wpIn (Fence.wide.inRound l) (n - 1 - 1) P (ownPostK Kp I Ix (pre ++ [x]) W) (a₁ x) W)
    (hdone : ∀ (D : Nat) (xs : List α) (W : World), w.heap.size ≤ D → S xs → I xs W → W.heap[D]? = some (.deferred (some [])) → Q .normal { a with defers := { target := .collected D, args := #[] } :: a.defers } W)
    (hstop : ∀ (D : Nat) (c : Code) (pre : List α) (W : World), w.heap.size ≤ D → V pre → Ix c pre W → W.heap[D]? = some (.deferred (some [])) → c.wpIn Fence.wide n P Q { a with defers := { target := .collected D, args := #[] } :: a.defers } W) :
    (Code.rangeFunc g ps assign body).wpIn Fence.wide n P Q a w := by
  refine wpIn_rangeFunc fun fn hfn => ?_
  have hwide : ∀ m : Nat, (Fence.wide.depth.isSome = true → 1 ≤ m) := fun m h => by cases h
  -- the two blocks
  let rec_ : LoopState → Option Code → Obj := fun st pe => .loop { state := st, pending := pe, fn := fn, tmps := a.tmps, params := ps, assign := assign, body := body, defers := w.heap.size }
  let W1 := (w.alloc (.deferred (some []))).alloc (rec_ .ready none)
  have hz : W1.heap.size = w.heap.size + 2 := by show ((w.alloc _).alloc _).heap.size = _; simp
  have hck : CK w.heap.size w W1 := (CK.alloc _ _ _).trans (CK.alloc _ _ _)
  have hL : W1.heap[w.heap.size + 1]? = some (rec_ .ready none) := by
    have h := World.alloc_heap_new (w.alloc (.deferred (some []))) (rec_ .ready none)
    rwa [World.size_alloc] at h
  have hD : W1.heap[w.heap.size]? = some (.deferred (some [])) := blk_alloc _ (World.alloc_heap_new w _)
  have hbw : Below w.heap.size w W1 := CK.below (Below.refl _ _) hck (Nat.le_refl _)
  refine ⟨w.heap.size + 1, [{ target := .collected w.heap.size, args := #[] }], W1, { target := .fn (.func gf) lb, args := first ++ #[.func (.yield (w.heap.size + 1)) #[] #[]] }, W1, gf,
    first ++ #[.func (.yield (w.heap.size + 1)) #[] #[]] ++ lb, W1, ?_, ?_, ?_, ?_, hwide _, ?_⟩
  · exact run_enterLoop_outer _ _ _ _ _
  · simp only [resolve, hg]; simp [go_sem]
  · intro f' _; trivial
  · simp [invoke, go_sem, eg]
  -- what is carried through the call beside the caller's own
  have keepL : ∀ {A A' : World} {o : Obj} {k : Nat}, k < W1.heap.size → A.heap[k]? = some o → W1.heap.size ≤ A.heap.size → St W1.heap.size A A' → A'.heap[k]? = some o := fun hk ho hs hst => ((hSt _ _ _ hs hst).block _ hk).trans ho
  refine (hit (w.heap.size + 1)
    (fun pre W => I pre W ∧ W.heap[w.heap.size + 1]? = some (rec_ .ready none) ∧ W.heap[w.heap.size]? = some (.deferred (some [])))
    (fun pre W => ∃ c, Ix c pre W ∧ W.heap[w.heap.size + 1]? = some (rec_ .done (some c)) ∧ W.heap[w.heap.size]? = some (.deferred (some [])))
    W1 (hb0.trans (hbw.mono hb0.size))
    (fun s A B hs hA hst => ⟨hIs _ s A B (by omega) hs.1 hA hst, keepL (by omega) hs.2.1 hA hst, keepL (by omega) hs.2.2 hA hst⟩)
    (fun s A B hs hA hst => by
      obtain ⟨c, h1, h2, h3⟩ := hs
      exact ⟨c, hXs _ c s A B (by omega) h1 hA hst, keepL (by omega) h2 hA hst, keepL (by omega) h3 hA hst⟩)
    ?_ ⟨hIc _ _ _ h0 hck, hL, hD⟩).mono ?_
  · -- one round
    rintro pre x W ⟨hi, hl, hd⟩ hlen hWs
    have hlt : w.heap.size + 1 < W.heap.size := by omega
    have hy := run_yield (P := P) (args := encs x) hl (hps x)
    let Wb := W.putObj (w.heap.size + 1) (rec_ .busy none)
    have hckb : CK w.heap.size W Wb := CK.put _ (by omega) hl rfl
    have hl2 : Wb.heap[w.heap.size + 1]? = some (rec_ .busy none) := World.putObj_heap_same hlt
    have hd2 : Wb.heap[w.heap.size]? = some (.deferred (some [])) := (World.putObj_heap_other (by omega)).trans hd
    refine ⟨fn, _, assign, body, hy, roundIn_of_wpIn hfn (hassign _ x W _ ⟨Wb, run_beginRound hl rfl, ?_⟩)⟩
    refine wpIn_mono (hbody _ pre x Wb (hIc _ _ _ hi hckb) hlen) ?_
    have fin : ∀ (jump : Option Code) (W3 : World), KeepsOthers Wb W3 →
        (Instr.endRound (w.heap.size + 1) jump).run P W3 = .ok (.bool jump.isNone) (W3.putObj (w.heap.size + 1) (rec_ (if jump.isNone then .ready else .done) jump)) ∧
        CK w.heap.size W3 (W3.putObj (w.heap.size + 1) (rec_ (if jump.isNone then .ready else .done) jump)) ∧
        (W3.putObj (w.heap.size + 1) (rec_ (if jump.isNone then .ready else .done) jump)).heap[w.heap.size + 1]? = some (rec_ (if jump.isNone then .ready else .done) jump) ∧
        (W3.putObj (w.heap.size + 1) (rec_ (if jump.isNone then .ready else .done) jump)).heap[w.heap.size]? = some (.deferred (some [])) ∧
        W.heap.size ≤ (W3.putObj (w.heap.size + 1) (rec_ (if jump.isNone then .ready else .done) jump)).heap.size := fun jump W3 hk3 => by
      have hl3 := hk3.same _ _ hl2 rfl
      have hd3 := hk3.same _ _ hd2 rfl
      refine ⟨run_endRound (P := P) jump hl3, CK.put _ (by omega) hl3 rfl, World.putObj_heap_same (Array.getElem?_eq_some_iff.1 hl3).1, (World.putObj_heap_other (by omega)).trans hd3, ?_⟩
      have := hk3.size
      simp only [World.putObj_size]
      have e : Wb.heap.size = W.heap.size := World.putObj_size
      omega
    rintro e a3 W3 hp
    cases e with
    | normal =>
      obtain ⟨hk3, hkp, hi3⟩ := hp
      obtain ⟨hr, hc, hl4, hd4, hs⟩ := fin none W3 hk3
      exact ⟨_, _, hr, .inl ⟨rfl, ⟨hIc _ _ _ hi3 hc, hl4, hd4⟩, hKt (hKc _ _ hckb) (hKt hkp (hKc _ _ hc)), hs⟩⟩
    | ret =>
      obtain ⟨hk3, hi3⟩ := hp
      obtain ⟨hr, hc, hl4, hd4, hs⟩ := fin (some .ret) W3 hk3
      exact ⟨_, _, hr, .inr ⟨rfl, ⟨.ret, hXc _ _ _ _ hi3 hc, hl4, hd4⟩, hs⟩⟩
    | exit id =>
      obtain ⟨hk3, hi3⟩ := hp
      obtain ⟨hr, hc, hl4, hd4, hs⟩ := fin (some (.exit id)) W3 hk3
      exact ⟨_, _, hr, .inr ⟨rfl, ⟨.exit id, hXc _ _ _ _ hi3 hc, hl4, hd4⟩, hs⟩⟩
    | goto t =>
      obtain ⟨hk3, hi3⟩ := hp
      obtain ⟨hr, hc, hl4, hd4, hs⟩ := fin (some (.goto t)) W3 hk3
      exact ⟨_, _, hr, .inr ⟨rfl, ⟨.goto t, hXc _ _ _ _ hi3 hc, hl4, hd4⟩, hs⟩⟩
    | panic ch => exact hp.elim
    | outgrown => exact hp.elim
  · -- behind the call
    rintro e W2 ⟨⟨v, rfl⟩, h⟩
    rcases h with ⟨xs, hS, hi, hl, hd⟩ | ⟨pre, hSp, c, hi, hl, hd⟩
    · have hc : CK w.heap.size W2 (W2.putObj (w.heap.size + 1) (rec_ .exhausted none)) := CK.put _ (by omega) hl rfl
      exact ⟨none, _, run_endLoop (P := P) hl (by simp), hdone _ xs _ (Nat.le_refl _) hS (hIc _ _ _ hi hc) ((World.putObj_heap_other (by omega)).trans hd)⟩
    · have hc : CK w.heap.size W2 (W2.putObj (w.heap.size + 1) (rec_ .exhausted (some c))) := CK.put _ (by omega) hl rfl
      exact ⟨some c, _, run_endLoop (P := P) hl (by simp), hstop _ c pre _ (Nat.le_refl _) hSp (hXc _ _ _ _ hi hc) ((World.putObj_heap_other (by omega)).trans hd)⟩

/-! A region that draws its order, inside a round: one walk in the order of the text, where its operations and callees only read. -/
def noDefer (o : Oper) : Bool := match o.op with | .defer _ => false | _ => true
theorem noDefer_ne {o : Oper} (h : noDefer o = true) (c : Call) : o.op ≠ .defer c := fun e => by simp [noDefer, e] at h
section
variable {P : Program} {n lp : Nat} {ops : Array Oper} {C : World → Prop}
theorem wpIn_of_quiet_round {o : Oper} {a : Act} {K : Act → Prop} {K' : Act → World → Prop} {Q' : Exit → Act → World → Prop} {w : World} (hd : noDefer o = true) (hw : C w) (h : ∀ a w', C w' → K a → K' a w') (hh : o.quiet P a C K) :
    o.wpIn (Fence.wide.inRound lp) n P a w K' Q' := by
  obtain ⟨v, h1, h2⟩ := hh
  have h3 := h1 w hw
  refine ⟨fun _ _ => trivial, ?_⟩
  rw [Oper.semAt_eq _ _ _ (noDefer_ne hd)]
  unfold Oper.quietAt at h3
  generalize (execOp a.eval o).run P w = r at *
  cases r with
  | halt x w' => exact h3.elim
  | ok x w' =>
    cases x with
    | value u => obtain ⟨rfl, rfl⟩ := h3; exact h _ _ hw h2
    | skip => obtain ⟨rfl, rfl⟩ := h3; exact h _ _ hw h2
    | enter f args =>
      obtain ⟨rfl, hc⟩ := h3
      refine ⟨(fun e => by cases e), CallsIn.inRound lp (callsIn_wide.2 (hc.mono fun e w'' hx => ?_))⟩
      obtain ⟨rfl, hx⟩ := hx
      exact h _ _ hx h2
    | _ => exact h3.elim
theorem wpAnyIn_of_quiet_round {Q : Act → Prop} {Q' : Exit → Act → World → Prop} (hd : ∀ (i : Nat) (o : Oper), ops[i]? = some o → noDefer o = true) (hQ : ∀ a w, C w → Q a → Q' .normal a w) : ∀ (fuel : Nat) (listed : Array Bool) (a : Act) (w : World), C w →
    wpAnyQ P .any ops C Q fuel listed a → wpAnyIn (Fence.wide.inRound lp) n P .any ops Q' fuel listed a w
  | 0, _, _, _, hw, h => ⟨h.1, hQ _ _ hw h.2⟩
  | fuel + 1, listed, a, w, hw, h => ⟨fun h0 => hQ _ _ hw (h.1 h0), fun i hi => by
    have hq := h.2 i hi
    unfold qOp at hq
    unfold wpOpIn
    cases ho : ops[i]? with
    | none => simp only [ho] at hq ⊢; exact wpAnyIn_of_quiet_round hd hQ fuel _ _ _ hw hq
    | some o =>
      simp only [ho] at hq ⊢
      by_cases hwt : Region.wanted o (yielded ops a.tmps) = true
      · simp only [hwt, if_true] at hq ⊢
        exact wpIn_of_quiet_round (hd i o ho) hw (fun a' w' hw' => wpAnyIn_of_quiet_round hd hQ fuel _ a' w' hw') hq
      · simp only [hwt] at hq ⊢
        exact ⟨fun _ _ => trivial, wpAnyIn_of_quiet_round hd hQ fuel _ _ _ hw hq⟩⟩
theorem round_quiet {id : Nat} {Q : Exit → Act → World → Prop} {a : Act} {w : World} {l : List Oper} (hm : P.follows .mixedOrders = true) (hB : Region.lexB .any l.toArray = true) (hd : l.all noDefer = true)
    (h : wpQuiet P l.toArray (fun w' => ∃ n, w' = w.drewN n) (fun a' => ∀ w', (∃ n, w' = w.drewN n) → Q .normal a' w') l a) : (Code.region id l.toArray true).wpIn (Fence.wide.inRound lp) n P Q a w := by
  simp only [Region.lexB, Bool.and_eq_true] at hB
  have hd' : ∀ (i : Nat) (o : Oper), l.toArray[i]? = some o → noDefer o = true := fun i o hi => by
    rw [List.getElem?_toArray] at hi
    exact List.all_eq_true.1 hd o (List.mem_of_getElem? hi)
  refine wpIn_region_any hm (wpAnyIn_of_quiet_round hd' (Q := fun a' => ∀ w', (∃ n, w' = w.drewN n) → Q .normal a' w') (fun _ w' hw' h => h w' hw') _ _ _ _ ⟨1, rfl⟩ ?_)
  have := wpAnyQ_lex (C := fun w' => ∃ n, w' = w.drewN n) (md := .any) hB.1 l.toArray.toList 0 (Array.replicate l.toArray.size false) a (by simp) (by simpa using hB.2) (by simpa using h)
  simpa using this
end
end Go.Proofs.YtlnbbioponmcfaaDoor
