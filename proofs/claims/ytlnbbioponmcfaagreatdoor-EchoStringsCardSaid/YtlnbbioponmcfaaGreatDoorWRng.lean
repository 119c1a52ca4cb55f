/-
  Ranges over a function whose iterator writes an older block (and tells of it at the end), whose assignments lay a box; regions that draw their order inside a fence. Plain theorems, no program in sight.
-/
import Derived.Test.YtlnbbioponmcfaaGreatDoorOrd
namespace Go.Proofs.YtlnbbioponmcfaaGreatDoor
open Go.ChangeShapes Go.WideShapes Go.ChangeAt Go.RowKit
set_option linter.unusedVariables false

def IterOk2 {α : Type} (P : Program) (n : Nat) (gf : Nat) (first lb : Array Value) (encs : α → Array Value) (St : Nat → World → World → Prop) (Kp : World → World → Prop) (S V : List α → Prop) (F : List α → World → Prop) (w0 : World) : Prop :=
  ∀ (l : Nat) (J Jx : List α → World → Prop) (W : World), Below w0.heap.size w0 W → (∀ s A B, J s A → W.heap.size ≤ A.heap.size → St W.heap.size A B → J s B) → (∀ s A B, Jx s A → W.heap.size ≤ A.heap.size → St W.heap.size A B → Jx s B) →
    (∀ pre x W1, J pre W1 → V (pre ++ [x]) → W.heap.size ≤ W1.heap.size → YieldAt Fence.wide (n - 1) P l (encs x) W1 fun e W' =>
      (e = .returned (.bool true) ∧ J (pre ++ [x]) W' ∧ Kp W1 W' ∧ W1.heap.size ≤ W'.heap.size) ∨ (e = .returned (.bool false) ∧ Jx (pre ++ [x]) W' ∧ W1.heap.size ≤ W'.heap.size)) →
    J [] W →
    CallsIn Fence.wide n P gf (first ++ #[.func (.yield l) #[] #[]] ++ lb) W fun e W' => (∃ v, e = .returned v) ∧ ((∃ xs, S xs ∧ J xs W' ∧ F xs W') ∨ (∃ pre, V pre ∧ Jx pre W'))

theorem range_law2 {α : Type} {P : Program} {n : Nat} {g : Operand} {ps : Array Tmp} {assign body : Code} {Q : Exit → Act → World → Prop} {a : Act} {w : World}
    {gf : Nat} {first lb : Array Value} (hg : a.eval g = .func (.func gf) first lb) (eg : ∀ args w, (callFunc gf args).run P w = .ok (.enter gf args) w)
    {encs : α → Array Value} {St : Nat → World → World → Prop} {Kp : World → World → Prop} {S V : List α → Prop} {F : List α → World → Prop} (hit : IterOk2 P (n - 1) gf first lb encs St Kp S V F w)
    (hSt : ∀ B A A' k o, w.heap.size ≤ k → k < B → B ≤ A.heap.size → St B A A' → A.heap[k]? = some o → A'.heap[k]? = some o) (hps : ∀ x, (encs x).size = ps.size)
    (hKt : ∀ {A B C : World}, Kp A B → Kp B C → Kp A C) (hKc : ∀ A B, CK w.heap.size A B → Kp A B)
    (I : List α → World → Prop) (Ix : Code → List α → World → Prop) (hIc : ∀ s A B, I s A → CK w.heap.size A B → I s B) (hXc : ∀ c s A B, Ix c s A → CK w.heap.size A B → Ix c s B)
    (hIs : ∀ B s A A', w.heap.size ≤ B → I s A → B ≤ A.heap.size → St B A A' → I s A') (hXs : ∀ B c s A A', w.heap.size ≤ B → Ix c s A → B ≤ A.heap.size → St B A A' → Ix c s A')
    (hFc : ∀ s A B, F s A → CK w.heap.size A B → F s B)
    (h0 : I [] w) (A1 : α → Act → World → Prop) (hAc : ∀ x act A B, A1 x act A → CK w.heap.size A B → A1 x act B)
    (hassign : ∀ (l : Nat) (x : α) (W : World) (K : Act → World → Prop), w.heap.size ≤ W.heap.size → (∀ act W', KeepsOthers W W' → CK w.heap.size W W' → A1 x act W' → K act W') →
      assign.wpIn (Fence.wide.inRound l) (n - 1 - 1) P (Exit.then K (fun _ _ _ => False)) { tmps := (ps.zip (encs x)).foldl (fun t (p, v) => t.setIfInBounds p v) a.tmps, defers := [] } W)
    (hbody : ∀ (l : Nat) (pre : List α) (x : α) (act : Act) (W : World), I pre W → V (pre ++ [x]) → A1 x act W → body.wpIn (Fence.wide.inRound l) (n - 1 - 1) P (ownPostK Kp I Ix (pre ++ [x]) W) act W)
    (hdone : ∀ (D : Nat) (xs : List α) (W : World), w.heap.size ≤ D → S xs → I xs W → F xs W → W.heap[D]? = some (.deferred (some [])) → Q .normal { a with defers := { target := .collected D, args := #[] } :: a.defers } W)
    (hstop : ∀ (D : Nat) (c : Code) (pre : List α) (W : World), w.heap.size ≤ D → V pre → Ix c pre W → W.heap[D]? = some (.deferred (some [])) → c.wpIn Fence.wide n P Q { a with defers := { target := .collected D, args := #[] } :: a.defers } W) :
    (Code.rangeFunc g ps assign body).wpIn Fence.wide n P Q a w := by
  refine wpIn_rangeFunc fun fn hfn => ?_
  have hwide : ∀ m : Nat, (Fence.wide.depth.isSome = true → 1 ≤ m) := fun m h => by cases h
  -- the two blocks
  let rec_ : LoopState → Option Code → Obj := fun st pe => .loop { state := st, pending := pe, fn := fn, tmps := a.tmps, params := ps, assign := assign, body := body, defers := w.heap.size }
  let W1 := (w.alloc (.deferred (some []))).alloc (rec_ .ready none)
  have hz : W1.heap.size = w.heap.size + 2 := by show ((w.alloc _).alloc _).heap.size = _; simp
  have hck : CK w.heap.size w W1 := (CK.alloc _ _ _).trans (CK.alloc _ _ _)
  have hL : W1.heap[w.heap.size + 1]? = some (rec_ .ready none) := by
    have h := World.alloc_heap_new (w.alloc (.deferred (some []))) (rec_ .ready none)
    rwa [World.size_alloc] at h
  have hD : W1.heap[w.heap.size]? = some (.deferred (some [])) := blk_alloc _ (World.alloc_heap_new w _)
  have hbw : Below w.heap.size w W1 := CK.below (Below.refl _ _) hck (Nat.le_refl _)
  refine ⟨w.heap.size + 1, [{ target := .collected w.heap.size, args := #[] }], W1, { target := .fn (.func gf) lb, args := first ++ #[.func (.yield (w.heap.size + 1)) #[] #[]] }, W1, gf,
    first ++ #[.func (.yield (w.heap.size + 1)) #[] #[]] ++ lb, W1, ?_, ?_, ?_, ?_, hwide _, ?_⟩
  · exact run_enterLoop_outer _ _ _ _ _
  · simp only [resolve, hg]; simp [go_sem]
  · intro f' _; trivial
  · simp [invoke, go_sem, eg]
  -- what is carried through the call beside the caller's own
  have keepL : ∀ {A A' : World} {o : Obj} {k : Nat}, w.heap.size ≤ k → k < W1.heap.size → A.heap[k]? = some o → W1.heap.size ≤ A.heap.size → St W1.heap.size A A' → A'.heap[k]? = some o := fun hk0 hk ho hs hst => hSt _ _ _ _ _ hk0 hk hs hst ho
  refine (hit (w.heap.size + 1)
    (fun pre W => I pre W ∧ W.heap[w.heap.size + 1]? = some (rec_ .ready none) ∧ W.heap[w.heap.size]? = some (.deferred (some [])))
    (fun pre W => ∃ c, Ix c pre W ∧ W.heap[w.heap.size + 1]? = some (rec_ .done (some c)) ∧ W.heap[w.heap.size]? = some (.deferred (some [])))
    W1 hbw
    (fun s A B hs hA hst => ⟨hIs _ s A B (by omega) hs.1 hA hst, keepL (by omega) (by omega) hs.2.1 hA hst, keepL (by omega) (by omega) hs.2.2 hA hst⟩)
    (fun s A B hs hA hst => by
      obtain ⟨c, h1, h2, h3⟩ := hs
      exact ⟨c, hXs _ c s A B (by omega) h1 hA hst, keepL (by omega) (by omega) h2 hA hst, keepL (by omega) (by omega) h3 hA hst⟩)
    ?_ ⟨hIc _ _ _ h0 hck, hL, hD⟩).mono ?_
  · -- one round
    rintro pre x W ⟨hi, hl, hd⟩ hlen hWs
    have hlt : w.heap.size + 1 < W.heap.size := by omega
    have hy := run_yield (P := P) (args := encs x) hl (hps x)
    refine ⟨fn, _, assign, body, hy, roundIn_of_wpIn hfn (hassign _ x W _ (by omega) fun act WA hko hckA hA1 => ?_)⟩
    have hlA := hko.same _ _ hl rfl
    have hdA := hko.same _ _ hd rfl
    have hltA : w.heap.size + 1 < WA.heap.size := (Array.getElem?_eq_some_iff.1 hlA).1
    let Wb := WA.putObj (w.heap.size + 1) (rec_ .busy none)
    refine ⟨Wb, run_beginRound hlA rfl, ?_⟩
    have hckb0 : CK w.heap.size WA Wb := CK.put _ (by omega) hlA rfl
    have hckb : CK w.heap.size W Wb := hckA.trans hckb0
    have hl2 : Wb.heap[w.heap.size + 1]? = some (rec_ .busy none) := World.putObj_heap_same hltA
    have hd2 : Wb.heap[w.heap.size]? = some (.deferred (some [])) := (World.putObj_heap_other (by omega)).trans hdA
    refine wpIn_mono (hbody _ pre x act Wb (hIc _ _ _ hi hckb) hlen (hAc _ _ _ _ hA1 hckb0)) ?_
    have fin : ∀ (jump : Option Code) (W3 : World), KeepsOthers Wb W3 →
        (Instr.endRound (w.heap.size + 1) jump).run P W3 = .ok (.bool jump.isNone) (W3.putObj (w.heap.size + 1) (rec_ (if jump.isNone then .ready else .done) jump)) ∧
        CK w.heap.size W3 (W3.putObj (w.heap.size + 1) (rec_ (if jump.isNone then .ready else .done) jump)) ∧
        (W3.putObj (w.heap.size + 1) (rec_ (if jump.isNone then .ready else .done) jump)).heap[w.heap.size + 1]? = some (rec_ (if jump.isNone then .ready else .done) jump) ∧
        (W3.putObj (w.heap.size + 1) (rec_ (if jump.isNone then .ready else .done) jump)).heap[w.heap.size]? = some (.deferred (some [])) ∧
        W.heap.size ≤ (W3.putObj (w.heap.size + 1) (rec_ (if jump.isNone then .ready else .done) jump)).heap.size := fun jump W3 hk3 => by
      have hl3 := hk3.same _ _ hl2 rfl
      have hd3 := hk3.same _ _ hd2 rfl
      refine ⟨run_endRound (P := P) jump hl3, CK.put _ (by omega) hl3 rfl, World.putObj_heap_same (Array.getElem?_eq_some_iff.1 hl3).1, (World.putObj_heap_other (by omega)).trans hd3, ?_⟩
      have := hk3.size
      have h6 := hko.size
      simp only [World.putObj_size]
      have e : Wb.heap.size = WA.heap.size := World.putObj_size
      omega
    rintro e a3 W3 hp
    cases e with
    | normal =>
      obtain ⟨hk3, hkp, hi3⟩ := hp
      obtain ⟨hr, hc, hl4, hd4, hs⟩ := fin none W3 hk3
      exact ⟨_, _, hr, .inl ⟨rfl, ⟨hIc _ _ _ hi3 hc, hl4, hd4⟩, hKt (hKc _ _ hckb) (hKt hkp (hKc _ _ hc)), hs⟩⟩
    | ret =>
      obtain ⟨hk3, hi3⟩ := hp
      obtain ⟨hr, hc, hl4, hd4, hs⟩ := fin (some .ret) W3 hk3
      exact ⟨_, _, hr, .inr ⟨rfl, ⟨.ret, hXc _ _ _ _ hi3 hc, hl4, hd4⟩, hs⟩⟩
    | exit id =>
      obtain ⟨hk3, hi3⟩ := hp
      obtain ⟨hr, hc, hl4, hd4, hs⟩ := fin (some (.exit id)) W3 hk3
      exact ⟨_, _, hr, .inr ⟨rfl, ⟨.exit id, hXc _ _ _ _ hi3 hc, hl4, hd4⟩, hs⟩⟩
    | goto t =>
      obtain ⟨hk3, hi3⟩ := hp
      obtain ⟨hr, hc, hl4, hd4, hs⟩ := fin (some (.goto t)) W3 hk3
      exact ⟨_, _, hr, .inr ⟨rfl, ⟨.goto t, hXc _ _ _ _ hi3 hc, hl4, hd4⟩, hs⟩⟩
    | panic ch => exact hp.elim
    | outgrown => exact hp.elim
  · -- behind the call
    rintro e W2 ⟨⟨v, rfl⟩, h⟩
    rcases h with ⟨xs, hS, ⟨hi, hl, hd⟩, hF⟩ | ⟨pre, hSp, c, hi, hl, hd⟩
    · have hc : CK w.heap.size W2 (W2.putObj (w.heap.size + 1) (rec_ .exhausted none)) := CK.put _ (by omega) hl rfl
      exact ⟨none, _, run_endLoop (P := P) hl (by simp), hdone _ xs _ (Nat.le_refl _) hS (hIc _ _ _ hi hc) (hFc _ _ _ hF hc) ((World.putObj_heap_other (by omega)).trans hd)⟩
    · have hc : CK w.heap.size W2 (W2.putObj (w.heap.size + 1) (rec_ .exhausted (some c))) := CK.put _ (by omega) hl rfl
      exact ⟨some c, _, run_endLoop (P := P) hl (by simp), hstop _ c pre _ (Nat.le_refl _) hSp (hXc _ _ _ _ hi hc) ((World.putObj_heap_other (by omega)).trans hd)⟩

/-! A region that draws its order, within Fence.wide: its head reads, its tail is forced (it may call yield). -/
section
variable {P : Program} {n : Nat} {ops : Array Oper} {C : World → Prop}
theorem wpIn_of_quiet_wide {o : Oper} {a : Act} {K : Act → Prop} {K' : Act → World → Prop} {Q' : Exit → Act → World → Prop} {w : World} (hw : C w) (h : ∀ a w', C w' → K a → K' a w') (hh : o.quiet P a C K) :
    o.wpIn Fence.wide n P a w K' Q' := by
  obtain ⟨v, h1, h2⟩ := hh
  have h3 := h1 w hw
  refine ⟨fun _ _ => trivial, ?_⟩
  rw [show Fence.wide.round = none from rfl, Oper.semAt_none]
  unfold Oper.quietAt at h3
  generalize (execOp a.eval o).run P w = r at *
  cases r with
  | halt x w' => exact h3.elim
  | ok x w' =>
    cases x with
    | value u => obtain ⟨rfl, rfl⟩ := h3; exact h _ _ hw h2
    | skip => obtain ⟨rfl, rfl⟩ := h3; exact h _ _ hw h2
    | enter f args =>
      obtain ⟨rfl, hc⟩ := h3
      refine ⟨(fun e => by cases e), (callsIn_wide.2 (hc.mono fun e w'' hx => ?_))⟩
      obtain ⟨rfl, hx⟩ := hx
      exact h _ _ hx h2
    | _ => exact h3.elim
theorem wpOpIn_of_qOp {i : Nat} {a : Act} {K : Act → Prop} {K' : Act → World → Prop} {Q' : Exit → Act → World → Prop} {w : World} (hC : C w) (h : ∀ a w', C w' → K a → K' a w') (hh : qOp P ops C i K a) : wpOpIn Fence.wide n P ops Q' i K' a w := by
  unfold qOp at hh
  unfold wpOpIn
  split
  · rename_i ho; simp only [ho] at hh; exact h _ _ hC hh
  · rename_i o ho
    simp only [ho] at hh
    split
    · rename_i hw; simp only [hw, if_true] at hh; exact wpIn_of_quiet_wide hC h hh
    · rename_i hw; simp only [hw] at hh; exact ⟨fun _ _ => trivial, h _ _ hC hh⟩
theorem wpAnyIn_of_seq {F : Fence} {md : Region.Mode} {Q' : Exit → Act → World → Prop} : ∀ (l : List Oper) (k : Nat) (listed : Array Bool) (a : Act) (w : World), (∀ j, l[j]? = ops[k + j]?) →
    Region.seqB md ops l.length k listed = true → wpListIn F n P ops Q' l a w → wpAnyIn F n P md ops Q' l.length listed a w
  | [], _, _, _, _, _, hB, h => ⟨by simpa [Region.seqB] using hB, h⟩
  | o :: l, k, listed, a, w, hl, hB, h => by
    have h0 : ops[k]? = some o := by simpa using (hl 0).symm
    simp only [List.length_cons, Region.seqB, Bool.and_eq_true, decide_eq_true_eq] at hB
    refine ⟨fun h1 => (by rw [hB.1] at h1; cases h1), fun i hi => ?_⟩
    rw [hB.1] at hi
    have hik : i = k := by simpa using hi
    subst hik
    have hw : wpOpIn F n P ops Q' i (wpListIn F n P ops Q' l) a w := by unfold wpOpIn; simp only [h0]; exact h
    exact wpOpIn_mono (fun a' w' h' => wpAnyIn_of_seq l (i + 1) _ a' w' (fun j => by have := hl (j + 1); simpa [Nat.add_assoc, Nat.add_comm 1 j] using this) hB.2 h') hw
theorem simIn {S : Nat → Prop} {n nn g : Nat} {a t : Act} {Q : Exit → Act → World → Prop} (hg : n + g = ops.size) (hB : ordB ops n = true) (hsel : Region.noSelect ops = true) (hs : Region.sinkB .any ops n = true) (hc : Region.chainB .any ops n = true) (hn : n < ops.size)
    (hy : ∀ i o, i < n → S i → ops[i]? = some o → ∃ v ai, YieldsIn P ops C o v ai ∧ (∀ s, s ∈ o.looksAt ops → ai.tmps[s]? = t.tmps[s]?) ∧ ai.tmps.size = t.tmps.size ∧ (∀ s, o.dst = some s → t.tmps[s]? = if s < t.tmps.size then some v else none))
    (hend : ∀ listed w, C w → HeadInv .any ops n listed → (∀ i, i < n → listed.getD i true = true) → wpAnyIn Fence.wide nn P .any ops Q g listed t w) :
    ∀ (f : Nat) (listed : Array Bool) (x : Act) (w : World), left listed n = f → HeadInv .any ops n listed → (∀ i, i < n → listed.getD i true = false → S i) → St ops n a t listed x → C w → wpAnyIn Fence.wide nn P .any ops Q (f + g) listed x w
  | 0, listed, x, w, hf, inv, hSl, st, hw => by
    have hl := left_zero hf
    have e : x = t := by
      obtain ⟨xt, xd⟩ := x
      obtain ⟨tt, td⟩ := t
      have h1 : xt = tt := Array.ext' (List.ext_getElem? fun s => by
        rw [Array.getElem?_toList, Array.getElem?_toList]
        by_cases hd : ∃ i, i < n ∧ dstIs ops i s
        · obtain ⟨i, hi, hd⟩ := hd
          exact st.done i s hi (hl i hi) hd
        · exact st.other s fun i hi hdi => hd ⟨i, hi, hdi⟩)
      have h2 : xd = td := st.defers
      rw [h1, h2]
    subst e
    rw [Nat.zero_add]
    exact hend listed w hw inv hl
  | f + 1, listed, x, w, hf, inv, hSl, st, hw => by
    obtain ⟨m, hm, hmu, hml⟩ := left_least (listed := listed) (k := n) (by omega)
    rw [show f + 1 + g = (f + g) + 1 by omega]
    refine ⟨fun h0 => ?_, fun i hi => ?_⟩
    · exfalso
      have ho : ops[m]? = some (ops[m]'(by omega)) := Array.getElem?_eq_getElem (by omega)
      have : m ∈ Region.ready .any ops listed := mem_ready.2 ⟨hmu, _, ho, fun e he hb => by
        have hlt := ordB_after hB hm ho he hb
        have h1 := hml e.on hlt
        have hz : e.on < listed.size := by rw [inv.size]; omega
        simpa [hz] using h1⟩
      rw [h0] at this; cases this
    · have hin : i < n := by
        rcases Nat.lt_or_ge i n with h | h
        · exact h
        · exact absurd hi (tail_waits hs hc hn inv _ m rfl hm hmu i h)
      obtain ⟨hiu, o, ho, hall⟩ := mem_ready.1 hi
      obtain ⟨v, ai, hyi, hlk, hsz, hdst⟩ := hy i o hin (hSl i hin hiu) ho
      have hyx : YieldsIn P ops C o v x := yields_same (fun cs b => Region.noSelect_spec hsel i o cs b ho) (fun s hs' => by
        rw [hlk s hs']
        by_cases hd : ∃ j, j < n ∧ dstIs ops j s
        · obtain ⟨j, hj, hd⟩ := hd
          obtain ⟨_, e, he, hb, hon⟩ := (ordB_dst hB hin hj ho hd).2 hs'
          have hlj := hall e he hb
          rw [hon] at hlj
          have hlj' : listed.getD j true = true := by
            have hz : j < listed.size := by rw [inv.size]; omega
            simpa [hz] using hlj
          exact (st.done j s hj hlj' hd).symm
        · exact (st.other s fun j hj hdj => hd ⟨j, hj, hdj⟩).symm) hyi
      have st' : St ops n a t (listed.setIfInBounds i true) (x.put o.dst v) := St.put hB st hin ho hdst
      have hcont : ∀ w', C w' → wpAnyIn Fence.wide nn P .any ops Q (f + g) (listed.setIfInBounds i true) (x.put o.dst v) w' := fun w' hw' =>
        simIn hg hB hsel hs hc hn hy hend f _ _ w' (by have := left_set hiu n; rw [if_pos hin] at this; omega) (inv.set hi hin) (fun j hj hlj => by
          by_cases e : i = j
          · subst e; exact hSl i hin hiu
          · rw [getD_set_ne true e] at hlj; exact hSl j hj hlj) st' hw'
      have hq := YieldsIn.qOp (K := fun x' => x' = x.put o.dst v) ho hyx rfl
      exact wpOpIn_of_qOp hw (fun x' w' hw' e => by subst e; exact hcont w' hw') hq
theorem region_tail_in {id : Nat} {Q : Exit → Act → World → Prop} {a : Act} {w : World} {l : List Oper} (n : Nat) {nn : Nat} (hm : P.follows .mixedOrders = true) (hB : (ordB l.toArray n && Region.lexTailB .any l.toArray n) = true) (hC : C w.drew)
    (h : wpQuiet P l.toArray C (fun a' => ∀ w', C w' → wpListIn Fence.wide nn P l.toArray Q (l.drop n) a' w') (l.take n) a) : (Code.region id l.toArray true).wpIn Fence.wide nn P Q a w := by
  rw [Bool.and_eq_true] at hB
  obtain ⟨hB, hT⟩ := hB
  simp only [Region.lexTailB, Bool.and_eq_true, decide_eq_true_eq] at hT
  obtain ⟨⟨⟨⟨hsel, hn⟩, hs⟩, hc⟩, hlex⟩ := hT
  have hn' : n < l.length := by simpa using hn
  have htl : (l.take n).length = n := by simp; omega
  obtain ⟨t, hlx, hQ⟩ := lex_of_walk _ _ h
  obtain ⟨e1, e2, e3, e4⟩ := lex_end hB (l.take n) 0 a t (fun j hj => by
    have hj' : j < n := by rw [htl] at hj; exact hj
    simp [hj']) (by simpa using htl) hlx
  have inv0 : HeadInv .any l.toArray n (Array.replicate l.toArray.size false) :=
    ⟨by simp, fun j oj _ hl => (by rw [getD_replicate_false] at hl; cases hl), fun i _ hi => getD_in (by simpa using hi) (getD_replicate_false _ _)⟩
  refine wpIn_region_any hm ?_
  have H := simIn (S := fun _ => True) (P := P) (C := C) (Q := Q) (nn := nn) (g := l.toArray.size - n) (a := a) (t := t) (by omega) hB hsel hs hc hn (fun i o hi _ ho => e4 i o (Nat.zero_le _) hi ho)
    (fun listed w' hw' inv hall => by
      have := wpAnyIn_of_seq (F := Fence.wide) (n := nn) (md := .any) (Q' := Q) (l.drop n) n listed t w' (fun j => by simp [List.getElem?_drop]) (by simpa using seq_all hn hs hlex listed inv hall) (hQ w' hw')
      simpa using this) n (Array.replicate l.toArray.size false) a w.drew (left_all (N := l.toArray.size) n (by omega)) inv0 (fun _ _ _ => trivial)
    ⟨e1.symm, e2.symm, fun i s hi hl _ => (by rw [getD_in (by simp; simpa using (by omega : i < l.length)) (getD_replicate_false _ _)] at hl; cases hl), fun s hs' => (e3 s fun i _ hi => hs' i hi).symm⟩ hC
  rw [show n + (l.toArray.size - n) = l.toArray.size by omega] at H
  exact H
/-- .. where it only reads -/
theorem region_readx_in {id : Nat} {Q : Exit → Act → World → Prop} {a : Act} {w : World} {l : List Oper} (n : Nat) {nn : Nat} (hm : P.follows .mixedOrders = true) (hB : (ordB l.toArray n && Region.lexTailB .any l.toArray n) = true)
    (h : wpQuiet P l.toArray (fun w' => ∃ n, w' = w.drewN n) (fun a' => ∀ w', (∃ n, w' = w.drewN n) → wpListIn Fence.wide nn P l.toArray Q (l.drop n) a' w') (l.take n) a) : (Code.region id l.toArray true).wpIn Fence.wide nn P Q a w :=
  region_tail_in n hm hB ⟨1, rfl⟩ h

/-! A region in a round, from its plain walk. -/
theorem opIn_of_wp {lp : Nat} {o : Oper} {a : Act} {K : Act → World → Prop} {Q : Exit → Act → World → Prop} {w : World} (hd : noDefer o = true) (hh : o.wp P a w K Q) : o.wpIn (Fence.wide.inRound lp) n P a w K Q := by
  refine ⟨fun _ _ => trivial, ?_⟩
  rw [Oper.semAt_eq _ _ _ (noDefer_ne hd)]
  unfold Oper.wp at hh
  generalize (execOp a.eval o).run P w = r at *
  cases r with
  | halt x w' => cases x <;> simp only [Oper.upon, Oper.uponIn] at hh ⊢ <;> exact hh
  | ok x w' =>
    cases x with
    | enter f args => exact ⟨(fun e => by cases e), CallsIn.inRound lp (callsIn_wide.2 (hh.mono fun e w'' he => by cases e <;> exact he))⟩
    | row r args => exact ⟨(fun e => by cases e), fun c cs _ => let ⟨v, w', r, s⟩ := hh c cs; ⟨v, w', r, stepsIn_wide.2 s⟩⟩
    | _ => simp only [Oper.upon, Oper.uponIn] at hh ⊢ <;> exact hh
theorem wpAnyIn_of_wpAny {lp : Nat} {md : Region.Mode} {Q : Exit → Act → World → Prop} (hd : ∀ (i : Nat) (o : Oper), ops[i]? = some o → noDefer o = true) (hL : ¬ LetsOut Q) : ∀ (fuel : Nat) (listed : Array Bool) (a : Act) (w : World),
    wpAny P md ops Q fuel listed a w → wpAnyIn (Fence.wide.inRound lp) n P md ops Q fuel listed a w
  | 0, _, _, _, h => h
  | fuel + 1, listed, a, w, h => ⟨h.1, fun i hi => by
    have hq := h.2 i hi
    unfold wpOp at hq
    unfold wpOpIn
    cases ho : ops[i]? with
    | none => simp only [ho] at hq ⊢; exact wpAnyIn_of_wpAny hd hL fuel _ _ _ hq
    | some o =>
      simp only [ho] at hq ⊢
      by_cases hwt : Region.wanted o (yielded ops a.tmps) = true
      · simp only [hwt, if_true] at hq ⊢
        rcases hq with hq | ⟨_, hq⟩
        · exact opIn_of_wp (hd i o ho) (Oper.wp_mono (fun a' w' h' => wpAnyIn_of_wpAny hd hL fuel _ a' w' h') hq)
        · exact absurd hq hL
      · simp only [hwt] at hq ⊢
        exact ⟨fun _ _ => trivial, wpAnyIn_of_wpAny hd hL fuel _ _ _ hq⟩⟩
/-- a region in a round: what holds of its plain walk in any order -/
theorem region_round {lp id : Nat} {Q : Exit → Act → World → Prop} {a : Act} {w : World} {l : List Oper} (hm : P.follows .mixedOrders = true) (hd : l.all noDefer = true) (hL : ¬ LetsOut Q)
    (h : wpAny P .any l.toArray Q l.toArray.size (Array.replicate l.toArray.size false) a w.drew) : (Code.region id l.toArray true).wpIn (Fence.wide.inRound lp) n P Q a w := by
  refine wpIn_region_any hm (wpAnyIn_of_wpAny (fun i o hi => ?_) hL _ _ _ _ h)
  rw [List.getElem?_toArray] at hi
  exact List.all_eq_true.1 hd o (List.mem_of_getElem? hi)
/-- region_alloc, in a round -/
theorem region_alloc_r {lp id : Nat} {Q : Exit → Act → World → Prop} {a T : Act} {w : World} {l : List Oper} (m d : Nat) {oa : Oper} {obj : Obj} {val : Nat → Value} (hm : P.follows .mixedOrders = true) (hd : l.all noDefer = true) (hL : ¬ LetsOut Q) (hB : (ordB l.toArray m && (ordB l.toArray (m + 1) && Region.lexTailB .any l.toArray (m + 1))) = true)
    (hoa : l[m]? = some oa) (hod : oa.dst = some d) (hog : oa.guard = none) (hdt : d < a.tmps.size)
    (h : ∀ W0, Below w.heap.size w W0 → (∀ (u : Ext W0) (p : Addr), (w.cell? p).isSome = true → (ext W0 u).cell? p = w.cell? p) → wpQuiet P l.toArray (fun w' => ∃ u, w' = ext W0 u) (fun a' => a' = T) (l.take m) a)
    (hal : ∀ W : World, (execOp T.eval oa).run P W = .ok (.value (val W.heap.size)) (W.alloc obj))
    (hQ : ∀ W0 W, Below w.heap.size w W0 → Below (W0.alloc obj).heap.size (W0.alloc obj) W → wpList P l.toArray Q (l.drop (m + 1)) (T.put (some d) (val W0.heap.size)) W) : (Code.region id l.toArray true).wpIn (Fence.wide.inRound lp) n P Q a w := by
  rw [Bool.and_eq_true, Bool.and_eq_true] at hB
  obtain ⟨hB0, hB, hT⟩ := hB
  simp only [Region.lexTailB, Bool.and_eq_true, decide_eq_true_eq] at hT
  obtain ⟨⟨⟨⟨hsel, hn⟩, hs⟩, hc⟩, hlex⟩ := hT
  have hn' : m + 1 < l.length := by simpa using hn
  have htl : (l.take m).length = m := by simp; omega
  have hB1 : Below w.heap.size w w.drew := (Below.refl _ w).drew
  have hcell : ∀ W0, Below w.heap.size w W0 → ∀ (u : Ext W0) (p : Addr), (w.cell? p).isSome = true → (ext W0 u).cell? p = w.cell? p := fun W0 hb u p hp => by
    obtain ⟨v, hv⟩ := Option.isSome_iff_exists.1 hp
    have hbl := World.block_lt_of_cell? w p hv
    rw [(ext_bel W0 u).cell (Nat.lt_of_lt_of_le hbl hb.size), hb.cell hbl]
  have hw : ∀ W0, Below w.heap.size w W0 → T.tmps.size = a.tmps.size ∧ T.defers = a.defers ∧ (∀ s, (∀ i, 0 ≤ i → i < m → ¬ dstIs l.toArray i s) → T.tmps[s]? = a.tmps[s]?) ∧
      ∀ i o, 0 ≤ i → i < m → l.toArray[i]? = some o → ∃ v ai, YieldsIn P l.toArray (fun w' => ∃ u, w' = ext W0 u) o v ai ∧ (∀ s, s ∈ o.looksAt l.toArray → ai.tmps[s]? = T.tmps[s]?) ∧ ai.tmps.size = T.tmps.size ∧ (∀ s, o.dst = some s → T.tmps[s]? = if s < T.tmps.size then some v else none) := fun W0 hb => by
    obtain ⟨t, hlx, rfl⟩ := lex_of_walk _ _ (h W0 hb (hcell W0 hb))
    exact lex_end hB0 (l.take m) 0 a t (fun j hj => by
      have hj' : j < m := by rw [htl] at hj; exact hj
      simp [hj']) (by simpa using htl) hlx
  obtain ⟨e1, e2, e3, _⟩ := hw _ hB1
  have inv0 : HeadInv .any l.toArray (m + 1) (Array.replicate l.toArray.size false) :=
    ⟨by simp, fun j oj _ hl => (by rw [getD_replicate_false] at hl; cases hl), fun i _ hi => getD_in (by simpa using hi) (getD_replicate_false _ _)⟩
  have hoa' : l.toArray[m]? = some oa := by simpa using hoa
  refine region_round hm hd hL ?_
  have H := simA (P := P) (Q := Q) (g := l.toArray.size - (m + 1)) (n := m + 1) (m := m) (d := d) (a := a) (t := T) (w0 := w) (oa := oa) (obj := obj) (by omega) hB hsel hs hc hn (by omega) hoa' hod hog (by omega) hal
    (fun W0 hb i o hi hne ho => (hw W0 hb).2.2.2 i o (Nat.zero_le _) (by omega) ho)
    (fun i o hi hne ho => by
      have := ordB_dst hB hi (Nat.lt_succ_self m) ho ⟨oa, hoa', hod⟩
      exact ⟨fun hd => by have := (this.2 hd).1; omega, fun hd => hne (this.1 hd)⟩)
    (fun W0 hb listed W hbW inv hall => by
      have := wpAny_of_seq (md := .any) (Q' := Q) (l.drop (m + 1)) (m + 1) listed _ W (fun j => by simp [List.getElem?_drop]) (by simpa using seq_all hn hs hlex listed inv hall) (hQ W0 W hb hbW)
      simpa using this) (m + 1) (Array.replicate l.toArray.size false) a w.drew (left_all (N := l.toArray.size) (m + 1) (by omega)) inv0 (getD_in (by simp; omega) (getD_replicate_false _ _))
    ⟨e1.symm, e2.symm, fun i s hi hl _ => (by rw [getD_in (i := i) (by simp at hn ⊢; omega) (getD_replicate_false _ _)] at hl; cases hl), fun s hs' => (e3 s fun i _ hi => hs' i (by omega)).symm⟩ hB1
  rw [show m + 1 + (l.toArray.size - (m + 1)) = l.toArray.size by omega] at H
  exact H
end
end Go.Proofs.YtlnbbioponmcfaaGreatDoor
