/-
  A region that draws its order: its head (reads, arithmetic, calls that give a known value and only make new memory) may come in any order, its tail is forced: one walk in the order of the text. Plain theorems, no program in sight.
-/
import Derived.Test.YtlnbbioponmcfaaDoorRange
import Derived.StillTailTactics
namespace Go.Proofs.YtlnbbioponmcfaaDoor
open Go.ChangeShapes Go.WideShapes Go.ChangeAt Go.RowKit
set_option linter.unusedVariables false

/-- the worlds that hold all that w holds, named by a letter -/
def Ext (w : World) : Type := { w' : World // Below w.heap.size w w' }
def ext (w : World) (u : Ext w) : World := u.1
instance instNonemptyExt (w : World) : Nonempty (Ext w) := ⟨⟨w, Below.refl _ w⟩⟩
theorem ext_bel (w : World) (u : Ext w) : Below w.heap.size w (ext w u) := u.2
theorem ext_cell (w : World) (u : Ext w) (p : Addr) (h : (w.cell? p).isSome = true) : (ext w u).cell? p = w.cell? p := by
  obtain ⟨v, hv⟩ := Option.isSome_iff_exists.1 h
  exact (ext_bel w u).cell (World.block_lt_of_cell? w p hv)
theorem ext_call {P : Program} {f : FuncId} {args : Array Value} {w : World} {u : Ext w} {v : Value}
    (h : Calls P f args (ext w u) fun e w' => e = .returned v ∧ Below (ext w u).heap.size (ext w u) w') : Calls P f args (ext w u) fun e w' => e = .returned v ∧ ∃ u', w' = ext w u' :=
  h.mono fun _ w' ⟨he, hb⟩ => ⟨he, ⟨w', (ext_bel w u).trans (hb.mono (ext_bel w u).size)⟩, rfl⟩
theorem ext_same {P : Program} {f : FuncId} {args : Array Value} {w : World} {u : Ext w} {v : Value}
    (h : Calls P f args (ext w u) fun e w' => e = .returned v ∧ ext w u = w') : Calls P f args (ext w u) fun e w' => e = .returned v ∧ ∃ u', w' = ext w u' :=
  h.mono fun _ _ ⟨he, hb⟩ => ⟨he, u, hb.symm⟩

section
variable {P : Program} {ops : Array Oper} {C : World → Prop}
/-- what the operations below n yield, in the frames that the walk in the text's order meets -/
def Lex (P : Program) (ops : Array Oper) (C : World → Prop) : List Oper → Act → Act → Prop
  | [], a, t => a = t
  | o :: r, a, t => ∃ v, YieldsIn P ops C o v a ∧ Lex P ops C r (a.put o.dst v) t
theorem lex_of_walk {Q : Act → Prop} : ∀ (l : List Oper) (a : Act), wpQuiet P ops C Q l a → ∃ t, Lex P ops C l a t ∧ Q t
  | [], a, h => ⟨a, rfl, h⟩
  | o :: r, a, h => by
    by_cases hw : Region.wanted o (yielded ops a.tmps) = true
    · simp only [wpQuiet, hw, if_true] at h
      obtain ⟨v, h1, h2⟩ := h
      obtain ⟨t, ht, hq⟩ := lex_of_walk r _ h2
      exact ⟨t, ⟨v, .inl ⟨hw, h1⟩, ht⟩, hq⟩
    · simp only [wpQuiet, hw] at h
      obtain ⟨t, ht, hq⟩ := lex_of_walk r _ h
      exact ⟨t, ⟨undef, .inr ⟨by simpa using hw, rfl⟩, ht⟩, hq⟩
def dstIs (ops : Array Oper) (i : Nat) (s : Tmp) : Prop := ∃ o, ops[i]? = some o ∧ o.dst = some s

/-- THE BOOL OVER A REGION: each operation below n looks at slots that nobody below n writes, or that an operation writes for which it waits and which stands ahead of it; no two write one slot; it waits for earlier ones alone. -/
def ordB (ops : Array Oper) (n : Nat) : Bool :=
  (List.range n).all fun i => match ops[i]? with
    | none => false
    | some o => (o.after.all fun e => !Region.binds .any e || decide (e.on < i)) &&
      (List.range n).all fun j => match ops[j]? with
        | none => false
        | some p => match p.dst with
          | none => true
          | some d => (i == j || o.dst != some d) && (!(o.looksAt ops).contains d || (decide (j < i) && o.after.any fun e => Region.binds .any e && e.on == j))
theorem ordB_after {n i : Nat} {o : Oper} (h : ordB ops n = true) (hi : i < n) (ho : ops[i]? = some o) {e : Edge} (he : e ∈ o.after) (hb : Region.binds .any e = true) : e.on < i := by
  have h1 := List.all_eq_true.1 h i (List.mem_range.2 hi)
  simp only [ho, Bool.and_eq_true] at h1
  have h2 := Array.all_eq_true'.1 h1.1 e he
  simpa [hb] using h2
theorem ordB_dst {n i j : Nat} {o : Oper} {s : Tmp} (h : ordB ops n = true) (hi : i < n) (hj : j < n) (ho : ops[i]? = some o) (hs : dstIs ops j s) : (o.dst = some s → i = j) ∧ (s ∈ o.looksAt ops → j < i ∧ ∃ e ∈ o.after, Region.binds .any e = true ∧ e.on = j) := by
  obtain ⟨p, hp, hd⟩ := hs
  have h1 := List.all_eq_true.1 h i (List.mem_range.2 hi)
  simp only [ho, Bool.and_eq_true] at h1
  have h2 := List.all_eq_true.1 h1.2 j (List.mem_range.2 hj)
  simp only [hp, hd, Bool.and_eq_true, Bool.or_eq_true, beq_iff_eq, bne_iff_ne, Bool.not_eq_true', decide_eq_true_eq] at h2
  refine ⟨fun he => ?_, fun hm => ?_⟩
  · rcases h2.1 with h3 | h3
    · exact h3
    · exact absurd he h3
  · rcases h2.2 with h3 | h3
    · rw [List.contains_eq_mem] at h3
      simp at h3
      exact absurd hm h3
    · obtain ⟨e, he, hb⟩ := Array.any_eq_true'.1 h3.2
      simp only [Bool.and_eq_true, beq_iff_eq] at hb
      exact ⟨h3.1, e, he, hb⟩

theorem put_size (a : Act) (d : Option Tmp) (v : Value) : (a.put d v).tmps.size = a.tmps.size := by cases d <;> simp [Act.put]
theorem put_defers (a : Act) (d : Option Tmp) (v : Value) : (a.put d v).defers = a.defers := by cases d <;> rfl
theorem put_other (a : Act) {d : Option Tmp} (v : Value) {s : Nat} (h : d ≠ some s) : (a.put d v).tmps[s]? = a.tmps[s]? := by
  cases d with
  | none => rfl
  | some d => simp [Act.put, Array.getElem?_setIfInBounds_ne (fun e : d = s => h (by rw [e]))]
theorem put_same (a : Act) (v : Value) {s : Nat} : (a.put (some s) v).tmps[s]? = if s < a.tmps.size then some v else none := by
  simp [Act.put, Array.getElem?_setIfInBounds]
  
/-- what the walk tells of its end: of the slots that nobody wrote, and of each that one wrote -/
theorem lex_end {n : Nat} (hB : ordB ops n = true) : ∀ (l : List Oper) (k : Nat) (a t : Act), (∀ j, j < l.length → l[j]? = ops[k + j]?) → k + l.length = n → Lex P ops C l a t →
    t.tmps.size = a.tmps.size ∧ t.defers = a.defers ∧ (∀ s, (∀ i, k ≤ i → i < n → ¬ dstIs ops i s) → t.tmps[s]? = a.tmps[s]?) ∧
    ∀ i o, k ≤ i → i < n → ops[i]? = some o → ∃ v ai, YieldsIn P ops C o v ai ∧ (∀ s, s ∈ o.looksAt ops → ai.tmps[s]? = t.tmps[s]?) ∧ ai.tmps.size = t.tmps.size ∧ (∀ s, o.dst = some s → t.tmps[s]? = if s < t.tmps.size then some v else none)
  | [], k, a, t, _, hk, h => by
    obtain rfl : a = t := h
    refine ⟨rfl, rfl, fun _ _ => rfl, fun i o h1 h2 _ => ?_⟩
    simp at hk; omega
  | o :: r, k, a, t, hl, hk, h => by
    obtain ⟨v, hy, hr⟩ := h
    have ho : ops[k]? = some o := by simpa using (hl 0 (by simp)).symm
    simp only [List.length_cons] at hk
    obtain ⟨h1, h2, h3, h4⟩ := lex_end hB r (k + 1) (a.put o.dst v) t (fun j hj => by have := hl (j + 1) (by simp; omega); simpa [Nat.add_assoc, Nat.add_comm 1 j] using this) (by omega) hr
    rw [put_size] at h1
    rw [put_defers] at h2
    -- a slot that nobody from k + 1 on writes
    have hno : ∀ s, (∀ i, k + 1 ≤ i → i < n → ¬ dstIs ops i s) → o.dst ≠ some s → t.tmps[s]? = a.tmps[s]? := fun s hs hd => (h3 s hs).trans (put_other a v hd)
    refine ⟨h1, h2, fun s hs => hno s (fun i hi hn => hs i (by omega) hn) (fun e => hs k (Nat.le_refl _) (by omega) ⟨o, ho, e⟩), fun i p hi hn hp => ?_⟩
    rcases Nat.lt_or_ge k i with hlt | hge
    · exact h4 i p hlt hn hp
    · obtain rfl : i = k := by omega
      obtain rfl : p = o := Option.some.inj (hp.symm.trans ho)
      refine ⟨v, a, hy, fun s hs => ?_, h1.symm, fun s hs => ?_⟩
      · refine (hno s (fun j hj hjn hds => ?_) (fun e => ?_)).symm
        · have := ((ordB_dst hB hn hjn ho hds).2 hs).1
          omega
        · have := ((ordB_dst hB hn hn ho ⟨p, ho, e⟩).2 hs).1
          omega
      · rw [h3 s (fun j hj hjn hds => by have := (ordB_dst hB hn hjn ho hds).1 hs; omega), hs, put_same, h1]

/-- how many below k have not come up -/
def left (listed : Array Bool) : Nat → Nat
  | 0 => 0
  | k + 1 => left listed k + if listed.getD k true then 0 else 1
theorem left_set {listed : Array Bool} {i : Nat} (hi : listed.getD i true = false) : ∀ k, left (listed.setIfInBounds i true) k + (if i < k then 1 else 0) = left listed k
  | 0 => by simp [left]
  | k + 1 => by
    have ih := left_set hi k
    unfold left
    by_cases e : i = k
    · subst e
      have hsz : i < listed.size := by
        rcases Nat.lt_or_ge i listed.size with h | h
        · exact h
        · simp [Array.getElem?_eq_none h] at hi
      have h1 : (listed.setIfInBounds i true).getD i true = true := by simp [hsz]
      rw [h1, hi]
      simp at ih ⊢
      exact ih
    · rw [getD_set_ne true e]
      by_cases hik : i < k
      · have h1 : (if i < k then 1 else 0) = 1 := if_pos hik
        have h2 : (if i < k + 1 then 1 else 0) = 1 := if_pos (by omega)
        rw [h1] at ih; rw [h2]; omega
      · have h1 : (if i < k then 1 else 0) = 0 := if_neg hik
        have h2 : (if i < k + 1 then 1 else 0) = 0 := if_neg (by omega)
        rw [h1] at ih; rw [h2]; omega
theorem left_zero {listed : Array Bool} : ∀ {k : Nat}, left listed k = 0 → ∀ i, i < k → listed.getD i true = true
  | 0, _, i, h => by omega
  | k + 1, h, i, hi => by
    unfold left at h
    by_cases e : i = k
    · subst e
      cases hc : listed.getD i true
      · rw [hc] at h; simp at h
      · rfl
    · exact left_zero (listed := listed) (k := k) (by omega) i (by omega)
theorem left_least {listed : Array Bool} : ∀ {k : Nat}, 0 < left listed k → ∃ i, i < k ∧ listed.getD i true = false ∧ ∀ j, j < i → listed.getD j true = true
  | 0, h => by simp [left] at h
  | k + 1, h => by
    by_cases h0 : 0 < left listed k
    · obtain ⟨i, hi, h1, h2⟩ := left_least h0
      exact ⟨i, by omega, h1, h2⟩
    · unfold left at h
      cases hc : listed.getD k true
      · exact ⟨k, by omega, hc, left_zero (by omega)⟩
      · rw [hc] at h; simp at h; omega

structure St (ops : Array Oper) (n : Nat) (a t : Act) (listed : Array Bool) (x : Act) : Prop where
  size : x.tmps.size = t.tmps.size
  defers : x.defers = t.defers
  done : ∀ i s, i < n → listed.getD i true = true → dstIs ops i s → x.tmps[s]? = t.tmps[s]?
  other : ∀ s, (∀ i, i < n → ¬ dstIs ops i s) → x.tmps[s]? = t.tmps[s]?

theorem yields_same {o : Oper} {v : Value} {x y : Act} (hsel : ∀ cs b, o.op ≠ .select cs b) (h : ∀ s, s ∈ o.looksAt ops → x.tmps[s]? = y.tmps[s]?) (hy : YieldsIn P ops C o v x) : YieldsIn P ops C o v y := by
  refine hy.of_same (execOp_congr o hsel fun z hz => ?_) ?_
  · cases z with
    | tmp s =>
      have hm : s ∈ o.looksAt ops := List.mem_append_left _ (List.mem_filterMap.2 ⟨.tmp s, by simpa using hz, rfl⟩)
      show y.tmps.getD s undef = x.tmps.getD s undef
      rw [Array.getD_eq_getD_getElem?, Array.getD_eq_getD_getElem?, h s hm]
    | _ => rfl
  · unfold Region.wanted
    cases hg : o.guard with
    | none => rfl
    | some gw =>
      obtain ⟨j, want⟩ := gw
      simp only
      have e : yielded ops y.tmps j = yielded ops x.tmps j := by
        unfold yielded
        cases hd : (ops[j]?).bind (·.dst) with
        | none => rfl
        | some d =>
          have hm : d ∈ o.looksAt ops := List.mem_append_right _ (by simp [hg, hd])
          simp only [Option.bind_some]
          rw [h d hm]
      rw [e]

theorem simS {S : Nat → Prop} {n g : Nat} {a t : Act} {Q : Exit → Act → World → Prop} (hg : n + g = ops.size) (hB : ordB ops n = true) (hsel : Region.noSelect ops = true) (hs : Region.sinkB .any ops n = true) (hc : Region.chainB .any ops n = true) (hn : n < ops.size)
    (hy : ∀ i o, i < n → S i → ops[i]? = some o → ∃ v ai, YieldsIn P ops C o v ai ∧ (∀ s, s ∈ o.looksAt ops → ai.tmps[s]? = t.tmps[s]?) ∧ ai.tmps.size = t.tmps.size ∧ (∀ s, o.dst = some s → t.tmps[s]? = if s < t.tmps.size then some v else none))
    (hend : ∀ listed w, C w → HeadInv .any ops n listed → (∀ i, i < n → listed.getD i true = true) → wpAny P .any ops Q g listed t w) :
    ∀ (f : Nat) (listed : Array Bool) (x : Act) (w : World), left listed n = f → HeadInv .any ops n listed → (∀ i, i < n → listed.getD i true = false → S i) → St ops n a t listed x → C w → wpAny P .any ops Q (f + g) listed x w
  | 0, listed, x, w, hf, inv, hSl, st, hw => by
    have hl := left_zero hf
    have e : x = t := by
      obtain ⟨xt, xd⟩ := x
      obtain ⟨tt, td⟩ := t
      have h1 : xt = tt := Array.ext' (List.ext_getElem? fun s => by
        rw [Array.getElem?_toList, Array.getElem?_toList]
        by_cases hd : ∃ i, i < n ∧ dstIs ops i s
        · obtain ⟨i, hi, hd⟩ := hd
          exact st.done i s hi (hl i hi) hd
        · exact st.other s fun i hi hdi => hd ⟨i, hi, hdi⟩)
      have h2 : xd = td := st.defers
      rw [h1, h2]
    subst e
    rw [Nat.zero_add]
    exact hend listed w hw inv hl
  | f + 1, listed, x, w, hf, inv, hSl, st, hw => by
    obtain ⟨m, hm, hmu, hml⟩ := left_least (listed := listed) (k := n) (by omega)
    rw [show f + 1 + g = (f + g) + 1 by omega]
    refine ⟨fun h0 => ?_, fun i hi => ?_⟩
    · exfalso
      have ho : ops[m]? = some (ops[m]'(by omega)) := Array.getElem?_eq_getElem (by omega)
      have : m ∈ Region.ready .any ops listed := mem_ready.2 ⟨hmu, _, ho, fun e he hb => by
        have hlt := ordB_after hB hm ho he hb
        have h1 := hml e.on hlt
        have hz : e.on < listed.size := by rw [inv.size]; omega
        simpa [hz] using h1⟩
      rw [h0] at this; cases this
    · have hin : i < n := by
        rcases Nat.lt_or_ge i n with h | h
        · exact h
        · exact absurd hi (tail_waits hs hc hn inv _ m rfl hm hmu i h)
      obtain ⟨hiu, o, ho, hall⟩ := mem_ready.1 hi
      obtain ⟨v, ai, hyi, hlk, hsz, hdst⟩ := hy i o hin (hSl i hin hiu) ho
      have hyx : YieldsIn P ops C o v x := yields_same (fun cs b => Region.noSelect_spec hsel i o cs b ho) (fun s hs' => by
        rw [hlk s hs']
        by_cases hd : ∃ j, j < n ∧ dstIs ops j s
        · obtain ⟨j, hj, hd⟩ := hd
          obtain ⟨_, e, he, hb, hon⟩ := (ordB_dst hB hin hj ho hd).2 hs'
          have hlj := hall e he hb
          rw [hon] at hlj
          have hlj' : listed.getD j true = true := by
            have hz : j < listed.size := by rw [inv.size]; omega
            simpa [hz] using hlj
          exact (st.done j s hj hlj' hd).symm
        · exact (st.other s fun j hj hdj => hd ⟨j, hj, hdj⟩).symm) hyi
      have st' : St ops n a t (listed.setIfInBounds i true) (x.put o.dst v) := by
        refine ⟨(put_size _ _ _).trans st.size, (put_defers _ _ _).trans st.defers, fun j s hj hlj hd => ?_, fun s hs' => ?_⟩
        · by_cases e : i = j
          · subst e
            obtain ⟨p, hp, hps⟩ := hd
            obtain rfl : p = o := Option.some.inj (hp.symm.trans ho)
            rw [hps, put_same, st.size, hdst s hps]
          · rw [getD_set_ne true e] at hlj
            refine (put_other x v fun hds => e ?_).trans (st.done j s hj hlj hd)
            exact (ordB_dst hB hin hj ho hd).1 hds
        · exact (put_other x v fun hds => hs' i hin ⟨o, ho, hds⟩).trans (st.other s hs')
      have hcont : ∀ w', C w' → wpAny P .any ops Q (f + g) (listed.setIfInBounds i true) (x.put o.dst v) w' := fun w' hw' =>
        simS hg hB hsel hs hc hn hy hend f _ _ w' (by have := left_set hiu n; rw [if_pos hin] at this; omega) (inv.set hi hin) (fun j hj hlj => by
          by_cases e : i = j
          · subst e; exact hSl i hin hiu
          · rw [getD_set_ne true e] at hlj; exact hSl j hj hlj) st' hw'
      have hq := YieldsIn.qOp (K := fun x' => x' = x.put o.dst v) ho hyx rfl
      exact wpOp_of_qOp hw (fun x' w' hw' e => by subst e; exact hcont w' hw') hq

theorem getD_in_set {listed : Array Bool} {ops : Array Oper} {n i : Nat} (hz : listed.size = ops.size) (hn : n < ops.size) (hi : i < n) : (listed.setIfInBounds i true).getD i true = true := by
  have : i < listed.size := by omega
  simp [this]
/-- what one quiet operation does to the state -/
theorem St.put {n i : Nat} {a t x : Act} {listed : Array Bool} {o : Oper} {v : Value} (hB : ordB ops n = true) (st : St ops n a t listed x) (hin : i < n) (ho : ops[i]? = some o) (hdst : ∀ s, o.dst = some s → t.tmps[s]? = if s < t.tmps.size then some v else none) :
    St ops n a t (listed.setIfInBounds i true) (x.put o.dst v) := by
  refine ⟨(put_size _ _ _).trans st.size, (put_defers _ _ _).trans st.defers, fun j s hj hlj hd => ?_, fun s hs' => ?_⟩
  · by_cases e : i = j
    · subst e
      obtain ⟨p, hp, hps⟩ := hd
      obtain rfl : p = o := Option.some.inj (hp.symm.trans ho)
      rw [hps, put_same, st.size, hdst s hps]
    · rw [getD_set_ne true e] at hlj
      refine (put_other x v fun hds => e ?_).trans (st.done j s hj hlj hd)
      exact (ordB_dst hB hin hj ho hd).1 hds
  · exact (put_other x v fun hds => hs' i hin ⟨o, ho, hds⟩).trans (st.other s hs')

theorem exec_same {o : Oper} {x y : Act} (hsel : ∀ cs b, o.op ≠ .select cs b) (h : ∀ s, s ∈ o.looksAt ops → x.tmps[s]? = y.tmps[s]?) : execOp y.eval o = execOp x.eval o := by
  refine execOp_congr o hsel fun z hz => ?_
  cases z with
  | tmp s =>
    have hm : s ∈ o.looksAt ops := List.mem_append_left _ (List.mem_filterMap.2 ⟨.tmp s, by simpa using hz, rfl⟩)
    show y.tmps.getD s undef = x.tmps.getD s undef
    rw [Array.getD_eq_getD_getElem?, Array.getD_eq_getD_getElem?, h s hm]
  | _ => rfl
/-- .. with one operation that lays a block, whenever it comes up: m its number, d its slot -/
theorem simA {n g m d : Nat} {a t : Act} {Q : Exit → Act → World → Prop} {w0 : World} {oa : Oper} {obj : Obj} {val : Nat → Value} (hg : n + g = ops.size) (hB : ordB ops n = true) (hsel : Region.noSelect ops = true) (hs : Region.sinkB .any ops n = true) (hc : Region.chainB .any ops n = true) (hn : n < ops.size)
    (hmn : m < n) (hoa : ops[m]? = some oa) (hod : oa.dst = some d) (hog : oa.guard = none) (hdt : d < t.tmps.size)
    (hal : ∀ W : World, (execOp t.eval oa).run P W = .ok (.value (val W.heap.size)) (W.alloc obj))
    (hy : ∀ W0, Below w0.heap.size w0 W0 → ∀ i o, i < n → i ≠ m → ops[i]? = some o → ∃ v ai, YieldsIn P ops (fun W => ∃ u, W = ext W0 u) o v ai ∧ (∀ s, s ∈ o.looksAt ops → ai.tmps[s]? = t.tmps[s]?) ∧ ai.tmps.size = t.tmps.size ∧ (∀ s, o.dst = some s → t.tmps[s]? = if s < t.tmps.size then some v else none))
    (hnl : ∀ i o, i < n → i ≠ m → ops[i]? = some o → d ∉ o.looksAt ops ∧ o.dst ≠ some d)
    (hend : ∀ W0, Below w0.heap.size w0 W0 → ∀ listed W, Below (W0.alloc obj).heap.size (W0.alloc obj) W → HeadInv .any ops n listed → (∀ i, i < n → listed.getD i true = true) → wpAny P .any ops Q g listed (t.put (some d) (val W0.heap.size)) W) :
    ∀ (f : Nat) (listed : Array Bool) (x : Act) (W : World), left listed n = f → HeadInv .any ops n listed → listed.getD m true = false → St ops n a t listed x → Below w0.heap.size w0 W → wpAny P .any ops Q (f + g) listed x W
  | 0, listed, x, W, hf, inv, hm, st, hw => by
    have := left_zero hf m hmn
    rw [this] at hm; cases hm
  | f + 1, listed, x, W, hf, inv, hm, st, hw => by
    obtain ⟨m', hm', hmu, hml⟩ := left_least (listed := listed) (k := n) (by omega)
    rw [show f + 1 + g = (f + g) + 1 by omega]
    refine ⟨fun h0 => ?_, fun i hi => ?_⟩
    · exfalso
      have ho : ops[m']? = some (ops[m']'(by omega)) := Array.getElem?_eq_getElem (by omega)
      have : m' ∈ Region.ready .any ops listed := mem_ready.2 ⟨hmu, _, ho, fun e he hb => by
        have hlt := ordB_after hB hm' ho he hb
        have := hml e.on hlt
        have hz : e.on < listed.size := by rw [inv.size]; omega
        simpa [hz] using this⟩
      rw [h0] at this; cases this
    · have hin : i < n := by
        rcases Nat.lt_or_ge i n with h | h
        · exact h
        · exact absurd hi (tail_waits hs hc hn inv _ m' rfl hm' hmu i h)
      obtain ⟨hiu, o, ho, hall⟩ := mem_ready.1 hi
      by_cases him : i = m
      · subst him
        obtain rfl : oa = o := Option.some.inj (hoa.symm.trans ho)
        have hwn : Region.wanted oa (yielded ops x.tmps) = true := by simp [Region.wanted, hog]
        unfold wpOp
        simp only [ho, hwn, if_true]
        refine .inl ?_
        unfold Oper.wp
        rw [exec_same (ops := ops) (x := t) (y := x) (fun cs b => Region.noSelect_spec hsel i oa cs b ho) (fun s hs' => by
          by_cases hd : ∃ j, j < n ∧ dstIs ops j s
          · obtain ⟨j, hj, hd⟩ := hd
            obtain ⟨_, e, he, hb, hon⟩ := (ordB_dst hB hin hj ho hd).2 hs'
            have hlj := hall e he hb
            rw [hon] at hlj
            have hlj' : listed.getD j true = true := by
              have hz : j < listed.size := by rw [inv.size]; omega
              simpa [hz] using hlj
            exact (st.done j s hj hlj' hd).symm
          · exact (st.other s fun j hj hdj => hd ⟨j, hj, hdj⟩).symm), hal, Oper.upon_value]
        have hpt : ∀ s, s ≠ d → (t.put (some d) (val W.heap.size)).tmps[s]? = t.tmps[s]? := fun s hs => put_other t _ (fun e => hs (Option.some.inj e).symm)
        have hsz2 : (t.put (some d) (val W.heap.size)).tmps.size = t.tmps.size := put_size _ _ _
        refine simS (S := fun j => j ≠ i) (P := P) (C := fun V => ∃ u, V = ext (W.alloc obj) u) (a := a) (t := t.put (some d) (val W.heap.size)) hg hB hsel hs hc hn ?_ ?_ f _ _ _ (by have := left_set hiu n; rw [if_pos hin] at this; omega) (inv.set hi hin) ?_ ?_ ⟨⟨W.alloc obj, Below.refl _ _⟩, rfl⟩
        · intro j p hj hjm hp
          obtain ⟨v, ai, h1, h2, h3, h4⟩ := hy (W.alloc obj) (hw.alloc hw.size _) j p hj hjm hp
          obtain ⟨n1, n2⟩ := hnl j p hj hjm hp
          refine ⟨v, ai, h1, fun s hs' => ?_, h3.trans hsz2.symm, fun s hs' => ?_⟩
          · rw [h2 s hs', hpt s (fun e => n1 (e ▸ hs'))]
          · rw [hpt s (fun e => n2 (e ▸ hs')), hsz2]; exact h4 s hs'
        · rintro L V ⟨u, rfl⟩ hL hall'
          exact hend W hw L _ (ext_bel _ u) hL hall'
        · intro j hj hlj e
          subst e
          rw [getD_in_set inv.size hn hin] at hlj; cases hlj
        · have st2 : St ops n a (t.put (some d) (val W.heap.size)) listed x := by
            refine ⟨st.size.trans hsz2.symm, st.defers.trans (put_defers _ _ _).symm, fun j s hj hlj hd => ?_, fun s hs' => ?_⟩
            · have hji : j ≠ i := fun e => by subst e; rw [hiu] at hlj; cases hlj
              obtain ⟨p, hp, hps⟩ := hd
              have := (hnl j p hj hji hp).2
              rw [hpt s (fun e => this (e ▸ hps))]
              exact st.done j s hj hlj ⟨p, hp, hps⟩
            · rw [hpt s (fun e => hs' i hin ⟨oa, ho, e ▸ hod⟩)]
              exact st.other s hs'
          refine St.put hB st2 hin ho fun s hs' => ?_
          obtain rfl : d = s := Option.some.inj (hod.symm.trans hs')
          rw [put_same, hsz2]
      · obtain ⟨v, ai, hyi, hlk, hsz, hdst⟩ := hy W hw i o hin him ho
        have hyx : YieldsIn P ops (fun V => ∃ u, V = ext W u) o v x := yields_same (fun cs b => Region.noSelect_spec hsel i o cs b ho) (fun s hs' => by
          rw [hlk s hs']
          by_cases hd : ∃ j, j < n ∧ dstIs ops j s
          · obtain ⟨j, hj, hd⟩ := hd
            obtain ⟨_, e, he, hb, hon⟩ := (ordB_dst hB hin hj ho hd).2 hs'
            have hlj := hall e he hb
            rw [hon] at hlj
            have hlj' : listed.getD j true = true := by
              have hz : j < listed.size := by rw [inv.size]; omega
              simpa [hz] using hlj
            exact (st.done j s hj hlj' hd).symm
          · exact (st.other s fun j hj hdj => hd ⟨j, hj, hdj⟩).symm) hyi
        have hq := YieldsIn.qOp (K := fun x' => x' = x.put o.dst v) ho hyx rfl
        refine wpOp_of_qOp (C := fun V => ∃ u, V = ext W u) ⟨⟨W, Below.refl _ _⟩, rfl⟩ (fun x' w' hw' e => ?_) hq
        obtain ⟨u, rfl⟩ := hw'
        subst e
        exact simA hg hB hsel hs hc hn hmn hoa hod hog hdt hal hy hnl hend f _ _ _ (by have := left_set hiu n; rw [if_pos hin] at this; omega) (inv.set hi hin) (by rw [getD_set_ne true him]; exact hm) (St.put hB st hin ho hdst) (hw.trans ((ext_bel W u).mono hw.size))

theorem region_tail {id : Nat} {Q : Exit → Act → World → Prop} {a : Act} {w : World} {l : List Oper} (n : Nat) (hm : P.follows .mixedOrders = true) (hB : (ordB l.toArray n && Region.lexTailB .any l.toArray n) = true) (hC : C w.drew)
    (h : wpQuiet P l.toArray C (fun a' => ∀ w', C w' → wpList P l.toArray Q (l.drop n) a' w') (l.take n) a) : (Code.region id l.toArray true).wp P Q a w := by
  rw [Bool.and_eq_true] at hB
  obtain ⟨hB, hT⟩ := hB
  simp only [Region.lexTailB, Bool.and_eq_true, decide_eq_true_eq] at hT
  obtain ⟨⟨⟨⟨hsel, hn⟩, hs⟩, hc⟩, hlex⟩ := hT
  have hn' : n < l.length := by simpa using hn
  have htl : (l.take n).length = n := by simp; omega
  obtain ⟨t, hlx, hQ⟩ := lex_of_walk _ _ h
  obtain ⟨e1, e2, e3, e4⟩ := lex_end hB (l.take n) 0 a t (fun j hj => by
    have hj' : j < n := by rw [htl] at hj; exact hj
    simp [hj']) (by simpa using htl) hlx
  have inv0 : HeadInv .any l.toArray n (Array.replicate l.toArray.size false) :=
    ⟨by simp, fun j oj _ hl => (by rw [getD_replicate_false] at hl; cases hl), fun i _ hi => getD_in (by simpa using hi) (getD_replicate_false _ _)⟩
  have hleft : ∀ k, k ≤ l.toArray.size → left (Array.replicate l.toArray.size false) k = k := by
    intro k
    induction k with
    | zero => intro _; rfl
    | succ k ih =>
      intro hk
      unfold left
      rw [ih (by omega), getD_in (by simp at hk ⊢; omega) (getD_replicate_false _ _)]
      simp
  refine wp_region_any hm ?_
  have hseq : ∀ listed : Array Bool, HeadInv .any l.toArray n listed → (∀ i, i < n → listed.getD i true = true) → Region.seqB .any l.toArray (l.toArray.size - n) n listed = true := by
    intro listed inv hall
    have key : ∀ (f k : Nat) (L : Array Bool), k + f = n → L.size = l.toArray.size → (∀ i, i < k → L.getD i true = true) → (∀ i, k ≤ i → i < l.toArray.size → L.getD i true = false) → Region.lexHead .any l.toArray (l.toArray.size - n) f k L = true → Region.seqB .any l.toArray (l.toArray.size - n) n listed = true := by
      intro f
      induction f with
      | zero =>
        intro k L hk hz h1 h2 hL
        obtain rfl : k = n := by omega
        have e : L = listed := Array.ext (by rw [hz, inv.size]) fun i hi1 hi2 => by
          by_cases hik : i < k
          · have a1 := h1 i hik
            have a2 := hall i hik
            simp [hi1] at a1
            simp [hi2] at a2
            rw [a1, a2]
          · have a1 := h2 i (by omega) (by omega)
            have a2 := inv.tail i (by omega) (by rw [← inv.size]; exact hi2)
            simp [hi1] at a1
            simp [hi2] at a2
            rw [a1, a2]
        rw [← e]
        exact hL
      | succ f ih =>
        intro k L hk hz h1 h2 hL
        simp only [Region.lexHead, Bool.and_eq_true] at hL
        refine ih (k + 1) (L.setIfInBounds k true) (by omega) (by simp [hz]) (fun i hi => ?_) (fun i hi hi2 => by rw [getD_set_ne true (by omega)]; exact h2 i (by omega) hi2) hL.2
        by_cases e : k = i
        · subst e; have hz2 : k < L.size := by omega
          simp [hz2]
        · rw [getD_set_ne true e]; exact h1 i (by omega)
    exact key n 0 _ (by omega) (by simp) (fun i hi => by omega) (fun i _ hi => getD_in (by simpa using hi) (getD_replicate_false _ _)) hlex
  have H := simS (S := fun _ => True) (P := P) (C := C) (Q := Q) (g := l.toArray.size - n) (a := a) (t := t) (by omega) hB hsel hs hc hn (fun i o hi _ ho => e4 i o (Nat.zero_le _) hi ho)
    (fun listed w' hw' inv hall => by
      have := wpAny_of_seq (md := .any) (Q' := Q) (l.drop n) n listed t w' (fun j => by simp [List.getElem?_drop]) (by simpa using hseq listed inv hall) (hQ w' hw')
      simpa using this) n (Array.replicate l.toArray.size false) a w.drew (hleft n (by omega)) inv0 (fun _ _ _ => trivial)
    ⟨e1.symm, e2.symm, fun i s hi hl _ => (by rw [getD_in (by simp; simpa using (by omega : i < l.length)) (getD_replicate_false _ _)] at hl; cases hl), fun s hs' => (e3 s fun i _ hi => hs' i hi).symm⟩ hC
  rw [show n + (l.toArray.size - n) = l.toArray.size by omega] at H
  exact H
theorem seq_all {l : List Oper} {n : Nat} (hn : n < l.toArray.size) (hs : Region.sinkB .any l.toArray n = true) (hlex : Region.lexHead .any l.toArray (l.toArray.size - n) n 0 (Array.replicate l.toArray.size false) = true) :
    ∀ listed : Array Bool, HeadInv .any l.toArray n listed → (∀ i, i < n → listed.getD i true = true) → Region.seqB .any l.toArray (l.toArray.size - n) n listed = true := by
  intro listed inv hall
  have key : ∀ (f k : Nat) (L : Array Bool), k + f = n → L.size = l.toArray.size → (∀ i, i < k → L.getD i true = true) → (∀ i, k ≤ i → i < l.toArray.size → L.getD i true = false) → Region.lexHead .any l.toArray (l.toArray.size - n) f k L = true → Region.seqB .any l.toArray (l.toArray.size - n) n listed = true := by
    intro f
    induction f with
    | zero =>
      intro k L hk hz h1 h2 hL
      obtain rfl : k = n := by omega
      have e : L = listed := Array.ext (by rw [hz, inv.size]) fun i hi1 hi2 => by
        by_cases hik : i < k
        · have a1 := h1 i hik
          have a2 := hall i hik
          simp [hi1] at a1
          simp [hi2] at a2
          rw [a1, a2]
        · have a1 := h2 i (by omega) (by omega)
          have a2 := inv.tail i (by omega) (by rw [← inv.size]; exact hi2)
          simp [hi1] at a1
          simp [hi2] at a2
          rw [a1, a2]
      rw [← e]
      exact hL
    | succ f ih =>
      intro k L hk hz h1 h2 hL
      simp only [Region.lexHead, Bool.and_eq_true] at hL
      refine ih (k + 1) (L.setIfInBounds k true) (by omega) (by simp [hz]) (fun i hi => ?_) (fun i hi hi2 => by rw [getD_set_ne true (by omega)]; exact h2 i (by omega) hi2) hL.2
      by_cases e : k = i
      · subst e; have hz2 : k < L.size := by omega
        simp [hz2]
      · rw [getD_set_ne true e]; exact h1 i (by omega)
  exact key n 0 _ (by omega) (by simp) (fun i hi => by omega) (fun i _ hi => getD_in (by simpa using hi) (getD_replicate_false _ _)) hlex

theorem left_all {N : Nat} : ∀ k, k ≤ N → left (Array.replicate N false) k = k := by
  intro k
  induction k with
  | zero => intro _; rfl
  | succ k ih =>
    intro hk
    unfold left
    rw [ih (by omega), getD_in (by simp at hk ⊢; omega) (getD_replicate_false _ _)]
    simp

/-- m operations that read or call, in any order; one, number m, that lays a block, at any time; then the rest, in its order -/
theorem region_alloc {id : Nat} {Q : Exit → Act → World → Prop} {a T : Act} {w : World} {l : List Oper} (m d : Nat) {oa : Oper} {obj : Obj} {val : Nat → Value} (hm : P.follows .mixedOrders = true) (hB : (ordB l.toArray m && (ordB l.toArray (m + 1) && Region.lexTailB .any l.toArray (m + 1))) = true)
    (hoa : l[m]? = some oa) (hod : oa.dst = some d) (hog : oa.guard = none) (hdt : d < a.tmps.size)
    (h : ∀ W0, Below w.heap.size w W0 → (∀ (u : Ext W0) (p : Addr), (w.cell? p).isSome = true → (ext W0 u).cell? p = w.cell? p) → wpQuiet P l.toArray (fun w' => ∃ u, w' = ext W0 u) (fun a' => a' = T) (l.take m) a)
    (hal : ∀ W : World, (execOp T.eval oa).run P W = .ok (.value (val W.heap.size)) (W.alloc obj))
    (hQ : ∀ W0 W, Below w.heap.size w W0 → Below (W0.alloc obj).heap.size (W0.alloc obj) W → wpList P l.toArray Q (l.drop (m + 1)) (T.put (some d) (val W0.heap.size)) W) : (Code.region id l.toArray true).wp P Q a w := by
  rw [Bool.and_eq_true, Bool.and_eq_true] at hB
  obtain ⟨hB0, hB, hT⟩ := hB
  simp only [Region.lexTailB, Bool.and_eq_true, decide_eq_true_eq] at hT
  obtain ⟨⟨⟨⟨hsel, hn⟩, hs⟩, hc⟩, hlex⟩ := hT
  have hn' : m + 1 < l.length := by simpa using hn
  have htl : (l.take m).length = m := by simp; omega
  have hB1 : Below w.heap.size w w.drew := (Below.refl _ w).drew
  have hcell : ∀ W0, Below w.heap.size w W0 → ∀ (u : Ext W0) (p : Addr), (w.cell? p).isSome = true → (ext W0 u).cell? p = w.cell? p := fun W0 hb u p hp => by
    obtain ⟨v, hv⟩ := Option.isSome_iff_exists.1 hp
    have hbl := World.block_lt_of_cell? w p hv
    rw [(ext_bel W0 u).cell (Nat.lt_of_lt_of_le hbl hb.size), hb.cell hbl]
  have hw : ∀ W0, Below w.heap.size w W0 → T.tmps.size = a.tmps.size ∧ T.defers = a.defers ∧ (∀ s, (∀ i, 0 ≤ i → i < m → ¬ dstIs l.toArray i s) → T.tmps[s]? = a.tmps[s]?) ∧
      ∀ i o, 0 ≤ i → i < m → l.toArray[i]? = some o → ∃ v ai, YieldsIn P l.toArray (fun w' => ∃ u, w' = ext W0 u) o v ai ∧ (∀ s, s ∈ o.looksAt l.toArray → ai.tmps[s]? = T.tmps[s]?) ∧ ai.tmps.size = T.tmps.size ∧ (∀ s, o.dst = some s → T.tmps[s]? = if s < T.tmps.size then some v else none) := fun W0 hb => by
    obtain ⟨t, hlx, rfl⟩ := lex_of_walk _ _ (h W0 hb (hcell W0 hb))
    exact lex_end hB0 (l.take m) 0 a t (fun j hj => by
      have hj' : j < m := by rw [htl] at hj; exact hj
      simp [hj']) (by simpa using htl) hlx
  obtain ⟨e1, e2, e3, _⟩ := hw _ hB1
  have inv0 : HeadInv .any l.toArray (m + 1) (Array.replicate l.toArray.size false) :=
    ⟨by simp, fun j oj _ hl => (by rw [getD_replicate_false] at hl; cases hl), fun i _ hi => getD_in (by simpa using hi) (getD_replicate_false _ _)⟩
  have hoa' : l.toArray[m]? = some oa := by simpa using hoa
  refine wp_region_any hm ?_
  have H := simA (P := P) (Q := Q) (g := l.toArray.size - (m + 1)) (n := m + 1) (m := m) (d := d) (a := a) (t := T) (w0 := w) (oa := oa) (obj := obj) (by omega) hB hsel hs hc hn (by omega) hoa' hod hog (by omega) hal
    (fun W0 hb i o hi hne ho => (hw W0 hb).2.2.2 i o (Nat.zero_le _) (by omega) ho)
    (fun i o hi hne ho => by
      have := ordB_dst hB hi (Nat.lt_succ_self m) ho ⟨oa, hoa', hod⟩
      exact ⟨fun hd => by have := (this.2 hd).1; omega, fun hd => hne (this.1 hd)⟩)
    (fun W0 hb listed W hbW inv hall => by
      have := wpAny_of_seq (md := .any) (Q' := Q) (l.drop (m + 1)) (m + 1) listed _ W (fun j => by simp [List.getElem?_drop]) (by simpa using seq_all hn hs hlex listed inv hall) (hQ W0 W hb hbW)
      simpa using this) (m + 1) (Array.replicate l.toArray.size false) a w.drew (left_all (N := l.toArray.size) (m + 1) (by omega)) inv0 (getD_in (by simp; omega) (getD_replicate_false _ _))
    ⟨e1.symm, e2.symm, fun i s hi hl _ => (by rw [getD_in (i := i) (by simp at hn ⊢; omega) (getD_replicate_false _ _)] at hl; cases hl), fun s hs' => (e3 s fun i _ hi => hs' i (by omega)).symm⟩ hB1
  rw [show m + 1 + (l.toArray.size - (m + 1)) = l.toArray.size by omega] at H
  exact H
end
/-- .. in the worlds that hold all that w holds -/
theorem region_ext {P : Program} {id : Nat} {Q : Exit → Act → World → Prop} {a : Act} {w : World} {l : List Oper} (n : Nat) (hm : P.follows .mixedOrders = true) (hB : (ordB l.toArray n && Region.lexTailB .any l.toArray n) = true)
    (h : wpQuiet P l.toArray (fun w' => ∃ u, w' = ext w u) (fun a' => ∀ w', (∃ u, w' = ext w u) → wpList P l.toArray Q (l.drop n) a' w') (l.take n) a) : (Code.region id l.toArray true).wp P Q a w :=
  region_tail n hm hB ⟨⟨w.drew, (Below.refl _ w).drew⟩, rfl⟩ h
theorem quiet_mono {P : Program} {ops : Array Oper} {C : World → Prop} {Q Q' : Act → Prop} (hq : ∀ a, Q a → Q' a) : ∀ (l : List Oper) (a : Act), wpQuiet P ops C Q l a → wpQuiet P ops C Q' l a
  | [], a, h => hq a h
  | o :: r, a, h => by
    by_cases hw : Region.wanted o (yielded ops a.tmps) = true
    · simp only [wpQuiet, hw, if_true] at h ⊢
      obtain ⟨v, h1, h2⟩ := h
      exact ⟨v, h1, quiet_mono hq r _ h2⟩
    · simp only [wpQuiet, hw] at h ⊢
      exact quiet_mono hq r _ h
theorem region_extx {P : Program} {id : Nat} {Q : Exit → Act → World → Prop} {a : Act} {w : World} {l : List Oper} (n : Nat) (hm : P.follows .mixedOrders = true) (hB : (ordB l.toArray n && Region.lexTailB .any l.toArray n) = true)
    (h : (∀ (u : Ext w) (p : Addr), (w.cell? p).isSome = true → (ext w u).cell? p = w.cell? p) → wpQuiet P l.toArray (fun w' => ∃ u, w' = ext w u) (fun a' => ∀ u, wpList P l.toArray Q (l.drop n) a' (ext w u)) (l.take n) a) : (Code.region id l.toArray true).wp P Q a w :=
  region_ext n hm hB (quiet_mono (fun _ hh w' hw' => by obtain ⟨u, rfl⟩ := hw'; exact hh u) _ _ (h fun u p => ext_cell w u p))
theorem alloc_out {w W0 W : World} {obj : Obj} (h0 : Below w.heap.size w W0) (h1 : Below (W0.alloc obj).heap.size (W0.alloc obj) W) : Below w.heap.size w W ∧ w.heap.size ≤ W0.heap.size ∧ W0.heap.size < W.heap.size ∧ W.heap[W0.heap.size]? = some obj := by
  have hs := h1.size
  have h2 := h0.size
  simp at hs
  exact ⟨(h0.alloc h0.size _).trans (h1.mono (by simp; omega)), h0.size, by omega, (h1.block W0.heap.size (by simp)).trans (heap_alloc_new W0 obj)⟩
theorem blk_cell {W : World} {nb : Nat} {cs : Array Value} {T : TypeId} {fr : Nat × Nat} {j : Nat} {v : Value} (h : W.heap[nb]? = some (.cells cs T fr)) (hv : cs[j]? = some v) : W.cell? ⟨nb, j, none⟩ = some v :=
  (cell_of_row _ _ j cs T fr h).trans hv
theorem blk_frozen {W : World} {nb j : Nat} {cs : Array Value} {T : TypeId} (h : W.heap[nb]? = some (.cells cs T)) : W.frozen? ⟨nb, j, none⟩ = false := by
  unfold World.frozen?
  simp only [h]
  simp
theorem own_below {w w' : World} {B : Nat} {e : TypeId} {size : Nat} {v : Value} {n : Nat} {xs : List Value} (h : w.ownsRow B e size v n xs) (hb : Below w.heap.size w w') : w'.ownsRow B e size v n xs := by
  obtain ⟨h1, h2⟩ := h
  refine ⟨h1, ?_⟩
  rcases h2 with h2 | ⟨g, cap, cur, hv, hg, hh, r⟩
  · exact Or.inl h2
  · exact Or.inr ⟨g, cap, cur, hv, hg, (hb.block g (Array.getElem?_eq_some_iff.1 hh).1).trans hh, r⟩
end Go.Proofs.YtlnbbioponmcfaaDoor
