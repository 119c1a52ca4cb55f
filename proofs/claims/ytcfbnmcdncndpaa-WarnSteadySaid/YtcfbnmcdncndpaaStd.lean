/-
  Chapter 8: plain laws of events: no flutter; a level that lasts.
-/
import Derived.Test.YtcfbnmcdncndpaaWREv
namespace Go.Proofs.Ytcfbnmcdncndpaa
open Go.ChangeShapes Go.WideShapes Go.ChangeAt Go.RowKit
set_option linter.unusedVariables false
set_option linter.unusedSimpArgs false

section
variable {nm : ByteArray} {u d : List Int} {hold : Int}
theorem run_keep (ho : OkR nm u d hold) {k : Nat} : ∀ (ms : List Int) (s : Sta) (n : Nat), OkK u.length hold n s → (k : Int) ≤ s.l → (∀ y ∈ ms, k = 0 ∨ gt d (k - 1) ≤ y) → (k : Int) ≤ (runS u d hold s ms).l
  | [], s, n, _, hk, _ => hk
  | y :: ms, s, n, hs, hk, h => by
    have h1 := step_keep ho hk hs.l1 (h y (List.mem_cons_self ..))
    exact run_keep ho ms _ (n + 1) (hs.step ho.dl ho.h0 y) h1 fun z hz => h z (List.mem_cons_of_mem _ hz)
theorem run_lasts (ho : OkR nm u d hold) {k : Nat} (bs ms : List Int) (x : Int) (hk : reach u x = k) (h : ∀ y ∈ ms, k = 0 ∨ gt d (k - 1) ≤ y) : (k : Int) ≤ (runS u d hold ⟨0, 0, 0⟩ (bs ++ [x] ++ ms)).l ∧ (runS u d hold ⟨0, 0, 0⟩ (bs ++ [x] ++ ms)).l ≤ u.length := by
  refine ⟨?_, (runS_ok ho _).l1⟩
  have hb := runS_ok ho bs
  have hs := hb.step ho.dl ho.h0 x
  have hl := step_reach (x := x) ho hb.l0 hb.l1
  rw [hk] at hl
  rw [runS_append, runS_snoc]
  exact run_keep ho ms _ _ hs hl h
theorem run_zero : ∀ (l : List Int) (s : Sta), (s.l = 0 → s.b = 0) → (runS u d hold s l).l = 0 → (runS u d hold s l).b = 0
  | [], s, h => h
  | x :: l, s, h => by
    refine run_zero l (stepS u d hold s x) fun h1 => ?_
    rcases step_cases u d hold s x with ⟨a, e⟩ | ⟨a, b, e⟩ | ⟨a, b, c, f, e⟩ | ⟨a, b, c, f, e⟩ <;> rw [e] at h1 ⊢
    exact absurd h1 b
end
/-- how many values are below a bound, behind index p, before index k -/
def cntL (vs : List Int) (d0 p : Int) : Nat → Int
  | 0 => 0
  | k + 1 => cntL vs d0 p k + if p < (k : Int) ∧ gt vs k < d0 then 1 else 0
def sizeI (n : Int) : Int := if n ≤ -n then -n else n
def varL (vs : List Int) : Nat → Int
  | 0 => 0
  | k + 1 => varL vs k + if k = 0 then 0 else sizeI (gt vs k - gt vs (k - 1))
theorem sizeI_bd (n : Int) : 0 ≤ sizeI n ∧ n ≤ sizeI n ∧ -n ≤ sizeI n := by unfold sizeI; split <;> omega
theorem cntL_bd (vs : List Int) (d0 p : Int) : ∀ k : Nat, 0 ≤ cntL vs d0 p k ∧ cntL vs d0 p k ≤ k
  | 0 => by simp [cntL]
  | k + 1 => by
    have := cntL_bd vs d0 p k
    unfold cntL
    split <;> push_cast <;> omega
theorem cntL_none (vs : List Int) (d0 p : Int) : ∀ k : Nat, (k : Int) ≤ p + 1 → cntL vs d0 p k = 0
  | 0, _ => rfl
  | k + 1, h => by
    unfold cntL
    rw [cntL_none vs d0 p k (by push_cast at h; omega), if_neg (by push_cast at h; omega)]
    rfl
theorem varL_bd (vs : List Int) : ∀ k : Nat, 0 ≤ varL vs k
  | 0 => by simp [varL]
  | k + 1 => by
    have := varL_bd vs k
    have := sizeI_bd (gt vs k - gt vs (k - 1))
    unfold varL
    split <;> omega
/-- openings, and the index of the last one -/
def stdE (q : Int × Int) (e : Ev) : Int × Int := if e.k = 0 then (q.1 + 1, (e.i : Int)) else q
def stdF (l : List Ev) : Int × Int := l.foldl stdE (0, -1)
theorem stdF_snoc (l : List Ev) (e : Ev) : stdF (l ++ [e]) = stdE (stdF l) e := by unfold stdF; rw [List.foldl_append]; rfl
/-- between two openings there were low values -/
def okEv (vs : List Int) (d0 : Int) (n : Nat) (hold : Int) (q : Int × Int) (e : Ev) : Prop := e.k = 0 → 0 ≤ q.2 → 0 < cntL vs d0 q.2 e.i ∧ (n = 1 → hold ≤ cntL vs d0 q.2 e.i)
def GoodE (vs : List Int) (d0 : Int) (n : Nat) (hold : Int) (l : List Ev) : Prop := ∀ (i : Nat) (e : Ev), l[i]? = some e → e.v = i + 1 ∧ (e.i : Int) < vs.length ∧ (∀ e', 0 < i → l[i - 1]? = some e' → e'.i < e.i) ∧ okEv vs d0 n hold (stdF (l.take i)) e ∧ -1 ≤ (stdF (l.take i)).2 ∧ (stdF (l.take i)).2 < (e.i : Int)
theorem GoodE.snoc {vs : List Int} {d0 : Int} {n : Nat} {hold : Int} {l : List Ev} {e : Ev} (h : GoodE vs d0 n hold l) (h1 : e.v = l.length + 1) (h2 : (e.i : Int) < vs.length) (h3 : ∀ e' ∈ l, e'.i < e.i) (h4 : okEv vs d0 n hold (stdF l) e) (h5 : -1 ≤ (stdF l).2 ∧ (stdF l).2 < (e.i : Int)) : GoodE vs d0 n hold (l ++ [e]) := fun i e' hi => by
  rcases Nat.lt_or_ge i l.length with hl | hl
  · rw [List.getElem?_append_left hl] at hi
    obtain ⟨a, b, c, f, g⟩ := h i e' hi
    refine ⟨a, b, fun e2 h0 h2 => ?_, by rw [List.take_append_of_le_length (by omega)]; exact f, by rw [List.take_append_of_le_length (by omega)]; exact g⟩
    rw [List.getElem?_append_left (by omega)] at h2
    exact c e2 h0 h2
  · have hi2 := (List.getElem?_eq_some_iff.1 hi).1
    rw [List.length_append] at hi2
    obtain rfl : i = l.length := by simp at hi2; omega
    rw [List.getElem?_append_right (by omega)] at hi
    simp at hi
    subst hi
    refine ⟨h1, h2, fun e2 h0 hh => ?_, by rw [List.take_left' rfl]; exact h4, by rw [List.take_left' rfl]; exact h5⟩
    rw [List.getElem?_append_left (by omega)] at hh
    exact h3 e2 (List.mem_of_getElem? hh)
/-- what holds behind k values -/
structure InvE (vs u d : List Int) (hold : Int) (k : Nat) (s : Sta) (E : List Ev) : Prop where
  good : GoodE vs (gt d 0) u.length hold E
  ver : s.v = E.length
  idx : ∀ e ∈ E, e.i < k
  pk : (stdF E).2 < k
  p1 : -1 ≤ (stdF E).2
  m0 : 0 ≤ (stdF E).1
  pm : (stdF E).2 = -1 → (stdF E).1 = 0
  mp : 0 ≤ (stdF E).2 → 1 ≤ (stdF E).1
  op : 0 < s.l → 0 ≤ (stdF E).2
  cl : s.l = 0 → 0 ≤ (stdF E).2 → 0 < cntL vs (gt d 0) (stdF E).2 k ∧ (u.length = 1 → hold ≤ cntL vs (gt d 0) (stdF E).2 k)
  bl : 0 < s.l → u.length = 1 → s.b ≤ cntL vs (gt d 0) (stdF E).2 k
  va : 0 ≤ (stdF E).2 → ((stdF E).1 - 1) * (2 * (gt u 0 - gt d 0 + 1)) ≤ varL vs k
  vb : 0 ≤ (stdF E).2 → cntL vs (gt d 0) (stdF E).2 k = 0 → ((stdF E).1 - 1) * (2 * (gt u 0 - gt d 0 + 1)) + (gt u 0 - gt vs (k - 1)) ≤ varL vs k
  vc : 0 ≤ (stdF E).2 → 0 < cntL vs (gt d 0) (stdF E).2 k → ((stdF E).1 - 1) * (2 * (gt u 0 - gt d 0 + 1)) + (gt u 0 - gt d 0 + 1) + (gt vs (k - 1) - (gt d 0 - 1)) ≤ varL vs k
section
variable {nm : ByteArray} {vs u d : List Int} {hold : Int} {k : Nat} {s : Sta} {E : List Ev}
theorem reach_pos (ho : OkR nm u d hold) {x : Int} (h : 0 < reach u x) : gt u 0 ≤ x := reach_up (k := 1) ho.incU (by omega) (by omega)
theorem reach_nil {l : List Int} {x : Int} (h : reach l x = 0) (hl : 0 < l.length) : x < gt l 0 := by
  obtain ⟨j, hj, e, h1, h2⟩ := reach_spec x l
  obtain rfl : j = 0 := by omega
  exact h2 hl
/-- a level that falls to 0 does so at a low value -/
theorem drop_low (ho : OkR nm u d hold) {x : Int} (h0 : 0 ≤ s.l) (h1 : s.l ≤ u.length) (hs : s.l ≠ 0) (ht : (stepS u d hold s x).l = 0) : x < gt d 0 ∧ s.b + 1 = hold := by
  rcases step_cases u d hold s x with ⟨a, e⟩ | ⟨a, b, e⟩ | ⟨a, b, c, f, e⟩ | ⟨a, b, c, f, e⟩ <;> rw [e] at ht
  · have : reach u x = 0 := ht
    omega
  · exact absurd ht hs
  · refine ⟨?_, f⟩
    have hr : reach (d.take (s.l - 1).toNat) x = 0 := ht
    by_cases h2 : s.l = 1
    · rw [h2] at c; exact c
    · have hd := ho.dl
      have := reach_nil hr (by rw [List.length_take]; omega)
      rwa [gt_take (by omega)] at this
  · exact absurd ht hs
/-- what a step does to the count of low values with one level -/
theorem one_low (ho : OkR nm u d hold) {x : Int} (hn : u.length = 1) (h1 : s.l ≤ u.length) (hs : 0 < s.l) : (stepS u d hold s x).b = 0 ∨ ((stepS u d hold s x).b = s.b + 1 ∧ x < gt d 0) := by
  have e1 : s.l = 1 := by omega
  rcases step_cases u d hold s x with ⟨a, e⟩ | ⟨a, b, e⟩ | ⟨a, b, c, f, e⟩ | ⟨a, b, c, f, e⟩ <;> rw [e]
  · exact .inl rfl
  · exact .inl rfl
  · exact .inl rfl
  · exact .inr ⟨rfl, by rw [e1] at c; exact c⟩
theorem cntL_succ (vs : List Int) (d0 p : Int) (k : Nat) : cntL vs d0 p (k + 1) = cntL vs d0 p k + if p < (k : Int) ∧ gt vs k < d0 then 1 else 0 := rfl
theorem varL_succ (vs : List Int) (k : Nat) : varL vs (k + 1) = varL vs k + if k = 0 then 0 else sizeI (gt vs k - gt vs (k - 1)) := rfl
/-- a step without an opening -/
theorem InvE.same (ho : OkR nm u d hold) (h : InvE vs u d hold k s E) (hok : OkK u.length hold k s) {E' : List Ev} (hE : stdF E' = stdF E) (hg : GoodE vs (gt d 0) u.length hold E')
    (hv : (stepS u d hold s (gt vs k)).v = E'.length) (hi : ∀ e ∈ E', e.i < k + 1) (hno : ¬ (s.l = 0 ∧ (stepS u d hold s (gt vs k)).l ≠ 0)) : InvE vs u d hold (k + 1) (stepS u d hold s (gt vs k)) E' := by
  have hl0 := (hok.step ho.dl ho.h0 (gt vs k)).l0
  have hb0 := hok.b0
  have hsl := hok.l0
  have hsl1 := hok.l1
  have hdrop := fun a b => drop_low (x := gt vs k) ho hsl hsl1 a b
  have hone := fun a b => one_low (x := gt vs k) ho a hsl1 b
  obtain ⟨-, -, -, pk, p1, m0, pm, mp, op, cl, bl, va, vb, vc⟩ := h
  have hc0 := cntL_bd vs (gt d 0) (stdF E).2 k
  have hcs := cntL_succ vs (gt d 0) (stdF E).2 k
  have hvs := varL_succ vs k
  have hv0 := varL_bd vs k
  have hsz := sizeI_bd (gt vs k - gt vs (k - 1))
  have hlt := ho.lt 0 ho.n0
  rw [← hE] at pk p1 m0 pm mp op cl bl va vb vc hcs hc0
  generalize stepS u d hold s (gt vs k) = t at *
  have hk1 : gt vs (k + 1 - 1) = gt vs k := by rw [Nat.add_sub_cancel]
  have hkz : 0 ≤ (stdF E').2 → k ≠ 0 := fun h => by omega
  have hvs' : 0 ≤ (stdF E').2 → varL vs (k + 1) = varL vs k + sizeI (gt vs k - gt vs (k - 1)) := fun h => by rw [hvs, if_neg (hkz h)]
  have hx : (gt vs k < gt d 0 ∧ cntL vs (gt d 0) (stdF E').2 (k + 1) = cntL vs (gt d 0) (stdF E').2 k + 1) ∨ (¬ gt vs k < gt d 0 ∧ cntL vs (gt d 0) (stdF E').2 (k + 1) = cntL vs (gt d 0) (stdF E').2 k) := by
    by_cases hx : gt vs k < gt d 0
    · exact .inl ⟨hx, by rw [hcs, if_pos ⟨pk, hx⟩]⟩
    · exact .inr ⟨hx, by rw [hcs, if_neg (fun h => hx h.2)]; omega⟩
  clear hcs hvs
  have hsp : t.l ≠ 0 → 0 < s.l := fun ht => by
    have : s.l ≠ 0 := fun h => hno ⟨h, ht⟩
    omega
  refine ⟨hg, hv, hi, by omega, p1, m0, pm, mp, fun h => op (hsp (by omega)), ?_, ?_, ?_, ?_, ?_⟩
  · intro ht hp
    by_cases hs0 : s.l = 0
    · obtain ⟨a, b⟩ := cl hs0 hp
      exact ⟨by omega, fun hn => by have := b hn; omega⟩
    · obtain ⟨a, b⟩ := hdrop hs0 ht
      exact ⟨by omega, fun hn => by have := bl (by omega) hn; omega⟩
  · intro ht hn
    have hs := hsp (by omega)
    have := bl hs hn
    rcases hone hn hs with h1 | h1 <;> omega
  · intro hp
    have := va hp
    have := hvs' hp
    omega
  · intro hp hc
    have h1 := vb hp (by omega)
    have := hvs' hp
    omega
  · intro hp hc
    have := hvs' hp
    rw [hk1]
    by_cases hcc : cntL vs (gt d 0) (stdF E').2 k = 0
    · have h1 := vb hp hcc
      omega
    · have h1 := vc hp (by omega)
      omega
/-- an opening -/
theorem InvE.opened (ho : OkR nm u d hold) (h : InvE vs u d hold k s E) (hok : OkK u.length hold k s) (hk : k < vs.length) (hs : s.l = 0) (ht : (stepS u d hold s (gt vs k)).l ≠ 0) :
    InvE vs u d hold (k + 1) (stepS u d hold s (gt vs k)) (E ++ [⟨k, 0, (stepS u d hold s (gt vs k)).l, (stepS u d hold s (gt vs k)).v⟩]) := by
  have hx : gt u 0 ≤ gt vs k ∧ (stepS u d hold s (gt vs k)).b = 0 ∧ (stepS u d hold s (gt vs k)).v = s.v + 1 := by
    rcases step_cases u d hold s (gt vs k) with ⟨a, e⟩ | ⟨a, b, e⟩ | ⟨a, b, c, f, e⟩ | ⟨a, b, c, f, e⟩
    · rw [e]; exact ⟨reach_pos ho (by omega), rfl, rfl⟩
    · rw [e] at ht; exact absurd hs ht
    · exact absurd hs b
    · exact absurd hs b
  obtain ⟨hx1, hx2, hx3⟩ := hx
  obtain ⟨good, ver, idx, pk, p1, m0, pm, mp, op, cl, bl, va, vb, vc⟩ := h
  have hF : stdF (E ++ [⟨k, 0, (stepS u d hold s (gt vs k)).l, (stepS u d hold s (gt vs k)).v⟩]) = ((stdF E).1 + 1, (k : Int)) := by
    rw [stdF_snoc]; rfl
  have hc0 : cntL vs (gt d 0) (k : Int) (k + 1) = 0 := cntL_none vs _ _ _ (by omega)
  have hvs := varL_succ vs k
  have hv0 := varL_bd vs (k + 1)
  have hsz := sizeI_bd (gt vs k - gt vs (k - 1))
  have hlt := ho.lt 0 ho.n0
  have hcl := cl hs
  have hW : ((stdF E).1 + 1 - 1) * (2 * (gt u 0 - gt d 0 + 1)) = ((stdF E).1 - 1) * (2 * (gt u 0 - gt d 0 + 1)) + 2 * (gt u 0 - gt d 0 + 1) := by
    rw [show (stdF E).1 + 1 - 1 = ((stdF E).1 - 1) + 1 by omega, Int.add_mul, Int.one_mul]
  have hV : ((stdF E).1 + 1 - 1) * (2 * (gt u 0 - gt d 0 + 1)) ≤ varL vs (k + 1) := by
    by_cases hp : 0 ≤ (stdF E).2
    · have h1 := vc hp (hcl hp).1
      rw [if_neg (by omega)] at hvs
      rw [hW]
      generalize ((stdF E).1 - 1) * (2 * (gt u 0 - gt d 0 + 1)) = W at *
      omega
    · have hm := pm (by omega)
      rw [hm]
      simp only [Int.zero_add, Int.sub_self, Int.zero_mul]
      exact hv0
  refine ⟨GoodE.snoc good ?_ ?_ ?_ ?_ ⟨p1, pk⟩, ?_, ?_, ?_, ?_, ?_, ?_, ?_, ?_, ?_, ?_, ?_, ?_, ?_⟩
  · show (stepS u d hold s (gt vs k)).v = _
    rw [hx3, ver]
  · show (k : Int) < _
    omega
  · exact idx
  · intro _ hp
    exact hcl hp
  · rw [hx3, ver, List.length_append]; rfl
  · intro e he
    rcases List.mem_append.1 he with he | he
    · have := idx e he; omega
    · rw [List.mem_singleton] at he
      subst he
      show k < k + 1
      omega
  all_goals rw [hF]
  · show (k : Int) < _
    omega
  · show -1 ≤ (k : Int)
    omega
  · show 0 ≤ (stdF E).1 + 1
    omega
  · intro hp
    have : (k : Int) = -1 := hp
    omega
  · intro _
    show 1 ≤ (stdF E).1 + 1
    omega
  · intro _
    show 0 ≤ (k : Int)
    omega
  · intro h0; exact absurd h0 ht
  · intro _ _
    show _ ≤ cntL vs (gt d 0) (k : Int) (k + 1)
    rw [hc0, hx2]
    exact Int.le_refl _
  · intro _; exact hV
  · intro _ _
    rw [Nat.add_sub_cancel]
    show ((stdF E).1 + 1 - 1) * (2 * (gt u 0 - gt d 0 + 1)) + _ ≤ _
    generalize ((stdF E).1 + 1 - 1) * (2 * (gt u 0 - gt d 0 + 1)) = W at *
    omega
  · intro _ h0
    have : 0 < cntL vs (gt d 0) (k : Int) (k + 1) := h0
    rw [hc0] at this
    omega
theorem InvE.init (ho : OkR nm u d hold) (vs : List Int) : InvE vs u d hold 0 ⟨0, 0, 0⟩ [] where
  good := fun i e h => by simp at h
  ver := rfl
  idx := fun e h => by cases h
  pk := by show (-1 : Int) < _; omega
  p1 := by show (-1 : Int) ≤ -1; omega
  m0 := by show (0 : Int) ≤ 0; omega
  pm := fun _ => rfl
  mp := fun h => by have : (0 : Int) ≤ -1 := h; omega
  op := fun h => by have : (0 : Int) < 0 := h; omega
  cl := fun _ h => by have : (0 : Int) ≤ -1 := h; omega
  bl := fun h => by have : (0 : Int) < 0 := h; omega
  va := fun h => by have : (0 : Int) ≤ -1 := h; omega
  vb := fun h => by have : (0 : Int) ≤ -1 := h; omega
  vc := fun h => by have : (0 : Int) ≤ -1 := h; omega
theorem inv_all (ho : OkR nm u d hold) (vs : List Int) : ∀ k : Nat, k ≤ vs.length → InvE vs u d hold k (runS u d hold ⟨0, 0, 0⟩ (vs.take k)) (evK u d hold vs k)
  | 0, _ => InvE.init ho vs
  | k + 1, hk => by
    have ih := inv_all ho vs k (by omega)
    have hlt : k < vs.length := by omega
    have hok := runS_ok ho (vs.take k)
    rw [List.length_take, Nat.min_eq_left (by omega)] at hok
    have hsn : runS u d hold ⟨0, 0, 0⟩ (vs.take (k + 1)) = stepS u d hold (runS u d hold ⟨0, 0, 0⟩ (vs.take k)) vs[k] := by rw [take_snoc' hlt, runS_snoc]
    have hs1 := fun h => evK_same (u := u) (d := d) (hold := hold) hlt h
    have hs2 := fun h => evK_next (u := u) (d := d) (hold := hold) hlt h
    have hg : vs[k] = gt vs k := by unfold gt; simp [hlt]
    rw [hg] at hs1 hs2 hsn
    rw [hsn]
    generalize runS u d hold ⟨0, 0, 0⟩ (vs.take k) = s at *
    have hver := step_ver u d hold s (gt vs k) hok.l0
    by_cases hv : (stepS u d hold s (gt vs k)).v = s.v
    · rw [hs1 hv]
      refine ih.same ho hok rfl ih.good (by rw [hv]; exact ih.ver) (fun e he => by have := ih.idx e he; omega) ?_
      rintro ⟨h1, h2⟩
      rcases hver with h3 | h3
      · exact h2 (by rw [h3.2]; exact h1)
      · omega
    · rw [hs2 hv]
      have hv1 : (stepS u d hold s (gt vs k)).v = s.v + 1 ∧ (stepS u d hold s (gt vs k)).l ≠ s.l := by
        rcases hver with h3 | h3
        · exact absurd h3.1 hv
        · exact h3
      by_cases h0 : s.l = 0
      · rw [show kindOf s.l (stepS u d hold s (gt vs k)).l = 0 from kindOf_zero.2 h0]
        exact ih.opened ho hok hlt h0 (by rw [← h0]; exact hv1.2)
      · have hkn : kindOf s.l (stepS u d hold s (gt vs k)).l ≠ 0 := fun h => h0 (kindOf_zero.1 h)
        have hF : stdF (evK u d hold vs k ++ [⟨k, kindOf s.l (stepS u d hold s (gt vs k)).l, (stepS u d hold s (gt vs k)).l, (stepS u d hold s (gt vs k)).v⟩]) = stdF (evK u d hold vs k) := by
          rw [stdF_snoc]; unfold stdE; rw [if_neg hkn]
        refine ih.same ho hok hF (GoodE.snoc ih.good (by show (stepS u d hold s (gt vs k)).v = _; rw [hv1.1, ih.ver]) (by show (k : Int) < _; omega) ih.idx (fun h => absurd h hkn) ⟨ih.p1, ih.pk⟩) (by rw [hv1.1, ih.ver, List.length_append]; rfl) ?_ (fun h => h0 h.1)
        intro e he
        rcases List.mem_append.1 he with he | he
        · have := ih.idx e he; omega
        · rw [List.mem_singleton] at he
          subst he
          show k < k + 1
          omega
theorem opens_bound (ho : OkR nm u d hold) (vs : List Int) : (stdF (evs u d hold vs)).1 ≤ oB u d (varL vs vs.length) := by
  have h := inv_all ho vs vs.length (Nat.le_refl _)
  rw [evK_end] at h
  obtain ⟨-, -, -, pk, p1, m0, pm, mp, op, cl, bl, va, vb, vc⟩ := h
  have hlt := ho.lt 0 ho.n0
  have hv0 := varL_bd vs vs.length
  unfold oB
  by_cases hp : 0 ≤ (stdF (evs u d hold vs)).2
  · have h1 := va hp
    have h2 := (Int.le_ediv_iff_mul_le (show 0 < 2 * (gt u 0 - gt d 0 + 1) by omega)).2 h1
    omega
  · have hm := pm (by omega)
    have h2 : 0 ≤ varL vs vs.length / (2 * (gt u 0 - gt d 0 + 1)) := Int.ediv_nonneg hv0 (by omega)
    omega
end
theorem gt_get {l : List Int} {k : Nat} (h : k < l.length) : l[k] = gt l k := by unfold gt; simp [h]
end Go.Proofs.Ytcfbnmcdncndpaa
