/-
  Chapter 8: EventsOf: what changes over a list of values.
-/
import Derived.Test.YtcfbnmcdncndpaaWSta
import Derived.Test.YtcfbnmcdncndpaaWPen
namespace Go.Proofs.Ytcfbnmcdncndpaa
open Go.ChangeShapes Go.WideShapes Go.ChangeAt Go.RowKit
set_option linter.unusedVariables false
set_option linter.unusedSimpArgs false
attribute [local go_sem] Oper.semAt_some

def kindOf (a b : Int) : Int := if a = 0 then 0 else if b = 0 then 3 else if a < b then 1 else 2
theorem kindOf_any (a b : Int) (w : World) : Calls Try.prog 99 #[.int .i64 a, .int .i64 b] w fun e w' => e = .returned (.int .i64 (kindOf a b)) ∧ w = w' := by
  by_cases ha : a = 0
  · subst ha
    go_enter Try.func99, Try.ntmps99
    go_wp2
    go_ret
    exact ⟨rfl, rfl⟩
  · by_cases hb : b = 0
    · subst hb
      have hq : kindOf a 0 = 3 := by unfold kindOf; rw [if_neg ha, if_pos rfl]
      rw [hq]
      have h1 : (a == 0) = false := by simpa using ha
      clear ha hq
      go_enter Try.func99, Try.ntmps99
      go_wp2
      go_ret
      exact ⟨rfl, rfl⟩
    · have h1 : (a == 0) = false := by simpa using ha
      have h2 : (b == 0) = false := by simpa using hb
      by_cases hc : a < b
      · have hq : kindOf a b = 1 := by unfold kindOf; rw [if_neg ha, if_neg hb, if_pos hc]
        rw [hq]
        clear hq ha hb
        go_enter Try.func99, Try.ntmps99
        go_wp2
        go_ret
        exact ⟨rfl, rfl⟩
      · have hq : kindOf a b = 2 := by unfold kindOf; rw [if_neg ha, if_neg hb, if_neg hc]
        rw [hq]
        clear hq ha hb
        go_enter Try.func99, Try.ntmps99
        go_wp2
        go_ret
        exact ⟨rfl, rfl⟩
structure Ev where
  i : Nat
  k : Int
  l : Int
  v : Int
def evC (x : Ev) (j : Nat) : Value := if j = 0 then .int .i64 x.i else if j = 1 then .int .i64 x.k else if j = 2 then .int .i64 x.l else .int .i64 x.v
abbrev EvsAt := RowsAt 4 evC
theorem evC_one (x : Ev) (i : Nat) : (evC x i).oneCell' = true := by unfold evC; split <;> (try split) <;> (try split) <;> rfl
theorem infoEv : (Try.prog.info? 102).map (fun i => (i.zero, i.size, i.bytes)) = some (some (.agg #[.int .i64 0, .int .i64 0, .int .i64 0, .int .i64 0]), 4, 32) := by kernel_rfl
theorem infoEv_ : ∃ i : TypeInfo, Try.prog.info? 102 = some i ∧ i.zero = some (.agg #[.int .i64 0, .int .i64 0, .int .i64 0, .int .i64 0]) ∧ i.size = 4 ∧ i.bytes = 32 := by
  have h := infoEv
  cases hi : Try.prog.info? 102 with
  | none => rw [hi] at h; cases h
  | some i =>
    rw [hi] at h
    simp only [Option.map_some, Option.some.injEq, Prod.mk.injEq] at h
    exact ⟨i, rfl, h.1, h.2.1, h.2.2⟩
def evOf (x : Nat × Sta × Sta) : Ev := ⟨x.1, kindOf x.2.1.l x.2.2.l, x.2.2.l, x.2.2.v⟩
theorem chs_len (u d : List Int) (hold : Int) : ∀ (l : List Int) (i : Nat) (s : Sta), (chs u d hold i s l).length ≤ l.length
  | [], _, _ => Nat.le_refl _
  | x :: r, i, s => by
    have := chs_len u d hold r (i + 1) (stepS u d hold s x)
    unfold chs
    split
    · simp; omega
    · simp; omega
theorem chs_ix (u d : List Int) (hold : Int) : ∀ (l : List Int) (i : Nat) (s : Sta), ∀ x ∈ chs u d hold i s l, i ≤ x.1 ∧ x.1 < i + l.length
  | [], _, _, x, h => by cases h
  | y :: r, i, s, x, h => by
    unfold chs at h
    rcases List.mem_append.1 h with h1 | h1
    · split at h1
      · cases h1
      · rw [List.mem_singleton] at h1; subst h1; simp
    · have := chs_ix u d hold r (i + 1) _ x h1
      simp; omega
def evs (u d : List Int) (hold : Int) (vs : List Int) : List Ev := (chs u d hold 0 ⟨0, 0, 0⟩ vs).map evOf
def evQ (nm : ByteArray) (u d : List Int) (hold : Int) (vs : List Int) : List Ev × Int := if valE nm u d hold vs = 0 then (evs u d hold vs, 0) else ([], valE nm u d hold vs)
def EvsE (q : List Ev × Int) (w : World) (e : Ending) (w' : World) : Prop := ∃ A' c', e = .returned (.tuple #[.slice A' q.1.length c', .int .i64 q.2]) ∧ EvsAt w' A' q.1 ∧ Below w.heap.size w w'
theorem newsE {w : World} {vb : Nat} {e : Ev} (hv : w.heap[vb]? = some (.cells #[.int .i64 e.i, .int .i64 e.k, .int .i64 e.l, .int .i64 e.v] 102)) : ∀ j u, [Value.int .i64 e.i, .int .i64 e.k, .int .i64 e.l, .int .i64 e.v][j]? = some u → w.cell? ((⟨vb, 0, none⟩ : Addr).add j) = some u := fun j u hu => by
  rw [Addr.add_lit, Nat.zero_add]
  exact blk_cell hv (by simpa using hu)
/-- the box and its list -/
structure EvI (w : World) (B0 ob : Nat) (pre : List (Nat × Sta × Sta)) (W : World) : Prop where
  bel : Below w.heap.size w W
  box : ∃ A' c', W.cell? ⟨ob, 0, none⟩ = some (.slice A' (pre.map evOf).length c') ∧ W.frozen? ⟨ob, 0, none⟩ = false ∧ W.ownsRow B0 102 4 (.slice A' (pre.map evOf).length c') (pre.map evOf).length (cellsOf 4 evC (pre.map evOf))
theorem own_blk {w w' : World} {B : Nat} {e : TypeId} {size : Nat} {v : Value} {n : Nat} {xs : List Value} (h : w.ownsRow B e size v n xs) (hb : ∀ g o, B ≤ g → w.heap[g]? = some o → o.isCells = true → w'.heap[g]? = some o) : w'.ownsRow B e size v n xs := by
  obtain ⟨h1, h2⟩ := h
  refine ⟨h1, ?_⟩
  rcases h2 with h2 | ⟨g, cap, cur, hv, hg, hh, r⟩
  · exact Or.inl h2
  · exact Or.inr ⟨g, cap, cur, hv, hg, hb g _ hg hh rfl, r⟩
theorem own_cells {w : World} {B : Nat} {e : TypeId} {size : Nat} {v : Value} {n : Nat} {xs : List Value} (h : w.ownsRow B e size v n xs) : ∀ (j : Nat) (o : Obj), v.ownBlock = some j → w.heap[j]? = some o → o.isCells = true := by
  intro j o hj ho
  obtain ⟨h1, h2⟩ := h
  rcases h2 with h2 | ⟨g, cap, cur, hv, hg, hh, r⟩
  · rw [h2.1] at hj; cases hj
  · rw [hv] at hj
    obtain rfl : g = j := Option.some.inj hj
    rw [hh] at ho
    obtain rfl := Option.some.inj ho
    rfl
set_option maxRecDepth 100000 in
set_option maxHeartbeats 4000000 in
theorem EventsOf_any (nm : ByteArray) (A : Option Addr) (u : List Int) (ca : Nat) (B : Option Addr) (d : List Int) (cb : Nat) (hold : Int) (V : Option Addr) (vs : List Int) (cv : Nat) (w : World) (hs : nm.size ≤ 1000) (hu : u.length ≤ 100) (hd : d.length ≤ 100) (hcb : d.length ≤ cb) (hv : vs.length ≤ 1000000)
    (hA : IntsAt w A u) (hB : IntsAt w B d) (hV : IntsAt w V vs) :
    Calls Try.prog 37 #[.agg #[.string nm, .slice A u.length ca, .slice B d.length cb, .int .i64 hold], .slice V vs.length cv] w (EvsE (evQ nm u d hold vs) w) := by
  by_cases h0 : valE nm u d hold vs = 0
  · refine (callsIn_wide (n := 9)).1 ?_
    have hq : evQ nm u d hold vs = (evs u d hold vs, 0) := if_pos h0
    obtain ⟨hc0, hv5, -⟩ := valE_ok h0
    have hok := okR_of hc0
    obtain ⟨i0, hi0, hz0, hz1, hz2⟩ := infoEv_
    have HI := Lib.hid hi0
    have HZ0 := Lib.hid hz0
    have HZ1 := Lib.hid hz1
    have HZ2 := Lib.hid hz2
    have HQ := Lib.hid hq
    have H0 := Lib.hid h0
    clear h0 hq hc0 hi0 hz0 hz1 hz2
    refine callsIn_of_wp_marks Try.func37 rfl trivial ?_ rfl
    simp only [Try.ntmps37, List.size_toArray, List.length_cons, List.length_nil, Nat.reduceAdd, Nat.reduceSub, Array.replicate_succ, Array.replicate_zero, List.push_toArray, List.append_toArray, List.nil_append, List.cons_append]
    gi_wp2_with (fail)
    refine ⟨trivial, (callsIn_wide.2 (openValues_any nm A u ca B d cb hold V vs cv _ hs hu hd hv (hA.below (by repeat (first | assumption | exact Below.refl _ _ | refine Below.drew ?_ | (refine below_alloc _ ?_ ?_; focus (first | omega | (simp; done) | (simp; omega) | (simp at *; omega))) | (refine below_set _ ?_ ?_; focus (first | omega | (simp; done) | (simp; omega) | (simp at *; omega))) | refine below_drewN ?_ _ | (refine below_call (by assumption) ?_ ?_; focus (first | omega | (simp; done) | (simp; omega) | (simp at *; omega))) | (refine below_call' (by assumption) ?_ ?_; focus (first | omega | (simp; done) | (simp; omega) | (simp at *; omega)))))) (hB.below (by repeat (first | assumption | exact Below.refl _ _ | refine Below.drew ?_ | (refine below_alloc _ ?_ ?_; focus (first | omega | (simp; done) | (simp; omega) | (simp at *; omega))) | (refine below_set _ ?_ ?_; focus (first | omega | (simp; done) | (simp; omega) | (simp at *; omega))) | refine below_drewN ?_ _ | (refine below_call (by assumption) ?_ ?_; focus (first | omega | (simp; done) | (simp; omega) | (simp at *; omega))) | (refine below_call' (by assumption) ?_ ?_; focus (first | omega | (simp; done) | (simp; omega) | (simp at *; omega)))))) (hV.below (by repeat (first | assumption | exact Below.refl _ _ | refine Below.drew ?_ | (refine below_alloc _ ?_ ?_; focus (first | omega | (simp; done) | (simp; omega) | (simp at *; omega))) | (refine below_set _ ?_ ?_; focus (first | omega | (simp; done) | (simp; omega) | (simp at *; omega))) | refine below_drewN ?_ _ | (refine below_call (by assumption) ?_ ?_; focus (first | omega | (simp; done) | (simp; omega) | (simp at *; omega))) | (refine below_call' (by assumption) ?_ ?_; focus (first | omega | (simp; done) | (simp; omega) | (simp at *; omega)))))))).mono ?_⟩
    rintro e w1 ⟨rfl, hb1⟩
    rw [H0.out]
    have hz := hb1.size
    simp at hz
    have z0 : w.heap.size < w1.heap.size := by omega
    have hbw : Below w.heap.size w w1 := (by repeat (first | assumption | exact Below.refl _ _ | refine Below.drew ?_ | (refine below_alloc _ ?_ ?_; focus (first | omega | (simp; done) | (simp; omega) | (simp at *; omega))) | (refine below_set _ ?_ ?_; focus (first | omega | (simp; done) | (simp; omega) | (simp at *; omega))) | refine below_drewN ?_ _ | (refine below_call (by assumption) ?_ ?_; focus (first | omega | (simp; done) | (simp; omega) | (simp at *; omega))) | (refine below_call' (by assumption) ?_ ?_; focus (first | omega | (simp; done) | (simp; omega) | (simp at *; omega)))))
    clear hb1 hz
    have hA1 := hA.below hbw
    have hB1 := hB.below hbw
    have hV1 := hV.below hbw
    gi_wp2_with (fail)
    refine ⟨trivial, (callsIn_wide.2 (changes_any nm A u.length ca B d.length cb hold V vs.length cv _ _)).mono ?_⟩
    rintro e w2 ⟨rfl, rfl⟩
    gi_wp2_with (fail)
    have hbW : Below w1.heap.size w1 ((((((w1.alloc (Obj.cells #[Value.string nm, Value.slice A u.length ca, Value.slice B d.length cb, Value.int IntKind.i64 hold] 143)).alloc (Obj.cells #[Value.int IntKind.i64 0, Value.int IntKind.i64 0, Value.int IntKind.i64 0] 61)).alloc (Obj.cells #[Value.slice none 0 0] 65)).alloc (Obj.cells #[Value.string nm, Value.slice A u.length ca, Value.slice B d.length cb, Value.int IntKind.i64 hold] 143)).alloc (Obj.cells #[Value.slice V vs.length cv] 22)).alloc (Obj.cells #[Value.pointer (some { block := w1.heap.size + 1, off := 0 })] 161)) := (by repeat (first | assumption | exact Below.refl _ _ | refine Below.drew ?_ | (refine below_alloc _ ?_ ?_; focus (first | omega | (simp; done) | (simp; omega) | (simp at *; omega))) | (refine below_set _ ?_ ?_; focus (first | omega | (simp; done) | (simp; omega) | (simp at *; omega))) | refine below_drewN ?_ _ | (refine below_call (by assumption) ?_ ?_; focus (first | omega | (simp; done) | (simp; omega) | (simp at *; omega))) | (refine below_call' (by assumption) ?_ ?_; focus (first | omega | (simp; done) | (simp; omega) | (simp at *; omega)))))
    have hsW : ((((((w1.alloc (Obj.cells #[Value.string nm, Value.slice A u.length ca, Value.slice B d.length cb, Value.int IntKind.i64 hold] 143)).alloc (Obj.cells #[Value.int IntKind.i64 0, Value.int IntKind.i64 0, Value.int IntKind.i64 0] 61)).alloc (Obj.cells #[Value.slice none 0 0] 65)).alloc (Obj.cells #[Value.string nm, Value.slice A u.length ca, Value.slice B d.length cb, Value.int IntKind.i64 hold] 143)).alloc (Obj.cells #[Value.slice V vs.length cv] 22)).alloc (Obj.cells #[Value.pointer (some { block := w1.heap.size + 1, off := 0 })] 161)).heap.size = w1.heap.size + 6 := by simp
    have hst : StaAt (w1.heap.size + 1) ⟨0, 0, 0⟩ ((((((w1.alloc (Obj.cells #[Value.string nm, Value.slice A u.length ca, Value.slice B d.length cb, Value.int IntKind.i64 hold] 143)).alloc (Obj.cells #[Value.int IntKind.i64 0, Value.int IntKind.i64 0, Value.int IntKind.i64 0] 61)).alloc (Obj.cells #[Value.slice none 0 0] 65)).alloc (Obj.cells #[Value.string nm, Value.slice A u.length ca, Value.slice B d.length cb, Value.int IntKind.i64 hold] 143)).alloc (Obj.cells #[Value.slice V vs.length cv] 22)).alloc (Obj.cells #[Value.pointer (some { block := w1.heap.size + 1, off := 0 })] 161)) := ⟨(by repeat (first | assumption | (refine cell_new ?_ rfl; focus (simp; done)) | refine cell_drew ?_ | refine cell_alloc _ ?_ | refine cell_drewN _ ?_ | (refine cell_far ?_ ?_; focus (first | omega | (simp; omega) | (simp; done))) | refine cell_below' (by assumption) ?_)), (by repeat (first | assumption | (refine cell_new ?_ rfl; focus (simp; done)) | refine cell_drew ?_ | refine cell_alloc _ ?_ | refine cell_drewN _ ?_ | (refine cell_far ?_ ?_; focus (first | omega | (simp; omega) | (simp; done))) | refine cell_below' (by assumption) ?_)), (by repeat (first | assumption | (refine cell_new ?_ rfl; focus (simp; done)) | refine cell_drew ?_ | refine cell_alloc _ ?_ | refine cell_drewN _ ?_ | (refine cell_far ?_ ?_; focus (first | omega | (simp; omega) | (simp; done))) | refine cell_below' (by assumption) ?_)), (by repeat (first | assumption | (refine frozen_new ?_; focus (simp; done)) | refine frozen_drew ?_ | (refine frozen_alloc _ ?_ ?_; focus (first | (simp; done) | (simp; omega))) | refine frozen_drewN _ ?_ | refine frozen_set _ _ ?_ | (refine frozen_below (by assumption) ?_ ?_; focus (first | (simp; done) | (simp; omega))))), (by repeat (first | assumption | (refine frozen_new ?_; focus (simp; done)) | refine frozen_drew ?_ | (refine frozen_alloc _ ?_ ?_; focus (first | (simp; done) | (simp; omega))) | refine frozen_drewN _ ?_ | refine frozen_set _ _ ?_ | (refine frozen_below (by assumption) ?_ ?_; focus (first | (simp; done) | (simp; omega))))), (by repeat (first | assumption | (refine frozen_new ?_; focus (simp; done)) | refine frozen_drew ?_ | (refine frozen_alloc _ ?_ ?_; focus (first | (simp; done) | (simp; omega))) | refine frozen_drewN _ ?_ | refine frozen_set _ _ ?_ | (refine frozen_below (by assumption) ?_ ?_; focus (first | (simp; done) | (simp; omega)))))⟩
    have k1 : ((((((w1.alloc (Obj.cells #[Value.string nm, Value.slice A u.length ca, Value.slice B d.length cb, Value.int IntKind.i64 hold] 143)).alloc (Obj.cells #[Value.int IntKind.i64 0, Value.int IntKind.i64 0, Value.int IntKind.i64 0] 61)).alloc (Obj.cells #[Value.slice none 0 0] 65)).alloc (Obj.cells #[Value.string nm, Value.slice A u.length ca, Value.slice B d.length cb, Value.int IntKind.i64 hold] 143)).alloc (Obj.cells #[Value.slice V vs.length cv] 22)).alloc (Obj.cells #[Value.pointer (some { block := w1.heap.size + 1, off := 0 })] 161)).cell? ⟨w1.heap.size + 1 + 1 + 1, 0, none⟩ = some (.string nm) := (by repeat (first | assumption | (refine cell_new ?_ rfl; focus (simp; done)) | refine cell_drew ?_ | refine cell_alloc _ ?_ | refine cell_drewN _ ?_ | (refine cell_far ?_ ?_; focus (first | omega | (simp; omega) | (simp; done))) | refine cell_below' (by assumption) ?_))
    have k2 : ((((((w1.alloc (Obj.cells #[Value.string nm, Value.slice A u.length ca, Value.slice B d.length cb, Value.int IntKind.i64 hold] 143)).alloc (Obj.cells #[Value.int IntKind.i64 0, Value.int IntKind.i64 0, Value.int IntKind.i64 0] 61)).alloc (Obj.cells #[Value.slice none 0 0] 65)).alloc (Obj.cells #[Value.string nm, Value.slice A u.length ca, Value.slice B d.length cb, Value.int IntKind.i64 hold] 143)).alloc (Obj.cells #[Value.slice V vs.length cv] 22)).alloc (Obj.cells #[Value.pointer (some { block := w1.heap.size + 1, off := 0 })] 161)).cell? ⟨w1.heap.size + 1 + 1 + 1, 1, none⟩ = some (.slice A u.length ca) := (by repeat (first | assumption | (refine cell_new ?_ rfl; focus (simp; done)) | refine cell_drew ?_ | refine cell_alloc _ ?_ | refine cell_drewN _ ?_ | (refine cell_far ?_ ?_; focus (first | omega | (simp; omega) | (simp; done))) | refine cell_below' (by assumption) ?_))
    have k3 : ((((((w1.alloc (Obj.cells #[Value.string nm, Value.slice A u.length ca, Value.slice B d.length cb, Value.int IntKind.i64 hold] 143)).alloc (Obj.cells #[Value.int IntKind.i64 0, Value.int IntKind.i64 0, Value.int IntKind.i64 0] 61)).alloc (Obj.cells #[Value.slice none 0 0] 65)).alloc (Obj.cells #[Value.string nm, Value.slice A u.length ca, Value.slice B d.length cb, Value.int IntKind.i64 hold] 143)).alloc (Obj.cells #[Value.slice V vs.length cv] 22)).alloc (Obj.cells #[Value.pointer (some { block := w1.heap.size + 1, off := 0 })] 161)).cell? ⟨w1.heap.size + 1 + 1 + 1, 2, none⟩ = some (.slice B d.length cb) := (by repeat (first | assumption | (refine cell_new ?_ rfl; focus (simp; done)) | refine cell_drew ?_ | refine cell_alloc _ ?_ | refine cell_drewN _ ?_ | (refine cell_far ?_ ?_; focus (first | omega | (simp; omega) | (simp; done))) | refine cell_below' (by assumption) ?_))
    have k4 : ((((((w1.alloc (Obj.cells #[Value.string nm, Value.slice A u.length ca, Value.slice B d.length cb, Value.int IntKind.i64 hold] 143)).alloc (Obj.cells #[Value.int IntKind.i64 0, Value.int IntKind.i64 0, Value.int IntKind.i64 0] 61)).alloc (Obj.cells #[Value.slice none 0 0] 65)).alloc (Obj.cells #[Value.string nm, Value.slice A u.length ca, Value.slice B d.length cb, Value.int IntKind.i64 hold] 143)).alloc (Obj.cells #[Value.slice V vs.length cv] 22)).alloc (Obj.cells #[Value.pointer (some { block := w1.heap.size + 1, off := 0 })] 161)).cell? ⟨w1.heap.size + 1 + 1 + 1, 3, none⟩ = some (.int .i64 hold) := (by repeat (first | assumption | (refine cell_new ?_ rfl; focus (simp; done)) | refine cell_drew ?_ | refine cell_alloc _ ?_ | refine cell_drewN _ ?_ | (refine cell_far ?_ ?_; focus (first | omega | (simp; omega) | (simp; done))) | refine cell_below' (by assumption) ?_))
    have k5 : ((((((w1.alloc (Obj.cells #[Value.string nm, Value.slice A u.length ca, Value.slice B d.length cb, Value.int IntKind.i64 hold] 143)).alloc (Obj.cells #[Value.int IntKind.i64 0, Value.int IntKind.i64 0, Value.int IntKind.i64 0] 61)).alloc (Obj.cells #[Value.slice none 0 0] 65)).alloc (Obj.cells #[Value.string nm, Value.slice A u.length ca, Value.slice B d.length cb, Value.int IntKind.i64 hold] 143)).alloc (Obj.cells #[Value.slice V vs.length cv] 22)).alloc (Obj.cells #[Value.pointer (some { block := w1.heap.size + 1, off := 0 })] 161)).cell? ⟨w1.heap.size + 1 + 1 + 1 + 1, 0, none⟩ = some (.slice V vs.length cv) := (by repeat (first | assumption | (refine cell_new ?_ rfl; focus (simp; done)) | refine cell_drew ?_ | refine cell_alloc _ ?_ | refine cell_drewN _ ?_ | (refine cell_far ?_ ?_; focus (first | omega | (simp; omega) | (simp; done))) | refine cell_below' (by assumption) ?_))
    have k6 : ((((((w1.alloc (Obj.cells #[Value.string nm, Value.slice A u.length ca, Value.slice B d.length cb, Value.int IntKind.i64 hold] 143)).alloc (Obj.cells #[Value.int IntKind.i64 0, Value.int IntKind.i64 0, Value.int IntKind.i64 0] 61)).alloc (Obj.cells #[Value.slice none 0 0] 65)).alloc (Obj.cells #[Value.string nm, Value.slice A u.length ca, Value.slice B d.length cb, Value.int IntKind.i64 hold] 143)).alloc (Obj.cells #[Value.slice V vs.length cv] 22)).alloc (Obj.cells #[Value.pointer (some { block := w1.heap.size + 1, off := 0 })] 161)).cell? ⟨w1.heap.size + 1 + 1 + 1 + 1 + 1, 0, none⟩ = some (.pointer (some ⟨w1.heap.size + 1, 0, none⟩)) := (by repeat (first | assumption | (refine cell_new ?_ rfl; focus (simp; done)) | refine cell_drew ?_ | refine cell_alloc _ ?_ | refine cell_drewN _ ?_ | (refine cell_far ?_ ?_; focus (first | omega | (simp; omega) | (simp; done))) | refine cell_below' (by assumption) ?_))
    have k7 : ((((((w1.alloc (Obj.cells #[Value.string nm, Value.slice A u.length ca, Value.slice B d.length cb, Value.int IntKind.i64 hold] 143)).alloc (Obj.cells #[Value.int IntKind.i64 0, Value.int IntKind.i64 0, Value.int IntKind.i64 0] 61)).alloc (Obj.cells #[Value.slice none 0 0] 65)).alloc (Obj.cells #[Value.string nm, Value.slice A u.length ca, Value.slice B d.length cb, Value.int IntKind.i64 hold] 143)).alloc (Obj.cells #[Value.slice V vs.length cv] 22)).alloc (Obj.cells #[Value.pointer (some { block := w1.heap.size + 1, off := 0 })] 161)).cell? ⟨w1.heap.size + 1 + 1, 0, none⟩ = some (.slice none 0 0) := (by repeat (first | assumption | (refine cell_new ?_ rfl; focus (simp; done)) | refine cell_drew ?_ | refine cell_alloc _ ?_ | refine cell_drewN _ ?_ | (refine cell_far ?_ ?_; focus (first | omega | (simp; omega) | (simp; done))) | refine cell_below' (by assumption) ?_))
    have k8 : ((((((w1.alloc (Obj.cells #[Value.string nm, Value.slice A u.length ca, Value.slice B d.length cb, Value.int IntKind.i64 hold] 143)).alloc (Obj.cells #[Value.int IntKind.i64 0, Value.int IntKind.i64 0, Value.int IntKind.i64 0] 61)).alloc (Obj.cells #[Value.slice none 0 0] 65)).alloc (Obj.cells #[Value.string nm, Value.slice A u.length ca, Value.slice B d.length cb, Value.int IntKind.i64 hold] 143)).alloc (Obj.cells #[Value.slice V vs.length cv] 22)).alloc (Obj.cells #[Value.pointer (some { block := w1.heap.size + 1, off := 0 })] 161)).frozen? ⟨w1.heap.size + 1 + 1, 0, none⟩ = false := (by repeat (first | assumption | (refine frozen_new ?_; focus (simp; done)) | refine frozen_drew ?_ | (refine frozen_alloc _ ?_ ?_; focus (first | (simp; done) | (simp; omega))) | refine frozen_drewN _ ?_ | refine frozen_set _ _ ?_ | (refine frozen_below (by assumption) ?_ ?_; focus (first | (simp; done) | (simp; omega)))))
    generalize ((((((w1.alloc (Obj.cells #[Value.string nm, Value.slice A u.length ca, Value.slice B d.length cb, Value.int IntKind.i64 hold] 143)).alloc (Obj.cells #[Value.int IntKind.i64 0, Value.int IntKind.i64 0, Value.int IntKind.i64 0] 61)).alloc (Obj.cells #[Value.slice none 0 0] 65)).alloc (Obj.cells #[Value.string nm, Value.slice A u.length ca, Value.slice B d.length cb, Value.int IntKind.i64 hold] 143)).alloc (Obj.cells #[Value.slice V vs.length cv] 22)).alloc (Obj.cells #[Value.pointer (some { block := w1.heap.size + 1, off := 0 })] 161)) = W0 at *
    have hch : ChW nm A u ca B d cb hold V vs cv (w1.heap.size + 1 + 1 + 1 + 1) (w1.heap.size + 1 + 1 + 1 + 1 + 1) (w1.heap.size + 1 + 1 + 1) (w1.heap.size + 1) W0 := ⟨hA1.below hbW, hB1.below hbW, hV1.below hbW, k5, k6, k1, k2, k3, k4⟩
    have hck : ChK W0.heap.size w.heap.size (w1.heap.size + 1 + 1 + 1 + 1) (w1.heap.size + 1 + 1 + 1 + 1 + 1) (w1.heap.size + 1 + 1 + 1) (w1.heap.size + 1) (w1.heap.size + 1 + 1) := ⟨by omega, by omega, by omega, ⟨by omega, by omega, by omega⟩, ⟨by omega, by omega, by omega⟩, ⟨by omega, by omega, by omega⟩, by omega, by omega⟩
    have hbW0 : Below w.heap.size w W0 := hbw.trans (hbW.mono (by omega))
    have hit := changes_it 8 nm A u ca B d cb hold V vs cv _ _ _ _ _ w W0 hok hcb hv5 hA hB hV hbW0 hck hch hst
    have HIT := Lib.hid hit
    have hI0 : EvI w W0.heap.size (w1.heap.size + 1 + 1) [] W0 := ⟨hbW0, none, 0, k7, k8, World.ownsRow_nil _ _ _ _⟩
    clear hit hst k1 k2 k3 k4 k5 k6 k7 k8 hch hbW hA1 hB1 hV1 hA hB hV
    refine range_law2 (gf := 125) (first := #[]) (lb := #[.pointer (some ⟨w1.heap.size + 1 + 1 + 1 + 1, 0, none⟩), .pointer (some ⟨w1.heap.size + 1 + 1 + 1 + 1 + 1, 0, none⟩), .pointer (some ⟨w1.heap.size + 1 + 1 + 1, 0, none⟩)]) rfl (enters_of Try.func125 (by kernel_rfl) rfl)
      HIT.out ?hst (fun _ => rfl) kpO_t ?kc (EvI w W0.heap.size (w1.heap.size + 1 + 1)) (fun _ _ _ => False) ?ic ?xc ?is ?xs ?fc hI0
      (fun x act W => ∃ b, W0.heap.size ≤ b ∧ W.cell? ⟨b, 0, none⟩ = some (.int .i64 x.2.1.l) ∧ W.cell? ⟨b, 3, none⟩ = some (.int .i64 x.2.2.l) ∧ W.cell? ⟨b, 5, none⟩ = some (.int .i64 x.2.2.v) ∧ act = { tmps := #[Value.agg #[Value.string nm, Value.slice A u.length ca, Value.slice B d.length cb, Value.int IntKind.i64 hold], Value.slice V vs.length cv, Value.pointer (some { block := w.heap.size, off := 0 }), undef, Value.slice none 0 0, Value.int IntKind.i64 0, Value.pointer (some { block := w1.heap.size, off := 0 }), Value.int IntKind.i64 0, Value.pointer (some { block := w1.heap.size + 1, off := 0 }), Value.pointer (some { block := w1.heap.size + 1 + 1, off := 0 }), Value.int IntKind.i64 x.1, Value.pointer (some { block := b, off := 0 }), Value.tuple #[Value.agg #[Value.string nm, Value.slice A u.length ca, Value.slice B d.length cb, Value.int IntKind.i64 hold], Value.int IntKind.i64 0], Value.agg #[Value.string nm, Value.slice A u.length ca, Value.slice B d.length cb, Value.int IntKind.i64 hold], Value.slice V vs.length cv, Value.tuple #[Value.agg #[Value.string nm, Value.slice A u.length ca, Value.slice B d.length cb, Value.int IntKind.i64 hold], Value.int IntKind.i64 0], Value.agg #[Value.string nm, Value.slice A u.length ca, Value.slice B d.length cb, Value.int IntKind.i64 hold], Value.int IntKind.i64 0, Value.int IntKind.i64 0, Value.bool false, undef, Value.agg #[Value.string nm, Value.slice A u.length ca, Value.slice B d.length cb, Value.int IntKind.i64 hold], Value.slice V vs.length cv, Value.func (Fn.func 125) #[] #[Value.pointer (some { block := w1.heap.size + 1 + 1 + 1 + 1, off := 0 }), Value.pointer (some { block := w1.heap.size + 1 + 1 + 1 + 1 + 1, off := 0 }), Value.pointer (some { block := w1.heap.size + 1 + 1 + 1, off := 0 })], Value.int IntKind.i64 x.1, Value.agg #[Value.int IntKind.i64 x.2.1.l, Value.int IntKind.i64 x.2.1.b, Value.int IntKind.i64 x.2.1.v, Value.int IntKind.i64 x.2.2.l, Value.int IntKind.i64 x.2.2.b, Value.int IntKind.i64 x.2.2.v], undef, undef, undef, undef, undef, undef, undef, undef, undef, undef, undef, undef, undef, undef, undef, undef, undef, undef, undef], defers := [] }) ?ac ?assign ?body ?done ?stop
    case hst => exact fun B X X' k o h1 h2 h3 h h5 => (h.block k (by omega) (by omega)).trans h5
    case kc => exact fun X X' h => KpO.ck h
    case ic =>
      rintro s X X' ⟨h1, A', c', h2, h3, h4⟩ h
      exact ⟨CK.belowW h1 h (by omega), A', c', h.cell h2, (h.frozen h2).trans h3, own_blk h4 (fun g o _ h5 h6 => h.same g o h5 (.inr h6))⟩
    case xc => exact fun _ _ _ _ h _ => h
    case is =>
      rintro B s X X' hB ⟨h1, A', c', h2, h3, h4⟩ _ h
      exact ⟨StL.below h1 h (Nat.le_refl _) (by omega), A', c', h.cell h2 (by simp), (h.frozen h2 (by simp)).trans h3, own_blk h4 (fun g o hg h5 h6 => (h.block g (Array.getElem?_eq_some_iff.1 h5).1 (by omega)).trans h5)⟩
    case xs => exact fun _ _ _ _ _ _ h _ _ => h
    case fc => exact fun _ X X' h k => h.ck k
    case ac =>
      rintro x act X X' ⟨b, h1, h2, h3, h4, h5⟩ h
      exact ⟨b, h1, h.cell h2, h.cell h3, h.cell h4, h5⟩
    case assign =>
      intro lp x W K hW hK
      obtain ⟨xi, ⟨al, ab, av⟩, ⟨bl, bb, bv⟩⟩ := x
      simp only [chC]
      gi_wp2
      exact hK _ _ ⟨by simp, fun k o h _ => blk_alloc _ h⟩ (CK.alloc _ _ _) ⟨W.heap.size, hW, cell_new rfl rfl, cell_new rfl rfl, cell_new rfl rfl, rfl⟩
    case body =>
      rintro lp pre x act W ⟨h1, A', c', h2, h3, h4⟩ hv ⟨b, hb0, b0, b3, b5, rfl⟩
      have hbl := World.block_lt_of_cell? _ _ b0
      have hob := World.block_lt_of_cell? _ _ h2
      simp only at hbl hob
      have hln : pre.length < 500 := by
        obtain ⟨rest, hr⟩ := hv
        have h5 := congrArg List.length hr
        simp at h5
        have := chs_len u d hold vs 0 ⟨0, 0, 0⟩
        omega
      have hE1 : ((pre ++ [x]).map evOf) = pre.map evOf ++ [evOf x] := by simp
      have hE2 : (pre.map evOf).length < 500 := by simpa using hln
      have hx : evOf x = ⟨x.1, kindOf x.2.1.l x.2.2.l, x.2.2.l, x.2.2.v⟩ := rfl
      have HE1 := Lib.hid hE1
      have HX := Lib.hid hx
      clear hv hln hE1 hx
      generalize pre.map evOf = E at *
      obtain ⟨xi, ⟨al, ab, av⟩, ⟨bl, bb, bv⟩⟩ := x
      simp only at b0 b3 b5 HX
      gi_wp2_with (fail)
      (refine region_alloc_r (T := ?_) (obj := (.cells #[.int .i64 xi, .int .i64 (kindOf al bl), .int .i64 bl, .int .i64 bv] 102)) (val := (fun nb => .slice (some ⟨nb, 0, none⟩) 1 1)) 16 42 (by kernel_rfl) rfl (by rintro ⟨_, _, h⟩; exact h.elim) (by kernel_rfl) rfl rfl rfl (Nat.le_of_ble_eq_true rfl) ?_ ?_ ?_; rotate_left 1)
      focus (intro W0 hB0 hx; simp only [List.take_succ_cons, List.take_zero]; (repeat (any_goals (first | go_big_quiet_step ((go_at_call 99; exact ext_same (kindOf_any _ _ _))) | quiet_step ((go_at_call 99; exact ext_same (kindOf_any _ _ _)))))); refine wpQuiet_nil ?_; exact rfl)
      focus (intro W; go_simp; done)
      (intro W0 w3 hB0 hB1; obtain ⟨hbw3, hnw3, hsw3, hkw3⟩ := alloc_out hB0 hB1; clear hB0 hB1; simp only [List.drop_succ_cons, List.drop_zero]; generalize W0.heap.size = nb at *; clear W0)
      have hob3 : w3.cell? ⟨w1.heap.size + 1 + 1, 0, none⟩ = some (.slice A' E.length c') := cell_below' hbw3 h2
      have hfr3 : w3.frozen? ⟨w1.heap.size + 1 + 1, 0, none⟩ = false := frozen_below hbw3 hob h3
      have OWN3 := Lib.hid (own_below h4 hbw3)
      have HN := Lib.hid (newsE (e := ⟨xi, kindOf al bl, bl, bv⟩) hkw3)
      have HNE : some (w1.heap.size + 1 + 1) ≠ Value.ownBlock (.slice A' E.length c') := fun e => by have := (OWN3.out.lt _ e.symm).1; omega
      go_wp2_with (at_builtin; (refine wpList_append_rows _ rfl (.tmp 26) (.tmp 42) 65 rfl W0.heap.size 102 i0 (.agg #[.int .i64 0, .int .i64 0, .int .i64 0, .int .i64 0]) 4 32 Try.underlying65 HI.out HZ0.out HZ1.out HZ2.out rfl (by decide) A' E.length c' (cellsOf 4 evC E) rfl OWN3.out (some ⟨nb, 0, none⟩) 1 1 [.int .i64 xi, .int .i64 (kindOf al bl), .int .i64 bl, .int .i64 bv] rfl rfl (fun h => by cases h) (fun ad h => by cases h; exact HN.out) (fun u hu => by simp at hu; rcases hu with rfl | rfl | rfl | rfl <;> rfl) (by unfold maxLen; omega) (by omega) (by omega) ?_; intro A2' c2' w4 q1 q2 q3; have hob4 := cell_grown q2 hob3 HNE; have hfr4 := frozen_grown q2 hfr3 (show _ < _ by show w1.heap.size + 1 + 1 < w3.heap.size; omega) HNE))
      have hko : KeepsOthers W (w4.setCell ⟨w1.heap.size + 1 + 1, 0, none⟩ (.slice A2' (E.length + 1) c2')) :=
        KeepsOthers.trans ⟨hbw3.size, fun k o h _ => blk_below' hbw3 h⟩ ((KeepsOthers.of_grownBy q2 (own_cells OWN3.out)).trans (KeepsOthers.setCell _ _ _))
      have hkp : KpO W0.heap.size (w1.heap.size + 1 + 1) W (w4.setCell ⟨w1.heap.size + 1 + 1, 0, none⟩ (.slice A2' (E.length + 1) c2')) := fun k o hk hn ho => by
        have o3 := blk_below' hbw3 ho
        have o4 : w4.heap[k]? = some o := (q2.block k (Array.getElem?_eq_some_iff.1 o3).1 (fun e => by have := (OWN3.out.lt _ e.symm).1; omega)).trans o3
        exact blk_far _ hn o4
      have hL : (E ++ [evOf (xi, ⟨al, ab, av⟩, ⟨bl, bb, bv⟩)]).length = E.length + 1 := by simp
      have hbl4 : Below w.heap.size w (w4.setCell ⟨w1.heap.size + 1 + 1, 0, none⟩ (.slice A2' (E.length + 1) c2')) := below_set _ (by simp; omega) (below_own (h1.trans (hbw3.mono (by have := h1.size; omega))) q2 OWN3.out (by omega) (by have := h1.size; omega))
      have hown : (w4.setCell ⟨w1.heap.size + 1 + 1, 0, none⟩ (.slice A2' (E.length + 1) c2')).ownsRow W0.heap.size 102 4 (.slice A2' (E ++ [evOf (xi, ⟨al, ab, av⟩, ⟨bl, bb, bv⟩)]).length c2') (E ++ [evOf (xi, ⟨al, ab, av⟩, ⟨bl, bb, bv⟩)]).length (cellsOf 4 evC (E ++ [evOf (xi, ⟨al, ab, av⟩, ⟨bl, bb, bv⟩)])) := by
        rw [hL, cellsOf_append, HX.out]
        exact own_blk q1 (fun g o hg h _ => blk_far _ (by simp; omega) h)
      have hfin : EvI w W0.heap.size (w1.heap.size + 1 + 1) (pre ++ [(xi, ⟨al, ab, av⟩, ⟨bl, bb, bv⟩)]) (w4.setCell ⟨w1.heap.size + 1 + 1, 0, none⟩ (.slice A2' (E.length + 1) c2')) :=
        ⟨hbl4, A2', c2', by rw [HE1.out, hL]; exact cell_same hob4, frozen_set _ _ hfr4, by rw [HE1.out]; exact hown⟩
      rw [hsW] at hkp hfin
      exact ⟨hko, hkp, hfin⟩
    case done =>
      rintro D xs W hD rfl ⟨h1, A', c', h2, h3, h4⟩ - hK
      have he : evs u d hold vs = (chs u d hold 0 ⟨0, 0, 0⟩ vs).map evOf := rfl
      rw [← he] at h2 h4
      have hck9 : CK W0.heap.size W (World.putObj W D (.deferred none)) := CK.put (.deferred none) hD hK rfl
      have hr9 : EvsAt (World.putObj W D (.deferred none)) A' (evs u d hold vs) := rowsAt_of_own (own_blk h4 (fun g o _ h5 h6 => hck9.same g o h5 (.inr h6))) rfl (by decide)
      have hb9 : Below w.heap.size w (World.putObj W D (.deferred none)) := CK.belowW h1 hck9 (by omega)
      clear h3 h4 he hck9
      have HR9 := Lib.hid hr9
      clear hr9
      gi_wp2
      refine ⟨by simp, .inl ⟨_, _, rfl, run_takeDeferred hK, ?_⟩⟩
      refine ⟨.tuple #[.slice A' (evs u d hold vs).length c', .int .i64 0], by simp [results, Try.f37, go_sem], ?_⟩
      rw [HQ.out]
      exact ⟨A', c', rfl, HR9.out, hb9⟩
    case stop => exact fun D c pre W hD hv h hK => h.elim
  · have hq : evQ nm u d hold vs = ([], valE nm u d hold vs) := if_neg h0
    have hne : (valE nm u d hold vs == 0) = false := by simpa using h0
    have hne2 : (valE nm u d hold vs != 0) = true := by simpa using h0
    rw [hq]
    clear hq h0
    have ho := openValues_any nm A u ca B d cb hold V vs cv
    have HO := Lib.hid ho
    clear ho
    generalize valE nm u d hold vs = E at *
    go_enter Try.func37, Try.ntmps37
    go_wp2_with (fail)
    refine (HO.out _ hs hu hd hv (hA.below (by repeat (first | assumption | exact Below.refl _ _ | refine Below.drew ?_ | (refine below_alloc _ ?_ ?_; focus (first | omega | (simp; done) | (simp; omega) | (simp at *; omega))) | (refine below_set _ ?_ ?_; focus (first | omega | (simp; done) | (simp; omega) | (simp at *; omega))) | refine below_drewN ?_ _ | (refine below_call (by assumption) ?_ ?_; focus (first | omega | (simp; done) | (simp; omega) | (simp at *; omega))) | (refine below_call' (by assumption) ?_ ?_; focus (first | omega | (simp; done) | (simp; omega) | (simp at *; omega)))))) (hB.below (by repeat (first | assumption | exact Below.refl _ _ | refine Below.drew ?_ | (refine below_alloc _ ?_ ?_; focus (first | omega | (simp; done) | (simp; omega) | (simp at *; omega))) | (refine below_set _ ?_ ?_; focus (first | omega | (simp; done) | (simp; omega) | (simp at *; omega))) | refine below_drewN ?_ _ | (refine below_call (by assumption) ?_ ?_; focus (first | omega | (simp; done) | (simp; omega) | (simp at *; omega))) | (refine below_call' (by assumption) ?_ ?_; focus (first | omega | (simp; done) | (simp; omega) | (simp at *; omega)))))) (hV.below (by repeat (first | assumption | exact Below.refl _ _ | refine Below.drew ?_ | (refine below_alloc _ ?_ ?_; focus (first | omega | (simp; done) | (simp; omega) | (simp at *; omega))) | (refine below_set _ ?_ ?_; focus (first | omega | (simp; done) | (simp; omega) | (simp at *; omega))) | refine below_drewN ?_ _ | (refine below_call (by assumption) ?_ ?_; focus (first | omega | (simp; done) | (simp; omega) | (simp at *; omega))) | (refine below_call' (by assumption) ?_ ?_; focus (first | omega | (simp; done) | (simp; omega) | (simp at *; omega))))))).mono ?_
    rintro e w1 ⟨rfl, hb1⟩
    have hz := hb1.size
    simp at hz
    have hbw : Below w.heap.size w w1 := (by repeat (first | assumption | exact Below.refl _ _ | refine Below.drew ?_ | (refine below_alloc _ ?_ ?_; focus (first | omega | (simp; done) | (simp; omega) | (simp at *; omega))) | (refine below_set _ ?_ ?_; focus (first | omega | (simp; done) | (simp; omega) | (simp at *; omega))) | refine below_drewN ?_ _ | (refine below_call (by assumption) ?_ ?_; focus (first | omega | (simp; done) | (simp; omega) | (simp at *; omega))) | (refine below_call' (by assumption) ?_ ?_; focus (first | omega | (simp; done) | (simp; omega) | (simp at *; omega)))))
    clear hb1
    go_wp2_with (fail)
    go_ret2
    exact ⟨none, 0, rfl, RowsAt.nil, (by repeat (first | assumption | exact Below.refl _ _ | refine Below.drew ?_ | (refine below_alloc _ ?_ ?_; focus (first | omega | (simp; done) | (simp; omega) | (simp at *; omega))) | (refine below_set _ ?_ ?_; focus (first | omega | (simp; done) | (simp; omega) | (simp at *; omega))) | refine below_drewN ?_ _ | (refine below_call (by assumption) ?_ ?_; focus (first | omega | (simp; done) | (simp; omega) | (simp at *; omega))) | (refine below_call' (by assumption) ?_ ?_; focus (first | omega | (simp; done) | (simp; omega) | (simp at *; omega)))))⟩
end Go.Proofs.Ytcfbnmcdncndpaa
