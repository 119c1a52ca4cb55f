/-
  Chapter 8: stores of messages, ascending by their names: where one stands, what is received (plain).
-/
import Derived.Test.YtcfbnmcdncndpaaWLeaf
import Derived.Sort.Walk0
namespace Go.Proofs.Ytcfbnmcdncndpaa
open Go.ChangeShapes Go.WideShapes Go.ChangeAt Go.RowKit
set_option linter.unusedVariables false
set_option linter.unusedSimpArgs false

structure Msg where
  s : ByteArray
  v : Int
  l : Int
def blt (a b : ByteArray) : Bool := Op.bytesLess a.toList b.toList
theorem u8_lt {a b : UInt8} : a < b ↔ a.toNat < b.toNat := UInt8.lt_iff_toNat_lt
theorem bl_irrefl : ∀ x : List UInt8, Op.bytesLess x x = false
  | [] => rfl
  | a :: x => by
    have h : ¬ a < a := by rw [u8_lt]; omega
    simp [Op.bytesLess, bl_irrefl x, h]
theorem bl_trans : ∀ x y z : List UInt8, Op.bytesLess x y = true → Op.bytesLess y z = true → Op.bytesLess x z = true
  | x, [], z, h, _ => by cases x <;> simp [Op.bytesLess] at h
  | x, b :: y, [], _, h => by simp [Op.bytesLess] at h
  | [], b :: y, c :: z, _, _ => rfl
  | a :: x, b :: y, c :: z, h, k => by
    simp only [Op.bytesLess, Bool.or_eq_true, Bool.and_eq_true, decide_eq_true_eq, beq_iff_eq] at h k ⊢
    rcases h with h | ⟨rfl, h⟩ <;> rcases k with k | ⟨rfl, k⟩
    · left; rw [u8_lt] at *; omega
    · left; exact h
    · left; exact k
    · right; exact ⟨rfl, bl_trans x y z h k⟩
theorem bl_tri : ∀ x y : List UInt8, Op.bytesLess x y = false → Op.bytesLess y x = false → x = y
  | [], [], _, _ => rfl
  | [], b :: y, h, _ => by simp [Op.bytesLess] at h
  | a :: x, [], _, h => by simp [Op.bytesLess] at h
  | a :: x, b :: y, h, k => by
    simp only [Op.bytesLess, Bool.or_eq_false_iff, Bool.and_eq_false_iff, decide_eq_false_iff_not, beq_eq_false_iff_ne] at h k
    have e : a = b := by
      apply UInt8.toNat_inj.1
      have h1 := h.1; have k1 := k.1
      rw [u8_lt] at h1 k1; omega
    subst e
    have h2 : Op.bytesLess x y = false := by simpa using h.2
    have k2 : Op.bytesLess y x = false := by simpa using k.2
    rw [bl_tri x y h2 k2]
theorem toList_inj {a b : ByteArray} (h : a.toList = b.toList) : a = b := by
  rw [ByteArray.toList_eq, ByteArray.toList_eq] at h
  cases a; cases b
  simp only [ByteArray.mk.injEq]
  exact Array.toList_inj.1 h
theorem blt_irrefl (a : ByteArray) : blt a a = false := bl_irrefl _
theorem blt_trans {a b c : ByteArray} (h : blt a b = true) (k : blt b c = true) : blt a c = true := bl_trans _ _ _ h k
theorem blt_tri {a b : ByteArray} (h : blt a b = false) (k : blt b a = false) : a = b := toList_inj (bl_tri _ _ h k)
theorem blt_ne {a b : ByteArray} (h : blt a b = true) : a ≠ b := fun e => by rw [e, blt_irrefl] at h; cases h
theorem blt_asym {a b : ByteArray} (h : blt a b = true) : blt b a = false := by
  cases k : blt b a
  · rfl
  · have := blt_trans h k; rw [blt_irrefl] at this; cases this

def Srt (l : List Msg) : Prop := l.Pairwise fun a b => blt a.s b.s = true
def posM (l : List Msg) (s : ByteArray) : Nat := l.countP fun m => blt m.s s
def hasM (l : List Msg) (s : ByteArray) : Bool := match l[posM l s]? with
  | some x => decide (x.s = s)
  | none => false
theorem posM_le (l : List Msg) (s : ByteArray) : posM l s ≤ l.length := List.countP_le_length
theorem pos_cons (x : Msg) (r : List Msg) (s : ByteArray) : posM (x :: r) s = posM r s + if blt x.s s = true then 1 else 0 := by unfold posM; rw [List.countP_cons]
theorem pos_zero {l : List Msg} {s : ByteArray} (h : ∀ x ∈ l, blt x.s s = false) : posM l s = 0 := by
  unfold posM
  rw [List.countP_eq_zero]
  intro x hx
  simp [h x hx]
theorem pos_eq {s : ByteArray} : ∀ (l : List Msg) (i : Nat), i ≤ l.length → (∀ t x, l[t]? = some x → t < i → blt x.s s = true) → (∀ t x, l[t]? = some x → i ≤ t → blt x.s s = false) → posM l s = i
  | [], i, hi, _, _ => by simp at hi; subst hi; rfl
  | x :: r, 0, _, _, h2 => pos_zero fun y hy => by
    obtain ⟨t, ht, rfl⟩ := List.getElem_of_mem hy
    exact h2 t _ (List.getElem?_eq_getElem ht) (Nat.zero_le _)
  | x :: r, i + 1, hi, h1, h2 => by
    rw [pos_cons, if_pos (h1 0 x rfl (by omega)), pos_eq r i (by simpa using hi) (fun t y hy ht => h1 (t + 1) y (by simpa using hy) (by omega)) (fun t y hy ht => h2 (t + 1) y (by simpa using hy) (by omega))]
theorem pos_spec {s : ByteArray} : ∀ {l : List Msg}, Srt l → (∀ t x, l[t]? = some x → t < posM l s → blt x.s s = true) ∧ (∀ t x, l[t]? = some x → posM l s ≤ t → blt x.s s = false)
  | [], _ => ⟨fun t x h => by simp at h, fun t x h => by simp at h⟩
  | y :: r, h => by
    obtain ⟨hy, hr⟩ := List.pairwise_cons.1 h
    have ih := pos_spec (s := s) (l := r) hr
    rw [pos_cons]
    by_cases hb : blt y.s s = true
    · rw [if_pos hb]
      refine ⟨fun t x hx ht => ?_, fun t x hx ht => ?_⟩
      · cases t with
        | zero => simp at hx; subst hx; exact hb
        | succ t => exact ih.1 t x (by simpa using hx) (by omega)
      · cases t with
        | zero => omega
        | succ t => exact ih.2 t x (by simpa using hx) (by omega)
    · have hz : ∀ x ∈ r, blt x.s s = false := fun x hx => by
        cases hk : blt x.s s
        · rfl
        · exact absurd (blt_trans (hy x hx) hk) hb
      rw [if_neg hb, pos_zero hz]
      refine ⟨fun t x hx ht => by omega, fun t x hx ht => ?_⟩
      cases t with
      | zero => simp at hx; subst hx; simpa using hb
      | succ t => exact hz x (List.mem_of_getElem? (by simpa using hx))
theorem srt_lt {l : List Msg} (h : Srt l) {a b : Nat} {x y : Msg} (hx : l[a]? = some x) (hy : l[b]? = some y) (hab : a < b) : blt x.s y.s = true := by
  obtain ⟨ha, rfl⟩ := List.getElem?_eq_some_iff.1 hx
  obtain ⟨hb, rfl⟩ := List.getElem?_eq_some_iff.1 hy
  exact List.pairwise_iff_getElem.1 h a b ha hb hab
/-- .. what is before the target stands ahead of what is not -/
theorem srt_mono {l : List Msg} (h : Srt l) {s : ByteArray} {a b : Nat} {x y : Msg} (hx : l[a]? = some x) (hy : l[b]? = some y) (hab : a ≤ b) (hs : blt y.s s = true) : blt x.s s = true := by
  rcases Nat.lt_or_ge a b with hl | hg
  · exact blt_trans (srt_lt h hx hy hl) hs
  · obtain rfl : a = b := by omega
    rw [hx] at hy; obtain rfl := Option.some.inj hy; exact hs
theorem has_true {l : List Msg} {s : ByteArray} (h : hasM l s = true) : ∃ x, l[posM l s]? = some x ∧ x.s = s := by
  unfold hasM at h
  cases hx : l[posM l s]? with
  | none => rw [hx] at h; cases h
  | some x => rw [hx] at h; exact ⟨x, rfl, by simpa using h⟩
theorem has_at {l : List Msg} {s : ByteArray} {i : Nat} {x : Msg} (h : Srt l) (hx : l[i]? = some x) (he : x.s = s) : hasM l s = true ∧ posM l s = i := by
  have hp : posM l s = i := pos_eq l i (Nat.le_of_lt (List.getElem?_eq_some_iff.1 hx).1) (fun t y hy ht => by rw [← he]; exact srt_lt h hy hx ht) (fun t y hy ht => by
    rcases Nat.lt_or_ge i t with hl | hg
    · rw [← he]; exact blt_asym (srt_lt h hx hy hl)
    · obtain rfl : i = t := by omega
      rw [hx] at hy; obtain rfl := Option.some.inj hy
      rw [he]; exact blt_irrefl _)
  refine ⟨?_, hp⟩
  unfold hasM
  rw [hp, hx]
  simpa using he
theorem has_iff {l : List Msg} {s : ByteArray} (h : Srt l) : hasM l s = true ↔ ∃ x ∈ l, x.s = s := by
  constructor
  · intro hh
    obtain ⟨x, hx, he⟩ := has_true hh
    exact ⟨x, List.mem_of_getElem? hx, he⟩
  · rintro ⟨x, hx, he⟩
    obtain ⟨i, hi⟩ := List.getElem?_of_mem hx
    exact (has_at h hi he).1
/-- the first with this name -/
def findM (s : ByteArray) : List Msg → Int → Int
  | [], _ => -1
  | x :: r, k => if x.s = s then k else findM s r (k + 1)
theorem findM_none {s : ByteArray} : ∀ {l : List Msg} (k : Int), (∀ x ∈ l, x.s ≠ s) → findM s l k = -1
  | [], _, _ => rfl
  | x :: r, k, h => by
    unfold findM
    rw [if_neg (h x (by simp))]
    exact findM_none (k + 1) fun y hy => h y (by simp [hy])
theorem findM_at {s : ByteArray} : ∀ {l : List Msg} {i : Nat} {x : Msg} (k : Int), l[i]? = some x → x.s = s → (∀ t y, t < i → l[t]? = some y → y.s ≠ s) → findM s l k = k + i
  | [], i, x, k, hx, _, _ => by simp at hx
  | y :: r, 0, x, k, hx, he, _ => by
    simp at hx; subst hx
    unfold findM; rw [if_pos he]; simp
  | y :: r, i + 1, x, k, hx, he, h => by
    unfold findM
    rw [if_neg (h 0 y (by omega) rfl), findM_at (k + 1) (i := i) (by simpa using hx) he fun t z ht hz => h (t + 1) z (by omega) (by simpa using hz)]
    push_cast; omega
theorem find_eq {l : List Msg} {s : ByteArray} (h : Srt l) : findM s l 0 = if hasM l s = true then (posM l s : Int) else -1 := by
  by_cases hh : hasM l s = true
  · rw [if_pos hh]
    obtain ⟨x, hx, he⟩ := has_true hh
    rw [findM_at 0 hx he fun t y ht hy => by rw [← he]; exact blt_ne (srt_lt h hy hx ht)]
    simp
  · rw [if_neg hh]
    refine findM_none 0 fun x hx he => hh ((has_iff h).2 ⟨x, hx, he⟩)
def verM (l : List Msg) (s : ByteArray) : Int := match l[posM l s]? with
  | some x => if x.s = s then x.v else 0
  | none => 0

/-- what a store becomes by a message, and the error -/
def recvM (l : List Msg) (m : Msg) : List Msg × Int := match hasM l m.s, l[posM l m.s]? with
  | true, some o => if o.v < m.v then (l.set (posM l m.s) m, 0) else if m.v = o.v ∧ m.l ≠ o.l then (l, 13) else (l, 0)
  | _, _ => if 30 ≤ l.length then (l, 16) else (l.take (posM l m.s) ++ m :: l.drop (posM l m.s), 0)
theorem recv_has {l : List Msg} {m o : Msg} (h : hasM l m.s = true) (ho : l[posM l m.s]? = some o) : recvM l m = if o.v < m.v then (l.set (posM l m.s) m, 0) else if m.v = o.v ∧ m.l ≠ o.l then (l, 13) else (l, 0) := by
  unfold recvM; rw [h, ho]
theorem recv_new {l : List Msg} {m : Msg} (h : hasM l m.s = false) : recvM l m = if 30 ≤ l.length then (l, 16) else (l.take (posM l m.s) ++ m :: l.drop (posM l m.s), 0) := by
  unfold recvM; rw [h]
theorem set_srt {l : List Msg} {i : Nat} {m o : Msg} (h : Srt l) (ho : l[i]? = some o) (he : o.s = m.s) : Srt (l.set i m) := by
  refine List.pairwise_iff_getElem.2 fun a b ha hb hab => ?_
  have ha' : a < l.length := by simpa using ha
  have hb' : b < l.length := by simpa using hb
  have h0 := List.pairwise_iff_getElem.1 h a b ha' hb' hab
  obtain ⟨hi, rfl⟩ := List.getElem?_eq_some_iff.1 ho
  rw [List.getElem_set, List.getElem_set]
  by_cases e1 : i = a
  · subst e1
    rw [if_pos rfl, if_neg (by omega), ← he]; exact h0
  · rw [if_neg e1]
    by_cases e2 : i = b
    · subst e2
      rw [if_pos rfl, ← he]; exact h0
    · rw [if_neg e2]; exact h0
theorem ins_srt {l : List Msg} {m : Msg} (h : Srt l) (hh : hasM l m.s = false) : Srt (l.take (posM l m.s) ++ m :: l.drop (posM l m.s)) := by
  have hp := pos_spec (s := m.s) h
  have h1 : ∀ x ∈ l.take (posM l m.s), blt x.s m.s = true := fun x hx => by
    obtain ⟨t, ht⟩ := List.getElem?_of_mem hx
    rw [List.getElem?_take] at ht
    split at ht
    · exact hp.1 t x ht (by assumption)
    · cases ht
  have h2 : ∀ x ∈ l.drop (posM l m.s), blt m.s x.s = true := fun x hx => by
    have hne : x.s ≠ m.s := fun he => by
      rw [(has_iff h).2 ⟨x, List.mem_of_mem_drop hx, he⟩] at hh; cases hh
    obtain ⟨t, ht⟩ := List.getElem?_of_mem hx
    rw [List.getElem?_drop] at ht
    have h3 := hp.2 _ x ht (by omega)
    cases hk : blt m.s x.s
    · exact absurd (blt_tri h3 hk) hne
    · rfl
  refine List.pairwise_append.2 ⟨h.sublist (List.take_sublist _ _), List.pairwise_cons.2 ⟨h2, h.sublist (List.drop_sublist _ _)⟩, fun a ha b hb => ?_⟩
  rcases List.mem_cons.1 hb with rfl | hb
  · exact h1 a ha
  · exact blt_trans (h1 a ha) (h2 b hb)
theorem recv_srt {l : List Msg} {m : Msg} (h : Srt l) : Srt (recvM l m).1 := by
  cases hh : hasM l m.s
  · rw [recv_new hh]
    by_cases hl : 30 ≤ l.length
    · rw [if_pos hl]; exact h
    · rw [if_neg hl]; exact ins_srt h hh
  · obtain ⟨o, ho, he⟩ := has_true hh
    rw [recv_has hh ho]
    by_cases hv : o.v < m.v
    · rw [if_pos hv]; exact set_srt h ho he
    · rw [if_neg hv]; split <;> exact h
theorem recv_len {l : List Msg} {m : Msg} (h : l.length ≤ 30) : (recvM l m).1.length ≤ 30 := by
  have hp := posM_le l m.s
  cases hh : hasM l m.s
  · rw [recv_new hh]
    by_cases hl : 30 ≤ l.length
    · rw [if_pos hl]; exact h
    · rw [if_neg hl]; simp; omega
  · obtain ⟨o, ho, he⟩ := has_true hh
    rw [recv_has hh ho]
    by_cases hv : o.v < m.v
    · rw [if_pos hv]; simpa using h
    · rw [if_neg hv]; split <;> exact h
theorem recv_mem {l : List Msg} {m x : Msg} (h : x ∈ (recvM l m).1) : x ∈ l ∨ x = m := by
  cases hh : hasM l m.s
  · rw [recv_new hh] at h
    by_cases hl : 30 ≤ l.length
    · rw [if_pos hl] at h; exact .inl h
    · rw [if_neg hl] at h
      rcases List.mem_append.1 h with h | h
      · exact .inl (List.mem_of_mem_take h)
      · rcases List.mem_cons.1 h with h | h
        · exact .inr h
        · exact .inl (List.mem_of_mem_drop h)
  · obtain ⟨o, ho, he⟩ := has_true hh
    rw [recv_has hh ho] at h
    by_cases hv : o.v < m.v
    · rw [if_pos hv] at h; exact List.mem_or_eq_of_mem_set h
    · rw [if_neg hv] at h
      split at h <;> exact .inl h
end Go.Proofs.Ytcfbnmcdncndpaa
