/-
  Chapter 8: the newest ones of messages do not depend on their order (plain).
-/
import Derived.Test.YtcfbnmcdncndpaaWNew
namespace Go.Proofs.Ytcfbnmcdncndpaa
open Go.ChangeShapes Go.WideShapes Go.ChangeAt Go.RowKit
set_option linter.unusedVariables false
set_option linter.unusedSimpArgs false

theorem nodup_le {α : Type} [BEq α] [LawfulBEq α] : ∀ (a b : List α), a.Nodup → (∀ x ∈ a, x ∈ b) → a.length ≤ b.length
  | [], b, _, _ => Nat.zero_le _
  | x :: a, b, hn, h => by
    have hx : x ∈ b := h x (List.mem_cons_self ..)
    obtain ⟨hxa, hna⟩ := List.nodup_cons.1 hn
    have h1 : ∀ y ∈ a, y ∈ b.erase x := fun y hy => (List.mem_erase_of_ne (fun e => hxa (by rw [← e]; exact hy))).2 (h y (List.mem_cons_of_mem _ hy))
    have h2 := nodup_le a (b.erase x) hna h1
    rw [List.length_erase_of_mem hx] at h2
    have h3 : 0 < b.length := List.length_pos_of_mem hx
    simp only [List.length_cons]
    omega
def nmL (m : Msg) : List UInt8 := m.s.toList
theorem nmL_inj {x y : Msg} (h : nmL x = nmL y) : x.s = y.s := toList_inj h
theorem srt_nodup {l : List Msg} (h : Srt l) : (l.map nmL).Nodup := by
  unfold List.Nodup
  rw [List.pairwise_map]
  exact h.imp fun hb he => blt_ne hb (nmL_inj he)
/-- messages of the same warning and version are equal -/
def Cns (l : List Msg) : Prop := ∀ x ∈ l, ∀ y ∈ l, x.s = y.s → x.v = y.v → x.l = y.l
/-- what a store has of messages -/
structure Has (L P out : List Msg) : Prop where
  srt : Srt out
  len : out.length ≤ 30
  sub : ∀ x ∈ out, x ∈ L
  all : ∀ m ∈ P, ∃ x ∈ out, x.s = m.s ∧ m.v ≤ x.v
theorem Has.nil (L : List Msg) : Has L [] [] := ⟨List.Pairwise.nil, by simp, fun x h => (by cases h), fun m h => (by cases h)⟩
theorem mem_recv {l : List Msg} {m : Msg} (hs : Srt l) (he : (recvM l m).2 = 0) : (∃ x ∈ (recvM l m).1, x.s = m.s ∧ m.v ≤ x.v) ∧ ∀ y ∈ l, ∃ x ∈ (recvM l m).1, x.s = y.s ∧ y.v ≤ x.v := by
  cases hh : hasM l m.s
  · rw [recv_new hh] at he ⊢
    by_cases hl : 30 ≤ l.length
    · rw [if_pos hl] at he; cases he
    · rw [if_neg hl]
      refine ⟨⟨m, List.mem_append_right _ (List.mem_cons_self ..), rfl, Int.le_refl _⟩, fun y hy => ⟨y, ?_, rfl, Int.le_refl _⟩⟩
      rw [← List.take_append_drop (posM l m.s) l] at hy
      rcases List.mem_append.1 hy with h | h
      · exact List.mem_append_left _ h
      · exact List.mem_append_right _ (List.mem_cons_of_mem _ h)
  · obtain ⟨o, ho, hos⟩ := has_true hh
    rw [recv_has hh ho] at he ⊢
    obtain ⟨hi, hoe⟩ := List.getElem?_eq_some_iff.1 ho
    by_cases hv : o.v < m.v
    · rw [if_pos hv]
      have hm : m ∈ l.set (posM l m.s) m := List.mem_set hi m
      refine ⟨⟨m, hm, rfl, Int.le_refl _⟩, fun y hy => ?_⟩
      by_cases hy2 : y = o
      · exact ⟨m, hm, by rw [hy2, hos], by rw [hy2]; omega⟩
      · refine ⟨y, ?_, rfl, Int.le_refl _⟩
        obtain ⟨t, ht⟩ := List.getElem?_of_mem hy
        refine List.mem_of_getElem? (i := t) ?_
        rw [List.getElem?_set]
        by_cases hte : posM l m.s = t
        · rw [← hte, ho] at ht
          exact absurd (Option.some.inj ht).symm hy2
        · rw [if_neg hte]; exact ht
    · rw [if_neg hv] at he ⊢
      have e1 : (if m.v = o.v ∧ m.l ≠ o.l then (l, (13 : Int)) else (l, 0)).1 = l := by split <;> rfl
      rw [e1]
      exact ⟨⟨o, List.mem_of_getElem? ho, hos, by omega⟩, fun y hy => ⟨y, hy, rfl, Int.le_refl _⟩⟩
theorem Has.step {L P out : List Msg} (h : Has L P out) (hL : L.length ≤ 30) (hc : Cns L) {m : Msg} (hm : m ∈ L) (he : msgE m = 0) : stepE out m = 0 ∧ Has L (P ++ [m]) (recvM out m).1 := by
  have h0 : (recvM out m).2 = 0 := by
    cases hh : hasM out m.s
    · rw [recv_new hh]
      have hlt : ¬ 30 ≤ out.length := by
        have hn : ((out.map nmL) ++ [nmL m]).Nodup := by
          rw [List.nodup_append]
          refine ⟨srt_nodup h.srt, List.nodup_cons.2 ⟨by simp, List.nodup_nil⟩, fun a ha b hb hab => ?_⟩
          rw [List.mem_singleton] at hb
          obtain ⟨x, hx, rfl⟩ := List.mem_map.1 ha
          rw [hb] at hab
          have := (has_iff h.srt).2 ⟨x, hx, nmL_inj hab⟩
          rw [hh] at this; cases this
        have := nodup_le _ (L.map nmL) hn fun a ha => by
          rcases List.mem_append.1 ha with ha | ha
          · obtain ⟨x, hx, rfl⟩ := List.mem_map.1 ha
            exact List.mem_map_of_mem (h.sub x hx)
          · rw [List.mem_singleton] at ha
            rw [ha]; exact List.mem_map_of_mem hm
        simp at this
        omega
      rw [if_neg hlt]
    · obtain ⟨o, ho, hos⟩ := has_true hh
      rw [recv_has hh ho]
      by_cases hv : o.v < m.v
      · rw [if_pos hv]
      · rw [if_neg hv, if_neg]
        rintro ⟨h1, h2⟩
        exact h2 (hc m hm o (h.sub o (List.mem_of_getElem? ho)) hos.symm h1)
  refine ⟨by unfold stepE; rw [if_pos he]; exact h0, recv_srt h.srt, recv_len h.len, fun x hx => ?_, fun y hy => ?_⟩
  · rcases recv_mem hx with hx | rfl
    · exact h.sub x hx
    · exact hm
  · obtain ⟨a, b⟩ := mem_recv h.srt h0
    rcases List.mem_append.1 hy with hy | hy
    · obtain ⟨x, hx, e, hv⟩ := h.all y hy
      obtain ⟨z, hz, e2, hv2⟩ := b x hx
      exact ⟨z, hz, by rw [e2, e], by omega⟩
    · rw [List.mem_singleton] at hy
      rw [hy]; exact a
theorem newGo_has {L : List Msg} (hL : L.length ≤ 30) (hc : Cns L) (he : ∀ m ∈ L, msgE m = 0) : ∀ (r P out : List Msg) (i : Nat), (∀ m ∈ r, m ∈ L) → Has L P out → ∃ o, newGo r out i = (o, 0, 0) ∧ Has L (P ++ r) o
  | [], P, out, i, _, h => ⟨out, rfl, by rwa [List.append_nil]⟩
  | m :: r, P, out, i, hr, h => by
    obtain ⟨h1, h2⟩ := h.step hL hc (hr m (List.mem_cons_self ..)) (he m (hr m (List.mem_cons_self ..)))
    obtain ⟨o, e, ho⟩ := newGo_has hL hc he r (P ++ [m]) (recvM out m).1 (i + 1) (fun x hx => hr x (List.mem_cons_of_mem _ hx)) h2
    refine ⟨o, ?_, by rwa [List.append_assoc] at ho⟩
    rw [newGo, if_pos h1]
    exact e
theorem srt_ext : ∀ {a b : List Msg}, Srt a → Srt b → (∀ x, x ∈ a ↔ x ∈ b) → a = b
  | [], [], _, _, _ => rfl
  | [], y :: b, _, _, h => by have := (h y).2 (List.mem_cons_self ..); cases this
  | x :: a, [], _, _, h => by have := (h x).1 (List.mem_cons_self ..); cases this
  | x :: a, y :: b, ha, hb, h => by
    obtain ⟨ha1, ha2⟩ := List.pairwise_cons.1 ha
    obtain ⟨hb1, hb2⟩ := List.pairwise_cons.1 hb
    have hxy : x = y := by
      rcases List.mem_cons.1 ((h x).1 (List.mem_cons_self ..)) with e | e
      · exact e
      · rcases List.mem_cons.1 ((h y).2 (List.mem_cons_self ..)) with f | f
        · exact f.symm
        · have h1 := hb1 x e
          have h2 := ha1 y f
          have := blt_asym h1
          rw [h2] at this; cases this
    subst hxy
    refine congrArg _ (srt_ext ha2 hb2 fun z => ?_)
    constructor
    · intro hz
      rcases List.mem_cons.1 ((h z).1 (List.mem_cons_of_mem _ hz)) with e | e
      · exact absurd (ha1 z hz) (by rw [e, blt_irrefl]; decide)
      · exact e
    · intro hz
      rcases List.mem_cons.1 ((h z).2 (List.mem_cons_of_mem _ hz)) with e | e
      · exact absurd (hb1 z hz) (by rw [e, blt_irrefl]; decide)
      · exact e
theorem srt_name {l : List Msg} (h : Srt l) {x y : Msg} (hx : x ∈ l) (hy : y ∈ l) (e : x.s = y.s) : x = y := by
  obtain ⟨i, hi⟩ := List.getElem?_of_mem hx
  obtain ⟨j, hj⟩ := List.getElem?_of_mem hy
  rcases Nat.lt_trichotomy i j with hlt | heq | hlt
  · have := srt_lt h hi hj hlt
    rw [e, blt_irrefl] at this; cases this
  · rw [heq, hj] at hi
    exact (Option.some.inj hi).symm
  · have := srt_lt h hj hi hlt
    rw [e, blt_irrefl] at this; cases this
theorem has_sub {L a b : List Msg} (hc : Cns L) (ha : Has L L a) (hb : Has L L b) {x : Msg} (hx : x ∈ a) : x ∈ b := by
  obtain ⟨y, hy, e1, v1⟩ := hb.all x (ha.sub x hx)
  obtain ⟨z, hz, e2, v2⟩ := ha.all y (hb.sub y hy)
  have hzx := srt_name ha.srt hz hx (e2.trans e1)
  subst hzx
  have hv : y.v = z.v := by omega
  have hl := hc y (hb.sub y hy) z (ha.sub z hx) e1 hv
  have : y = z := by
    obtain ⟨a1, a2, a3⟩ := y
    obtain ⟨b1, b2, b3⟩ := z
    simp only at e1 hv hl
    rw [e1, hv, hl]
  rw [← this]; exact hy
theorem has_same {L a b : List Msg} (hc : Cns L) (ha : Has L L a) (hb : Has L L b) : a = b := srt_ext ha.srt hb.srt fun x => ⟨fun h => has_sub hc ha hb h, fun h => has_sub hc hb ha h⟩
/-- the newest ones of messages, and of the same ones in another order -/
theorem newest_same {L M : List Msg} (hL : L.length ≤ 30) (hM : M.length ≤ 200) (hc : Cns L) (he : ∀ m ∈ L, msgE m = 0) (h1 : ∀ m ∈ M, m ∈ L) (h2 : ∀ m ∈ L, m ∈ M) :
    ∃ o, newest L = (o, 0, 0) ∧ newest M = (o, 0, 0) ∧ Has L L o := by
  obtain ⟨o, e, ho⟩ := newGo_has hL hc he L [] [] 0 (fun m hm => hm) (Has.nil L)
  obtain ⟨o2, e2, ho2⟩ := newGo_has hL hc he M [] [] 0 h1 (Has.nil L)
  rw [List.nil_append] at ho ho2
  have ho3 : Has L L o2 := ⟨ho2.srt, ho2.len, ho2.sub, fun m hm => ho2.all m (h2 m hm)⟩
  have := has_same hc ho3 ho
  subst this
  refine ⟨o2, ?_, ?_, ho⟩
  · unfold newest; rw [if_neg (by omega)]; exact e
  · unfold newest; rw [if_neg (by omega)]; exact e2
end Go.Proofs.Ytcfbnmcdncndpaa
