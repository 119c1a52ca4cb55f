/-
  Chapter 8: the newest ones of messages do not depend on their order (plain).
  Chapter 8: nothing is lost by moves (plain).
  Chapter 8: the moves that flush a link (plain).
  Chapter 8: links that stay valid. Plain theorems, no program in sight.
-/
import Derived.Test.YtcfbnmcdncndpaaWNew
import Derived.Test.YtcfbnmcdncndpaaWRuo
namespace Go.Proofs.Ytcfbnmcdncndpaa
section
open Go.ChangeShapes Go.WideShapes Go.ChangeAt Go.RowKit
set_option linter.unusedVariables false
set_option linter.unusedSimpArgs false

theorem nodup_le {α : Type} [BEq α] [LawfulBEq α] : ∀ (a b : List α), a.Nodup → (∀ x ∈ a, x ∈ b) → a.length ≤ b.length
  | [], b, _, _ => Nat.zero_le _
  | x :: a, b, hn, h => by
    have hx : x ∈ b := h x (List.mem_cons_self ..)
    obtain ⟨hxa, hna⟩ := List.nodup_cons.1 hn
    have h1 : ∀ y ∈ a, y ∈ b.erase x := fun y hy => (List.mem_erase_of_ne (fun e => hxa (by rw [← e]; exact hy))).2 (h y (List.mem_cons_of_mem _ hy))
    have h2 := nodup_le a (b.erase x) hna h1
    rw [List.length_erase_of_mem hx] at h2
    have h3 : 0 < b.length := List.length_pos_of_mem hx
    simp only [List.length_cons]
    omega
def nmL (m : Msg) : List UInt8 := m.s.toList
theorem nmL_inj {x y : Msg} (h : nmL x = nmL y) : x.s = y.s := toList_inj h
theorem srt_nodup {l : List Msg} (h : Srt l) : (l.map nmL).Nodup := by
  unfold List.Nodup
  rw [List.pairwise_map]
  exact h.imp fun hb he => blt_ne hb (nmL_inj he)
/-- messages of the same warning and version are equal -/
def Cns (l : List Msg) : Prop := ∀ x ∈ l, ∀ y ∈ l, x.s = y.s → x.v = y.v → x.l = y.l
/-- what a store has of messages -/
structure Has (L P out : List Msg) : Prop where
  srt : Srt out
  len : out.length ≤ 30
  sub : ∀ x ∈ out, x ∈ L
  all : ∀ m ∈ P, ∃ x ∈ out, x.s = m.s ∧ m.v ≤ x.v
theorem Has.nil (L : List Msg) : Has L [] [] := ⟨List.Pairwise.nil, by simp, fun x h => (by cases h), fun m h => (by cases h)⟩
theorem mem_recv {l : List Msg} {m : Msg} (hs : Srt l) (he : (recvM l m).2 = 0) : (∃ x ∈ (recvM l m).1, x.s = m.s ∧ m.v ≤ x.v) ∧ ∀ y ∈ l, ∃ x ∈ (recvM l m).1, x.s = y.s ∧ y.v ≤ x.v := by
  cases hh : hasM l m.s
  · rw [recv_new hh] at he ⊢
    by_cases hl : 30 ≤ l.length
    · rw [if_pos hl] at he; cases he
    · rw [if_neg hl]
      refine ⟨⟨m, List.mem_append_right _ (List.mem_cons_self ..), rfl, Int.le_refl _⟩, fun y hy => ⟨y, ?_, rfl, Int.le_refl _⟩⟩
      rw [← List.take_append_drop (posM l m.s) l] at hy
      rcases List.mem_append.1 hy with h | h
      · exact List.mem_append_left _ h
      · exact List.mem_append_right _ (List.mem_cons_of_mem _ h)
  · obtain ⟨o, ho, hos⟩ := has_true hh
    rw [recv_has hh ho] at he ⊢
    obtain ⟨hi, hoe⟩ := List.getElem?_eq_some_iff.1 ho
    by_cases hv : o.v < m.v
    · rw [if_pos hv]
      have hm : m ∈ l.set (posM l m.s) m := List.mem_set hi m
      refine ⟨⟨m, hm, rfl, Int.le_refl _⟩, fun y hy => ?_⟩
      by_cases hy2 : y = o
      · exact ⟨m, hm, by rw [hy2, hos], by rw [hy2]; omega⟩
      · refine ⟨y, ?_, rfl, Int.le_refl _⟩
        obtain ⟨t, ht⟩ := List.getElem?_of_mem hy
        refine List.mem_of_getElem? (i := t) ?_
        rw [List.getElem?_set]
        by_cases hte : posM l m.s = t
        · rw [← hte, ho] at ht
          exact absurd (Option.some.inj ht).symm hy2
        · rw [if_neg hte]; exact ht
    · rw [if_neg hv] at he ⊢
      have e1 : (if m.v = o.v ∧ m.l ≠ o.l then (l, (13 : Int)) else (l, 0)).1 = l := by split <;> rfl
      rw [e1]
      exact ⟨⟨o, List.mem_of_getElem? ho, hos, by omega⟩, fun y hy => ⟨y, hy, rfl, Int.le_refl _⟩⟩
theorem Has.step {L P out : List Msg} (h : Has L P out) (hL : L.length ≤ 30) (hc : Cns L) {m : Msg} (hm : m ∈ L) (he : msgE m = 0) : stepE out m = 0 ∧ Has L (P ++ [m]) (recvM out m).1 := by
  have h0 : (recvM out m).2 = 0 := by
    cases hh : hasM out m.s
    · rw [recv_new hh]
      have hlt : ¬ 30 ≤ out.length := by
        have hn : ((out.map nmL) ++ [nmL m]).Nodup := by
          rw [List.nodup_append]
          refine ⟨srt_nodup h.srt, List.nodup_cons.2 ⟨by simp, List.nodup_nil⟩, fun a ha b hb hab => ?_⟩
          rw [List.mem_singleton] at hb
          obtain ⟨x, hx, rfl⟩ := List.mem_map.1 ha
          rw [hb] at hab
          have := (has_iff h.srt).2 ⟨x, hx, nmL_inj hab⟩
          rw [hh] at this; cases this
        have := nodup_le _ (L.map nmL) hn fun a ha => by
          rcases List.mem_append.1 ha with ha | ha
          · obtain ⟨x, hx, rfl⟩ := List.mem_map.1 ha
            exact List.mem_map_of_mem (h.sub x hx)
          · rw [List.mem_singleton] at ha
            rw [ha]; exact List.mem_map_of_mem hm
        simp at this
        omega
      rw [if_neg hlt]
    · obtain ⟨o, ho, hos⟩ := has_true hh
      rw [recv_has hh ho]
      by_cases hv : o.v < m.v
      · rw [if_pos hv]
      · rw [if_neg hv, if_neg]
        rintro ⟨h1, h2⟩
        exact h2 (hc m hm o (h.sub o (List.mem_of_getElem? ho)) hos.symm h1)
  refine ⟨by unfold stepE; rw [if_pos he]; exact h0, recv_srt h.srt, recv_len h.len, fun x hx => ?_, fun y hy => ?_⟩
  · rcases recv_mem hx with hx | rfl
    · exact h.sub x hx
    · exact hm
  · obtain ⟨a, b⟩ := mem_recv h.srt h0
    rcases List.mem_append.1 hy with hy | hy
    · obtain ⟨x, hx, e, hv⟩ := h.all y hy
      obtain ⟨z, hz, e2, hv2⟩ := b x hx
      exact ⟨z, hz, by rw [e2, e], by omega⟩
    · rw [List.mem_singleton] at hy
      rw [hy]; exact a
theorem newGo_has {L : List Msg} (hL : L.length ≤ 30) (hc : Cns L) (he : ∀ m ∈ L, msgE m = 0) : ∀ (r P out : List Msg) (i : Nat), (∀ m ∈ r, m ∈ L) → Has L P out → ∃ o, newGo r out i = (o, 0, 0) ∧ Has L (P ++ r) o
  | [], P, out, i, _, h => ⟨out, rfl, by rwa [List.append_nil]⟩
  | m :: r, P, out, i, hr, h => by
    obtain ⟨h1, h2⟩ := h.step hL hc (hr m (List.mem_cons_self ..)) (he m (hr m (List.mem_cons_self ..)))
    obtain ⟨o, e, ho⟩ := newGo_has hL hc he r (P ++ [m]) (recvM out m).1 (i + 1) (fun x hx => hr x (List.mem_cons_of_mem _ hx)) h2
    refine ⟨o, ?_, by rwa [List.append_assoc] at ho⟩
    rw [newGo, if_pos h1]
    exact e
theorem srt_ext : ∀ {a b : List Msg}, Srt a → Srt b → (∀ x, x ∈ a ↔ x ∈ b) → a = b
  | [], [], _, _, _ => rfl
  | [], y :: b, _, _, h => by have := (h y).2 (List.mem_cons_self ..); cases this
  | x :: a, [], _, _, h => by have := (h x).1 (List.mem_cons_self ..); cases this
  | x :: a, y :: b, ha, hb, h => by
    obtain ⟨ha1, ha2⟩ := List.pairwise_cons.1 ha
    obtain ⟨hb1, hb2⟩ := List.pairwise_cons.1 hb
    have hxy : x = y := by
      rcases List.mem_cons.1 ((h x).1 (List.mem_cons_self ..)) with e | e
      · exact e
      · rcases List.mem_cons.1 ((h y).2 (List.mem_cons_self ..)) with f | f
        · exact f.symm
        · have h1 := hb1 x e
          have h2 := ha1 y f
          have := blt_asym h1
          rw [h2] at this; cases this
    subst hxy
    refine congrArg _ (srt_ext ha2 hb2 fun z => ?_)
    constructor
    · intro hz
      rcases List.mem_cons.1 ((h z).1 (List.mem_cons_of_mem _ hz)) with e | e
      · exact absurd (ha1 z hz) (by rw [e, blt_irrefl]; decide)
      · exact e
    · intro hz
      rcases List.mem_cons.1 ((h z).2 (List.mem_cons_of_mem _ hz)) with e | e
      · exact absurd (hb1 z hz) (by rw [e, blt_irrefl]; decide)
      · exact e
theorem srt_name {l : List Msg} (h : Srt l) {x y : Msg} (hx : x ∈ l) (hy : y ∈ l) (e : x.s = y.s) : x = y := by
  obtain ⟨i, hi⟩ := List.getElem?_of_mem hx
  obtain ⟨j, hj⟩ := List.getElem?_of_mem hy
  rcases Nat.lt_trichotomy i j with hlt | heq | hlt
  · have := srt_lt h hi hj hlt
    rw [e, blt_irrefl] at this; cases this
  · rw [heq, hj] at hi
    exact (Option.some.inj hi).symm
  · have := srt_lt h hj hi hlt
    rw [e, blt_irrefl] at this; cases this
theorem has_sub {L a b : List Msg} (hc : Cns L) (ha : Has L L a) (hb : Has L L b) {x : Msg} (hx : x ∈ a) : x ∈ b := by
  obtain ⟨y, hy, e1, v1⟩ := hb.all x (ha.sub x hx)
  obtain ⟨z, hz, e2, v2⟩ := ha.all y (hb.sub y hy)
  have hzx := srt_name ha.srt hz hx (e2.trans e1)
  subst hzx
  have hv : y.v = z.v := by omega
  have hl := hc y (hb.sub y hy) z (ha.sub z hx) e1 hv
  have : y = z := by
    obtain ⟨a1, a2, a3⟩ := y
    obtain ⟨b1, b2, b3⟩ := z
    simp only at e1 hv hl
    rw [e1, hv, hl]
  rw [← this]; exact hy
theorem has_same {L a b : List Msg} (hc : Cns L) (ha : Has L L a) (hb : Has L L b) : a = b := srt_ext ha.srt hb.srt fun x => ⟨fun h => has_sub hc ha hb h, fun h => has_sub hc hb ha h⟩
/-- the newest ones of messages, and of the same ones in another order -/
theorem newest_same {L M : List Msg} (hL : L.length ≤ 30) (hM : M.length ≤ 200) (hc : Cns L) (he : ∀ m ∈ L, msgE m = 0) (h1 : ∀ m ∈ M, m ∈ L) (h2 : ∀ m ∈ L, m ∈ M) :
    ∃ o, newest L = (o, 0, 0) ∧ newest M = (o, 0, 0) ∧ Has L L o := by
  obtain ⟨o, e, ho⟩ := newGo_has hL hc he L [] [] 0 (fun m hm => hm) (Has.nil L)
  obtain ⟨o2, e2, ho2⟩ := newGo_has hL hc he M [] [] 0 h1 (Has.nil L)
  rw [List.nil_append] at ho ho2
  have ho3 : Has L L o2 := ⟨ho2.srt, ho2.len, ho2.sub, fun m hm => ho2.all m (h2 m hm)⟩
  have := has_same hc ho3 ho
  subst this
  refine ⟨o2, ?_, ?_, ho⟩
  · unfold newest; rw [if_neg (by omega)]; exact e
  · unfold newest; rw [if_neg (by omega)]; exact e2
end
section
open Go.ChangeShapes Go.WideShapes Go.ChangeAt Go.RowKit
set_option linter.unusedVariables false
set_option linter.unusedSimpArgs false

/-- a store has a warning of at least a version -/
def Cov (S : List Msg) (m : Msg) : Prop := ∃ y ∈ S, y.s = m.s ∧ m.v ≤ y.v
def OkM (m : Msg) : Prop := msgE m = 0 ∧ m.s.size ≤ 30
theorem Cov.recv {S : List Msg} {m x : Msg} (hs : Srt S) (he : (recvM S m).2 = 0) (h : Cov S x) : Cov (recvM S m).1 x := by
  obtain ⟨y, hy, e, v⟩ := h
  obtain ⟨z, hz, e2, v2⟩ := (mem_recv hs he).2 y hy
  exact ⟨z, hz, e2.trans e, by omega⟩
theorem recv_okM {S : List Msg} {m : Msg} (h : ∀ x ∈ S, OkM x) (hm : OkM m) : ∀ x ∈ (recvM S m).1, OkM x := fun x hx => by
  rcases recv_mem hx with hx | rfl
  · exact h x hx
  · exact hm
theorem mem_delL {α : Type} {l : List α} {i : Nat} {x : α} (h : x ∈ delL l i) : x ∈ l := by
  unfold delL at h
  rcases List.mem_append.1 h with h | h
  · exact List.mem_of_mem_take h
  · exact List.mem_of_mem_drop h
theorem delL_mem {α : Type} {l : List α} {i : Nat} {x : α} (h : x ∈ l) : x ∈ delL l i ∨ l[i]? = some x := by
  obtain ⟨j, hj⟩ := List.getElem?_of_mem h
  unfold delL
  rcases Nat.lt_trichotomy j i with h1 | h1 | h1
  · left
    refine List.mem_append_left _ (List.mem_of_getElem? (i := j) ?_)
    rw [List.getElem?_take, if_pos h1]; exact hj
  · right; rw [← h1]; exact hj
  · left
    refine List.mem_append_right _ (List.mem_of_getElem? (i := j - (i + 1)) ?_)
    rw [List.getElem?_drop, show i + 1 + (j - (i + 1)) = j by omega]; exact hj
theorem ackBox_mem {l : List Msg} {m x : Msg} (h : x ∈ ackBox l m) : x ∈ l := by
  unfold ackBox at h
  split at h
  · split at h
    · exact mem_delL h
    · exact h
  · exact h
theorem mem_ackBox {l : List Msg} {m x : Msg} (h : x ∈ l) : x ∈ ackBox l m ∨ (x.s = m.s ∧ x.v ≤ m.v) := by
  unfold ackBox
  cases hh : hasM l m.s
  · exact .inl h
  · obtain ⟨o, ho, hos⟩ := has_true hh
    rw [ho]
    simp only
    by_cases hv : o.v ≤ m.v
    · rw [if_pos hv]
      rcases delL_mem (i := posM l m.s) h with h1 | h1
      · exact .inl h1
      · rw [ho] at h1
        obtain rfl := Option.some.inj h1
        exact .inr ⟨hos, hv⟩
    · rw [if_neg hv]; exact .inl h
theorem pickM_mem {l : List Msg} {i : Int} {m : Msg} (h : pickM l i = some m) : m ∈ l := by
  unfold pickM at h
  split at h
  · exact List.mem_of_getElem? h
  · cases h
theorem pickL_mem {l : List Pkt} {i : Int} {m : Pkt} (h : pickL l i = some m) : m ∈ l := by
  unfold pickL at h
  split at h
  · exact List.mem_of_getElem? h
  · cases h
/-- what holds of a link behind moves -/
structure KInv (pre : List Mv) (L : Lnk) : Prop where
  ok : OkL L
  b : ∀ m ∈ L.box, OkM m
  s : ∀ m ∈ L.store, OkM m
  w : ∀ p ∈ L.wire, OkM p.m
  a : ∀ p ∈ L.wire, p.a = true → Cov L.store p.m
  c : ∀ mv ∈ pre, mv.k = 0 → Cov L.box mv.m ∨ Cov L.store mv.m
theorem sendL_ok {L : Lnk} {p : Pkt} (h : (sendL L p).2 = 0) : (sendL L p).1 = ⟨L.box, L.wire ++ [p], L.store⟩ := by
  unfold sendL at h ⊢
  split at h
  · cases h
  · rename_i h1; rw [if_neg h1]
theorem mvE0_k {mv : Mv} (h : mvE0 mv = 0) : mv.k = 0 ∨ mv.k ≠ 0 := by omega
theorem KInv.move {pre : List Mv} {L : Lnk} {mv : Mv} (h : KInv pre L) (hs : mv.m.s.size ≤ 30) (he : (movL L mv).2 = 0) : KInv (pre ++ [mv]) (movL L mv).1 := by
  have hok := OkL.move (mv := mv) h.ok
  have old : ∀ {L' : Lnk}, OkL L' → (∀ m ∈ L'.box, OkM m) → (∀ m ∈ L'.store, OkM m) → (∀ p ∈ L'.wire, OkM p.m) → (∀ p ∈ L'.wire, p.a = true → Cov L'.store p.m) → (∀ m, Cov L.box m ∨ Cov L.store m → Cov L'.box m ∨ Cov L'.store m) → mv.k ≠ 0 → KInv (pre ++ [mv]) L' := fun o1 o2 o3 o4 o5 o6 o7 =>
    ⟨o1, o2, o3, o4, o5, fun x hx hk => by
      rcases List.mem_append.1 hx with hx | hx
      · exact o6 _ (h.c x hx hk)
      · rw [List.mem_singleton] at hx
        rw [hx] at hk; exact absurd hk o7⟩
  unfold movL at he hok ⊢
  by_cases h0 : mvE0 mv ≠ 0
  · rw [if_pos h0] at he; exact absurd he h0
  rw [if_neg h0] at he hok ⊢
  by_cases hk : mv.k = 0
  · rw [if_pos hk] at he hok ⊢
    by_cases hm : msgE mv.m = 0
    · rw [if_pos hm] at he hok ⊢
      have hr : (recvM L.box mv.m).2 = 0 := he
      refine ⟨hok, recv_okM h.b ⟨hm, hs⟩, h.s, h.w, h.a, fun x hx hk2 => ?_⟩
      rcases List.mem_append.1 hx with hx | hx
      · rcases h.c x hx hk2 with hc | hc
        · exact .inl (hc.recv h.ok.s1 hr)
        · exact .inr hc
      · rw [List.mem_singleton] at hx
        rw [hx]
        exact .inl (mem_recv h.ok.s1 hr).1
    · rw [if_neg hm] at he; exact absurd he hm
  rw [if_neg hk] at he hok ⊢
  by_cases hk1 : mv.k = 1
  · rw [if_pos hk1] at he hok ⊢
    cases hp : pickM L.box mv.i with
    | none => rw [hp] at he; cases he
    | some m =>
      rw [hp] at he hok
      simp only at he hok ⊢
      have hmb := pickM_mem hp
      rw [sendL_ok he] at hok ⊢
      refine old hok h.b h.s (fun p hp => ?_) (fun p hp ha => ?_) (fun _ hc => hc) hk
      · rcases List.mem_append.1 hp with hp | hp
        · exact h.w p hp
        · rw [List.mem_singleton] at hp; rw [hp]; exact h.b m hmb
      · rcases List.mem_append.1 hp with hp | hp
        · exact h.a p hp ha
        · rw [List.mem_singleton] at hp; rw [hp] at ha; cases ha
  rw [if_neg hk1] at he hok ⊢
  cases hp : pickL L.wire mv.i with
  | none => rw [hp] at he; cases he
  | some p =>
    rw [hp] at he hok
    simp only at he hok ⊢
    have hpw := pickL_mem hp
    by_cases hk2 : mv.k = 2
    · rw [if_pos hk2] at he hok ⊢
      exact old hok h.b h.s (fun q hq => h.w q (mem_delL hq)) (fun q hq ha => h.a q (mem_delL hq) ha) (fun _ hc => hc) hk
    rw [if_neg hk2] at he hok ⊢
    by_cases hk3 : mv.k = 3
    · rw [if_pos hk3] at he hok ⊢
      rw [sendL_ok he] at hok ⊢
      refine old hok h.b h.s (fun q hq => ?_) (fun q hq ha => ?_) (fun _ hc => hc) hk
      · rcases List.mem_append.1 hq with hq | hq
        · exact h.w q hq
        · rw [List.mem_singleton] at hq; rw [hq]; exact h.w p hpw
      · rcases List.mem_append.1 hq with hq | hq
        · exact h.a q hq ha
        · rw [List.mem_singleton] at hq; rw [hq] at ha ⊢; exact h.a p hpw ha
    rw [if_neg hk3] at he hok ⊢
    unfold takeL at he hok ⊢
    by_cases ha : p.a = true
    · rw [if_pos ha] at he hok ⊢
      refine old hok (fun m hm => h.b m (ackBox_mem hm)) h.s (fun q hq => h.w q (mem_delL hq)) (fun q hq hqa => h.a q (mem_delL hq) hqa) (fun m hc => ?_) hk
      rcases hc with ⟨y, hy, e, v⟩ | hc
      · rcases mem_ackBox (m := p.m) hy with h1 | ⟨h1, h2⟩
        · exact .inl ⟨y, h1, e, v⟩
        · obtain ⟨z, hz, e2, v2⟩ := h.a p hpw ha
          exact .inr ⟨z, hz, e2.trans (h1.symm.trans e), by omega⟩
      · exact .inr hc
    rw [if_neg ha] at he hok ⊢
    by_cases hr : (recvM L.store p.m).2 = 0
    · rw [if_pos hr] at he hok ⊢
      rw [sendL_ok he] at hok ⊢
      refine old hok h.b (recv_okM h.s (h.w p hpw)) (fun q hq => ?_) (fun q hq hqa => ?_) (fun m hc => ?_) hk
      · rcases List.mem_append.1 hq with hq | hq
        · exact h.w q (mem_delL hq)
        · rw [List.mem_singleton] at hq; rw [hq]; exact h.w p hpw
      · rcases List.mem_append.1 hq with hq | hq
        · exact (h.a q (mem_delL hq) hqa).recv h.ok.s2 hr
        · rw [List.mem_singleton] at hq; rw [hq]; exact (mem_recv h.ok.s2 hr).1
      · rcases hc with hc | hc
        · exact .inl hc
        · exact .inr (hc.recv h.ok.s2 hr)
    · rw [if_neg hr] at he; exact absurd he hr
theorem KInv.zero : KInv [] Lz := ⟨⟨List.Pairwise.nil, List.Pairwise.nil, by simp [Lz], by simp [Lz], by simp [Lz]⟩, fun m h => (by cases h), fun m h => (by cases h), fun m h => (by cases h), fun m h => (by cases h), fun m h => (by cases h)⟩
theorem run_kept : ∀ (r pre : List Mv) (L : Lnk) (i : Nat), KInv pre L → (∀ mv ∈ r, mv.m.s.size ≤ 30) →
    (∃ Lf, runGo r L i = (Lf, 0, 0) ∧ KInv (pre ++ r) Lf) ∨
    (∃ (n : Nat) (E : Int) (Lf : Lnk), n < r.length ∧ E ≠ 0 ∧ runGo r L i = (Lz, ((i + n : Nat) : Int), E) ∧ runGo (r.take n) L i = (Lf, 0, 0) ∧ KInv (pre ++ r.take n) Lf)
  | [], pre, L, i, h, _ => .inl ⟨L, rfl, by rwa [List.append_nil]⟩
  | mv :: r, pre, L, i, h, hs => by
    by_cases he : (movL L mv).2 = 0
    · have h1 := h.move (hs mv (List.mem_cons_self ..)) he
      rcases run_kept r (pre ++ [mv]) (movL L mv).1 (i + 1) h1 (fun x hx => hs x (List.mem_cons_of_mem _ hx)) with ⟨Lf, e, hk⟩ | ⟨n, E, Lf, hn, hE, e, e2, hk⟩
      · refine .inl ⟨Lf, ?_, by rwa [List.append_assoc] at hk⟩
        rw [runGo, if_pos he]; exact e
      · refine .inr ⟨n + 1, E, Lf, by simp; omega, hE, ?_, ?_, by rwa [List.append_assoc] at hk⟩
        · rw [runGo, if_pos he, e, show i + 1 + n = i + (n + 1) by omega]
        · rw [List.take_succ_cons, runGo, if_pos he]; exact e2
    · refine .inr ⟨0, (movL L mv).2, L, by simp, he, ?_, rfl, by rw [List.take_zero, List.append_nil]; exact h⟩
      rw [runGo, if_neg he, Nat.add_zero]
theorem wireE_of : ∀ (l : List Pkt), (∀ p ∈ l, msgE p.m = 0) → wireE l 0 = 0
  | [], _ => rfl
  | p :: r, h => by
    rw [wireE, h p (List.mem_cons_self ..)]
    exact wireE_of r fun q hq => h q (List.mem_cons_of_mem _ hq)
theorem runL_kept (l : List Mv) (hl : l.length ≤ 60) (hs : ∀ mv ∈ l, mv.m.s.size ≤ 30) :
    (∃ Lf, runL Lz l = (Lf, 0, 0) ∧ KInv l Lf) ∨ (∃ (n : Nat) (E : Int) (Lf : Lnk), n < l.length ∧ E ≠ 0 ∧ runL Lz l = (Lz, (n : Int), E) ∧ runL Lz (l.take n) = (Lf, 0, 0) ∧ KInv (l.take n) Lf) := by
  have hz : ∀ r : List Mv, r.length ≤ 60 → runL Lz r = runGo r Lz 0 := fun r hr => by
    unfold runL
    rw [if_pos]
    unfold runE0
    rw [show decide (r.length ≤ 200) = true by simp; omega]
    rfl
  rcases run_kept l [] Lz 0 KInv.zero hs with ⟨Lf, e, hk⟩ | ⟨n, E, Lf, hn, hE, e, e2, hk⟩
  · exact .inl ⟨Lf, (hz l hl).trans e, hk⟩
  · refine .inr ⟨n, E, Lf, hn, hE, ?_, ?_, hk⟩
    · rw [hz l hl, e, Nat.zero_add]
    · rw [hz _ (by rw [List.length_take]; omega)]; exact e2
end
section
open Go.ChangeShapes Go.WideShapes Go.ChangeAt Go.RowKit
set_option linter.unusedVariables false
set_option linter.unusedSimpArgs false

def mzz : Msg := ⟨⟨#[]⟩, 0, 0⟩
def mvLose : Mv := ⟨2, 0, mzz⟩
def mvSend : Mv := ⟨1, 0, mzz⟩
def mvTake : Mv := ⟨4, 0, mzz⟩
def flushG : List Msg → List Msg → Option (List Msg)
  | [], S => some S
  | m :: r, S => if (recvM S m).2 = 0 then flushG r (recvM S m).1 else none
def flJ : Nat → List Mv
  | 0 => []
  | j + 1 => flJ j ++ [mvSend, mvTake, mvTake]
def flushL (n j : Nat) : List Mv := List.replicate n mvLose ++ flJ j
theorem flJ_len : ∀ j, (flJ j).length = 3 * j
  | 0 => rfl
  | j + 1 => by rw [flJ, List.length_append, flJ_len j]; simp; omega
theorem flushL_len (n j : Nat) : (flushL n j).length = n + 3 * j := by unfold flushL; rw [List.length_append, List.length_replicate, flJ_len]
theorem flushL_lose (n : Nat) : flushL n 0 ++ [mvLose] = flushL (n + 1) 0 := by
  unfold flushL
  rw [flJ, List.append_nil, List.append_nil, List.replicate_succ']
theorem flushL_next (n j : Nat) : flushL n j ++ [mvSend, mvTake, mvTake] = flushL n (j + 1) := by unfold flushL; rw [flJ, List.append_assoc]
theorem flJ_cons : ∀ j, flJ (j + 1) = [mvSend, mvTake, mvTake] ++ flJ j
  | 0 => rfl
  | j + 1 => by
    rw [show flJ (j + 1 + 1) = flJ (j + 1) ++ [mvSend, mvTake, mvTake] from rfl, flJ_cons j, List.append_assoc]
    rw [← flJ_cons j]; rfl
theorem flushL_k {n j : Nat} : ∀ mv ∈ flushL n j, mv.k ≠ 0 := by
  have hJ : ∀ j, ∀ mv ∈ flJ j, mv.k ≠ 0 := by
    intro j
    induction j with
    | zero => intro mv h; cases h
    | succ j ih =>
      intro mv h
      rw [flJ] at h
      rcases List.mem_append.1 h with h | h
      · exact ih mv h
      · simp at h
        rcases h with rfl | rfl <;> decide
  intro mv h
  unfold flushL at h
  rcases List.mem_append.1 h with h | h
  · rw [List.mem_replicate] at h
    rw [h.2]; decide
  · exact hJ j mv h
theorem flushL_m {n j : Nat} : ∀ mv ∈ flushL n j, mv.m.s.size ≤ 30 := by
  have hJ : ∀ j, ∀ mv ∈ flJ j, mv.m = mzz := by
    intro j
    induction j with
    | zero => intro mv h; cases h
    | succ j ih =>
      intro mv h
      rw [flJ] at h
      rcases List.mem_append.1 h with h | h
      · exact ih mv h
      · simp at h
        rcases h with rfl | rfl <;> rfl
  intro mv h
  unfold flushL at h
  rcases List.mem_append.1 h with h | h
  · rw [List.mem_replicate] at h
    rw [h.2]; decide
  · rw [hJ j mv h]; decide
theorem runGo_app : ∀ (a b : List Mv) (L L' : Lnk) (i : Nat), runGo a L i = (L', 0, 0) → runGo (a ++ b) L i = runGo b L' (i + a.length)
  | [], b, L, L', i, h => by
    have : L = L' := congrArg Prod.fst h
    rw [this]; rfl
  | mv :: a, b, L, L', i, h => by
    rw [runGo] at h
    by_cases he : (movL L mv).2 = 0
    · rw [if_pos he] at h
      rw [List.cons_append, runGo, if_pos he, runGo_app a b _ L' (i + 1) h, List.length_cons, show i + 1 + a.length = i + (a.length + 1) by omega]
    · rw [if_neg he] at h
      exact absurd (congrArg (fun q => q.2.2) h) he
theorem e_lose : mvE0 mvLose = 0 := by kernel_rfl
theorem e_send : mvE0 mvSend = 0 := by kernel_rfl
theorem e_take : mvE0 mvTake = 0 := by kernel_rfl
theorem mov_lose (x : List Msg) (p : Pkt) (r : List Pkt) (y : List Msg) : movL ⟨x, p :: r, y⟩ mvLose = (⟨x, r, y⟩, 0) := by
  unfold movL
  rw [if_neg (by rw [e_lose]; simp), if_neg (by decide), if_neg (by decide)]
  rfl
theorem run_lose : ∀ (z : List Pkt) (x y : List Msg) (i : Nat), runGo (List.replicate z.length mvLose) ⟨x, z, y⟩ i = (⟨x, [], y⟩, 0, 0)
  | [], x, y, i => rfl
  | p :: r, x, y, i => by
    rw [List.length_cons, List.replicate_succ, runGo, mov_lose, if_pos rfl]
    exact run_lose r x y (i + 1)
theorem mov_send (m : Msg) (r : List Msg) (y : List Msg) : movL ⟨m :: r, [], y⟩ mvSend = (⟨m :: r, [⟨m, false⟩], y⟩, 0) := by
  unfold movL
  rw [if_neg (by rw [e_send]; simp), if_neg (by decide), if_pos (by rfl)]
  rfl
theorem mov_take1 (m : Msg) (x y : List Msg) (h : (recvM y m).2 = 0) : movL ⟨x, [⟨m, false⟩], y⟩ mvTake = (⟨x, [⟨m, true⟩], (recvM y m).1⟩, 0) := by
  unfold movL
  rw [if_neg (by rw [e_take]; simp), if_neg (by decide), if_neg (by decide)]
  show (if (4 : Int) = 2 then _ else if (4 : Int) = 3 then _ else takeL ⟨x, [⟨m, false⟩], y⟩ 0 ⟨m, false⟩) = _
  rw [if_neg (by decide), if_neg (by decide)]
  unfold takeL
  rw [if_neg (by simp), if_pos h]
  rfl
theorem mov_take2 (m : Msg) (r y : List Msg) (hs : Srt (m :: r)) : movL ⟨m :: r, [⟨m, true⟩], y⟩ mvTake = (⟨r, [], y⟩, 0) := by
  unfold movL
  rw [if_neg (by rw [e_take]; simp), if_neg (by decide), if_neg (by decide)]
  show (if (4 : Int) = 2 then _ else if (4 : Int) = 3 then _ else takeL ⟨m :: r, [⟨m, true⟩], y⟩ 0 ⟨m, true⟩) = _
  rw [if_neg (by decide), if_neg (by decide)]
  unfold takeL
  rw [if_pos rfl]
  obtain ⟨h1, h2⟩ := has_at (l := m :: r) (i := 0) (x := m) hs rfl rfl
  have hb : ackBox (m :: r) m = r := by
    unfold ackBox
    rw [h1, h2]
    show (if m.v ≤ m.v then delL (m :: r) 0 else m :: r) = r
    rw [if_pos (Int.le_refl _)]
    rfl
  show ((⟨ackBox (m :: r) m, delL [(⟨m, true⟩ : Pkt)] 0, y⟩ : Lnk), (0 : Int)) = _
  rw [hb]
  rfl
theorem run_flJ : ∀ (x y y' : List Msg) (i : Nat), Srt x → flushG x y = some y' → runGo (flJ x.length) ⟨x, [], y⟩ i = (⟨[], [], y'⟩, 0, 0)
  | [], y, y', i, _, h => by
    rw [flushG] at h
    obtain rfl := Option.some.inj h
    rfl
  | m :: r, y, y', i, hs, h => by
    rw [flushG] at h
    by_cases hr : (recvM y m).2 = 0
    · rw [if_pos hr] at h
      rw [List.length_cons, flJ_cons, runGo_app [mvSend, mvTake, mvTake] _ _ ⟨r, [], (recvM y m).1⟩ i ?_]
      · exact run_flJ r _ y' _ (List.pairwise_cons.1 hs).2 h
      · rw [runGo, mov_send, if_pos rfl, runGo, mov_take1 m _ _ hr, if_pos rfl, runGo, mov_take2 m r _ hs, if_pos rfl]
        rfl
    · rw [if_neg hr] at h; cases h
/-- what a store becomes by the messages of a box -/
theorem flushG_has : ∀ (x y y' : List Msg), Srt y → y.length ≤ 30 → flushG x y = some y' → Srt y' ∧ y'.length ≤ 30 ∧ (∀ m ∈ y', m ∈ y ∨ m ∈ x) ∧ (∀ m, Cov y m → Cov y' m) ∧ ∀ m ∈ x, Cov y' m
  | [], y, y', hs, hl, h => by
    rw [flushG] at h
    obtain rfl := Option.some.inj h
    exact ⟨hs, hl, fun m hm => .inl hm, fun m hm => hm, fun m hm => (by cases hm)⟩
  | m :: r, y, y', hs, hl, h => by
    rw [flushG] at h
    by_cases hr : (recvM y m).2 = 0
    · rw [if_pos hr] at h
      obtain ⟨a, b, c, d, e⟩ := flushG_has r _ y' (recv_srt hs) (recv_len hl) h
      refine ⟨a, b, fun q hq => ?_, fun q hq => d q (hq.recv hs hr), fun q hq => ?_⟩
      · rcases c q hq with hc | hc
        · rcases recv_mem hc with hc | hc
          · exact .inl hc
          · exact .inr (by rw [hc]; exact List.mem_cons_self ..)
        · exact .inr (List.mem_cons_of_mem _ hc)
      · rcases List.mem_cons.1 hq with rfl | hq
        · exact d _ (mem_recv hs hr).1
        · exact e q hq
    · rw [if_neg hr] at h; cases h
theorem lnkE_parts {L : Lnk} (h : lnkE L = 0) : ((∀ m ∈ L.box, msgE m = 0) ∧ Srt L.box ∧ L.box.length ≤ 30) ∧ ((∀ m ∈ L.store, msgE m = 0) ∧ Srt L.store ∧ L.store.length ≤ 30) ∧ L.wire.length ≤ 60 := by
  obtain ⟨h1, _⟩ := wireE_zero _ _ h
  unfold lnkE0 at h1
  rw [firstE3, unl_zero (by decide), decide_eq_true_eq] at h1
  exact ⟨chkS_ok h1.1, chkS_ok h1.2.1, h1.2.2⟩
theorem run_flush {L : Lnk} {S : List Msg} (hE : lnkE L = 0) (hg : flushG L.box L.store = some S) : runL L (flushL L.wire.length L.box.length) = (⟨[], [], S⟩, 0, 0) := by
  obtain ⟨⟨-, s1, l1⟩, ⟨-, s2, l2⟩, l3⟩ := lnkE_parts hE
  unfold runL
  rw [if_pos]
  · unfold flushL
    obtain ⟨x, z, y⟩ := L
    rw [runGo_app _ _ _ _ _ (run_lose z x y 0)]
    exact run_flJ x y S _ s1 hg
  · unfold runE0
    rw [hE, flushL_len, show decide (L.wire.length + 3 * L.box.length ≤ 200) = true by simp; omega]
    rfl
end
section
set_option linter.unusedVariables false

structure VLk (L : Lnk) : Prop where
  ok : OkL L
  b : ∀ m ∈ L.box, msgE m = 0
  s : ∀ m ∈ L.store, msgE m = 0
  w : ∀ p ∈ L.wire, msgE p.m = 0
theorem VLk.of {L : Lnk} (h : lnkE L = 0) : VLk L :=
  ⟨lnkE_ok h, (lnkE_parts h).1.1, (lnkE_parts h).2.1.1, (wireE_zero _ _ h).2⟩
theorem ack_mem {l : List Msg} {m x : Msg} (hx : x ∈ ackBox l m) : x ∈ l := by
  unfold ackBox at hx
  split at hx
  · split at hx
    · exact mem_delL hx
    · exact hx
  · exact hx
theorem VLk.send {L : Lnk} {p : Pkt} (h : VLk L) (hp : msgE p.m = 0) : VLk (sendL L p).1 := by
  refine ⟨h.ok.send, ?_, ?_, ?_⟩ <;> (unfold sendL; split)
  · exact h.b
  · exact h.b
  · exact h.s
  · exact h.s
  · exact h.w
  · intro q hq
    rcases List.mem_append.1 hq with hq | hq
    · exact h.w q hq
    · rw [List.mem_singleton] at hq; rw [hq]; exact hp
theorem recv_E {S : List Msg} {m : Msg} (h : ∀ x ∈ S, msgE x = 0) (hm : msgE m = 0) : ∀ x ∈ (recvM S m).1, msgE x = 0 := fun x hx => by
  rcases recv_mem hx with hx | rfl
  · exact h x hx
  · exact hm
theorem VLk.take_ {L : Lnk} {i : Nat} {p : Pkt} (h : VLk L) (hp : msgE p.m = 0) : VLk (takeL L i p).1 := by
  have hok := h.ok.take_ (i := i) (p := p)
  unfold takeL at hok ⊢
  split
  · rename_i ha
    rw [if_pos ha] at hok
    exact ⟨hok, fun m hm => h.b m (ack_mem hm), h.s, fun q hq => h.w q (mem_delL hq)⟩
  · rename_i ha
    rw [if_neg ha] at hok
    split
    · rename_i hr
      exact VLk.send ⟨⟨h.ok.s1, recv_srt h.ok.s2, h.ok.l1, recv_len h.ok.l2, Nat.le_trans (delL_le _ _) h.ok.l3⟩, h.b, recv_E h.s hp, fun q hq => h.w q (mem_delL hq)⟩ hp
    · rename_i hr
      rw [if_neg hr] at hok
      exact ⟨hok, h.b, recv_E h.s hp, h.w⟩
theorem VLk.move {L : Lnk} {mv : Mv} (h : VLk L) : VLk (movL L mv).1 := by
  have hok := h.ok.move (mv := mv)
  unfold movL at hok ⊢
  split
  · exact h
  · rename_i h0
    rw [if_neg h0] at hok
    split
    · rename_i h1
      rw [if_pos h1] at hok
      split
      · rename_i h2
        rw [if_pos h2] at hok
        exact ⟨hok, recv_E h.b h2, h.s, h.w⟩
      · exact h
    · split
      · split
        · exact h
        · rename_i m hm
          refine h.send (h.b m ?_)
          unfold pickM at hm
          split at hm
          · exact List.mem_of_getElem? hm
          · cases hm
      · split
        · exact h
        · rename_i p hm
          have hp : p ∈ L.wire := by
            unfold pickL at hm
            split at hm
            · exact List.mem_of_getElem? hm
            · cases hm
          split
          · exact ⟨⟨h.ok.s1, h.ok.s2, h.ok.l1, h.ok.l2, Nat.le_trans (delL_le _ _) h.ok.l3⟩, h.b, h.s, fun q hq => h.w q (mem_delL hq)⟩
          · split
            · exact h.send (h.w p hp)
            · exact h.take_ (h.w p hp)
end
end Go.Proofs.Ytcfbnmcdncndpaa
