/-
  Chapter 8: nothing is lost by moves (plain).
-/
import Derived.Test.YtcfbnmcdncndpaaAnyP
import Derived.Test.YtcfbnmcdncndpaaWRuo
namespace Go.Proofs.Ytcfbnmcdncndpaa
open Go.ChangeShapes Go.WideShapes Go.ChangeAt Go.RowKit
set_option linter.unusedVariables false
set_option linter.unusedSimpArgs false

/-- a store has a warning of at least a version -/
def Cov (S : List Msg) (m : Msg) : Prop := ∃ y ∈ S, y.s = m.s ∧ m.v ≤ y.v
def OkM (m : Msg) : Prop := msgE m = 0 ∧ m.s.size ≤ 30
theorem Cov.recv {S : List Msg} {m x : Msg} (hs : Srt S) (he : (recvM S m).2 = 0) (h : Cov S x) : Cov (recvM S m).1 x := by
  obtain ⟨y, hy, e, v⟩ := h
  obtain ⟨z, hz, e2, v2⟩ := (mem_recv hs he).2 y hy
  exact ⟨z, hz, e2.trans e, by omega⟩
theorem recv_okM {S : List Msg} {m : Msg} (h : ∀ x ∈ S, OkM x) (hm : OkM m) : ∀ x ∈ (recvM S m).1, OkM x := fun x hx => by
  rcases recv_mem hx with hx | rfl
  · exact h x hx
  · exact hm
theorem mem_delL {α : Type} {l : List α} {i : Nat} {x : α} (h : x ∈ delL l i) : x ∈ l := by
  unfold delL at h
  rcases List.mem_append.1 h with h | h
  · exact List.mem_of_mem_take h
  · exact List.mem_of_mem_drop h
theorem delL_mem {α : Type} {l : List α} {i : Nat} {x : α} (h : x ∈ l) : x ∈ delL l i ∨ l[i]? = some x := by
  obtain ⟨j, hj⟩ := List.getElem?_of_mem h
  unfold delL
  rcases Nat.lt_trichotomy j i with h1 | h1 | h1
  · left
    refine List.mem_append_left _ (List.mem_of_getElem? (i := j) ?_)
    rw [List.getElem?_take, if_pos h1]; exact hj
  · right; rw [← h1]; exact hj
  · left
    refine List.mem_append_right _ (List.mem_of_getElem? (i := j - (i + 1)) ?_)
    rw [List.getElem?_drop, show i + 1 + (j - (i + 1)) = j by omega]; exact hj
theorem ackBox_mem {l : List Msg} {m x : Msg} (h : x ∈ ackBox l m) : x ∈ l := by
  unfold ackBox at h
  split at h
  · split at h
    · exact mem_delL h
    · exact h
  · exact h
theorem mem_ackBox {l : List Msg} {m x : Msg} (h : x ∈ l) : x ∈ ackBox l m ∨ (x.s = m.s ∧ x.v ≤ m.v) := by
  unfold ackBox
  cases hh : hasM l m.s
  · exact .inl h
  · obtain ⟨o, ho, hos⟩ := has_true hh
    rw [ho]
    simp only
    by_cases hv : o.v ≤ m.v
    · rw [if_pos hv]
      rcases delL_mem (i := posM l m.s) h with h1 | h1
      · exact .inl h1
      · rw [ho] at h1
        obtain rfl := Option.some.inj h1
        exact .inr ⟨hos, hv⟩
    · rw [if_neg hv]; exact .inl h
theorem pickM_mem {l : List Msg} {i : Int} {m : Msg} (h : pickM l i = some m) : m ∈ l := by
  unfold pickM at h
  split at h
  · exact List.mem_of_getElem? h
  · cases h
theorem pickL_mem {l : List Pkt} {i : Int} {m : Pkt} (h : pickL l i = some m) : m ∈ l := by
  unfold pickL at h
  split at h
  · exact List.mem_of_getElem? h
  · cases h
/-- what holds of a link behind moves -/
structure KInv (pre : List Mv) (L : Lnk) : Prop where
  ok : OkL L
  b : ∀ m ∈ L.box, OkM m
  s : ∀ m ∈ L.store, OkM m
  w : ∀ p ∈ L.wire, OkM p.m
  a : ∀ p ∈ L.wire, p.a = true → Cov L.store p.m
  c : ∀ mv ∈ pre, mv.k = 0 → Cov L.box mv.m ∨ Cov L.store mv.m
theorem sendL_ok {L : Lnk} {p : Pkt} (h : (sendL L p).2 = 0) : (sendL L p).1 = ⟨L.box, L.wire ++ [p], L.store⟩ := by
  unfold sendL at h ⊢
  split at h
  · cases h
  · rename_i h1; rw [if_neg h1]
theorem mvE0_k {mv : Mv} (h : mvE0 mv = 0) : mv.k = 0 ∨ mv.k ≠ 0 := by omega
theorem KInv.move {pre : List Mv} {L : Lnk} {mv : Mv} (h : KInv pre L) (hs : mv.m.s.size ≤ 30) (he : (movL L mv).2 = 0) : KInv (pre ++ [mv]) (movL L mv).1 := by
  have hok := OkL.move (mv := mv) h.ok
  have old : ∀ {L' : Lnk}, OkL L' → (∀ m ∈ L'.box, OkM m) → (∀ m ∈ L'.store, OkM m) → (∀ p ∈ L'.wire, OkM p.m) → (∀ p ∈ L'.wire, p.a = true → Cov L'.store p.m) → (∀ m, Cov L.box m ∨ Cov L.store m → Cov L'.box m ∨ Cov L'.store m) → mv.k ≠ 0 → KInv (pre ++ [mv]) L' := fun o1 o2 o3 o4 o5 o6 o7 =>
    ⟨o1, o2, o3, o4, o5, fun x hx hk => by
      rcases List.mem_append.1 hx with hx | hx
      · exact o6 _ (h.c x hx hk)
      · rw [List.mem_singleton] at hx
        rw [hx] at hk; exact absurd hk o7⟩
  unfold movL at he hok ⊢
  by_cases h0 : mvE0 mv ≠ 0
  · rw [if_pos h0] at he; exact absurd he h0
  rw [if_neg h0] at he hok ⊢
  by_cases hk : mv.k = 0
  · rw [if_pos hk] at he hok ⊢
    by_cases hm : msgE mv.m = 0
    · rw [if_pos hm] at he hok ⊢
      have hr : (recvM L.box mv.m).2 = 0 := he
      refine ⟨hok, recv_okM h.b ⟨hm, hs⟩, h.s, h.w, h.a, fun x hx hk2 => ?_⟩
      rcases List.mem_append.1 hx with hx | hx
      · rcases h.c x hx hk2 with hc | hc
        · exact .inl (hc.recv h.ok.s1 hr)
        · exact .inr hc
      · rw [List.mem_singleton] at hx
        rw [hx]
        exact .inl (mem_recv h.ok.s1 hr).1
    · rw [if_neg hm] at he; exact absurd he hm
  rw [if_neg hk] at he hok ⊢
  by_cases hk1 : mv.k = 1
  · rw [if_pos hk1] at he hok ⊢
    cases hp : pickM L.box mv.i with
    | none => rw [hp] at he; cases he
    | some m =>
      rw [hp] at he hok
      simp only at he hok ⊢
      have hmb := pickM_mem hp
      rw [sendL_ok he] at hok ⊢
      refine old hok h.b h.s (fun p hp => ?_) (fun p hp ha => ?_) (fun _ hc => hc) hk
      · rcases List.mem_append.1 hp with hp | hp
        · exact h.w p hp
        · rw [List.mem_singleton] at hp; rw [hp]; exact h.b m hmb
      · rcases List.mem_append.1 hp with hp | hp
        · exact h.a p hp ha
        · rw [List.mem_singleton] at hp; rw [hp] at ha; cases ha
  rw [if_neg hk1] at he hok ⊢
  cases hp : pickL L.wire mv.i with
  | none => rw [hp] at he; cases he
  | some p =>
    rw [hp] at he hok
    simp only at he hok ⊢
    have hpw := pickL_mem hp
    by_cases hk2 : mv.k = 2
    · rw [if_pos hk2] at he hok ⊢
      exact old hok h.b h.s (fun q hq => h.w q (mem_delL hq)) (fun q hq ha => h.a q (mem_delL hq) ha) (fun _ hc => hc) hk
    rw [if_neg hk2] at he hok ⊢
    by_cases hk3 : mv.k = 3
    · rw [if_pos hk3] at he hok ⊢
      rw [sendL_ok he] at hok ⊢
      refine old hok h.b h.s (fun q hq => ?_) (fun q hq ha => ?_) (fun _ hc => hc) hk
      · rcases List.mem_append.1 hq with hq | hq
        · exact h.w q hq
        · rw [List.mem_singleton] at hq; rw [hq]; exact h.w p hpw
      · rcases List.mem_append.1 hq with hq | hq
        · exact h.a q hq ha
        · rw [List.mem_singleton] at hq; rw [hq] at ha ⊢; exact h.a p hpw ha
    rw [if_neg hk3] at he hok ⊢
    unfold takeL at he hok ⊢
    by_cases ha : p.a = true
    · rw [if_pos ha] at he hok ⊢
      refine old hok (fun m hm => h.b m (ackBox_mem hm)) h.s (fun q hq => h.w q (mem_delL hq)) (fun q hq hqa => h.a q (mem_delL hq) hqa) (fun m hc => ?_) hk
      rcases hc with ⟨y, hy, e, v⟩ | hc
      · rcases mem_ackBox (m := p.m) hy with h1 | ⟨h1, h2⟩
        · exact .inl ⟨y, h1, e, v⟩
        · obtain ⟨z, hz, e2, v2⟩ := h.a p hpw ha
          exact .inr ⟨z, hz, e2.trans (h1.symm.trans e), by omega⟩
      · exact .inr hc
    rw [if_neg ha] at he hok ⊢
    by_cases hr : (recvM L.store p.m).2 = 0
    · rw [if_pos hr] at he hok ⊢
      rw [sendL_ok he] at hok ⊢
      refine old hok h.b (recv_okM h.s (h.w p hpw)) (fun q hq => ?_) (fun q hq hqa => ?_) (fun m hc => ?_) hk
      · rcases List.mem_append.1 hq with hq | hq
        · exact h.w q (mem_delL hq)
        · rw [List.mem_singleton] at hq; rw [hq]; exact h.w p hpw
      · rcases List.mem_append.1 hq with hq | hq
        · exact (h.a q (mem_delL hq) hqa).recv h.ok.s2 hr
        · rw [List.mem_singleton] at hq; rw [hq]; exact (mem_recv h.ok.s2 hr).1
      · rcases hc with hc | hc
        · exact .inl hc
        · exact .inr (hc.recv h.ok.s2 hr)
    · rw [if_neg hr] at he; exact absurd he hr
theorem KInv.zero : KInv [] Lz := ⟨⟨List.Pairwise.nil, List.Pairwise.nil, by simp [Lz], by simp [Lz], by simp [Lz]⟩, fun m h => (by cases h), fun m h => (by cases h), fun m h => (by cases h), fun m h => (by cases h), fun m h => (by cases h)⟩
theorem run_kept : ∀ (r pre : List Mv) (L : Lnk) (i : Nat), KInv pre L → (∀ mv ∈ r, mv.m.s.size ≤ 30) →
    (∃ Lf, runGo r L i = (Lf, 0, 0) ∧ KInv (pre ++ r) Lf) ∨
    (∃ (n : Nat) (E : Int) (Lf : Lnk), n < r.length ∧ E ≠ 0 ∧ runGo r L i = (Lz, ((i + n : Nat) : Int), E) ∧ runGo (r.take n) L i = (Lf, 0, 0) ∧ KInv (pre ++ r.take n) Lf)
  | [], pre, L, i, h, _ => .inl ⟨L, rfl, by rwa [List.append_nil]⟩
  | mv :: r, pre, L, i, h, hs => by
    by_cases he : (movL L mv).2 = 0
    · have h1 := h.move (hs mv (List.mem_cons_self ..)) he
      rcases run_kept r (pre ++ [mv]) (movL L mv).1 (i + 1) h1 (fun x hx => hs x (List.mem_cons_of_mem _ hx)) with ⟨Lf, e, hk⟩ | ⟨n, E, Lf, hn, hE, e, e2, hk⟩
      · refine .inl ⟨Lf, ?_, by rwa [List.append_assoc] at hk⟩
        rw [runGo, if_pos he]; exact e
      · refine .inr ⟨n + 1, E, Lf, by simp; omega, hE, ?_, ?_, by rwa [List.append_assoc] at hk⟩
        · rw [runGo, if_pos he, e, show i + 1 + n = i + (n + 1) by omega]
        · rw [List.take_succ_cons, runGo, if_pos he]; exact e2
    · refine .inr ⟨0, (movL L mv).2, L, by simp, he, ?_, rfl, by rw [List.take_zero, List.append_nil]; exact h⟩
      rw [runGo, if_neg he, Nat.add_zero]
theorem wireE_of : ∀ (l : List Pkt), (∀ p ∈ l, msgE p.m = 0) → wireE l 0 = 0
  | [], _ => rfl
  | p :: r, h => by
    rw [wireE, h p (List.mem_cons_self ..)]
    exact wireE_of r fun q hq => h q (List.mem_cons_of_mem _ hq)
theorem runL_kept (l : List Mv) (hl : l.length ≤ 60) (hs : ∀ mv ∈ l, mv.m.s.size ≤ 30) :
    (∃ Lf, runL Lz l = (Lf, 0, 0) ∧ KInv l Lf) ∨ (∃ (n : Nat) (E : Int) (Lf : Lnk), n < l.length ∧ E ≠ 0 ∧ runL Lz l = (Lz, (n : Int), E) ∧ runL Lz (l.take n) = (Lf, 0, 0) ∧ KInv (l.take n) Lf) := by
  have hz : ∀ r : List Mv, r.length ≤ 60 → runL Lz r = runGo r Lz 0 := fun r hr => by
    unfold runL
    rw [if_pos]
    unfold runE0
    rw [show decide (r.length ≤ 200) = true by simp; omega]
    rfl
  rcases run_kept l [] Lz 0 KInv.zero hs with ⟨Lf, e, hk⟩ | ⟨n, E, Lf, hn, hE, e, e2, hk⟩
  · exact .inl ⟨Lf, (hz l hl).trans e, hk⟩
  · refine .inr ⟨n, E, Lf, hn, hE, ?_, ?_, hk⟩
    · rw [hz l hl, e, Nat.zero_add]
    · rw [hz _ (by rw [List.length_take]; omega)]; exact e2
end Go.Proofs.Ytcfbnmcdncndpaa
