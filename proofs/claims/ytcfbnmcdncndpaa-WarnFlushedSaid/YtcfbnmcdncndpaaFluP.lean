/-
  Chapter 8: the moves that flush a link (plain).
-/
import Derived.Test.YtcfbnmcdncndpaaKepP
namespace Go.Proofs.Ytcfbnmcdncndpaa
open Go.ChangeShapes Go.WideShapes Go.ChangeAt Go.RowKit
set_option linter.unusedVariables false
set_option linter.unusedSimpArgs false

def mzz : Msg := ⟨⟨#[]⟩, 0, 0⟩
def mvLose : Mv := ⟨2, 0, mzz⟩
def mvSend : Mv := ⟨1, 0, mzz⟩
def mvTake : Mv := ⟨4, 0, mzz⟩
def flushG : List Msg → List Msg → Option (List Msg)
  | [], S => some S
  | m :: r, S => if (recvM S m).2 = 0 then flushG r (recvM S m).1 else none
def flJ : Nat → List Mv
  | 0 => []
  | j + 1 => flJ j ++ [mvSend, mvTake, mvTake]
def flushL (n j : Nat) : List Mv := List.replicate n mvLose ++ flJ j
theorem flJ_len : ∀ j, (flJ j).length = 3 * j
  | 0 => rfl
  | j + 1 => by rw [flJ, List.length_append, flJ_len j]; simp; omega
theorem flushL_len (n j : Nat) : (flushL n j).length = n + 3 * j := by unfold flushL; rw [List.length_append, List.length_replicate, flJ_len]
theorem flushL_lose (n : Nat) : flushL n 0 ++ [mvLose] = flushL (n + 1) 0 := by
  unfold flushL
  rw [flJ, List.append_nil, List.append_nil, List.replicate_succ']
theorem flushL_next (n j : Nat) : flushL n j ++ [mvSend, mvTake, mvTake] = flushL n (j + 1) := by unfold flushL; rw [flJ, List.append_assoc]
theorem flJ_cons : ∀ j, flJ (j + 1) = [mvSend, mvTake, mvTake] ++ flJ j
  | 0 => rfl
  | j + 1 => by
    rw [show flJ (j + 1 + 1) = flJ (j + 1) ++ [mvSend, mvTake, mvTake] from rfl, flJ_cons j, List.append_assoc]
    rw [← flJ_cons j]; rfl
theorem flushL_k {n j : Nat} : ∀ mv ∈ flushL n j, mv.k ≠ 0 := by
  have hJ : ∀ j, ∀ mv ∈ flJ j, mv.k ≠ 0 := by
    intro j
    induction j with
    | zero => intro mv h; cases h
    | succ j ih =>
      intro mv h
      rw [flJ] at h
      rcases List.mem_append.1 h with h | h
      · exact ih mv h
      · simp at h
        rcases h with rfl | rfl <;> decide
  intro mv h
  unfold flushL at h
  rcases List.mem_append.1 h with h | h
  · rw [List.mem_replicate] at h
    rw [h.2]; decide
  · exact hJ j mv h
theorem flushL_m {n j : Nat} : ∀ mv ∈ flushL n j, mv.m.s.size ≤ 30 := by
  have hJ : ∀ j, ∀ mv ∈ flJ j, mv.m = mzz := by
    intro j
    induction j with
    | zero => intro mv h; cases h
    | succ j ih =>
      intro mv h
      rw [flJ] at h
      rcases List.mem_append.1 h with h | h
      · exact ih mv h
      · simp at h
        rcases h with rfl | rfl <;> rfl
  intro mv h
  unfold flushL at h
  rcases List.mem_append.1 h with h | h
  · rw [List.mem_replicate] at h
    rw [h.2]; decide
  · rw [hJ j mv h]; decide
theorem runGo_app : ∀ (a b : List Mv) (L L' : Lnk) (i : Nat), runGo a L i = (L', 0, 0) → runGo (a ++ b) L i = runGo b L' (i + a.length)
  | [], b, L, L', i, h => by
    have : L = L' := congrArg Prod.fst h
    rw [this]; rfl
  | mv :: a, b, L, L', i, h => by
    rw [runGo] at h
    by_cases he : (movL L mv).2 = 0
    · rw [if_pos he] at h
      rw [List.cons_append, runGo, if_pos he, runGo_app a b _ L' (i + 1) h, List.length_cons, show i + 1 + a.length = i + (a.length + 1) by omega]
    · rw [if_neg he] at h
      exact absurd (congrArg (fun q => q.2.2) h) he
theorem e_lose : mvE0 mvLose = 0 := by kernel_rfl
theorem e_send : mvE0 mvSend = 0 := by kernel_rfl
theorem e_take : mvE0 mvTake = 0 := by kernel_rfl
theorem mov_lose (x : List Msg) (p : Pkt) (r : List Pkt) (y : List Msg) : movL ⟨x, p :: r, y⟩ mvLose = (⟨x, r, y⟩, 0) := by
  unfold movL
  rw [if_neg (by rw [e_lose]; simp), if_neg (by decide), if_neg (by decide)]
  rfl
theorem run_lose : ∀ (z : List Pkt) (x y : List Msg) (i : Nat), runGo (List.replicate z.length mvLose) ⟨x, z, y⟩ i = (⟨x, [], y⟩, 0, 0)
  | [], x, y, i => rfl
  | p :: r, x, y, i => by
    rw [List.length_cons, List.replicate_succ, runGo, mov_lose, if_pos rfl]
    exact run_lose r x y (i + 1)
theorem mov_send (m : Msg) (r : List Msg) (y : List Msg) : movL ⟨m :: r, [], y⟩ mvSend = (⟨m :: r, [⟨m, false⟩], y⟩, 0) := by
  unfold movL
  rw [if_neg (by rw [e_send]; simp), if_neg (by decide), if_pos (by rfl)]
  rfl
theorem mov_take1 (m : Msg) (x y : List Msg) (h : (recvM y m).2 = 0) : movL ⟨x, [⟨m, false⟩], y⟩ mvTake = (⟨x, [⟨m, true⟩], (recvM y m).1⟩, 0) := by
  unfold movL
  rw [if_neg (by rw [e_take]; simp), if_neg (by decide), if_neg (by decide)]
  show (if (4 : Int) = 2 then _ else if (4 : Int) = 3 then _ else takeL ⟨x, [⟨m, false⟩], y⟩ 0 ⟨m, false⟩) = _
  rw [if_neg (by decide), if_neg (by decide)]
  unfold takeL
  rw [if_neg (by simp), if_pos h]
  rfl
theorem mov_take2 (m : Msg) (r y : List Msg) (hs : Srt (m :: r)) : movL ⟨m :: r, [⟨m, true⟩], y⟩ mvTake = (⟨r, [], y⟩, 0) := by
  unfold movL
  rw [if_neg (by rw [e_take]; simp), if_neg (by decide), if_neg (by decide)]
  show (if (4 : Int) = 2 then _ else if (4 : Int) = 3 then _ else takeL ⟨m :: r, [⟨m, true⟩], y⟩ 0 ⟨m, true⟩) = _
  rw [if_neg (by decide), if_neg (by decide)]
  unfold takeL
  rw [if_pos rfl]
  obtain ⟨h1, h2⟩ := has_at (l := m :: r) (i := 0) (x := m) hs rfl rfl
  have hb : ackBox (m :: r) m = r := by
    unfold ackBox
    rw [h1, h2]
    show (if m.v ≤ m.v then delL (m :: r) 0 else m :: r) = r
    rw [if_pos (Int.le_refl _)]
    rfl
  show ((⟨ackBox (m :: r) m, delL [(⟨m, true⟩ : Pkt)] 0, y⟩ : Lnk), (0 : Int)) = _
  rw [hb]
  rfl
theorem run_flJ : ∀ (x y y' : List Msg) (i : Nat), Srt x → flushG x y = some y' → runGo (flJ x.length) ⟨x, [], y⟩ i = (⟨[], [], y'⟩, 0, 0)
  | [], y, y', i, _, h => by
    rw [flushG] at h
    obtain rfl := Option.some.inj h
    rfl
  | m :: r, y, y', i, hs, h => by
    rw [flushG] at h
    by_cases hr : (recvM y m).2 = 0
    · rw [if_pos hr] at h
      rw [List.length_cons, flJ_cons, runGo_app [mvSend, mvTake, mvTake] _ _ ⟨r, [], (recvM y m).1⟩ i ?_]
      · exact run_flJ r _ y' _ (List.pairwise_cons.1 hs).2 h
      · rw [runGo, mov_send, if_pos rfl, runGo, mov_take1 m _ _ hr, if_pos rfl, runGo, mov_take2 m r _ hs, if_pos rfl]
        rfl
    · rw [if_neg hr] at h; cases h
/-- what a store becomes by the messages of a box -/
theorem flushG_has : ∀ (x y y' : List Msg), Srt y → y.length ≤ 30 → flushG x y = some y' → Srt y' ∧ y'.length ≤ 30 ∧ (∀ m ∈ y', m ∈ y ∨ m ∈ x) ∧ (∀ m, Cov y m → Cov y' m) ∧ ∀ m ∈ x, Cov y' m
  | [], y, y', hs, hl, h => by
    rw [flushG] at h
    obtain rfl := Option.some.inj h
    exact ⟨hs, hl, fun m hm => .inl hm, fun m hm => hm, fun m hm => (by cases hm)⟩
  | m :: r, y, y', hs, hl, h => by
    rw [flushG] at h
    by_cases hr : (recvM y m).2 = 0
    · rw [if_pos hr] at h
      obtain ⟨a, b, c, d, e⟩ := flushG_has r _ y' (recv_srt hs) (recv_len hl) h
      refine ⟨a, b, fun q hq => ?_, fun q hq => d q (hq.recv hs hr), fun q hq => ?_⟩
      · rcases c q hq with hc | hc
        · rcases recv_mem hc with hc | hc
          · exact .inl hc
          · exact .inr (by rw [hc]; exact List.mem_cons_self ..)
        · exact .inr (List.mem_cons_of_mem _ hc)
      · rcases List.mem_cons.1 hq with rfl | hq
        · exact d _ (mem_recv hs hr).1
        · exact e q hq
    · rw [if_neg hr] at h; cases h
theorem lnkE_parts {L : Lnk} (h : lnkE L = 0) : ((∀ m ∈ L.box, msgE m = 0) ∧ Srt L.box ∧ L.box.length ≤ 30) ∧ ((∀ m ∈ L.store, msgE m = 0) ∧ Srt L.store ∧ L.store.length ≤ 30) ∧ L.wire.length ≤ 60 := by
  obtain ⟨h1, _⟩ := wireE_zero _ _ h
  unfold lnkE0 at h1
  rw [firstE3, unl_zero (by decide), decide_eq_true_eq] at h1
  exact ⟨chkS_ok h1.1, chkS_ok h1.2.1, h1.2.2⟩
theorem run_flush {L : Lnk} {S : List Msg} (hE : lnkE L = 0) (hg : flushG L.box L.store = some S) : runL L (flushL L.wire.length L.box.length) = (⟨[], [], S⟩, 0, 0) := by
  obtain ⟨⟨-, s1, l1⟩, ⟨-, s2, l2⟩, l3⟩ := lnkE_parts hE
  unfold runL
  rw [if_pos]
  · unfold flushL
    obtain ⟨x, z, y⟩ := L
    rw [runGo_app _ _ _ _ _ (run_lose z x y 0)]
    exact run_flJ x y S _ s1 hg
  · unfold runE0
    rw [hE, flushL_len, show decide (L.wire.length + 3 * L.box.length ≤ 200) = true by simp; omega]
    rfl
end Go.Proofs.Ytcfbnmcdncndpaa
