/-
  Chapter 2: plain laws of EchoAmong.
-/
import Derived.Test.YtppghnbabnhnbaaDoorERcn
import Derived.Test.YtppghnbabnhnbaaDoorEDrW
namespace Go.Proofs.YtppghnbabnhnbaaDoor
open Go.ChangeShapes Go.WideShapes Go.ChangeAt Go.RowKit
set_option linter.unusedVariables false
set_option linter.unusedSimpArgs false

/-- a reading of a direction, wrong by at most its error -/
def ownR (r : Rd) (d wr : Int) : Rd := ⟨r.s, (r.s * d % 720 + wr % (2 * r.e + 1) - r.e) % 720, r.e⟩
theorem ownR_ok {r : Rd} (h : OkRd r) (d wr : Int) : OkRd (ownR r d wr) := by
  obtain ⟨a, b, c, d', e, f⟩ := h
  exact ⟨a, b, by show 0 ≤ (_ : Int) % 720; omega, by show (_ : Int) % 720 ≤ 719; omega, e, f⟩
theorem ownR_agr {r : Rd} (h : OkRd r) (d wr : Int) : agr (ownR r d wr) d = true := by
  obtain ⟨a, b, c, d', e, f⟩ := h
  unfold agr ownR dstP
  rw [decide_eq_true_eq]
  show (if (r.s * d - (r.s * d % 720 + wr % (2 * r.e + 1) - r.e) % 720) % 720 ≤ _ then _ else _) ≤ r.e
  have h1 := Int.emod_nonneg wr (show 2 * r.e + 1 ≠ 0 by omega)
  have h2 := Int.emod_lt_of_pos wr (show 0 < 2 * r.e + 1 by omega)
  generalize wr % (2 * r.e + 1) = m at *
  generalize r.s * d = x at *
  dsimp only
  split <;> omega
/-- the readings of a direction, of the first k -/
def ownL (l : List Rd) (d : Int) (ws : List Int) (k : Nat) : List Rd := ((l.zip ws).take k).map fun p => ownR p.1 d p.2
theorem ownL_succ {l : List Rd} {d : Int} {ws : List Int} {k : Nat} (h1 : k < l.length) (h2 : k < ws.length) : ownL l d ws (k + 1) = ownL l d ws k ++ [ownR l[k] d ws[k]] := by
  unfold ownL
  rw [List.take_succ_eq_append_getElem (by rw [List.length_zip]; omega), List.map_append, List.map_singleton, List.getElem_zip]
theorem ownL_len {l : List Rd} {d : Int} {ws : List Int} {k : Nat} (h1 : k ≤ l.length) (h2 : k ≤ ws.length) : (ownL l d ws k).length = k := by
  unfold ownL
  rw [List.length_map, List.length_take, List.length_zip]
  omega
theorem ownL_mem {l : List Rd} {d : Int} {ws : List Int} {k : Nat} {x : Rd} (h : x ∈ ownL l d ws k) : ∃ r wr, r ∈ l ∧ x = ownR r d wr := by
  unfold ownL at h
  obtain ⟨⟨r, wr⟩, hp, rfl⟩ := List.mem_map.1 h
  exact ⟨r, wr, (List.of_mem_zip (List.mem_of_mem_take hp)).1, rfl⟩
theorem ownL_ok {l : List Rd} (hok : ∀ x ∈ l, OkRd x) (d : Int) (ws : List Int) (k : Nat) : ∀ x ∈ ownL l d ws k, OkRd x := fun x hx => by
  obtain ⟨r, wr, hr, rfl⟩ := ownL_mem hx
  exact ownR_ok (hok r hr) d wr
theorem ownL_cand {l : List Rd} (hok : ∀ x ∈ l, OkRd x) (d : Int) (ws : List Int) (k : Nat) (h0 : -90 ≤ d) (h1 : d ≤ 90) : d ∈ candA (ownL l d ws k) := by
  refine candA_mem.2 ⟨⟨h0, h1⟩, ?_⟩
  unfold agA
  rw [List.all_eq_true]
  intro x hx
  obtain ⟨r, wr, hr, rfl⟩ := ownL_mem hx
  exact ownR_agr (hok r hr) d wr
theorem candQ_mem {l : List Rd} {d : Int} (h1 : l.length ≤ 8) (h2 : ∀ x ∈ l, OkRd x) (h : d ∈ candA l) : candQ l = (candA l, 0) :=
  (dir_some (rdsE_of h1 h2) (List.ne_nil_of_mem h)).1
theorem candA_tail {l : List Rd} {x : Int} (h : x ∈ candA l) : x ∈ candA (l.drop 1) := by
  have h1 := candA_mem.1 h
  refine candA_mem.2 ⟨h1.1, ?_⟩
  have h2 := h1.2
  unfold agA at *
  rw [List.all_eq_true] at *
  exact fun y hy => h2 y (List.mem_of_mem_drop hy)
/-- every part of a set is a set -/
theorem idxS_mod (k n : Nat) : idxS (k % 2 ^ n) n = idxS k n := by
  unfold idxS
  congr 1
  refine List.filter_congr fun i hi => ?_
  rw [Nat.testBit_mod_two_pow, decide_eq_true (List.mem_range.1 hi), Bool.true_and]
theorem idxS_sub : ∀ (n k : Nat) (c : List Int), c.Sublist (idxS k n) → ∃ k', k' < 2 ^ n ∧ idxS k' n = c
  | 0, k, c, h => ⟨0, by decide, by
      have : c = [] := by simpa [idxS] using h
      rw [this]; rfl⟩
  | n + 1, k, c, h => by
    rw [idxS_succ] at h
    have key : ∀ c1 : List Int, c1.Sublist (idxS k n) → (∃ k', k' < 2 ^ (n + 1) ∧ idxS k' (n + 1) = c1) ∧ ∃ k', k' < 2 ^ (n + 1) ∧ idxS k' (n + 1) = c1 ++ [(n : Int)] := fun c1 h1 => by
      obtain ⟨k1, q1, q2⟩ := idxS_sub n k c1 h1
      have hb : k1.testBit n = false := Nat.testBit_lt_two_pow q1
      have hp : 2 ^ (n + 1) = 2 ^ n + 2 ^ n := by rw [Nat.pow_succ]; omega
      refine ⟨⟨k1, by omega, by rw [idxS_succ, hb, if_neg (by decide), q2]⟩, 2 ^ n + k1, by omega, ?_⟩
      have e1 : (2 ^ n + k1).testBit n = true := by rw [Nat.testBit_two_pow_add_eq, hb]; rfl
      have e2 : idxS (2 ^ n + k1) n = idxS k1 n := by
        rw [← idxS_mod (2 ^ n + k1), Nat.add_mod_left, idxS_mod]
      rw [idxS_succ, e1, if_pos rfl, e2, q2]
    cases hk : k.testBit n
    · rw [hk, if_neg (by decide)] at h
      exact (key c h).1
    · rw [hk, if_pos rfl] at h
      obtain ⟨c1, c2, rfl, h1, h2⟩ := List.sublist_append_iff.1 h
      cases c2 with
      | nil => rw [List.append_nil]; exact (key c1 h1).1
      | cons x r =>
        have hl : r.length + 1 ≤ 1 := h2.length_le
        have hx : x = (n : Int) := by simpa using h2.subset List.mem_cons_self
        have hr : r = [] := List.eq_nil_of_length_eq_zero (by omega)
        subst hx
        subst hr
        exact (key c1 h1).2
/-- the reading of an index -/
def gR (l : List Rd) (i : Int) : Rd := (l[i.toNat]?).getD ⟨0, 0, 0⟩
theorem gR_at {l : List Rd} {k : Nat} (h : k < l.length) : gR l (k : Int) = l[k] := by
  unfold gR
  rw [Int.toNat_natCast, List.getElem?_eq_getElem h]
  rfl
theorem subK_idx (l : List Rd) (m : Nat) : ∀ k, k ≤ l.length → subK l m k = (idxS m k).map (gR l)
  | 0, _ => rfl
  | k + 1, h => by
    rw [subK_succ h, idxS_succ, subK_idx l m k (by omega)]
    cases m.testBit k
    · rfl
    · rw [if_pos rfl, if_pos rfl, List.map_append, List.map_singleton, gR_at h]
/-- the readings of a set, without the t-th, of the first k -/
def someK (l : List Rd) (b : List Int) (t k : Nat) : List Rd := ((b.take k).eraseIdx t).map (gR l)
theorem someK_skip {l : List Rd} {b : List Int} {k : Nat} (h : k < b.length) : someK l b k (k + 1) = someK l b k k := by
  have hl : (b.take k).length = k := by rw [List.length_take]; omega
  have e1 : (b.take k).eraseIdx k = b.take k := List.eraseIdx_of_length_le (by omega)
  have e2 : (b.take k ++ [b[k]]).eraseIdx k = b.take k := by
    rw [List.eraseIdx_append_of_length_le (by omega), hl, Nat.sub_self]; simp
  unfold someK
  rw [List.take_succ_eq_append_getElem h, e2, e1]
theorem someK_keep {l : List Rd} {b : List Int} {t k : Nat} (h : k < b.length) (hn : k ≠ t) : someK l b t (k + 1) = someK l b t k ++ [gR l b[k]] := by
  unfold someK
  rw [List.take_succ_eq_append_getElem h]
  by_cases hlt : t < k
  · rw [List.eraseIdx_append_of_lt_length (by rw [List.length_take]; omega), List.map_append, List.map_singleton]
  · rw [List.eraseIdx_of_length_le (by rw [List.length_append, List.length_take, List.length_singleton]; omega), List.eraseIdx_of_length_le (by rw [List.length_take]; omega), List.map_append, List.map_singleton]
theorem someK_len (l : List Rd) (b : List Int) (t k : Nat) : (someK l b t k).length ≤ k := by
  unfold someK
  rw [List.length_map]
  refine Nat.le_trans (List.length_eraseIdx_le _ _) ?_
  rw [List.length_take]; omega
theorem someK_ok {l : List Rd} (hok : ∀ x ∈ l, OkRd x) {b : List Int} (hb : ∀ x ∈ b, ∃ i : Nat, i < l.length ∧ x = (i : Int)) (t k : Nat) : ∀ x ∈ someK l b t k, OkRd x := fun x hx => by
  unfold someK at hx
  obtain ⟨y, hy, rfl⟩ := List.mem_map.1 hx
  obtain ⟨i, hi, rfl⟩ := hb y (List.mem_of_mem_take (List.mem_of_mem_eraseIdx hy))
  rw [gR_at hi]
  exact hok _ (List.getElem_mem hi)
theorem best_at {l : List Rd} {b : List Int} (h : bestA l = some b) : ∀ x ∈ b, ∃ i : Nat, i < l.length ∧ x = (i : Int) := fun x hx => by
  obtain ⟨k, -, -, rfl⟩ := (bestK_spec l _).1 b h
  obtain ⟨i, h1, -, h2⟩ := idxS_mem.1 hx
  exact ⟨i, h1, h2⟩
theorem some_all {l : List Rd} {b : List Int} (h : bestA l = some b) : candA (someK l b b.length b.length) = [] := by
  obtain ⟨k, -, h2, rfl⟩ := (bestK_spec l _).1 b h
  unfold someK
  rw [List.take_length, List.eraseIdx_of_length_le (Nat.le_refl _), ← subK_idx l k _ (Nat.le_refl _), subK_all, ← candS_eq]
  exact List.isEmpty_iff.1 h2
theorem some_less {l : List Rd} {b : List Int} (h : bestA l = some b) {t : Nat} (ht : t < b.length) : candA (someK l b t b.length) ≠ [] := by
  obtain ⟨k, -, -, e⟩ := (bestK_spec l _).1 b h
  have hs : (b.eraseIdx t).Sublist (idxS k l.length) := by rw [← e]; exact List.eraseIdx_sublist _ _
  obtain ⟨k', h1, h2⟩ := idxS_sub _ _ _ hs
  intro hc
  unfold someK at hc
  rw [List.take_length, ← h2, ← subK_idx l k' _ (Nat.le_refl _), subK_all, ← candS_eq] at hc
  obtain ⟨b', q1, q2⟩ := (bestK_spec l (2 ^ l.length)).2 k' h1 (by rw [hc]; rfl)
  obtain rfl : b = b' := Option.some.inj (h.symm.trans q1)
  rw [h2, List.length_eraseIdx_of_lt ht] at q2
  omega
theorem some_allQ {l : List Rd} {b : List Int} (hok : ∀ x ∈ l, OkRd x) (hl : l.length ≤ 8) (h : bestA l = some b) : candQ (someK l b b.length b.length) = ([], 12) := by
  have hb := bestK_len l _ b h
  obtain ⟨_, -, h1, -⟩ := dir_none (rdsE_of (Nat.le_trans (someK_len _ _ _ _) (by omega)) (someK_ok hok (best_at h) _ _)) (some_all h)
  exact h1
theorem some_lessQ {l : List Rd} {b : List Int} (hok : ∀ x ∈ l, OkRd x) (hl : l.length ≤ 8) (h : bestA l = some b) {t : Nat} (ht : t < b.length) : candQ (someK l b t b.length) = (candA (someK l b t b.length), 0) := by
  have hb := bestK_len l _ b h
  exact (dir_some (rdsE_of (Nat.le_trans (someK_len _ _ _ _) (by omega)) (someK_ok hok (best_at h) _ _)) (some_less h ht)).1
theorem conQ_none {l : List Rd} (h : rdsE l = 0) (hb : bestA l = none) : conQ l = ([], 12) := by
  unfold conQ; rw [if_neg (by simpa using h), hb]
theorem conQ_some {l : List Rd} {b : List Int} (h : rdsE l = 0) (hb : bestA l = some b) : conQ l = (b, 0) := by
  unfold conQ; rw [if_neg (by simpa using h), hb]
theorem best_nil {l : List Rd} (h : l.length = 0) : bestA l = none := by
  unfold bestA; rw [h]; exact bestK_one l
theorem rows_drop {α : Type} {m : Nat} {f : α → Nat → Value} {w : World} {b off : Nat} {l : List α} (h : RowsAt m f w (some ⟨b, off, none⟩) l) (n : Nat) : RowsAt m f w (some ⟨b, off + n * m, none⟩) (l.drop n) := fun k x hk => by
  rw [List.getElem?_drop] at hk
  obtain ⟨b', o', e, hb, hc⟩ := h (n + k) x hk
  cases e
  refine ⟨b, off + n * m, rfl, hb, fun j hj => ?_⟩
  have := hc j hj
  rw [show off + n * m + k * m + j = off + (n + k) * m + j by rw [Nat.add_mul]; omega]
  exact this
theorem drop_slice {w : World} {g c : Nat} {l : List Rd} (hl : 0 < l.length) (hc : l.length ≤ c) (h : RdsAt w (some ⟨g, 0, none⟩) l) :
    ∃ B', (∀ W, (Instr.sliceAt 29 (.slice (some ⟨g, 0, none⟩) l.length c) (some (.int .i64 1)) none none).run Tryd.prog W = .ok (.slice B' (l.length - 1) (c - 1)) W) ∧ RdsAt w B' (l.drop 1) := by
  by_cases h1 : 1 < c
  · refine ⟨some ⟨g, 3, none⟩, fun W => ?_, ?_⟩
    · go_simp
      rw [if_pos (by omega), if_neg (by omega)]
    · have := rows_drop h 1
      rw [show 0 + 1 * 3 = 3 from rfl] at this
      exact this
  · obtain rfl : c = 1 := by omega
    have hl1 : l.length = 1 := by omega
    refine ⟨some ⟨g, 0, none⟩, fun W => ?_, ?_⟩
    · rw [hl1]
      go_simp
    · rw [List.drop_eq_nil_of_le (by omega)]
      exact RowsAt.nil
end Go.Proofs.YtppghnbabnhnbaaDoor
