/-
  Plain laws for the walk of ProfileContained: rows of points that are changed one by one, a row cut short, wider pixels.
-/
import Derived.Test.YtoegpaolbkcleaaSmP
namespace Go.Proofs.Ytoegpaolbkcleaa
open Go.ChangeShapes Go.WideShapes Go.ChangeAt Go.RowKit
set_option linter.unusedVariables false
set_option linter.unusedSimpArgs false

/-- the first k of one list, the others of another -/
def mix {α : Type} (P T : List α) (k : Nat) : List α := P.take k ++ T.drop k
theorem mix_len {α : Type} {P T : List α} (h : P.length = T.length) (k : Nat) : (mix P T k).length = T.length := by
  unfold mix; simp; omega
theorem mix_at {α : Type} {P T : List α} (h : P.length = T.length) {k : Nat} (hk : k < T.length) (hm : k < (mix P T k).length) : (mix P T k)[k] = T[k] := by
  have e : (mix P T k)[k]? = T[k]? := by
    unfold mix
    rw [List.getElem?_append_right (by simp; omega), List.length_take, List.getElem?_drop]
    congr 1
    omega
  rw [List.getElem?_eq_getElem hm, List.getElem?_eq_getElem hk] at e
  exact Option.some.inj e
theorem mix_zero {α : Type} (P T : List α) : mix P T 0 = T := rfl
theorem mix_end {α : Type} {P T : List α} (h : P.length = T.length) : mix P T T.length = P := by
  unfold mix
  rw [← h, List.take_length, h, List.drop_length, List.append_nil]
theorem mix_set {α : Type} {P T : List α} (h : P.length = T.length) {k : Nat} (hk : k < T.length) (hP : k < P.length) : (mix P T k).set k P[k] = mix P T (k + 1) := by
  have hl : (P.take k).length = k := by simp; omega
  unfold mix
  rw [List.set_append_right _ _ (by omega), hl, Nat.sub_self, List.drop_eq_getElem_cons hk, List.set_cons_zero, take_snoc P k hP, List.append_assoc]
  rfl
theorem cellsOf_cons3 (x : Pt) (r : List Pt) : cellsOf 3 ptC (x :: r) = ptC x 0 :: ptC x 1 :: ptC x 2 :: cellsOf 3 ptC r := by
  rw [show x :: r = [x] ++ r from rfl, cellsOf_append]; rfl
theorem ptsOf_set1 : ∀ (l : List Pt) (s : Nat) (hs : s < l.length) (u : Int), (cellsOf 3 ptC l).set (s * 3 + 1) (.int .i64 u) = cellsOf 3 ptC (l.set s ⟨l[s].f, u, l[s].hi⟩)
  | [], s, hs, _ => by simp at hs
  | x :: r, 0, hs, u => by
    rw [List.set_cons_zero, cellsOf_cons3, cellsOf_cons3]
    rfl
  | x :: r, s + 1, hs, u => by
    have ih := ptsOf_set1 r s (by simpa using hs) u
    rw [show (s + 1) * 3 + 1 = (s * 3 + 1) + 1 + 1 + 1 by omega, cellsOf_cons3, List.set_cons_succ, List.set_cons_succ, List.set_cons_succ, ih, List.set_cons_succ, cellsOf_cons3]
    rfl
theorem ptsOf_set2 : ∀ (l : List Pt) (s : Nat) (hs : s < l.length) (u : Int), (cellsOf 3 ptC l).set (s * 3 + 2) (.int .i64 u) = cellsOf 3 ptC (l.set s ⟨l[s].f, l[s].lo, u⟩)
  | [], s, hs, _ => by simp at hs
  | x :: r, 0, hs, u => by
    rw [List.set_cons_zero, cellsOf_cons3, cellsOf_cons3]
    rfl
  | x :: r, s + 1, hs, u => by
    have ih := ptsOf_set2 r s (by simpa using hs) u
    rw [show (s + 1) * 3 + 2 = (s * 3 + 2) + 1 + 1 + 1 by omega, cellsOf_cons3, List.set_cons_succ, List.set_cons_succ, List.set_cons_succ, ih, List.set_cons_succ, cellsOf_cons3]
    rfl
theorem ownP_at {w : World} {B : Nat} {T : TypeId} {g c n : Nat} {l : List Pt} (h : w.ownsRow B T 3 (.slice (some ⟨g, 0, none⟩) n c) n (cellsOf 3 ptC l)) {s : Nat} (hn : s < n) (hs : s < l.length) :
    w.cell? ⟨g, s * 3, none⟩ = some (.int .i64 l[s].f) ∧ w.cell? ⟨g, s * 3 + 1, none⟩ = some (.int .i64 l[s].lo) ∧ w.cell? ⟨g, s * 3 + 2, none⟩ = some (.int .i64 l[s].hi) ∧ w.frozen? ⟨g, s * 3 + 1, none⟩ = false ∧ w.frozen? ⟨g, s * 3 + 2, none⟩ = false := by
  have hk : l[s]? = some l[s] := List.getElem?_eq_getElem hs
  exact ⟨(h.cellAt _ (by omega)).trans (by have := cellsOf_get (f := ptC) (m := 3) (j := 0) hk (by omega); rw [Nat.add_zero] at this; exact this), (h.cellAt _ (by omega)).trans (cellsOf_get (f := ptC) hk (by omega)), (h.cellAt _ (by omega)).trans (cellsOf_get (f := ptC) hk (by omega)), h.frozenAt _, h.frozenAt _⟩
/-- both ends of a pixel are stored -/
theorem ownP_set {w : World} {B : Nat} {T : TypeId} {g c n : Nat} {l : List Pt} (h : w.ownsRow B T 3 (.slice (some ⟨g, 0, none⟩) n c) n (cellsOf 3 ptC l)) {s : Nat} (hs : s < l.length) (u v : Int) :
    ((w.setCell ⟨g, s * 3 + 1, none⟩ (.int .i64 u)).setCell ⟨g, s * 3 + 2, none⟩ (.int .i64 v)).ownsRow B T 3 (.slice (some ⟨g, 0, none⟩) n c) n (cellsOf 3 ptC (l.set s ⟨l[s].f, u, v⟩)) := by
  have h1 := (h.stored (s * 3 + 1) (.int .i64 u)).1
  rw [ptsOf_set1 l s hs u] at h1
  have h2 := (h1.stored (s * 3 + 2) (.int .i64 v)).1
  rw [ptsOf_set2 _ s (by simpa using hs) v, List.set_set] at h2
  simpa using h2
theorem ownP_set1 {w : World} {B : Nat} {T : TypeId} {g c n : Nat} {l : List Pt} (h : w.ownsRow B T 3 (.slice (some ⟨g, 0, none⟩) n c) n (cellsOf 3 ptC l)) {s : Nat} (hs : s < l.length) (u : Int) :
    (w.setCell ⟨g, s * 3 + 1, none⟩ (.int .i64 u)).ownsRow B T 3 (.slice (some ⟨g, 0, none⟩) n c) n (cellsOf 3 ptC (l.set s ⟨l[s].f, u, l[s].hi⟩)) := by
  have h1 := (h.stored (s * 3 + 1) (.int .i64 u)).1
  rwa [ptsOf_set1 l s hs u] at h1
theorem ownP_set2 {w : World} {B : Nat} {T : TypeId} {g c n : Nat} {l : List Pt} (h : w.ownsRow B T 3 (.slice (some ⟨g, 0, none⟩) n c) n (cellsOf 3 ptC l)) {s : Nat} (hs : s < l.length) (v : Int) :
    (w.setCell ⟨g, s * 3 + 2, none⟩ (.int .i64 v)).ownsRow B T 3 (.slice (some ⟨g, 0, none⟩) n c) n (cellsOf 3 ptC (l.set s ⟨l[s].f, l[s].lo, v⟩)) := by
  have h1 := (h.stored (s * 3 + 2) (.int .i64 v)).1
  rwa [ptsOf_set2 l s hs v] at h1
theorem cellsOf_take {α : Type} {m : Nat} {f : α → Nat → Value} : ∀ (l : List α) (k : Nat), (cellsOf m f l).take (k * m) = cellsOf m f (l.take k)
  | [], k => by simp [cellsOf]
  | x :: r, 0 => by simp [cellsOf]
  | x :: r, k + 1 => by
    have e : (k + 1) * m = ((List.range m).map (f x)).length + k * m := by simp [Nat.add_mul]; omega
    simp only [cellsOf, List.take_succ_cons]
    rw [e, List.take_length_add_append, cellsOf_take r k]
/-- a row cut short -/
theorem own_cut {α : Type} {w : World} {B : Nat} {T : TypeId} {m : Nat} {f : α → Nat → Value} {g c n : Nat} {l : List α} (h : w.ownsRow B T m (.slice (some ⟨g, 0, none⟩) n c) n (cellsOf m f l)) {k : Nat} (hk : k ≤ n) (hl : l.length = n) :
    w.ownsRow B T m (.slice (some ⟨g, 0, none⟩) k c) k (cellsOf m f (l.take k)) := by
  refine ⟨by rw [cellsOf_length, List.length_take, Nat.min_eq_left (by omega)], ?_⟩
  rcases h.2 with ⟨h', _⟩ | ⟨g', cap', cur, h', hb, hg, hnc, hcm, hcs, htake⟩
  · simp at h'
  · simp only [Value.slice.injEq, Option.some.injEq, Addr.mk.injEq, and_true, true_and] at h'
    obtain ⟨rfl, rfl⟩ := h'
    refine .inr ⟨g, c, cur, rfl, hb, hg, by omega, hcm, hcs, ?_⟩
    rw [← cellsOf_take, ← htake, List.take_take, Nat.min_eq_left (Nat.mul_le_mul_right _ hk)]

/-- the points of a sample, their pixels wide enough -/
def smL (base : Int) (lp : List Slb) (fs wds : List Int) : List Pt := List.zipWith (smPt base lp) fs wds
theorem smL_len (base : Int) (lp : List Slb) {fs wds : List Int} (h : wds.length = fs.length) : (smL base lp fs wds).length = fs.length := by
  unfold smL; rw [List.length_zipWith, h, Nat.min_self]
theorem smL_at (base : Int) (lp : List Slb) {fs wds : List Int} {i : Nat} (h : i < (smL base lp fs wds).length) (hf : i < fs.length) (hw : i < wds.length) : (smL base lp fs wds)[i] = smPt base lp fs[i] wds[i] := by
  unfold smL; exact List.getElem_zipWith
/-- a point with a wider pixel -/
def wdPt (p : Pt) : Pt := ⟨p.f, maxZ (p.lo - 3), minI 20000 (p.hi + 3)⟩
theorem wdPt_ok {last : Int} {p : Pt} (h : ptE last p = 0) : ptE last (wdPt p) = 0 := by
  obtain ⟨h1, h2⟩ := ptE_ok h
  unfold ptE
  rw [firstE3, unl_zero (by decide), unl_zero (by decide), unl_zero (by decide), withinB_true, Bool.and_eq_true, Bool.and_eq_true, withinB_true, withinB_true, decide_eq_true_eq, decide_eq_true_eq]
  unfold wdPt maxZ minI
  simp only
  refine ⟨⟨h1.1, h1.2.1⟩, ?_, ?_⟩
  · split <;> split <;> omega
  · split <;> split <;> omega
theorem badPt_wd : ∀ (l : List Pt) (last i : Int), (badPt l last i).2 = 0 → (badPt (l.map wdPt) last i).2 = 0
  | [], last, i, h => h
  | p :: r, last, i, h => by
    unfold badPt at h
    rw [List.map_cons]
    unfold badPt
    by_cases h0 : ptE last p = 0
    · rw [if_pos h0] at h
      rw [if_pos (wdPt_ok h0)]
      exact badPt_wd r _ _ h
    · rw [if_neg h0] at h; exact absurd h h0
theorem chk_wd {l : List Pt} {after width width' : Int} (h : chkTE l after width = 0) (h0 : 0 ≤ width') (h1 : width' ≤ 500) : chkTE (l.map wdPt) after width' = 0 := by
  unfold chkTE chkT at h ⊢
  by_cases hh : chkTHead l.length after width = 0
  · rw [if_neg (by simp [hh])] at h
    have : chkTHead (l.map wdPt).length after width' = 0 := by
      unfold chkTHead at hh ⊢
      rw [List.length_map]
      rw [firstE4, unl_zero (by decide), unl_zero (by decide), unl_zero (by decide), unl_zero (by decide), withinB_true] at hh ⊢
      exact ⟨hh.1, hh.2.1, ⟨h0, h1⟩, hh.2.2.2⟩
    rw [if_neg (by rw [this]; decide)]
    exact badPt_wd l 0 0 h
  · rw [if_pos hh] at h; exact absurd h hh
theorem wide_of {l : List Pt} {after width : Int} (h : chkTE l after width = 0) (hw : width ≤ 500) : Wide l (l.map wdPt) after width (minI 500 (width + 5)) ∧ chkTE (l.map wdPt) after (minI 500 (width + 5)) = 0 := by
  have hO := okT_of_chk h
  have h1 : ∀ i (hi : i < l.length), 0 ≤ l[i].lo ∧ l[i].lo ≤ l[i].hi ∧ l[i].hi ≤ 20000 := fun i hi => by
    have := hO.pt l[i] (List.getElem_mem hi)
    omega
  have hm : width ≤ minI 500 (width + 5) := by unfold minI; split <;> omega
  refine ⟨⟨hO, ?_, fun i hi hk => ?_, hm⟩, ?_⟩
  · rw [List.map_map]; rfl
  · have := h1 i hi
    rw [List.getElem_map]
    unfold wdPt maxZ minI
    simp only
    constructor
    · split <;> omega
    · split <;> omega
  · have := hO.w0
    exact chk_wd h (by omega) (by unfold minI; split <;> omega)
end Go.Proofs.Ytoegpaolbkcleaa
