/-
  Chapter 2: frames and their turns: in memory, their errors; plain laws of the coherent sum.
-/
import Derived.Test.YtlnbbioponmcfaaDoorESuL
namespace Go.Proofs.YtlnbbioponmcfaaDoor
open Go.ChangeShapes Go.WideShapes Go.ChangeAt Go.RowKit
set_option linter.unusedVariables false
set_option linter.unusedSimpArgs false

/-- a frame in memory -/
structure Frw where
  a : Option Addr
  l : List Gs
  c : Nat
def frC (x : Frw) (_ : Nat) : Value := .slice x.a x.l.length x.c
def FrsAt (w : World) (A : Option Addr) (fs : List Frw) : Prop := RowsAt 1 frC w A fs ∧ ∀ x ∈ fs, GsAt w x.a x.l
theorem FrsAt.below {w w' : World} {A : Option Addr} {fs : List Frw} (h : FrsAt w A fs) (hb : Below w.heap.size w w') : FrsAt w' A fs :=
  ⟨RowsAt.below h.1 hb, fun x hx => RowsAt.below (h.2 x hx) hb⟩
theorem FrsAt.at_ {w : World} {A : Option Addr} {fs : List Frw} (h : FrsAt w A fs) {k : Nat} (hk : k < fs.length) :
    ∃ b off, A = some ⟨b, off, none⟩ ∧ b < w.heap.size ∧ w.cell? ⟨b, off + k, none⟩ = some (.slice fs[k].a fs[k].l.length fs[k].c) ∧ GsAt w fs[k].a fs[k].l := by
  obtain ⟨b, off, e, hb, hc⟩ := h.1 k fs[k] (List.getElem?_eq_getElem hk)
  exact ⟨b, off, e, hb, by have := hc 0 (by omega); simpa [frC] using this, h.2 _ (List.getElem_mem hk)⟩
theorem frC_one (x : Frw) (i : Nat) : (frC x i).oneCell' = true := rfl
theorem infoFr : (Tryd.prog.info? 28).map (fun i => (i.zero, i.size, i.bytes)) = some (some (.slice none 0 0), 1, 24) := by kernel_rfl
theorem infoFr_ : ∃ i : TypeInfo, Tryd.prog.info? 28 = some i ∧ i.zero = some (.slice none 0 0) ∧ i.size = 1 ∧ i.bytes = 24 := by
  have h := infoFr
  cases hi : Tryd.prog.info? 28 with
  | none => rw [hi] at h; cases h
  | some i =>
    rw [hi] at h
    simp only [Option.map_some, Option.some.injEq, Prod.mk.injEq] at h
    exact ⟨i, rfl, h.1, h.2.1, h.2.2⟩
theorem infoNum : (Tryd.prog.info? 81).map (fun i => (i.zero, i.size, i.bytes)) = some (some (.agg #[.int .i64 0, .int .i64 0]), 2, 16) := by kernel_rfl
/-- the error of a frame and its turn -/
def frE (n0 : Nat) (x : List Gs) (t : Int) : Int := firstE [unl (decide (x.length = n0)) 10, smpsE x, unl (withinB t 0 3) 2]
def frG (n0 : Nat) (l : List Frm) : Int := firstE (l.map fun p => frE n0 p.1 p.2)
theorem frG_cons (n0 : Nat) (x : Frm) (r : List Frm) : frG n0 (x :: r) = if frE n0 x.1 x.2 = 0 then frG n0 r else frE n0 x.1 x.2 := rfl
theorem frE_zero {n0 : Nat} {x : List Gs} {t : Int} (h : frE n0 x t = 0) : x.length = n0 ∧ smpsE x = 0 ∧ 0 ≤ t ∧ t ≤ 3 := by
  unfold frE at h
  by_cases h1 : x.length = n0
  rotate_left 1
  · rw [decide_eq_false h1, unl_false, firstE_nz (by decide)] at h; cases h
  rw [decide_eq_true h1, unl_true, firstE_z] at h
  by_cases h2 : smpsE x = 0
  rotate_left 1
  · rw [firstE_nz h2] at h; exact absurd h h2
  rw [h2, firstE_z, firstE1] at h
  cases h3 : withinB t 0 3
  · rw [h3] at h; cases h
  · exact ⟨h1, h2, withinB_true.1 h3⟩
theorem frE_of {n0 : Nat} {x : List Gs} {t : Int} (h1 : x.length = n0) (h2 : smpsE x = 0) (h3 : 0 ≤ t ∧ t ≤ 3) : frE n0 x t = 0 := by
  unfold frE
  rw [decide_eq_true h1, unl_true, firstE_z, h2, firstE_z, firstE1, withinB_true.2 h3]; rfl
/-- the frames with their turns -/
def fz (fs : List Frw) (ts : List Int) : List Frm := (fs.map (·.l)).zip ts
def n0 (fs : List Frw) : Nat := match fs with
  | [] => 0
  | x :: _ => x.l.length
theorem n0_at {fs : List Frw} (h : 0 < fs.length) : fs[0].l.length = n0 fs := by
  cases fs with
  | nil => simp at h
  | cons x r => rfl
def frsE (fs : List Frw) (ts : List Int) : Int := firstE [unl (decide (0 < fs.length) && decide (ts.length = fs.length)) 10, unl (decide (fs.length ≤ 8)) 8, frG (n0 fs) (fz fs ts)]
theorem fz_len {fs : List Frw} {ts : List Int} (h : ts.length = fs.length) : (fz fs ts).length = fs.length := by
  unfold fz; rw [List.length_zip, List.length_map]; omega
theorem fz_at {fs : List Frw} {ts : List Int} {k : Nat} (hl : k < (fz fs ts).length) (h1 : k < fs.length) (h2 : k < ts.length) : (fz fs ts)[k] = (fs[k].l, ts[k]) := by
  have hl' : k < ((fs.map (·.l)).zip ts).length := hl
  have e : ((fs.map (·.l)).zip ts)[k] = (fs[k].l, ts[k]) := by simp
  exact e
theorem fz_drop {fs : List Frw} {ts : List Int} {k : Nat} (h1 : k < fs.length) (h2 : k < ts.length) : (fz fs ts).drop k = (fs[k].l, ts[k]) :: (fz fs ts).drop (k + 1) := by
  have hl : k < (fz fs ts).length := by unfold fz; rw [List.length_zip, List.length_map]; omega
  rw [List.drop_eq_getElem_cons hl]
  rw [fz_at hl h1 h2]
theorem fz_take {fs : List Frw} {ts : List Int} {k : Nat} (h1 : k < fs.length) (h2 : k < ts.length) : (fz fs ts).take (k + 1) = (fz fs ts).take k ++ [(fs[k].l, ts[k])] := by
  have hl : k < (fz fs ts).length := by unfold fz; rw [List.length_zip, List.length_map]; omega
  rw [List.take_succ_eq_append_getElem hl]
  rw [fz_at hl h1 h2]
structure OkFs (fs : List Frw) (ts : List Int) : Prop where
  p : 0 < fs.length
  e : ts.length = fs.length
  m : fs.length ≤ 8
theorem frsE_1 {fs : List Frw} {ts : List Int} (h : (decide (0 < fs.length) && decide (ts.length = fs.length)) = false) : frsE fs ts = 10 := by
  unfold frsE; rw [h, unl_false, firstE_nz (by decide)]
theorem frsE_2 {fs : List Frw} {ts : List Int} (h : (decide (0 < fs.length) && decide (ts.length = fs.length)) = true) (h2 : ¬ fs.length ≤ 8) : frsE fs ts = 8 := by
  unfold frsE; rw [h, unl_true, firstE_z, decide_eq_false h2, unl_false, firstE_nz (by decide)]
theorem frsE_3 {fs : List Frw} {ts : List Int} (h : OkFs fs ts) : frsE fs ts = frG (n0 fs) (fz fs ts) := by
  unfold frsE; rw [decide_eq_true h.p, decide_eq_true h.e, Bool.and_self, unl_true, firstE_z, decide_eq_true h.m, unl_true, firstE_z, firstE1]
theorem frsE_ok {fs : List Frw} {ts : List Int} (h : frsE fs ts = 0) : OkFs fs ts := by
  cases h1 : (decide (0 < fs.length) && decide (ts.length = fs.length))
  · rw [frsE_1 h1] at h; cases h
  · by_cases h2 : fs.length ≤ 8
    · rw [Bool.and_eq_true, decide_eq_true_eq, decide_eq_true_eq] at h1
      exact ⟨h1.1, h1.2, h2⟩
    · rw [frsE_2 h1 h2] at h; cases h
theorem frG_all {n0 : Nat} {l : List Frm} (h : frG n0 l = 0) : ∀ p ∈ l, frE n0 p.1 p.2 = 0 := by
  induction l with
  | nil => intro p hp; cases hp
  | cons x r ih =>
    rw [frG_cons] at h
    by_cases hx : frE n0 x.1 x.2 = 0
    · rw [if_pos hx] at h
      intro p hp
      rcases List.mem_cons.1 hp with rfl | hp
      · exact hx
      · exact ih h p hp
    · rw [if_neg hx] at h; exact absurd h hx
theorem frG_of {n0 : Nat} {l : List Frm} (h : ∀ p ∈ l, frE n0 p.1 p.2 = 0) : frG n0 l = 0 := by
  induction l with
  | nil => rfl
  | cons x r ih => rw [frG_cons, if_pos (h x List.mem_cons_self)]; exact ih fun p hp => h p (List.mem_cons_of_mem _ hp)
/-- all frames so far are right -/
def OkZ (n0 : Nat) (l : List Frm) : Prop := ∀ p ∈ l, frE n0 p.1 p.2 = 0
theorem OkZ.snoc {n0 : Nat} {l : List Frm} {p : Frm} (h : OkZ n0 l) (hp : frE n0 p.1 p.2 = 0) : OkZ n0 (l ++ [p]) := fun q hq => by
  rcases List.mem_append.1 hq with hq | hq
  · exact h q hq
  · rw [List.mem_singleton.1 hq]; exact hp
theorem OkZ.sz {n : Nat} {l : List Frm} (h : OkZ n l) (k : Nat) : Sz (l.length * 10000) (cohG l k) :=
  cohG_sz (by decide) l (fun f hf x hx => (smpsE_zero (frE_zero (h f hf)).2.1).2 x hx) k
/-- the coherent sum, or the error -/
def cohQ (fs : List Frw) (ts : List Int) : List Gs × Int := if frsE fs ts = 0 then (cohL (fz fs ts) (n0 fs), 0) else ([], frsE fs ts)
theorem cohQ_ok {fs : List Frw} {ts : List Int} (h : frsE fs ts = 0) : cohQ fs ts = (cohL (fz fs ts) (n0 fs), 0) := if_pos h
theorem cohQ_bad {fs : List Frw} {ts : List Int} (h : frsE fs ts ≠ 0) : cohQ fs ts = ([], frsE fs ts) := if_neg h
/-- a row of n numbers in memory, written one by one -/
structure GnAt (O n : Nat) (v : Nat → Gs) (w : World) : Prop where
  c : ∀ j, j < n → w.cell? ⟨O, j * 2, none⟩ = some (.int .i64 (v j).re) ∧ w.cell? ⟨O, j * 2 + 1, none⟩ = some (.int .i64 (v j).im)
  f : ∀ j, w.frozen? ⟨O, j, none⟩ = false
  z : O < w.heap.size
theorem GnAt.below {O n : Nat} {v : Nat → Gs} {w w' : World} (h : GnAt O n v w) (hb : Below w.heap.size w w') : GnAt O n v w' :=
  ⟨fun j hj => ⟨cell_below' hb (h.c j hj).1, cell_below' hb (h.c j hj).2⟩, fun j => frozen_below hb h.z (h.f j), Nat.lt_of_lt_of_le h.z hb.size⟩
theorem GnAt.set {O n k : Nat} {v q : Nat → Gs} {w : World} {a b : Int} (h : GnAt O n v w) (hk : k < n) (h1 : (q k).re = a) (h1' : (q k).im = b) (h2 : ∀ j, j ≠ k → q j = v j) : GnAt O n q ((w.setCell ⟨O, k * 2, none⟩ (.int .i64 a)).setCell ⟨O, k * 2 + 1, none⟩ (.int .i64 b)) := by
  refine ⟨fun j hj => ?_, fun j => frozen_set _ _ (frozen_set _ _ (h.f j)), by simpa using h.z⟩
  by_cases e : j = k
  · subst e
    rw [h1, h1']
    exact ⟨cell_next (by omega) (cell_same (h.c j hj).1), cell_same (cell_next (by omega) (h.c j hj).2)⟩
  · rw [h2 j e]
    exact ⟨cell_next (by omega) (cell_next (by omega) (h.c j hj).1), cell_next (by omega) (cell_next (by omega) (h.c j hj).2)⟩
theorem made_two {z : Value} {n i : Nat} (h : i < n) : (madeCells #[z, z] n)[i]? = some z := by
  have h2 : i % 2 = 0 ∨ i % 2 = 1 := by omega
  unfold madeCells
  rw [Array.getElem?_map, Array.getElem?_range, if_pos h]
  rcases h2 with e | e <;> simp [e]
theorem GnAt.made {n : Nat} {w : World} {T : TypeId} : GnAt w.heap.size n (fun _ => gz) (w.alloc (.cells (madeCells #[.int .i64 0, .int .i64 0] (n * 2)) T)) :=
  ⟨fun j hj => ⟨cell_new rfl (made_two (by omega)), cell_new rfl (made_two (by omega))⟩, fun j => frozen_new rfl, by simp⟩
theorem GnAt.congr {O n : Nat} {v q : Nat → Gs} {w : World} (h : GnAt O n v w) (e : ∀ j, j < n → v j = q j) : GnAt O n q w :=
  ⟨fun j hj => by rw [← e j hj]; exact h.c j hj, h.f, h.z⟩
theorem GnAt.rows {O n : Nat} {v : Nat → Gs} {w : World} (h : GnAt O n v w) : GsAt w (some ⟨O, 0, none⟩) ((List.range n).map v) := fun k x hk => by
  obtain ⟨h1, h2⟩ := List.getElem?_eq_some_iff.1 hk
  rw [List.length_map, List.length_range] at h1
  rw [List.getElem_map, List.getElem_range] at h2
  subst h2
  refine ⟨O, 0, rfl, h.z, fun j hj => ?_⟩
  have hj2 : j = 0 ∨ j = 1 := by omega
  rcases hj2 with rfl | rfl
  · have := (h.c k h1).1; simpa [gC] using this
  · have := (h.c k h1).2; simpa [gC] using this
theorem newsG {w : World} {vb : Nat} {x : Gs} (hv : w.heap[vb]? = some (.cells #[.int .i64 x.re, .int .i64 x.im] 30)) : ∀ j u, [Value.int .i64 x.re, .int .i64 x.im][j]? = some u → w.cell? ((⟨vb, 0, none⟩ : Addr).add j) = some u := fun j u hu => by
  rw [Addr.add_lit, Nat.zero_add]
  exact blk_cell hv (by simpa using hu)
/-- the sums of the first j frames, of the first k numbers those of one more -/
def sumV (l : List Frm) (f : Frm) (k i : Nat) : Gs := if i < k then cohG (l ++ [f]) i else cohG l i
theorem sumV_zero (l : List Frm) (f : Frm) : sumV l f 0 = cohG l := funext fun i => if_neg (by omega)
theorem sumV_at (l : List Frm) (f : Frm) (k : Nat) : sumV l f k k = cohG l k := if_neg (by omega)
theorem sumV_new (l : List Frm) (f : Frm) (k : Nat) : sumV l f (k + 1) k = gadd (cohG l k) (rot f.2 (gd f.1 k)) := by
  unfold sumV; rw [if_pos (by omega), cohG_snoc]
theorem sumV_old (l : List Frm) (f : Frm) (k i : Nat) (h : i ≠ k) : sumV l f (k + 1) i = sumV l f k i := by
  unfold sumV
  by_cases hi : i < k
  · rw [if_pos hi, if_pos (by omega)]
  · rw [if_neg hi, if_neg (by omega)]
theorem cohL_succ (l : List Frm) (k : Nat) : cohL l (k + 1) = cohL l k ++ [cohG l k] := by
  unfold cohL; rw [List.range_succ, List.map_append, List.map_singleton]
theorem cohG_nil (k : Nat) : cohG [] k = gz := rfl
end Go.Proofs.YtlnbbioponmcfaaDoor
