/-
  Chapter 2: the echoes of a frame.
-/
import Derived.Test.YtlnbbioponmcfaaDoorETag
import Derived.Deep.OwnRows
namespace Go.Proofs.YtlnbbioponmcfaaDoor
open Go.ChangeShapes Go.WideShapes Go.ChangeAt Go.RowKit
set_option linter.unusedVariables false
set_option linter.unusedSimpArgs false

/-- an echo: its lag, its power, its tag, its heights -/
structure It where
  l : Int
  p : Int
  t : Int
  lo : Int
  hi : Int
def itC (x : It) (j : Nat) : Value := match j with
  | 0 => .int .i64 x.l
  | 1 => .int .i64 x.p
  | 2 => .int .i64 x.t
  | 3 => .int .i64 x.lo
  | _ => .int .i64 x.hi
abbrev ItsAt := RowsAt 5 itC
theorem ItsAt.at_ {w : World} {A : Option Addr} {l : List It} (h : ItsAt w A l) {k : Nat} (hk : k < l.length) :
    ∃ b off, A = some ⟨b, off, none⟩ ∧ b < w.heap.size ∧ w.cell? ⟨b, off + k * 5, none⟩ = some (.int .i64 l[k].l) ∧ w.cell? ⟨b, off + k * 5 + 1, none⟩ = some (.int .i64 l[k].p) ∧ w.cell? ⟨b, off + k * 5 + 2, none⟩ = some (.int .i64 l[k].t) ∧ w.cell? ⟨b, off + k * 5 + 3, none⟩ = some (.int .i64 l[k].lo) ∧ w.cell? ⟨b, off + k * 5 + 4, none⟩ = some (.int .i64 l[k].hi) := by
  obtain ⟨b, off, e, hb, hc⟩ := h k l[k] (List.getElem?_eq_getElem hk)
  exact ⟨b, off, e, hb, by simpa [itC] using hc 0 (by omega), by simpa [itC] using hc 1 (by omega), by simpa [itC] using hc 2 (by omega), by simpa [itC] using hc 3 (by omega), by simpa [itC] using hc 4 (by omega)⟩
theorem itC_one (x : It) (i : Nat) : (itC x i).oneCell' = true := by unfold itC; split <;> rfl
theorem infoIt : (Tryd.prog.info? 105).map (fun i => (i.zero, i.size, i.bytes)) = some (some (.agg #[.int .i64 0, .int .i64 0, .int .i64 0, .int .i64 0, .int .i64 0]), 5, 40) := by kernel_rfl
theorem infoIt_ : ∃ i : TypeInfo, Tryd.prog.info? 105 = some i ∧ i.zero = some (.agg #[.int .i64 0, .int .i64 0, .int .i64 0, .int .i64 0, .int .i64 0]) ∧ i.size = 5 ∧ i.bytes = 40 := by
  have h := infoIt
  cases hi : Tryd.prog.info? 105 with
  | none => rw [hi] at h; cases h
  | some i =>
    rw [hi] at h
    simp only [Option.map_some, Option.some.injEq, Prod.mk.injEq] at h
    exact ⟨i, rfl, h.1, h.2.1, h.2.2⟩
theorem memOneIt {l : List It} : ∀ u ∈ cellsOf 5 itC l, u.oneCell' = true := cellsOf_one itC_one (by decide) l
theorem newsIt {w : World} {vb : Nat} {x : It} (hv : w.heap[vb]? = some (.cells #[.int .i64 x.l, .int .i64 x.p, .int .i64 x.t, .int .i64 x.lo, .int .i64 x.hi] 105)) : ∀ j u, [Value.int .i64 x.l, .int .i64 x.p, .int .i64 x.t, .int .i64 x.lo, .int .i64 x.hi][j]? = some u → w.cell? ((⟨vb, 0, none⟩ : Addr).add j) = some u := fun j u hu => by
  rw [Addr.add_lit, Nat.zero_add]
  exact blk_cell hv (by simpa using hu)
def gd (l : List Gs) (i : Nat) : Gs := l.getD i gz
theorem gd_eq {l : List Gs} {i : Nat} (h : i < l.length) : gd l i = l[i] := by unfold gd; simp [h]
/-- the power of a lag -/
def pwA (f s : List Gs) (i : Nat) : Int := gnorm (gd f i) + gnorm (gd s i)
/-- .. of those before the k-th, with one of 0 on either side -/
def padK (f s : List Gs) (k j : Nat) : Int := if 1 ≤ j ∧ j ≤ k then pwA f s (j - 1) else 0
theorem padK_new (f s : List Gs) (k : Nat) : padK f s (k + 1) (k + 1) = pwA f s k := by
  unfold padK
  rw [if_pos ⟨by omega, Nat.le_refl _⟩, Nat.add_sub_cancel]
theorem padK_old (f s : List Gs) (k j : Nat) (h : j ≠ k + 1) : padK f s (k + 1) j = padK f s k j := by
  unfold padK
  by_cases hj : 1 ≤ j ∧ j ≤ k
  · rw [if_pos hj, if_pos ⟨hj.1, by omega⟩]
  · rw [if_neg hj, if_neg (by omega)]
def isE (po : Int) (f s : List Gs) (k : Nat) : Bool := decide (po ≤ padK f s f.length (k + 1)) && (decide (padK f s f.length k < padK f s f.length (k + 1)) && decide (padK f s f.length (k + 2) ≤ padK f s f.length (k + 1)))
def itm (r : Ru) (f s : List Gs) (k : Nat) : It := ⟨k, padK f s f.length (k + 1), tagP r (gd f k) (gd s k), (hgtP r k).re, (hgtP r k).im⟩
def echK (r : Ru) (f s : List Gs) (k : Nat) : List It := ((List.range k).filter (isE r.po f s)).map (itm r f s)
/-- the echoes of a frame -/
def echA (r : Ru) (f s : List Gs) : List It := echK r f s f.length
theorem echK_yes {r : Ru} {f s : List Gs} {k : Nat} (h : isE r.po f s k = true) : echK r f s k ++ [itm r f s k] = echK r f s (k + 1) := by
  unfold echK
  rw [List.range_succ, List.filter_append, List.map_append]
  simp [h]
theorem echK_no {r : Ru} {f s : List Gs} {k : Nat} (h : isE r.po f s k = false) : echK r f s k = echK r f s (k + 1) := by
  unfold echK
  rw [List.range_succ, List.filter_append, List.map_append]
  simp [h]
theorem echK_len (r : Ru) (f s : List Gs) (k : Nat) : (echK r f s k).length ≤ k := by
  unfold echK
  rw [List.length_map]
  refine Nat.le_trans (List.length_filter_le _ _) ?_
  simp
def echE (r : Ru) (f s : List Gs) : Int := firstE [ruE r, unl (decide (f.length = s.length)) 10, smpsE f, smpsE s]
structure OkF (r : Ru) (f s : List Gs) : Prop where
  r : OkRu r
  e : f.length = s.length
  l : f.length ≤ 64
  f : ∀ x ∈ f, Sz 10000 x
  s : ∀ x ∈ s, Sz 10000 x
theorem echE_zero {r : Ru} {f s : List Gs} (h : echE r f s = 0) : OkF r f s := by
  unfold echE at h
  by_cases h1 : ruE r = 0
  · rw [h1, firstE_z] at h
    by_cases h2 : f.length = s.length
    · rw [decide_eq_true h2, unl_true, firstE_z] at h
      by_cases h3 : smpsE f = 0
      · rw [h3, firstE_z, firstE1] at h
        exact ⟨ruE_zero h1, h2, (smpsE_zero h3).1, (smpsE_zero h3).2, (smpsE_zero h).2⟩
      · rw [firstE_nz h3] at h; exact absurd h h3
    · rw [decide_eq_false h2, unl_false, firstE_nz (by decide)] at h; cases h
  · rw [firstE_nz h1] at h; exact absurd h h1
theorem gd_sz {l : List Gs} (h : ∀ x ∈ l, Sz 10000 x) (i : Nat) : Sz 10000 (gd l i) := by
  by_cases hi : i < l.length
  · rw [gd_eq hi]; exact h _ (List.getElem_mem hi)
  · have : gd l i = gz := by unfold gd; simp; rw [List.getElem?_eq_none (by omega)]; rfl
    rw [this]
    exact ⟨by decide, by decide, by decide, by decide⟩
theorem pad_bd {f s : List Gs} (hf : ∀ x ∈ f, Sz 10000 x) (hs : ∀ x ∈ s, Sz 10000 x) (k j : Nat) : 0 ≤ padK f s k j ∧ padK f s k j ≤ 400000000 := by
  unfold padK
  split
  · have h1 := (gd_sz hf (j - 1)).norm
    have h2 := (gd_sz hs (j - 1)).norm
    unfold pwA
    omega
  · omega
/-- the padded powers in memory -/
structure PadAt (P : Nat) (n : Nat) (p : Nat → Int) (w : World) : Prop where
  c : ∀ j, j < n → w.cell? ⟨P, j, none⟩ = some (.int .i64 (p j))
  f : ∀ j, w.frozen? ⟨P, j, none⟩ = false
  z : P < w.heap.size
theorem PadAt.below {P n : Nat} {p : Nat → Int} {w w' : World} (h : PadAt P n p w) (hb : Below w.heap.size w w') : PadAt P n p w' :=
  ⟨fun j hj => cell_below' hb (h.c j hj), fun j => frozen_below hb h.z (h.f j), Nat.lt_of_lt_of_le h.z hb.size⟩
theorem PadAt.made {n : Nat} {w : World} : PadAt w.heap.size n (fun _ => 0) (w.alloc (.cells (madeCells #[.int .i64 0] n) 3)) :=
  ⟨fun j hj => cell_new rfl (by simp [madeCells, hj, Nat.mod_one]), fun j => frozen_new rfl, by simp⟩
theorem PadAt.set {P n k : Nat} {p : Nat → Int} {w : World} {v : Int} {q : Nat → Int} (h : PadAt P n p w) (hk : k < n) (h1 : q k = v) (h2 : ∀ j, j ≠ k → q j = p j) : PadAt P n q (w.setCell ⟨P, k, none⟩ (.int .i64 v)) := by
  refine ⟨fun j hj => ?_, fun j => frozen_set _ _ (h.f j), by simpa using h.z⟩
  by_cases e : j = k
  · subst e; rw [h1]; exact cell_same (h.c j hj)
  · rw [h2 j e]; exact cell_next (fun h => e h.symm) (h.c j hj)
def ItsE (q : List It × Int) (w : World) (e : Ending) (w' : World) : Prop := ∃ A' c', e = .returned (.tuple #[.slice A' q.1.length c', .int .i64 q.2]) ∧ ItsAt w' A' q.1 ∧ Below w.heap.size w w'
def echQ (r : Ru) (f s : List Gs) : List It × Int := if echE r f s = 0 then (echA r f s, 0) else ([], echE r f s)
set_option maxRecDepth 100000 in
set_option maxHeartbeats 8000000 in
theorem EchoesOf_any (r : Ru) (A : Option Addr) (f : List Gs) (ca : Nat) (B : Option Addr) (s : List Gs) (cb : Nat) (w : World) (hf : f.length ≤ 1000) (hs : s.length ≤ 1000) (hA : GsAt w A f) (hB : GsAt w B s) :
    Calls Tryd.prog 20 #[ruv r, .agg #[.slice A f.length ca, .slice B s.length cb]] w (ItsE (echQ r f s) w) := by
  have hq : echQ r f s = if echE r f s = 0 then (echA r f s, 0) else ([], echE r f s) := rfl
  have hE : echE r f s = firstE [ruE r, unl (decide (f.length = s.length)) 10, smpsE f, smpsE s] := rfl
  have H1 := Lib.hid (fun W => CheckRules_any r W)
  have H2 := Lib.hid (fun W (h : GsAt W A f) => samplesErr_any A f ca W hf h)
  have H3 := Lib.hid (fun W (h : GsAt W B s) => samplesErr_any B s cb W hs h)
  have HOKR := Lib.hid (fun (h : echE r f s = 0) => echE_zero h)
  have HT := Lib.hid (fun (hr : OkRu r) (x y : Gs) W (k0 : Sz 10000 x) (k1 : Sz 10000 y) => tag_any r x y W hr k0 k1)
  have HH := Lib.hid (fun (hr : OkRu r) (lag : Int) W (l0 : 0 ≤ lag) (l1 : lag ≤ 1000000) => heights_any r lag W hr l0 l1)
  have HITM := Lib.hid (fun k => show itm r f s k = ⟨k, padK f s f.length (k + 1), tagP r (gd f k) (gd s k), (hgtP r k).re, (hgtP r k).im⟩ from rfl)
  have HISE := Lib.hid (fun k => show isE r.po f s k = (decide (r.po ≤ padK f s f.length (k + 1)) && (decide (padK f s f.length k < padK f s f.length (k + 1)) && decide (padK f s f.length (k + 2) ≤ padK f s f.length (k + 1)))) from rfl)
  have HYES := Lib.hid (fun k => @echK_yes r f s k)
  have HNO := Lib.hid (fun k => @echK_no r f s k)
  have HLEN := Lib.hid (echK_len r f s)
  have HZE : Hid (echK r f s 0 = []) := Lib.hid rfl
  have HEA : Hid (echA r f s = echK r f s f.length) := Lib.hid rfl
  obtain ⟨i0, hi0, hz0, hz1, hz2⟩ := infoIt_
  have HI := Lib.hid hi0
  have HZ0 := Lib.hid hz0
  have HZ1 := Lib.hid hz1
  have HZ2 := Lib.hid hz2
  clear hi0 hz0 hz1 hz2
  have hlf : (f.length : Int) ≤ 1000 := by omega
  have hls : (s.length : Int) ≤ 1000 := by omega
  have HQ := Lib.hid hq
  have HE := Lib.hid hE
  have hel : ((f.length : Int) == (s.length : Int)) = decide (f.length = s.length) := by
    by_cases h : f.length = s.length
    · rw [decide_eq_true h, h]; simp
    · rw [decide_eq_false h, beq_eq_false_iff_ne]; omega
  obtain ⟨bL, hbL⟩ : ∃ b, decide (f.length = s.length) = b := ⟨_, rfl⟩
  rw [hbL] at hel HE
  clear hbL
  clear hq hE
  generalize hG : echK r f s = ek at *
  generalize hG2 : itm r f s = im at *
  generalize hG3 : tagP r = tg at *
  generalize hG4 : hgtP r = hg at *
  generalize isE r.po f s = ie at *
  generalize echA r f s = ea at *
  generalize echE r f s = E at *
  generalize echQ r f s = Q at *
  generalize ruE r = e1 at *
  clear hG hG2 hG3 hG4
  obtain ⟨⟨mo0, mo1⟩, ⟨me0, me1⟩, ra, no, po, ce, st, du⟩ := r
  simp only [ruv, gv2, gv] at *
  go_enter Tryd.func20, Tryd.ntmps20
  go_upto_region 1 with (fail)
  have hb0 : Below w.heap.size w ((w.alloc (.cells #[.int .i64 mo0, .int .i64 mo1, .int .i64 me0, .int .i64 me1, .int .i64 ra, .int .i64 no, .int .i64 po, .int .i64 ce, .int .i64 st, .int .i64 du] 58)).alloc (.cells #[.slice A f.length ca, .slice B s.length cb] 65)) := below_alloc _ (Nat.le_refl _) (below_alloc _ (Nat.le_refl _) (Below.refl _ _))
  have r0 : ((w.alloc (.cells #[.int .i64 mo0, .int .i64 mo1, .int .i64 me0, .int .i64 me1, .int .i64 ra, .int .i64 no, .int .i64 po, .int .i64 ce, .int .i64 st, .int .i64 du] 58)).alloc (.cells #[.slice A f.length ca, .slice B s.length cb] 65)).cell? ⟨w.heap.size, 0, none⟩ = some (.int .i64 mo0) := cell_alloc _ (cell_new (by simp) rfl)
  have r1 : ((w.alloc (.cells #[.int .i64 mo0, .int .i64 mo1, .int .i64 me0, .int .i64 me1, .int .i64 ra, .int .i64 no, .int .i64 po, .int .i64 ce, .int .i64 st, .int .i64 du] 58)).alloc (.cells #[.slice A f.length ca, .slice B s.length cb] 65)).cell? ⟨w.heap.size, 1, none⟩ = some (.int .i64 mo1) := cell_alloc _ (cell_new (by simp) rfl)
  have r2 : ((w.alloc (.cells #[.int .i64 mo0, .int .i64 mo1, .int .i64 me0, .int .i64 me1, .int .i64 ra, .int .i64 no, .int .i64 po, .int .i64 ce, .int .i64 st, .int .i64 du] 58)).alloc (.cells #[.slice A f.length ca, .slice B s.length cb] 65)).cell? ⟨w.heap.size, 2, none⟩ = some (.int .i64 me0) := cell_alloc _ (cell_new (by simp) rfl)
  have r3 : ((w.alloc (.cells #[.int .i64 mo0, .int .i64 mo1, .int .i64 me0, .int .i64 me1, .int .i64 ra, .int .i64 no, .int .i64 po, .int .i64 ce, .int .i64 st, .int .i64 du] 58)).alloc (.cells #[.slice A f.length ca, .slice B s.length cb] 65)).cell? ⟨w.heap.size, 3, none⟩ = some (.int .i64 me1) := cell_alloc _ (cell_new (by simp) rfl)
  have r4 : ((w.alloc (.cells #[.int .i64 mo0, .int .i64 mo1, .int .i64 me0, .int .i64 me1, .int .i64 ra, .int .i64 no, .int .i64 po, .int .i64 ce, .int .i64 st, .int .i64 du] 58)).alloc (.cells #[.slice A f.length ca, .slice B s.length cb] 65)).cell? ⟨w.heap.size, 4, none⟩ = some (.int .i64 ra) := cell_alloc _ (cell_new (by simp) rfl)
  have r5 : ((w.alloc (.cells #[.int .i64 mo0, .int .i64 mo1, .int .i64 me0, .int .i64 me1, .int .i64 ra, .int .i64 no, .int .i64 po, .int .i64 ce, .int .i64 st, .int .i64 du] 58)).alloc (.cells #[.slice A f.length ca, .slice B s.length cb] 65)).cell? ⟨w.heap.size, 5, none⟩ = some (.int .i64 no) := cell_alloc _ (cell_new (by simp) rfl)
  have r6 : ((w.alloc (.cells #[.int .i64 mo0, .int .i64 mo1, .int .i64 me0, .int .i64 me1, .int .i64 ra, .int .i64 no, .int .i64 po, .int .i64 ce, .int .i64 st, .int .i64 du] 58)).alloc (.cells #[.slice A f.length ca, .slice B s.length cb] 65)).cell? ⟨w.heap.size, 6, none⟩ = some (.int .i64 po) := cell_alloc _ (cell_new (by simp) rfl)
  have r7 : ((w.alloc (.cells #[.int .i64 mo0, .int .i64 mo1, .int .i64 me0, .int .i64 me1, .int .i64 ra, .int .i64 no, .int .i64 po, .int .i64 ce, .int .i64 st, .int .i64 du] 58)).alloc (.cells #[.slice A f.length ca, .slice B s.length cb] 65)).cell? ⟨w.heap.size, 7, none⟩ = some (.int .i64 ce) := cell_alloc _ (cell_new (by simp) rfl)
  have r8 : ((w.alloc (.cells #[.int .i64 mo0, .int .i64 mo1, .int .i64 me0, .int .i64 me1, .int .i64 ra, .int .i64 no, .int .i64 po, .int .i64 ce, .int .i64 st, .int .i64 du] 58)).alloc (.cells #[.slice A f.length ca, .slice B s.length cb] 65)).cell? ⟨w.heap.size, 8, none⟩ = some (.int .i64 st) := cell_alloc _ (cell_new (by simp) rfl)
  have r9 : ((w.alloc (.cells #[.int .i64 mo0, .int .i64 mo1, .int .i64 me0, .int .i64 me1, .int .i64 ra, .int .i64 no, .int .i64 po, .int .i64 ce, .int .i64 st, .int .i64 du] 58)).alloc (.cells #[.slice A f.length ca, .slice B s.length cb] 65)).cell? ⟨w.heap.size, 9, none⟩ = some (.int .i64 du) := cell_alloc _ (cell_new (by simp) rfl)
  have zr : w.heap.size < ((w.alloc (.cells #[.int .i64 mo0, .int .i64 mo1, .int .i64 me0, .int .i64 me1, .int .i64 ra, .int .i64 no, .int .i64 po, .int .i64 ce, .int .i64 st, .int .i64 du] 58)).alloc (.cells #[.slice A f.length ca, .slice B s.length cb] 65)).heap.size := World.block_lt_of_cell? _ _ r0
  have y0 : ((w.alloc (.cells #[.int .i64 mo0, .int .i64 mo1, .int .i64 me0, .int .i64 me1, .int .i64 ra, .int .i64 no, .int .i64 po, .int .i64 ce, .int .i64 st, .int .i64 du] 58)).alloc (.cells #[.slice A f.length ca, .slice B s.length cb] 65)).cell? ⟨w.heap.size + 1, 0, none⟩ = some (.slice A f.length ca) := cell_new (by simp) rfl
  have y1 : ((w.alloc (.cells #[.int .i64 mo0, .int .i64 mo1, .int .i64 me0, .int .i64 me1, .int .i64 ra, .int .i64 no, .int .i64 po, .int .i64 ce, .int .i64 st, .int .i64 du] 58)).alloc (.cells #[.slice A f.length ca, .slice B s.length cb] 65)).cell? ⟨w.heap.size + 1, 1, none⟩ = some (.slice B s.length cb) := cell_new (by simp) rfl
  have zy : w.heap.size + 1 < ((w.alloc (.cells #[.int .i64 mo0, .int .i64 mo1, .int .i64 me0, .int .i64 me1, .int .i64 ra, .int .i64 no, .int .i64 po, .int .i64 ce, .int .i64 st, .int .i64 du] 58)).alloc (.cells #[.slice A f.length ca, .slice B s.length cb] 65)).heap.size := World.block_lt_of_cell? _ _ y0
  generalize ((w.alloc (.cells #[.int .i64 mo0, .int .i64 mo1, .int .i64 me0, .int .i64 me1, .int .i64 ra, .int .i64 no, .int .i64 po, .int .i64 ce, .int .i64 st, .int .i64 du] 58)).alloc (.cells #[.slice A f.length ca, .slice B s.length cb] 65)) = w0 at *
  have hA0 := RowsAt.below hA hb0
  have hB0 := RowsAt.below hB hb0
  clear hA hB
  (refine region_extx 16 (by kernel_rfl) (by kernel_rfl) fun hx => ?_; simp only [List.take_succ_cons, List.take_zero, List.drop_succ_cons, List.drop_zero]; (repeat (any_goals (first | go_big_quiet_step ((first | ((go_at_call 45; with_reducible exact ext_call (H1.out _))) | ((go_at_call 28; with_reducible exact ext_same (unless_any _ _ _))) | ((go_at_call 29; with_reducible exact ext_call (H2.out _ (RowsAt.below hA0 (ext_bel _ _))))) | ((go_at_call 29; with_reducible exact ext_call (H3.out _ (RowsAt.below hB0 (ext_bel _ _))))))) | quiet_step ((first | ((go_at_call 45; with_reducible exact ext_call (H1.out _))) | ((go_at_call 28; with_reducible exact ext_same (unless_any _ _ _))) | ((go_at_call 29; with_reducible exact ext_call (H2.out _ (RowsAt.below hA0 (ext_bel _ _))))) | ((go_at_call 29; with_reducible exact ext_call (H3.out _ (RowsAt.below hB0 (ext_bel _ _)))))))))))
  (refine wpQuiet_nil ?_; clear hx; intro u; have hbw1 := ext_bel _ u; have hxw1 := ext_cell _ u; generalize ext _ u = w1 at *; clear u; have hsw1 := hbw1.size; (try simp at hsw1))
  have h1 : Below w.heap.size w w1 := (hb0).trans ((hbw1).mono (hb0).size)
  replace r0 := cell_below' hbw1 r0
  replace r1 := cell_below' hbw1 r1
  replace r2 := cell_below' hbw1 r2
  replace r3 := cell_below' hbw1 r3
  replace r4 := cell_below' hbw1 r4
  replace r5 := cell_below' hbw1 r5
  replace r6 := cell_below' hbw1 r6
  replace r7 := cell_below' hbw1 r7
  replace r8 := cell_below' hbw1 r8
  replace r9 := cell_below' hbw1 r9
  replace zr := Nat.lt_of_lt_of_le zr (hbw1).size
  replace y0 := cell_below' hbw1 y0
  replace y1 := cell_below' hbw1 y1
  replace zy := Nat.lt_of_lt_of_le zy (hbw1).size
  replace hA0 := RowsAt.below hA0 hbw1
  replace hB0 := RowsAt.below hB0 hbw1
  clear hbw1 hb0
  clear hxw1 hsw1
  clear H1 H2 H3
  by_cases h0 : E = 0
  rotate_left 1
  · have hq := HQ.out.trans (if_neg h0)
    have HQ2 := Lib.hid hq
    have e9 : (E != 0) = true := by simpa using h0
    clear hq HQ h0
    go_wp2_with (go_at_call 27; refine (first4 _ _ _ _ _ _ (by simp) (cell_new (by simp) rfl) (cell_new (by simp) rfl) (cell_new (by simp) rfl) (cell_new (by simp) rfl)).mono ?_; rintro e w' ⟨rfl, rfl⟩; rw [← HE.out])
    go_ret2
    rw [HQ2.out]
    exact ⟨none, 0, rfl, RowsAt.nil, below_alloc _ (Nat.le_refl _) h1⟩
  have hq := HQ.out.trans (if_pos h0)
  obtain ⟨hr, he, hl64, hok1, hok2⟩ := HOKR.out h0
  subst h0
  have HQ2 := Lib.hid hq
  have HR := Lib.hid hr
  have HO1 := Lib.hid hok1
  have HO2 := Lib.hid hok2
  have hpb := fun k j => pad_bd hok1 hok2 k j
  have HPB := Lib.hid hpb
  rw [← he] at y1
  have HEQ := Lib.hid he
  clear hq HQ HOKR hr he hok1 hok2 hpb hls hs
  go_upto_region 4 with (go_at_call 27; refine (first4 _ _ _ _ _ _ (by simp) (cell_new (by simp) rfl) (cell_new (by simp) rfl) (cell_new (by simp) rfl) (cell_new (by simp) rfl)).mono ?_; rintro e w' ⟨rfl, rfl⟩; rw [← HE.out])
  have hbv : Below w1.heap.size w1 (w1.alloc (.cells #[.int .i64 e1, .int .i64 (unl bL 10), .int .i64 (smpsE f), .int .i64 (smpsE s)] 34)) := (by repeat (first | assumption | exact Below.refl _ _ | refine Below.drew ?_ | (refine below_alloc _ ?_ ?_; focus (first | omega | (simp; done) | (simp; omega) | (simp at *; omega))) | (refine below_set _ ?_ ?_; focus (first | omega | (simp; done) | (simp; omega) | (simp at *; omega))) | refine below_drewN ?_ _ | (refine below_call (by assumption) ?_ ?_; focus (first | omega | (simp; done) | (simp; omega) | (simp at *; omega))) | (refine below_call' (by assumption) ?_ ?_; focus (first | omega | (simp; done) | (simp; omega) | (simp at *; omega)))))
  generalize (w1.alloc (.cells #[.int .i64 e1, .int .i64 (unl bL 10), .int .i64 (smpsE f), .int .i64 (smpsE s)] 34)) = w2 at *
  have h2 : Below w.heap.size w w2 := (h1).trans ((hbv).mono (h1).size)
  replace r0 := cell_below' hbv r0
  replace r1 := cell_below' hbv r1
  replace r2 := cell_below' hbv r2
  replace r3 := cell_below' hbv r3
  replace r4 := cell_below' hbv r4
  replace r5 := cell_below' hbv r5
  replace r6 := cell_below' hbv r6
  replace r7 := cell_below' hbv r7
  replace r8 := cell_below' hbv r8
  replace r9 := cell_below' hbv r9
  replace zr := Nat.lt_of_lt_of_le zr (hbv).size
  replace y0 := cell_below' hbv y0
  replace y1 := cell_below' hbv y1
  replace zy := Nat.lt_of_lt_of_le zy (hbv).size
  replace hA0 := RowsAt.below hA0 hbv
  replace hB0 := RowsAt.below hB0 hbv
  clear hbv h1
  clear HE
  have hmk : ∀ w, (Instr.makeSlice 23 (.int .i64 ((f.length : Int) + 2)) (.int .i64 ((f.length : Int) + 2))).run Tryd.prog w = .ok (.slice (some ⟨w.heap.size, 0, none⟩) (f.length + 2) (f.length + 2)) (w.alloc (.cells (madeCells #[.int .i64 0] (f.length + 2)) 3)) := run_make_row' (P := Tryd.prog) 23 3 (.int .i64 0) 8 Tryd.underlying23 infoInt rfl .i64 .i64 (f.length + 2) (by omega) (by omega)
  go_upto_region 5 with (fail)
  have hp0 : PadAt w2.heap.size (f.length + 2) (padK f s 0) (w2.alloc (.cells (madeCells #[.int .i64 0] (f.length + 2)) 3)) := by
    rw [show padK f s 0 = fun _ => 0 from funext fun j => if_neg (by omega)]; exact PadAt.made
  have hbv : Below w2.heap.size w2 (w2.alloc (.cells (madeCells #[.int .i64 0] (f.length + 2)) 3)) := (by repeat (first | assumption | exact Below.refl _ _ | refine Below.drew ?_ | (refine below_alloc _ ?_ ?_; focus (first | omega | (simp; done) | (simp; omega) | (simp at *; omega))) | (refine below_set _ ?_ ?_; focus (first | omega | (simp; done) | (simp; omega) | (simp at *; omega))) | refine below_drewN ?_ _ | (refine below_call (by assumption) ?_ ?_; focus (first | omega | (simp; done) | (simp; omega) | (simp at *; omega))) | (refine below_call' (by assumption) ?_ ?_; focus (first | omega | (simp; done) | (simp; omega) | (simp at *; omega)))))
  clear hmk
  generalize (w2.alloc (.cells (madeCells #[.int .i64 0] (f.length + 2)) 3)) = w3 at *
  have HP0 := Lib.hid hp0
  have q0 := cell_below' hbv y0
  have zq := Nat.lt_of_lt_of_le zy hbv.size
  clear hp0
  go_wp2_with (fail)
  go_loopw [44] (fun i wr => ∃ k : Nat, k ≤ f.length ∧ i = .int .i64 k ∧ PadAt w2.heap.size (f.length + 2) (padK f s k) wr ∧ Below w2.heap.size w2 wr) (fun i _ => f.length - (intOf i).toNat)
  case atStart => exact ⟨0, Nat.zero_le _, rfl, HP0.out, hbv⟩
  case round =>
    obtain ⟨k, hk, rfl, hpad, hbr⟩ := hrel
    obtain ⟨wo, rfl⟩ : ∃ wo : World, wo = wr := ⟨_, rfl⟩
    clear q0 zq HP0 hbv
    have HPAD := Lib.hid hpad
    have zP := hpad.z
    clear hpad
    by_cases hlt : k < f.length
    · have hlt2 : k < s.length := by have := HEQ.out; omega
      have A1 := RowsAt.below hA0 hbr
      have B1 := RowsAt.below hB0 hbr
      obtain ⟨b1, o1, rfl, hb1, c0, c1⟩ := GsAt.at_ A1 hlt
      obtain ⟨b2, o2, rfl, hb2, d0, d1⟩ := GsAt.at_ B1 hlt2
      have hpw : pwA f s k = gnorm f[k] + gnorm s[k] := by unfold pwA; rw [gd_eq hlt, gd_eq hlt2]
      have s1 := HO1.out _ (List.getElem_mem hlt)
      have s2 := HO2.out _ (List.getElem_mem hlt2)
      have P1 := Lib.hid (fun W => power_any f[k] W (s1.mono (by decide)))
      have P2 := Lib.hid (fun W => power_any s[k] W (s2.mono (by decide)))
      have n1 := s1.norm
      have n2 := s2.norm
      generalize f[k] = gx at *
      generalize s[k] = gy at *
      simp only [gv] at P1 P2
      generalize gnorm gx = g1 at *
      generalize gnorm gy = g2 at *
      have hp9 := HPAD.out.c (k + 1) (by omega)
      have hf9 := HPAD.out.f (k + 1)
      have HPW := Lib.hid hpw
      have hk1 : (k : Int) < (f.length : Int) := by omega
      have hy0 := cell_below' hbr y0
      have hy1 := cell_below' hbr y1
      have zy2 := Nat.lt_of_lt_of_le zy hbr.size
      clear hpw s1 s2 A1 B1
      go_upto_region 8 with (fail)
      have hb4 : Below wo.heap.size wo (wo.alloc (.cells #[.int .i64 gx.re, .int .i64 gx.im] 30)) := below_alloc _ (Nat.le_refl _) (Below.refl _ _)
      have t0 : (wo.alloc (.cells #[.int .i64 gx.re, .int .i64 gx.im] 30)).cell? ⟨wo.heap.size, 0, none⟩ = some (.int .i64 gx.re) := cell_new (by simp) rfl
      have t1 : (wo.alloc (.cells #[.int .i64 gx.re, .int .i64 gx.im] 30)).cell? ⟨wo.heap.size, 1, none⟩ = some (.int .i64 gx.im) := cell_new (by simp) rfl
      have zt : wo.heap.size < (wo.alloc (.cells #[.int .i64 gx.re, .int .i64 gx.im] 30)).heap.size := World.block_lt_of_cell? _ _ t0
      generalize (wo.alloc (.cells #[.int .i64 gx.re, .int .i64 gx.im] 30)) = w4 at *
      replace hy1 := cell_below' hb4 hy1
      replace hp9 := cell_below' hb4 hp9
      replace hf9 := frozen_below hb4 zP hf9
      replace d0 := cell_below' hb4 d0
      replace d1 := cell_below' hb4 d1
      replace hb2 := Nat.lt_of_lt_of_le hb2 hb4.size
      replace zy2 := Nat.lt_of_lt_of_le zy2 hb4.size
      have zP4 := Nat.lt_of_lt_of_le zP hb4.size
      (refine region_extx 12 (by kernel_rfl) (by kernel_rfl) fun hx => ?_; simp only [List.take_succ_cons, List.take_zero, List.drop_succ_cons, List.drop_zero]; (repeat (any_goals (first | go_big_quiet_step ((first | ((go_at_call 46; with_reducible exact ext_call (P1.out _))) | ((go_at_call 46; with_reducible exact ext_call (P2.out _))))) | quiet_step ((first | ((go_at_call 46; with_reducible exact ext_call (P1.out _))) | ((go_at_call 46; with_reducible exact ext_call (P2.out _)))))))))
      (refine wpQuiet_nil ?_; clear hx; intro u; have hbw5 := ext_bel _ u; have hxw5 := ext_cell _ u; generalize ext _ u = w5 at *; clear u; have hsw5 := hbw5.size; (try simp at hsw5))
      replace hp9 := cell_below' hbw5 hp9
      replace hf9 := frozen_below hbw5 zP4 hf9
      have hb45 : Below wo.heap.size wo w5 := hb4.trans (hbw5.mono hb4.size)
      have hpad5 := HPAD.out.below hb45
      have HPAD5 := Lib.hid hpad5
      have hbr5 := hbr.trans (hb45.mono hbr.size)
      clear hxw5 hsw5 hbw5 hb4 hpad5
      go_wp2_with (fail)
      refine ⟨⟨k + 1, by omega, by go_num, HPAD5.out.set (q := padK f s (k + 1)) (by omega) (by rw [padK_new, HPW.out]) (fun j hj => padK_old f s k j hj), below_set _ (Nat.le_refl _) hbr5⟩, by simp [intOf]; omega⟩
    · obtain rfl : k = f.length := by omega
      have A1 := RowsAt.below hA0 hbr
      have B1 := RowsAt.below hB0 hbr
      have hw : Below w.heap.size w wo := h2.trans (hbr.mono h2.size)
      replace y0 := cell_below' hbr y0
      replace y1 := cell_below' hbr y1
      replace zy := Nat.lt_of_lt_of_le zy hbr.size
      replace zr := Nat.lt_of_lt_of_le zr hbr.size
      replace r0 := cell_below' hbr r0
      replace r1 := cell_below' hbr r1
      replace r2 := cell_below' hbr r2
      replace r3 := cell_below' hbr r3
      replace r4 := cell_below' hbr r4
      replace r5 := cell_below' hbr r5
      replace r6 := cell_below' hbr r6
      replace r7 := cell_below' hbr r7
      replace r8 := cell_below' hbr r8
      replace r9 := cell_below' hbr r9
      clear hA0 hB0 hbr h2
      go_wp2_with (fail)
      go_loopw [10, 66] (fun o i wr => ∃ (k : Nat) (A' : Option Addr) (c' : Nat), k ≤ f.length ∧ i = .int .i64 k ∧ o = .slice A' (ek k).length c' ∧ wr.ownsRow wo.heap.size 105 5 (.slice A' (ek k).length c') (ek k).length (cellsOf 5 itC (ek k)) ∧ Below wo.heap.size wo wr) (fun _ i _ => f.length - (intOf i).toNat)
      case atStart => exact ⟨0, none, 0, Nat.zero_le _, rfl, by rw [HZE.out] <;> rfl, by rw [HZE.out]; exact World.ownsRow_nil _ _ _ _, Below.refl _ _⟩
      case round =>
        obtain ⟨k, A', c', hk, rfl, rfl, own, hbr⟩ := hrel
        obtain ⟨v, rfl⟩ : ∃ v : World, v = wr := ⟨_, rfl⟩
        have OWN := Lib.hid own
        have hlk := HLEN.out k
        have A2 := RowsAt.below A1 hbr
        have B2 := RowsAt.below B1 hbr
        have hw2 : Below w.heap.size w v := hw.trans (hbr.mono hw.size)
        have zv := hbr.size
        clear own
        by_cases hlt : k < f.length
        · have hlt2 : k < s.length := by have := HEQ.out; omega
          have hpad := HPAD.out.below hbr
          have p0 := hpad.c k (by omega)
          have p1 := hpad.c (k + 1) (by omega)
          have p2 := hpad.c (k + 2) (by omega)
          have zP2 := hpad.z
          have hik := HITM.out k
          rw [gd_eq hlt, gd_eq hlt2] at hik
          have hie := HISE.out k
          have hyes := HYES.out k
          have hno := HNO.out k
          have s1 := HO1.out _ (List.getElem_mem hlt)
          have s2 := HO2.out _ (List.getElem_mem hlt2)
          have T := Lib.hid (fun W => HT.out HR.out f[k] s[k] W s1 s2)
          have H := Lib.hid (fun W => HH.out HR.out (k : Int) W (by omega) (by omega))
          obtain ⟨b1, o1, rfl, hb1, c0, c1⟩ := GsAt.at_ A2 hlt
          obtain ⟨b2, o2, rfl, hb2, d0, d1⟩ := GsAt.at_ B2 hlt2
          generalize f[k] = gx at *
          generalize s[k] = gy at *
          generalize padK f s f.length k = v0 at *
          generalize padK f s f.length (k + 1) = v1 at *
          generalize padK f s f.length (k + 2) = v2 at *
          have HIK := Lib.hid hik
          have HIE := Lib.hid hie
          have HY := Lib.hid hyes
          have HN := Lib.hid hno
          have hk1 : (k : Int) < (f.length : Int) := by omega
          replace y0 := cell_below' hbr y0
          replace y1 := cell_below' hbr y1
          replace zy := Nat.lt_of_lt_of_le zy hbr.size
          replace zr := Nat.lt_of_lt_of_le zr hbr.size
          replace r0 := cell_below' hbr r0
          replace r1 := cell_below' hbr r1
          replace r2 := cell_below' hbr r2
          replace r3 := cell_below' hbr r3
          replace r4 := cell_below' hbr r4
          replace r5 := cell_below' hbr r5
          replace r6 := cell_below' hbr r6
          replace r7 := cell_below' hbr r7
          replace r8 := cell_below' hbr r8
          replace r9 := cell_below' hbr r9
          clear hpad hik hie hyes hno s1 s2 A1 B1 A2 B2
          go_upto_region 14 with (fail)
          have hb4 : Below v.heap.size v (v.alloc (.cells #[.int .i64 gx.re, .int .i64 gx.im] 30)) := below_alloc _ (Nat.le_refl _) (Below.refl _ _)
          have t0 : (v.alloc (.cells #[.int .i64 gx.re, .int .i64 gx.im] 30)).cell? ⟨v.heap.size, 0, none⟩ = some (.int .i64 gx.re) := cell_new (by simp) rfl
          have t1 : (v.alloc (.cells #[.int .i64 gx.re, .int .i64 gx.im] 30)).cell? ⟨v.heap.size, 1, none⟩ = some (.int .i64 gx.im) := cell_new (by simp) rfl
          have zt : v.heap.size < (v.alloc (.cells #[.int .i64 gx.re, .int .i64 gx.im] 30)).heap.size := World.block_lt_of_cell? _ _ t0
          generalize (v.alloc (.cells #[.int .i64 gx.re, .int .i64 gx.im] 30)) = w4 at *
          have hv4 : Below v.heap.size v w4 := hb4
          replace p0 := cell_below' hv4 p0
          replace p1 := cell_below' hv4 p1
          replace p2 := cell_below' hv4 p2
          replace zP2 := Nat.lt_of_lt_of_le zP2 hv4.size
          replace d0 := cell_below' hv4 d0
          replace d1 := cell_below' hv4 d1
          replace hb2 := Nat.lt_of_lt_of_le hb2 hv4.size
          have OWN4 := Lib.hid (own_below OWN.out hv4)
          have hbr4 : Below wo.heap.size wo w4 := (hbr).trans ((hb4).mono (hbr).size)
          replace r0 := cell_below' hb4 r0
          replace r1 := cell_below' hb4 r1
          replace r2 := cell_below' hb4 r2
          replace r3 := cell_below' hb4 r3
          replace r4 := cell_below' hb4 r4
          replace r5 := cell_below' hb4 r5
          replace r6 := cell_below' hb4 r6
          replace r7 := cell_below' hb4 r7
          replace r8 := cell_below' hb4 r8
          replace r9 := cell_below' hb4 r9
          replace zr := Nat.lt_of_lt_of_le zr (hb4).size
          replace y0 := cell_below' hb4 y0
          replace y1 := cell_below' hb4 y1
          replace zy := Nat.lt_of_lt_of_le zy (hb4).size
          clear hb4 hbr
          have hw4 : Below w.heap.size w w4 := hw2.trans (hv4.mono (by have := hw2.size; omega))
          clear OWN hv4
          go_upto_region 15 with (fail)
          go_cut [96] from 76 to 95 (fun t wx => t = .bool (ie k) ∧ w4 = wx)
          case first =>
            clear OWN4 T H
            cases e1 : decide (po ≤ v1) <;> cases e2 : decide (v0 < v1) <;> cases e3 : decide (v2 ≤ v1)
            all_goals
              go_wp2_with (fail)
              go_meet
              exact ⟨by rw [HIE.out, e1, e2, e3]; rfl, rfl⟩
          case rest =>
          obtain ⟨rfl, rfl⟩ := hcut
          cases hie : ie k
          · have H5 := Lib.hid (HN.out hie)
            clear hie
            go_wp2_with (fail)
            exact ⟨⟨k + 1, A', c', by omega, by go_num, by rw [← H5.out], by rw [← H5.out]; exact OWN4.out, hbr4⟩, by simp [intOf]; omega⟩
          · have H5 := Lib.hid (HY.out hie)
            rw [HIK.out] at H5
            clear hie HY HN HIE
            go_upto_region 17 with (fail)
            have hb5 : Below w4.heap.size w4 (w4.alloc (.cells #[.int .i64 mo0, .int .i64 mo1, .int .i64 me0, .int .i64 me1, .int .i64 ra, .int .i64 no, .int .i64 po, .int .i64 ce, .int .i64 st, .int .i64 du] 99)) := below_alloc _ (Nat.le_refl _) (Below.refl _ _)
            have u0 : (w4.alloc (.cells #[.int .i64 mo0, .int .i64 mo1, .int .i64 me0, .int .i64 me1, .int .i64 ra, .int .i64 no, .int .i64 po, .int .i64 ce, .int .i64 st, .int .i64 du] 99)).cell? ⟨w4.heap.size, 0, none⟩ = some (.int .i64 mo0) := cell_new (by simp) rfl
            have u1 : (w4.alloc (.cells #[.int .i64 mo0, .int .i64 mo1, .int .i64 me0, .int .i64 me1, .int .i64 ra, .int .i64 no, .int .i64 po, .int .i64 ce, .int .i64 st, .int .i64 du] 99)).cell? ⟨w4.heap.size, 1, none⟩ = some (.int .i64 mo1) := cell_new (by simp) rfl
            have u2 : (w4.alloc (.cells #[.int .i64 mo0, .int .i64 mo1, .int .i64 me0, .int .i64 me1, .int .i64 ra, .int .i64 no, .int .i64 po, .int .i64 ce, .int .i64 st, .int .i64 du] 99)).cell? ⟨w4.heap.size, 2, none⟩ = some (.int .i64 me0) := cell_new (by simp) rfl
            have u3 : (w4.alloc (.cells #[.int .i64 mo0, .int .i64 mo1, .int .i64 me0, .int .i64 me1, .int .i64 ra, .int .i64 no, .int .i64 po, .int .i64 ce, .int .i64 st, .int .i64 du] 99)).cell? ⟨w4.heap.size, 3, none⟩ = some (.int .i64 me1) := cell_new (by simp) rfl
            have u4 : (w4.alloc (.cells #[.int .i64 mo0, .int .i64 mo1, .int .i64 me0, .int .i64 me1, .int .i64 ra, .int .i64 no, .int .i64 po, .int .i64 ce, .int .i64 st, .int .i64 du] 99)).cell? ⟨w4.heap.size, 4, none⟩ = some (.int .i64 ra) := cell_new (by simp) rfl
            have u5 : (w4.alloc (.cells #[.int .i64 mo0, .int .i64 mo1, .int .i64 me0, .int .i64 me1, .int .i64 ra, .int .i64 no, .int .i64 po, .int .i64 ce, .int .i64 st, .int .i64 du] 99)).cell? ⟨w4.heap.size, 5, none⟩ = some (.int .i64 no) := cell_new (by simp) rfl
            have u6 : (w4.alloc (.cells #[.int .i64 mo0, .int .i64 mo1, .int .i64 me0, .int .i64 me1, .int .i64 ra, .int .i64 no, .int .i64 po, .int .i64 ce, .int .i64 st, .int .i64 du] 99)).cell? ⟨w4.heap.size, 6, none⟩ = some (.int .i64 po) := cell_new (by simp) rfl
            have u7 : (w4.alloc (.cells #[.int .i64 mo0, .int .i64 mo1, .int .i64 me0, .int .i64 me1, .int .i64 ra, .int .i64 no, .int .i64 po, .int .i64 ce, .int .i64 st, .int .i64 du] 99)).cell? ⟨w4.heap.size, 7, none⟩ = some (.int .i64 ce) := cell_new (by simp) rfl
            have u8 : (w4.alloc (.cells #[.int .i64 mo0, .int .i64 mo1, .int .i64 me0, .int .i64 me1, .int .i64 ra, .int .i64 no, .int .i64 po, .int .i64 ce, .int .i64 st, .int .i64 du] 99)).cell? ⟨w4.heap.size, 8, none⟩ = some (.int .i64 st) := cell_new (by simp) rfl
            have u9 : (w4.alloc (.cells #[.int .i64 mo0, .int .i64 mo1, .int .i64 me0, .int .i64 me1, .int .i64 ra, .int .i64 no, .int .i64 po, .int .i64 ce, .int .i64 st, .int .i64 du] 99)).cell? ⟨w4.heap.size, 9, none⟩ = some (.int .i64 du) := cell_new (by simp) rfl
            have zu : w4.heap.size < (w4.alloc (.cells #[.int .i64 mo0, .int .i64 mo1, .int .i64 me0, .int .i64 me1, .int .i64 ra, .int .i64 no, .int .i64 po, .int .i64 ce, .int .i64 st, .int .i64 du] 99)).heap.size := World.block_lt_of_cell? _ _ u0
            generalize (w4.alloc (.cells #[.int .i64 mo0, .int .i64 mo1, .int .i64 me0, .int .i64 me1, .int .i64 ra, .int .i64 no, .int .i64 po, .int .i64 ce, .int .i64 st, .int .i64 du] 99)) = w5 at *
            have OWN5 := Lib.hid (own_below OWN4.out hb5)
            replace d0 := cell_below' hb5 d0
            replace d1 := cell_below' hb5 d1
            replace hb2 := Nat.lt_of_lt_of_le hb2 hb5.size
            have hbr5 : Below wo.heap.size wo w5 := (hbr4).trans ((hb5).mono (hbr4).size)
            replace t0 := cell_below' hb5 t0
            replace t1 := cell_below' hb5 t1
            replace zt := Nat.lt_of_lt_of_le zt (hb5).size
            replace y0 := cell_below' hb5 y0
            replace y1 := cell_below' hb5 y1
            replace zy := Nat.lt_of_lt_of_le zy (hb5).size
            clear hb5 hbr4
            clear OWN4
            (refine region_alloc (T := ?_) (obj := (.cells #[.int .i64 k, .int .i64 v1, .int .i64 (tg gx gy), .int .i64 (hg k).re, .int .i64 (hg k).im] 105)) (val := (fun nb => .slice (some ⟨nb, 0, none⟩) 1 1)) 16 115 (by kernel_rfl) (by kernel_rfl) rfl rfl rfl (Nat.le_of_ble_eq_true rfl) ?_ ?_ ?_; rotate_left 1)
            focus (intro W0 hB0 hx; simp only [List.take_succ_cons, List.take_zero]; (repeat (any_goals (first | go_big_quiet_step (first | ((go_at_call 47; with_reducible exact ext_call (T.out _))) | ((go_at_call 48; with_reducible exact ext_call (H.out _)))) | quiet_step (first | ((go_at_call 47; with_reducible exact ext_call (T.out _))) | ((go_at_call 48; with_reducible exact ext_call (H.out _))))))); refine wpQuiet_nil ?_; exact rfl)
            focus (intro W; go_simp; done)
            (intro W0 w6 hB0 hB1; obtain ⟨hbw6, hnw6, hsw6, hkw6⟩ := alloc_out hB0 hB1; clear hB0 hB1; simp only [List.drop_succ_cons, List.drop_zero]; generalize W0.heap.size = nb at *; clear W0)
            have OWN6 := Lib.hid (own_below OWN5.out hbw6)
            have hbr6 : Below wo.heap.size wo w6 := hbr5.trans (hbw6.mono hbr5.size)
            have z6 := hbr6.size
            have HNW := Lib.hid (newsIt (x := ⟨k, v1, tg gx gy, (hg k).re, (hg k).im⟩) hkw6)
            clear hbw6 hbr5 OWN5 hkw6 hnw6 hsw6
            generalize ek k = out at *
            go_wp2_with (at_builtin; (refine wpList_append_rows _ rfl (.tmp 99) (.tmp 115) 61 rfl wo.heap.size 105 i0 (.agg #[.int .i64 0, .int .i64 0, .int .i64 0, .int .i64 0, .int .i64 0]) 5 40 Tryd.underlying61 HI.out HZ0.out HZ1.out HZ2.out rfl (by decide) A' out.length c' (cellsOf 5 itC out) rfl OWN6.out (some ⟨nb, 0, none⟩) 1 1 [.int .i64 k, .int .i64 v1, .int .i64 (tg gx gy), .int .i64 (hg k).re, .int .i64 (hg k).im] rfl rfl (fun h => by cases h) (fun ad h => by cases h; exact HNW.out) (fun u hu => by simp at hu; rcases hu with rfl | rfl | rfl | rfl | rfl <;> rfl) (by unfold maxLen; omega) (by omega) (by omega) ?_; intro A2' c2' w7 h1 h2 h3))
            have hL : (out ++ [⟨k, v1, tg gx gy, (hg k).re, (hg k).im⟩] : List It).length = out.length + 1 := by simp
            have h4 : w7.ownsRow wo.heap.size 105 5 (.slice A2' (out ++ [⟨k, v1, tg gx gy, (hg k).re, (hg k).im⟩] : List It).length c2') (out ++ [⟨k, v1, tg gx gy, (hg k).re, (hg k).im⟩] : List It).length (cellsOf 5 itC (out ++ [⟨k, v1, tg gx gy, (hg k).re, (hg k).im⟩])) := by rw [hL, cellsOf_append]; exact h1
            have h5 : Below wo.heap.size wo w7 := below_own hbr6 h2 OWN6.out (Nat.le_refl _) (by omega)
            rw [H5.out] at h4 hL
            have HL := Lib.hid hL
            clear h1 h2 h3 hL H5 OWN6
            go_wp2_with (fail)
            exact ⟨⟨k + 1, A2', c2', by omega, by go_num, by rw [HL.out], h4, h5⟩, by simp [intOf]; omega⟩
        · obtain rfl : k = f.length := by omega
          have hA3 : ItsAt v A' (ek f.length) := rowsAt_of_own OWN.out rfl (by decide)
          clear OWN A2 B2
          go_wp2_with (fail)
          go_ret2
          rw [HQ2.out, HEA.out]
          exact ⟨A', c', rfl, hA3, hw2⟩
end Go.Proofs.YtlnbbioponmcfaaDoor
