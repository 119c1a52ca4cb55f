/-
  Chapter 2: plain laws of EchoSums: frames and turns turned about; what grows in memory.
-/
import Derived.Test.YtlnbbioponmcfaaDoorEFrR
namespace Go.Proofs.YtlnbbioponmcfaaDoor
open Go.ChangeShapes Go.WideShapes Go.ChangeAt Go.RowKit
set_option linter.unusedVariables false
set_option linter.unusedSimpArgs false

theorem cell_low {B : Nat} {a w : World} {p : Addr} {v : Value} (hb : Below B a w) (hp : p.block < B) (h : a.cell? p = some v) : w.cell? p = some v := (hb.cell hp).trans h
theorem Apt.symm {u v : Value} (h : Apt u v) : Apt v u := fun x a b => h x b a
/-- the rows that grow: frames, turns -/
structure BkAt (B : Nat) (w : World) (A' : Option Addr) (c' : Nat) (gs : List Frw) (B' : Option Addr) (d' : Nat) (us : List Int) : Prop where
  f : w.ownsRow B 28 1 (.slice A' gs.length c') gs.length (cellsOf 1 frC gs)
  t : w.ownsRow B 3 1 (.slice B' us.length d') us.length (cellsOf 1 intC us)
  o : FrOwn B w (.slice A' gs.length c') gs
  p : FrOwn B w (.slice B' us.length d') gs
  a : Apt (.slice A' gs.length c') (.slice B' us.length d')
section
variable {B : Nat} {w w' : World} {A' B' A5 : Option Addr} {c' d' c5 : Nat} {gs : List Frw} {us : List Int} {x : Frw}
theorem BkAt.below (h : BkAt B w A' c' gs B' d' us) (hb : Below w.heap.size w w') : BkAt B w' A' c' gs B' d' us :=
  ⟨own_below h.f hb, own_below h.t hb, h.o.below hb, h.p.below hb, h.a⟩
theorem BkAt.set (h : BkAt B w A' c' gs B' d' us) {p : Addr} (hp : p.block < B) (u : Value) : BkAt B (w.setCell p u) A' c' gs B' d' us :=
  ⟨ownsRow_setCell_below h.f hp u, ownsRow_setCell_below h.t hp u, fun x hx => ⟨ownsRow_setCell_below (h.o x hx).1 hp u, (h.o x hx).2⟩, fun x hx => ⟨ownsRow_setCell_below (h.p x hx).1 hp u, (h.p x hx).2⟩, h.a⟩
theorem BkAt.nil : BkAt B w none 0 [] none 0 [] := ⟨World.ownsRow_nil _ _ _ _, World.ownsRow_nil _ _ _ _, fun x hx => (by cases hx), fun x hx => (by cases hx), fun x hx => (by cases hx)⟩
/-- .. and a frame that is copied -/
structure BkC (B : Nat) (w : World) (A' : Option Addr) (c' : Nat) (gs : List Frw) (B' : Option Addr) (d' : Nat) (us : List Int) (x : Frw) : Prop where
  b : BkAt B w A' c' gs B' d' us
  r : w.ownsRow B 30 2 (.slice x.a x.l.length x.c) x.l.length (cellsOf 2 gC x.l)
  y : Apt (.slice x.a x.l.length x.c) (.slice A' gs.length c')
  z : Apt (.slice x.a x.l.length x.c) (.slice B' us.length d')
theorem BkC.below (h : BkC B w A' c' gs B' d' us x) (hb : Below w.heap.size w w') : BkC B w' A' c' gs B' d' us x := ⟨h.b.below hb, own_below h.r hb, h.y, h.z⟩
theorem BkAt.copied (h : BkAt B w A' c' gs B' d' us) (hb : Below w.heap.size w w') (hB : B ≤ w.heap.size) (hx : w'.ownsRow w.heap.size 30 2 (.slice x.a x.l.length x.c) x.l.length (cellsOf 2 gC x.l)) : BkC B w' A' c' gs B' d' us x :=
  ⟨h.below hb, own_low hx hB, fun k hk e => by have h1 := (hx.lt k hk).1; have h2 := (h.f.lt k e).2; omega, fun k hk e => by have h1 := (hx.lt k hk).1; have h2 := (h.t.lt k e).2; omega⟩
theorem BkC.grow (h : BkC B w A' c' gs B' d' us x) (h1 : w'.ownsRow B 28 1 (.slice A5 (gs.length + 1) c5) (gs.length + 1) (cellsOf 1 frC gs ++ [.slice x.a x.l.length x.c]))
    (h2 : w.grownBy w' (Value.ownBlock (.slice A' gs.length c'))) (h3 : Value.ownBlock (.slice A5 (gs.length + 1) c5) = Value.ownBlock (.slice A' gs.length c') ∨ Value.ownBlock (.slice A5 (gs.length + 1) c5) = some w.heap.size) :
    BkAt B w' A5 c5 (gs ++ [x]) B' d' us := by
  have hl : (gs ++ [x]).length = gs.length + 1 := by simp
  refine ⟨by rw [hl, cellsOf_append]; exact h1, h.b.t.kept h2 h.b.a.symm.row, fun q hq => ?_, fun q hq => ?_, ?_⟩
  · rw [hl]
    rcases List.mem_append.1 hq with hq | hq
    · have q1 := h.b.o q hq
      exact ⟨q1.1.kept h2 q1.2.row, q1.2.grow h3 fun k hk => (q1.1.lt k hk).2⟩
    · obtain rfl := List.mem_singleton.1 hq
      exact ⟨h.r.kept h2 h.y.row, h.y.grow h3 fun k hk => (h.r.lt k hk).2⟩
  · rcases List.mem_append.1 hq with hq | hq
    · have q1 := h.b.o q hq
      exact ⟨q1.1.kept h2 q1.2.row, (h.b.p q hq).2⟩
    · obtain rfl := List.mem_singleton.1 hq
      exact ⟨h.r.kept h2 h.y.row, h.z⟩
  · rw [hl]
    exact (h.b.a.symm.grow h3 fun k hk => (h.b.t.lt k hk).2).symm
theorem BkAt.growT (h : BkAt B w A' c' gs B' d' us) {u : Int} (h1 : w'.ownsRow B 3 1 (.slice A5 (us.length + 1) c5) (us.length + 1) (cellsOf 1 intC us ++ [.int .i64 u]))
    (h2 : w.grownBy w' (Value.ownBlock (.slice B' us.length d'))) (h3 : Value.ownBlock (.slice A5 (us.length + 1) c5) = Value.ownBlock (.slice B' us.length d') ∨ Value.ownBlock (.slice A5 (us.length + 1) c5) = some w.heap.size) :
    BkAt B w' A' c' gs A5 c5 (us ++ [u]) := by
  have hl : (us ++ [u]).length = us.length + 1 := by simp
  refine ⟨h.f.kept h2 h.a.row, by rw [hl, cellsOf_append]; exact h1, fun q hq => ?_, fun q hq => ?_, ?_⟩
  · have q1 := h.p q hq
    exact ⟨q1.1.kept h2 q1.2.row, (h.o q hq).2⟩
  · have q1 := h.p q hq
    rw [hl]
    exact ⟨q1.1.kept h2 q1.2.row, q1.2.grow h3 fun k hk => (q1.1.lt k hk).2⟩
  · rw [hl]
    exact h.a.grow h3 fun k hk => (h.f.lt k hk).2
end
/-- the frames from the z-th on, turned about -/
def bkF (fs : List Frw) (z : Nat) : List (List Gs) := ((fs.drop z).map (·.l)).reverse
def bkT (ts : List Int) (z : Nat) : List Int := (ts.drop z).reverse
theorem bkF_step {fs : List Frw} {z : Nat} (h : z < fs.length) : bkF fs z = bkF fs (z + 1) ++ [fs[z].l] := by
  unfold bkF; rw [List.drop_eq_getElem_cons h, List.map_cons, List.reverse_cons]
theorem bkT_step {ts : List Int} {z : Nat} (h : z < ts.length) : bkT ts z = bkT ts (z + 1) ++ [ts[z]] := by
  unfold bkT; rw [List.drop_eq_getElem_cons h, List.reverse_cons]
theorem bkF_end {fs : List Frw} : bkF fs fs.length = [] := by unfold bkF; rw [List.drop_length]; rfl
theorem bkT_end {ts : List Int} : bkT ts ts.length = [] := by unfold bkT; rw [List.drop_length]; rfl
theorem bkT_len {ts : List Int} {z : Nat} : (bkT ts z).length = ts.length - z := by unfold bkT; simp
theorem bkF_len {fs : List Frw} {z : Nat} : (bkF fs z).length = fs.length - z := by unfold bkF; simp
/-- the sums of the lines from the z-th on -/
def wantV (fs : List Frw) (z : Nat) (n : Nat) : Gs := sumG ((fs.drop z).map fun x => linP x.l n)
theorem wantV_step {fs : List Frw} {z : Nat} (h : z < fs.length) (n : Nat) : wantV fs z n = gadd (wantV fs (z + 1) n) (linP fs[z].l n) := by
  unfold wantV; rw [List.drop_eq_getElem_cons h, List.map_cons, sumG, gadd_comm]
theorem wantV_end {fs : List Frw} (n : Nat) : wantV fs fs.length n = gz := by unfold wantV; rw [List.drop_length]; rfl
theorem wantV_sz {fs : List Frw} (h : ∀ x ∈ fs, x.l.length ≤ 64 ∧ ∀ y ∈ x.l, Sz 10000 y) (z n : Nat) : Sz (fs.length * 640000) (wantV fs z n) := by
  unfold wantV
  refine (sumG_sz (M := 640000) (by decide) _ fun x hx => ?_).mono ?_
  · obtain ⟨q, hq, rfl⟩ := List.mem_map.1 hx
    have := h q (List.mem_of_mem_drop hq)
    exact linP_sz this.1 this.2 n
  · rw [List.length_map, List.length_drop]; omega
/-- of the z-th frame the first k lines are added -/
def wantW (fs : List Frw) (z k n : Nat) : Gs := if n < k then wantV fs z n else wantV fs (z + 1) n
theorem wantW_zero (fs : List Frw) (z : Nat) : wantW fs z 0 = wantV fs (z + 1) := funext fun n => if_neg (by omega)
theorem wantW_at (fs : List Frw) (z k : Nat) : wantW fs z k k = wantV fs (z + 1) k := if_neg (by omega)
theorem wantW_new (fs : List Frw) (z k : Nat) : wantW fs z (k + 1) k = wantV fs z k := if_pos (by omega)
theorem wantW_old (fs : List Frw) (z k n : Nat) (h : n ≠ k) : wantW fs z (k + 1) n = wantW fs z k n := by
  unfold wantW
  by_cases hi : n < k
  · rw [if_pos hi, if_pos (by omega)]
  · rw [if_neg hi, if_neg (by omega)]
theorem wantW_end (fs : List Frw) (z n : Nat) (h : n < 4) : wantW fs z 4 n = wantV fs z n := if_pos h
theorem ints_made {w : World} {b n : Nat} {T : TypeId} (h : w.heap[b]? = some (.cells (madeCells #[.int .i64 0] n) T)) : IntsAt w (some ⟨b, 0, none⟩) (List.replicate n 0) := fun k x hk => by
  have hb : b < w.heap.size := (Array.getElem?_eq_some_iff.1 h).1
  obtain ⟨h1, h2⟩ := List.getElem?_eq_some_iff.1 hk
  rw [List.length_replicate] at h1
  rw [List.getElem_replicate] at h2
  subst h2
  refine ⟨b, 0, rfl, hb, fun j hj => ?_⟩
  obtain rfl : j = 0 := by omega
  refine blk_cell h ?_
  simp [madeCells, h1, Nat.mod_one]
theorem zip_rev {α β : Type} : ∀ (a : List α) (b : List β), a.length = b.length → a.reverse.zip b.reverse = (a.zip b).reverse
  | [], b, h => by simp
  | x :: a, [], h => by cases h
  | x :: a, y :: b, h => by
    have h2 : a.length = b.length := by simpa using h
    rw [List.reverse_cons, List.reverse_cons, List.zip_append (by simpa using h2), zip_rev a b h2]
    show (a.zip b).reverse ++ [(x, y)] = ((x, y) :: a.zip b).reverse
    rw [List.reverse_cons]
section
variable {fs : List Frw} {ts : List Int}
theorem all_len (h : frsE fs ts = 0) : ∀ x ∈ fs, x.l.length = n0 fs ∧ smpsE x.l = 0 := fun x hx => by
  obtain ⟨j, hj, rfl⟩ := List.getElem_of_mem hx
  have hok := frsE_ok h
  have h2 := h
  rw [frsE_3 hok] at h2
  have hl : j < (fz fs ts).length := by rw [fz_len hok.e]; exact hj
  have q := frG_all h2 _ (List.getElem_mem hl)
  rw [fz_at hl hj (by have := hok.e; omega)] at q
  exact ⟨(frE_zero q).1, (frE_zero q).2.1⟩
theorem all_turn (h : frsE fs ts = 0) : ∀ t ∈ ts, 0 ≤ t ∧ t ≤ 3 := fun t ht => by
  obtain ⟨j, hj, rfl⟩ := List.getElem_of_mem ht
  have hok := frsE_ok h
  have h2 := h
  rw [frsE_3 hok] at h2
  have hj2 : j < fs.length := by have := hok.e; omega
  have hl : j < (fz fs ts).length := by rw [fz_len hok.e]; exact hj2
  have q := frG_all h2 _ (List.getElem_mem hl)
  rw [fz_at hl hj2 hj] at q
  exact (frE_zero q).2.2
theorem frsE_of {fs : List Frw} {ts : List Int} {N : Nat} (hok : OkFs fs ts) (h1 : ∀ x ∈ fs, x.l.length = N ∧ smpsE x.l = 0) (h2 : ∀ t ∈ ts, 0 ≤ t ∧ t ≤ 3) : frsE fs ts = 0 ∧ n0 fs = N := by
  have hn : n0 fs = N := by rw [← n0_at hok.p]; exact (h1 _ (List.getElem_mem hok.p)).1
  refine ⟨?_, hn⟩
  rw [frsE_3 hok]
  refine frG_of fun p hp => ?_
  obtain ⟨a, b⟩ := p
  have q := List.of_mem_zip hp
  obtain ⟨x, hx, e⟩ := List.mem_map.1 q.1
  have hx1 := h1 x hx
  rw [e] at hx1
  rw [hn]
  exact frE_of hx1.1 hx1.2 (h2 b q.2)
/-- turned about, the sum is the same -/
theorem coh_back {gs : List Frw} {us : List Int} (h : frsE fs ts = 0) (hg : gs.map (·.l) = bkF fs 0) (hu : us = bkT ts 0) : cohQ gs us = cohQ fs ts := by
  have hok := frsE_ok h
  have hgl : gs.length = fs.length := by have := congrArg List.length hg; rw [bkF_len] at this; simpa using this
  have hul : us.length = ts.length := by rw [hu, bkT_len]; omega
  have hg2 : gs.map (·.l) = (fs.map (·.l)).reverse := by rw [hg]; unfold bkF; rw [List.drop_zero]
  have hu2 : us = ts.reverse := by rw [hu]; unfold bkT; rw [List.drop_zero]
  have hz : fz gs us = (fz fs ts).reverse := by
    unfold fz
    rw [hg2, hu2, zip_rev _ _ (by rw [List.length_map]; exact hok.e.symm)]
  obtain ⟨h1, h2⟩ := frsE_of (fs := gs) (ts := us) (N := n0 fs) ⟨by rw [hgl]; exact hok.p, by rw [hgl, hul]; exact hok.e, by rw [hgl]; exact hok.m⟩
    (fun x hx => by
      have hx2 : x.l ∈ fs.map (·.l) := by rw [← List.mem_reverse, ← hg2]; exact List.mem_map_of_mem hx
      obtain ⟨y, hy, e⟩ := List.mem_map.1 hx2
      rw [← e]; exact all_len h y hy)
    (fun t ht => all_turn h t (by rw [hu2] at ht; exact List.mem_reverse.1 ht))
  rw [cohQ_ok h1, cohQ_ok h, h2, hz, cohL_rev]
theorem coh_zero (h : frsE fs ts = 0) (hs : ∀ x ∈ fs, ∀ y ∈ x.l, Sz 1000 y) : cohQ fs (List.replicate fs.length 0) = (cohL (fz fs (List.replicate fs.length 0)) (n0 fs), 0) ∧ smpsE (cohL (fz fs (List.replicate fs.length 0)) (n0 fs)) = 0 ∧ ∀ n, linP (cohL (fz fs (List.replicate fs.length 0)) (n0 fs)) n = wantV fs 0 n := by
  have hok := frsE_ok h
  have hal := all_len h
  obtain ⟨h1, -⟩ := frsE_of (fs := fs) (ts := List.replicate fs.length 0) (N := n0 fs) ⟨hok.p, by simp, hok.m⟩ hal (fun t ht => by rw [(List.mem_replicate.1 ht).2]; omega)
  have hzl : (fz fs (List.replicate fs.length 0)).length = fs.length := fz_len (by simp)
  refine ⟨cohQ_ok h1, smpsE_of (by rw [cohL_len, ← n0_at hok.p]; exact (smpsE_zero (hal _ (List.getElem_mem hok.p)).2).1) (fun y hy => ?_), fun n => ?_⟩
  · unfold cohL at hy
    obtain ⟨k, -, rfl⟩ := List.mem_map.1 hy
    refine (cohG_sz (M := 1000) (by decide) _ (fun f hf x hx => ?_) k).mono (by rw [hzl]; have := hok.m; omega)
    obtain ⟨a, b⟩ := f
    obtain ⟨q, hq, e⟩ := List.mem_map.1 (List.of_mem_zip hf).1
    exact hs q hq x (by rw [e]; exact hx)
  · have hl := lines_coh (fz fs (List.replicate fs.length 0)) (n0 fs) (fun f hf => by
      obtain ⟨a, b⟩ := f
      exact (List.mem_replicate.1 (List.of_mem_zip hf).2).2) (-1) n (n0 fs) (Nat.le_refl _)
    unfold linP wantV
    rw [cohL_len, hl, List.drop_zero]
    congr 1
    apply List.ext_getElem
    · rw [List.length_map, List.length_map, hzl]
    · intro i h3 h4
      have hi : i < fs.length := by simpa using h4
      rw [List.getElem_map, List.getElem_map, fz_at (by rw [hzl]; exact hi) hi (by simpa using hi)]
      show lnK fs[i].l (-1) n (n0 fs) = lnK fs[i].l (-1) n fs[i].l.length
      rw [(hal _ (List.getElem_mem hi)).1]
end
theorem frs_congr {fs gs : List Frw} (h : gs.map (·.l) = fs.map (·.l)) (ts : List Int) : cohQ gs ts = cohQ fs ts := by
  have hl : gs.length = fs.length := by have := congrArg List.length h; simpa using this
  have hz : fz gs ts = fz fs ts := by unfold fz; rw [h]
  have hn : n0 gs = n0 fs := by
    cases gs with
    | nil => cases fs with
      | nil => rfl
      | cons a r => cases hl
    | cons b q => cases fs with
      | nil => cases hl
      | cons a r =>
        rw [List.map_cons, List.map_cons] at h
        injection h with h1 h2
        show b.l.length = a.l.length
        rw [h1]
  have he : frsE gs ts = frsE fs ts := by unfold frsE; rw [hl, hz, hn]
  unfold cohQ
  rw [he, hz, hn]
theorem coh_call {fs gs : List Frw} {ts : List Int} {C' D' : Option Addr} {W : World} (hg : gs.map (·.l) = fs.map (·.l)) (h1 : fs.length ≤ 1000) (h2 : ts.length ≤ 1000) (hfl : ∀ q ∈ fs, q.l.length ≤ 1000) (a b : Nat) (h : FrsAt W C' gs) (h' : IntsAt W D' ts) :
    Calls Tryd.prog 10 #[.slice C' fs.length a, .slice D' ts.length b] W (GsE (cohQ fs ts) W) := by
  have hl : gs.length = fs.length := by have := congrArg List.length hg; simpa using this
  have q := CoherentSum_any C' gs a D' ts b W (by omega) h2 (fun q hq => by
    have hm : q.l ∈ fs.map (·.l) := by rw [← hg]; exact List.mem_map_of_mem hq
    obtain ⟨y, hy, e⟩ := List.mem_map.1 hm
    rw [← e]; exact hfl y hy) h h'
  rw [frs_congr hg ts, hl] at q
  exact q
end Go.Proofs.YtlnbbioponmcfaaDoor
