/-
  Chapter 8: the changes of a state over a list of values (a range over a function).
-/
import Derived.Test.YtcfbnmcdncndpaaWStp
import Derived.Test.YtcfbnmcdncndpaaWRng
import Derived.Shelf.RegionOpen
namespace Go.Proofs.Ytcfbnmcdncndpaa
open Go.ChangeShapes Go.WideShapes Go.ChangeAt Go.RowKit
set_option linter.unusedVariables false
set_option linter.unusedSimpArgs false
attribute [local go_sem] Oper.semAt_some

/-- a state behind k values -/
structure OkK (n : Nat) (hold : Int) (k : Nat) (s : Sta) : Prop where
  l0 : 0 ≤ s.l
  l1 : s.l ≤ n
  b0 : 0 ≤ s.b
  b1 : s.b < hold
  v0 : 0 ≤ s.v
  v1 : s.v ≤ k
theorem OkK.okS {n : Nat} {hold : Int} {k : Nat} {s : Sta} (h : OkK n hold k s) (hh : hold ≤ 20) (hk : k ≤ 2000000) : OkS n s := by
  obtain ⟨a, b, c, d, e, f⟩ := h
  exact ⟨a, b, c, by omega, e, by omega⟩
theorem OkK.step {u d : List Int} {hold : Int} {k : Nat} {s : Sta} (h : OkK u.length hold k s) (hd : d.length = u.length) (h1 : 1 ≤ hold) (x : Int) : OkK u.length hold (k + 1) (stepS u d hold s x) := by
  obtain ⟨l0, l1, b0, b1, v0, v1⟩ := h
  have hu := reach_bd u x
  have hdd := reach_bd (d.take (s.l - 1).toNat) x
  have ht : (d.take (s.l - 1).toNat).length ≤ d.length := by simp; omega
  unfold stepS
  split
  · exact ⟨by simp; omega, by simp; omega, by simp, by simp; omega, by simp; omega, by simp; omega⟩
  · split
    · exact ⟨l0, l1, by simp, by simp; omega, v0, by simp; omega⟩
    · split
      · exact ⟨l0, l1, by simp, by simp; omega, v0, by simp; omega⟩
      · split
        · exact ⟨hdd.1, Int.le_trans hdd.2 (by omega), by simp, by simp; omega, by simp; omega, by simp; omega⟩
        · exact ⟨l0, l1, by simp; omega, by simp; omega, v0, by simp; omega⟩
def runS (u d : List Int) (hold : Int) (s : Sta) (l : List Int) : Sta := l.foldl (stepS u d hold) s
/-- where the version changes: the index, the state before, the state after -/
def chs (u d : List Int) (hold : Int) : Nat → Sta → List Int → List (Nat × Sta × Sta)
  | _, _, [] => []
  | i, s, x :: r => (if (stepS u d hold s x).v = s.v then [] else [(i, s, stepS u d hold s x)]) ++ chs u d hold (i + 1) (stepS u d hold s x) r
def staC (s : Sta) : Value := .agg #[.int .i64 s.l, .int .i64 s.b, .int .i64 s.v]
def chC (x : Nat × Sta × Sta) : Array Value := #[.int .i64 x.1, .agg #[.int .i64 x.2.1.l, .int .i64 x.2.1.b, .int .i64 x.2.1.v, .int .i64 x.2.2.l, .int .i64 x.2.2.b, .int .i64 x.2.2.v]]

/-- all below is kept but for one block -/
structure StL (lb : Nat) (B : Nat) (A A' : World) : Prop where
  os : A'.os = A.os
  tape : A'.tape = A.tape
  output : A'.output = A.output
  size : A.heap.size ≤ A'.heap.size
  block : ∀ k, k < A.heap.size → k ≠ lb → A'.heap[k]? = A.heap[k]?
theorem StL.of_below {lb B : Nat} {A A' : World} (h : Below A.heap.size A A') : StL lb B A A' := ⟨h.os, h.tape, h.output, h.size, fun k hk _ => h.block k hk⟩
theorem StL.trans {lb B : Nat} {A A' A'' : World} (h : StL lb B A A') (k : StL lb B A' A'') : StL lb B A A'' :=
  ⟨k.os.trans h.os, k.tape.trans h.tape, k.output.trans h.output, Nat.le_trans h.size k.size, fun i hi hn => (k.block i (Nat.lt_of_lt_of_le hi h.size) hn).trans (h.block i hi hn)⟩
theorem StL.set {lb B : Nat} {A : World} {j : Nat} {v : Value} : StL lb B A (A.setCell ⟨lb, j, none⟩ v) :=
  let h : Below 0 A (A.setCell ⟨lb, j, none⟩ v) := below_set v (Nat.zero_le _) (Below.refl _ _)
  ⟨h.os, h.tape, h.output, by simp, fun k hk hn => Below.heap_setCell A ⟨lb, j, none⟩ v k hn⟩
theorem StL.below {lb B B0 : Nat} {w A A' : World} (hb : Below B0 w A) (h : StL lb B A A') (h0 : B0 ≤ w.heap.size) (hl : B0 ≤ lb) : Below B0 w A' :=
  ⟨h.os.trans hb.os, h.tape.trans hb.tape, h.output.trans hb.output, Nat.le_trans hb.size h.size, fun k hk => (h.block k (Nat.lt_of_lt_of_le hk (Nat.le_trans h0 hb.size)) (by omega)).trans (hb.block k hk)⟩
theorem StL.frozen {lb B : Nat} {A A' : World} (h : StL lb B A A') {p : Addr} {v : Value} (hp : A.cell? p = some v) (hn : p.block ≠ lb) : A'.frozen? p = A.frozen? p := by
  obtain ⟨o, ho, hc⟩ := cells_of_cell hp
  exact World.frozen?_of_block (h.block _ (Array.getElem?_eq_some_iff.1 ho).1 hn)
theorem StL.set3 {lb B : Nat} {A : World} {v0 v1 v2 : Value} : StL lb B A (((A.setCell ⟨lb, 0, none⟩ v0).setCell ⟨lb, 1, none⟩ v1).setCell ⟨lb, 2, none⟩ v2) := StL.set.trans (StL.set.trans StL.set)
theorem StL.cell {lb B : Nat} {A A' : World} (h : StL lb B A A') {p : Addr} {v : Value} (hp : A.cell? p = some v) (hn : p.block ≠ lb) : A'.cell? p = some v := by
  obtain ⟨o, ho, hc⟩ := cells_of_cell hp
  exact (World.cell?_of_block (h.block _ (Array.getElem?_eq_some_iff.1 ho).1 hn)).trans hp
def KpO (B0 ob : Nat) (A B : World) : Prop := ∀ (k : Nat) (o : Obj), k < B0 → k ≠ ob → A.heap[k]? = some o → B.heap[k]? = some o
theorem kpO_t {B0 ob : Nat} {A B C : World} (h : KpO B0 ob A B) (k : KpO B0 ob B C) : KpO B0 ob A C := fun i o hi hn ho => k i o hi hn (h i o hi hn ho)
theorem KpO.eq {B0 ob : Nat} {A B : World} (h : KpO B0 ob A B) {k : Nat} (hk : k < B0) (hn : k ≠ ob) (hA : k < A.heap.size) : B.heap[k]? = A.heap[k]? := by
  have ho : A.heap[k]? = some A.heap[k] := Array.getElem?_eq_getElem hA
  rw [ho]; exact h k _ hk hn ho
theorem KpO.ck {B0 ob : Nat} {A B : World} (h : CK B0 A B) : KpO B0 ob A B := fun k o hk _ ho => h.same k o ho (.inl hk)
theorem RowsAt.keepB {α : Type} {m : Nat} {f : α → Nat → Value} {w w' : World} {A : Option Addr} {l : List α} (h : RowsAt m f w A l) (hs : w.heap.size ≤ w'.heap.size) (hk : ∀ k, k < w.heap.size → w'.heap[k]? = w.heap[k]?) : RowsAt m f w' A l := fun k x hx => by
  obtain ⟨b, off, e, hb, hc⟩ := h k x hx
  exact ⟨b, off, e, by omega, fun j hj => (World.cell?_of_block (hk _ hb)).trans (hc j hj)⟩
/-- a block that holds a state -/
structure StaAt (b : Nat) (s : Sta) (w : World) : Prop where
  c0 : w.cell? ⟨b, 0, none⟩ = some (.int .i64 s.l)
  c1 : w.cell? ⟨b, 1, none⟩ = some (.int .i64 s.b)
  c2 : w.cell? ⟨b, 2, none⟩ = some (.int .i64 s.v)
  f0 : w.frozen? ⟨b, 0, none⟩ = false
  f1 : w.frozen? ⟨b, 1, none⟩ = false
  f2 : w.frozen? ⟨b, 2, none⟩ = false
theorem StaAt.of_block {b : Nat} {s : Sta} {w w' : World} (h : StaAt b s w) (e : w'.heap[b]? = w.heap[b]?) : StaAt b s w' :=
  ⟨(World.cell?_of_block e).trans h.c0, (World.cell?_of_block e).trans h.c1, (World.cell?_of_block e).trans h.c2, (World.frozen?_of_block e).trans h.f0, (World.frozen?_of_block e).trans h.f1, (World.frozen?_of_block e).trans h.f2⟩
theorem StaAt.lt {b : Nat} {s : Sta} {w : World} (h : StaAt b s w) : b < w.heap.size := World.block_lt_of_cell? w _ h.c0
theorem StaAt.below {b : Nat} {s : Sta} {w w' : World} (h : StaAt b s w) (hb : Below w.heap.size w w') : StaAt b s w' := h.of_block (hb.block _ h.lt)
theorem StaAt.ck {B b : Nat} {s : Sta} {w w' : World} (h : StaAt b s w) (k : CK B w w') : StaAt b s w' :=
  ⟨k.cell h.c0, k.cell h.c1, k.cell h.c2, (k.frozen h.c0).trans h.f0, (k.frozen h.c1).trans h.f1, (k.frozen h.c2).trans h.f2⟩
theorem StaAt.put {b : Nat} {s t : Sta} {w : World} (h : StaAt b s w) : StaAt b t (((w.setCell ⟨b, 0, none⟩ (.int .i64 t.l)).setCell ⟨b, 1, none⟩ (.int .i64 t.b)).setCell ⟨b, 2, none⟩ (.int .i64 t.v)) :=
  let ⟨x, y, z⟩ := set3 (v0 := .int .i64 t.l) (v1 := .int .i64 t.b) (v2 := .int .i64 t.v) h.c0 h.c1 h.c2
  ⟨x, y, z, frozen_set _ _ (frozen_set _ _ (frozen_set _ _ h.f0)), frozen_set _ _ (frozen_set _ _ (frozen_set _ _ h.f1)), frozen_set _ _ (frozen_set _ _ (frozen_set _ _ h.f2))⟩

theorem StaAt.stL {lb B b : Nat} {s : Sta} {w w' : World} (h : StaAt b s w) (k : StL lb B w w') (hn : b ≠ lb) : StaAt b s w' := h.of_block (k.block _ h.lt hn)
/-- what the iterator finds -/
structure ChW (nm : ByteArray) (A : Option Addr) (u : List Int) (ca : Nat) (B : Option Addr) (d : List Int) (cb : Nat) (hold : Int) (V : Option Addr) (vs : List Int) (cv : Nat) (bv bl br lb : Nat) (w : World) : Prop where
  ha : IntsAt w A u
  hb : IntsAt w B d
  hv : IntsAt w V vs
  v : w.cell? ⟨bv, 0, none⟩ = some (.slice V vs.length cv)
  l : w.cell? ⟨bl, 0, none⟩ = some (.pointer (some ⟨lb, 0, none⟩))
  r0 : w.cell? ⟨br, 0, none⟩ = some (.string nm)
  r1 : w.cell? ⟨br, 1, none⟩ = some (.slice A u.length ca)
  r2 : w.cell? ⟨br, 2, none⟩ = some (.slice B d.length cb)
  r3 : w.cell? ⟨br, 3, none⟩ = some (.int .i64 hold)
/-- .. and finds again: a place that no write reaches -/
structure ChK (B0 w00 bv bl br lb ob : Nat) : Prop where
  w0 : w00 ≤ B0
  w1 : w00 ≤ lb
  w2 : w00 ≤ ob
  b1 : bv < B0 ∧ bv ≠ lb ∧ bv ≠ ob
  b2 : bl < B0 ∧ bl ≠ lb ∧ bl ≠ ob
  b3 : br < B0 ∧ br ≠ lb ∧ br ≠ ob
  b4 : lb < B0
  b5 : lb ≠ ob
theorem ChW.keep {nm : ByteArray} {A : Option Addr} {u : List Int} {ca : Nat} {B : Option Addr} {d : List Int} {cb : Nat} {hold : Int} {V : Option Addr} {vs : List Int} {cv : Nat} {bv bl br lb ob : Nat} {w00 w0 wr : World} (h : ChW nm A u ca B d cb hold V vs cv bv bl br lb w0)
    (hA : IntsAt w00 A u) (hB : IntsAt w00 B d) (hV : IntsAt w00 V vs) (hk : ChK w0.heap.size w00.heap.size bv bl br lb ob) (hb0 : Below w00.heap.size w00 w0) (hs : w0.heap.size ≤ wr.heap.size) (hsm : ∀ k, k < w0.heap.size → k ≠ lb → k ≠ ob → wr.heap[k]? = w0.heap[k]?) : ChW nm A u ca B d cb hold V vs cv bv bl br lb wr := by
  obtain ⟨k0, k1, k2, ⟨k3, k4, k5⟩, ⟨k6, k7, k8⟩, ⟨k9, k10, k11⟩, k12, k13⟩ := hk
  have hz := hb0.size
  have hold : ∀ k, k < w00.heap.size → wr.heap[k]? = w00.heap[k]? := fun k hk => (hsm k (by omega) (by omega) (by omega)).trans (hb0.block k hk)
  have hc : ∀ (k : Nat) (j : Nat), k < w0.heap.size → k ≠ lb → k ≠ ob → wr.cell? ⟨k, j, none⟩ = w0.cell? ⟨k, j, none⟩ := fun k j h1 h2 h3 => World.cell?_of_block (hsm k h1 h2 h3)
  exact ⟨hA.keepB (by omega) hold, hB.keepB (by omega) hold, hV.keepB (by omega) hold, (hc _ _ k3 k4 k5).trans h.v, (hc _ _ k6 k7 k8).trans h.l, (hc _ _ k9 k10 k11).trans h.r0, (hc _ _ k9 k10 k11).trans h.r1, (hc _ _ k9 k10 k11).trans h.r2, (hc _ _ k9 k10 k11).trans h.r3⟩

set_option maxRecDepth 100000 in
set_option maxHeartbeats 4000000 in
theorem changes_it (n : Nat) (nm : ByteArray) (A : Option Addr) (u : List Int) (ca : Nat) (B : Option Addr) (d : List Int) (cb : Nat) (hold : Int) (V : Option Addr) (vs : List Int) (cv : Nat) (bv bl br lb ob : Nat) (w00 w0 : World)
    (ho : OkR nm u d hold) (hcb : d.length ≤ cb) (hvl : vs.length ≤ 500) (hA : IntsAt w00 A u) (hB : IntsAt w00 B d) (hV : IntsAt w00 V vs) (hb0 : Below w00.heap.size w00 w0) (hk : ChK w0.heap.size w00.heap.size bv bl br lb ob)
    (h0 : ChW nm A u ca B d cb hold V vs cv bv bl br lb w0) (hl0 : StaAt lb ⟨0, 0, 0⟩ w0) :
    IterOk2 Try.prog n 125 #[] #[.pointer (some ⟨bv, 0, none⟩), .pointer (some ⟨bl, 0, none⟩), .pointer (some ⟨br, 0, none⟩)] chC (StL lb) (KpO w0.heap.size ob) (fun ys => ys = chs u d hold 0 ⟨0, 0, 0⟩ vs) (fun pre => pre <+: chs u d hold 0 ⟨0, 0, 0⟩ vs)
      (fun _ W => StaAt lb (runS u d hold ⟨0, 0, 0⟩ vs) W) w0 := by
  intro lp J Jx W hW hJ hJx hY hJ0
  refine callsIn_of_wp Try.func125 rfl trivial ?_ rfl
  simp only [Try.ntmps125, List.size_toArray, List.length_cons, List.length_nil, Nat.reduceAdd, Nat.reduceSub, Array.replicate_succ, Array.replicate_zero, List.push_toArray, List.append_toArray, List.nil_append, List.cons_append]
  have hsm0 : ∀ k, k < w0.heap.size → k ≠ lb → k ≠ ob → W.heap[k]? = w0.heap[k]? := fun k hk _ _ => hW.block k hk
  have hl1 : StaAt lb ⟨0, 0, 0⟩ W := hl0.below hW
  obtain ⟨x1, x2, x3, x4, x5, x6, x7, x8, x9⟩ := h0.keep hA hB hV hk hb0 hW.size hsm0
  have HJ := Lib.hid hJ
  have HJx := Lib.hid hJx
  have HY := Lib.hid hY
  have HO := Lib.hid ho
  have H0 := Lib.hid h0
  have hWz := hW.size
  clear hJ hJx hY ho h0 hl0 hW
  gi_wp2
  gi_loopw [10] (fun i wr => ∃ (k : Nat) (s : Sta) (pre : List (Nat × Sta × Sta)), k ≤ vs.length ∧ i = .int .i64 k ∧ OkK u.length hold k s ∧ chs u d hold 0 ⟨0, 0, 0⟩ vs = pre ++ chs u d hold k s (vs.drop k) ∧ runS u d hold ⟨0, 0, 0⟩ vs = runS u d hold s (vs.drop k) ∧ J pre wr ∧ StaAt lb s wr ∧ (∀ k, k < w0.heap.size → k ≠ lb → k ≠ ob → wr.heap[k]? = w0.heap[k]?) ∧ W.heap.size ≤ wr.heap.size)
    (fun i _ => vs.length - (intOf i).toNat)
  case atStart => exact ⟨0, ⟨0, 0, 0⟩, [], Nat.zero_le _, rfl, ⟨by simp, by simp, by simp, by have := HO.out.h0; simp; omega, by simp, by simp⟩, rfl, rfl, hJ0, hl1, hsm0, Nat.le_refl _⟩
  case round =>
    obtain ⟨k, s, pre, hkl, rfl, hok, hpre, hrun, hJr, hst, hsm, hWr⟩ := hrel
    clear x1 x2 x3 x4 x5 x6 x7 x8 x9 hl1 hJ0 hsm0
    obtain ⟨x1, x2, x3, x4, x5, x6, x7, x8, x9⟩ := H0.out.keep hA hB hV hk hb0 (by omega) hsm
    have HP := Lib.hid hpre
    have HR := Lib.hid hrun
    have HS := Lib.hid hsm
    clear hpre hrun hsm
    by_cases hlt : k < vs.length
    · obtain ⟨b, off, rfl, hb, hc⟩ := IntsAt.at_ x3 hlt
      have hdr : vs.drop k = vs[k] :: vs.drop (k + 1) := List.drop_eq_getElem_cons hlt
      rw [hdr] at HP HR
      clear hdr
      generalize vs[k] = x at *
      obtain ⟨s0, s1, s2, g0, g1, g2⟩ := hst
      have hokS := hok.okS HO.out.h1 (by omega)
      obtain ⟨sl, sb, sv⟩ := s
      simp only at s0 s1 s2
      have hlb : lb < wr.heap.size := by have := hk.b4; omega
      have hbv : bv < wr.heap.size := by have := hk.b1; omega
      have hbl : bl < wr.heap.size := by have := hk.b2; omega
      have hbr : br < wr.heap.size := by have := hk.b3; omega
      gi_wp2_with (fail)
      have hb1 : Below wr.heap.size wr (wr.alloc (Obj.cells #[Value.int IntKind.i64 sl, Value.int IntKind.i64 sb, Value.int IntKind.i64 sv] 61)) := (by repeat (first | assumption | exact Below.refl _ _ | refine Below.drew ?_ | (refine below_alloc _ ?_ ?_; focus (first | omega | (simp; done) | (simp; omega) | (simp at *; omega))) | (refine below_set _ ?_ ?_; focus (first | omega | (simp; done) | (simp; omega) | (simp at *; omega))) | refine below_drewN ?_ _ | (refine below_call (by assumption) ?_ ?_; focus (first | omega | (simp; done) | (simp; omega) | (simp at *; omega))) | (refine below_call' (by assumption) ?_ ?_; focus (first | omega | (simp; done) | (simp; omega) | (simp at *; omega)))))
      have y0 : (wr.alloc (Obj.cells #[Value.int IntKind.i64 sl, Value.int IntKind.i64 sb, Value.int IntKind.i64 sv] 61)).cell? ⟨wr.heap.size, 0, none⟩ = some (.int .i64 sl) := (by repeat (first | assumption | (refine cell_new ?_ rfl; focus (simp; done)) | refine cell_drew ?_ | refine cell_alloc _ ?_ | refine cell_drewN _ ?_ | (refine cell_far ?_ ?_; focus (first | omega | (simp; omega) | (simp; done))) | refine cell_below' (by assumption) ?_))
      have y1 : (wr.alloc (Obj.cells #[Value.int IntKind.i64 sl, Value.int IntKind.i64 sb, Value.int IntKind.i64 sv] 61)).cell? ⟨wr.heap.size, 1, none⟩ = some (.int .i64 sb) := (by repeat (first | assumption | (refine cell_new ?_ rfl; focus (simp; done)) | refine cell_drew ?_ | refine cell_alloc _ ?_ | refine cell_drewN _ ?_ | (refine cell_far ?_ ?_; focus (first | omega | (simp; omega) | (simp; done))) | refine cell_below' (by assumption) ?_))
      have y2 : (wr.alloc (Obj.cells #[Value.int IntKind.i64 sl, Value.int IntKind.i64 sb, Value.int IntKind.i64 sv] 61)).cell? ⟨wr.heap.size, 2, none⟩ = some (.int .i64 sv) := (by repeat (first | assumption | (refine cell_new ?_ rfl; focus (simp; done)) | refine cell_drew ?_ | refine cell_alloc _ ?_ | refine cell_drewN _ ?_ | (refine cell_far ?_ ?_; focus (first | omega | (simp; omega) | (simp; done))) | refine cell_below' (by assumption) ?_))
      replace x1 := x1.below hb1
      replace x2 := x2.below hb1
      replace x3 := x3.below hb1
      replace x5 := cell_below' hb1 x5
      replace x6 := cell_below' hb1 x6
      replace x7 := cell_below' hb1 x7
      replace x8 := cell_below' hb1 x8
      replace x9 := cell_below' hb1 x9
      replace x4 := cell_below' hb1 x4
      replace s0 := cell_below' hb1 s0
      replace s1 := cell_below' hb1 s1
      replace s2 := cell_below' hb1 s2
      replace g0 := frozen_below hb1 hlb g0
      replace g1 := frozen_below hb1 hlb g1
      replace g2 := frozen_below hb1 hlb g2
      have hz1 : (wr.alloc (Obj.cells #[Value.int IntKind.i64 sl, Value.int IntKind.i64 sb, Value.int IntKind.i64 sv] 61)).heap.size = wr.heap.size + 1 := by simp
      replace hJr := HJ.out _ _ _ hJr hWr (StL.of_below hb1)
      have hsm1 : ∀ k, k < w0.heap.size → k ≠ lb → k ≠ ob → (wr.alloc (Obj.cells #[Value.int IntKind.i64 sl, Value.int IntKind.i64 sb, Value.int IntKind.i64 sv] 61)).heap[k]? = w0.heap[k]? := fun k h1 h2 h3 => (hb1.block k (by omega)).trans (HS.out k h1 h2 h3)
      clear HS hb1
      have HS := Lib.hid hsm1
      clear hsm1
      generalize (wr.alloc (Obj.cells #[Value.int IntKind.i64 sl, Value.int IntKind.i64 sb, Value.int IntKind.i64 sv] 61)) = wa at *
      have hlbne : wr.heap.size ≠ lb := by omega
      have hza : wr.heap.size < wa.heap.size := by omega
      replace hlb : lb < wa.heap.size := by omega
      replace hbl : bl < wa.heap.size := by omega
      replace hbr : br < wa.heap.size := by omega
      replace hbv : bv < wa.heap.size := by omega
      replace hb : b < wa.heap.size := by omega
      replace hWr : W.heap.size ≤ wa.heap.size := by omega
      generalize wr.heap.size = nb at *
      refine wpIn_wide.2 ?_
      (refine region_extx 5 (by kernel_rfl) (by kernel_rfl) fun hx => ?_; simp only [List.take_succ_cons, List.take_zero, List.drop_succ_cons, List.drop_zero]; (repeat (any_goals (first | go_big_quiet_step (((go_at_call 101; exact ext_call (step_any nm A u ca B d cb hold sl sb sv x _ (by have := HO.out.n4; omega) HO.out.dl hcb hokS (x1.below (ext_bel _ _)) (x2.below (ext_bel _ _)))))) | quiet_step (((go_at_call 101; exact ext_call (step_any nm A u ca B d cb hold sl sb sv x _ (by have := HO.out.n4; omega) HO.out.dl hcb hokS (x1.below (ext_bel _ _)) (x2.below (ext_bel _ _))))))))))
      (refine wpQuiet_nil ?_; clear hx; intro u; have hbw2 := ext_bel _ u; have hxw2 := ext_cell _ u; generalize ext _ u = w2 at *; clear u; have hsw2 := hbw2.size; (try simp at hsw2))
      replace x4 := cell_below' hbw2 x4
      replace x5 := cell_below' hbw2 x5
      replace y0 := cell_below' hbw2 y0
      replace y1 := cell_below' hbw2 y1
      replace y2 := cell_below' hbw2 y2
      replace s0 := cell_below' hbw2 s0
      replace s1 := cell_below' hbw2 s1
      replace s2 := cell_below' hbw2 s2
      replace g0 := frozen_below hbw2 hlb g0
      replace g1 := frozen_below hbw2 hlb g1
      replace g2 := frozen_below hbw2 hlb g2
      have hok2 := hok.step HO.out.dl HO.out.h0 x
      have hchs : chs u d hold k ⟨sl, sb, sv⟩ (x :: vs.drop (k + 1)) = (if (stepS u d hold ⟨sl, sb, sv⟩ x).v = sv then [] else [(k, ⟨sl, sb, sv⟩, stepS u d hold ⟨sl, sb, sv⟩ x)]) ++ chs u d hold (k + 1) (stepS u d hold ⟨sl, sb, sv⟩ x) (vs.drop (k + 1)) := rfl
      have hrs : runS u d hold ⟨sl, sb, sv⟩ (x :: vs.drop (k + 1)) = runS u d hold (stepS u d hold ⟨sl, sb, sv⟩ x) (vs.drop (k + 1)) := rfl
      rw [hchs] at HP
      rw [hrs] at HR
      clear hchs hrs hokS hxw2
      generalize stepS u d hold ⟨sl, sb, sv⟩ x = t at *
      have hsm2 : ∀ k, k < w0.heap.size → k ≠ lb → k ≠ ob → (((w2.setCell ⟨lb, 0, none⟩ (.int .i64 t.l)).setCell ⟨lb, 1, none⟩ (.int .i64 t.b)).setCell ⟨lb, 2, none⟩ (.int .i64 t.v)).heap[k]? = w0.heap[k]? := fun k h1 h2 h3 =>
        ((StL.set3 : StL lb 0 w2 _).block k (by omega) h2).trans ((hbw2.block k (by omega)).trans (HS.out k h1 h2 h3))
      have hJ3 : J pre (((w2.setCell ⟨lb, 0, none⟩ (.int .i64 t.l)).setCell ⟨lb, 1, none⟩ (.int .i64 t.b)).setCell ⟨lb, 2, none⟩ (.int .i64 t.v)) :=
        HJ.out _ _ _ hJr hWr ((StL.of_below hbw2).trans StL.set3)
      have hz3 : (((w2.setCell ⟨lb, 0, none⟩ (.int .i64 t.l)).setCell ⟨lb, 1, none⟩ (.int .i64 t.b)).setCell ⟨lb, 2, none⟩ (.int .i64 t.v)).heap.size = w2.heap.size := by simp
      have hst3 := (⟨s0, s1, s2, g0, g1, g2⟩ : StaAt lb ⟨sl, sb, sv⟩ w2).put (t := t)
      go_upto_region 5 with (fail)
      replace x5 : (((w2.setCell ⟨lb, 0, none⟩ (.int .i64 t.l)).setCell ⟨lb, 1, none⟩ (.int .i64 t.b)).setCell ⟨lb, 2, none⟩ (.int .i64 t.v)).cell? ⟨bl, 0, none⟩ = some (.pointer (some ⟨lb, 0, none⟩)) := far3 hk.b2.2.1.symm x5
      replace y0 := far3 (v0 := .int .i64 t.l) (v1 := .int .i64 t.b) (v2 := .int .i64 t.v) hlbne.symm y0
      replace y1 := far3 (v0 := .int .i64 t.l) (v1 := .int .i64 t.b) (v2 := .int .i64 t.v) hlbne.symm y1
      replace y2 := far3 (v0 := .int .i64 t.l) (v1 := .int .i64 t.b) (v2 := .int .i64 t.v) hlbne.symm y2
      clear s0 s1 s2 g0 g1 g2 hJr HS x4
      have HS := Lib.hid hsm2
      clear hsm2
      generalize (((w2.setCell ⟨lb, 0, none⟩ (.int .i64 t.l)).setCell ⟨lb, 1, none⟩ (.int .i64 t.b)).setCell ⟨lb, 2, none⟩ (.int .i64 t.v)) = w3 at *
      replace hlb : lb < w3.heap.size := by omega
      replace hbl : bl < w3.heap.size := by omega
      replace hza : nb < w3.heap.size := by omega
      replace hWr : W.heap.size ≤ w3.heap.size := by omega
      clear x1 x2 x3 x6 x7 x8 x9 hz1 hbw2 hsw2 hz3 hbr hbv hb hc
      obtain ⟨s0, s1, s2, g0, g1, g2⟩ := hst3
      gi_wp2_with (fail)
      by_cases hv : t.v = sv
      · have hv1 : (t.v == sv) = true := by simp [hv]
        have hv2 : (t.v != sv) = false := by simp [hv]
        (refine region_readx_in 15 (by kernel_rfl) (by kernel_rfl) ?_; simp only [List.take_succ_cons, List.take_zero, List.drop_succ_cons, List.drop_zero]; (repeat (any_goals (first | go_big_quiet_step (fail) | quiet_step (fail)))); refine wpQuiet_nil ?_; intro _ hw'; obtain ⟨nq, hw''⟩ := hw'; subst hw'')
        rw [if_pos hv, List.nil_append] at HP
        gi_wp2
        refine ⟨(fun _ h => by cases h), ?_⟩
        gi_wp2
        go_roundw
        case rel => exact ⟨k + 1, t, pre, by omega, by go_num, hok2, HP.out, HR.out, HJ.out _ _ _ hJ3 hWr (StL.of_below (below_drewN (Below.refl _ _) _)), ⟨cell_drewN _ s0, cell_drewN _ s1, cell_drewN _ s2, frozen_drewN _ g0, frozen_drewN _ g1, frozen_drewN _ g2⟩, HS.out, hWr⟩
        case measure => simp [intOf]; omega
      · have hv1 : (t.v == sv) = false := by simp [hv]
        have hv2 : (t.v != sv) = true := by simp [hv]
        rw [if_neg hv] at HP
        (refine region_readx_in 15 (by kernel_rfl) (by kernel_rfl) ?_; simp only [List.take_succ_cons, List.take_zero, List.drop_succ_cons, List.drop_zero]; (repeat (any_goals (first | go_big_quiet_step (fail) | quiet_step (fail)))); refine wpQuiet_nil ?_; intro _ hw'; obtain ⟨nq, hw''⟩ := hw'; subst hw'')
        have hJ4 := HJ.out _ _ _ hJ3 hWr (StL.of_below (below_drewN (Below.refl _ w3) nq))
        obtain ⟨fn, tmps, assign, body, hy, hR⟩ := HY.out pre (k, ⟨sl, sb, sv⟩, t) _ hJ4 ⟨chs u d hold (k + 1) t (vs.drop (k + 1)), by rw [HP.out]; simp⟩ hWr
        replace hy : (Instr.yield lp #[.int .i64 k, .agg #[.int .i64 sl, .int .i64 sb, .int .i64 sv, .int .i64 t.l, .int .i64 t.b, .int .i64 t.v]]).run Try.prog (w3.drewN nq) = .ok (.round lp fn tmps assign body) (w3.drewN nq) := hy
        have HR2 := Lib.hid hR
        clear hR
        gi_wp2
        refine ⟨(fun h => by cases h), HR2.out.mono ?_⟩
        rintro e W3 (⟨rfl, hJ5, hk5, hz5⟩ | ⟨rfl, hJx3, hz3⟩)
        · replace hz5 : w3.heap.size ≤ W3.heap.size := hz5
          have hlbk : W3.heap[lb]? = w3.heap[lb]? := hk5.eq hk.b4 hk.b5 (show lb < w3.heap.size by omega)
          have hst5 : StaAt lb t W3 := (⟨s0, s1, s2, g0, g1, g2⟩ : StaAt lb t w3).of_block hlbk
          have hsm5 : ∀ k, k < w0.heap.size → k ≠ lb → k ≠ ob → W3.heap[k]? = w0.heap[k]? := fun k h1 h2 h3 => (hk5.eq h1 h3 (show k < w3.heap.size by omega)).trans (HS.out k h1 h2 h3)
          clear hk5
          have HS5 := Lib.hid hsm5
          clear hsm5
          gi_wp2
          go_roundw
          case rel => exact ⟨k + 1, t, pre ++ [(k, ⟨sl, sb, sv⟩, t)], by omega, by go_num, hok2, by rw [HP.out]; simp, HR.out, hJ5, hst5, HS5.out, by omega⟩
          case measure => simp [intOf]; omega
        · gi_wp2
          refine bodyPost_ret (results_none rfl _ _ _) rfl ?_
          exact ⟨⟨_, rfl⟩, .inr ⟨pre ++ [(k, ⟨sl, sb, sv⟩, t)], ⟨chs u d hold (k + 1) t (vs.drop (k + 1)), by rw [HP.out]; simp⟩, hJx3⟩⟩
    · have e : vs.drop k = [] := List.drop_eq_nil_of_le (by omega)
      rw [e] at HP HR
      clear e
      gi_wp2
      go_end0
      exact ⟨⟨_, rfl⟩, .inl ⟨pre, by rw [HP.out]; simp [chs], hJr, by rw [HR.out]; exact hst⟩⟩
end Go.Proofs.Ytcfbnmcdncndpaa
