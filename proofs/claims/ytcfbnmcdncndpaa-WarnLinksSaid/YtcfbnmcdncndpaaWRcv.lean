/-
  Chapter 8: a message received by a store.
-/
import Derived.Test.YtcfbnmcdncndpaaWIns
import Derived.Deep.RegionHeld3
import Derived.Deep.DeepCutAuto
namespace Go.Proofs.Ytcfbnmcdncndpaa
open Go.ChangeShapes Go.WideShapes Go.ChangeAt Go.RowKit
set_option linter.unusedVariables false
set_option linter.unusedSimpArgs false

/-- only block b and one row may have changed, new blocks may have come -/
structure Turned (w w' : World) (b : Nat) (row : Option Nat) : Prop where
  os : w'.os = w.os
  tape : w'.tape = w.tape
  output : w'.output = w.output
  size : w.heap.size ≤ w'.heap.size
  block : ∀ i, i < w.heap.size → i ≠ b → some i ≠ row → w'.heap[i]? = w.heap[i]?
theorem Turned.of_below {w w' : World} {b : Nat} {row : Option Nat} (h : Below w.heap.size w w') : Turned w w' b row := ⟨h.os, h.tape, h.output, h.size, fun i hi _ _ => h.block i hi⟩
theorem Turned.of_grown {w w' : World} {b : Nat} {row : Option Nat} (h : w.grownBy w' row) : Turned w w' b row := ⟨h.os, h.tape, h.output, h.size, fun i hi _ hr => h.block i hi hr⟩
theorem Turned.trans {w w' w'' : World} {b : Nat} {row row' : Option Nat} (h : Turned w w' b row) (k : Turned w' w'' b row') (hr : row' = row ∨ ∀ g, row' = some g → w.heap.size ≤ g) : Turned w w'' b row :=
  ⟨k.os.trans h.os, k.tape.trans h.tape, k.output.trans h.output, Nat.le_trans h.size k.size, fun i hi hb hne => (k.block i (Nat.lt_of_lt_of_le hi h.size) hb (by
    rcases hr with rfl | hr
    · exact hne
    · exact fun e => by have := hr i e.symm; omega)).trans (h.block i hi hb hne)⟩
theorem Turned.set_ {w w' : World} {b k : Nat} {row : Option Nat} (h : Turned w w' b row) (v : Value) : Turned w (w'.setCell ⟨b, k, none⟩ v) b row :=
  ⟨h.os, h.tape, h.output, by simpa using h.size, fun i hi hb hne => (Below.heap_setCell w' ⟨b, k, none⟩ v i hb).trans (h.block i hi hb hne)⟩
theorem Turned.drew_ {w w' : World} {b : Nat} {row : Option Nat} (h : Turned w w' b row) : Turned w w'.drew b row := ⟨h.os, h.tape, h.output, h.size, h.block⟩
theorem Turned.below {w w' : World} {b B : Nat} {row : Option Nat} (h : Turned w w' b row) (hb : B ≤ b) (hr : ∀ g, row = some g → B ≤ g) (hB : B ≤ w.heap.size) : Below B w w' :=
  ⟨h.os, h.tape, h.output, h.size, fun i hi => h.block i (by omega) (by omega) (fun e => by have := hr i e.symm; omega)⟩
theorem Turned.own {w w' : World} {b B : Nat} {row : Option Nat} {e : TypeId} {size n : Nat} {v : Value} {xs : List Value} (h : Turned w w' b row) (ho : w.ownsRow B e size v n xs) (hb : v.ownBlock ≠ some b) (hr : v.ownBlock = none ∨ v.ownBlock ≠ row) : w'.ownsRow B e size v n xs := by
  refine ⟨ho.1, ?_⟩
  rcases ho.2 with hn | ⟨g, cap, cur, rfl, hB, hg, r⟩
  · exact .inl hn
  · refine .inr ⟨g, cap, cur, rfl, hB, (h.block g (Array.getElem?_eq_some_iff.1 hg).1 (fun e => hb (by simp [Value.ownBlock, e])) ?_).trans hg, r⟩
    rcases hr with h0 | h0
    · simp [Value.ownBlock] at h0
    · exact fun e => h0 (by simpa [Value.ownBlock] using e)
theorem set_same {cs : Array Value} {k : Nat} {v : Value} (h : cs[k]? = some v) : cs.setIfInBounds k v = cs := by
  apply Array.ext_getElem?
  intro i
  rw [Array.getElem?_setIfInBounds]
  split
  · rename_i e; subst e
    split
    · exact h.symm
    · rename_i h1; rw [Array.getElem?_eq_none (by omega)]
  · rfl
theorem heap_set {w : World} {b k : Nat} {cs : Array Value} {T : TypeId} {v : Value} (h : w.heap[b]? = some (.cells cs T (0, 0))) : (w.setCell ⟨b, k, none⟩ v).heap[b]? = some (.cells (cs.setIfInBounds k v) T (0, 0)) :=
  heap_setCell_same w b k cs T v h
theorem own_set {w : World} {B : Nat} {e : TypeId} {size n : Nat} {v : Value} {xs : List Value} (h : w.ownsRow B e size v n xs) {p : Addr} (hne : v.ownBlock ≠ some p.block) (u : Value) : (w.setCell p u).ownsRow B e size v n xs := by
  refine ⟨h.1, ?_⟩
  rcases h.2 with hn | ⟨g, cap, cur, rfl, hB, hg, r⟩
  · exact .inl hn
  · exact .inr ⟨g, cap, cur, rfl, hB, (Below.heap_setCell w p u g (fun e => hne (by simp [Value.ownBlock, e]))).trans hg, r⟩
/-- what becomes of a store that stands in cell k of block b -/
def Kept (B b k : Nat) (A : Option Addr) (cap : Nat) (cs : Array Value) (T : TypeId) (l l' : List Msg) (w w' : World) : Prop :=
  ∃ A' c', w'.heap[b]? = some (.cells (cs.setIfInBounds k (.slice A' l'.length c')) T (0, 0)) ∧ w'.ownsRow B 45 3 (.slice A' l'.length c') l'.length (cellsOf 3 msgC l') ∧ Turned w w' b (Value.ownBlock (.slice A l.length cap)) ∧
    (Value.ownBlock (.slice A' l'.length c') = Value.ownBlock (.slice A l.length cap) ∨ ∀ g, Value.ownBlock (.slice A' l'.length c') = some g → w.heap.size ≤ g)
def GotE (r : Int) (B b k : Nat) (A : Option Addr) (cap : Nat) (cs : Array Value) (T : TypeId) (l l' : List Msg) (w : World) (e : Ending) (w' : World) : Prop := e = .returned (.int .i64 r) ∧ Kept B b k A cap cs T l l' w w'
theorem Kept.same {B b k : Nat} {A : Option Addr} {cap : Nat} {cs : Array Value} {T : TypeId} {l : List Msg} {w w' : World} (hp : w.heap[b]? = some (.cells cs T (0, 0))) (hk : cs[k]? = some (.slice A l.length cap))
    (own : w.ownsRow B 45 3 (.slice A l.length cap) l.length (cellsOf 3 msgC l)) (hb : Below w.heap.size w w') : Kept B b k A cap cs T l l w w' :=
  ⟨A, cap, by rw [set_same hk]; exact blk_below' hb hp, own_below own hb, .of_below hb, .inl rfl⟩
theorem cells_set3 (l : List Msg) (i : Nat) (m : Msg) : (((cellsOf 3 msgC l).set (i * 3) (.string m.s)).set (i * 3 + 1) (.int .i64 m.v)).set (i * 3 + 2) (.int .i64 m.l) = cellsOf 3 msgC (l.set i m) := by
  induction l generalizing i with
  | nil => rfl
  | cons x r ih =>
    have hx : ∀ y : Msg, ∀ q : List Msg, cellsOf 3 msgC (y :: q) = .string y.s :: .int .i64 y.v :: .int .i64 y.l :: cellsOf 3 msgC q := fun _ _ => rfl
    cases i with
    | zero => rw [hx]; rfl
    | succ i =>
      rw [hx, List.set_cons_succ, hx, ← ih i, show (i + 1) * 3 = i * 3 + 3 by omega]
      rfl

set_option maxRecDepth 100000 in
set_option maxHeartbeats 2000000 in
theorem receive_any (B b k : Nat) (A : Option Addr) (cap : Nat) (cs : Array Value) (T : TypeId) (l : List Msg) (m : Msg) (w : World) (hl : l.length ≤ 30) (hS : Srt l) (hB : B ≤ w.heap.size)
    (hp : w.heap[b]? = some (.cells cs T (0, 0))) (hk : cs[k]? = some (.slice A l.length cap)) (own : w.ownsRow B 45 3 (.slice A l.length cap) l.length (cellsOf 3 msgC l)) (hne : Value.ownBlock (.slice A l.length cap) ≠ some b) :
    Calls Try.prog 105 #[.pointer (some ⟨b, k, none⟩), .agg #[.string m.s, .int .i64 m.v, .int .i64 m.l]] w (GotE (recvM l m).2 B b k A cap cs T l (recvM l m).1 w) := by
  have hA : MsgsAt w A l := rowsAt_of_own own rfl (by decide)
  have p0 : w.cell? ⟨b, k, none⟩ = some (.slice A l.length cap) := blk_cell hp hk
  have hbl : b < w.heap.size := (Array.getElem?_eq_some_iff.1 hp).1
  have HF := Lib.hid (fun W => fun hW : MsgsAt W A l => find_any A l cap m.s W (by omega) hS hW)
  have OWN := Lib.hid own
  have HP := Lib.hid hp
  have HK := Lib.hid hk
  clear own hp hk
  go_enter Try.func105, Try.ntmps105
  go_wp2_with (fail)
  have x0 : (w.alloc (.cells #[.string m.s, .int .i64 m.v, .int .i64 m.l] 45)).cell? ⟨w.heap.size, 0, none⟩ = some (.string m.s) := cell_new rfl rfl
  have x1 : (w.alloc (.cells #[.string m.s, .int .i64 m.v, .int .i64 m.l] 45)).cell? ⟨w.heap.size, 1, none⟩ = some (.int .i64 m.v) := cell_new rfl rfl
  have x2 : (w.alloc (.cells #[.string m.s, .int .i64 m.v, .int .i64 m.l] 45)).cell? ⟨w.heap.size, 2, none⟩ = some (.int .i64 m.l) := cell_new rfl rfl
  have hz : (w.alloc (.cells #[.string m.s, .int .i64 m.v, .int .i64 m.l] 45)).heap.size = w.heap.size + 1 := by simp
  have hb0 : Below w.heap.size w (w.alloc (.cells #[.string m.s, .int .i64 m.v, .int .i64 m.l] 45)) := (by repeat (first | assumption | exact Below.refl _ _ | refine Below.drew ?_ | (refine below_alloc _ ?_ ?_; focus (first | omega | (simp; done) | (simp; omega) | (simp at *; omega))) | (refine below_set _ ?_ ?_; focus (first | omega | (simp; done) | (simp; omega) | (simp at *; omega))) | refine below_drewN ?_ _ | (refine below_call (by assumption) ?_ ?_; focus (first | omega | (simp; done) | (simp; omega) | (simp at *; omega))) | (refine below_call' (by assumption) ?_ ?_; focus (first | omega | (simp; done) | (simp; omega) | (simp at *; omega)))))
  generalize (w.alloc (.cells #[.string m.s, .int .i64 m.v, .int .i64 m.l] 45)) = v at *
  have zv : w.heap.size < v.heap.size := by omega
  have p1 := cell_below' hb0 p0
  have hAv := RowsAt.below hA hb0
  clear hz
  go_region_held3 (fun w' => w'.cell? ⟨w.heap.size, 0, none⟩ = some (.string m.s) ∧ w'.cell? ⟨b, k, none⟩ = some (.slice A l.length cap)) ((((try go_split_ands); (repeat' (apply And.intro)) <;> (repeat (first | (with_reducible assumption) | (with_reducible refine cell_drew ?_) | (with_reducible refine cell_alloc _ ?_) | (with_reducible refine cell_below' (by with_reducible assumption) ?_) | (with_reducible refine cell_far ?_ ?_; focus (first | omega | (simp; omega) | (simp; done)))))))) (first | (go_at_call 126; (with_reducible refine (HF.out _ ?_).mono ?_); (focus (exact RowsAt.below hAv (by repeat (first | assumption | exact Below.refl _ _ | refine Below.drew ?_ | (refine below_alloc _ ?_ ?_; focus (first | omega | (simp; done) | (simp; omega) | (simp at *; omega))) | (refine below_set _ ?_ ?_; focus (first | omega | (simp; done) | (simp; omega) | (simp at *; omega))) | refine below_drewN ?_ _ | (refine below_call (by assumption) ?_ ?_; focus (first | omega | (simp; done) | (simp; omega) | (simp at *; omega))) | (refine below_call' (by assumption) ?_ ?_; focus (first | omega | (simp; done) | (simp; omega) | (simp at *; omega))))))); rintro e w1 ⟨rfl, hb1⟩))
  have hb1v : Below v.heap.size v w1 := (Below.refl _ v).drew.trans hb1
  have hbw1 : Below w.heap.size w w1 := hb0.trans (hb1v.mono (by omega))
  have zw : w.heap.size < w1.heap.size := by have := hb1v.size; omega
  replace x0 := cell_below' hb1v x0
  replace x1 := cell_below' hb1v x1
  replace x2 := cell_below' hb1v x2
  replace p1 := cell_below' hb1v p1
  have hA1 := RowsAt.below hA hbw1
  have hpl := posM_le l m.s
  have hbne : b ≠ w.heap.size := by omega
  clear hb1 hb1v hAv p0 hb0 zv HF hA
  cases hh : hasM l m.s
  · by_cases hlen : 30 ≤ l.length
    · have HR := Lib.hid ((recv_new hh).trans (if_pos hlen))
      have hl1 : (30 : Int) ≤ (l.length : Int) := by omega
      clear hlen
      go_wp2
      go_ret
      rw [HR.out]
      exact ⟨rfl, Kept.same HP.out HK.out OWN.out (by repeat (first | assumption | exact Below.refl _ _ | refine Below.drew ?_ | (refine below_alloc _ ?_ ?_; focus (first | omega | (simp; done) | (simp; omega) | (simp at *; omega))) | (refine below_set _ ?_ ?_; focus (first | omega | (simp; done) | (simp; omega) | (simp at *; omega))) | refine below_drewN ?_ _ | (refine below_call (by assumption) ?_ ?_; focus (first | omega | (simp; done) | (simp; omega) | (simp at *; omega))) | (refine below_call' (by assumption) ?_ ?_; focus (first | omega | (simp; done) | (simp; omega) | (simp at *; omega)))))⟩
    · have HR := Lib.hid ((recv_new hh).trans (if_neg hlen))
      have hl1 : ¬ ((30 : Int) ≤ (l.length : Int)) := by omega
      clear hlen hh
      generalize posM l m.s = p at *
      go_wp2_with (fail)
      have own1 := own_below OWN.out hbw1
      have hp1 := blk_below' hbw1 HP.out
      have zb : b < w1.heap.size := by omega
      have hlt := OWN.out.lt
      have OWN1 := Lib.hid own1
      have HP1 := Lib.hid hp1
      have HLT := Lib.hid (fun k hk => (hlt k hk).2)
      have HI := Lib.hid (fun W nb (h1 : B ≤ W.heap.size) (h2 : W.ownsRow B 45 3 (.slice A l.length cap) l.length (cellsOf 3 msgC l)) h3 h4 => Insert_any B A cap l p m nb W (by omega) h1 hpl h2 h3 h4)
      clear own1 hp1 hlt hA1
      generalize l.take p ++ m :: l.drop p = l' at HI HR
      go_region_law ((go_simp; go_at_call 127; (with_reducible refine (HI.out _ _ ?_ ?_ ?_ ?_).mono ?_); (focus (simp; omega)); (focus (exact own_below OWN1.out (by repeat (first | assumption | exact Below.refl _ _ | refine Below.drew ?_ | (refine below_alloc _ ?_ ?_; focus (first | omega | (simp; done) | (simp; omega) | (simp at *; omega))) | (refine below_set _ ?_ ?_; focus (first | omega | (simp; done) | (simp; omega) | (simp at *; omega))) | refine below_drewN ?_ _ | (refine below_call (by assumption) ?_ ?_; focus (first | omega | (simp; done) | (simp; omega) | (simp at *; omega))) | (refine below_call' (by assumption) ?_ ?_; focus (first | omega | (simp; done) | (simp; omega) | (simp at *; omega))))))); (focus (exact (by repeat (first | assumption | (refine blk_new ?_; focus (simp; done)) | refine blk_drew ?_ | refine blk_alloc _ ?_ | refine blk_drewN _ ?_ | (refine blk_far _ ?_ ?_; focus (first | omega | (simp; omega) | (simp; done))) | refine blk_below' (by assumption) ?_)))); (focus (exact fun e => by have := HLT.out _ e; omega)); rintro e w4 ⟨A', c', rfl, own4, hg4, hb4⟩; have hp4 : w4.heap[b]? = some (.cells cs T (0, 0)) := (hg4.block b (by simp; omega) (fun e => hne e.symm)).trans (by have hq := HP1.out; exact (by repeat (first | assumption | (refine blk_new ?_; focus (simp; done)) | refine blk_drew ?_ | refine blk_alloc _ ?_ | refine blk_drewN _ ?_ | (refine blk_far _ ?_ ?_; focus (first | omega | (simp; omega) | (simp; done))) | refine blk_below' (by assumption) ?_))); have p4 : w4.cell? ⟨b, k, none⟩ = some (.slice A l.length cap) := blk_cell hp4 HK.out; have f4 : w4.frozen? ⟨b, k, none⟩ = false := blk_frozen hp4))
      all_goals
        have hne4 : Value.ownBlock (.slice A' l'.length c') ≠ some b := by
          rcases hb4 with h | h
          · rw [h]; exact hne
          · rw [h]; exact fun e => by have := Option.some.inj e; simp at this; omega
        have hz4 : Value.ownBlock (.slice A' l'.length c') = Value.ownBlock (.slice A l.length cap) ∨ ∀ g, Value.ownBlock (.slice A' l'.length c') = some g → w.heap.size ≤ g := by
          rcases hb4 with h | h
          · exact .inl h
          · exact .inr fun g hg => by rw [h] at hg; have := Option.some.inj hg; simp at this; omega
        have ht4 : Turned w w4 b (Value.ownBlock (.slice A l.length cap)) := (Turned.of_below (w' := w1) hbw1).trans (Turned.trans (w' := w1.alloc (.cells #[.string m.s, .int .i64 m.v, .int .i64 m.l] 45)) (Turned.of_below (row := Value.ownBlock (.slice A l.length cap)) (by repeat (first | assumption | exact Below.refl _ _ | refine Below.drew ?_ | (refine below_alloc _ ?_ ?_; focus (first | omega | (simp; done) | (simp; omega) | (simp at *; omega))) | (refine below_set _ ?_ ?_; focus (first | omega | (simp; done) | (simp; omega) | (simp at *; omega))) | refine below_drewN ?_ _ | (refine below_call (by assumption) ?_ ?_; focus (first | omega | (simp; done) | (simp; omega) | (simp at *; omega))) | (refine below_call' (by assumption) ?_ ?_; focus (first | omega | (simp; done) | (simp; omega) | (simp at *; omega)))))) (Turned.of_grown ⟨hg4.os, hg4.tape, hg4.output, hg4.size, hg4.block⟩) (.inl rfl)) (.inl rfl)
        have HFIN := Lib.hid (show Kept B b k A cap cs T l l' w (w4.setCell ⟨b, k, none⟩ (.slice A' l'.length c')) from ⟨A', c', heap_set hp4, own_set own4 hne4 _, ht4.set_ _, hz4⟩)
        clear hne4 hz4 ht4 hp4 own4 hg4 hb4 p4 f4 x0 x1 x2 p1 OWN1 HP1 HLT HI
        go_wp2
        go_ret
        rw [HR.out]
        exact ⟨rfl, HFIN.out⟩
  · obtain ⟨o, ho, he⟩ := has_true hh
    have hpl2 : posM l m.s < l.length := (List.getElem?_eq_some_iff.1 ho).1
    obtain ⟨g, cur, rfl, hBg, hg, hnc, hcm, hcs, htk⟩ := own_open OWN.out (by omega)
    obtain ⟨b', off, he', hb', c0, c1, c2⟩ := MsgsAt.at_ hA1 hpl2
    have hgl : g < w.heap.size := (Array.getElem?_eq_some_iff.1 hg).1
    injection he' with he'
    injection he' with e1 e2
    subst e1 e2
    rw [List.getElem?_eq_getElem hpl2] at ho
    rw [Option.some.inj ho] at c0 c1 c2
    simp only [Nat.zero_add] at c0 c1 c2
    have ho2 : l[posM l m.s]? = some o := by rw [List.getElem?_eq_getElem hpl2]; exact ho
    have hgb : g ≠ b := fun e => hne (by rw [e]; rfl)
    have hg1 := blk_below' hbw1 hg
    have fz : ∀ j, w1.frozen? ⟨g, j, none⟩ = false := fun j => blk_frozen hg1
    have f0 := fz (posM l m.s * 3)
    have f1 := fz (posM l m.s * 3 + 1)
    have f2 := fz (posM l m.s * 3 + 2)
    have own1 := own_below OWN.out hbw1
    have zg : g < w1.heap.size := by omega
    have zb : b < w1.heap.size := by omega
    have hcm' : (cap : Int) ≤ 9223372036854775807 := by unfold maxLen at hcm; omega
    have hl1 : (l.length : Int) ≤ 30 := by omega
    have hp1 : ((posM l m.s : Nat) : Int) < (l.length : Int) := by omega
    have HG1 := Lib.hid hg1
    clear hb' fz hA1 hcs htk hcm hg1
    by_cases hv : o.v < m.v
    · have HR := Lib.hid ((recv_has hh ho2).trans (if_pos hv))
      have OWN1 := Lib.hid own1
      have SET := Lib.hid (cells_set3 l (posM l m.s) m)
      have hlen2 : (l.set (posM l m.s) m).length = l.length := List.length_set
      have HL2 := Lib.hid hlen2
      clear ho ho2 hh own1 hg hlen2
      generalize posM l m.s = p at *
      go_wp2_with (fail)
      (refine region_extx 5 (by kernel_rfl) (by kernel_rfl) fun hx => ?_; simp only [List.take_succ_cons, List.take_zero, List.drop_succ_cons, List.drop_zero]; (repeat (any_goals (first | go_big_quiet_step (fail) | quiet_step (fail)))))
      (refine wpQuiet_nil ?_; clear hx; intro u; have hbw2 := ext_bel _ u; have hxw2 := ext_cell _ u; generalize ext _ u = w2 at *; clear u; have hsw2 := hbw2.size; (try simp at hsw2))
      have hb2 : Below w1.heap.size w1 w2 := (by repeat (first | assumption | exact Below.refl _ _ | refine Below.drew ?_ | (refine below_alloc _ ?_ ?_; focus (first | omega | (simp; done) | (simp; omega) | (simp at *; omega))) | (refine below_set _ ?_ ?_; focus (first | omega | (simp; done) | (simp; omega) | (simp at *; omega))) | refine below_drewN ?_ _ | (refine below_call (by assumption) ?_ ?_; focus (first | omega | (simp; done) | (simp; omega) | (simp at *; omega))) | (refine below_call' (by assumption) ?_ ?_; focus (first | omega | (simp; done) | (simp; omega) | (simp at *; omega)))))
      have hg2 : w2.heap[g]? = some (.cells _ 45 (0, 0)) := blk_below' hb2 HG1.out
      have own2 := own_below OWN1.out hb2
      replace c0 := cell_below' hb2 c0
      replace c1 := cell_below' hb2 c1
      replace c2 := cell_below' hb2 c2
      replace f0 : w2.frozen? ⟨g, p * 3, none⟩ = false := blk_frozen hg2
      replace f1 : w2.frozen? ⟨g, p * 3 + 1, none⟩ = false := blk_frozen hg2
      replace f2 : w2.frozen? ⟨g, p * 3 + 2, none⟩ = false := blk_frozen hg2
      have hp2 := blk_below' (hbw1.trans (hb2.mono (by omega))) HP.out
      have s0 := own2.stored (p * 3) (.string m.s)
      have s1 := s0.1.stored (p * 3 + 1) (.int .i64 m.v)
      have s2 := s1.1.stored (p * 3 + 2) (.int .i64 m.l)
      have hown : (((w2.setCell ⟨g, p * 3, none⟩ (.string m.s)).setCell ⟨g, p * 3 + 1, none⟩ (.int .i64 m.v)).setCell ⟨g, p * 3 + 2, none⟩ (.int .i64 m.l)).ownsRow B 45 3 (.slice (some ⟨g, 0, none⟩) (l.set p m).length cap) (l.set p m).length (cellsOf 3 msgC (l.set p m)) := by
        rw [HL2.out, ← SET.out]; exact s2.1
      have hkept : Kept B b k (some ⟨g, 0, none⟩) cap cs T l (l.set p m) w (((w2.setCell ⟨g, p * 3, none⟩ (.string m.s)).setCell ⟨g, p * 3 + 1, none⟩ (.int .i64 m.v)).setCell ⟨g, p * 3 + 2, none⟩ (.int .i64 m.l)) := by
        have hgt : w2.grownBy (((w2.setCell ⟨g, p * 3, none⟩ (.string m.s)).setCell ⟨g, p * 3 + 1, none⟩ (.int .i64 m.v)).setCell ⟨g, p * 3 + 2, none⟩ (.int .i64 m.l)) (some g) := grown_trans s0.2 (grown_trans s1.2 s2.2)
        refine ⟨some ⟨g, 0, none⟩, cap, ?_, hown, Turned.trans (Turned.of_below (hbw1.trans (hb2.mono (by omega)))) (Turned.of_grown hgt) (.inl rfl), .inl rfl⟩
        rw [HL2.out, set_same HK.out]
        exact (hgt.block b (by have := hb2.size; omega) (fun e => hgb (Option.some.inj e).symm)).trans hp2
      have HKP := Lib.hid hkept
      clear hkept hown s0 s1 s2 hp2 own2 hg2 hb2 hbw2 hxw2 hsw2
      go_wp2
      go_ret
      rw [HR.out]
      exact ⟨rfl, HKP.out⟩
    · have hvd : decide (o.v < m.v) = false := by simpa using hv
      cases h1 : (m.v == o.v)
      · have hn : ¬ (m.v = o.v ∧ m.l ≠ o.l) := fun h => by simp [h.1] at h1
        have HR := Lib.hid (((recv_has hh ho2).trans (if_neg hv)).trans (if_neg hn))
        clear ho ho2 hh own1 hg hn hv
        generalize posM l m.s = p at *
        go_wp2_with (fail)
        go_ret
        rw [HR.out]
        exact ⟨rfl, Kept.same HP.out HK.out OWN.out (by repeat (first | assumption | exact Below.refl _ _ | refine Below.drew ?_ | (refine below_alloc _ ?_ ?_; focus (first | omega | (simp; done) | (simp; omega) | (simp at *; omega))) | (refine below_set _ ?_ ?_; focus (first | omega | (simp; done) | (simp; omega) | (simp at *; omega))) | refine below_drewN ?_ _ | (refine below_call (by assumption) ?_ ?_; focus (first | omega | (simp; done) | (simp; omega) | (simp at *; omega))) | (refine below_call' (by assumption) ?_ ?_; focus (first | omega | (simp; done) | (simp; omega) | (simp at *; omega)))))⟩
      · cases h2 : (m.l == o.l)
        · have h3 : (m.l != o.l) = true := by rw [bne, h2]; rfl
          have hn : m.v = o.v ∧ m.l ≠ o.l := ⟨by simpa using h1, by simpa using h2⟩
          have HR := Lib.hid (((recv_has hh ho2).trans (if_neg hv)).trans (if_pos hn))
          clear ho ho2 hh own1 hg hn hv
          generalize posM l m.s = p at *
          go_wp2_with (fail)
          go_ret
          rw [HR.out]
          exact ⟨rfl, Kept.same HP.out HK.out OWN.out (by repeat (first | assumption | exact Below.refl _ _ | refine Below.drew ?_ | (refine below_alloc _ ?_ ?_; focus (first | omega | (simp; done) | (simp; omega) | (simp at *; omega))) | (refine below_set _ ?_ ?_; focus (first | omega | (simp; done) | (simp; omega) | (simp at *; omega))) | refine below_drewN ?_ _ | (refine below_call (by assumption) ?_ ?_; focus (first | omega | (simp; done) | (simp; omega) | (simp at *; omega))) | (refine below_call' (by assumption) ?_ ?_; focus (first | omega | (simp; done) | (simp; omega) | (simp at *; omega)))))⟩
        · have h3 : (m.l != o.l) = false := by rw [bne, h2]; rfl
          have hn : ¬ (m.v = o.v ∧ m.l ≠ o.l) := fun h => h.2 (by simpa using h2)
          have HR := Lib.hid (((recv_has hh ho2).trans (if_neg hv)).trans (if_neg hn))
          clear ho ho2 hh own1 hg hn hv
          generalize posM l m.s = p at *
          go_wp2_with (fail)
          go_ret
          rw [HR.out]
          exact ⟨rfl, Kept.same HP.out HK.out OWN.out (by repeat (first | assumption | exact Below.refl _ _ | refine Below.drew ?_ | (refine below_alloc _ ?_ ?_; focus (first | omega | (simp; done) | (simp; omega) | (simp at *; omega))) | (refine below_set _ ?_ ?_; focus (first | omega | (simp; done) | (simp; omega) | (simp at *; omega))) | refine below_drewN ?_ _ | (refine below_call (by assumption) ?_ ?_; focus (first | omega | (simp; done) | (simp; omega) | (simp at *; omega))) | (refine below_call' (by assumption) ?_ ?_; focus (first | omega | (simp; done) | (simp; omega) | (simp at *; omega)))))⟩
end Go.Proofs.Ytcfbnmcdncndpaa
