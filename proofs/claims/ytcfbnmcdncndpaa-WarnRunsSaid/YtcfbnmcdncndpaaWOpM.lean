/-
  Chapter 8: the arguments opened: rules, lists of integers.
  Chapter 8: the arguments opened: messages, packets, moves, links.
  Chapter 8: an argument opened: a single move.
-/
import Derived.Test.YtcfbnmcdncndpaaWRcR
import Derived.ProofKit
import Derived.Carry
import Derived.Lib.SmallJoins
import Derived.ChangeSlices
import Derived.Test.YtcfbnmcdncndpaaWRun
import Derived.Deep.Strs
namespace Go.Proofs.Ytcfbnmcdncndpaa
section
open Go.ChangeShapes Go.WideShapes Go.ChangeAt Go.RowKit
set_option linter.unusedVariables false
set_option linter.unusedSimpArgs false

theorem laidOut_ : laidOutB Try.prog = true := by kernel_rfl
theorem own_ : ownKnob Try.prog.godebug = none := by kernel_rfl
theorem exists_list {α : Type} : ∀ (n : Nat) {Q : Nat → α → Prop}, (∀ i, i < n → ∃ x, Q i x) → ∃ l : List α, l.length = n ∧ ∀ i (hi : i < l.length), Q i l[i]
  | 0, _, _ => ⟨[], rfl, fun i hi => absurd hi (by simp)⟩
  | n + 1, Q, h => by
    obtain ⟨l, hl, hq⟩ := exists_list n (Q := Q) fun i hi => h i (by omega)
    obtain ⟨x, hx⟩ := h n (by omega)
    refine ⟨l ++ [x], by simp [hl], fun i hi => ?_⟩
    by_cases hil : i < l.length
    · rw [List.getElem_append_left hil]; exact hq i hil
    · have e : i = n := by simp at hi; omega
      subst e
      rw [List.getElem_append_right (by omega)]
      simpa [hl] using hx
theorem add_eq (b off n : Nat) : (⟨b, off, none⟩ : Addr).add n = ⟨b, off + n, none⟩ := by
  unfold Addr.add
  split
  · subst_vars; rfl
  · rfl
theorem rows_of {α : Type} {m : Nat} {f : α → Nat → Value} {w : World} {a : Addr} {l : List α} (hm : 0 < m) (h : ∀ i (hi : i < l.length) j, j < m → w.cell? (a.add (i * m + j)) = some (f l[i] j)) : RowsAt m f w (some a) l := fun k x hk => by
  obtain ⟨hkl, rfl⟩ := List.getElem?_eq_some_iff.1 hk
  have h0 := h 0 (by omega) 0 hm
  have e0 : a.add (0 * m + 0) = a := by simp [Addr.add]
  rw [e0] at h0
  have hs := World.cell?_spot h0
  have hlt := World.block_lt_of_cell? w a h0
  obtain ⟨b, off, sp⟩ := a
  simp only at hs
  subst hs
  refine ⟨b, off, rfl, hlt, fun j hj => ?_⟩
  have := h k hkl j hj
  rw [add_eq] at this
  rw [show off + k * m + j = off + (k * m + j) by omega]
  exact this

section
variable {H : Type} {enc : TypeId × Value → H} {W : World} {r : Reach} {b0 base0 : Nat} {held : Bool} {v : Value} {d : DataW H} {p : List MemPlace}
theorem open_intList {fuel : Nat} {cs : List Value} {x : DataW H × List MemPlace} (h : DataW.trod enc Try.prog W base0 (fun _ => true) held fuel 22 cs = some x) :
    ∃ (A : Option Addr) (l : List Int) (cap : Nat), cs = [.slice A l.length cap] ∧ l.length ≤ cap ∧ IntsAt W A l := by
  rcases open_ints Try.underlying22 Try.underlying3 (by kernel_rfl) h with ⟨rfl, _⟩ | ⟨a, len, cap, zs, rfl, hb, hl, hm, hz, hx, hc, _⟩
  · exact ⟨none, [], 0, rfl, Nat.le_refl _, RowsAt.nil⟩
  · clear hm
    simp only [if_true] at hz
    have hlen : (zs.take len).length = len := by simp; omega
    refine ⟨some a, zs.take len, cap, by rw [hlen], by omega, rows_of (by decide) fun i hi j hj => ?_⟩
    obtain rfl : j = 0 := by omega
    have := hc i (by omega)
    rw [Nat.mul_one, Nat.add_zero, this, List.getElem_take]
    simp [List.getD, List.getElem?_eq_getElem (show i < zs.length by omega)]
set_option maxRecDepth 100000 in
theorem open_intArg (hv : Value.okWide Try.prog W r b0 22 v) (h : DataW.Trod enc Try.prog W base0 (fun _ => true) held 22 v d p) :
    ∃ (A : Option Addr) (l : List Int) (cap : Nat), v = .slice A l.length cap ∧ l.length ≤ cap ∧ IntsAt W A l := by
  obtain ⟨a, len, cap, rfl⟩ := okWide_slice Try.underlying22 hv
  obtain ⟨fuel, hf⟩ := h
  obtain ⟨A, l, cap', e, h1, h2⟩ := open_intList hf
  have e2 : Value.slice a len cap = .slice A l.length cap' := by simpa [Value.cells] using e
  exact ⟨A, l, cap', e2, h1, h2⟩
set_option maxRecDepth 100000 in
/-- rules by value -/
theorem open_rules (hv : Value.okWide Try.prog W r b0 24 v) (h : DataW.Trod enc Try.prog W base0 (fun _ => true) held 24 v d p) :
    ∃ (nm : ByteArray) (A : Option Addr) (u : List Int) (ca : Nat) (B : Option Addr) (dl : List Int) (cb : Nat) (hold : Int), v = .agg #[.string nm, .slice A u.length ca, .slice B dl.length cb, .int .i64 hold] ∧ u.length ≤ ca ∧ dl.length ≤ cb ∧ IntsAt W A u ∧ IntsAt W B dl := by
  obtain ⟨v0, v1, v2, v3, y0, y1, y2, y3, n, rfl, hd, hp, t0, t1, t2, t3⟩ := Go.Joins.open_agg4 Try.underlying24 (by kernel_rfl) (by kernel_rfl) hv h
  obtain ⟨nm, e0, _, _⟩ := DataW.trod_string Try.underlying9 t0
  obtain ⟨A, u, ca, e1, h1, h2⟩ := open_intList t1
  obtain ⟨B, dl, cb, e2, h3, h4⟩ := open_intList t2
  obtain ⟨hold, e3, _, _⟩ := DataW.trod_int Try.underlying3 t3
  simp only [List.cons.injEq, and_true] at e0 e1 e2 e3
  subst e0 e1 e2 e3
  exact ⟨nm, A, u, ca, B, dl, cb, hold, rfl, h1, h3, h2, h4⟩
set_option maxRecDepth 100000 in
/-- a state by value -/
theorem open_state (hv : Value.okWide Try.prog W r b0 61 v) (h : DataW.Trod enc Try.prog W base0 (fun _ => true) held 61 v d p) :
    ∃ (x y z : Int), v = .agg #[.int .i64 x, .int .i64 y, .int .i64 z] := by
  obtain ⟨v0, v1, v2, y0, y1, y2, n, rfl, hd, hp, t0, t1, t2⟩ := Go.Joins.open_agg3 Try.underlying61 (by kernel_rfl) (by kernel_rfl) hv h
  obtain ⟨x, e0, _, _⟩ := DataW.trod_int Try.underlying3 t0
  obtain ⟨y, e1, _, _⟩ := DataW.trod_int Try.underlying3 t1
  obtain ⟨z, e2, _, _⟩ := DataW.trod_int Try.underlying3 t2
  simp only [List.cons.injEq, and_true] at e0 e1 e2
  subst e0 e1 e2
  exact ⟨x, y, z, rfl⟩
end
end
section
open Go.ChangeShapes Go.WideShapes Go.ChangeAt Go.RowKit
set_option linter.unusedVariables false
set_option linter.unusedSimpArgs false

section
variable {H : Type} {enc : TypeId × Value → H} {W : World} {r : Reach} {b0 base0 : Nat} {held : Bool} {v : Value} {d : DataW H} {p : List MemPlace}
theorem len3 {cs : List Value} (h : cs.length = 3) : ∃ c0 c1 c2, cs = [c0, c1, c2] := by
  match cs, h with
  | [c0, c1, c2], _ => exact ⟨c0, c1, c2, rfl⟩
theorem len4 {cs : List Value} (h : cs.length = 4) : ∃ c0 c1 c2 c3, cs = [c0, c1, c2, c3] := by
  match cs, h with
  | [c0, c1, c2, c3], _ => exact ⟨c0, c1, c2, c3, rfl⟩
theorem len5 {cs : List Value} (h : cs.length = 5) : ∃ c0 c1 c2 c3 c4, cs = [c0, c1, c2, c3, c4] := by
  match cs, h with
  | [c0, c1, c2, c3, c4], _ => exact ⟨c0, c1, c2, c3, c4, rfl⟩
theorem msg_of {fuel : Nat} {c0 c1 c2 : Value} {x : DataW H × List MemPlace} (h : DataW.trod enc Try.prog W base0 (fun _ => true) held fuel 45 [c0, c1, c2] = some x) : ∃ m : Msg, c0 = .string m.s ∧ c1 = .int .i64 m.v ∧ c2 = .int .i64 m.l := by
  obtain ⟨y0, y1, y2, n, _, _, t0, t1, t2⟩ := Go.Deep.trod_struct3 Try.underlying45 h
  have k1 : Try.prog.cellsOf 9 = 1 := by kernel_rfl
  have k2 : Try.prog.cellsOf 3 = 1 := by kernel_rfl
  simp only [k1, k2, List.drop_zero, List.drop_succ_cons, List.take_succ_cons, List.take_zero] at t0 t1 t2
  obtain ⟨s, e0, _, _⟩ := DataW.trod_string Try.underlying9 t0
  obtain ⟨a, e1, _, _⟩ := DataW.trod_int Try.underlying3 t1
  obtain ⟨b, e2, _, _⟩ := DataW.trod_int Try.underlying3 t2
  simp only [List.cons.injEq, and_true] at e0 e1 e2
  exact ⟨⟨s, a, b⟩, e0, e1, e2⟩
theorem open_msgList {fuel : Nat} {cs : List Value} {x : DataW H × List MemPlace} (h : DataW.trod enc Try.prog W base0 (fun _ => true) held fuel 38 cs = some x) :
    ∃ (A : Option Addr) (l : List Msg) (cap : Nat), cs = [.slice A l.length cap] ∧ l.length ≤ cap ∧ MsgsAt W A l := by
  have hC : Try.prog.cellsOf 45 = 3 := by kernel_rfl
  rcases Go.Deep.open_slice Try.underlying38 h with ⟨rfl, _⟩ | ⟨a, len, cap, m, n, D, Pl, rfl, hb, hl, hm, hmm, hx, hi⟩
  · exact ⟨none, [], 0, rfl, Nat.le_refl _, RowsAt.nil⟩
  · simp only [if_true] at hmm
    rw [hC] at hi
    obtain ⟨l, hlen, hq⟩ := exists_list len (Q := fun i (y : Msg) => W.cell? (a.add (i * 3)) = some (.string y.s) ∧ W.cell? (a.add (i * 3 + 1)) = some (.int .i64 y.v) ∧ W.cell? (a.add (i * 3 + 2)) = some (.int .i64 y.l)) fun i hil => by
      obtain ⟨cs', hc, ht⟩ := hi i (by omega)
      obtain ⟨_, hcl, hat⟩ := World.cells?_some hc
      obtain ⟨c0, c1, c2, rfl⟩ := len3 hcl
      obtain ⟨y, rfl, rfl, rfl⟩ := msg_of ht
      refine ⟨y, ?_, ?_, ?_⟩
      · have := hat 0 (by omega)
        simpa [Go.Deep.add_add] using this
      · have := hat 1 (by omega)
        simpa [Go.Deep.add_add] using this
      · have := hat 2 (by omega)
        simpa [Go.Deep.add_add] using this
    refine ⟨some a, l, cap, by rw [hlen], by omega, rows_of (by decide) fun i hil j hj => ?_⟩
    match j, hj with
    | 0, _ => exact (hq i hil).1
    | 1, _ => exact (hq i hil).2.1
    | 2, _ => exact (hq i hil).2.2
theorem open_pktList {fuel : Nat} {cs : List Value} {x : DataW H × List MemPlace} (h : DataW.trod enc Try.prog W base0 (fun _ => true) held fuel 39 cs = some x) :
    ∃ (A : Option Addr) (l : List Pkt) (cap : Nat), cs = [.slice A l.length cap] ∧ l.length ≤ cap ∧ PktsAt W A l := by
  have hC : Try.prog.cellsOf 150 = 4 := by kernel_rfl
  rcases Go.Deep.open_slice Try.underlying39 h with ⟨rfl, _⟩ | ⟨a, len, cap, m, n, D, Pl, rfl, hb, hl, hm, hmm, hx, hi⟩
  · exact ⟨none, [], 0, rfl, Nat.le_refl _, RowsAt.nil⟩
  · simp only [if_true] at hmm
    rw [hC] at hi
    obtain ⟨l, hlen, hq⟩ := exists_list len (Q := fun i (y : Pkt) => W.cell? (a.add (i * 4)) = some (.string y.m.s) ∧ W.cell? (a.add (i * 4 + 1)) = some (.int .i64 y.m.v) ∧ W.cell? (a.add (i * 4 + 2)) = some (.int .i64 y.m.l) ∧ W.cell? (a.add (i * 4 + 3)) = some (.bool y.a)) fun i hil => by
      obtain ⟨cs', hc, ht⟩ := hi i (by omega)
      obtain ⟨_, hcl, hat⟩ := World.cells?_some hc
      obtain ⟨c0, c1, c2, c3, rfl⟩ := len4 hcl
      obtain ⟨y0, y1, n2, hy, _, u0, u1⟩ := trod_struct2 Try.underlying150 ht
      have k3 : Try.prog.cellsOf 45 = 3 := by kernel_rfl
      have k4 : Try.prog.cellsOf 4 = 1 := by kernel_rfl
      simp only [k3, k4, List.drop_zero, List.drop_succ_cons, List.take_succ_cons, List.take_zero] at u0 u1
      obtain ⟨y, rfl, rfl, rfl⟩ := msg_of u0
      obtain ⟨a1, e1, _⟩ := DataW.trod_bool Try.underlying4 u1
      simp only [List.cons.injEq, and_true] at e1
      subst e1
      refine ⟨⟨y, a1⟩, ?_, ?_, ?_, ?_⟩
      · have := hat 0 (by omega)
        simpa [Go.Deep.add_add] using this
      · have := hat 1 (by omega)
        simpa [Go.Deep.add_add] using this
      · have := hat 2 (by omega)
        simpa [Go.Deep.add_add] using this
      · have := hat 3 (by omega)
        simpa [Go.Deep.add_add] using this
    refine ⟨some a, l, cap, by rw [hlen], by omega, rows_of (by decide) fun i hil j hj => ?_⟩
    match j, hj with
    | 0, _ => exact (hq i hil).1
    | 1, _ => exact (hq i hil).2.1
    | 2, _ => exact (hq i hil).2.2.1
    | 3, _ => exact (hq i hil).2.2.2
theorem open_mvList {fuel : Nat} {cs : List Value} {x : DataW H × List MemPlace} (h : DataW.trod enc Try.prog W base0 (fun _ => true) held fuel 42 cs = some x) :
    ∃ (A : Option Addr) (l : List Mv) (cap : Nat), cs = [.slice A l.length cap] ∧ l.length ≤ cap ∧ MvsAt W A l := by
  have hC : Try.prog.cellsOf 47 = 5 := by kernel_rfl
  rcases Go.Deep.open_slice Try.underlying42 h with ⟨rfl, _⟩ | ⟨a, len, cap, m, n, D, Pl, rfl, hb, hl, hm, hmm, hx, hi⟩
  · exact ⟨none, [], 0, rfl, Nat.le_refl _, RowsAt.nil⟩
  · simp only [if_true] at hmm
    rw [hC] at hi
    obtain ⟨l, hlen, hq⟩ := exists_list len (Q := fun i (y : Mv) => W.cell? (a.add (i * 5)) = some (.int .i64 y.k) ∧ W.cell? (a.add (i * 5 + 1)) = some (.int .i64 y.i) ∧ W.cell? (a.add (i * 5 + 2)) = some (.string y.m.s) ∧ W.cell? (a.add (i * 5 + 3)) = some (.int .i64 y.m.v) ∧ W.cell? (a.add (i * 5 + 4)) = some (.int .i64 y.m.l)) fun i hil => by
      obtain ⟨cs', hc, ht⟩ := hi i (by omega)
      obtain ⟨_, hcl, hat⟩ := World.cells?_some hc
      obtain ⟨c0, c1, c2, c3, c4, rfl⟩ := len5 hcl
      obtain ⟨y0, y1, y2, n2, _, _, u0, u1, u2⟩ := Go.Deep.trod_struct3 Try.underlying47 ht
      have k3 : Try.prog.cellsOf 3 = 1 := by kernel_rfl
      have k4 : Try.prog.cellsOf 45 = 3 := by kernel_rfl
      simp only [k3, k4, List.drop_zero, List.drop_succ_cons, List.take_succ_cons, List.take_zero] at u0 u1 u2
      obtain ⟨a0, e0, _, _⟩ := DataW.trod_int Try.underlying3 u0
      obtain ⟨a1, e1, _, _⟩ := DataW.trod_int Try.underlying3 u1
      obtain ⟨y, rfl, rfl, rfl⟩ := msg_of u2
      simp only [List.cons.injEq, and_true] at e0 e1
      subst e0 e1
      refine ⟨⟨a0, a1, y⟩, ?_, ?_, ?_, ?_, ?_⟩
      · have := hat 0 (by omega)
        simpa [Go.Deep.add_add] using this
      · have := hat 1 (by omega)
        simpa [Go.Deep.add_add] using this
      · have := hat 2 (by omega)
        simpa [Go.Deep.add_add] using this
      · have := hat 3 (by omega)
        simpa [Go.Deep.add_add] using this
      · have := hat 4 (by omega)
        simpa [Go.Deep.add_add] using this
    refine ⟨some a, l, cap, by rw [hlen], by omega, rows_of (by decide) fun i hil j hj => ?_⟩
    match j, hj with
    | 0, _ => exact (hq i hil).1
    | 1, _ => exact (hq i hil).2.1
    | 2, _ => exact (hq i hil).2.2.1
    | 3, _ => exact (hq i hil).2.2.2.1
    | 4, _ => exact (hq i hil).2.2.2.2
set_option maxRecDepth 100000 in
theorem open_msgs (hv : Value.okWide Try.prog W r b0 38 v) (h : DataW.Trod enc Try.prog W base0 (fun _ => true) held 38 v d p) :
    ∃ (A : Option Addr) (l : List Msg) (cap : Nat), v = .slice A l.length cap ∧ l.length ≤ cap ∧ MsgsAt W A l := by
  obtain ⟨a, len, cap, rfl⟩ := okWide_slice Try.underlying38 hv
  obtain ⟨fuel, hf⟩ := h
  obtain ⟨A, l, cap', e, h1, h2⟩ := open_msgList hf
  have e2 : Value.slice a len cap = .slice A l.length cap' := by simpa [Value.cells] using e
  exact ⟨A, l, cap', e2, h1, h2⟩
set_option maxRecDepth 100000 in
theorem open_moves (hv : Value.okWide Try.prog W r b0 42 v) (h : DataW.Trod enc Try.prog W base0 (fun _ => true) held 42 v d p) :
    ∃ (A : Option Addr) (l : List Mv) (cap : Nat), v = .slice A l.length cap ∧ l.length ≤ cap ∧ MvsAt W A l := by
  obtain ⟨a, len, cap, rfl⟩ := okWide_slice Try.underlying42 hv
  obtain ⟨fuel, hf⟩ := h
  obtain ⟨A, l, cap', e, h1, h2⟩ := open_mvList hf
  have e2 : Value.slice a len cap = .slice A l.length cap' := by simpa [Value.cells] using e
  exact ⟨A, l, cap', e2, h1, h2⟩
set_option maxRecDepth 100000 in
theorem open_msg (hv : Value.okWide Try.prog W r b0 45 v) (h : DataW.Trod enc Try.prog W base0 (fun _ => true) held 45 v d p) :
    ∃ m : Msg, v = .agg #[.string m.s, .int .i64 m.v, .int .i64 m.l] := by
  obtain ⟨v0, v1, v2, y0, y1, y2, n, rfl, hd, hp, t0, t1, t2⟩ := Go.Joins.open_agg3 Try.underlying45 (by kernel_rfl) (by kernel_rfl) hv h
  obtain ⟨s, e0, _, _⟩ := DataW.trod_string Try.underlying9 t0
  obtain ⟨a, e1, _, _⟩ := DataW.trod_int Try.underlying3 t1
  obtain ⟨b, e2, _, _⟩ := DataW.trod_int Try.underlying3 t2
  simp only [List.cons.injEq, and_true] at e0 e1 e2
  subst e0 e1 e2
  exact ⟨⟨s, a, b⟩, rfl⟩
set_option maxRecDepth 100000 in
/-- a link by value -/
theorem open_link (hv : Value.okWide Try.prog W r b0 41 v) (h : DataW.Trod enc Try.prog W base0 (fun _ => true) held 41 v d p) :
    ∃ (A1 : Option Addr) (c1 : Nat) (A2 : Option Addr) (c2 : Nat) (A3 : Option Addr) (c3 : Nat) (L : Lnk), v = LnkV A1 c1 A2 c2 A3 c3 L ∧ L.box.length ≤ c1 ∧ L.store.length ≤ c2 ∧ L.wire.length ≤ c3 ∧ LnkR A1 A2 A3 L W := by
  obtain ⟨v0, v1, v2, y0, y1, y2, n, rfl, hd, hp, t0, t1, t2⟩ := Go.Joins.open_agg3 Try.underlying41 (by kernel_rfl) (by kernel_rfl) hv h
  obtain ⟨A1, l1, c1, e0, h1, k1⟩ := open_msgList t0
  obtain ⟨A3, l3, c3, e1, h3, k3⟩ := open_pktList t1
  obtain ⟨A2, l2, c2, e2, h2, k2⟩ := open_msgList t2
  simp only [List.cons.injEq, and_true] at e0 e1 e2
  subst e0 e1 e2
  exact ⟨A1, c1, A2, c2, A3, c3, ⟨l1, l3, l2⟩, rfl, h1, h2, h3, ⟨k1, k2, k3⟩⟩
end
end
section
open Go.ChangeShapes Go.WideShapes Go.ChangeAt Go.RowKit
set_option linter.unusedVariables false
set_option linter.unusedSimpArgs false

section
variable {H : Type} {enc : TypeId × Value → H} {W : World} {r : Reach} {b0 base0 : Nat} {held : Bool} {v : Value} {d : DataW H} {p : List MemPlace}
theorem mv_of {fuel : Nat} {c0 c1 c2 c3 c4 : Value} {x : DataW H × List MemPlace} (h : DataW.trod enc Try.prog W base0 (fun _ => true) held fuel 47 [c0, c1, c2, c3, c4] = some x) : ∃ m : Mv, c0 = .int .i64 m.k ∧ c1 = .int .i64 m.i ∧ c2 = .string m.m.s ∧ c3 = .int .i64 m.m.v ∧ c4 = .int .i64 m.m.l := by
  obtain ⟨y0, y1, y2, n2, _, _, u0, u1, u2⟩ := Go.Deep.trod_struct3 Try.underlying47 h
  have k3 : Try.prog.cellsOf 3 = 1 := by kernel_rfl
  have k4 : Try.prog.cellsOf 45 = 3 := by kernel_rfl
  simp only [k3, k4, List.drop_zero, List.drop_succ_cons, List.take_succ_cons, List.take_zero] at u0 u1 u2
  obtain ⟨a0, e0, _, _⟩ := DataW.trod_int Try.underlying3 u0
  obtain ⟨a1, e1, _, _⟩ := DataW.trod_int Try.underlying3 u1
  obtain ⟨y, e2, e3, e4⟩ := msg_of u2
  simp only [List.cons.injEq, and_true] at e0 e1
  exact ⟨⟨a0, a1, y⟩, e0, e1, e2, e3, e4⟩
set_option maxRecDepth 100000 in
theorem open_move (hv : Value.okWide Try.prog W r b0 47 v) (h : DataW.Trod enc Try.prog W base0 (fun _ => true) held 47 v d p) :
    ∃ m : Mv, v = .agg #[.int .i64 m.k, .int .i64 m.i, .string m.m.s, .int .i64 m.m.v, .int .i64 m.m.l] := by
  obtain ⟨cs, rfl, hsz⟩ := okWide_struct Try.underlying47 hv
  have hC : Try.prog.cellsOf 47 = 5 := by kernel_rfl
  obtain ⟨l⟩ := cs
  have hl : l.length = 5 := hsz.trans hC
  obtain ⟨c0, c1, c2, c3, c4, rfl⟩ := len5 hl
  obtain ⟨fuel, hf⟩ := h
  obtain ⟨m, rfl, rfl, rfl, rfl, rfl⟩ := mv_of hf
  exact ⟨m, rfl⟩
end
end
end Go.Proofs.Ytcfbnmcdncndpaa
