/-
  Strings: the pieces of a string one by one (SplitSeq).
-/
import Derived.Test.YtlnbbioponmcfaaGreatDoorItK
import Derived.Test.YtlnbbioponmcfaaGreatDoorStrS
import Derived.Shelf.RegionOpen
namespace Go.Proofs.YtlnbbioponmcfaaGreatDoor
open Go.ChangeShapes Go.WideShapes Go.ChangeAt Go.RowKit
set_option linter.unusedVariables false
set_option linter.unusedSimpArgs false
attribute [local go_sem] Oper.semAt_some

theorem indexByte_spec (c : UInt8) : ∀ l : List UInt8, (Lib.indexByte l c = -1 ∧ c ∉ l) ∨ ∃ o : Nat, Lib.indexByte l c = o ∧ o < l.length ∧ c ∉ l.take o ∧ l = l.take o ++ c :: l.drop (o + 1)
  | [] => Or.inl ⟨rfl, by simp⟩
  | x :: r => by
    by_cases hx : x = c
    · subst hx
      exact Or.inr ⟨0, by simp [Lib.indexByte], by simp, by simp, by simp⟩
    · have hb : (x == c) = false := by simpa using hx
      rcases indexByte_spec c r with ⟨h1, h2⟩ | ⟨o, h1, h2, h3, h4⟩
      · left
        refine ⟨by simp [Lib.indexByte, hb, h1], ?_⟩
        simp only [List.mem_cons, not_or]
        exact ⟨fun e => hx e.symm, h2⟩
      · right
        refine ⟨o + 1, ?_, by simp; omega, ?_, ?_⟩
        · have hne : ((o : Int) == -1) = false := by rw [beq_eq_false_iff_ne]; omega
          simp [Lib.indexByte, hb, h1, hne]
        · simp only [List.take_succ_cons, List.mem_cons, not_or]
          exact ⟨fun e => hx e.symm, h3⟩
        · simp only [List.take_succ_cons, List.drop_succ_cons, List.cons_append]
          rw [← h4]
theorem seq_step (c : UInt8) (s : ByteArray) : (Lib.indexByte s.data.toList c = -1 ∧ cutB c s = [s]) ∨ ∃ o : Nat, Lib.indexByte s.data.toList c = o ∧ o < s.size ∧ cutB c s = s.extract 0 o :: cutB c (s.extract (o + 1) s.size) := by
  rcases indexByte_spec c s.data.toList with ⟨h1, h2⟩ | ⟨o, h1, h2, h3, h4⟩
  · left
    refine ⟨h1, ?_⟩
    unfold cutB
    rw [cutL_none h2]
    rfl
  · right
    refine ⟨o, h1, by rwa [len_list] at h2, ?_⟩
    have e : cutL c s.data.toList = s.data.toList.take o :: cutL c (s.data.toList.drop (o + 1)) := by
      conv => lhs; rw [h4]
      exact cutL_cons h3
    unfold cutB
    rw [e, List.map_cons, ext_ba, ext_ba]
    have e2 : (toBA ((s.data.toList.drop (o + 1)).take (s.size - (o + 1)))).data.toList = s.data.toList.drop (o + 1) := by
      show ((s.data.toList.drop (o + 1)).take (s.size - (o + 1))).toArray.toList = _
      rw [List.take_of_length_le (by rw [List.length_drop, len_list]; omega)]
    rw [e2]
    simp [toBA]
/-- the iterator's boxes: the separator, what is left of the string, the bytes kept -/
structure SqW (c : UInt8) (bp bs bv : Nat) (r : ByteArray) (w : World) : Prop where
  p : w.cell? ⟨bp, 0, none⟩ = some (.string ⟨#[c]⟩)
  s : w.cell? ⟨bs, 0, none⟩ = some (.string r)
  v : w.cell? ⟨bv, 0, none⟩ = some (.int .i64 0)
  f : w.frozen? ⟨bs, 0, none⟩ = false
theorem SqW.of {c : UInt8} {bp bs bv : Nat} {r : ByteArray} {w w' : World} (h : SqW c bp bs bv r w) (h1 : w'.heap[bp]? = w.heap[bp]?) (h2 : w'.heap[bs]? = w.heap[bs]?) (h3 : w'.heap[bv]? = w.heap[bv]?) : SqW c bp bs bv r w' :=
  ⟨(World.cell?_of_block h1).trans h.p, (World.cell?_of_block h2).trans h.s, (World.cell?_of_block h3).trans h.v, (World.frozen?_of_block h2).trans h.f⟩
/-- how much is left -/
def leftAt (w : World) (b : Nat) : Nat := match w.cell? ⟨b, 0, none⟩ with
  | some (.string r) => r.size
  | _ => 0
theorem leftAt_of {w : World} {b : Nat} {r : ByteArray} (h : w.cell? ⟨b, 0, none⟩ = some (.string r)) : leftAt w b = r.size := by
  unfold leftAt
  rw [h]
def sqC (x : ByteArray) : Array Value := #[.string x]
set_option maxRecDepth 100000 in
set_option maxHeartbeats 4000000 in
theorem splitSeq_it (n : Nat) (c : UInt8) (s : ByteArray) (bp bs bv ob : Nat) (w0 : World) (hs : s.size ≤ 1000000) (h1 : bp < w0.heap.size ∧ bp ≠ bs ∧ bp ≠ ob) (h2 : bv < w0.heap.size ∧ bv ≠ bs ∧ bv ≠ ob) (h3 : bs < w0.heap.size ∧ bs ≠ ob)
    (h0 : SqW c bp bs bv s w0) :
    IterOk2 Tryz.prog n 95 #[] #[.pointer (some ⟨bp, 0, none⟩), .pointer (some ⟨bs, 0, none⟩), .pointer (some ⟨bv, 0, none⟩)] sqC (StL bs) (KpO w0.heap.size ob) (fun ys => ys = cutB c s) (fun pre => pre <+: cutB c s)
      (fun _ _ => True) w0 := by
  intro lp J Jx W hW hJ hJx hY hJ0
  refine callsIn_of_wp Tryz.func95 rfl trivial ?_ rfl
  simp only [Tryz.ntmps95, List.size_toArray, List.length_cons, List.length_nil, Nat.reduceAdd, Nat.reduceSub, Array.replicate_succ, Array.replicate_zero, List.push_toArray, List.append_toArray, List.nil_append, List.cons_append]
  have hW0 := h0.of (hW.block bp h1.1) (hW.block bs h3.1) (hW.block bv h2.1)
  have HJ := Lib.hid hJ
  have HJx := Lib.hid hJx
  have HY := Lib.hid hY
  have hWz := hW.size
  have hsz : (⟨#[c]⟩ : ByteArray).size = 1 := rfl
  obtain ⟨sep, hsep⟩ : ∃ p : ByteArray, p = ⟨#[c]⟩ := ⟨_, rfl⟩
  have HSEP := Lib.hid hsep
  have hsz2 : sep.size = 1 := by rw [hsep]; rfl
  clear hJ hJx hY h0 hW
  have x1 := hW0.p
  rw [← hsep] at x1
  clear hsep
  gi_wp2_with (fail)
  gi_loopw [] (fun wr => ∃ (r : ByteArray) (pre : List ByteArray), r.size ≤ 1000000 ∧ SqW c bp bs bv r wr ∧ cutB c s = pre ++ cutB c r ∧ J pre wr ∧ (∀ k, k < w0.heap.size → k ≠ bs → k ≠ ob → wr.heap[k]? = W.heap[k]?) ∧ W.heap.size ≤ wr.heap.size)
    (fun wr => leftAt wr bs)
  case atStart => exact ⟨s, [], hs, hW0, rfl, hJ0, fun k h _ _ => rfl, Nat.le_refl _⟩
  case round =>
    obtain ⟨r, pre, hr, hq, hpre, hJr, hsm, hWr⟩ := hrel
    obtain ⟨wo, rfl⟩ : ∃ wo : World, wo = wr := ⟨_, rfl⟩
    obtain ⟨x1, x2, x3, xf⟩ := hq
    rw [← HSEP.out] at x1
    have z1 := World.block_lt_of_cell? _ _ x1
    have z2 := World.block_lt_of_cell? _ _ x2
    have z3 := World.block_lt_of_cell? _ _ x3
    have HIX := Lib.hid (shf_strings_Index_one r c wo)
    rw [← HSEP.out] at HIX
    have HSM := Lib.hid hsm
    have HP := Lib.hid hpre
    clear hsm hpre hJ0 hW0
    have hleft := leftAt_of x2
    have HLF := Lib.hid hleft
    clear hleft
    rcases seq_step c r with ⟨hi, hcut⟩ | ⟨o, hi, ho, hcut⟩
    · rw [hi] at HIX
      have HP2 := Lib.hid (HP.out.trans (by rw [hcut]))
      clear hi hcut HP
      gi_wp2_with (fail)
      refine ⟨trivial, (fun h => by cases h), (callsIn_wide.2 HIX.out).mono ?_⟩
      rintro e w' ⟨rfl, rfl⟩
      obtain ⟨fn, tmps, assign, body, hy, hR⟩ := HY.out pre r _ hJr ⟨[], by rw [HP2.out]; simp⟩ hWr
      replace hy : (Instr.yield lp #[.string r]).run Tryz.prog _ = .ok (.round lp fn tmps assign body) _ := hy
      have HR2 := Lib.hid hR
      clear hR
      gi_wp2
      refine ⟨(fun h => by cases h), HR2.out.mono ?_⟩
      rintro e W3 (⟨rfl, hJ5, hk5, hz5⟩ | ⟨rfl, hJx3, hz3⟩)
      · gi_wp2
        go_end0
        exact ⟨⟨_, rfl⟩, .inl ⟨pre ++ [r], by rw [HP2.out], hJ5, trivial⟩⟩
      · gi_wp2
        go_end0
        exact ⟨⟨_, rfl⟩, .inr ⟨pre ++ [r], ⟨[], by rw [HP2.out]; simp⟩, hJx3⟩⟩
    · rw [hi] at HIX
      have HP2 := Lib.hid (HP.out.trans (by rw [hcut]))
      have hoI : (o : Int) < (r.size : Int) := by omega
      have hoz : (o : Int) ≤ (r.size : Int) := by omega
      have hoz1 : (o : Int) + 1 ≤ (r.size : Int) := by omega
      have e0 : decide ((o : Int) < 0) = false := decide_eq_false (by omega)
      have hw0 : IntKind.i64.wrap ((o : Int) + 0) = (o : Int) := by rw [IntKind.wrap_i64]; omega
      have hw1 : IntKind.i64.wrap ((o : Int) + 1) = (o : Int) + 1 := by rw [IntKind.wrap_i64]; omega
      have hr2 : (r.extract (o + 1) r.size).size + 1 ≤ r.size := by rw [ext_ba, toBA_size]; simp; omega
      generalize hf1 : r.extract 0 o = f1 at *
      generalize hf2 : r.extract (o + 1) r.size = f2 at *
      have HR0 := Lib.hid hr2
      clear hi hcut HP hr2
      gi_wp2_with (fail)
      refine ⟨trivial, (fun h => by cases h), (callsIn_wide.2 HIX.out).mono ?_⟩
      rintro e w' ⟨rfl, rfl⟩
      obtain ⟨fn, tmps, assign, body, hy, hR⟩ := HY.out pre f1 _ hJr ⟨cutB c f2, by rw [HP2.out]; simp⟩ hWr
      replace hy : (Instr.yield lp #[.string f1]).run Tryz.prog _ = .ok (.round lp fn tmps assign body) _ := hy
      have HR2 := Lib.hid hR
      clear hR
      gi_wp2
      refine ⟨(fun h => by cases h), HR2.out.mono ?_⟩
      rintro e W3 (⟨rfl, hJ5, hk5, hz5⟩ | ⟨rfl, hJx3, hz3⟩)
      · have hq3 : SqW c bp bs bv r W3 := (show SqW c bp bs bv r w' from ⟨by rw [← HSEP.out]; exact x1, x2, x3, xf⟩).of (hk5.eq h1.1 h1.2.2 z1) (hk5.eq h3.1 h3.2 z2) (hk5.eq h2.1 h2.2.2 z3)
        have hsm5 : ∀ k, k < w0.heap.size → k ≠ bs → k ≠ ob → W3.heap[k]? = W.heap[k]? := fun k q1 q2 q3 => (hk5.eq q1 q3 (by omega)).trans (HSM.out k q1 q2 q3)
        obtain ⟨y1, y2, y3, yf⟩ := hq3
        rw [← HSEP.out] at y1
        have v1 := World.block_lt_of_cell? _ _ y1
        have v2 := World.block_lt_of_cell? _ _ y2
        have v3 := World.block_lt_of_cell? _ _ y3
        have HS5 := Lib.hid hsm5
        have hpne : bs ≠ bp := fun e => h1.2.1 e.symm
        have hvne : bs ≠ bv := fun e => h2.2.1 e.symm
        have hf2z : f2.size ≤ 1000000 := by have := HR0.out; omega
        clear hk5 hsm5 hy HR2 x1 x2 x3 xf z1 z2 z3
        gi_wp2
        go_roundw
        case rel => exact ⟨f2, pre ++ [f1], hf2z, ⟨by rw [← HSEP.out]; exact cell_far hpne y1, cell_same y2, cell_far hvne y3, frozen_set _ _ yf⟩, by rw [HP2.out]; simp, HJ.out _ _ _ hJ5 (by omega) StL.set, fun k q1 q2 q3 => (Below.heap_setCell W3 ⟨bs, 0, none⟩ _ k q2).trans (HS5.out k q1 q2 q3), by simp; omega⟩
        case measure => rw [leftAt_of (cell_same y2), HLF.out]; have := HR0.out; omega
      · gi_wp2
        refine bodyPost_ret (results_none rfl _ _ _) rfl ?_
        exact ⟨⟨_, rfl⟩, .inr ⟨pre ++ [f1], ⟨cutB c f2, by rw [HP2.out]; simp⟩, hJx3⟩⟩
end Go.Proofs.YtlnbbioponmcfaaGreatDoor
