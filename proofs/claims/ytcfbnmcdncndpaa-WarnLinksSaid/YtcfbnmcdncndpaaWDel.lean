/-
  Chapter 8: packets; one element struck from a row (slices.Delete).
-/
import Derived.Test.YtcfbnmcdncndpaaWRcd
namespace Go.Proofs.Ytcfbnmcdncndpaa
open Go.ChangeShapes Go.WideShapes Go.ChangeAt Go.RowKit
set_option linter.unusedVariables false
set_option linter.unusedSimpArgs false

structure Pkt where
  m : Msg
  a : Bool
def pktC (p : Pkt) (j : Nat) : Value := match j with
  | 0 => .string p.m.s
  | 1 => .int .i64 p.m.v
  | 2 => .int .i64 p.m.l
  | _ => .bool p.a
abbrev PktsAt := RowsAt 4 pktC
theorem PktsAt.at_ {w : World} {A : Option Addr} {l : List Pkt} (h : PktsAt w A l) {k : Nat} (hk : k < l.length) :
    ∃ b off, A = some ⟨b, off, none⟩ ∧ b < w.heap.size ∧ w.cell? ⟨b, off + k * 4, none⟩ = some (.string l[k].m.s) ∧ w.cell? ⟨b, off + k * 4 + 1, none⟩ = some (.int .i64 l[k].m.v) ∧ w.cell? ⟨b, off + k * 4 + 2, none⟩ = some (.int .i64 l[k].m.l) ∧ w.cell? ⟨b, off + k * 4 + 3, none⟩ = some (.bool l[k].a) := by
  obtain ⟨b, off, e, hb, hc⟩ := h k l[k] (List.getElem?_eq_getElem hk)
  exact ⟨b, off, e, hb, by simpa [pktC] using hc 0 (by omega), by simpa [pktC] using hc 1 (by omega), by simpa [pktC] using hc 2 (by omega), by simpa [pktC] using hc 3 (by omega)⟩
theorem pktC_one (x : Pkt) (i : Nat) : (pktC x i).oneCell' = true := by
  match i with
  | 0 => rfl
  | 1 => rfl
  | 2 => rfl
  | i + 3 => rfl
theorem infoPkt : (Try.prog.info? 150).map (fun i => (i.zero, i.size, i.bytes)) = some (some (.agg #[.string ⟨#[]⟩, .int .i64 0, .int .i64 0, .bool false]), 4, 40) := by kernel_rfl
theorem infoPkt_ : ∃ i : TypeInfo, Try.prog.info? 150 = some i ∧ i.zero = some (.agg #[.string ⟨#[]⟩, .int .i64 0, .int .i64 0, .bool false]) ∧ i.size = 4 ∧ i.bytes = 40 := by
  have h := infoPkt
  cases hi : Try.prog.info? 150 with
  | none => rw [hi] at h; cases h
  | some i =>
    rw [hi] at h
    simp only [Option.map_some, Option.some.injEq, Prod.mk.injEq] at h
    exact ⟨i, rfl, h.1, h.2.1, h.2.2⟩
theorem mem_oneP {l : List Pkt} : ∀ u ∈ cellsOf 4 pktC l, u.oneCell' = true := cellsOf_one pktC_one (by decide) l
theorem mem4 (p : Pkt) : ∀ u ∈ [Value.string p.m.s, .int .i64 p.m.v, .int .i64 p.m.l, .bool p.a], u.oneCell' = true := fun u hu => by
  simp only [List.mem_cons, List.not_mem_nil, or_false] at hu
  rcases hu with rfl | rfl | rfl | rfl <;> rfl
def delL {α : Type} (l : List α) (i : Nat) : List α := l.take i ++ l.drop (i + 1)
theorem delL_len {α : Type} {l : List α} {i : Nat} (h : i < l.length) : (delL l i).length + 1 = l.length := by
  unfold delL; rw [List.length_append, List.length_take, List.length_drop]; omega
section
variable {α : Type} {m : Nat} {f : α → Nat → Value}
theorem cells_take' (l : List α) (i : Nat) : cellsOf m f (l.take i) = (cellsOf m f l).take (i * m) := by
  by_cases h : i ≤ l.length
  · have e : cellsOf m f l = cellsOf m f (l.take i) ++ cellsOf m f (l.drop i) := by rw [← cellsOf_append, List.take_append_drop]
    have hl : (cellsOf m f (l.take i)).length = i * m := by rw [cellsOf_length, List.length_take, Nat.min_eq_left h]
    rw [e]; exact (List.take_left' hl).symm
  · rw [List.take_of_length_le (by omega), List.take_of_length_le (by rw [cellsOf_length]; exact Nat.mul_le_mul_right _ (by omega))]
theorem cells_drop' (l : List α) (i : Nat) : cellsOf m f (l.drop i) = (cellsOf m f l).drop (i * m) := by
  by_cases h : i ≤ l.length
  · have e : cellsOf m f l = cellsOf m f (l.take i) ++ cellsOf m f (l.drop i) := by rw [← cellsOf_append, List.take_append_drop]
    have hl : (cellsOf m f (l.take i)).length = i * m := by rw [cellsOf_length, List.length_take, Nat.min_eq_left h]
    rw [e]; exact (List.drop_left' hl).symm
  · rw [List.drop_eq_nil_of_le (by omega), List.drop_eq_nil_of_le (by rw [cellsOf_length]; exact Nat.mul_le_mul_right _ (by omega))]; rfl
/-- the row behind 'append(s[:i], s[i+1:]...)' and 'clear': what is left of it -/
theorem del_row (L X Z : List Value) (i q m : Nat) (hX : L.take ((q + 1) * m) = X) (hXl : X.length = (q + 1) * m) (hi : i ≤ q) (hL : (q + 1) * m ≤ L.length) (hZ : Z.length = m) :
    let r1 := L.take (i * m) ++ X.drop ((i + 1) * m) ++ L.drop (i * m + (X.drop ((i + 1) * m)).length)
    let r2 := r1.take (q * m) ++ Z ++ r1.drop (q * m + m)
    r1.length = L.length ∧ r2.length = L.length ∧ r2.take (q * m) = X.take (i * m) ++ X.drop ((i + 1) * m) := by
  intro r1 r2
  have hqm : (q + 1) * m = q * m + m := by rw [Nat.add_mul, Nat.one_mul]
  have him : (i + 1) * m = i * m + m := by rw [Nat.add_mul, Nat.one_mul]
  have hle : i * m ≤ q * m := Nat.mul_le_mul_right _ hi
  have e1 : (X.drop ((i + 1) * m)).length = q * m - i * m := by rw [List.length_drop, hXl]; omega
  have l1 : (L.take (i * m)).length = i * m := by rw [List.length_take]; omega
  have h1 : r1.length = L.length := by
    show (L.take (i * m) ++ X.drop ((i + 1) * m) ++ L.drop _).length = _
    rw [List.length_append, List.length_append, l1, e1, List.length_drop]; omega
  have l2 : (r1.take (q * m)).length = q * m := by rw [List.length_take, h1]; omega
  have h2 : r2.length = L.length := by
    show (r1.take (q * m) ++ Z ++ r1.drop _).length = _
    rw [List.length_append, List.length_append, l2, hZ, List.length_drop, h1]; omega
  refine ⟨h1, h2, ?_⟩
  show (r1.take (q * m) ++ Z ++ r1.drop _).take (q * m) = _
  rw [List.append_assoc, List.take_append_of_le_length (by omega), List.take_take, Nat.min_self]
  show (L.take (i * m) ++ X.drop ((i + 1) * m) ++ L.drop _).take (q * m) = _
  rw [List.take_append_of_le_length (by rw [List.length_append, l1, e1]; omega), List.take_of_length_le (by rw [List.length_append, l1, e1]; omega), ← hX, List.take_take, Nat.min_eq_left (by omega)]
end
/-- what comes of a row by striking one element -/
def Struck {α : Type} (m : Nat) (f : α → Nat → Value) (T : TypeId) (B : Nat) (A : Option Addr) (cap : Nat) (l l' : List α) (w : World) (e : Ending) (w' : World) : Prop :=
  e = .returned (.slice A l'.length cap) ∧ w'.ownsRow B T m (.slice A l'.length cap) l'.length (cellsOf m f l') ∧ w.grownBy w' (Value.ownBlock (.slice A l.length cap))

set_option maxHeartbeats 4000000 in
set_option maxRecDepth 100000 in
theorem DelM_any (B : Nat) (A : Option Addr) (cap : Nat) (l : List Msg) (i : Nat) (w : World) (hl : l.length ≤ 100) (hi : i < l.length)
    (own : w.ownsRow B 45 3 (.slice A l.length cap) l.length (cellsOf 3 msgC l)) :
    Calls Try.prog 132 #[.slice A l.length cap, .int .i64 i, .int .i64 ((i : Int) + 1)] w (Struck 3 msgC 45 B A cap l (delL l i) w) := by
  obtain ⟨g, cur, rfl, hBg, hg, hnc, hcm, hcs, htk⟩ := own_open own (by omega)
  obtain ⟨i0, hi0, hz0, hz1, hz2⟩ := infoMsg_
  have hdl := delL_len hi
  obtain ⟨q, hq⟩ : ∃ q, l.length = q + 1 := ⟨l.length - 1, by omega⟩
  have hdq : (delL l i).length = q := by omega
  have hXl : (cellsOf 3 msgC l).length = l.length * 3 := cellsOf_length l
  have hXg : ∀ j u, (cellsOf 3 msgC l)[j]? = some u → cur.toList[j]? = some u := fun j u hu => by
    rw [← htk, List.getElem?_take] at hu
    split at hu
    · exact hu
    · cases hu
  have hcl : cur.toList.length = cap * 3 := Array.length_toList.trans hcs
  rw [hq] at hXl htk hnc
  have hz : (Builtin.zeroCells (Value.agg #[.string ⟨#[]⟩, .int .i64 0, .int .i64 0]).cells 1).toList.length = 3 := Array.length_toList.trans ((size_zeroCells _ _).trans rfl)
  have hir := del_row cur.toList (cellsOf 3 msgC l) (Builtin.zeroCells (Value.agg #[.string ⟨#[]⟩, .int .i64 0, .int .i64 0]).cells 1).toList i q 3 htk hXl (by omega) (by rw [hcl]; omega) hz
  obtain ⟨R1, hR1⟩ : ∃ R1 : List Value, R1 = cur.toList.take (i * 3) ++ (cellsOf 3 msgC l).drop ((i + 1) * 3) ++ cur.toList.drop (i * 3 + ((cellsOf 3 msgC l).drop ((i + 1) * 3)).length) := ⟨_, rfl⟩
  obtain ⟨R2, hR2⟩ : ∃ R2 : List Value, R2 = R1.take (q * 3) ++ (Builtin.zeroCells (Value.agg #[.string ⟨#[]⟩, .int .i64 0, .int .i64 0]).cells 1).toList ++ R1.drop (q * 3 + 3) := ⟨_, rfl⟩
  have hir2 : R1.length = cur.toList.length ∧ R2.length = cur.toList.length ∧ R2.take (q * 3) = (cellsOf 3 msgC l).take (i * 3) ++ (cellsOf 3 msgC l).drop ((i + 1) * 3) := by
    rw [hR2, hR1]; exact hir
  have hdl2 : ((cellsOf 3 msgC l).drop ((i + 1) * 3)).length = (q - i) * 3 := by rw [List.length_drop, hXl]; omega
  have hwd : w.drew.heap[g]? = some (.cells cur 45 (0, 0)) := hg
  obtain ⟨W1, hW1⟩ : ∃ W1, W1 = w.drew.setRow g R1.toArray := ⟨_, rfl⟩
  obtain ⟨W2, hW2⟩ : ∃ W2, W2 = W1.setRow g R2.toArray := ⟨_, rfl⟩
  have hg1 : W1.heap[g]? = some (.cells R1.toArray 45 (0, 0)) := by rw [hW1]; exact setRow_heap _ g cur _ _ _ hwd
  have hg2 : W2.heap[g]? = some (.cells R2.toArray 45 (0, 0)) := by rw [hW2]; exact setRow_heap _ g _ _ _ _ hg1
  have hap : ∀ ty (A' : Addr), (∀ j u, ((cellsOf 3 msgC l).drop ((i + 1) * 3))[j]? = some u → w.drew.cell? (A'.add j) = some u) → (Builtin.append_ #[151, 151] ty #[.slice (some ⟨g, 0, none⟩) i cap, .slice (some A') (q - i) (cap - (i + 1))]).run Try.prog w.drew = .ok (.slice (some ⟨g, 0, none⟩) q cap) W1 := fun ty A' hn => by
    rw [hW1, hR1]
    have h := run_append_room (P := Try.prog) w.drew 151 ty 45 i0 Try.underlying151 hi0 g i cap cur hwd A' (q - i) (cap - (i + 1)) ((cellsOf 3 msgC l).drop ((i + 1) * 3)) (by rw [hz1]; exact hdl2) hn (fun v hv => mem_one v (List.mem_of_mem_drop hv)) (by omega) (by rw [hz1, hdl2, hcs]; omega)
    rw [h, hz1, show i + (q - i) = q by omega]
  have hsrc : ∀ j u, ((cellsOf 3 msgC l).drop ((i + 1) * 3))[j]? = some u → w.drew.cell? ((⟨g, (i + 1) * 3, none⟩ : Addr).add j) = some u := fun j u hj => by
    rw [Addr.add_lit]
    rw [List.getElem?_drop] at hj
    exact blk_cell hwd (by have := hXg _ _ hj; simpa using this)
  have hzv : ∀ w, (zeroValue 45).run Try.prog w = .ok (Value.agg #[.string ⟨#[]⟩, .int .i64 0, .int .i64 0]) w := fun w => by simp [zeroValue, typeInfo, hi0, hz0]
  have hcr : ∀ ty c, (Builtin.clear_ #[151] ty #[.slice (some ⟨g, q * 3, none⟩) 1 c]).run Try.prog W1 = .ok (.tuple #[]) W2 := fun ty c => by
    rw [hW2, hR2]
    have h := run_clear_k (P := Try.prog) W1 151 45 ty (Value.agg #[.string ⟨#[]⟩, .int .i64 0, .int .i64 0]) Try.underlying151 hzv (fun v hv => by
      simp only [Value.cells, List.mem_toArray, List.mem_cons, List.not_mem_nil, or_false] at hv
      rcases hv with rfl | rfl | rfl <;> rfl) g (q * 3) 1 c (by omega) R1.toArray 45 hg1 (by show _ + 1 * 3 ≤ _; rw [List.size_toArray, hir2.1, hcl]; omega) (by decide)
    exact h
  have hfin : Struck 3 msgC 45 B (some ⟨g, 0, none⟩) cap l (delL l i) w (.returned (.slice (some ⟨g, 0, none⟩) q cap)) W2 := by
    refine ⟨by rw [hdq], ?_, ?_⟩
    · rw [hdq]
      refine own_mk hBg hg2 (by omega) hcm (by rw [List.size_toArray, hir2.2.1, hcl]) ?_ (by rw [cellsOf_length, hdq])
      unfold delL
      rw [cellsOf_append, cells_take', cells_drop', ← hir2.2.2]
    · refine grown_trans (w2 := W1) ?_ ?_
      · rw [hW1]; exact grown_drew0 (grown_setRow w.drew g l.length cap _)
      · rw [hW2]; exact grown_setRow W1 g l.length cap _
  have HF := Lib.hid hfin
  have HAP := Lib.hid hap
  have HSRC := Lib.hid hsrc
  have HCR := Lib.hid hcr
  have HE := Lib.hid (fun (h : q = i) => (List.eq_nil_of_length_eq_zero (by rw [hdl2, h]; simp) : (cellsOf 3 msgC l).drop ((i + 1) * 3) = []))
  have hiq : i ≤ q := by omega
  have hcm' : (cap : Int) ≤ 9223372036854775807 := by unfold maxLen at hcm; omega
  have hq100 : (q : Int) ≤ 100 := by omega
  rw [hq]
  have hqc : q < cap := by omega
  clear hfin hap hsrc hcr hzv hW1 hW2 hg1 hg2 hR1 hR2 hir hir2 hdl2 hwd hXg hXl hcl htk hg own hcs hz hdl hdq hi0 hz0 hz1 hz2 hnc hi hq hl
  have e1 : (i : Int) ≤ (q : Int) := by omega
  have e2 : (q : Int) < (cap : Int) := by omega
  have e3 : ¬ (cap = q) := by omega
  have e5 : ((i : Int) == (i : Int) + 1) = false := by simp; omega
  have q1 : (0 : Int) ≤ (i : Int) + 1 := by omega
  have q2 : ((i : Int) + 1).toNat = i + 1 := by omega
  have q3 : (i : Int) + 1 ≤ (q : Int) + 1 := by omega
  have q5 : (q : Int) + 1 ≤ (cap : Int) := by omega
  have q6 : (i : Int) ≤ (cap : Int) := by omega
  have q7 : (q : Int) + 1 - (q : Int) = 1 := by omega
  by_cases hci : cap = i + 1
  · obtain rfl : q = i := by omega
    subst hci
    have HA1 : Hid (∀ ty, (Builtin.append_ #[151, 151] ty #[.slice (some ⟨g, 0, none⟩) q (q + 1), .slice (some ⟨g, 0, none⟩) 0 0]).run Try.prog w.drew = .ok (.slice (some ⟨g, 0, none⟩) q (q + 1)) W1) := Lib.hid fun ty => by
      have h := HAP.out ty ⟨g, 0, none⟩ (fun j u hj => by rw [HE.out rfl] at hj; simp at hj)
      simpa using h
    have e8 : (q : Int) ≤ (q : Int) + 1 := by omega
    clear HAP HE HSRC
    go_enter Try.func132, Try.ntmps132
    go_wp2_with (fail)
    go_region_law (refine step_app_is rfl (.tmp 22) (.tmp 25) 151 151 rfl (.slice (some ⟨g, 0, none⟩) q (q + 1)) (.slice (some ⟨g, 0, none⟩) 0 0) (by simp [Act.eval, Act.put]) (by simp [Act.eval, Act.put]) (HA1.out _) ?_)
    go_wp2_with (with_reducible refine wpList_clear_is _ (o := ⟨none, _, _, _, _, _⟩) rfl (.tmp 31) 151 rfl _ rfl (HCR.out _ _) ?_)
    go_ret
    exact HF.out
  · go_enter Try.func132, Try.ntmps132
    go_wp2_with (fail)
    go_region_law (refine step_app_is rfl (.tmp 22) (.tmp 25) 151 151 rfl (.slice (some ⟨g, 0, none⟩) i cap) (.slice (some ⟨g, (i + 1) * 3, none⟩) (q - i) (cap - (i + 1))) (by simp [Act.eval, Act.put]) (by simp [Act.eval, Act.put]) (HAP.out _ _ HSRC.out) ?_)
    go_wp2_with (with_reducible refine wpList_clear_is _ (o := ⟨none, _, _, _, _, _⟩) rfl (.tmp 31) 151 rfl _ rfl (HCR.out _ _) ?_)
    go_ret
    exact HF.out

set_option maxHeartbeats 4000000 in
set_option maxRecDepth 100000 in
theorem DelP_any (B : Nat) (A : Option Addr) (cap : Nat) (l : List Pkt) (i : Nat) (w : World) (hl : l.length ≤ 100) (hi : i < l.length)
    (own : w.ownsRow B 150 4 (.slice A l.length cap) l.length (cellsOf 4 pktC l)) :
    Calls Try.prog 121 #[.slice A l.length cap, .int .i64 i, .int .i64 ((i : Int) + 1)] w (Struck 4 pktC 150 B A cap l (delL l i) w) := by
  obtain ⟨g, cur, rfl, hBg, hg, hnc, hcm, hcs, htk⟩ := own_open own (by omega)
  obtain ⟨i0, hi0, hz0, hz1, hz2⟩ := infoPkt_
  have hdl := delL_len hi
  obtain ⟨q, hq⟩ : ∃ q, l.length = q + 1 := ⟨l.length - 1, by omega⟩
  have hdq : (delL l i).length = q := by omega
  have hXl : (cellsOf 4 pktC l).length = l.length * 4 := cellsOf_length l
  have hXg : ∀ j u, (cellsOf 4 pktC l)[j]? = some u → cur.toList[j]? = some u := fun j u hu => by
    rw [← htk, List.getElem?_take] at hu
    split at hu
    · exact hu
    · cases hu
  have hcl : cur.toList.length = cap * 4 := Array.length_toList.trans hcs
  rw [hq] at hXl htk hnc
  have hz : (Builtin.zeroCells (Value.agg #[.string ⟨#[]⟩, .int .i64 0, .int .i64 0, .bool false]).cells 1).toList.length = 4 := Array.length_toList.trans ((size_zeroCells _ _).trans rfl)
  have hir := del_row cur.toList (cellsOf 4 pktC l) (Builtin.zeroCells (Value.agg #[.string ⟨#[]⟩, .int .i64 0, .int .i64 0, .bool false]).cells 1).toList i q 4 htk hXl (by omega) (by rw [hcl]; omega) hz
  obtain ⟨R1, hR1⟩ : ∃ R1 : List Value, R1 = cur.toList.take (i * 4) ++ (cellsOf 4 pktC l).drop ((i + 1) * 4) ++ cur.toList.drop (i * 4 + ((cellsOf 4 pktC l).drop ((i + 1) * 4)).length) := ⟨_, rfl⟩
  obtain ⟨R2, hR2⟩ : ∃ R2 : List Value, R2 = R1.take (q * 4) ++ (Builtin.zeroCells (Value.agg #[.string ⟨#[]⟩, .int .i64 0, .int .i64 0, .bool false]).cells 1).toList ++ R1.drop (q * 4 + 4) := ⟨_, rfl⟩
  have hir2 : R1.length = cur.toList.length ∧ R2.length = cur.toList.length ∧ R2.take (q * 4) = (cellsOf 4 pktC l).take (i * 4) ++ (cellsOf 4 pktC l).drop ((i + 1) * 4) := by
    rw [hR2, hR1]; exact hir
  have hdl2 : ((cellsOf 4 pktC l).drop ((i + 1) * 4)).length = (q - i) * 4 := by rw [List.length_drop, hXl]; omega
  have hwd : w.drew.heap[g]? = some (.cells cur 150 (0, 0)) := hg
  obtain ⟨W1, hW1⟩ : ∃ W1, W1 = w.drew.setRow g R1.toArray := ⟨_, rfl⟩
  obtain ⟨W2, hW2⟩ : ∃ W2, W2 = W1.setRow g R2.toArray := ⟨_, rfl⟩
  have hg1 : W1.heap[g]? = some (.cells R1.toArray 150 (0, 0)) := by rw [hW1]; exact setRow_heap _ g cur _ _ _ hwd
  have hg2 : W2.heap[g]? = some (.cells R2.toArray 150 (0, 0)) := by rw [hW2]; exact setRow_heap _ g _ _ _ _ hg1
  have hap : ∀ ty (A' : Addr), (∀ j u, ((cellsOf 4 pktC l).drop ((i + 1) * 4))[j]? = some u → w.drew.cell? (A'.add j) = some u) → (Builtin.append_ #[39, 39] ty #[.slice (some ⟨g, 0, none⟩) i cap, .slice (some A') (q - i) (cap - (i + 1))]).run Try.prog w.drew = .ok (.slice (some ⟨g, 0, none⟩) q cap) W1 := fun ty A' hn => by
    rw [hW1, hR1]
    have h := run_append_room (P := Try.prog) w.drew 39 ty 150 i0 Try.underlying39 hi0 g i cap cur hwd A' (q - i) (cap - (i + 1)) ((cellsOf 4 pktC l).drop ((i + 1) * 4)) (by rw [hz1]; exact hdl2) hn (fun v hv => mem_oneP v (List.mem_of_mem_drop hv)) (by omega) (by rw [hz1, hdl2, hcs]; omega)
    rw [h, hz1, show i + (q - i) = q by omega]
  have hsrc : ∀ j u, ((cellsOf 4 pktC l).drop ((i + 1) * 4))[j]? = some u → w.drew.cell? ((⟨g, (i + 1) * 4, none⟩ : Addr).add j) = some u := fun j u hj => by
    rw [Addr.add_lit]
    rw [List.getElem?_drop] at hj
    exact blk_cell hwd (by have := hXg _ _ hj; simpa using this)
  have hzv : ∀ w, (zeroValue 150).run Try.prog w = .ok (Value.agg #[.string ⟨#[]⟩, .int .i64 0, .int .i64 0, .bool false]) w := fun w => by simp [zeroValue, typeInfo, hi0, hz0]
  have hcr : ∀ ty c, (Builtin.clear_ #[39] ty #[.slice (some ⟨g, q * 4, none⟩) 1 c]).run Try.prog W1 = .ok (.tuple #[]) W2 := fun ty c => by
    rw [hW2, hR2]
    have h := run_clear_k (P := Try.prog) W1 39 150 ty (Value.agg #[.string ⟨#[]⟩, .int .i64 0, .int .i64 0, .bool false]) Try.underlying39 hzv (fun v hv => by
      simp only [Value.cells, List.mem_toArray, List.mem_cons, List.not_mem_nil, or_false] at hv
      rcases hv with rfl | rfl | rfl | rfl <;> rfl) g (q * 4) 1 c (by omega) R1.toArray 150 hg1 (by show _ + 1 * 4 ≤ _; rw [List.size_toArray, hir2.1, hcl]; omega) (by decide)
    exact h
  have hfin : Struck 4 pktC 150 B (some ⟨g, 0, none⟩) cap l (delL l i) w (.returned (.slice (some ⟨g, 0, none⟩) q cap)) W2 := by
    refine ⟨by rw [hdq], ?_, ?_⟩
    · rw [hdq]
      refine own_mk hBg hg2 (by omega) hcm (by rw [List.size_toArray, hir2.2.1, hcl]) ?_ (by rw [cellsOf_length, hdq])
      unfold delL
      rw [cellsOf_append, cells_take', cells_drop', ← hir2.2.2]
    · refine grown_trans (w2 := W1) ?_ ?_
      · rw [hW1]; exact grown_drew0 (grown_setRow w.drew g l.length cap _)
      · rw [hW2]; exact grown_setRow W1 g l.length cap _
  have HF := Lib.hid hfin
  have HAP := Lib.hid hap
  have HSRC := Lib.hid hsrc
  have HCR := Lib.hid hcr
  have HE := Lib.hid (fun (h : q = i) => (List.eq_nil_of_length_eq_zero (by rw [hdl2, h]; simp) : (cellsOf 4 pktC l).drop ((i + 1) * 4) = []))
  have hiq : i ≤ q := by omega
  have hcm' : (cap : Int) ≤ 9223372036854775807 := by unfold maxLen at hcm; omega
  have hq100 : (q : Int) ≤ 100 := by omega
  rw [hq]
  have hqc : q < cap := by omega
  clear hfin hap hsrc hcr hzv hW1 hW2 hg1 hg2 hR1 hR2 hir hir2 hdl2 hwd hXg hXl hcl htk hg own hcs hz hdl hdq hi0 hz0 hz1 hz2 hnc hi hq hl
  have e1 : (i : Int) ≤ (q : Int) := by omega
  have e2 : (q : Int) < (cap : Int) := by omega
  have e3 : ¬ (cap = q) := by omega
  have e5 : ((i : Int) == (i : Int) + 1) = false := by simp; omega
  have q1 : (0 : Int) ≤ (i : Int) + 1 := by omega
  have q2 : ((i : Int) + 1).toNat = i + 1 := by omega
  have q3 : (i : Int) + 1 ≤ (q : Int) + 1 := by omega
  have q5 : (q : Int) + 1 ≤ (cap : Int) := by omega
  have q6 : (i : Int) ≤ (cap : Int) := by omega
  have q7 : (q : Int) + 1 - (q : Int) = 1 := by omega
  by_cases hci : cap = i + 1
  · obtain rfl : q = i := by omega
    subst hci
    have HA1 : Hid (∀ ty, (Builtin.append_ #[39, 39] ty #[.slice (some ⟨g, 0, none⟩) q (q + 1), .slice (some ⟨g, 0, none⟩) 0 0]).run Try.prog w.drew = .ok (.slice (some ⟨g, 0, none⟩) q (q + 1)) W1) := Lib.hid fun ty => by
      have h := HAP.out ty ⟨g, 0, none⟩ (fun j u hj => by rw [HE.out rfl] at hj; simp at hj)
      simpa using h
    have e8 : (q : Int) ≤ (q : Int) + 1 := by omega
    clear HAP HE HSRC
    go_enter Try.func121, Try.ntmps121
    go_wp2_with (fail)
    go_region_law (refine step_app_is rfl (.tmp 22) (.tmp 25) 39 39 rfl (.slice (some ⟨g, 0, none⟩) q (q + 1)) (.slice (some ⟨g, 0, none⟩) 0 0) (by simp [Act.eval, Act.put]) (by simp [Act.eval, Act.put]) (HA1.out _) ?_)
    go_wp2_with (with_reducible refine wpList_clear_is _ (o := ⟨none, _, _, _, _, _⟩) rfl (.tmp 31) 39 rfl _ rfl (HCR.out _ _) ?_)
    go_ret
    exact HF.out
  · go_enter Try.func121, Try.ntmps121
    go_wp2_with (fail)
    go_region_law (refine step_app_is rfl (.tmp 22) (.tmp 25) 39 39 rfl (.slice (some ⟨g, 0, none⟩) i cap) (.slice (some ⟨g, (i + 1) * 4, none⟩) (q - i) (cap - (i + 1))) (by simp [Act.eval, Act.put]) (by simp [Act.eval, Act.put]) (HAP.out _ _ HSRC.out) ?_)
    go_wp2_with (with_reducible refine wpList_clear_is _ (o := ⟨none, _, _, _, _, _⟩) rfl (.tmp 31) 39 rfl _ rfl (HCR.out _ _) ?_)
    go_ret
    exact HF.out
end Go.Proofs.Ytcfbnmcdncndpaa
