/-
  Chapter 8: a message laid into a store (slices.Insert).
-/
import Derived.Test.YtcfbnmcdncndpaaWRow
import Derived.Test.YtcfbnmcdncndpaaWFnd
import Derived.Test.YtcfbnmcdncndpaaOrd
namespace Go.Proofs.Ytcfbnmcdncndpaa
open Go.ChangeShapes Go.WideShapes Go.ChangeAt Go.RowKit
set_option linter.unusedVariables false
set_option linter.unusedSimpArgs false

theorem infoMsg : (Try.prog.info? 45).map (fun i => (i.zero, i.size, i.bytes)) = some (some (.agg #[.string ⟨#[]⟩, .int .i64 0, .int .i64 0]), 3, 32) := by kernel_rfl
theorem infoMsg_ : ∃ i : TypeInfo, Try.prog.info? 45 = some i ∧ i.zero = some (.agg #[.string ⟨#[]⟩, .int .i64 0, .int .i64 0]) ∧ i.size = 3 ∧ i.bytes = 32 := by
  have h := infoMsg
  cases hi : Try.prog.info? 45 with
  | none => rw [hi] at h; cases h
  | some i =>
    rw [hi] at h
    simp only [Option.map_some, Option.some.injEq, Prod.mk.injEq] at h
    exact ⟨i, rfl, h.1, h.2.1, h.2.2⟩
theorem sizeMsg (w : World) : (Go.sizeOf 45).run Try.prog w = .ok 3 w := by
  obtain ⟨i, hi, _, hs, _⟩ := infoMsg_
  simp [Go.sizeOf, typeInfo, hi, hs]
theorem sizMsg : (Try.prog.info? 45).map (·.size) = some 3 := by
  obtain ⟨i, hi, _, hs, _⟩ := infoMsg_
  rw [hi]; simp [hs]
theorem msgC_one (x : Msg) (i : Nat) : (msgC x i).oneCell' = true := by
  match i with
  | 0 => rfl
  | 1 => rfl
  | i + 2 => rfl
theorem cells_one (m : Msg) : cellsOf 3 msgC [m] = [.string m.s, .int .i64 m.v, .int .i64 m.l] := rfl
theorem cellsM_len (l : List Msg) : (cellsOf 3 msgC l).length = l.length * 3 := cellsOf_length l
theorem cells_ins (l : List Msg) (i : Nat) (m : Msg) : cellsOf 3 msgC (l.take i ++ m :: l.drop i) = cellsOf 3 msgC (l.take i) ++ ([.string m.s, .int .i64 m.v, .int .i64 m.l] ++ cellsOf 3 msgC (l.drop i)) := by
  rw [cellsOf_append]; rfl
theorem cells_take (l : List Msg) (i : Nat) : cellsOf 3 msgC (l.take i) = (cellsOf 3 msgC l).take (i * 3) := by
  by_cases h : i ≤ l.length
  · have e : cellsOf 3 msgC l = cellsOf 3 msgC (l.take i) ++ cellsOf 3 msgC (l.drop i) := by rw [← cellsOf_append, List.take_append_drop]
    have hl : (cellsOf 3 msgC (l.take i)).length = i * 3 := by rw [cellsM_len, List.length_take, Nat.min_eq_left h]
    rw [e]; exact (List.take_left' hl).symm
  · rw [List.take_of_length_le (by omega), List.take_of_length_le (by rw [cellsM_len]; omega)]
theorem cells_drop (l : List Msg) (i : Nat) : cellsOf 3 msgC (l.drop i) = (cellsOf 3 msgC l).drop (i * 3) := by
  by_cases h : i ≤ l.length
  · have e : cellsOf 3 msgC l = cellsOf 3 msgC (l.take i) ++ cellsOf 3 msgC (l.drop i) := by rw [← cellsOf_append, List.take_append_drop]
    have hl : (cellsOf 3 msgC (l.take i)).length = i * 3 := by rw [cellsM_len, List.length_take, Nat.min_eq_left h]
    rw [e]; exact (List.drop_left' hl).symm
  · rw [List.drop_eq_nil_of_le (by omega), List.drop_eq_nil_of_le (by rw [cellsM_len]; omega)]; rfl
theorem mem_one {l : List Msg} : ∀ u ∈ cellsOf 3 msgC l, u.oneCell' = true := cellsOf_one msgC_one (by decide) l
theorem mem3 (m : Msg) : ∀ u ∈ [Value.string m.s, .int .i64 m.v, .int .i64 m.l], u.oneCell' = true := fun u hu => by
  simp only [List.mem_cons, List.not_mem_nil, or_false] at hu
  rcases hu with rfl | rfl | rfl <;> rfl
theorem news3 {w : World} {vb : Nat} {m : Msg} (hv : w.heap[vb]? = some (.cells #[.string m.s, .int .i64 m.v, .int .i64 m.l] 45)) : ∀ j u, [Value.string m.s, .int .i64 m.v, .int .i64 m.l][j]? = some u → w.cell? ((⟨vb, 0, none⟩ : Addr).add j) = some u := fun j u hu => by
  have e : (⟨vb, 0, none⟩ : Addr).add j = ⟨vb, j, none⟩ := by
    unfold Addr.add
    split
    · subst_vars; rfl
    · simp
  rw [e]
  exact blk_cell hv (by simpa using hu)
/-- what comes of a row by a message laid in -/
def Laid (B : Nat) (A : Option Addr) (cap : Nat) (l l' : List Msg) (w : World) (e : Ending) (w' : World) : Prop :=
  ∃ A' c', e = .returned (.slice A' l'.length c') ∧ w'.ownsRow B 45 3 (.slice A' l'.length c') l'.length (cellsOf 3 msgC l') ∧ w.grownBy w' (Value.ownBlock (.slice A l.length cap)) ∧
    (Value.ownBlock (.slice A' l'.length c') = Value.ownBlock (.slice A l.length cap) ∨ Value.ownBlock (.slice A' l'.length c') = some w.heap.size)

set_option maxHeartbeats 1000000 in
theorem InsertE_any (B : Nat) (A : Option Addr) (cap : Nat) (l : List Msg) (m : Msg) (vb : Nat) (w : World) (hl : l.length ≤ 100) (hB : B ≤ w.heap.size)
    (own : w.ownsRow B 45 3 (.slice A l.length cap) l.length (cellsOf 3 msgC l)) (hv : w.heap[vb]? = some (.cells #[.string m.s, .int .i64 m.v, .int .i64 m.l] 45)) :
    Calls Try.prog 127 #[.slice A l.length cap, .int .i64 l.length, .slice (some ⟨vb, 0, none⟩) 1 1] w (Laid B A cap l (l ++ [m]) w) := by
  obtain ⟨i0, hi0, hz0, hz1, hz2⟩ := infoMsg_
  have hn3 := news3 hv
  have HN := Lib.hid hn3
  have OWN := Lib.hid own
  have hcap : l.length ≤ cap := by
    rcases own.2 with ⟨hv', h0⟩ | ⟨g, cp, cur, hv', _, _, hnc, _⟩
    · omega
    · injection hv' with _ _ h3; omega
  clear hn3 hv own
  by_cases hc : cap = l.length
  all_goals
    cases A
    all_goals
      go_enter Try.func127, Try.ntmps127
      go_wp2_with (at_builtin; (refine wpList_app_rows _ rfl (.tmp 23) (.tmp 24) 151 38 rfl B 45 45 i0 (.agg #[.string ⟨#[]⟩, .int .i64 0, .int .i64 0]) 3 32 Try.underlying151 Try.underlying38 hi0 hz0 hz1 hz2 rfl (by decide) _ l.length cap (cellsOf 3 msgC l) rfl OWN.out (some ⟨vb, 0, none⟩) 1 1 [.string m.s, .int .i64 m.v, .int .i64 m.l] rfl rfl (fun h => by cases h) (fun ad h => by cases h; exact HN.out) (mem3 m) (by unfold maxLen; omega) (by omega) hB ?_; intro A' c' w1 h1 h2 h3))
      go_ret
      refine ⟨A', c', by simp, ?_, h2, by simpa using h3⟩
      rw [cellsOf_append, cells_one, List.length_append]
      exact h1

theorem grown_drew0 {w w1 : World} {row : Option Nat} (h : w.drew.grownBy w1 row) : w.grownBy w1 row := ⟨h.os, h.tape, h.output, h.size, h.block⟩
theorem shape_row {w : World} {g : Nat} {cs : Array Value} {t : TypeId} (h : w.heap[g]? = some (.cells cs t (0, 0))) : w.shape? g = some (t, cs.size) := by
  unfold World.shape?
  simp only [h]
set_option maxHeartbeats 4000000 in
set_option maxRecDepth 100000 in
theorem InsertR_any (B : Nat) (A : Option Addr) (cap : Nat) (l : List Msg) (i : Nat) (m : Msg) (vb : Nat) (w : World) (hl : l.length ≤ 100) (hB : B ≤ w.heap.size) (hi : i < l.length) (hroom : l.length < cap)
    (own : w.ownsRow B 45 3 (.slice A l.length cap) l.length (cellsOf 3 msgC l)) (hv : w.heap[vb]? = some (.cells #[.string m.s, .int .i64 m.v, .int .i64 m.l] 45)) (hne : Value.ownBlock (.slice A l.length cap) ≠ some vb) :
    Calls Try.prog 127 #[.slice A l.length cap, .int .i64 i, .slice (some ⟨vb, 0, none⟩) 1 1] w (Laid B A cap l (l.take i ++ m :: l.drop i) w) := by
  obtain ⟨g, cur, rfl, hBg, hg, hnc, hcm, hcs, htk⟩ := own_open own (by omega)
  have hgv : g ≠ vb := fun e => hne (by rw [e]; rfl)
  have hgv' : vb ≠ g := fun e => hgv e.symm
  have hn3 := news3 hv
  have hXl := cellsM_len l
  have hXg : ∀ j u, (cellsOf 3 msgC l)[j]? = some u → cur.toList[j]? = some u := fun j u hu => by
    rw [← htk, List.getElem?_take] at hu
    split at hu
    · exact hu
    · cases hu
  have hir := ins_row cur.toList (cellsOf 3 msgC l) [.string m.s, .int .i64 m.v, .int .i64 m.l] (i * 3) ((l.length - i) * 3) 3 (by rw [← htk]; congr 1; omega) (by rw [hXl]; omega) rfl (by have h9 : cur.toList.length = cap * 3 := (by simpa using hcs); omega)
  have hdl : ((cellsOf 3 msgC l).drop (i * 3)).length = (l.length - i) * 3 := by rw [List.length_drop, hXl]; omega
  have hmin : Nat.min (l.length + 1 - i) (l.length - i) = l.length - i := by simp only [Nat.min_def]; split <;> omega
  have hwd : w.drew.heap[g]? = some (.cells cur 45 (0, 0)) := hg
  obtain ⟨R1, hR1⟩ : ∃ R1 : List Value, R1 = cur.toList.take (i * 3 + 3) ++ (cellsOf 3 msgC l).drop (i * 3) ++ cur.toList.drop (i * 3 + 3 + ((cellsOf 3 msgC l).drop (i * 3)).length) := ⟨_, rfl⟩
  obtain ⟨R2, hR2⟩ : ∃ R2 : List Value, R2 = R1.take (i * 3) ++ [.string m.s, .int .i64 m.v, .int .i64 m.l] ++ R1.drop (i * 3 + 3) := ⟨_, rfl⟩
  have hir2 : R2.length = cur.toList.length ∧ R2.take (i * 3 + (l.length - i) * 3 + 3) = (cellsOf 3 msgC l).take (i * 3) ++ ([.string m.s, .int .i64 m.v, .int .i64 m.l] ++ (cellsOf 3 msgC l).drop (i * 3)) := by
    rw [hR2, hR1]; exact hir
  obtain ⟨W1, hW1⟩ : ∃ W1, W1 = w.drew.setRow g R1.toArray := ⟨_, rfl⟩
  obtain ⟨W2, hW2⟩ : ∃ W2, W2 = W1.setRow g R2.toArray := ⟨_, rfl⟩
  have hg1 : W1.heap[g]? = some (.cells R1.toArray 45 (0, 0)) := by rw [hW1]; exact setRow_heap _ g cur _ _ _ hwd
  have hg2 : W2.heap[g]? = some (.cells R2.toArray 45 (0, 0)) := by rw [hW2]; exact setRow_heap _ g _ _ _ _ hg1
  have hv1 : W1.heap[vb]? = some (.cells #[.string m.s, .int .i64 m.v, .int .i64 m.l] 45) := by rw [hW1]; exact (setRow_other _ g vb _ hgv').trans hv
  have hR1l : R1.length = cur.size := by
    rw [hR1]; simp only [List.length_append, List.length_take, List.length_drop, hXl, Array.length_toList, hcs]; omega
  have hcp1 : ∀ ty dc sc, (Builtin.copy_ #[151, 151] ty #[.slice (some ⟨g, (i + 1) * 3, none⟩) (l.length - i) dc, .slice (some ⟨g, i * 3, none⟩) (l.length + 1 - i) sc]).run Try.prog w.drew = .ok (goInt ((l.length - i : Nat) : Int)) W1 := fun ty dc sc => by
    rw [hW1, hR1]
    have h := run_copy_k (P := Try.prog) w.drew 151 151 ty 45 3 g ((i + 1) * 3) (l.length - i) dc ⟨g, i * 3, none⟩ (l.length + 1 - i) sc cur 45 ((cellsOf 3 msgC l).drop (i * 3)) Try.underlying151 sizMsg hwd (by rw [hdl, hmin])
      (fun j v hj => by
        rw [Addr.add_lit]
        rw [List.getElem?_drop] at hj
        exact blk_cell hwd (by have := hXg _ _ hj; simpa using this)) (by rw [hdl, hcs]; omega) (fun v hv => mem_one v (List.mem_of_mem_drop hv))
    rw [hmin] at h
    rw [show (i + 1) * 3 = i * 3 + 3 by omega] at h ⊢
    exact h
  have hcp2 : ∀ ty dc, (Builtin.copy_ #[151, 38] ty #[.slice (some ⟨g, i * 3, none⟩) (l.length + 1 - i) dc, .slice (some ⟨vb, 0, none⟩) 1 1]).run Try.prog W1 = .ok (goInt 1) W2 := fun ty dc => by
    rw [hW2, hR2]
    have hm1 : Nat.min 1 (l.length + 1 - i) = 1 := by simp only [Nat.min_def]; split <;> omega
    have h := run_copy_k (P := Try.prog) W1 151 38 ty 45 3 g (i * 3) (l.length + 1 - i) dc ⟨vb, 0, none⟩ 1 1 R1.toArray 45 [.string m.s, .int .i64 m.v, .int .i64 m.l] Try.underlying151 sizMsg hg1 (by rw [hm1]; rfl) (news3 hv1) (by simp only [List.size_toArray, hR1l, hcs, List.length_cons, List.length_nil]; omega) (mem3 m)
    rw [hm1] at h
    simpa using h
  have hov : ∀ off lb cb, (callFunc 136 #[.slice (some ⟨vb, 0, none⟩) 1 1, .slice (some ⟨g, off, none⟩) lb cb]).run Try.prog w = .ok (.value (.bool false)) w := fun off lb cb => by
    rw [run_callFunc_extern Try.func136 (by kernel_rfl) (by kernel_rfl) (by kernel_rfl) (e := Extern.SlicesOverlaps.overlaps #[38, 38] #[4]) (by kernel_rfl),
      Lib.run_overlaps_apart w 38 4 45 Try.underlying38 3 sizeMsg ⟨vb, 0, none⟩ ⟨g, off, none⟩ 1 1 lb cb hgv' _ _ _ _ (shape_row hv) (shape_row hg) (by rw [hcs]; omega) (blk_frozen hv) (blk_frozen hv)]
    rfl
  have hfin : Laid B (some ⟨g, 0, none⟩) cap l (l.take i ++ m :: l.drop i) w (.returned (.slice (some ⟨g, 0, none⟩) (l.length + 1) cap)) W2 := by
    have hlen : (l.take i ++ m :: l.drop i).length = l.length + 1 := by simp; omega
    refine ⟨some ⟨g, 0, none⟩, cap, by rw [hlen], ?_, ?_, .inl rfl⟩
    · rw [hlen]
      refine own_mk hBg hg2 (by omega) hcm (by rw [List.size_toArray, hir2.1, Array.length_toList, hcs]) ?_ (by rw [cellsM_len, hlen])
      rw [cells_ins, cells_take, cells_drop, ← hir2.2]
      congr 1; omega
    · refine grown_trans (w2 := W1) ?_ ?_
      · rw [hW1]; exact grown_drew0 (grown_setRow w.drew g l.length cap _)
      · rw [hW2]; exact grown_setRow W1 g l.length cap _
  have HF := Lib.hid hfin
  have HC1 := Lib.hid hcp1
  have HC2 := Lib.hid hcp2
  clear hfin hcp1 hcp2 hW1 hW2 hg1 hg2 hv1 hR1 hR2 hir hir2 hR1l hwd hdl hmin hXg hXl hn3 htk hv hg own hcs
  have hi1 : (i : Int) < (l.length : Int) := by omega
  have hi0 : (0 : Int) ≤ (i : Int) := by omega
  have hlc : (l.length : Int) < (cap : Int) := by omega
  have hcm' : (cap : Int) ≤ 9223372036854775807 := by unfold maxLen at hcm; omega
  have hl' : (l.length : Int) ≤ 100 := by omega
  have hc1 : ¬ (cap = i) := by omega
  have hc2 : ¬ (cap = i + 1) := by omega
  have hne2 : ¬ ((i : Int) = (l.length : Int)) := by omega
  have hnc2 : ¬ ((cap : Int) < (l.length : Int) + 1) := by omega
  go_enter Try.func127, Try.ntmps127
  go_wp2_with (simp only [hov])
  have q1 : (0 : Int) ≤ (i : Int) + 1 := by omega
  have q2 : ((i : Int) + 1).toNat = i + 1 := by omega
  have q3 : (i : Int) + 1 ≤ (l.length : Int) + 1 := by omega
  have q4 : (i : Int) ≤ (l.length : Int) + 1 := by omega
  have q0 : IntKind.i64.wrap ((i : Int) + 1) = (i : Int) + 1 := IntWalk.i64_in _ (by omega)
  go_region_law (refine step_copy_is rfl (.tmp 73) (.tmp 76) 151 151 rfl (.slice (some ⟨g, (i + 1) * 3, none⟩) (l.length - i) (cap - (i + 1))) (.slice (some ⟨g, i * 3, none⟩) (l.length + 1 - i) (cap - i)) (by simp [Act.eval, Act.put]) (by simp [Act.eval, Act.put]) (HC1.out _ _ _) ?_)
  go_wp2_with (with_reducible refine wpList_copy_is _ (o := ⟨some 82, _, _, _, _, _⟩) rfl (.tmp 80) (.tmp 81) 151 38 rfl _ _ rfl rfl (HC2.out _ _) ?_)
  go_ret
  exact HF.out

set_option maxHeartbeats 4000000 in
set_option maxRecDepth 100000 in
theorem InsertG_any (B : Nat) (A : Option Addr) (cap : Nat) (l : List Msg) (i : Nat) (m : Msg) (vb : Nat) (w : World) (hl : l.length ≤ 100) (hB : B ≤ w.heap.size) (hi : i < l.length) (hroom : cap = l.length)
    (own : w.ownsRow B 45 3 (.slice A l.length cap) l.length (cellsOf 3 msgC l)) (hv : w.heap[vb]? = some (.cells #[.string m.s, .int .i64 m.v, .int .i64 m.l] 45)) :
    Calls Try.prog 127 #[.slice A l.length cap, .int .i64 i, .slice (some ⟨vb, 0, none⟩) 1 1] w (Laid B A cap l (l.take i ++ m :: l.drop i) w) := by
  obtain ⟨g, cur, rfl, hBg, hg, hnc, hcm, hcs, htk⟩ := own_open own (by omega)
  obtain ⟨i0, hi0, hz0, hz1, hz2⟩ := infoMsg_
  have hgl : g < w.heap.size := (Array.getElem?_eq_some_iff.1 hg).1
  have hvl : vb < w.heap.size := (Array.getElem?_eq_some_iff.1 hv).1
  have hXl := cellsM_len l
  have hXg : ∀ j u, (cellsOf 3 msgC l)[j]? = some u → cur.toList[j]? = some u := fun j u hu => by
    rw [← htk, List.getElem?_take] at hu
    split at hu
    · exact hu
    · cases hu
  have hdl : ((cellsOf 3 msgC l).drop (i * 3)).length = (l.length - i) * 3 := by rw [List.length_drop, hXl]; omega
  have hold : (Builtin.firstCells i0.size i (.slice (some ⟨g, 0, none⟩) i cap)).run Try.prog w.drew = .ok ((cellsOf 3 msgC l).take (i * 3)).toArray w.drew := by
    rw [hz1]
    exact run_firstCells_some w.drew 3 i ⟨g, 0, none⟩ i cap _ (by rw [List.length_take, hXl]; omega) (fun j v hj => by
      rw [List.getElem?_take] at hj
      split at hj
      · rw [Addr.add_lit]
        exact blk_cell (W := w.drew) hg (by have := hXg j v hj; simpa using this)
      · cases hj)
  obtain ⟨G, hG⟩ : ∃ G, G = grownCap w (l.length + 1) cap 45 := ⟨_, rfl⟩
  have hG1 : l.length + 1 ≤ G := by rw [hG]; exact grownCap_ge w _ _ _
  have hG2 : G ≤ maxLen := by rw [hG]; exact grownCap_le_maxLen w _ _ _ (by unfold maxLen; omega)
  obtain ⟨Z, hZ⟩ : ∃ Z : List Value, Z = (Builtin.zeroCells (Value.agg #[.string ⟨#[]⟩, .int .i64 0, .int .i64 0]).cells (l.length + 1 - i)).toList ++ (Builtin.zeroCells (Value.agg #[.string ⟨#[]⟩, .int .i64 0, .int .i64 0]).cells (G - (l.length + 1))).toList := ⟨_, rfl⟩
  have hZl : Z.length = (l.length - i) * 3 + 3 + (G - (l.length + 1)) * 3 := by
    have z1 : ∀ k, (Builtin.zeroCells (Value.agg #[.string ⟨#[]⟩, .int .i64 0, .int .i64 0]).cells k).toList.length = k * 3 := fun k => Array.length_toList.trans ((size_zeroCells _ _).trans rfl)
    rw [hZ, List.length_append, z1, z1]; omega
  obtain ⟨R0, hR0⟩ : ∃ R0 : List Value, R0 = (cellsOf 3 msgC l).take (i * 3) ++ Z := ⟨_, rfl⟩
  obtain ⟨R1, hR1⟩ : ∃ R1 : List Value, R1 = R0.take (i * 3) ++ [.string m.s, .int .i64 m.v, .int .i64 m.l] ++ R0.drop (i * 3 + 3) := ⟨_, rfl⟩
  obtain ⟨R2, hR2⟩ : ∃ R2 : List Value, R2 = R1.take (i * 3 + 3) ++ (cellsOf 3 msgC l).drop (i * 3) ++ R1.drop (i * 3 + 3 + ((cellsOf 3 msgC l).drop (i * 3)).length) := ⟨_, rfl⟩
  have hir : R2.length = i * 3 + (l.length - i) * 3 + 3 + (G - (l.length + 1)) * 3 ∧ R2.take (i * 3 + (l.length - i) * 3 + 3) = (cellsOf 3 msgC l).take (i * 3) ++ ([.string m.s, .int .i64 m.v, .int .i64 m.l] ++ (cellsOf 3 msgC l).drop (i * 3)) := by
    rw [hR2, hR1, hR0]
    exact grow_row Z (cellsOf 3 msgC l) [.string m.s, .int .i64 m.v, .int .i64 m.l] (i * 3) ((l.length - i) * 3) 3 _ (by rw [hXl]; omega) rfl hZl
  have hR0l : R0.length = G * 3 := by rw [hR0, List.length_append, List.length_take, hXl, hZl]; omega
  have hR1l : R1.length = G * 3 := by
    rw [hR1]; simp only [List.length_append, List.length_take, List.length_drop, hR0l, List.length_cons, List.length_nil]; omega
  obtain ⟨W0, hW0⟩ : ∃ W0, W0 = w.drew.alloc (.cells R0.toArray 45) := ⟨_, rfl⟩
  obtain ⟨W1, hW1⟩ : ∃ W1, W1 = W0.setRow w.heap.size R1.toArray := ⟨_, rfl⟩
  obtain ⟨W2, hW2⟩ : ∃ W2, W2 = W1.drew.setRow w.heap.size R2.toArray := ⟨_, rfl⟩
  have hg0 : W0.heap[w.heap.size]? = some (.cells R0.toArray 45 (0, 0)) := by rw [hW0]; exact heap_alloc_new w.drew _
  have hg1 : W1.heap[w.heap.size]? = some (.cells R1.toArray 45 (0, 0)) := by rw [hW1]; exact setRow_heap _ _ _ _ _ _ hg0
  have hg2 : W2.heap[w.heap.size]? = some (.cells R2.toArray 45 (0, 0)) := by rw [hW2]; exact setRow_heap _ _ _ _ _ _ (show W1.drew.heap[w.heap.size]? = _ from hg1)
  have hv0 : W0.heap[vb]? = some (.cells #[.string m.s, .int .i64 m.v, .int .i64 m.l] 45) := by rw [hW0]; exact blk_alloc _ (show w.drew.heap[vb]? = _ from hv)
  have ho1 : W1.heap[g]? = some (.cells cur 45 (0, 0)) := by
    rw [hW1, hW0]
    exact (setRow_other _ _ g _ (by omega)).trans (blk_alloc _ (show w.drew.heap[g]? = _ from hg))
  have hrz : ∀ ty, (Builtin.append_ #[151, 3] ty #[.slice (some ⟨g, 0, none⟩) i cap, .int .i64 ((l.length : Int) + 1 - (i : Int))]).run Try.prog w = .ok (.slice (some ⟨w.heap.size, 0, none⟩) (l.length + 1) G) W0 := fun ty => by
    have h := Lib.run_append_grow_zeros w 151 3 ty 45 i0 _ .i64 .i64 Try.underlying151 Try.underlying3 hi0 hz0 (some ⟨g, 0, none⟩) i cap _ hold (l.length + 1 - i) (by omega) (by omega) (by omega) (by omega) (by rw [hz2]; omega) (by rw [hz2, show i + (l.length + 1 - i) = l.length + 1 by omega]; exact growslice_fits (by omega) (by omega))
    rw [show i + (l.length + 1 - i) = l.length + 1 by omega, show ((l.length + 1 - i : Nat) : Int) = (l.length : Int) + 1 - (i : Int) by omega, ← hG] at h
    rw [h, hW0, hR0, hZ]
    congr 3
    apply Array.ext'
    simp
  have hcp1 : ∀ ty dc, (Builtin.copy_ #[151, 38] ty #[.slice (some ⟨w.heap.size, i * 3, none⟩) (l.length + 1 - i) dc, .slice (some ⟨vb, 0, none⟩) 1 1]).run Try.prog W0 = .ok (goInt 1) W1 := fun ty dc => by
    rw [hW1, hR1]
    have hm1 : Nat.min 1 (l.length + 1 - i) = 1 := by simp only [Nat.min_def]; split <;> omega
    have h := run_copy_k (P := Try.prog) W0 151 38 ty 45 3 w.heap.size (i * 3) (l.length + 1 - i) dc ⟨vb, 0, none⟩ 1 1 R0.toArray 45 [.string m.s, .int .i64 m.v, .int .i64 m.l] Try.underlying151 sizMsg hg0 (by rw [hm1]; rfl) (news3 hv0) (by simp only [List.size_toArray, hR0l, List.length_cons, List.length_nil]; omega) (mem3 m)
    rw [hm1] at h
    simpa using h
  have hcp2 : ∀ ty dc sc, (Builtin.copy_ #[151, 151] ty #[.slice (some ⟨w.heap.size, (i + 1) * 3, none⟩) (l.length - i) dc, .slice (some ⟨g, i * 3, none⟩) (l.length - i) sc]).run Try.prog W1.drew = .ok (goInt ((l.length - i : Nat) : Int)) W2 := fun ty dc sc => by
    rw [hW2, hR2]
    have hm1 : Nat.min (l.length - i) (l.length - i) = l.length - i := Nat.min_self _
    have h := run_copy_k (P := Try.prog) W1.drew 151 151 ty 45 3 w.heap.size ((i + 1) * 3) (l.length - i) dc ⟨g, i * 3, none⟩ (l.length - i) sc R1.toArray 45 ((cellsOf 3 msgC l).drop (i * 3)) Try.underlying151 sizMsg (show W1.drew.heap[w.heap.size]? = _ from hg1) (by rw [hdl, hm1])
      (fun j v hj => by
        rw [Addr.add_lit]
        rw [List.getElem?_drop] at hj
        exact blk_cell (W := W1.drew) ho1 (by have := hXg _ _ hj; simpa using this)) (by rw [List.size_toArray, hR1l, hdl]; omega) (fun v hv => mem_one v (List.mem_of_mem_drop hv))
    rw [hm1, show (i + 1) * 3 = i * 3 + 3 by omega] at h
    rw [show (i + 1) * 3 = i * 3 + 3 by omega]
    exact h
  have hfin : Laid B (some ⟨g, 0, none⟩) cap l (l.take i ++ m :: l.drop i) w (.returned (.slice (some ⟨w.heap.size, 0, none⟩) (l.length + 1) G)) W2 := by
    have hlen : (l.take i ++ m :: l.drop i).length = l.length + 1 := by simp; omega
    refine ⟨some ⟨w.heap.size, 0, none⟩, G, by rw [hlen], ?_, ?_, .inr rfl⟩
    · rw [hlen]
      refine own_mk hB hg2 (by omega) hG2 (by rw [List.size_toArray, hir.1]; omega) ?_ (by rw [cellsM_len, hlen])
      rw [cells_ins, cells_take, cells_drop, ← hir.2]
      congr 1; omega
    · have h0 : w.grownBy W0 (Value.ownBlock (.slice (some ⟨g, 0, none⟩) l.length cap)) := by rw [hW0]; exact grown_drew0 (World.grownBy_alloc w.drew _ _)
      have h1 : w.grownBy W1 (Value.ownBlock (.slice (some ⟨g, 0, none⟩) l.length cap)) := grown_new h0 (r2 := w.heap.size) (by rw [hW1]; exact grown_setRow W0 w.heap.size 0 0 _) (Nat.le_refl _)
      exact grown_new h1 (r2 := w.heap.size) (by rw [hW2]; exact grown_drew0 (grown_setRow W1.drew w.heap.size 0 0 _)) (Nat.le_refl _)
  have HF := Lib.hid hfin
  have HZ := Lib.hid hrz
  have HC1 := Lib.hid hcp1
  have HC2 := Lib.hid hcp2
  clear hfin hrz hcp1 hcp2 hW0 hW1 hW2 hg0 hg1 hg2 hv0 ho1 hR0 hR1 hR2 hir hR0l hR1l hZ hZl hG hold hdl hXg hXl htk hv hg own hcs hz0 hz1 hz2 hi0
  have hi1 : (i : Int) < (l.length : Int) := by omega
  have hi0 : (0 : Int) ≤ (i : Int) := by omega
  have hlc : (l.length : Int) ≤ (cap : Int) := by omega
  have hcm' : (cap : Int) ≤ 9223372036854775807 := by unfold maxLen at hcm; omega
  have hGm' : (G : Int) ≤ 9223372036854775807 := by unfold maxLen at hG2; omega
  have hGl' : (l.length : Int) < (G : Int) := by omega
  have hl' : (l.length : Int) ≤ 100 := by omega
  have hc1 : ¬ (cap = i) := by omega
  have hc3 : ¬ (G = i) := by omega
  have hc2 : ¬ (G = i + 1) := by omega
  have hne2 : ¬ ((i : Int) = (l.length : Int)) := by omega
  have hnc2 : (cap : Int) < (l.length : Int) + 1 := by omega
  have hcl : i ≤ l.length := by omega
  clear hroom
  go_enter Try.func127, Try.ntmps127
  go_wp2_with (first | (with_reducible refine wpList_app_is _ (o := ⟨some 40, _, _, _, _, _⟩) rfl (.tmp 34) (.tmp 39) 151 3 rfl _ _ rfl rfl (HZ.out _) ?_) | (with_reducible refine wpList_copy_is _ (o := ⟨some 45, _, _, _, _, _⟩) rfl (.tmp 43) (.tmp 44) 151 38 rfl _ _ rfl rfl (HC1.out _ _) ?_))
  have q1 : (0 : Int) ≤ (i : Int) + 1 := by omega
  have q2 : ((i : Int) + 1).toNat = i + 1 := by omega
  have q3 : (i : Int) + 1 ≤ (l.length : Int) + 1 := by omega
  have q4 : (i : Int) ≤ (l.length : Int) := by omega
  have q0 : IntKind.i64.wrap ((i : Int) + 1) = (i : Int) + 1 := IntWalk.i64_in _ (by omega)
  go_region_law (refine step_copy_is rfl (.tmp 50) (.tmp 53) 151 151 rfl (.slice (some ⟨w.heap.size, (i + 1) * 3, none⟩) (l.length - i) (G - (i + 1))) (.slice (some ⟨g, i * 3, none⟩) (l.length - i) (cap - i)) (by simp [Act.eval, Act.put]) (by simp [Act.eval, Act.put]) (HC2.out _ _ _) ?_)
  go_wp2
  go_ret
  exact HF.out
/-- a message laid in at i -/
theorem Insert_any (B : Nat) (A : Option Addr) (cap : Nat) (l : List Msg) (i : Nat) (m : Msg) (vb : Nat) (w : World) (hl : l.length ≤ 100) (hB : B ≤ w.heap.size) (hi : i ≤ l.length)
    (own : w.ownsRow B 45 3 (.slice A l.length cap) l.length (cellsOf 3 msgC l)) (hv : w.heap[vb]? = some (.cells #[.string m.s, .int .i64 m.v, .int .i64 m.l] 45)) (hne : Value.ownBlock (.slice A l.length cap) ≠ some vb) :
    Calls Try.prog 127 #[.slice A l.length cap, .int .i64 i, .slice (some ⟨vb, 0, none⟩) 1 1] w (Laid B A cap l (l.take i ++ m :: l.drop i) w) := by
  by_cases he : i = l.length
  · subst he
    have h := InsertE_any B A cap l m vb w hl hB own hv
    rw [List.take_length, List.drop_length]
    exact h
  · have hcap : l.length ≤ cap := by
      obtain ⟨g, cur, _, _, _, h, _⟩ := own_open own (by omega)
      exact h
    by_cases hr : l.length < cap
    · exact InsertR_any B A cap l i m vb w hl hB (by omega) hr own hv hne
    · exact InsertG_any B A cap l i m vb w hl hB (by omega) (by omega) own hv
end Go.Proofs.Ytcfbnmcdncndpaa
