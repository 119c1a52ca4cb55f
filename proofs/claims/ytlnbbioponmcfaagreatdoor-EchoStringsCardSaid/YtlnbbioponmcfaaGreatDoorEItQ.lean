/-
  Chapter 2: echoes out of words (ParseEchoes).
-/
import Derived.Test.YtlnbbioponmcfaaGreatDoorEItP
namespace Go.Proofs.YtlnbbioponmcfaaGreatDoor
open Go.ChangeShapes Go.WideShapes Go.ChangeAt Go.RowKit
set_option linter.unusedVariables false
set_option linter.unusedSimpArgs false
attribute [local go_sem] Oper.semAt_some

theorem CK.belowV {B : Nat} {w A A' : World} (hb : Below w.heap.size w A) (h : CK B A A') (hB : w.heap.size ≤ B) : Below w.heap.size w A' :=
  CK.below hb ⟨h.os, h.tape, h.output, h.size, fun k o hk hx => h.same k o hk (hx.imp (fun hk => by omega) id)⟩ (Nat.le_refl _)
theorem own_blk {w w' : World} {B : Nat} {e : TypeId} {size : Nat} {v : Value} {n : Nat} {xs : List Value} (h : w.ownsRow B e size v n xs) (hb : ∀ g o, B ≤ g → w.heap[g]? = some o → o.isCells = true → w'.heap[g]? = some o) : w'.ownsRow B e size v n xs := by
  obtain ⟨h1, h2⟩ := h
  refine ⟨h1, ?_⟩
  rcases h2 with h2 | ⟨g, cap, cur, hv, hg, hh, r⟩
  · exact Or.inl h2
  · exact Or.inr ⟨g, cap, cur, hv, hg, hb g _ hg hh rfl, r⟩
theorem own_cells {w : World} {B : Nat} {e : TypeId} {size : Nat} {v : Value} {n : Nat} {xs : List Value} (h : w.ownsRow B e size v n xs) : ∀ (j : Nat) (o : Obj), v.ownBlock = some j → w.heap[j]? = some o → o.isCells = true := by
  intro j o hj ho
  obtain ⟨h1, h2⟩ := h
  rcases h2 with h2 | ⟨g, cap, cur, hv, hg, hh, r⟩
  · rw [h2.1] at hj; cases hj
  · rw [hv] at hj
    obtain rfl : g = j := Option.some.inj hj
    rw [hh] at ho
    obtain rfl := Option.some.inj ho
    rfl
theorem wpListIn_append_rows {F : Fence} {nn : Nat} {P : Program} {w : World} {ops : Array Oper} {rest : List Oper} {o : Oper} {a : Act} {Q : Exit → Act → World → Prop} (hgd : o.guard = none) (s x : Operand) (t : TypeId)
    (ho : o.op = .call { callee := .builtin .append, args := #[s, x], argTypes := #[t, t] })
    (base : Nat) (e : TypeId) (i : TypeInfo) (z : Value) (size bytes : Nat) (ht : P.underlying t = some (.slice e)) (hi : P.info? e = some i) (hz : i.zero = some z)
    (hsize : i.size = size) (hby : i.bytes = bytes) (hzs : z.cells.size = size) (hsz : 0 < size)
    (A0 : Option Addr) (n c0 : Nat) (xs : List Value) (hs : a.eval s = .slice A0 n c0) (hown : w.ownsRow base e size (.slice A0 n c0) n xs)
    (A : Option Addr) (m c : Nat) (news : List Value) (hx : a.eval x = .slice A m c) (hl : news.length = m * size) (hA : A = none → m = 0) (hnews : ∀ ad, A = some ad → ∀ j u, news[j]? = some u → w.cell? (ad.add j) = some u) (h1 : ∀ u ∈ news, u.oneCell' = true)
    (h63 : n + m ≤ maxLen) (hbytes : (n + m) * bytes ≤ 140737488355328) (hbase : base ≤ w.heap.size)
    (h : ∀ A' c' w', w'.ownsRow base e size (.slice A' (n + m) c') (n + m) (xs ++ news) → w.grownBy w' (Value.ownBlock (.slice A0 n c0)) → (Value.ownBlock (.slice A' (n + m) c') = Value.ownBlock (.slice A0 n c0) ∨ Value.ownBlock (.slice A' (n + m) c') = some w.heap.size) → wpListIn F nn P ops Q rest (a.put o.dst (.slice A' (n + m) c')) w') : wpListIn F nn P ops Q (o :: rest) a w := by
  refine wpListIn_plain hgd fun K hK => ?_
  obtain ⟨A', c', w', hrun, h2, h3, h4⟩ := run_append_rows (P := P) w base t o.type e i z size bytes ht hi hz hsize hby hzs hsz A0 n c0 xs hown A m c news hl hA hnews h1 h63 hbytes hbase
  unfold Oper.wpIn
  refine ⟨?_, ?_⟩
  · simp [Oper.about, ho, resolve, Target.leads, Sem.run_pure]
  · rw [Oper.semAt_plain F _ _ (by rw [ho]; intro c hc'; cases hc')]
    simp [execOp, ho, resolve, invoke, builtin, hs, hx, hrun, Result.andThen]
    exact hK _ _ (h A' c' w' h2 h3 h4)
/-- ParseEchoes carries -/
structure PeI (w : World) (B0 : Nat) (pre : List ByteArray) (W : World) : Prop where
  bel : Below w.heap.size w W
  q : W.cell? ⟨w.heap.size, 0, none⟩ = some (.slice none 0 0)
  qf : W.frozen? ⟨w.heap.size, 0, none⟩ = false
  e : W.cell? ⟨w.heap.size + 1, 0, none⟩ = some (.int .i64 0)
  ef : W.frozen? ⟨w.heap.size + 1, 0, none⟩ = false
  z : B0 ≤ W.heap.size
  box : ∃ (its : List It) (A' : Option Addr) (c' : Nat), itsP pre = some its ∧ W.cell? ⟨w.heap.size + 1 + 1, 0, none⟩ = some (.slice A' its.length c') ∧ W.frozen? ⟨w.heap.size + 1 + 1, 0, none⟩ = false ∧ W.ownsRow B0 58 5 (.slice A' its.length c') its.length (cellsOf 5 itC its)
structure PeX (w : World) (s : ByteArray) (c : Code) (W : World) : Prop where
  c : c = .ret
  n : itsP (cutB 44 s) = none
  bel : Below w.heap.size w W
  q : W.cell? ⟨w.heap.size, 0, none⟩ = some (.slice none 0 0)
  e : W.cell? ⟨w.heap.size + 1, 0, none⟩ = some (.int .i64 7)
set_option maxRecDepth 100000 in
set_option maxHeartbeats 8000000 in
theorem ParseEchoes_any (s : ByteArray) (w : World) {B : Nat} (hE : Evn B w) (hB : B ≤ w.heap.size) (hs : s.size ≤ 10000) :
    Calls Tryz.prog 17 #[.string s] w fun e w' => ∃ (A : Option Addr) (c : Nat), e = .returned (.tuple #[.slice A (itsQ s).1.length c, .int .i64 (itsQ s).2]) ∧ ItsAt w' A (itsQ s).1 ∧ Below w.heap.size w w' := by
  have hq : itsQ s = if s.toList = [45] then ([], 0) else match itsP (cutB 44 s) with
    | none => ([], 7)
    | some l => if itsE (-1) l = 0 then (l, 0) else ([], itsE (-1) l) := rfl
  obtain ⟨Q, hQ⟩ : ∃ Q, Q = itsQ s := ⟨_, rfl⟩
  rw [← hQ] at hq ⊢
  have HE := Lib.hid hE
  have e60 : decide ((60000 : Int) < (s.size : Int)) = false := decide_eq_false (by omega)
  have e61 : decide (60000 < s.size) = false := decide_eq_false (by omega)
  have HQ := Lib.hid hq
  clear hQ hq hE
  have h45 : (⟨#[45]⟩ : ByteArray).toList = [45] := by rw [ByteArray.toList_eq]
  have H45 := Lib.hid h45
  clear h45
  by_cases hd : s.toList = [45]
  · have HQ2 := Lib.hid (HQ.out.trans (if_pos hd))
    have e1 : (s.toList == [45]) = true := by simpa using hd
    have e2 : (s.toList == (⟨#[45]⟩ : ByteArray).toList) = true := by rw [hd, H45.out]; rfl
    clear hd HQ
    go_enter Tryz.func17, Tryz.ntmps17
    go_upto_region 1 with (fail)
    have hb1 : Below w.heap.size w ((w.alloc (.cells #[.slice none 0 0] 51)).alloc (.cells #[.int .i64 0] 35)) := below_alloc _ (Nat.le_refl _) (below_alloc _ (Nat.le_refl _) (Below.refl _ _))
    have q0 : ((w.alloc (.cells #[.slice none 0 0] 51)).alloc (.cells #[.int .i64 0] 35)).cell? ⟨w.heap.size, 0, none⟩ = some (.slice none 0 0) := cell_alloc _ (cell_new (by simp) rfl)
    have qf0 : ((w.alloc (.cells #[.slice none 0 0] 51)).alloc (.cells #[.int .i64 0] 35)).frozen? ⟨w.heap.size, 0, none⟩ = false := frozen_alloc _ (by first | (simp; done) | (simp; omega)) (frozen_new (by simp))
    have zq : w.heap.size < ((w.alloc (.cells #[.slice none 0 0] 51)).alloc (.cells #[.int .i64 0] 35)).heap.size := World.block_lt_of_cell? _ _ q0
    have r0 : ((w.alloc (.cells #[.slice none 0 0] 51)).alloc (.cells #[.int .i64 0] 35)).cell? ⟨w.heap.size + 1, 0, none⟩ = some (.int .i64 0) := cell_new (by simp) rfl
    have rf0 : ((w.alloc (.cells #[.slice none 0 0] 51)).alloc (.cells #[.int .i64 0] 35)).frozen? ⟨w.heap.size + 1, 0, none⟩ = false := frozen_new (by simp)
    have zr : w.heap.size + 1 < ((w.alloc (.cells #[.slice none 0 0] 51)).alloc (.cells #[.int .i64 0] 35)).heap.size := World.block_lt_of_cell? _ _ r0
    generalize ((w.alloc (.cells #[.slice none 0 0] 51)).alloc (.cells #[.int .i64 0] 35)) = w1 at *
    go_wp2_with (fail)
    have s0 : ((w1.setCell ⟨w.heap.size, 0, none⟩ (.slice none 0 0)).setCell ⟨w.heap.size + 1, 0, none⟩ (.int .i64 0)).cell? ⟨w.heap.size, 0, none⟩ = some (.slice none 0 0) := cell_far (show w.heap.size + 1 ≠ w.heap.size by omega) (cell_same q0)
    have s1 : ((w1.setCell ⟨w.heap.size, 0, none⟩ (.slice none 0 0)).setCell ⟨w.heap.size + 1, 0, none⟩ (.int .i64 0)).cell? ⟨w.heap.size + 1, 0, none⟩ = some (.int .i64 0) := cell_same (cell_far (show w.heap.size ≠ w.heap.size + 1 by omega) r0)
    have hB6 : Below w.heap.size w ((w1.setCell ⟨w.heap.size, 0, none⟩ (.slice none 0 0)).setCell ⟨w.heap.size + 1, 0, none⟩ (.int .i64 0)) := below_set _ (Nat.le_succ _) (below_set _ (Nat.le_refl _) hb1)
    generalize ((w1.setCell ⟨w.heap.size, 0, none⟩ (.slice none 0 0)).setCell ⟨w.heap.size + 1, 0, none⟩ (.int .i64 0)) = WF at *
    refine bodyPost_ret (v := .tuple #[.slice none 0 0, .int .i64 0]) (by simp [results, Tryz.results17, go_sem, s0, s1]) rfl ?_
    rw [HQ2.out]
    exact ⟨none, 0, rfl, RowsAt.nil, hB6⟩
  have HQ3 := Lib.hid (HQ.out.trans (if_neg hd))
  have e1 : (s.toList == [45]) = false := by simpa using hd
  have e2 : (s.toList == (⟨#[45]⟩ : ByteArray).toList) = false := by rw [H45.out]; exact e1
  obtain ⟨i0, hi0, hz0, hz1, hz2⟩ := infoIt_
  have HI := Lib.hid hi0
  have HZ0 := Lib.hid hz0
  have HZ1 := Lib.hid hz1
  have HZ2 := Lib.hid hz2
  clear hd HQ hi0 hz0 hz1 hz2
  refine (callsIn_wide (n := 9)).1 ?_
  refine callsIn_of_wp_marks Tryz.func17 rfl trivial ?_ rfl
  simp only [Tryz.ntmps17, List.size_toArray, List.length_cons, List.length_nil, Nat.reduceAdd, Nat.reduceSub, Array.replicate_succ, Array.replicate_zero, List.push_toArray, List.append_toArray, List.nil_append, List.cons_append]
  gi_wp2_with (fail)
  refine ⟨trivial, (callsIn_wide.2 (splitSeq_any s ⟨#[44]⟩ _)).mono ?_⟩
  rintro e w2 ⟨rfl, rfl⟩
  gi_wp2_with (fail)
  have hbW : Below w.heap.size w ((((((w.alloc (.cells #[.slice none 0 0] 51)).alloc (.cells #[.int .i64 0] 35)).alloc (.cells #[.slice none 0 0] 51)).alloc (.cells #[.string s] 9)).alloc (.cells #[.string ⟨#[44]⟩] 9)).alloc (.cells #[.int .i64 0] 3)) := below_alloc _ (Nat.le_refl _) (below_alloc _ (Nat.le_refl _) (below_alloc _ (Nat.le_refl _) (below_alloc _ (Nat.le_refl _) (below_alloc _ (Nat.le_refl _) (below_alloc _ (Nat.le_refl _) (Below.refl _ _))))))
  have q0 : ((((((w.alloc (.cells #[.slice none 0 0] 51)).alloc (.cells #[.int .i64 0] 35)).alloc (.cells #[.slice none 0 0] 51)).alloc (.cells #[.string s] 9)).alloc (.cells #[.string ⟨#[44]⟩] 9)).alloc (.cells #[.int .i64 0] 3)).cell? ⟨w.heap.size, 0, none⟩ = some (.slice none 0 0) := cell_alloc _ (cell_alloc _ (cell_alloc _ (cell_alloc _ (cell_alloc _ (cell_new (by simp) rfl)))))
  have qf0 : ((((((w.alloc (.cells #[.slice none 0 0] 51)).alloc (.cells #[.int .i64 0] 35)).alloc (.cells #[.slice none 0 0] 51)).alloc (.cells #[.string s] 9)).alloc (.cells #[.string ⟨#[44]⟩] 9)).alloc (.cells #[.int .i64 0] 3)).frozen? ⟨w.heap.size, 0, none⟩ = false := frozen_alloc _ (by first | (simp; done) | (simp; omega)) (frozen_alloc _ (by first | (simp; done) | (simp; omega)) (frozen_alloc _ (by first | (simp; done) | (simp; omega)) (frozen_alloc _ (by first | (simp; done) | (simp; omega)) (frozen_alloc _ (by first | (simp; done) | (simp; omega)) (frozen_new (by simp))))))
  have zq : w.heap.size < ((((((w.alloc (.cells #[.slice none 0 0] 51)).alloc (.cells #[.int .i64 0] 35)).alloc (.cells #[.slice none 0 0] 51)).alloc (.cells #[.string s] 9)).alloc (.cells #[.string ⟨#[44]⟩] 9)).alloc (.cells #[.int .i64 0] 3)).heap.size := World.block_lt_of_cell? _ _ q0
  have r0 : ((((((w.alloc (.cells #[.slice none 0 0] 51)).alloc (.cells #[.int .i64 0] 35)).alloc (.cells #[.slice none 0 0] 51)).alloc (.cells #[.string s] 9)).alloc (.cells #[.string ⟨#[44]⟩] 9)).alloc (.cells #[.int .i64 0] 3)).cell? ⟨w.heap.size + 1, 0, none⟩ = some (.int .i64 0) := cell_alloc _ (cell_alloc _ (cell_alloc _ (cell_alloc _ (cell_new (by simp) rfl))))
  have rf0 : ((((((w.alloc (.cells #[.slice none 0 0] 51)).alloc (.cells #[.int .i64 0] 35)).alloc (.cells #[.slice none 0 0] 51)).alloc (.cells #[.string s] 9)).alloc (.cells #[.string ⟨#[44]⟩] 9)).alloc (.cells #[.int .i64 0] 3)).frozen? ⟨w.heap.size + 1, 0, none⟩ = false := frozen_alloc _ (by first | (simp; done) | (simp; omega)) (frozen_alloc _ (by first | (simp; done) | (simp; omega)) (frozen_alloc _ (by first | (simp; done) | (simp; omega)) (frozen_alloc _ (by first | (simp; done) | (simp; omega)) (frozen_new (by simp)))))
  have zr : w.heap.size + 1 < ((((((w.alloc (.cells #[.slice none 0 0] 51)).alloc (.cells #[.int .i64 0] 35)).alloc (.cells #[.slice none 0 0] 51)).alloc (.cells #[.string s] 9)).alloc (.cells #[.string ⟨#[44]⟩] 9)).alloc (.cells #[.int .i64 0] 3)).heap.size := World.block_lt_of_cell? _ _ r0
  have l0 : ((((((w.alloc (.cells #[.slice none 0 0] 51)).alloc (.cells #[.int .i64 0] 35)).alloc (.cells #[.slice none 0 0] 51)).alloc (.cells #[.string s] 9)).alloc (.cells #[.string ⟨#[44]⟩] 9)).alloc (.cells #[.int .i64 0] 3)).cell? ⟨w.heap.size + 1 + 1, 0, none⟩ = some (.slice none 0 0) := cell_alloc _ (cell_alloc _ (cell_alloc _ (cell_new (by simp) rfl)))
  have lf0 : ((((((w.alloc (.cells #[.slice none 0 0] 51)).alloc (.cells #[.int .i64 0] 35)).alloc (.cells #[.slice none 0 0] 51)).alloc (.cells #[.string s] 9)).alloc (.cells #[.string ⟨#[44]⟩] 9)).alloc (.cells #[.int .i64 0] 3)).frozen? ⟨w.heap.size + 1 + 1, 0, none⟩ = false := frozen_alloc _ (by first | (simp; done) | (simp; omega)) (frozen_alloc _ (by first | (simp; done) | (simp; omega)) (frozen_alloc _ (by first | (simp; done) | (simp; omega)) (frozen_new (by simp))))
  have zl : w.heap.size + 1 + 1 < ((((((w.alloc (.cells #[.slice none 0 0] 51)).alloc (.cells #[.int .i64 0] 35)).alloc (.cells #[.slice none 0 0] 51)).alloc (.cells #[.string s] 9)).alloc (.cells #[.string ⟨#[44]⟩] 9)).alloc (.cells #[.int .i64 0] 3)).heap.size := World.block_lt_of_cell? _ _ l0
  have s0 : ((((((w.alloc (.cells #[.slice none 0 0] 51)).alloc (.cells #[.int .i64 0] 35)).alloc (.cells #[.slice none 0 0] 51)).alloc (.cells #[.string s] 9)).alloc (.cells #[.string ⟨#[44]⟩] 9)).alloc (.cells #[.int .i64 0] 3)).cell? ⟨w.heap.size + 1 + 1 + 1, 0, none⟩ = some (.string s) := cell_alloc _ (cell_alloc _ (cell_new (by simp) rfl))
  have sf0 : ((((((w.alloc (.cells #[.slice none 0 0] 51)).alloc (.cells #[.int .i64 0] 35)).alloc (.cells #[.slice none 0 0] 51)).alloc (.cells #[.string s] 9)).alloc (.cells #[.string ⟨#[44]⟩] 9)).alloc (.cells #[.int .i64 0] 3)).frozen? ⟨w.heap.size + 1 + 1 + 1, 0, none⟩ = false := frozen_alloc _ (by first | (simp; done) | (simp; omega)) (frozen_alloc _ (by first | (simp; done) | (simp; omega)) (frozen_new (by simp)))
  have zs : w.heap.size + 1 + 1 + 1 < ((((((w.alloc (.cells #[.slice none 0 0] 51)).alloc (.cells #[.int .i64 0] 35)).alloc (.cells #[.slice none 0 0] 51)).alloc (.cells #[.string s] 9)).alloc (.cells #[.string ⟨#[44]⟩] 9)).alloc (.cells #[.int .i64 0] 3)).heap.size := World.block_lt_of_cell? _ _ s0
  have p0 : ((((((w.alloc (.cells #[.slice none 0 0] 51)).alloc (.cells #[.int .i64 0] 35)).alloc (.cells #[.slice none 0 0] 51)).alloc (.cells #[.string s] 9)).alloc (.cells #[.string ⟨#[44]⟩] 9)).alloc (.cells #[.int .i64 0] 3)).cell? ⟨w.heap.size + 1 + 1 + 1 + 1, 0, none⟩ = some (.string ⟨#[44]⟩) := cell_alloc _ (cell_new (by simp) rfl)
  have zp : w.heap.size + 1 + 1 + 1 + 1 < ((((((w.alloc (.cells #[.slice none 0 0] 51)).alloc (.cells #[.int .i64 0] 35)).alloc (.cells #[.slice none 0 0] 51)).alloc (.cells #[.string s] 9)).alloc (.cells #[.string ⟨#[44]⟩] 9)).alloc (.cells #[.int .i64 0] 3)).heap.size := World.block_lt_of_cell? _ _ p0
  have v0 : ((((((w.alloc (.cells #[.slice none 0 0] 51)).alloc (.cells #[.int .i64 0] 35)).alloc (.cells #[.slice none 0 0] 51)).alloc (.cells #[.string s] 9)).alloc (.cells #[.string ⟨#[44]⟩] 9)).alloc (.cells #[.int .i64 0] 3)).cell? ⟨w.heap.size + 1 + 1 + 1 + 1 + 1, 0, none⟩ = some (.int .i64 0) := cell_new (by simp) rfl
  have zv : w.heap.size + 1 + 1 + 1 + 1 + 1 < ((((((w.alloc (.cells #[.slice none 0 0] 51)).alloc (.cells #[.int .i64 0] 35)).alloc (.cells #[.slice none 0 0] 51)).alloc (.cells #[.string s] 9)).alloc (.cells #[.string ⟨#[44]⟩] 9)).alloc (.cells #[.int .i64 0] 3)).heap.size := World.block_lt_of_cell? _ _ v0
  generalize ((((((w.alloc (.cells #[.slice none 0 0] 51)).alloc (.cells #[.int .i64 0] 35)).alloc (.cells #[.slice none 0 0] 51)).alloc (.cells #[.string s] 9)).alloc (.cells #[.string ⟨#[44]⟩] 9)).alloc (.cells #[.int .i64 0] 3)) = W0 at *
  have hit := splitSeq_it 8 44 s (w.heap.size + 1 + 1 + 1 + 1) (w.heap.size + 1 + 1 + 1) (w.heap.size + 1 + 1 + 1 + 1 + 1) (w.heap.size + 1 + 1) W0 (by omega) ⟨zp, by omega, by omega⟩ ⟨zv, by omega, by omega⟩ ⟨zs, by omega⟩ ⟨p0, s0, v0, sf0⟩
  have HIT := Lib.hid hit
  have hI0 : PeI w W0.heap.size [] W0 := ⟨hbW, q0, qf0, r0, rf0, Nat.le_refl _, [], none, 0, rfl, l0, lf0, World.ownsRow_nil _ _ _ _⟩
  obtain ⟨hsm1, hsm2⟩ := cutB_small 44 s
  have HSM := Lib.hid hsm2
  clear hit q0 qf0 r0 rf0 l0 lf0 s0 sf0 p0 v0 hsm2
  refine range_law2 (gf := 95) (first := #[]) (lb := #[.pointer (some ⟨w.heap.size + 1 + 1 + 1 + 1, 0, none⟩), .pointer (some ⟨w.heap.size + 1 + 1 + 1, 0, none⟩), .pointer (some ⟨w.heap.size + 1 + 1 + 1 + 1 + 1, 0, none⟩)]) rfl (enters_of Tryz.func95 (by kernel_rfl) rfl)
    HIT.out ?hst (fun _ => rfl) kpO_t ?kc (PeI w W0.heap.size) (fun c _ W => PeX w s c W) ?ic ?xc ?is ?xs ?fc hI0 (fun x act _ => act = ({ tmps := #[.string s, undef, .pointer (some ⟨w.heap.size, 0, none⟩), .pointer (some ⟨w.heap.size + 1, 0, none⟩), .pointer (some ⟨w.heap.size + 1 + 1, 0, none⟩), .string x, undef, undef, undef, undef, undef, undef, .string s, .int .i64 (s.size : Int), .bool false, .string s, .bool false, .string s, .func (.func 95) #[] #[.pointer (some ⟨w.heap.size + 1 + 1 + 1 + 1, 0, none⟩), .pointer (some ⟨w.heap.size + 1 + 1 + 1, 0, none⟩), .pointer (some ⟨w.heap.size + 1 + 1 + 1 + 1 + 1, 0, none⟩)], .string x, undef, undef, undef, undef, undef, undef, undef, undef, undef, undef, undef, undef, undef, undef, undef, undef, undef, undef, undef, undef, undef, undef, undef, undef, undef, undef, undef, undef, undef, undef, undef, undef, undef, undef, undef, undef, undef, undef, undef, undef, undef, undef, undef, undef, undef, undef, undef, undef, undef, undef, undef, undef, undef, undef, undef, undef, undef, undef, undef, undef, undef, undef, undef], defers := [] } : Act)) ?ac ?assign ?body ?done ?stop
  case hst => exact fun B X X' k o h1 h2 h3 h h5 => (h.block k (by omega) (by omega)).trans h5
  case kc => exact fun X X' h => KpO.ck h
  case ic =>
    rintro t X X' ⟨h1, h2, h3, h4, h5, hz, its, A', c', h6, h7, h8, h9⟩ h
    exact ⟨CK.belowV h1 h (by omega), h.cell h2, (h.frozen h2).trans h3, h.cell h4, (h.frozen h4).trans h5, Nat.le_trans hz h.size, its, A', c', h6, h.cell h7, (h.frozen h7).trans h8, own_blk h9 (fun g o _ h5 h6 => h.same g o h5 (.inr h6))⟩
  case xc =>
    rintro c t X X' ⟨h1, h2, h3, h4, h5⟩ h
    exact ⟨h1, h2, CK.belowV h3 h (by omega), h.cell h4, h.cell h5⟩
  case is =>
    rintro B t X X' hB ⟨h1, h2, h3, h4, h5, hz, its, A', c', h6, h7, h8, h9⟩ _ h
    exact ⟨StL.below h1 h (Nat.le_refl _) (by omega), h.cell h2 (show w.heap.size ≠ _ by omega), (h.frozen h2 (show w.heap.size ≠ _ by omega)).trans h3, h.cell h4 (show w.heap.size + 1 ≠ _ by omega), (h.frozen h4 (show w.heap.size + 1 ≠ _ by omega)).trans h5, Nat.le_trans hz h.size, its, A', c', h6, h.cell h7 (show w.heap.size + 1 + 1 ≠ _ by omega), (h.frozen h7 (show w.heap.size + 1 + 1 ≠ _ by omega)).trans h8, own_blk h9 (fun g o hg h5 h6 => (h.block g (Array.getElem?_eq_some_iff.1 h5).1 (by omega)).trans h5)⟩
  case xs =>
    rintro B c t X X' hB ⟨h1, h2, h3, h4, h5⟩ _ h
    exact ⟨h1, h2, StL.below h3 h (Nat.le_refl _) (by omega), h.cell h4 (show w.heap.size ≠ _ by omega), h.cell h5 (show w.heap.size + 1 ≠ _ by omega)⟩
  case fc => exact fun _ X X' h k => trivial
  case ac => exact fun x act X X' h _ => h
  case assign =>
    intro lp x W K hW hK
    simp only [sqC]
    gi_wp2
    exact hK _ _ (KeepsOthers.refl _) (CK.refl _ _) rfl
  case body =>
    rintro lp pre x act W ⟨h1, h2, h3, h4, h5, hz, its, A', c', h6, h7, h8, h9⟩ hv rfl
    obtain ⟨rest, hrest⟩ := hv
    have hxm : x ∈ cutB 44 s := by rw [← hrest]; simp
    have hxz : x.size ≤ 100000 := Nat.le_trans (HSM.out x hxm) (by omega)
    have hil : its.length ≤ 10000 := by
      have e1 := itsP_len h6
      have e2 := congrArg List.length hrest
      simp at e2
      omega
    have zl := World.block_lt_of_cell? _ _ h7
    simp only at zl
    have zWW : w.heap.size < W.heap.size := by omega
    have E0 := Lib.hid ((HE.out.low (h1.mono hB)).up hB)
    obtain ⟨W1, hW1⟩ : ∃ W1, W1 = W.alloc (.cells #[.int .i64 0, .int .i64 0, .int .i64 0, .int .i64 0, .int .i64 0] 58) := ⟨_, rfl⟩
    have hb1 : Below W.heap.size W W1 := by rw [hW1]; exact below_alloc _ (Nat.le_refl _) (Below.refl _ _)
    have hz1 : W1.heap.size = W.heap.size + 1 := by rw [hW1]; simp
    have hx1 : W1.heap[W.heap.size]? = some (.cells #[.int .i64 0, .int .i64 0, .int .i64 0, .int .i64 0, .int .i64 0] 58) := by rw [hW1]; exact blk_new rfl
    have HV1 : Hid (VsAt W1 W.heap.size [0, 0, 0, 0, 0]) := Lib.hid (fun k hk => by
      refine ⟨?_, blk_frozen hx1⟩
      rcases k with _ | _ | _ | _ | _ | k
      all_goals first | exact blk_cell hx1 rfl | (simp at hk; omega))
    have HP := Lib.hid (parts5_any W.heap.size _ W1 (by omega) (blk_cell hx1 (j := 0) rfl))
    have E1 := Lib.hid ((E0.out.low (hb1.mono (Nat.le_of_lt zWW))).up (Nat.le_of_lt zWW))
    have HPA := Lib.hid (fun (A2 : Option Addr) (w2 : World) (hb2 : Below W1.heap.size W1 w2) (hP2 : PtAt w2 A2 5 W.heap.size) => parse_any x A2 5 5 W.heap.size [0, 0, 0, 0, 0] w2 (E1.out.low (hb2.mono (by omega))) (Nat.le_refl _) (by have := hb2.size; omega) rfl (by decide) hxz hP2 (HV1.out.below hb2) (by simp))
    obtain ⟨pq, hpq⟩ : ∃ p, p = parsQ 5 10 x := ⟨_, rfl⟩
    have HPQ := Lib.hid hpq
    rw [← hpq] at HPA
    have HNO := Lib.hid (itsP_none hxm)
    have HSN := Lib.hid (fun (l : List Int) (h : parsQ 5 10 x = some l) => itsP_snoc h6 h)
    rw [← hpq] at HNO HSN
    have HI1 := Lib.hid h1
    have OWN := Lib.hid h9
    clear hpq h1 h6 h9 hrest hxm E0 E1 HV1 hx1
    rw [hW1] at HP
    cases pq with
    | none =>
      have HNO2 := Lib.hid (HNO.out rfl)
      clear HSN HNO OWN h7 h8
      gi_wp2_with (fail)
      refine ⟨trivial, (CallsIn.inRound lp (callsIn_wide.2 HP.out)).mono ?_⟩
      rintro e w2 ⟨A2, rfl, hP2, hb2⟩
      rw [← hW1] at hb2
      have HPB := Lib.hid (HPA.out A2 w2 hb2 hP2)
      have hb12 : Below W.heap.size W w2 := hb1.trans (hb2.mono hb1.size)
      clear HPA hP2 HP
      gi_wp2_with (fail)
      refine ⟨trivial, (CallsIn.inRound lp (callsIn_wide.2 HPB.out)).mono ?_⟩
      rintro e w3 ⟨vs, rfl, hvl, hvb, hV3, hvq, hb3⟩
      have hW3 : Below W.heap.size W w3 := hb12.trans hb3
      have q3 := cell_below' hW3 h2
      have qf3 := frozen_below hW3 (show w.heap.size < _ from zWW) h3
      have e3 := cell_below' hW3 h4
      have ef3 := frozen_below hW3 (show w.heap.size + 1 < _ from by omega) h5
      have zq3 := World.block_lt_of_cell? _ _ q3
      have ze3 := World.block_lt_of_cell? _ _ e3
      simp only at zq3 ze3
      clear hV3 hvq hb3 hb2 HPB hvb h2 h3 h4 h5 hb12 hb1
      gi_wp2_with (fail)
      have hne : w.heap.size ≠ w.heap.size + 1 := by omega
      have hbw3 : Below w.heap.size w w3 := HI1.out.trans (hW3.mono (Nat.le_of_lt zWW))
      refine ⟨KeepsOthers.trans ⟨hW3.size, fun k o h _ => blk_below' hW3 h⟩ ((KeepsOthers.setCell _ _ _).trans (KeepsOthers.setCell _ _ _)), rfl, HNO2.out, below_set _ (Nat.le_succ _) (below_set _ (Nat.le_refl _) hbw3), cell_far (fun e => hne e.symm) (cell_same q3), cell_same (cell_far hne e3)⟩
    | some l =>
      obtain ⟨a0, a1, a2, a3, a4, rfl⟩ := five (parsQ_len HPQ.out.symm)
      have HSN2 := Lib.hid (HSN.out _ rfl)
      clear HSN HNO
      gi_wp2_with (fail)
      refine ⟨trivial, (CallsIn.inRound lp (callsIn_wide.2 HP.out)).mono ?_⟩
      rintro e w2 ⟨A2, rfl, hP2, hb2⟩
      rw [← hW1] at hb2
      have HPB := Lib.hid (HPA.out A2 w2 hb2 hP2)
      have hb12 : Below W.heap.size W w2 := hb1.trans (hb2.mono hb1.size)
      clear HPA hP2 HP
      gi_wp2_with (fail)
      refine ⟨trivial, (CallsIn.inRound lp (callsIn_wide.2 HPB.out)).mono ?_⟩
      rintro e w3 ⟨vs, rfl, hvl, hvb, hV3, hvq, hb3⟩
      have hW3 : Below W.heap.size W w3 := hb12.trans hb3
      have hvq2 := hvq _ rfl
      subst hvq2
      have x0 := (hV3 0 (by simp)).1
      have x1 := (hV3 1 (by simp)).1
      have x2 := (hV3 2 (by simp)).1
      have x3 := (hV3 3 (by simp)).1
      have x4 := (hV3 4 (by simp)).1
      simp only [List.getElem_cons_zero, List.getElem_cons_succ] at x0 x1 x2 x3 x4
      have q3 := cell_below' hW3 h2
      have qf3 := frozen_below hW3 (show w.heap.size < _ from zWW) h3
      have e3 := cell_below' hW3 h4
      have ef3 := frozen_below hW3 (show w.heap.size + 1 < _ from by omega) h5
      have l3 := cell_below' hW3 h7
      have lf3 := frozen_below hW3 (show w.heap.size + 1 + 1 < _ from zl) h8
      have zl3 := World.block_lt_of_cell? _ _ l3
      have zx3 := World.block_lt_of_cell? _ _ x0
      simp only at zl3 zx3
      have OWN3 := Lib.hid (own_below OWN.out hW3)
      have hbw3 : Below w.heap.size w w3 := HI1.out.trans (hW3.mono (Nat.le_of_lt zWW))
      have hz3 : W0.heap.size ≤ w3.heap.size := Nat.le_trans hz hW3.size
      have HNE : some (w.heap.size + 1 + 1) ≠ Value.ownBlock (.slice A' its.length c') := fun e => by have := (OWN3.out.lt _ e.symm).1; omega
      have HNQ : some w.heap.size ≠ Value.ownBlock (.slice A' its.length c') := fun e => by have := (OWN3.out.lt _ e.symm).1; omega
      have HNR : some (w.heap.size + 1) ≠ Value.ownBlock (.slice A' its.length c') := fun e => by have := (OWN3.out.lt _ e.symm).1; omega
      clear hV3 hvq hb3 hb2 HPB hvb h2 h3 h4 h5 h7 h8 hb12 hb1 OWN
      gi_wp2_with (gi_at_builtin; (refine wpListIn_append_rows rfl (.tmp 24) (.tmp 26) 51 rfl W0.heap.size 58 i0 (.agg #[.int .i64 0, .int .i64 0, .int .i64 0, .int .i64 0, .int .i64 0]) 5 40 Tryz.underlying51 HI.out HZ0.out HZ1.out HZ2.out rfl (by decide) A' its.length c' (cellsOf 5 itC its) rfl (World.ownsRow.alloc OWN3.out _) (some ⟨_, 0, none⟩) 1 1 [.int .i64 a0, .int .i64 a1, .int .i64 a2, .int .i64 a3, .int .i64 a4] rfl rfl (fun h => by cases h) (fun ad h => by cases h; exact newsIt (x := ⟨a0, a1, a2, a3, a4⟩) (blk_new rfl)) (fun u hu => by simp at hu; rcases hu with rfl | rfl | rfl | rfl | rfl <;> rfl) (by unfold maxLen; omega) (by omega) (by simp; omega) ?_; intro A2' c2' w4 g1 g2 g3; have l4 := cell_grown g2 (cell_alloc _ l3) HNE; have lf4 := frozen_grown g2 (frozen_alloc _ (show w.heap.size + 1 + 1 < _ from zl3) lf3) (show w.heap.size + 1 + 1 < _ by simp; omega) HNE; have q4 := cell_grown g2 (cell_alloc _ q3) HNQ; have qf4 := frozen_grown g2 (frozen_alloc _ (show w.heap.size < _ by omega) qf3) (show w.heap.size < _ by simp; omega) HNQ; have e4 := cell_grown g2 (cell_alloc _ e3) HNR; have ef4 := frozen_grown g2 (frozen_alloc _ (show w.heap.size + 1 < _ by omega) ef3) (show w.heap.size + 1 < _ by simp; omega) HNR; have zl4 := World.block_lt_of_cell? _ _ l4))
      have hal : Below w3.heap.size w3 (w3.alloc (.cells #[.int .i64 a0, .int .i64 a1, .int .i64 a2, .int .i64 a3, .int .i64 a4] 58)) := below_alloc _ (Nat.le_refl _) (Below.refl _ _)
      have hko : KeepsOthers W (w4.setCell ⟨w.heap.size + 1 + 1, 0, none⟩ (.slice A2' (its.length + 1) c2')) :=
        KeepsOthers.trans ⟨hW3.size, fun k o h _ => blk_below' hW3 h⟩ (KeepsOthers.trans ⟨hal.size, fun k o h _ => blk_below' hal h⟩ ((KeepsOthers.of_grownBy g2 (own_cells (World.ownsRow.alloc OWN3.out _))).trans (KeepsOthers.setCell _ _ _)))
      have hkp : KpO W0.heap.size (w.heap.size + 1 + 1) W (w4.setCell ⟨w.heap.size + 1 + 1, 0, none⟩ (.slice A2' (its.length + 1) c2')) := fun k o hk hn ho => by
        have o3 := blk_below' hal (blk_below' hW3 ho)
        have o4 : w4.heap[k]? = some o := (g2.block k (Array.getElem?_eq_some_iff.1 o3).1 (fun e => by have := (OWN3.out.lt _ e.symm).1; omega)).trans o3
        exact blk_far _ hn o4
      have hL : (its ++ [itOf [a0, a1, a2, a3, a4]]).length = its.length + 1 := by simp
      have hbl4 : Below w.heap.size w w4 := below_own (below_alloc _ (Nat.le_refl _) hbw3) g2 (World.ownsRow.alloc OWN3.out _) (by omega) (by simp; omega)
      have hz4 : w3.heap.size + 1 ≤ w4.heap.size := by have := g2.size; simpa using this
      have hne1 : w.heap.size + 1 + 1 ≠ w.heap.size := by omega
      have hne2 : w.heap.size + 1 + 1 ≠ w.heap.size + 1 := by omega
      have hown : (w4.setCell ⟨w.heap.size + 1 + 1, 0, none⟩ (.slice A2' (its.length + 1) c2')).ownsRow W0.heap.size 58 5 (.slice A2' (its ++ [itOf [a0, a1, a2, a3, a4]]).length c2') (its ++ [itOf [a0, a1, a2, a3, a4]]).length (cellsOf 5 itC (its ++ [itOf [a0, a1, a2, a3, a4]])) := by
        rw [hL, cellsOf_append]
        exact own_blk g1 (fun g o hg h _ => blk_far _ (by simp; omega) h)
      gi_wp2_with (fail)
      exact ⟨hko, hkp, below_set _ (by simp; omega) hbl4, cell_far hne1 q4, frozen_set _ _ qf4, cell_far hne2 e4, frozen_set _ _ ef4, by simp; omega, its ++ [itOf [a0, a1, a2, a3, a4]], A2', c2', HSN2.out, by rw [hL]; exact cell_same l4, frozen_set _ _ lf4, hown⟩
  case done =>
    rintro D xs W hD rfl ⟨h1, h2, h3, h4, h5, hz, its, A', c', h6, h7, h8, h9⟩ - hK
    have HI9 : Hid (ItsAt W A' its) := Lib.hid (rowsAt_of_own h9 rfl (by decide))
    have hil : its.length ≤ 10001 := by have := itsP_len h6; omega
    have hq4 := HQ3.out
    rw [h6] at hq4
    have HQ4 := Lib.hid (show Q = if itsE (-1) its = 0 then (its, 0) else ([], itsE (-1) its) from hq4)
    have zq := World.block_lt_of_cell? _ _ h2
    have zr := World.block_lt_of_cell? _ _ h4
    have zl := World.block_lt_of_cell? _ _ h7
    simp only at zq zr zl
    have hDz : D < W.heap.size := (Array.getElem?_eq_some_iff.1 hK).1
    have hDq : D ≠ w.heap.size := by omega
    have hDr : D ≠ w.heap.size + 1 := by omega
    have hilI : (its.length : Int) ≤ 10001 := by omega
    have HOW := Lib.hid h9
    clear h6 h8 h9 hq4 HIT
    gi_wp2_with (fail)
    refine wpIn_wide.2 ?_
    go_loopw [7, 30] (fun last i wr => ∃ (k : Nat) (la : Int), k ≤ its.length ∧ i = .int .i64 k ∧ last = .int .i64 la ∧ itsE (-1) its = itsE la (its.drop k) ∧ Below W.heap.size W wr) (fun _ i _ => its.length - (intOf i).toNat)
    case atStart => exact ⟨0, -1, Nat.zero_le _, rfl, rfl, rfl, Below.refl _ _⟩
    case round =>
      obtain ⟨k, la, hk, rfl, rfl, hE2, hbr⟩ := hrel
      obtain ⟨wo, rfl⟩ : ∃ wo : World, wo = wr := ⟨_, rfl⟩
      have HE2 := Lib.hid hE2
      clear hE2
      have q0 := cell_below' hbr h2
      have qf0 := frozen_below hbr (show w.heap.size < _ from zq) h3
      have r0 := cell_below' hbr h4
      have rf0 := frozen_below hbr (show w.heap.size + 1 < _ from zr) h5
      have l0 := cell_below' hbr h7
      have zq0 : w.heap.size < wo.heap.size := Nat.lt_of_lt_of_le zq hbr.size
      have zr0 : w.heap.size + 1 < wo.heap.size := Nat.lt_of_lt_of_le zr hbr.size
      have zl0 : w.heap.size + 1 + 1 < wo.heap.size := Nat.lt_of_lt_of_le zl hbr.size
      have hKo : wo.heap[D]? = some (.deferred (some [])) := blk_below' hbr hK
      have hbwo : Below w.heap.size w wo := h1.trans (hbr.mono (Nat.le_of_lt zq))
      by_cases hlt : k < its.length
      · obtain ⟨b, off, rfl, hb, c0, c1, c2, c3, c4⟩ := ItsAt.at_ (RowsAt.below HI9.out hbr) hlt
        have hdr : its.drop k = its[k] :: its.drop (k + 1) := List.drop_eq_getElem_cons hlt
        have hE3 := HE2.out.trans (by rw [hdr])
        have HE3 := Lib.hid (show itsE (-1) its = if itE la its[k] = 0 then itsE its[k].l (its.drop (k + 1)) else itE la its[k] from hE3)
        have hkI : (k : Int) < (its.length : Int) := by omega
        clear hdr hE3
        generalize its[k] = x at *
        obtain ⟨xl, xp, xt, xlo, xhi⟩ := x
        simp only at c0 c1 c2 c3 c4 HE3
        have hEE : itE la ⟨xl, xp, xt, xlo, xhi⟩ = firstE [unl (rgB ⟨xl, xp, xt, xlo, xhi⟩) 2, unl (withinB xt 0 3) 15, unl (odB la ⟨xl, xp, xt, xlo, xhi⟩) 9] := rfl
        have hRG : rgB ⟨xl, xp, xt, xlo, xhi⟩ = (withinB xl 0 1000000 && (withinB xp 1 1000000000 && (withinB xlo (-2000000000) 2000000000 && withinB xhi (-2000000000) 2000000000))) := rfl
        have hOD : odB la ⟨xl, xp, xt, xlo, xhi⟩ = (decide (xlo ≤ xhi) && decide (la < xl)) := rfl
        have HW1 := Lib.hid (fun W => within_any xl 0 1000000 W)
        have HW2 := Lib.hid (fun W => within_any xp 1 1000000000 W)
        have HW3 := Lib.hid (fun W => isSized_any xlo 2000000000 (by decide) (by decide) W)
        have HW4 := Lib.hid (fun W => isSized_any xhi 2000000000 (by decide) (by decide) W)
        have HW5 := Lib.hid (fun W => within_any xt 0 3 W)
        rw [hRG, hOD] at hEE
        generalize itE la ⟨xl, xp, xt, xlo, xhi⟩ = E at *
        generalize withinB xl 0 1000000 = b1 at *
        generalize withinB xp 1 1000000000 = b2 at *
        generalize withinB xlo (-2000000000) 2000000000 = b3 at *
        generalize withinB xhi (-2000000000) 2000000000 = b4 at *
        generalize withinB xt 0 3 = b5 at *
        obtain ⟨b6, hb6⟩ : ∃ b, decide (xlo ≤ xhi) = b := ⟨_, rfl⟩
        obtain ⟨b7, hb7⟩ : ∃ b, decide (la < xl) = b := ⟨_, rfl⟩
        rw [hb6, hb7] at hEE
        have HEE := Lib.hid hEE
        clear hEE hRG hOD
        go_upto_region 16 with (fail)
        have hb1 : Below wo.heap.size wo (wo.alloc (.cells #[.int .i64 xl, .int .i64 xp, .int .i64 xt, .int .i64 xlo, .int .i64 xhi] 58)) := below_alloc _ (Nat.le_refl _) (Below.refl _ _)
        have x0 : (wo.alloc (.cells #[.int .i64 xl, .int .i64 xp, .int .i64 xt, .int .i64 xlo, .int .i64 xhi] 58)).cell? ⟨wo.heap.size, 0, none⟩ = some (.int .i64 xl) := cell_new (by simp) rfl
        have x1 : (wo.alloc (.cells #[.int .i64 xl, .int .i64 xp, .int .i64 xt, .int .i64 xlo, .int .i64 xhi] 58)).cell? ⟨wo.heap.size, 1, none⟩ = some (.int .i64 xp) := cell_new (by simp) rfl
        have x2 : (wo.alloc (.cells #[.int .i64 xl, .int .i64 xp, .int .i64 xt, .int .i64 xlo, .int .i64 xhi] 58)).cell? ⟨wo.heap.size, 2, none⟩ = some (.int .i64 xt) := cell_new (by simp) rfl
        have x3 : (wo.alloc (.cells #[.int .i64 xl, .int .i64 xp, .int .i64 xt, .int .i64 xlo, .int .i64 xhi] 58)).cell? ⟨wo.heap.size, 3, none⟩ = some (.int .i64 xlo) := cell_new (by simp) rfl
        have x4 : (wo.alloc (.cells #[.int .i64 xl, .int .i64 xp, .int .i64 xt, .int .i64 xlo, .int .i64 xhi] 58)).cell? ⟨wo.heap.size, 4, none⟩ = some (.int .i64 xhi) := cell_new (by simp) rfl
        have zx : wo.heap.size < (wo.alloc (.cells #[.int .i64 xl, .int .i64 xp, .int .i64 xt, .int .i64 xlo, .int .i64 xhi] 58)).heap.size := World.block_lt_of_cell? _ _ x0
        generalize (wo.alloc (.cells #[.int .i64 xl, .int .i64 xp, .int .i64 xt, .int .i64 xlo, .int .i64 xhi] 58)) = w1 at *
        have hbr1 := hbr.trans (hb1.mono hbr.size)
        go_cut [10] from 34 to 53 (fun t wx => t = .bool (b1 && (b2 && (b3 && b4))) ∧ wx = w1)
        case first =>
          cases b1
          · go_wp2_with (first | (go_at_call 51; with_reducible refine (HW1.out _).mono ?_; rintro e w' ⟨rfl, rfl⟩) | (go_at_call 51; with_reducible refine (HW2.out _).mono ?_; rintro e w' ⟨rfl, rfl⟩) | (go_at_call 52; with_reducible refine (HW3.out _).mono ?_; rintro e w' ⟨rfl, rfl⟩) | (go_at_call 52; with_reducible refine (HW4.out _).mono ?_; rintro e w' ⟨rfl, rfl⟩))
            go_meet
            exact ⟨rfl, rfl⟩
          · cases b2
            · go_wp2_with (first | (go_at_call 51; with_reducible refine (HW1.out _).mono ?_; rintro e w' ⟨rfl, rfl⟩) | (go_at_call 51; with_reducible refine (HW2.out _).mono ?_; rintro e w' ⟨rfl, rfl⟩) | (go_at_call 52; with_reducible refine (HW3.out _).mono ?_; rintro e w' ⟨rfl, rfl⟩) | (go_at_call 52; with_reducible refine (HW4.out _).mono ?_; rintro e w' ⟨rfl, rfl⟩))
              go_meet
              exact ⟨rfl, rfl⟩
            · cases b3
              · go_wp2_with (first | (go_at_call 51; with_reducible refine (HW1.out _).mono ?_; rintro e w' ⟨rfl, rfl⟩) | (go_at_call 51; with_reducible refine (HW2.out _).mono ?_; rintro e w' ⟨rfl, rfl⟩) | (go_at_call 52; with_reducible refine (HW3.out _).mono ?_; rintro e w' ⟨rfl, rfl⟩) | (go_at_call 52; with_reducible refine (HW4.out _).mono ?_; rintro e w' ⟨rfl, rfl⟩))
                go_meet
                exact ⟨rfl, rfl⟩
              · cases b4
                · go_wp2_with (first | (go_at_call 51; with_reducible refine (HW1.out _).mono ?_; rintro e w' ⟨rfl, rfl⟩) | (go_at_call 51; with_reducible refine (HW2.out _).mono ?_; rintro e w' ⟨rfl, rfl⟩) | (go_at_call 52; with_reducible refine (HW3.out _).mono ?_; rintro e w' ⟨rfl, rfl⟩) | (go_at_call 52; with_reducible refine (HW4.out _).mono ?_; rintro e w' ⟨rfl, rfl⟩))
                  go_meet
                  exact ⟨rfl, rfl⟩
                · go_wp2_with (first | (go_at_call 51; with_reducible refine (HW1.out _).mono ?_; rintro e w' ⟨rfl, rfl⟩) | (go_at_call 51; with_reducible refine (HW2.out _).mono ?_; rintro e w' ⟨rfl, rfl⟩) | (go_at_call 52; with_reducible refine (HW3.out _).mono ?_; rintro e w' ⟨rfl, rfl⟩) | (go_at_call 52; with_reducible refine (HW4.out _).mono ?_; rintro e w' ⟨rfl, rfl⟩))
                  go_meet
                  exact ⟨rfl, rfl⟩
        case rest =>
        obtain ⟨v1, rfl⟩ : ∃ v1 : World, v1 = wc := ⟨_, rfl⟩
        obtain ⟨rfl, rfl⟩ := hcut
        generalize (b1 && (b2 && (b3 && b4))) = bR at *
        have HF : Hid (∀ bb, bb = (b6 && b7) → firstE [unl bR 2, unl b5 15, unl bb 9] = E) := Lib.hid (fun bb h => by rw [h]; exact HEE.out.symm)
        go_upto_region 17 with (fail)
        go_cut [11] from 54 to 75 (fun t wx => t = .int .i64 E ∧ Below v1.heap.size v1 wx)
        case first =>
          cases b6
          · have HF2 := Lib.hid (HF.out false (by simp))
            (refine region_extx 20 (by kernel_rfl) (by kernel_rfl) fun hx => ?_; simp only [List.take_succ_cons, List.take_zero, List.drop_succ_cons, List.drop_zero]; (repeat (any_goals (first | go_big_quiet_step ((first | (go_at_call 36; with_reducible exact ext_same (unless_any _ _ _)) | (go_at_call 51; with_reducible exact ext_same (HW5.out _)))) | quiet_step ((first | (go_at_call 36; with_reducible exact ext_same (unless_any _ _ _)) | (go_at_call 51; with_reducible exact ext_same (HW5.out _))))))))
            (refine wpQuiet_nil ?_; clear hx; intro u; have hbw3 := ext_bel _ u; have hxw3 := ext_cell _ u; generalize ext _ u = w3 at *; clear u; have hsw3 := hbw3.size; (try simp at hsw3))
            have hsz3 : v1.heap.size ≤ w3.heap.size := hbw3.size
            go_wp2_with (go_at_call 35; refine (first3 _ _ _ _ _ (by simp) (cell_new (by simp) rfl) (cell_new (by simp) rfl) (cell_new (by simp) rfl)).mono ?_; rintro e w' ⟨rfl, rfl⟩; rw [HF2.out])
            go_meet
            exact ⟨rfl, below_alloc _ (Nat.le_refl _) hbw3⟩
          · have HF2 := Lib.hid (HF.out b7 (by simp))
            (refine region_extx 20 (by kernel_rfl) (by kernel_rfl) fun hx => ?_; simp only [List.take_succ_cons, List.take_zero, List.drop_succ_cons, List.drop_zero]; (repeat (any_goals (first | go_big_quiet_step ((first | (go_at_call 36; with_reducible exact ext_same (unless_any _ _ _)) | (go_at_call 51; with_reducible exact ext_same (HW5.out _)))) | quiet_step ((first | (go_at_call 36; with_reducible exact ext_same (unless_any _ _ _)) | (go_at_call 51; with_reducible exact ext_same (HW5.out _))))))))
            (refine wpQuiet_nil ?_; clear hx; intro u; have hbw3 := ext_bel _ u; have hxw3 := ext_cell _ u; generalize ext _ u = w3 at *; clear u; have hsw3 := hbw3.size; (try simp at hsw3))
            have hsz3 : v1.heap.size ≤ w3.heap.size := hbw3.size
            go_wp2_with (go_at_call 35; refine (first3 _ _ _ _ _ (by simp) (cell_new (by simp) rfl) (cell_new (by simp) rfl) (cell_new (by simp) rfl)).mono ?_; rintro e w' ⟨rfl, rfl⟩; rw [HF2.out])
            go_meet
            exact ⟨rfl, below_alloc _ (Nat.le_refl _) hbw3⟩
        case rest =>
        obtain ⟨v2, rfl⟩ : ∃ v2 : World, v2 = wc := ⟨_, rfl⟩
        obtain ⟨rfl, hb12⟩ := hcut
        have hb02 : Below wo.heap.size wo v2 := hb1.trans (hb12.mono hb1.size)
        replace x0 := cell_below' hb12 x0
        replace q0 := cell_below' hb02 q0
        replace qf0 := frozen_below hb02 (show w.heap.size < _ from zq0) qf0
        replace r0 := cell_below' hb02 r0
        replace rf0 := frozen_below hb02 (show w.heap.size + 1 < _ from zr0) rf0
        have zq3 := World.block_lt_of_cell? _ _ q0
        have zr3 := World.block_lt_of_cell? _ _ r0
        simp only at zq3 zr3
        have hbr3 := hbr.trans (hb02.mono hbr.size)
        have hK3 : v2.heap[D]? = some (.deferred (some [])) := blk_below' hb02 hKo
        have hbw3 : Below w.heap.size w v2 := h1.trans (hbr3.mono (Nat.le_of_lt zq))
        clear HF HEE HW1 HW2 HW3 HW4 HW5 hb1 hb12 hb02 hbr1 hKo hbwo c0 c1 c2 c3 c4 x1 x2 x3 x4
        by_cases hE0 : E = 0
        · have HE5 := Lib.hid (HE3.out.trans (if_pos hE0))
          subst hE0
          go_wp2_with (fail)
          exact ⟨⟨k + 1, xl, by omega, by go_num, rfl, HE5.out, hbr3⟩, by simp [intOf]; omega⟩
        · have HE5 := Lib.hid (HE3.out.trans (if_neg hE0))
          have hQ6 := HQ4.out
          rw [HE5.out, if_neg hE0] at hQ6
          have HQ6 := Lib.hid hQ6
          have e9 : (E != 0) = true := by simpa using hE0
          clear hQ6 hE0
          go_wp2_with (fail)
          have hdne : w.heap.size ≠ w.heap.size + 1 := by omega
          have hKo2 : (v2.setCell ⟨w.heap.size, 0, none⟩ (.slice none 0 0)).heap[D]? = some (.deferred (some [])) := blk_far _ hDq hK3
          have hKf : ((v2.setCell ⟨w.heap.size, 0, none⟩ (.slice none 0 0)).setCell ⟨w.heap.size + 1, 0, none⟩ (.int .i64 E)).heap[D]? = some (.deferred (some [])) := blk_far _ hDr hKo2
          have f0 : ((v2.setCell ⟨w.heap.size, 0, none⟩ (.slice none 0 0)).setCell ⟨w.heap.size + 1, 0, none⟩ (.int .i64 E)).cell? ⟨w.heap.size, 0, none⟩ = some (.slice none 0 0) := cell_far (fun e => hdne e.symm) (cell_same q0)
          have f1 : ((v2.setCell ⟨w.heap.size, 0, none⟩ (.slice none 0 0)).setCell ⟨w.heap.size + 1, 0, none⟩ (.int .i64 E)).cell? ⟨w.heap.size + 1, 0, none⟩ = some (.int .i64 E) := cell_same (cell_far hdne r0)
          have hbF : Below w.heap.size w ((v2.setCell ⟨w.heap.size, 0, none⟩ (.slice none 0 0)).setCell ⟨w.heap.size + 1, 0, none⟩ (.int .i64 E)) := below_set _ (Nat.le_succ _) (below_set _ (Nat.le_refl _) hbw3)
          generalize ((v2.setCell ⟨w.heap.size, 0, none⟩ (.slice none 0 0)).setCell ⟨w.heap.size + 1, 0, none⟩ (.int .i64 E)) = WF at *
          refine ⟨by simp, .inl ⟨_, _, rfl, run_takeDeferred hKf, ?_⟩⟩
          have hck9 : CK W0.heap.size WF (World.putObj WF D (.deferred none)) := CK.put (.deferred none) hD hKf rfl
          have g0 := hck9.cell f0
          have g1 := hck9.cell f1
          refine ⟨.tuple #[.slice none 0 0, .int .i64 E], by simp [results, Tryz.f17, go_sem, g0, g1], ?_⟩
          rw [HQ6.out]
          exact ⟨none, 0, rfl, RowsAt.nil, CK.belowV hbF hck9 (by omega)⟩
      · obtain rfl : its.length = k := by omega
        have hE6 := HE2.out
        rw [List.drop_length] at hE6
        have hQ6 := HQ4.out
        rw [hE6] at hQ6
        have HQ6 := Lib.hid (show Q = (its, 0) from hQ6.trans (if_pos rfl))
        have HOW2 := Lib.hid (own_below HOW.out hbr)
        clear hE6 hQ6
        go_wp2_with (fail)
        gi_wp2_with (fail)
        have hdne : w.heap.size ≠ w.heap.size + 1 := by omega
        have hKo2 : (wo.setCell ⟨w.heap.size, 0, none⟩ (.slice A' its.length c')).heap[D]? = some (.deferred (some [])) := blk_far _ hDq hKo
        have hKf : ((wo.setCell ⟨w.heap.size, 0, none⟩ (.slice A' its.length c')).setCell ⟨w.heap.size + 1, 0, none⟩ (.int .i64 0)).heap[D]? = some (.deferred (some [])) := blk_far _ hDr hKo2
        have f0 : ((wo.setCell ⟨w.heap.size, 0, none⟩ (.slice A' its.length c')).setCell ⟨w.heap.size + 1, 0, none⟩ (.int .i64 0)).cell? ⟨w.heap.size, 0, none⟩ = some (.slice A' its.length c') := cell_far (fun e => hdne e.symm) (cell_same q0)
        have f1 : ((wo.setCell ⟨w.heap.size, 0, none⟩ (.slice A' its.length c')).setCell ⟨w.heap.size + 1, 0, none⟩ (.int .i64 0)).cell? ⟨w.heap.size + 1, 0, none⟩ = some (.int .i64 0) := cell_same (cell_far hdne r0)
        have hbF : Below w.heap.size w ((wo.setCell ⟨w.heap.size, 0, none⟩ (.slice A' its.length c')).setCell ⟨w.heap.size + 1, 0, none⟩ (.int .i64 0)) := below_set _ (Nat.le_succ _) (below_set _ (Nat.le_refl _) hbwo)
        have HOW3 : Hid (World.ownsRow ((wo.setCell ⟨w.heap.size, 0, none⟩ (.slice A' its.length c')).setCell ⟨w.heap.size + 1, 0, none⟩ (.int .i64 0)) W0.heap.size 58 5 (.slice A' its.length c') its.length (cellsOf 5 itC its)) := Lib.hid (own_blk HOW2.out (fun g o hg h _ => blk_far _ (by simp; omega) (blk_far _ (by simp; omega) h)))
        generalize ((wo.setCell ⟨w.heap.size, 0, none⟩ (.slice A' its.length c')).setCell ⟨w.heap.size + 1, 0, none⟩ (.int .i64 0)) = WF at *
        refine ⟨by simp, .inl ⟨_, _, rfl, run_takeDeferred hKf, ?_⟩⟩
        have hck9 : CK W0.heap.size WF (World.putObj WF D (.deferred none)) := CK.put (.deferred none) hD hKf rfl
        have g0 := hck9.cell f0
        have g1 := hck9.cell f1
        refine ⟨.tuple #[.slice A' its.length c', .int .i64 0], by simp [results, Tryz.f17, go_sem, g0, g1], ?_⟩
        rw [HQ6.out]
        exact ⟨A', c', rfl, rowsAt_of_own (own_blk HOW3.out (fun g o _ h5 h6 => hck9.same g o h5 (.inr h6))) rfl (by decide), CK.belowV hbF hck9 (by omega)⟩
  case stop =>
    rintro D c pre W hD hv ⟨rfl, h1, h2, h3, h4⟩ hK
    have HN := Lib.hid h1
    have hQ5 := HQ3.out
    rw [h1] at hQ5
    have HQ5 := Lib.hid (show Q = ([], 7) from hQ5)
    clear hQ5 h1
    gi_wp2
    refine ⟨by simp, .inl ⟨_, _, rfl, run_takeDeferred hK, ?_⟩⟩
    have hck9 : CK W0.heap.size W (World.putObj W D (.deferred none)) := CK.put (.deferred none) hD hK rfl
    have q0 := hck9.cell h3
    have q1 := hck9.cell h4
    refine ⟨.tuple #[.slice none 0 0, .int .i64 7], by simp [results, Tryz.f17, go_sem, q0, q1], ?_⟩
    rw [HQ5.out]
    exact ⟨none, 0, rfl, RowsAt.nil, CK.belowV h2 hck9 (by omega)⟩
end Go.Proofs.YtlnbbioponmcfaaGreatDoor
