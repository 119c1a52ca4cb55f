/-
  WarnSteady: the walk.
-/
import Derived.Test.YtcfbnmcdncndpaaLw07
namespace Go.Proofs.Ytcfbnmcdncndpaa
open Go.ChangeShapes Go.WideShapes Go.ChangeAt Go.RowKit
set_option linter.unusedVariables false
set_option linter.unusedSimpArgs false

theorem Size_any (n : Int) (w : World) (h1 : -100000000 ≤ n) (h2 : n ≤ 100000000) :
    Calls Try.prog 61 #[.int .i64 n] w fun e w' => e = .returned (.int .i64 (sizeI n)) ∧ w = w' := by
  have hq : sizeI n = max n (-n) := rfl
  have HQ := Lib.hid hq
  clear hq
  go_enter Try.func61, Try.ntmps61
  go_wp2
  go_ret
  exact ⟨ret_int HQ.out.symm, rfl⟩
theorem varL_le (vs : List Int) (h : ∀ i, i < vs.length → -1000000 ≤ gt vs i ∧ gt vs i ≤ 1000000) : ∀ k : Nat, k ≤ vs.length → varL vs k ≤ 2000000 * k
  | 0, _ => by simp [varL]
  | k + 1, hk => by
    have ih := varL_le vs h k (by omega)
    have h1 := h k (by omega)
    have h2 := h (k - 1) (by omega)
    rw [varL_succ]
    by_cases h0 : k = 0
    · rw [if_pos h0]; push_cast; omega
    · rw [if_neg h0]
      have : sizeI (gt vs k - gt vs (k - 1)) ≤ 2000000 := by unfold sizeI; split <;> omega
      push_cast; omega
theorem gt_val {vs : List Int} (h : ∀ x ∈ vs, isV x = true) : ∀ i, i < vs.length → -1000000 ≤ gt vs i ∧ gt vs i ≤ 1000000 := fun i hi => by
  rw [← gt_get hi]
  exact isV_iff.1 (h _ (List.getElem_mem _))
/-- a step of valid rules behind valid values makes no error -/
theorem stpE_run {nm : ByteArray} {u d : List Int} {hold : Int} (ho : OkR nm u d hold) (hC : chkRE nm u d hold = 0) (vs : List Int) (hv : ∀ x ∈ vs, isV x = true) (hl : vs.length ≤ 500) (k : Nat) (hk : k < vs.length) :
    stpE nm u d hold (runS u d hold ⟨0, 0, 0⟩ (vs.take k)) vs[k] = 0 ∧ stpS nm u d hold (runS u d hold ⟨0, 0, 0⟩ (vs.take k)) vs[k] = runS u d hold ⟨0, 0, 0⟩ (vs.take (k + 1)) := by
  have hok := runS_ok ho (vs.take k)
  rw [List.length_take, Nat.min_eq_left (by omega)] at hok
  have hx := isV_iff.1 (hv _ (List.getElem_mem hk))
  have hE : stpE nm u d hold (runS u d hold ⟨0, 0, 0⟩ (vs.take k)) vs[k] = 0 := by
    unfold stpE
    rw [if_pos hC, firstE2]
    refine ⟨?_, ?_⟩
    · unfold stE
      rw [firstE2, unl_zero (by decide), unl_zero (by decide)]
      obtain ⟨a, b, c, e, f, g⟩ := hok
      refine ⟨?_, ?_⟩
      · unfold stB
        rw [Bool.and_eq_true, Bool.and_eq_true, withinB_true, withinB_true, withinB_true]
        omega
      · unfold stZ
        rw [Bool.or_eq_true, decide_eq_true_eq, beq_iff_eq]
        by_cases h0 : 0 < (runS u d hold ⟨0, 0, 0⟩ (vs.take k)).l
        · exact .inl h0
        · right
          exact run_zero (u := u) (d := d) (hold := hold) (vs.take k) ⟨0, 0, 0⟩ (fun _ => rfl) (by omega)
    · rw [unl_zero (by decide), withinB_true]
      exact hx
  refine ⟨hE, ?_⟩
  unfold stpS
  rw [if_pos hE, take_snoc' hk, runS_snoc]
theorem stdF_next {l : List Ev} {i : Nat} (h : i < l.length) : stdF (l.take (i + 1)) = stdE (stdF (l.take i)) l[i] := by
  rw [List.take_succ_eq_append_getElem h, stdF_snoc]
theorem stdF_bd : ∀ (l : List Ev), 0 ≤ (stdF l).1 ∧ (stdF l).1 ≤ l.length := by
  have h : ∀ (l : List Ev) (q : Int × Int) (n : Nat), 0 ≤ q.1 → q.1 ≤ n → 0 ≤ (l.foldl stdE q).1 ∧ (l.foldl stdE q).1 ≤ n + l.length := by
    intro l
    induction l with
    | nil => intro q n h1 h2; exact ⟨h1, by simp; exact h2⟩
    | cons e l ih =>
      intro q n h1 h2
      have := ih (stdE q e) (n + 1) (by unfold stdE; split; (focus (show 0 ≤ q.1 + 1; omega)); exact h1) (by unfold stdE; split; (focus (show q.1 + 1 ≤ _; push_cast; omega)); (focus (push_cast; omega)))
      refine ⟨this.1, ?_⟩
      have h3 := this.2
      rw [List.foldl_cons, List.length_cons]
      push_cast at h3 ⊢
      omega
  intro l
  have h1 := h l (0, -1) 0 (by simp) (by simp)
  refine ⟨h1.1, ?_⟩
  have h2 := h1.2
  show (l.foldl stdE (0, -1)).1 ≤ _
  omega
def SteI (w wb : World) (E : List Ev) (o p i : Value) (wr : World) : Prop := ∃ k : Nat, k ≤ E.length ∧ i = .int .i64 k ∧ o = .int .i64 (stdF (E.take k)).1 ∧ p = .int .i64 (stdF (E.take k)).2 ∧ Below wb.heap.size wb wr
def LowI (wb : World) (vs : List Int) (d0 p : Int) (n : Nat) (lo k : Value) (wr : World) : Prop := ∃ j : Nat, (j : Int) ≤ n ∧ p < (j : Int) ∧ k = .int .i64 j ∧ lo = .int .i64 (cntL vs d0 p j) ∧ Below wb.heap.size wb wr
def VarI (w w0 : World) (nm : ByteArray) (A : Option Addr) (u : List Int) (ca : Nat) (B : Option Addr) (d : List Int) (cb : Nat) (hold : Int) (vs : List Int) (bl bs : Nat) (T : Sta) (va i : Value) (wr : World) : Prop :=
  ∃ k : Nat, k ≤ vs.length ∧ i = .int .i64 k ∧ va = .int .i64 (varL vs k) ∧ Below w.heap.size w wr ∧ RulAt w.heap.size nm A u.length ca B d.length cb hold wr ∧ StaAt bl T wr ∧ StaAt bs (runS u d hold ⟨0, 0, 0⟩ (vs.take k)) wr
set_option maxRecDepth 100000 in
set_option maxHeartbeats 8000000 in
theorem WarnSteady_any (nm : ByteArray) (A : Option Addr) (u : List Int) (ca : Nat) (B : Option Addr) (d : List Int) (cb : Nat) (hold : Int) (V : Option Addr) (vs : List Int) (cv : Nat) (w : World) (hA : IntsAt w A u) (hB : IntsAt w B d) (hV : IntsAt w V vs) :
    Calls Try.prog 12 #[.agg #[.string nm, .slice A u.length ca, .slice B d.length cb, .int .i64 hold], .slice V vs.length cv] w fun e w' => e = .returned (.bool true) ∧ Below w.heap.size w w' := by
  go_enter Try.func12, Try.ntmps12
  go_wp2_with (fail)
  have hb0 : Below w.heap.size w (w.alloc (.cells #[.string nm, .slice A u.length ca, .slice B d.length cb, .int .i64 hold] 24)) := below_alloc _ (Nat.le_refl _) (Below.refl _ _)
  have x0 : (w.alloc (.cells #[.string nm, .slice A u.length ca, .slice B d.length cb, .int .i64 hold] 24)).cell? ⟨w.heap.size, 0, none⟩ = some (.string nm) := cell_new (by simp) rfl
  have x1 : (w.alloc (.cells #[.string nm, .slice A u.length ca, .slice B d.length cb, .int .i64 hold] 24)).cell? ⟨w.heap.size, 1, none⟩ = some (.slice A u.length ca) := cell_new (by simp) rfl
  have x2 : (w.alloc (.cells #[.string nm, .slice A u.length ca, .slice B d.length cb, .int .i64 hold] 24)).cell? ⟨w.heap.size, 2, none⟩ = some (.slice B d.length cb) := cell_new (by simp) rfl
  have x3 : (w.alloc (.cells #[.string nm, .slice A u.length ca, .slice B d.length cb, .int .i64 hold] 24)).cell? ⟨w.heap.size, 3, none⟩ = some (.int .i64 hold) := cell_new (by simp) rfl
  have zx : w.heap.size < (w.alloc (.cells #[.string nm, .slice A u.length ca, .slice B d.length cb, .int .i64 hold] 24)).heap.size := World.block_lt_of_cell? _ _ x0
  generalize (w.alloc (.cells #[.string nm, .slice A u.length ca, .slice B d.length cb, .int .i64 hold] 24)) = w0 at *
  have hA0 := RowsAt.below hA hb0
  have hB0 := RowsAt.below hB hb0
  have hV0 := RowsAt.below hV hb0
  have HAw := Lib.hid hA
  have HBw := Lib.hid hB
  have HVw := Lib.hid hV
  clear hA hB hV
  refine (awake_any _).mono ?_
  rintro e w1 ⟨rfl, hb1⟩
  have h1 : Below w.heap.size w w1 := (hb0).trans ((hb1).mono (hb0).size)
  replace x0 := cell_below' hb1 x0
  replace x1 := cell_below' hb1 x1
  replace x2 := cell_below' hb1 x2
  replace x3 := cell_below' hb1 x3
  replace zx := Nat.lt_of_lt_of_le zx (hb1).size
  replace hA0 := RowsAt.below hA0 hb1
  replace hB0 := RowsAt.below hB0 hb1
  replace hV0 := RowsAt.below hV0 hb1
  clear hb1 hb0
  go_wp2_with (fail)
  refine (few_any nm A u ca B d cb hold _).mono ?_
  rintro e w2 ⟨rfl, hb2⟩
  have h2 : Below w.heap.size w w2 := (h1).trans ((hb2).mono (h1).size)
  replace x0 := cell_below' hb2 x0
  replace x1 := cell_below' hb2 x1
  replace x2 := cell_below' hb2 x2
  replace x3 := cell_below' hb2 x3
  replace zx := Nat.lt_of_lt_of_le zx (hb2).size
  replace hA0 := RowsAt.below hA0 hb2
  replace hB0 := RowsAt.below hB0 hb2
  replace hV0 := RowsAt.below hV0 hb2
  clear hb2 h1
  cases hf : fewB nm u d
  · clear hf
    go_wp2_with (fail)
    go_ret
    exact ⟨rfl, h2⟩
  obtain ⟨hu6, hd6, hn30⟩ := fewB_true hf
  clear hf
  go_wp2_with (fail)
  refine (RulesErr_any nm A u ca B d cb hold _ (by omega) (by omega) (by omega) hA0 hB0).mono ?_
  rintro e w3 ⟨rfl, hb3⟩
  have h3 : Below w.heap.size w w3 := (h2).trans ((hb3).mono (h2).size)
  replace x0 := cell_below' hb3 x0
  replace x1 := cell_below' hb3 x1
  replace x2 := cell_below' hb3 x2
  replace x3 := cell_below' hb3 x3
  replace zx := Nat.lt_of_lt_of_le zx (hb3).size
  replace hA0 := RowsAt.below hA0 hb3
  replace hB0 := RowsAt.below hB0 hb3
  replace hV0 := RowsAt.below hV0 hb3
  clear hb3 h2
  by_cases hC : chkRE nm u d hold = 0
  rotate_left 1
  · have e2 : (chkRE nm u d hold != 0) = true := by simpa using hC
    generalize chkRE nm u d hold = C at *
    clear hC
    go_wp2_with (fail)
    go_ret
    exact ⟨rfl, h3⟩
  have HC := Lib.hid hC
  rw [hC]
  by_cases hn60 : vs.length ≤ 60
  rotate_left 1
  · have e2 : decide ((60 : Int) < (vs.length : Int)) = true := by simp; omega
    clear hn60 hC
    go_wp2_with (fail)
    go_ret
    exact ⟨rfl, h3⟩
  have e2 : decide ((60 : Int) < (vs.length : Int)) = false := by simp; omega
  have HV1 := Lib.hid (fun W (h : IntsAt W V vs) => ValuesErr_any V vs cv W (by omega) h)
  by_cases hG1 : vlsE vs = 0
  rotate_left 1
  · have e4 : (vlsE vs != 0) = true := by simpa using hG1
    generalize vlsE vs = G1 at *
    clear hG1 hC
    go_wp2_with (go_at_call 39; refine (HV1.out _ hV0).mono ?_; rintro e w' ⟨rfl, rfl⟩)
    go_ret
    exact ⟨rfl, h3⟩
  have HG1 := Lib.hid hG1
  rw [hG1] at HV1
  clear hG1 hC
  have HO := Lib.hid (okR_of HC.out)
  have hval : valE nm u d hold vs = 0 := by rw [valE_vls, if_pos HC.out, HG1.out]
  have hq1 : evQ nm u d hold vs = (evs u d hold vs, 0) := if_pos hval
  have hq2 : okSta nm u d hold vs = runS u d hold ⟨0, 0, 0⟩ vs := if_pos hval
  have HEV := Lib.hid (fun (A' : Option Addr) (ca' : Nat) (B' : Option Addr) (cb' : Nat) (V' : Option Addr) (cv' : Nat) (W : World) (hcb' : d.length ≤ cb') (hA' : IntsAt W A' u) (hB' : IntsAt W B' d) (hV' : IntsAt W V' vs) => EventsOf_any nm A' u ca' B' d cb' hold V' vs cv' W (by omega) (by omega) (by omega) hcb' (by omega) hA' hB' hV')
  have HST := Lib.hid (fun (A' : Option Addr) (ca' : Nat) (B' : Option Addr) (cb' : Nat) (V' : Option Addr) (cv' : Nat) (W : World) (hcb' : d.length ≤ cb') (hA' : IntsAt W A' u) (hB' : IntsAt W B' d) (hV' : IntsAt W V' vs) => StateOf_v nm A' u ca' B' d cb' hold V' vs cv' W (by omega) (by omega) (by omega) hcb' (by omega) hA' hB' hV')
  rw [hq1] at HEV
  rw [hval, hq2] at HST
  clear hq1 hq2 hval
  have hinv := inv_all HO.out vs vs.length (Nat.le_refl _)
  rw [evK_end, List.take_length] at hinv
  have hgood := hinv.good
  have hver := hinv.ver
  have hbo := opens_bound HO.out vs
  have hel := evs_len u d hold vs
  have HGOOD := Lib.hid hgood
  have HVER := Lib.hid hver
  have HBO := Lib.hid hbo
  have HTT := Lib.hid (show runS u d hold ⟨0, 0, 0⟩ vs = runS u d hold ⟨0, 0, 0⟩ (vs.take vs.length) by rw [List.take_length])
  clear hinv hgood hver hbo
  generalize runS u d hold ⟨0, 0, 0⟩ vs = T at *
  generalize evs u d hold vs = E at *
  go_wp2_with (go_at_call 39; refine (HV1.out _ hV0).mono ?_; rintro e w' ⟨rfl, rfl⟩)
  refine (CopyRules_any nm A u ca B d cb hold _ (by omega) (by omega) hA0 hB0).mono ?_
  rintro e w4 ⟨A4, ca4, B4, cb4, rfl, ra, rb, hcb4, hb4⟩
  have h4 : Below w.heap.size w w4 := (h3).trans ((hb4).mono (h3).size)
  replace x0 := cell_below' hb4 x0
  replace x1 := cell_below' hb4 x1
  replace x2 := cell_below' hb4 x2
  replace x3 := cell_below' hb4 x3
  replace zx := Nat.lt_of_lt_of_le zx (hb4).size
  replace hA0 := RowsAt.below hA0 hb4
  replace hB0 := RowsAt.below hB0 hb4
  replace hV0 := RowsAt.below hV0 hb4
  clear hb4 h3
  go_wp2_with (fail)
  refine (CopyInts_any V vs cv _ (by omega) hV0).mono ?_
  rintro e w5 ⟨A5, c5, rfl, own5, hb5⟩
  replace ra := RowsAt.below ra hb5
  replace rb := RowsAt.below rb hb5
  have h5 : Below w.heap.size w w5 := (h4).trans ((hb5).mono (h4).size)
  replace x0 := cell_below' hb5 x0
  replace x1 := cell_below' hb5 x1
  replace x2 := cell_below' hb5 x2
  replace x3 := cell_below' hb5 x3
  replace zx := Nat.lt_of_lt_of_le zx (hb5).size
  replace hA0 := RowsAt.below hA0 hb5
  replace hB0 := RowsAt.below hB0 hb5
  replace hV0 := RowsAt.below hV0 hb5
  clear hb5 h4
  go_wp2_with (fail)
  refine (HEV.out A4 ca4 B4 cb4 A5 c5 _ hcb4 ra rb (rowsAt_of_own (f := intC) own5 rfl (by decide))).mono ?_
  rintro e w6 ⟨A6, c6, rfl, hE6, hb6⟩
  have h6 : Below w.heap.size w w6 := (h5).trans ((hb6).mono (h5).size)
  replace x0 := cell_below' hb6 x0
  replace x1 := cell_below' hb6 x1
  replace x2 := cell_below' hb6 x2
  replace x3 := cell_below' hb6 x3
  replace zx := Nat.lt_of_lt_of_le zx (hb6).size
  replace hA0 := RowsAt.below hA0 hb6
  replace hB0 := RowsAt.below hB0 hb6
  replace hV0 := RowsAt.below hV0 hb6
  clear hb6 h5
  clear ra rb own5 HEV
  go_wp2_with (fail)
  refine (CopyRules_any nm A u ca B d cb hold _ (by omega) (by omega) hA0 hB0).mono ?_
  rintro e w7 ⟨A7, ca7, B7, cb7, rfl, ra, rb, hcb7, hb7⟩
  replace hE6 := RowsAt.below hE6 hb7
  have h7 : Below w.heap.size w w7 := (h6).trans ((hb7).mono (h6).size)
  replace x0 := cell_below' hb7 x0
  replace x1 := cell_below' hb7 x1
  replace x2 := cell_below' hb7 x2
  replace x3 := cell_below' hb7 x3
  replace zx := Nat.lt_of_lt_of_le zx (hb7).size
  replace hA0 := RowsAt.below hA0 hb7
  replace hB0 := RowsAt.below hB0 hb7
  replace hV0 := RowsAt.below hV0 hb7
  clear hb7 h6
  go_wp2_with (fail)
  refine (CopyInts_any V vs cv _ (by omega) hV0).mono ?_
  rintro e w8 ⟨A8, c8, rfl, own8, hb8⟩
  replace ra := RowsAt.below ra hb8
  replace rb := RowsAt.below rb hb8
  replace hE6 := RowsAt.below hE6 hb8
  have h8 : Below w.heap.size w w8 := (h7).trans ((hb8).mono (h7).size)
  replace x0 := cell_below' hb8 x0
  replace x1 := cell_below' hb8 x1
  replace x2 := cell_below' hb8 x2
  replace x3 := cell_below' hb8 x3
  replace zx := Nat.lt_of_lt_of_le zx (hb8).size
  replace hA0 := RowsAt.below hA0 hb8
  replace hB0 := RowsAt.below hB0 hb8
  replace hV0 := RowsAt.below hV0 hb8
  clear hb8 h7
  go_wp2_with (fail)
  refine (HST.out A7 ca7 B7 cb7 A8 c8 _ hcb7 ra rb (rowsAt_of_own (f := intC) own8 rfl (by decide))).mono ?_
  rintro e w9 ⟨rfl, hb9⟩
  replace hE6 := RowsAt.below hE6 hb9
  have h9 : Below w.heap.size w w9 := (h8).trans ((hb9).mono (h8).size)
  replace x0 := cell_below' hb9 x0
  replace x1 := cell_below' hb9 x1
  replace x2 := cell_below' hb9 x2
  replace x3 := cell_below' hb9 x3
  replace zx := Nat.lt_of_lt_of_le zx (hb9).size
  replace hA0 := RowsAt.below hA0 hb9
  replace hB0 := RowsAt.below hB0 hb9
  replace hV0 := RowsAt.below hV0 hb9
  clear hb9 h8
  clear ra rb own8 HST
  have e5 : (T.v != (E.length : Int)) = false := by rw [HVER.out]; simp
  have e50 : decide (vs.length < E.length) = false := by simp; omega
  go_upto_region 7 with (fail)
  have hb10 : Below w9.heap.size w9 (w9.alloc (.cells #[.int .i64 T.l, .int .i64 T.b, .int .i64 T.v] 61)) := below_alloc _ (Nat.le_refl _) (Below.refl _ _)
  have y0 : (w9.alloc (.cells #[.int .i64 T.l, .int .i64 T.b, .int .i64 T.v] 61)).cell? ⟨w9.heap.size, 0, none⟩ = some (.int .i64 T.l) := cell_new (by simp) rfl
  have yf0 : (w9.alloc (.cells #[.int .i64 T.l, .int .i64 T.b, .int .i64 T.v] 61)).frozen? ⟨w9.heap.size, 0, none⟩ = false := frozen_new (by simp)
  have y1 : (w9.alloc (.cells #[.int .i64 T.l, .int .i64 T.b, .int .i64 T.v] 61)).cell? ⟨w9.heap.size, 1, none⟩ = some (.int .i64 T.b) := cell_new (by simp) rfl
  have yf1 : (w9.alloc (.cells #[.int .i64 T.l, .int .i64 T.b, .int .i64 T.v] 61)).frozen? ⟨w9.heap.size, 1, none⟩ = false := frozen_new (by simp)
  have y2 : (w9.alloc (.cells #[.int .i64 T.l, .int .i64 T.b, .int .i64 T.v] 61)).cell? ⟨w9.heap.size, 2, none⟩ = some (.int .i64 T.v) := cell_new (by simp) rfl
  have yf2 : (w9.alloc (.cells #[.int .i64 T.l, .int .i64 T.b, .int .i64 T.v] 61)).frozen? ⟨w9.heap.size, 2, none⟩ = false := frozen_new (by simp)
  have zy : w9.heap.size < (w9.alloc (.cells #[.int .i64 T.l, .int .i64 T.b, .int .i64 T.v] 61)).heap.size := World.block_lt_of_cell? _ _ y0
  generalize (w9.alloc (.cells #[.int .i64 T.l, .int .i64 T.b, .int .i64 T.v] 61)) = w10 at *
  replace hE6 := RowsAt.below hE6 hb10
  have h10 : Below w.heap.size w w10 := (h9).trans ((hb10).mono (h9).size)
  replace x0 := cell_below' hb10 x0
  replace x1 := cell_below' hb10 x1
  replace x2 := cell_below' hb10 x2
  replace x3 := cell_below' hb10 x3
  replace zx := Nat.lt_of_lt_of_le zx (hb10).size
  replace hA0 := RowsAt.below hA0 hb10
  replace hB0 := RowsAt.below hB0 hb10
  replace hV0 := RowsAt.below hV0 hb10
  clear hb10 h9
  have hst : StaAt w9.heap.size T w10 := ⟨y0, y1, y2, yf0, yf1, yf2⟩
  clear y1 yf0 yf1 yf2
  have hdl := HO.out.dl
  have hul := HO.out.n0
  have hd0 : 0 < d.length := by omega
  clear hdl
  have hd01 : (0 : Int) < (d.length : Int) := by omega
  go_wp2_with (fail)
  go_loopw [9, 10, 12] (fun o p i wr => SteI w w10 E o p i wr) (fun _ _ i _ => E.length - (intOf i).toNat)
  case atStart => exact ⟨0, Nat.zero_le _, rfl, rfl, rfl, Below.refl _ _⟩
  case round =>
    obtain ⟨i, hi, rfl, rfl, rfl, hbr⟩ := hrel
    have y0' := cell_below' hbr x0
    have x1r := cell_below' hbr x1
    have x2r := cell_below' hbr x2
    have x3r := cell_below' hbr x3
    clear y0'
    have zxr : w.heap.size < wr.heap.size := World.block_lt_of_cell? _ _ x1r
    have hEr := RowsAt.below hE6 hbr
    have hVr := RowsAt.below hV0 hbr
    have hBr := RowsAt.below hB0 hbr
    by_cases hlt : i < E.length
    · obtain ⟨hv, hix, hprev, hoke, hpm, hpi⟩ := HGOOD.out i E[i] (List.getElem?_eq_getElem hlt)
      have hnx := stdF_next hlt
      have HNX := Lib.hid hnx
      have HOKE := Lib.hid hoke
      clear hnx hoke
      obtain ⟨b1, o1, rfl, hb1', c0, c1, c2, c3⟩ := EvsAt.at_ hEr hlt
      have hi1 : (i : Int) < (E.length : Int) := by omega
      have q0 : IntKind.i64.wrap (i : Int) = (i : Int) := IntWalk.i64_in _ (by omega)
      have q1 : IntKind.i64.wrap ((i : Int) + 1) = (i : Int) + 1 := IntWalk.i64_in _ (by omega)
      have q2 : IntKind.i64.wrap ((vs.length : Int) - 1) = (vs.length : Int) - 1 := IntWalk.i64_in _ (by omega)
      have hwi : withinB (E[i].i : Int) 0 ((vs.length : Int) - 1) = true := withinB_true.2 ⟨by omega, by omega⟩
      have e6 : (E[i].v != (i : Int) + 1) = false := by rw [hv]; simp
      go_upto_region 13 with (fail)
      generalize hEi : E[i] = ev at *
      have HEI := Lib.hid hEi
      clear hEi hv
      go_cut [120] from 83 to 119 (fun s wx => s = .bool false ∧ Below wr.heap.size wr wx)
      case first =>
        by_cases hi0 : i = 0
        · have e7 : decide ((0 : Int) < (i : Int)) = false := by simp [hi0]
          have e7n : decide (0 < i) = false := by simp [hi0]
          clear hprev hi0
          (refine region_extx 37 (by kernel_rfl) (by kernel_rfl) fun hx => ?_; simp only [List.take_succ_cons, List.take_zero, List.drop_succ_cons, List.drop_zero]; (repeat (any_goals (first | go_big_quiet_step (((go_at_call 22; exact ext_same (Within_any _ _ _ _)))) | quiet_step (((go_at_call 22; exact ext_same (Within_any _ _ _ _))))))))
          (refine wpQuiet_nil ?_; clear hx; intro u; have hbw12 := ext_bel _ u; have hxw12 := ext_cell _ u; generalize ext _ u = w12 at *; clear u; have hsw12 := hbw12.size; (try simp at hsw12))
          go_wp2_with (fail)
          go_meet
          case rel => exact ⟨rfl, hbw12⟩
        · have e7 : decide ((0 : Int) < (i : Int)) = true := by simp; omega
          have e7n : decide (0 < i) = true := by simp; omega
          have hlt1 : i - 1 < E.length := by omega
          have hpv := hprev E[i - 1] (by omega) (List.getElem?_eq_getElem hlt1)
          obtain ⟨b3, o3, e3, hb3', d0, -, -, -⟩ := EvsAt.at_ hEr hlt1
          injection e3 with e3
          injection e3 with e3 e4 e5'
          subst e3 e4
          have q3 : IntKind.i64.wrap ((i : Int) - 1) = (i : Int) - 1 := IntWalk.i64_in _ (by omega)
          have q4 : ((i : Int) - 1).toNat = i - 1 := by omega
          have q5 : (1 : Int) ≤ (i : Int) := by omega
          have q6 : (i : Int) - 1 < (E.length : Int) := by omega
          generalize E[i - 1] = ew at *
          have e8 : decide (ev.i ≤ ew.i) = false := by simp; omega
          have e8n : decide ((ev.i : Int) ≤ (ew.i : Int)) = false := by simp; omega
          clear hprev hi0 e5'
          (refine region_extx 37 (by kernel_rfl) (by kernel_rfl) fun hx => ?_; simp only [List.take_succ_cons, List.take_zero, List.drop_succ_cons, List.drop_zero]; (repeat (any_goals (first | go_big_quiet_step (((go_at_call 22; exact ext_same (Within_any _ _ _ _)))) | quiet_step (((go_at_call 22; exact ext_same (Within_any _ _ _ _))))))))
          (refine wpQuiet_nil ?_; clear hx; intro u; have hbw12 := ext_bel _ u; have hxw12 := ext_cell _ u; generalize ext _ u = w12 at *; clear u; have hsw12 := hbw12.size; (try simp at hsw12))
          go_wp2_with (fail)
          go_meet
          case rel => exact ⟨rfl, hbw12⟩
      case rest =>
        obtain ⟨rfl, hbc⟩ := hcut
        have hbr2 := hbr.trans (hbc.mono hbr.size)
        have hmb := stdF_bd (E.take i)
        rw [List.length_take] at hmb
        have hm60 : (stdF (E.take i)).1 ≤ 60 := by omega
        have hm0 := hmb.1
        clear hmb hEr hVr hBr e6 hwi q2
        replace c0 := cell_below' hbc c0
        replace c1 := cell_below' hbc c1
        replace c2 := cell_below' hbc c2
        replace c3 := cell_below' hbc c3
        replace x1r := cell_below' hbc x1r
        replace x2r := cell_below' hbc x2r
        replace x3r := cell_below' hbc x3r
        replace zxr : w.heap.size < wc.heap.size := World.block_lt_of_cell? _ _ x1r
        by_cases hk0 : ev.k = 0
        rotate_left 1
        · have e9 : (ev.k != 0) = true := by simpa using hk0
          have hne : stdE (stdF (E.take i)) ev = stdF (E.take i) := by unfold stdE; rw [if_neg hk0]
          have HNE := Lib.hid hne
          clear hk0 hne
          go_wp2_with (fail)
          go_roundw
          case rel => exact ⟨i + 1, by omega, by go_num, by rw [HNX.out, HNE.out], by rw [HNX.out, HNE.out], hbr2⟩
          case measure => simp [intOf]; omega
        have e9 : (ev.k != 0) = false := by simpa using hk0
        have hne : stdE (stdF (E.take i)) ev = ((stdF (E.take i)).1 + 1, (ev.i : Int)) := by unfold stdE; rw [if_pos hk0]
        have hok2 := HOKE.out hk0
        have HNE := Lib.hid hne
        have HOK2 := Lib.hid hok2
        clear hk0 hne hok2 HOKE
        generalize (stdF (E.take i)).1 = m at *
        generalize (stdF (E.take i)).2 = p at *
        obtain ⟨j0, hj0⟩ : ∃ j0 : Nat, p + 1 = j0 := ⟨(p + 1).toNat, by omega⟩
        have HJ0 := Lib.hid hj0
        clear hj0
        go_wp2_with (fail)
        go_loopw [13, 14] (fun lo k wr => LowI wc vs (gt d 0) p ev.i lo k wr) (fun _ k _ => ev.i + 1 - (intOf k).toNat)
        case atStart =>
          have := HJ0.out
          exact ⟨j0, by omega, by omega, by rw [HJ0.out], by rw [cntL_none _ _ _ _ (by omega)], Below.refl _ _⟩
        case round =>
          obtain ⟨j, hj1, hj2, rfl, rfl, hbi⟩ := hrel
          have hbi2 := hbr2.trans (hbi.mono hbr2.size)
          replace c0 := cell_below' hbi c0
          replace c1 := cell_below' hbi c1
          replace x1r := cell_below' hbi x1r
          replace x2r := cell_below' hbi x2r
          replace x3r := cell_below' hbi x3r
          replace zxr : w.heap.size < wr.heap.size := World.block_lt_of_cell? _ _ x1r
          have hcb := cntL_bd vs (gt d 0) p j
          by_cases hlt2 : j < ev.i
          · have hjv : j < vs.length := by omega
            obtain ⟨b4, o4, rfl, hb4', g0⟩ := IntsAt.at_ (RowsAt.below hV0 hbi2) hjv
            obtain ⟨b5, o5, rfl, hb5', g1⟩ := IntsAt.at_ (RowsAt.below hB0 hbi2) hd0
            rw [gt_get hjv] at g0
            rw [gt_get hd0, Nat.add_zero] at g1
            have hjv1 : (j : Int) < (vs.length : Int) := by omega
            have hcs := cntL_succ vs (gt d 0) p j
            by_cases hx : gt vs j < gt d 0
            · rw [if_pos ⟨hj2, hx⟩] at hcs
              have HCS := Lib.hid hcs
              have e10 : decide (gt vs j < gt d 0) = true := by simpa using hx
              clear hcs hx
              generalize gt vs j = xv at *
              generalize hgd : gt d 0 = yv at *
              generalize cntL vs yv p j = cc at *
              go_wp2_with (fail)
              go_quiet (fail)
              go_wp2_with (fail)
              go_roundw
              case rel => exact ⟨j + 1, by omega, by omega, by go_num, by rw [HCS.out], (by repeat (first | assumption | exact Below.refl _ _ | refine Below.drew ?_ | (refine below_alloc _ ?_ ?_; focus (first | omega | (simp; done) | (simp; omega) | (simp at *; omega))) | (refine below_set _ ?_ ?_; focus (first | omega | (simp; done) | (simp; omega) | (simp at *; omega))) | refine below_drewN ?_ _ | (refine below_call (by assumption) ?_ ?_; focus (first | omega | (simp; done) | (simp; omega) | (simp at *; omega))) | (refine below_call' (by assumption) ?_ ?_; focus (first | omega | (simp; done) | (simp; omega) | (simp at *; omega)))))⟩
              case measure => simp [intOf]; omega
            · rw [if_neg (fun h => hx h.2), Int.add_zero] at hcs
              have HCS := Lib.hid hcs
              have e10 : decide (gt vs j < gt d 0) = false := by simpa using hx
              clear hcs hx
              generalize gt vs j = xv at *
              generalize hgd : gt d 0 = yv at *
              generalize cntL vs yv p j = cc at *
              go_wp2_with (fail)
              go_quiet (fail)
              go_wp2_with (fail)
              go_roundw
              case rel => exact ⟨j + 1, by omega, by omega, by go_num, by rw [HCS.out], (by repeat (first | assumption | exact Below.refl _ _ | refine Below.drew ?_ | (refine below_alloc _ ?_ ?_; focus (first | omega | (simp; done) | (simp; omega) | (simp at *; omega))) | (refine below_set _ ?_ ?_; focus (first | omega | (simp; done) | (simp; omega) | (simp at *; omega))) | refine below_drewN ?_ _ | (refine below_call (by assumption) ?_ ?_; focus (first | omega | (simp; done) | (simp; omega) | (simp at *; omega))) | (refine below_call' (by assumption) ?_ ?_; focus (first | omega | (simp; done) | (simp; omega) | (simp at *; omega)))))⟩
              case measure => simp [intOf]; omega
          · obtain rfl : j = ev.i := by omega
            have hfin : ∃ wx : World, wx = wr := ⟨_, rfl⟩
            by_cases hp0 : 0 ≤ p
            · obtain ⟨hlo1, hlo2⟩ := HOK2.out hp0
              have e10 : decide (0 ≤ p) = true := by simpa using hp0
              generalize cntL vs (gt d 0) p ev.i = cc at *
              have e11 : (cc == 0) = false := by simp only [beq_eq_false_iff_ne]; omega
              by_cases hu1 : u.length = 1
              · have hlo3 := hlo2 hu1
                have e12 : ((u.length : Int) == 1) = true := by simp [hu1]
                have e13 : decide (cc < hold) = false := by simp; omega
                clear hu1 hlo2 hfin HOK2
                go_wp2_with (fail)
                go_roundw
                case rel => exact ⟨i + 1, by omega, by go_num, by rw [HNX.out, HNE.out], by rw [HNX.out, HNE.out], hbi2⟩
                case measure => simp [intOf]; omega
              · have e12 : ((u.length : Int) == 1) = false := by simp only [beq_eq_false_iff_ne]; omega
                clear hu1 hlo2 hfin HOK2
                go_wp2_with (fail)
                go_roundw
                case rel => exact ⟨i + 1, by omega, by go_num, by rw [HNX.out, HNE.out], by rw [HNX.out, HNE.out], hbi2⟩
                case measure => simp [intOf]; omega
            · have e10 : decide (0 ≤ p) = false := by simpa using hp0
              clear hp0 hfin HOK2
              go_wp2_with (fail)
              go_roundw
              case rel => exact ⟨i + 1, by omega, by go_num, by rw [HNX.out, HNE.out], by rw [HNX.out, HNE.out], hbi2⟩
              case measure => simp [intOf]; omega
    · obtain rfl : i = E.length := by omega
      obtain ⟨wo, hwo⟩ : ∃ wo : World, wo = wr := ⟨_, rfl⟩
      subst hwo
      rw [List.take_length]
      have hmb := stdF_bd E
      have HBO2 := Lib.hid HBO.out
      generalize (stdF E).1 = m at *
      generalize (stdF E).2 = p at *
      have hstr := hst.below hbr
      have hbwr := h10.trans (hbr.mono h10.size)
      clear hVr hBr hEr hE6 hi hlt HGOOD HVER e5
      go_wp2_with (fail)
      have hb11 : Below wo.heap.size wo (wo.alloc (.cells #[.int .i64 0, .int .i64 0, .int .i64 0] 61)) := below_alloc _ (Nat.le_refl _) (Below.refl _ _)
      have s0 : (wo.alloc (.cells #[.int .i64 0, .int .i64 0, .int .i64 0] 61)).cell? ⟨wo.heap.size, 0, none⟩ = some (.int .i64 0) := cell_new (by simp) rfl
      have sf0 : (wo.alloc (.cells #[.int .i64 0, .int .i64 0, .int .i64 0] 61)).frozen? ⟨wo.heap.size, 0, none⟩ = false := frozen_new (by simp)
      have s1 : (wo.alloc (.cells #[.int .i64 0, .int .i64 0, .int .i64 0] 61)).cell? ⟨wo.heap.size, 1, none⟩ = some (.int .i64 0) := cell_new (by simp) rfl
      have sf1 : (wo.alloc (.cells #[.int .i64 0, .int .i64 0, .int .i64 0] 61)).frozen? ⟨wo.heap.size, 1, none⟩ = false := frozen_new (by simp)
      have s2 : (wo.alloc (.cells #[.int .i64 0, .int .i64 0, .int .i64 0] 61)).cell? ⟨wo.heap.size, 2, none⟩ = some (.int .i64 0) := cell_new (by simp) rfl
      have sf2 : (wo.alloc (.cells #[.int .i64 0, .int .i64 0, .int .i64 0] 61)).frozen? ⟨wo.heap.size, 2, none⟩ = false := frozen_new (by simp)
      have zs : wo.heap.size < (wo.alloc (.cells #[.int .i64 0, .int .i64 0, .int .i64 0] 61)).heap.size := World.block_lt_of_cell? _ _ s0
      generalize (wo.alloc (.cells #[.int .i64 0, .int .i64 0, .int .i64 0] 61)) = w11 at *
      have hI0 : VarI w w0 nm A u ca B d cb hold vs w9.heap.size wo.heap.size T (.int .i64 0) (.int .i64 0) w11 :=
        ⟨0, Nat.zero_le _, rfl, rfl, hbwr.trans (hb11.mono hbwr.size), ⟨cell_below' hb11 (cell_below' hbr x0), cell_below' hb11 x1r, cell_below' hb11 x2r, cell_below' hb11 x3r⟩, hstr.below hb11, ⟨s0, s1, s2, sf0, sf1, sf2⟩⟩
      have hsl : w9.heap.size < wo.heap.size := hstr.lt
      have hsx : w.heap.size < wo.heap.size := zxr
      clear s0 s1 s2 sf0 sf1 sf2 zs x1r x2r x3r zxr hstr hst x0 x1 x2 x3 zx y0 y2
      go_wp2_with (fail)
      go_loopw [11, 16] (fun va i wr => VarI w w0 nm A u ca B d cb hold vs w9.heap.size wo.heap.size T va i wr) (fun _ i _ => vs.length - (intOf i).toNat)
      case atStart => exact hI0
      case round =>
        obtain ⟨i, hi, rfl, rfl, hbw, hru, hla, hss⟩ := hrel
        have hvb := varL_bd vs i
        have hvl := varL_le vs (gt_val (vlsE_ok HG1.out).2) i (by omega)
        obtain ⟨x0, x1, x2, x3⟩ := id hru
        have zx := hru.lt
        by_cases hlt : i < vs.length
        · obtain ⟨hE, hS⟩ := stpE_run HO.out HC.out vs (vlsE_ok HG1.out).2 (by omega) i hlt
          have hvs := varL_succ vs i
          have hxv := gt_val (vlsE_ok HG1.out).2 i hlt
          rw [gt_get hlt] at hE hS
          obtain ⟨b4, o4, rfl, hb4', g0⟩ := IntsAt.at_ (RowsAt.below HVw.out hbw) hlt
          rw [gt_get hlt] at g0
          have hA1 := RowsAt.below HAw.out hbw
          have hB1 := RowsAt.below HBw.out hbw
          have hi1 : (i : Int) < (vs.length : Int) := by omega
          generalize hT2 : runS u d hold ⟨0, 0, 0⟩ (vs.take (i + 1)) = T2 at *
          generalize runS u d hold ⟨0, 0, 0⟩ (vs.take i) = S at *
          obtain ⟨l, b, v⟩ := S
          have HT2 := Lib.hid hT2
          have HSO := Lib.hid (fun (A' : Option Addr) (ca' : Nat) (B' : Option Addr) (cb' : Nat) (W : World) (hcb' : d.length ≤ cb') (hA' : IntsAt W A' u) (hB' : IntsAt W B' d) => StepOf_any nm A' u ca' B' d cb' hold l b v (gt vs i) W (by omega) (by omega) (by omega) hcb' hA' hB')
          rw [hE, hS] at HSO
          have HVS := Lib.hid hvs
          clear hT2 hE hS hvs
          obtain ⟨s0, s1, s2, sf0, sf1, sf2⟩ := id hss
          have zs := hss.lt
          obtain ⟨bb, e7n⟩ : ∃ bb, decide (0 < i) = bb := ⟨_, rfl⟩
          have e7 : decide ((0 : Int) < (i : Int)) = bb := by rw [← e7n]; simp
          go_upto_if 181 with (fail)
          go_cut [11] from 182 to 194 (fun s wx => s = .int .i64 (varL vs (i + 1)) ∧ Below wr.heap.size wr wx)
          case first =>
            cases bb
            · have hi0 : i = 0 := by simp at e7n; omega
              have hvv := HVS.out.trans (show varL vs i + (if i = 0 then 0 else sizeI (gt vs i - gt vs (i - 1))) = varL vs i by rw [if_pos hi0, Int.add_zero])
              have HVV := Lib.hid hvv
              clear hvv hi0
              go_wp2_with (fail)
              go_meet
              case rel => exact ⟨by rw [HVV.out], Below.refl _ _⟩
            · have hi0 : i ≠ 0 := by simp at e7n; omega
              have hvv := HVS.out.trans (show varL vs i + (if i = 0 then 0 else sizeI (gt vs i - gt vs (i - 1))) = varL vs i + sizeI (gt vs i - gt vs (i - 1)) by rw [if_neg hi0])
              have HVV := Lib.hid hvv
              have hlt1 : i - 1 < vs.length := by omega
              have hyv := gt_val (vlsE_ok HG1.out).2 (i - 1) hlt1
              obtain ⟨b6, o6, e6, hb6', g2⟩ := IntsAt.at_ (RowsAt.below HVw.out hbw) hlt1
              rw [gt_get hlt1] at g2
              injection e6 with e6
              injection e6 with e3 e4 e5'
              subst e3 e4
              have q3 : IntKind.i64.wrap ((i : Int) - 1) = (i : Int) - 1 := IntWalk.i64_in _ (by omega)
              have q4 : ((i : Int) - 1).toNat = i - 1 := by omega
              have q5 : (1 : Int) ≤ (i : Int) := by omega
              have q6 : (i : Int) - 1 < (vs.length : Int) := by omega
              generalize gt vs i = xv at *
              generalize gt vs (i - 1) = yv at *
              have hsz := sizeI_bd (xv - yv)
              have hszu : sizeI (xv - yv) ≤ 2000000 := by unfold sizeI; split <;> omega
              have q7 : IntKind.i64.wrap (xv - yv) = xv - yv := IntWalk.i64_in _ (by omega)
              have q8 : IntKind.i64.wrap (varL vs i + sizeI (xv - yv)) = varL vs i + sizeI (xv - yv) := IntWalk.i64_in _ (by omega)
              have HSZ := Lib.hid (fun W => Size_any (xv - yv) W (by omega) (by omega))
              clear hvv hi0 e5' hsz
              generalize sizeI (xv - yv) = z at *
              go_wp2_with (fail)
              (refine region_extx 13 (by kernel_rfl) (by kernel_rfl) fun hx => ?_; simp only [List.take_succ_cons, List.take_zero, List.drop_succ_cons, List.drop_zero]; (repeat (any_goals (first | go_big_quiet_step (((go_at_call 61; exact ext_same (HSZ.out _)))) | quiet_step (((go_at_call 61; exact ext_same (HSZ.out _))))))))
              (refine wpQuiet_nil ?_; clear hx; intro u; have hbw12 := ext_bel _ u; have hxw12 := ext_cell _ u; generalize ext _ u = w12 at *; clear u; have hsw12 := hbw12.size; (try simp at hsw12))
              go_wp2_with (fail)
              go_meet
              case rel => exact ⟨by rw [HVV.out], hbw12⟩
          case rest =>
          clear e7 e7n
          obtain ⟨rfl, hbc⟩ := hcut
          obtain ⟨wd, hwd⟩ : ∃ wd : World, wd = wc := ⟨_, rfl⟩
          subst hwd
          replace g0 := cell_below' hbc g0
          replace hA1 := RowsAt.below hA1 hbc
          replace hB1 := RowsAt.below hB1 hbc
          replace hru := hru.below hbc
          replace hla := hla.below hbc
          replace hss := hss.below hbc
          replace hbw := hbw.trans (hbc.mono hbw.size)
          obtain ⟨x0, x1, x2, x3⟩ := id hru
          replace zx := hru.lt
          obtain ⟨s0, s1, s2, sf0, sf1, sf2⟩ := id hss
          replace zs := hss.lt
          have hzb : b4 < wd.heap.size := World.block_lt_of_cell? _ _ g0
          clear HVS hbc hxv
          generalize gt vs i = xv at *
          go_upto_region 32 with (fail)
          go_cut [17, 18] from 195 to 205 (fun s e wx => ∃ nb, s = .pointer (some ⟨nb, 0, none⟩) ∧ e = .int .i64 0 ∧ Below wd.heap.size wd wx ∧ wx.cell? ⟨nb, 0, none⟩ = some (.int .i64 T2.l) ∧ wx.cell? ⟨nb, 1, none⟩ = some (.int .i64 T2.b) ∧ wx.cell? ⟨nb, 2, none⟩ = some (.int .i64 T2.v))
          case first =>
            go_region_held3 (fun w' => w'.cell? ⟨w.heap.size, 0, none⟩ = some (.string nm) ∧ w'.cell? ⟨w.heap.size, 1, none⟩ = some (.slice A u.length ca) ∧ w'.cell? ⟨w.heap.size, 2, none⟩ = some (.slice B d.length cb) ∧ w'.cell? ⟨w.heap.size, 3, none⟩ = some (.int .i64 hold) ∧ w'.cell? ⟨wo.heap.size, 0, none⟩ = some (.int .i64 l) ∧ w'.cell? ⟨wo.heap.size, 1, none⟩ = some (.int .i64 b) ∧ w'.cell? ⟨wo.heap.size, 2, none⟩ = some (.int .i64 v) ∧ w'.cell? ⟨b4, o4 + i, none⟩ = some (.int .i64 xv))
              ((((try go_split_ands); (repeat' (apply And.intro)) <;> (repeat (first | (with_reducible assumption) | (with_reducible refine cell_drew ?_) | (with_reducible refine cell_alloc _ ?_) | (with_reducible refine cell_below' (by with_reducible assumption) ?_) | (with_reducible refine cell_far ?_ ?_; focus (first | omega | (simp; omega) | (simp; done))))))))
              (first
                | (go_at_call 18; ((with_reducible refine (CopyRules_any nm A u ca B d cb hold _ (by omega) (by omega) ?_ ?_).mono ?_); (focus (exact RowsAt.below hA1 (by repeat (first | assumption | exact Below.refl _ _ | refine Below.drew ?_ | (refine below_alloc _ ?_ ?_; focus (first | omega | (simp; done) | (simp; omega) | (simp at *; omega))) | (refine below_set _ ?_ ?_; focus (first | omega | (simp; done) | (simp; omega) | (simp at *; omega))) | refine below_drewN ?_ _ | (refine below_call (by assumption) ?_ ?_; focus (first | omega | (simp; done) | (simp; omega) | (simp at *; omega))) | (refine below_call' (by assumption) ?_ ?_; focus (first | omega | (simp; done) | (simp; omega) | (simp at *; omega))))))); (focus (exact RowsAt.below hB1 (by repeat (first | assumption | exact Below.refl _ _ | refine Below.drew ?_ | (refine below_alloc _ ?_ ?_; focus (first | omega | (simp; done) | (simp; omega) | (simp at *; omega))) | (refine below_set _ ?_ ?_; focus (first | omega | (simp; done) | (simp; omega) | (simp at *; omega))) | refine below_drewN ?_ _ | (refine below_call (by assumption) ?_ ?_; focus (first | omega | (simp; done) | (simp; omega) | (simp at *; omega))) | (refine below_call' (by assumption) ?_ ?_; focus (first | omega | (simp; done) | (simp; omega) | (simp at *; omega))))))); rintro e w13 ⟨A3, ca3, B3, cb3, rfl, ra, rb, hcb3, hb3⟩; have hy3 : Below wd.heap.size wd w13 := (by first | exact ((Below.refl _ wd).drew).trans hb3 | exact (below_alloc _ (Nat.le_refl _) ((Below.refl _ wd).drew)).trans (hb3.mono (by simp; try omega))); have hs3 := hb3.size; (try simp at hs3); (try have n0 : World.cell? w13 ⟨(wd).heap.size, 0, none⟩ = some (.int .i64 0) := cell_below' hb3 (cell_new (by simp) rfl)); (try have n1 : World.cell? w13 ⟨(wd).heap.size, 1, none⟩ = some (.int .i64 0) := cell_below' hb3 (cell_new (by simp) rfl)); (try have n2 : World.cell? w13 ⟨(wd).heap.size, 2, none⟩ = some (.int .i64 0) := cell_below' hb3 (cell_new (by simp) rfl)); (try have nf0 : World.frozen? w13 ⟨(wd).heap.size, 0, none⟩ = false := frozen_below hb3 (by simp) (frozen_new (by simp))); (try have nf1 : World.frozen? w13 ⟨(wd).heap.size, 1, none⟩ = false := frozen_below hb3 (by simp) (frozen_new (by simp))); (try have nf2 : World.frozen? w13 ⟨(wd).heap.size, 2, none⟩ = false := frozen_below hb3 (by simp) (frozen_new (by simp)))))
                | (go_at_call 43; ((with_reducible refine (HSO.out A3 ca3 B3 cb3 _ hcb3 ?_ ?_).mono ?_); (focus (exact RowsAt.below ra (by repeat (first | assumption | exact Below.refl _ _ | refine Below.drew ?_ | (refine below_alloc _ ?_ ?_; focus (first | omega | (simp; done) | (simp; omega) | (simp at *; omega))) | (refine below_set _ ?_ ?_; focus (first | omega | (simp; done) | (simp; omega) | (simp at *; omega))) | refine below_drewN ?_ _ | (refine below_call (by assumption) ?_ ?_; focus (first | omega | (simp; done) | (simp; omega) | (simp at *; omega))) | (refine below_call' (by assumption) ?_ ?_; focus (first | omega | (simp; done) | (simp; omega) | (simp at *; omega))))))); (focus (exact RowsAt.below rb (by repeat (first | assumption | exact Below.refl _ _ | refine Below.drew ?_ | (refine below_alloc _ ?_ ?_; focus (first | omega | (simp; done) | (simp; omega) | (simp at *; omega))) | (refine below_set _ ?_ ?_; focus (first | omega | (simp; done) | (simp; omega) | (simp at *; omega))) | refine below_drewN ?_ _ | (refine below_call (by assumption) ?_ ?_; focus (first | omega | (simp; done) | (simp; omega) | (simp at *; omega))) | (refine below_call' (by assumption) ?_ ?_; focus (first | omega | (simp; done) | (simp; omega) | (simp at *; omega))))))); rintro e w14 ⟨rfl, hb4⟩; have hy4 : Below wd.heap.size wd w14 := (by first | exact hy3.trans (hb4.mono hy3.size) | exact (below_alloc _ (Nat.le_refl _) hy3).trans (hb4.mono (by have := hy3.size; simp; omega))); have hs4 := hb4.size; (try simp at hs4); (try replace nf0 := frozen_below hb4 (World.block_lt_of_cell? _ _ n0) nf0); (try replace nf1 := frozen_below hb4 (World.block_lt_of_cell? _ _ n1) nf1); (try replace nf2 := frozen_below hb4 (World.block_lt_of_cell? _ _ n2) nf2); (try replace n0 := cell_below' hb4 n0); (try replace n1 := cell_below' hb4 n1); (try replace n2 := cell_below' hb4 n2); (try have n0 : World.cell? w14 ⟨(w13).heap.size, 0, none⟩ = some (.int .i64 0) := cell_below' hb4 (cell_new (by simp) rfl)); (try have n1 : World.cell? w14 ⟨(w13).heap.size, 1, none⟩ = some (.int .i64 0) := cell_below' hb4 (cell_new (by simp) rfl)); (try have n2 : World.cell? w14 ⟨(w13).heap.size, 2, none⟩ = some (.int .i64 0) := cell_below' hb4 (cell_new (by simp) rfl)); (try have nf0 : World.frozen? w14 ⟨(w13).heap.size, 0, none⟩ = false := frozen_below hb4 (by simp) (frozen_new (by simp))); (try have nf1 : World.frozen? w14 ⟨(w13).heap.size, 1, none⟩ = false := frozen_below hb4 (by simp) (frozen_new (by simp))); (try have nf2 : World.frozen? w14 ⟨(w13).heap.size, 2, none⟩ = false := frozen_below hb4 (by simp) (frozen_new (by simp))))))
            all_goals
              go_wp2_with (fail)
              go_meet
              first
                | exact ⟨_, rfl, rfl, below_alloc _ (Nat.le_refl _) hy4, cell_new rfl rfl, cell_new rfl rfl, cell_new rfl rfl⟩
                | exact ⟨_, rfl, rfl, below_set _ (by simp; try omega) (below_set _ (by simp; try omega) (below_set _ (by simp; try omega) hy4)), (set3 n0 n1 n2).1, (set3 n0 n1 n2).2.1, (set3 n0 n1 n2).2.2⟩
          case rest =>
          obtain ⟨nb, rfl, rfl, hbc, r0, r1, r2⟩ := hcut
          replace hru := hru.below hbc
          replace hla := hla.below hbc
          replace hss := hss.below hbc
          replace hbw := hbw.trans (hbc.mono hbw.size)
          obtain ⟨s0, s1, s2, sf0, sf1, sf2⟩ := id hss
          replace zs := hss.lt
          have zr : nb < wc.heap.size := World.block_lt_of_cell? _ _ r0
          clear HSO hA1 hB1 g0 x0 x1 x2 x3 zx hzb
          have hn1 : wo.heap.size ≠ w.heap.size := by omega
          have hn2 : wo.heap.size ≠ w9.heap.size := by omega
          have hn3 : w.heap.size ≤ wo.heap.size := hbwr.size
          go_wp2_with (fail)
          go_roundw
          case rel => exact ⟨i + 1, by omega, by go_num, rfl, below_set _ hn3 (below_set _ hn3 (below_set _ hn3 hbw)), ((hru.far hn1).far hn1).far hn1, ((hla.far hn2).far hn2).far hn2, by rw [HT2.out]; exact StaAt.put hss⟩
          case measure => simp [intOf]; omega
        · obtain rfl : i = vs.length := by omega
          rw [← HTT.out] at hss
          have hA1 := RowsAt.below HAw.out hbw
          have hB1 := RowsAt.below HBw.out hbw
          have hoE : opE nm u d hold (varL vs vs.length) = 0 := by
            unfold opE
            rw [HC.out, firstE_z, show withinB (varL vs vs.length) 0 1000000000 = true from withinB_true.2 ⟨hvb, by omega⟩]
            rfl
          have hoV : opV nm u d hold (varL vs vs.length) = oB u d (varL vs vs.length) := by
            unfold opV
            rw [if_pos hoE]
          have HOP := Lib.hid (fun (A' : Option Addr) (ca' : Nat) (B' : Option Addr) (cb' : Nat) (W : World) (hA' : IntsAt W A' u) (hB' : IntsAt W B' d) => Openings_v nm A' u ca' B' d cb' hold (varL vs vs.length) W (by omega) (by omega) (by omega) hA' hB')
          rw [hoE, hoV] at HOP
          have hle := HBO2.out
          clear hoE hoV HTT
          generalize oB u d (varL vs vs.length) = bo at *
          generalize varL vs vs.length = va at *
          have e20 : decide (m ≤ bo) = true := by simpa using hle
          have t0 : (T.l == T.l) = true := by simp
          have t1 : (T.b == T.b) = true := by simp
          have t2 : (T.v == T.v) = true := by simp
          go_wp2_with (fail)
          refine (CopyRules_any nm A u ca B d cb hold _ (by omega) (by omega) hA1 hB1).mono ?_
          rintro e w15 ⟨A15, ca15, B15, cb15, rfl, ra, rb, -, hb15⟩
          replace hss := hss.below hb15
          replace hla := hla.below hb15
          replace hbw := hbw.trans (hb15.mono hbw.size)
          go_wp2_with (fail)
          refine (HOP.out A15 ca15 B15 cb15 _ ra rb).mono ?_
          rintro e w16 ⟨rfl, hb16⟩
          replace hss := hss.below hb16
          replace hla := hla.below hb16
          replace hbw := hbw.trans (hb16.mono hbw.size)
          obtain ⟨s0, s1, s2, -, -, -⟩ := id hss
          obtain ⟨l0, l1, l2, -, -, -⟩ := id hla
          have zs := hss.lt
          have zl := hla.lt
          clear hru x0 x1 x2 x3 zx ra rb hb15 hb16 HOP
          go_wp2_with (fail)
          go_ret
          exact ⟨rfl, hbw⟩
end Go.Proofs.Ytcfbnmcdncndpaa
