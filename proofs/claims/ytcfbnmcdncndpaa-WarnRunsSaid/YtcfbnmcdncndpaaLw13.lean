/-
  WarnStores: the walk.
-/
import Derived.Test.YtcfbnmcdncndpaaWNew
import Derived.Test.YtcfbnmcdncndpaaWAwk
import Derived.Deep.RegionHeld3
namespace Go.Proofs.Ytcfbnmcdncndpaa
open Go.ChangeShapes Go.WideShapes Go.ChangeAt Go.RowKit
set_option linter.unusedVariables false
set_option linter.unusedSimpArgs false

theorem newGo_len : ∀ (l o : List Msg) (i : Nat), o.length ≤ 30 → (newGo l o i).1.length ≤ 30
  | [], o, i, h => h
  | m :: r, o, i, h => by
    unfold newGo
    split
    · exact newGo_len r _ _ (recv_len h)
    · simp
theorem newest_len (l : List Msg) : (newest l).1.length ≤ 30 := by
  unfold newest
  split
  · simp
  · exact newGo_len l [] 0 (by simp)
theorem rcv_len (l : List Msg) (m : Msg) (h : l.length ≤ 30) : (rcv l m).1.length ≤ 30 := by
  unfold rcv
  split
  · exact recv_len h
  · simp
set_option maxRecDepth 100000 in
set_option maxHeartbeats 4000000 in
theorem WarnStores_any (A : Option Addr) (l : List Msg) (ca : Nat) (m : Msg) (B : Option Addr) (al : List Msg) (cb : Nat) (w : World) (hA : MsgsAt w A l) (hB : MsgsAt w B al) :
    Calls Try.prog 13 #[.slice A l.length ca, .agg #[.string m.s, .int .i64 m.v, .int .i64 m.l], .slice B al.length cb] w fun e w' => e = .returned (.bool true) ∧ Below w.heap.size w w' := by
  go_enter Try.func13, Try.ntmps13
  go_wp2_with (fail)
  have hb0 : Below w.heap.size w (w.alloc (.cells #[.string m.s, .int .i64 m.v, .int .i64 m.l] 45)) := below_alloc _ (Nat.le_refl _) (Below.refl _ _)
  have x0 : (w.alloc (.cells #[.string m.s, .int .i64 m.v, .int .i64 m.l] 45)).cell? ⟨w.heap.size, 0, none⟩ = some (.string m.s) := cell_new (by simp) rfl
  have x1 : (w.alloc (.cells #[.string m.s, .int .i64 m.v, .int .i64 m.l] 45)).cell? ⟨w.heap.size, 1, none⟩ = some (.int .i64 m.v) := cell_new (by simp) rfl
  have x2 : (w.alloc (.cells #[.string m.s, .int .i64 m.v, .int .i64 m.l] 45)).cell? ⟨w.heap.size, 2, none⟩ = some (.int .i64 m.l) := cell_new (by simp) rfl
  have zx : w.heap.size < (w.alloc (.cells #[.string m.s, .int .i64 m.v, .int .i64 m.l] 45)).heap.size := World.block_lt_of_cell? _ _ x0
  generalize (w.alloc (.cells #[.string m.s, .int .i64 m.v, .int .i64 m.l] 45)) = w0 at *
  have hA0 := RowsAt.below hA hb0
  have hB0 := RowsAt.below hB hb0
  clear hA hB
  refine (awake_any _).mono ?_
  rintro e w1 ⟨rfl, hb1⟩
  have h1 : Below w.heap.size w w1 := (hb0).trans ((hb1).mono (hb0).size)
  replace x0 := cell_below' hb1 x0
  replace x1 := cell_below' hb1 x1
  replace x2 := cell_below' hb1 x2
  replace zx := Nat.lt_of_lt_of_le zx (hb1).size
  replace hA0 := RowsAt.below hA0 hb1
  replace hB0 := RowsAt.below hB0 hb1
  clear hb1 hb0
  by_cases hn40 : l.length ≤ 40
  rotate_left 1
  · have e2 : decide ((40 : Int) < (l.length : Int)) = true := by simp; omega
    clear hn40
    go_wp2_with (fail)
    go_ret
    exact ⟨rfl, h1⟩
  have e2 : decide ((40 : Int) < (l.length : Int)) = false := by simp; omega
  obtain ⟨b1, g1⟩ : ∃ b, decide ((40 : Int) < (al.length : Int)) = b := ⟨_, rfl⟩
  obtain ⟨b2, g2⟩ : ∃ b, decide ((al.length : Int) ≤ 200) = b := ⟨_, rfl⟩
  obtain ⟨b3, g3⟩ : ∃ b, decide ((202 : Int) < (al.length : Int)) = b := ⟨_, rfl⟩
  by_cases hal : (b1 && b2 || b3) = true
  · have hc : (b1 = true ∧ b2 = true) ∨ ((b1 && b2) = false ∧ b3 = true) := by
      revert hal; cases b1 <;> cases b2 <;> cases b3 <;> simp
    clear hal
    rcases hc with ⟨rfl, rfl⟩ | ⟨hc, rfl⟩
    · go_wp2_with (fail)
      go_ret
      exact ⟨rfl, h1⟩
    · cases b1
      · go_wp2_with (fail)
        go_ret
        exact ⟨rfl, h1⟩
      · cases b2
        · go_wp2_with (fail)
          go_ret
          exact ⟨rfl, h1⟩
        · cases hc
  have hal2 : al.length ≤ 202 := by
    have : b3 = false := by revert hal; cases b1 <;> cases b2 <;> cases b3 <;> simp
    rw [this] at g3
    simp at g3
    omega
  have hab : b3 = false ∧ (b1 = false ∨ (b1 = true ∧ b2 = false)) := by
    revert hal; cases b1 <;> cases b2 <;> cases b3 <;> simp
  obtain ⟨rfl, hab⟩ := hab
  have HSN1 := Lib.hid (fun W (h : MsgsAt W A l) => shortNames_any A l ca W (by omega) h)
  have HSN2 := Lib.hid (fun W (h : MsgsAt W B al) => shortNames_any B al cb W (by omega) h)
  have HAB := Lib.hid hab
  clear hal hab
  obtain ⟨b4, g4⟩ : ∃ b, decide ((30 : Int) < (m.s.size : Int)) = b := ⟨_, rfl⟩
  go_upto_region 3 with (fail)
  go_cut [54] from 21 to 53 (fun s wx => s = .bool (!(shortM l && (shortM al && !b4))) ∧ w1 = wx)
  case first =>
    generalize shortM l = s1 at *
    generalize shortM al = s2 at *
    rcases HAB.out with rfl | ⟨rfl, rfl⟩ <;> cases s1 <;> cases s2 <;> cases b4
    all_goals
      go_wp2_with (go_at_call 52; first | (with_reducible refine (HSN1.out _ hA0).mono ?_; rintro e w' ⟨rfl, rfl⟩) | (refine (HSN2.out _ hB0).mono ?_; rintro e w' ⟨rfl, rfl⟩))
      go_meet
      case rel => exact ⟨rfl, rfl⟩
  case rest =>
  obtain ⟨rfl, rfl⟩ := hcut
  clear HSN1 HSN2 HAB g1 g2 g3
  cases hsh : (shortM l && (shortM al && !b4))
  · rw [Bool.not_false]
    clear hsh g4
    go_wp2_with (fail)
    go_ret
    exact ⟨rfl, h1⟩
  rw [Bool.not_true]
  rw [Bool.and_eq_true, Bool.and_eq_true] at hsh
  obtain ⟨hs1, hs2, hs3⟩ := hsh
  have hsl := shortM_true hs1
  have hsa := shortM_true hs2
  have hsm : m.s.size ≤ 30 := by
    cases b4
    · simp at g4; omega
    · cases hs3
  have HSL := Lib.hid (show ∀ x ∈ l, x.s.size ≤ 1000 from fun x hx => by have := hsl x hx; omega)
  have HSA := Lib.hid (show ∀ x ∈ al, x.s.size ≤ 1000 from fun x hx => by have := hsa x hx; omega)
  clear hs1 hs2 hs3 hsl hsa g4
  go_wp2_with (fail)
  refine (CopyMessages_any A l ca _ (by omega) hA0).mono ?_
  rintro e w2 ⟨A2, c2, rfl, own2, hb2⟩
  have h2 : Below w.heap.size w w2 := (h1).trans ((hb2).mono (h1).size)
  replace x0 := cell_below' hb2 x0
  replace x1 := cell_below' hb2 x1
  replace x2 := cell_below' hb2 x2
  replace zx := Nat.lt_of_lt_of_le zx (hb2).size
  replace hA0 := RowsAt.below hA0 hb2
  replace hB0 := RowsAt.below hB0 hb2
  clear hb2 h1
  have r2 : MsgsAt w2 A2 l := rowsAt_of_own own2 rfl (by decide)
  clear own2
  go_wp2_with (fail)
  refine (CheckStore_any A2 l c2 _ (by omega) HSL.out r2).mono ?_
  rintro e w3 ⟨rfl, hb3⟩
  have h3 : Below w.heap.size w w3 := (h2).trans ((hb3).mono (h2).size)
  replace x0 := cell_below' hb3 x0
  replace x1 := cell_below' hb3 x1
  replace x2 := cell_below' hb3 x2
  replace zx := Nat.lt_of_lt_of_le zx (hb3).size
  replace hA0 := RowsAt.below hA0 hb3
  replace hB0 := RowsAt.below hB0 hb3
  clear hb3 h2
  clear r2
  have HRD := Lib.hid (fun (A' : Option Addr) (c' : Nat) (W : World) (h : MsgsAt W A' l) => Received_any A' l c' m W (by omega) HSL.out (by omega) h)
  have hq : rcvd l m = if chkSE l = 0 then rcv l m else ([], chkSE l) := rfl
  have hE : (chkS l).2 = chkSE l := rfl
  have HQ := Lib.hid hq
  rw [hE]
  have HCK := Lib.hid (RCheckStore_any A l ca)
  rw [hE] at HCK
  have HOK := Lib.hid (fun h : chkSE l = 0 => (chkS_ok h))
  clear hq hE
  generalize (chkS l).1 = ix at *
  generalize chkSE l = E at *
  generalize rcvd l m = X at *
  go_upto_region 6 with (fail)
  go_region_held3 (fun w' => w'.cell? ⟨w.heap.size, 0, none⟩ = some (.string m.s) ∧ w'.cell? ⟨w.heap.size, 1, none⟩ = some (.int .i64 m.v) ∧ w'.cell? ⟨w.heap.size, 2, none⟩ = some (.int .i64 m.l))
    ((((try go_split_ands); (repeat' (apply And.intro)) <;> (repeat (first | (with_reducible assumption) | (with_reducible refine cell_drew ?_) | (with_reducible refine cell_alloc _ ?_) | (with_reducible refine cell_below' (by with_reducible assumption) ?_) | (with_reducible refine cell_far ?_ ?_; focus (first | omega | (simp; omega) | (simp; done))))))))
    (first
      | (go_at_call 56; ((with_reducible refine (CopyMessages_any A l ca _ (by omega) ?_).mono ?_); (focus (exact RowsAt.below hA0 (Below.refl _ w3).drew)); rintro e w4 ⟨A4, c4, rfl, own4, hb4⟩; have hy4 : Below w3.heap.size w3 w4 := ((Below.refl _ w3).drew).trans hb4))
      | (go_at_call 63; ((with_reducible refine (HRD.out A4 c4 _ ?_).mono ?_); (focus (exact rowsAt_of_own own4 rfl (by decide))); rintro e w5 ⟨A5, c5, rfl, r5, hb5⟩; have hy5 : Below w3.heap.size w3 w5 := hy4.trans (hb5.mono hy4.size))))
  clear own4 hb4 hb5 hy4 HRD
  have h5 : Below w.heap.size w w5 := (h3).trans ((hy5).mono (h3).size)
  replace x0 := cell_below' hy5 x0
  replace x1 := cell_below' hy5 x1
  replace x2 := cell_below' hy5 x2
  replace zx := Nat.lt_of_lt_of_le zx (hy5).size
  replace hA0 := RowsAt.below hA0 hy5
  replace hB0 := RowsAt.below hB0 hy5
  clear hy5 h3
  clear w4
  go_wp2_with (fail)
  refine (CopyMessages_any B al cb _ (by omega) hB0).mono ?_
  rintro e w6 ⟨A6, c6, rfl, own6, hb6⟩
  replace r5 := RowsAt.below r5 hb6
  have h6 : Below w.heap.size w w6 := (h5).trans ((hb6).mono (h5).size)
  replace x0 := cell_below' hb6 x0
  replace x1 := cell_below' hb6 x1
  replace x2 := cell_below' hb6 x2
  replace zx := Nat.lt_of_lt_of_le zx (hb6).size
  replace hA0 := RowsAt.below hA0 hb6
  replace hB0 := RowsAt.below hB0 hb6
  clear hb6 h5
  have HN1 := Lib.hid (NewestOf_any A6 al c6 w6 (by omega) HSA.out (rowsAt_of_own own6 rfl (by decide)))
  have HN2 := Lib.hid (fun W (h : MsgsAt W B al) => RNewest_any B al cb W (by omega) h)
  have hnl := newest_len al
  clear own6
  generalize newest al = Y at *
  obtain ⟨Y1, Y2, Y3⟩ := Y
  simp only at hnl
  go_wp2_with (fail)
  refine HN1.out.mono ?_
  rintro e w7 ⟨A7, c7, rfl, r7, hb7⟩
  simp only at r7
  replace r5 := RowsAt.below r5 hb7
  have h7 : Below w.heap.size w w7 := (h6).trans ((hb7).mono (h6).size)
  replace x0 := cell_below' hb7 x0
  replace x1 := cell_below' hb7 x1
  replace x2 := cell_below' hb7 x2
  replace zx := Nat.lt_of_lt_of_le zx (hb7).size
  replace hA0 := RowsAt.below hA0 hb7
  replace hB0 := RowsAt.below hB0 hb7
  clear hb7 h6
  go_wp2_with (fail)
  refine (HN2.out _ hB0).mono ?_
  rintro e w8 ⟨A8, c8, rfl, r8, hb8⟩
  simp only at r8
  replace r5 := RowsAt.below r5 hb8
  replace r7 := RowsAt.below r7 hb8
  have h8 : Below w.heap.size w w8 := (h7).trans ((hb8).mono (h7).size)
  replace x0 := cell_below' hb8 x0
  replace x1 := cell_below' hb8 x1
  replace x2 := cell_below' hb8 x2
  replace zx := Nat.lt_of_lt_of_le zx (hb8).size
  replace hA0 := RowsAt.below hA0 hb8
  replace hB0 := RowsAt.below hB0 hb8
  clear hb8 h7
  clear HN1 HN2
  have t3 : (Y3 != Y3) = false := by simp
  have t2 : (Y2 != Y2) = false := by simp
  go_wp2_with (fail)
  refine (SameM_refl A7 A8 Y1 c7 c8 _ (by omega) r7 r8).mono ?_
  rintro e w9 ⟨rfl, hb9⟩
  replace r5 := RowsAt.below r5 hb9
  have h9 : Below w.heap.size w w9 := (h8).trans ((hb9).mono (h8).size)
  replace x0 := cell_below' hb9 x0
  replace x1 := cell_below' hb9 x1
  replace x2 := cell_below' hb9 x2
  replace zx := Nat.lt_of_lt_of_le zx (hb9).size
  replace hA0 := RowsAt.below hA0 hb9
  replace hB0 := RowsAt.below hB0 hb9
  clear hb9 h8
  clear r7 r8 t2 t3
  go_wp2_with (fail)
  refine (HCK.out _ (by omega) hA0).mono ?_
  rintro e w10 ⟨rfl, hb10⟩
  replace r5 := RowsAt.below r5 hb10
  have h10 : Below w.heap.size w w10 := (h9).trans ((hb10).mono (h9).size)
  replace x0 := cell_below' hb10 x0
  replace x1 := cell_below' hb10 x1
  replace x2 := cell_below' hb10 x2
  replace zx := Nat.lt_of_lt_of_le zx (hb10).size
  replace hA0 := RowsAt.below hA0 hb10
  replace hB0 := RowsAt.below hB0 hb10
  clear hb10 h9
  have t4 : (E != E) = false := by simp
  have t5 : (ix != ix) = false := by simp
  by_cases hE : E = 0
  rotate_left 1
  · have hX := HQ.out.trans (if_neg hE)
    subst hX
    have e1 : (E != 0) = true := by simpa using hE
    have e3 : (E == E) = true := by simp
    clear hE HQ HOK HCK r5
    go_wp2_with (fail)
    go_ret
    exact ⟨rfl, h10⟩
  subst hE
  have hX := HQ.out.trans (if_pos rfl)
  obtain ⟨-, hsrt, hl30⟩ := HOK.out rfl
  have HRR := Lib.hid (fun W (h : MsgsAt W A l) => RReceived_any A l ca m W hl30 hsrt h)
  have hxl := rcv_len l m hl30
  rw [← hX] at HRR hxl
  clear hX HQ HOK HCK hsrt
  obtain ⟨X1, X2⟩ := X
  simp only at hxl r5
  go_wp2_with (fail)
  refine (HRR.out _ hA0).mono ?_
  rintro e w11 ⟨A11, c11, rfl, r11, hb11⟩
  simp only at r11
  replace r5 := RowsAt.below r5 hb11
  have h11 : Below w.heap.size w w11 := (h10).trans ((hb11).mono (h10).size)
  replace x0 := cell_below' hb11 x0
  replace x1 := cell_below' hb11 x1
  replace x2 := cell_below' hb11 x2
  replace zx := Nat.lt_of_lt_of_le zx (hb11).size
  replace hB0 := RowsAt.below hB0 hb11
  clear hb11 h10
  have t6 : (X2 == X2) = true := by simp
  clear HRR hA0
  go_wp2_with (fail)
  refine (SameM_refl A5 A11 X1 c5 c11 _ (by omega) r5 r11).mono ?_
  rintro e w12 ⟨rfl, hb12⟩
  have h12 : Below w.heap.size w w12 := (h11).trans ((hb12).mono (h11).size)
  replace x0 := cell_below' hb12 x0
  replace x1 := cell_below' hb12 x1
  replace x2 := cell_below' hb12 x2
  replace zx := Nat.lt_of_lt_of_le zx (hb12).size
  replace hB0 := RowsAt.below hB0 hb12
  clear hb12 h11
  go_wp2_with (fail)
  go_ret
  exact ⟨rfl, h12⟩
end Go.Proofs.Ytcfbnmcdncndpaa
