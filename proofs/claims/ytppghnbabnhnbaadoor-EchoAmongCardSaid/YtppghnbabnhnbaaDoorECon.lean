/-
  Chapter 2: the readings that contradict each other.
-/
import Derived.Test.YtppghnbabnhnbaaDoorEIdx
namespace Go.Proofs.YtppghnbabnhnbaaDoor
open Go.ChangeShapes Go.WideShapes Go.ChangeAt Go.RowKit
set_option linter.unusedVariables false
set_option linter.unusedSimpArgs false

theorem nil1 (W : World) : (binOp .eql 22 (.slice none 0 0) (.slice none 0 0)).run Tryd.prog W = .ok (.bool true) W := by first | kernel_rfl | go_simp
theorem nil2 (a : Addr) (n c : Nat) (W : World) : (binOp .eql 22 (.slice (some a) n c) (.slice none 0 0)).run Tryd.prog W = .ok (.bool false) W := by first | kernel_rfl | go_simp
theorem nil3 (W : World) : (binOp .neq 22 (.slice none 0 0) (.slice none 0 0)).run Tryd.prog W = .ok (.bool false) W := by first | kernel_rfl | go_simp
theorem nil4 (a : Addr) (n c : Nat) (W : World) : (binOp .neq 22 (.slice (some a) n c) (.slice none 0 0)).run Tryd.prog W = .ok (.bool true) W := by first | kernel_rfl | go_simp
/-- the best set of all -/
def bestA (l : List Rd) : Option (List Int) := bestK l (2 ^ l.length)
def conQ (l : List Rd) : List Int × Int := if rdsE l ≠ 0 then ([], rdsE l) else match bestA l with
  | none => ([], 12)
  | some b => (b, 0)
theorem bestK_succ (l : List Rd) (m : Nat) : bestK l (m + 1) = if (candS l m).isEmpty && betB (idxS m l.length) (bestK l m) then some (idxS m l.length) else bestK l m := rfl
theorem ints_some {w : World} {A : Option Addr} {q : List Int} (h : IntsAt w A q) (hq : q ≠ []) : ∃ a, A = some a := by
  have hp : 0 < q.length := List.length_pos_iff.2 hq
  obtain ⟨b, off, e, _⟩ := IntsAt.at_ h hp
  exact ⟨_, e⟩
set_option maxRecDepth 100000 in
set_option maxHeartbeats 8000000 in
theorem ContradictingIn_any (A : Option Addr) (l : List Rd) (ca : Nat) (w : World) (hl : l.length ≤ 1000) (hA : RdsAt w A l) :
    Calls Tryd.prog 76 #[.slice A l.length ca] w (IntsE (conQ l) w) := by
  have HE := Lib.hid (fun W (h : RdsAt W A l) => readingsErr_any A l ca W hl h)
  have hq : conQ l = if rdsE l ≠ 0 then ([], rdsE l) else match bestA l with
    | none => ([], 12)
    | some b => (b, 0) := rfl
  have hR0 := @rdsE_zero l
  by_cases h0 : rdsE l = 0
  rotate_left 1
  · rw [if_pos h0] at hq
    have HQ := Lib.hid hq
    have e9 : (rdsE l != 0) = true := by simpa using h0
    clear hq h0 hR0
    generalize rdsE l = E at *
    go_enter Tryd.func76, Tryd.ntmps76
    go_wp2_with (fail)
    refine (HE.out _ hA).mono ?_
    rintro e w1 ⟨rfl, hb1⟩
    go_wp2_with (fail)
    go_ret2
    rw [HQ.out]
    exact ⟨none, 0, rfl, RowsAt.nil, hb1⟩
  rw [if_neg (by simpa using h0)] at hq
  obtain ⟨hl8, hok⟩ := hR0 h0
  rw [h0] at HE
  have HQ := Lib.hid hq
  have HEV := Lib.hid (fun W => every_any l.length W hl8)
  have HIX := Lib.hid (fun (m : Nat) (hm : m < 2 ^ l.length) W => indexes_any m l.length W hl8 hm)
  have HCD := Lib.hid (fun (m : Nat) (hm : m < 18446744073709551616) W (h : RdsAt W A l) => candidates_any A l ca m W hl8 hm hok h)
  have HBS := Lib.hid (bestK_succ l)
  have HBL := Lib.hid (bestK_len l)
  have HIL := Lib.hid (fun m => idxS_len m l.length)
  have HB0 : Hid (bestK l 0 = none) := Lib.hid rfl
  have HBA : Hid (bestA l = bestK l (2 ^ l.length)) := Lib.hid rfl
  obtain ⟨pw1, pw2⟩ := pow_bd hl8
  have hli : (l.length : Int) ≤ 8 := by omega
  clear hq h0 hR0 hok
  go_enter Tryd.func76, Tryd.ntmps76
  go_wp2_with (fail)
  refine (HE.out _ hA).mono ?_
  rintro e w1 ⟨rfl, hb1⟩
  have hA1 := RowsAt.below hA hb1
  clear HE hA
  go_wp2_with (fail)
  refine (HEV.out _).mono ?_
  rintro e w2 ⟨rfl, rfl⟩
  obtain ⟨N, hNe⟩ : ∃ N : Nat, N = 2 ^ l.length := ⟨_, rfl⟩
  have HNE := Lib.hid hNe
  rw [← hNe] at pw1 pw2
  have hwr : IntKind.u64.wrap (((2 ^ l.length - 1 : Nat) : Int) + 1) = (N : Int) := by
    rw [← hNe]
    unfold IntKind.wrap IntKind.bits IntKind.signed
    simp
    omega
  rw [← hNe] at hwr
  have hN1 : ((N - 1 : Nat) : Int) ≤ 255 := by omega
  have hNI : (N : Int) ≤ 256 := by omega
  have hNe2 : 2 ^ l.length - 1 = N - 1 := by rw [hNe]
  rw [hNe2]
  clear HEV hNe hNe2
  have hE1 := nil1
  have hE2 := nil2
  have hE3 := nil3
  have hE4 := nil4
  go_wp2_with (fail)
  go_loopw [5, 17] (fun o i wr => ∃ (m : Nat), m ≤ N ∧ i = .int .u64 m ∧ ((bestK l m = none ∧ o = .slice none 0 0) ∨ ∃ b a c', bestK l m = some b ∧ o = .slice (some a) b.length c' ∧ IntsAt wr (some a) b) ∧ Below w1.heap.size w1 wr) (fun _ i _ => N - (intOf i).toNat)
  case atStart => exact ⟨0, Nat.zero_le _, rfl, .inl ⟨HB0.out, rfl⟩, Below.refl _ _⟩
  case round =>
    obtain ⟨m, hm, rfl, hv, hbr⟩ := hrel
    obtain ⟨wo, rfl⟩ : ∃ wo : World, wo = wr := ⟨_, rfl⟩
    have hAo := RowsAt.below hA1 hbr
    by_cases hlt : m < N
    · have hmI : (m : Int) < (N : Int) := by omega
      have HX := Lib.hid (HIX.out m (by rw [← HNE.out]; exact hlt))
      have HC := Lib.hid (HCD.out m (by omega))
      have hst := HBS.out m
      have hil := HIL.out m
      have hne := HBL.out (m + 1)
      clear HIX HCD
      generalize hxx : idxS m l.length = x at *
      clear hxx
      cases hce : (candS l m).isEmpty
      · have hle : decide ((0 : Int) < (((candS l m).length : Nat) : Int)) = true := decide_eq_true (by
          cases hcs : candS l m with
          | nil => rw [hcs] at hce; cases hce
          | cons a r => simp)
        have hle2 : decide (0 < (candS l m).length) = true := by rw [← hle]; simp
        rw [hce, Bool.false_and, if_neg (by decide)] at hst
        have HST := Lib.hid hst
        clear hce hst hne
        generalize candS l m = cs at *
        rcases hv with ⟨q1, rfl⟩ | ⟨b, a, c', q1, rfl, q3⟩
        · rw [← HST.out] at q1
          go_wp2_with (fail)
          refine (HX.out _).mono ?_
          rintro e w3 ⟨A3, c3, rfl, hI3, hb3⟩
          have hbr3 := hbr.trans (hb3.mono hbr.size)
          have hA3 := RowsAt.below hAo hb3
          clear HX hAo
          go_wp2_with (fail)
          refine (HC.out _ hA3).mono ?_
          rintro e w4 ⟨A4, c4, rfl, hI4, hb4⟩
          have hbr4 := hbr3.trans (hb4.mono hbr3.size)
          have hI5 := RowsAt.below hI3 hb4
          have hb34 := hb3.trans (hb4.mono hb3.size)
          clear HC hA3 hI3 hI4
          go_wp2_with (fail)
          exact ⟨⟨m + 1, by omega, by go_num, .inl ⟨q1, rfl⟩, hbr4⟩, by simp [intOf]; omega⟩
        · rw [← HST.out] at q1
          go_wp2_with (fail)
          refine (HX.out _).mono ?_
          rintro e w3 ⟨A3, c3, rfl, hI3, hb3⟩
          have hbr3 := hbr.trans (hb3.mono hbr.size)
          have hA3 := RowsAt.below hAo hb3
          clear HX hAo
          go_wp2_with (fail)
          refine (HC.out _ hA3).mono ?_
          rintro e w4 ⟨A4, c4, rfl, hI4, hb4⟩
          have hbr4 := hbr3.trans (hb4.mono hbr3.size)
          have hI5 := RowsAt.below hI3 hb4
          have hb34 := hb3.trans (hb4.mono hb3.size)
          clear HC hA3 hI3 hI4
          have q5 := RowsAt.below q3 hb34
          have HQ1 := Lib.hid q1
          have HQ5 := Lib.hid q5
          clear q1 q3 q5
          go_wp2_with (fail)
          exact ⟨⟨m + 1, by omega, by go_num, .inr ⟨b, a, c', HQ1.out, rfl, HQ5.out⟩, hbr4⟩, by simp [intOf]; omega⟩
      · have hcn : candS l m = [] := by
          cases hcs : candS l m with
          | nil => rfl
          | cons a r => rw [hcs] at hce; cases hce
        rw [hce, Bool.true_and] at hst
        rw [hcn] at HC
        clear hce hcn
        have hnl : ([] : List Int).length = 0 := rfl
        rcases hv with ⟨q1, rfl⟩ | ⟨b, a, c', q1, rfl, q3⟩
        · rw [q1] at hst
          have hst2 : bestK l (m + 1) = some x := hst
          obtain ⟨h1, h2⟩ := hne x hst2
          go_wp2_with (fail)
          refine (HX.out _).mono ?_
          rintro e w3 ⟨A3, c3, rfl, hI3, hb3⟩
          have hbr3 := hbr.trans (hb3.mono hbr.size)
          have hA3 := RowsAt.below hAo hb3
          clear HX hAo
          go_wp2_with (fail)
          refine (HC.out _ hA3).mono ?_
          rintro e w4 ⟨A4, c4, rfl, hI4, hb4⟩
          have hbr4 := hbr3.trans (hb4.mono hbr3.size)
          have hI5 := RowsAt.below hI3 hb4
          have hb34 := hb3.trans (hb4.mono hb3.size)
          clear HC hA3 hI3 hI4
          obtain ⟨ax, rfl⟩ := ints_some hI5 h2
          have HV := Lib.hid (show bestK l (m + 1) = some x ∧ IntsAt w4 (some ax) x from ⟨hst2, hI5⟩)
          clear q1 hst hst2 h1 h2 hne hI5
          go_wp2_with (fail)
          exact ⟨⟨m + 1, by omega, by go_num, .inr ⟨x, ax, c3, HV.out.1, rfl, HV.out.2⟩, hbr4⟩, by simp [intOf]; omega⟩
        · rw [q1] at hst
          obtain ⟨hbl, -⟩ := HBL.out m b q1
          have hbn : betB x (some b) = (decide (x.length < b.length) || (decide (x.length = b.length) && lexB x b)) := rfl
          have hlx := lexC_neg x b
          have HCM := Lib.hid (fun (A3 : Option Addr) (c3 : Nat) (W : World) h1 h2 => CompareL_any A3 (some a) x b c3 c' W (by omega) (by omega) h1 h2)
          go_wp2_with (fail)
          refine (HX.out _).mono ?_
          rintro e w3 ⟨A3, c3, rfl, hI3, hb3⟩
          have hbr3 := hbr.trans (hb3.mono hbr.size)
          have hA3 := RowsAt.below hAo hb3
          clear HX hAo
          go_wp2_with (fail)
          refine (HC.out _ hA3).mono ?_
          rintro e w4 ⟨A4, c4, rfl, hI4, hb4⟩
          have hbr4 := hbr3.trans (hb4.mono hbr3.size)
          have hI5 := RowsAt.below hI3 hb4
          have hb34 := hb3.trans (hb4.mono hb3.size)
          clear HC hA3 hI3 hI4
          have q5 := RowsAt.below q3 hb34
          clear q3 q1
          cases hbb : betB x (some b)
          · rw [hbb, if_neg (by decide)] at hst
            rw [hbb] at hbn
            have hn1 : ¬ x.length < b.length := fun h => by rw [decide_eq_true h] at hbn; cases hbn
            have e1 : decide ((x.length : Int) < (b.length : Int)) = false := decide_eq_false (by omega)
            have e1n : decide (x.length < b.length) = false := decide_eq_false (by omega)
            rw [decide_eq_false hn1, Bool.false_or] at hbn
            have HST := Lib.hid hst
            by_cases h2 : x.length = b.length
            · have e2 : ((x.length : Int) == (b.length : Int)) = true := by rw [beq_iff_eq]; omega
              have e2n : (x.length == b.length) = true := by rw [beq_iff_eq]; omega
              have e2d : decide (x.length = b.length) = true := decide_eq_true (by omega)
              rw [decide_eq_true h2, Bool.true_and] at hbn
              rw [← hbn] at hlx
              clear hst hbb hn1 h2 hne hbn
              generalize lexC x b = lc at *
              go_wp2_with (fail)
              refine (HCM.out _ _ _ hI5 q5).mono ?_
              rintro e w5 ⟨rfl, hb5⟩
              have hbr5 := hbr4.trans (hb5.mono hbr4.size)
              have HQ5 := Lib.hid (RowsAt.below q5 hb5)
              clear HCM hI5 q5
              go_wp2_with (fail)
              exact ⟨⟨m + 1, by omega, by go_num, .inr ⟨b, a, c', HST.out, rfl, HQ5.out⟩, hbr5⟩, by simp [intOf]; omega⟩
            · have e2 : ((x.length : Int) == (b.length : Int)) = false := by rw [beq_eq_false_iff_ne]; omega
              have e2n : (x.length == b.length) = false := by rw [beq_eq_false_iff_ne]; omega
              have e2d : decide (x.length = b.length) = false := decide_eq_false (by omega)
              have HQ5 := Lib.hid q5
              clear hst hbb hn1 h2 hne hbn HCM hlx hI5 q5
              go_wp2_with (fail)
              exact ⟨⟨m + 1, by omega, by go_num, .inr ⟨b, a, c', HST.out, rfl, HQ5.out⟩, hbr4⟩, by simp [intOf]; omega⟩
          · rw [hbb, if_pos rfl] at hst
            rw [hbb] at hbn
            obtain ⟨h1, h2⟩ := hne x hst
            obtain ⟨ax, rfl⟩ := ints_some hI5 h2
            have HST := Lib.hid hst
            by_cases hn1 : x.length < b.length
            · have e1 : decide ((x.length : Int) < (b.length : Int)) = true := decide_eq_true (by omega)
              have e1n : decide (x.length < b.length) = true := decide_eq_true (by omega)
              have HQ5 := Lib.hid hI5
              clear hst hbb hn1 h1 h2 hne hbn HCM hlx hI5 q5
              go_wp2_with (fail)
              exact ⟨⟨m + 1, by omega, by go_num, .inr ⟨x, ax, c3, HST.out, rfl, HQ5.out⟩, hbr4⟩, by simp [intOf]; omega⟩
            · have e1 : decide ((x.length : Int) < (b.length : Int)) = false := decide_eq_false (by omega)
              have e1n : decide (x.length < b.length) = false := decide_eq_false (by omega)
              rw [decide_eq_false hn1, Bool.false_or] at hbn
              have h3 : x.length = b.length ∧ lexB x b = true := by simpa using hbn.symm
              have e2 : ((x.length : Int) == (b.length : Int)) = true := by rw [beq_iff_eq]; omega
              have e2n : (x.length == b.length) = true := by rw [beq_iff_eq]; omega
              have e2d : decide (x.length = b.length) = true := decide_eq_true (by omega)
              rw [h3.2] at hlx
              clear hst hbb hn1 h1 h2 hne hbn h3
              generalize lexC x b = lc at *
              go_wp2_with (fail)
              refine (HCM.out _ _ _ hI5 q5).mono ?_
              rintro e w5 ⟨rfl, hb5⟩
              have hbr5 := hbr4.trans (hb5.mono hbr4.size)
              have HQ5 := Lib.hid (RowsAt.below hI5 hb5)
              clear HCM hI5 q5
              go_wp2_with (fail)
              exact ⟨⟨m + 1, by omega, by go_num, .inr ⟨x, ax, c3, HST.out, rfl, HQ5.out⟩, hbr5⟩, by simp [intOf]; omega⟩
    · obtain rfl : m = N := by omega
      have hbw := hb1.trans (hbr.mono hb1.size)
      rcases hv with ⟨q1, rfl⟩ | ⟨b, a, c', q1, rfl, q3⟩
      · have HQ2 := HQ.out
        rw [HBA.out, ← HNE.out, q1] at HQ2
        have HQ3 := Lib.hid HQ2
        clear HQ2 HQ q1 HBS HBL HIL HB0 HBA HIX HCD
        go_wp2_with (go_at_call 89; refine (unless_any _ _ _).mono ?_; rintro e w' ⟨rfl, rfl⟩)
        go_ret2
        rw [HQ3.out]
        exact ⟨none, 0, rfl, RowsAt.nil, hbw⟩
      · have HQ2 := HQ.out
        rw [HBA.out, ← HNE.out, q1] at HQ2
        have HQ3 := Lib.hid HQ2
        clear HQ2 HQ q1 HBS HBL HIL HB0 HBA HIX HCD
        go_wp2_with (go_at_call 89; refine (unless_any _ _ _).mono ?_; rintro e w' ⟨rfl, rfl⟩)
        go_ret2
        rw [HQ3.out]
        exact ⟨some a, c', rfl, q3, hbw⟩
end Go.Proofs.YtppghnbabnhnbaaDoor
