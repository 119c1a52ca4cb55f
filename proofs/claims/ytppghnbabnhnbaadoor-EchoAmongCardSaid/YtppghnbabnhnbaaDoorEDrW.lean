/-
  Chapter 2: EchoDirections, walked.
-/
import Derived.Test.YtppghnbabnhnbaaDoorERcn
import Derived.Test.YtppghnbabnhnbaaDoorESpc
namespace Go.Proofs.YtppghnbabnhnbaaDoor
open Go.ChangeShapes Go.WideShapes Go.ChangeAt Go.RowKit
set_option linter.unusedVariables false
set_option linter.unusedSimpArgs false

theorem best_none {l : List Rd} (h : candA l ≠ []) : bestA l = none := by
  cases hb : bestA l with
  | none => rfl
  | some b =>
    obtain ⟨k, -, h2, -⟩ := (bestK_spec l (2 ^ l.length)).1 b hb
    obtain ⟨x, hx⟩ := List.exists_mem_of_ne_nil _ h
    have h3 := candA_mem.1 hx
    have h4 : x ∈ candS l k := by
      rw [candS_eq]
      refine candA_mem.2 ⟨h3.1, ?_⟩
      have h5 := h3.2
      unfold agA at *
      rw [List.all_eq_true] at *
      exact fun y hy => h5 y (subUp_mem l k 0 y hy)
    rw [List.isEmpty_iff] at h2
    rw [h2] at h4
    cases h4
theorem best_some {l : List Rd} (h : candA l = []) : ∃ b, bestA l = some b := by
  obtain ⟨b, hb, -⟩ := (bestK_spec l (2 ^ l.length)).2 (2 ^ l.length - 1) (by have := Nat.one_le_two_pow (n := l.length); omega) (by rw [candS_all, h]; rfl)
  exact ⟨b, hb⟩
theorem dir_err {l : List Rd} (h : rdsE l ≠ 0) : candQ l = ([], rdsE l) ∧ dirQ l = ([], rdsE l) ∧ conQ l = ([], rdsE l) := by
  have h1 : candQ l = ([], rdsE l) := by unfold candQ; simp [h]
  refine ⟨h1, ?_, ?_⟩
  · unfold dirQ; rw [h1]; simp [h]
  · unfold conQ; rw [if_pos h]
theorem dir_some {l : List Rd} (h : rdsE l = 0) (hc : candA l ≠ []) : candQ l = (candA l, 0) ∧ dirQ l = (rngA (candA l), 0) ∧ conQ l = ([], 12) := by
  have h1 : candQ l = (candA l, 0) := by unfold candQ; rw [if_pos h, decide_eq_true (List.length_pos_iff.2 hc), unl_true]
  refine ⟨h1, ?_, ?_⟩
  · unfold dirQ; rw [h1]; simp
  · unfold conQ; rw [if_neg (by simpa using h), best_none hc]
theorem dir_none {l : List Rd} (h : rdsE l = 0) (hc : candA l = []) : ∃ b, bestA l = some b ∧ candQ l = ([], 12) ∧ dirQ l = ([], 12) ∧ conQ l = (b, 0) := by
  obtain ⟨b, hb⟩ := best_some hc
  have h1 : candQ l = ([], 12) := by unfold candQ; rw [if_pos h, hc]; rfl
  refine ⟨b, hb, h1, ?_, ?_⟩
  · unfold dirQ; rw [h1]; simp
  · unfold conQ; rw [if_neg (by simpa using h), hb]
set_option maxRecDepth 100000 in
set_option maxHeartbeats 8000000 in
theorem EchoDirections_any (A : Option Addr) (l : List Rd) (ca : Nat) (w : World) (ht : Tab w) (hA : RdsAt w A l) :
    Calls Tryd.prog 15 #[.slice A l.length ca] w fun e w' => e = .returned (.bool true) ∧ Below w.heap.size w w' := by
  have HT := Lib.hid ht
  clear ht
  by_cases h10 : l.length ≤ 10
  rotate_left 1
  · have hb : decide ((l.length : Int) ≤ 10) = false := by simp; omega
    have H1 := Lib.hid (fun W => fewReadings_any A l ca W false hb)
    clear hb
    go_enter Tryd.func15, Tryd.ntmps15
    go_wp2_with (fail)
    refine (awake_any w HT.out).mono ?_
    rintro e w0 ⟨rfl, h0⟩
    clear HT
    go_wp2_with (fail)
    refine (H1.out _).mono ?_
    rintro e w' ⟨rfl, rfl⟩
    go_wp2_with (fail)
    go_ret
    exact ⟨rfl, h0⟩
  have hb : decide ((l.length : Int) ≤ 10) = true := by simp; omega
  have H1 := Lib.hid (fun W => fewReadings_any A l ca W true hb)
  have HC := Lib.hid (fun (B : Option Addr) (c : Nat) (W : World) (h : RdsAt W B l) => Candidates_any B l c W (by omega) h)
  have HD := Lib.hid (fun (B : Option Addr) (c : Nat) (W : World) (h : RdsAt W B l) => DirectionsOf_any B l c W (by omega) h)
  have HN := Lib.hid (fun (B : Option Addr) (c : Nat) (W : World) (h : RdsAt W B l) => ContradictingIn_any B l c W (by omega) h)
  clear hb
  have HR := Lib.hid (fun (W : World) (h : RdsAt W A l) => RReadingsErr_any A l ca W (by omega) h)
  by_cases r0 : rdsE l = 0
  rotate_left 1
  · obtain ⟨q1, q2, q3⟩ := dir_err r0
    rw [q1] at HC
    rw [q2] at HD
    rw [q3] at HN
    have e1 : (rdsE l != 0) = true := by simpa using r0
    have e2 : (rdsE l == 0) = false := by simpa using r0
    have hnl : ([] : List Int).length = 0 := rfl
    have hng : ([] : List Gs).length = 0 := rfl
    clear q1 q2 q3 r0
    generalize rdsE l = E at *
    go_enter Tryd.func15, Tryd.ntmps15
    go_wp2_with (fail)
    refine (awake_any w HT.out).mono ?_
    rintro e w0 ⟨rfl, h0⟩
    clear HT
    go_wp2_with (fail)
    refine (H1.out _).mono ?_
    rintro e w' ⟨rfl, rfl⟩
    go_wp2_with (fail)
    refine (CopyR_any A l ca w0 (by omega) (RowsAt.below hA h0)).mono ?_
    rintro e w1 hp
    obtain ⟨X0, x0, rfl, hX0, k1⟩ := hp.rows
    have h1 := h0.trans (k1.mono h0.size)
    clear hp h0
    go_wp2_with (fail)
    refine (HC.out _ _ _ hX0).mono ?_
    rintro e w2 ⟨R0, r0, rfl, I0, k2⟩
    have h2 := h1.trans (k2.mono h1.size)
    clear hX0 h1
    go_wp2_with (fail)
    refine (CopyR_any A l ca w2 (by omega) (RowsAt.below hA h2)).mono ?_
    rintro e w3 hp
    obtain ⟨X1, x1, rfl, hX1, k3⟩ := hp.rows
    have h3 := h2.trans (k3.mono h2.size)
    clear hp h2
    go_wp2_with (fail)
    refine (HD.out _ _ _ hX1).mono ?_
    rintro e w4 ⟨R1, r1, rfl, I1, k4⟩
    have h4 := h3.trans (k4.mono h3.size)
    clear hX1 h3
    go_wp2_with (fail)
    refine (CopyR_any A l ca w4 (by omega) (RowsAt.below hA h4)).mono ?_
    rintro e w5 hp
    obtain ⟨X2, x2, rfl, hX2, k5⟩ := hp.rows
    have h5 := h4.trans (k5.mono h4.size)
    clear hp h4
    go_wp2_with (fail)
    refine (HN.out _ _ _ hX2).mono ?_
    rintro e w6 ⟨R2, r2, rfl, I2, k6⟩
    have h6 := h5.trans (k6.mono h5.size)
    clear hX2 h5
    go_wp2_with (fail)
    refine (HR.out _ (RowsAt.below hA h6)).mono ?_
    rintro e w7 ⟨rfl, k7⟩
    have h7 := h6.trans (k7.mono h6.size)
    go_wp2_with (fail)
    go_ret
    exact ⟨rfl, h7⟩
  obtain ⟨hl8, hok⟩ := rdsE_zero r0
  have HRC := Lib.hid (fun (W : World) (h : RdsAt W A l) => RCandidates_any A l ca W hl8 hok h)
  have HRX := Lib.hid (fun (W : World) (h : RdsAt W A l) => RContradicting_any A l ca W hl8 hok h)
  have hcl := candA_len l
  rw [r0] at HR
  by_cases hc : candA l = []
  rotate_left 1
  · obtain ⟨q1, q2, q3⟩ := dir_some r0 hc
    rw [q1] at HC
    rw [q2] at HD
    rw [q3] at HN
    have hbd : ∀ x ∈ candA l, -1000 ≤ x ∧ x ≤ 1000 := fun x hx => by have := candA_bd x hx; omega
    have hrl : (rngA (candA l)).length ≤ (candA l).length := rngK_len _ _
    have hpos : 0 < (candA l).length := List.length_pos_iff.2 hc
    have HBD := Lib.hid hbd
    have hnl : ([] : List Int).length = 0 := rfl
    clear q1 q2 q3 r0 hc hok HRX hbd
    generalize candA l = c at *
    have hcI : (0 : Int) < (c.length : Int) := by omega
    have e1 : decide ((0 : Int) < (c.length : Int)) = true := decide_eq_true hcI
    have e1n : decide (0 < c.length) = true := decide_eq_true hpos
    have HRR := Lib.hid (fun (B : Option Addr) (d : Nat) (W : World) (h : IntsAt W B c) => RRanges_any B c d W (by omega) HBD.out h)
    have HIE := Lib.hid (fun (B C : Option Addr) (d f : Nat) (W : World) (h : IntsAt W B c) (h2 : IntsAt W C c) => Ints_refl B C c d f W (by omega) h h2)
    have HRE := Lib.hid (fun (B C : Option Addr) (d f : Nat) (W : World) (h : GsAt W B (rngA c)) (h2 : GsAt W C (rngA c)) => Ranges_refl B C (rngA c) d f W (by omega) h h2)
    clear HBD
    go_enter Tryd.func15, Tryd.ntmps15
    go_wp2_with (fail)
    refine (awake_any w HT.out).mono ?_
    rintro e w0 ⟨rfl, h0⟩
    clear HT
    go_wp2_with (fail)
    refine (H1.out _).mono ?_
    rintro e w' ⟨rfl, rfl⟩
    go_wp2_with (fail)
    refine (CopyR_any A l ca w0 (by omega) (RowsAt.below hA h0)).mono ?_
    rintro e w1 hp
    obtain ⟨X0, x0, rfl, hX0, k1⟩ := hp.rows
    have h1 := h0.trans (k1.mono h0.size)
    clear hp h0
    go_wp2_with (fail)
    refine (HC.out _ _ _ hX0).mono ?_
    rintro e w2 ⟨R0, r0, rfl, I0, k2⟩
    have h2 := h1.trans (k2.mono h1.size)
    clear hX0 h1
    go_wp2_with (fail)
    refine (CopyR_any A l ca w2 (by omega) (RowsAt.below hA h2)).mono ?_
    rintro e w3 hp
    obtain ⟨X1, x1, rfl, hX1, k3⟩ := hp.rows
    have h3 := h2.trans (k3.mono h2.size)
    clear hp h2
    go_wp2_with (fail)
    refine (HD.out _ _ _ hX1).mono ?_
    rintro e w4 ⟨R1, r1, rfl, I1, k4⟩
    have h4 := h3.trans (k4.mono h3.size)
    clear hX1 h3
    go_wp2_with (fail)
    refine (CopyR_any A l ca w4 (by omega) (RowsAt.below hA h4)).mono ?_
    rintro e w5 hp
    obtain ⟨X2, x2, rfl, hX2, k5⟩ := hp.rows
    have h5 := h4.trans (k5.mono h4.size)
    clear hp h4
    go_wp2_with (fail)
    refine (HN.out _ _ _ hX2).mono ?_
    rintro e w6 ⟨R2, r2, rfl, I2, k6⟩
    have h6 := h5.trans (k6.mono h5.size)
    clear hX2 h5
    go_wp2_with (fail)
    refine (HR.out _ (RowsAt.below hA h6)).mono ?_
    rintro e w7 ⟨rfl, k7⟩
    have h7 := h6.trans (k7.mono h6.size)
    go_wp2_with (fail)
    refine (HRC.out _ (RowsAt.below hA h7)).mono ?_
    rintro e w8 ⟨R8, r8, rfl, I8, k8⟩
    have h8 := h7.trans (k8.mono h7.size)
    have J0 : IntsAt w8 R0 c := RowsAt.below (RowsAt.below (RowsAt.below (RowsAt.below (RowsAt.below (RowsAt.below I0 k3) k4) k5) k6) k7) k8
    have J1 : GsAt w8 R1 (rngA c) := RowsAt.below (RowsAt.below (RowsAt.below (RowsAt.below I1 k5) k6) k7) k8
    go_wp2_with (fail)
    refine (HIE.out _ _ _ _ _ J0 I8).mono ?_
    rintro e w9 ⟨rfl, k9⟩
    have h9 := h8.trans (k9.mono h8.size)
    go_wp2_with (fail)
    refine (HRR.out _ _ _ (RowsAt.below I8 k9)).mono ?_
    rintro e w10 ⟨R9, r9, rfl, I9, k10⟩
    have h10' := h9.trans (k10.mono h9.size)
    go_wp2_with (fail)
    refine (HRE.out _ _ _ _ _ (RowsAt.below (RowsAt.below J1 k9) k10) I9).mono ?_
    rintro e w11 ⟨rfl, k11⟩
    have h11 := h10'.trans (k11.mono h10'.size)
    go_wp2_with (fail)
    go_ret
    exact ⟨rfl, h11⟩
  obtain ⟨b, hb, q1, q2, q3⟩ := dir_none r0 hc
  have hbl := (bestK_len l _ b hb).1
  rw [q1] at HC
  rw [q2] at HD
  rw [q3] at HN
  rw [hc] at HRC
  have HB := Lib.hid hb
  have hnl : ([] : List Int).length = 0 := rfl
  have hng : ([] : List Gs).length = 0 := rfl
  have HIE := Lib.hid (fun (B C : Option Addr) (d f : Nat) (W : World) (h : IntsAt W B b) (h2 : IntsAt W C b) => Ints_refl B C b d f W (by omega) h h2)
  clear q1 q2 q3 r0 hc hok hb hcl
  go_enter Tryd.func15, Tryd.ntmps15
  go_wp2_with (fail)
  refine (awake_any w HT.out).mono ?_
  rintro e w0 ⟨rfl, h0⟩
  clear HT
  go_wp2_with (fail)
  refine (H1.out _).mono ?_
  rintro e w' ⟨rfl, rfl⟩
  go_wp2_with (fail)
  refine (CopyR_any A l ca w0 (by omega) (RowsAt.below hA h0)).mono ?_
  rintro e w1 hp
  obtain ⟨X0, x0, rfl, hX0, k1⟩ := hp.rows
  have h1 := h0.trans (k1.mono h0.size)
  clear hp h0
  go_wp2_with (fail)
  refine (HC.out _ _ _ hX0).mono ?_
  rintro e w2 ⟨R0, r0, rfl, I0, k2⟩
  have h2 := h1.trans (k2.mono h1.size)
  clear hX0 h1
  go_wp2_with (fail)
  refine (CopyR_any A l ca w2 (by omega) (RowsAt.below hA h2)).mono ?_
  rintro e w3 hp
  obtain ⟨X1, x1, rfl, hX1, k3⟩ := hp.rows
  have h3 := h2.trans (k3.mono h2.size)
  clear hp h2
  go_wp2_with (fail)
  refine (HD.out _ _ _ hX1).mono ?_
  rintro e w4 ⟨R1, r1, rfl, I1, k4⟩
  have h4 := h3.trans (k4.mono h3.size)
  clear hX1 h3
  go_wp2_with (fail)
  refine (CopyR_any A l ca w4 (by omega) (RowsAt.below hA h4)).mono ?_
  rintro e w5 hp
  obtain ⟨X2, x2, rfl, hX2, k5⟩ := hp.rows
  have h5 := h4.trans (k5.mono h4.size)
  clear hp h4
  go_wp2_with (fail)
  refine (HN.out _ _ _ hX2).mono ?_
  rintro e w6 ⟨R2, r2, rfl, I2, k6⟩
  have h6 := h5.trans (k6.mono h5.size)
  clear hX2 h5
  go_wp2_with (fail)
  refine (HR.out _ (RowsAt.below hA h6)).mono ?_
  rintro e w7 ⟨rfl, k7⟩
  have h7 := h6.trans (k7.mono h6.size)
  go_wp2_with (fail)
  refine (HRC.out _ (RowsAt.below hA h7)).mono ?_
  rintro e w8 ⟨R8, r8, rfl, I8, k8⟩
  have h8 := h7.trans (k8.mono h7.size)
  go_wp2_with (fail)
  refine (HRX.out _ (RowsAt.below hA h8)).mono ?_
  rintro e w9 ⟨hq, k9⟩
  have h9 := h8.trans (k9.mono h8.size)
  rcases hq with ⟨hz, -⟩ | ⟨b', a9, r9, hz, rfl, I9⟩
  · rw [HB.out] at hz; cases hz
  obtain rfl : b = b' := Option.some.inj (HB.out.symm.trans hz)
  have J2 : IntsAt w9 R2 b := RowsAt.below (RowsAt.below (RowsAt.below I2 k7) k8) k9
  clear hz HB
  go_wp2_with (fail)
  refine (HIE.out _ _ _ _ _ J2 I9).mono ?_
  rintro e w10 ⟨rfl, k10⟩
  have h10' := h9.trans (k10.mono h9.size)
  go_wp2_with (fail)
  go_ret
  exact ⟨rfl, h10'⟩
end Go.Proofs.YtppghnbabnhnbaaDoor
