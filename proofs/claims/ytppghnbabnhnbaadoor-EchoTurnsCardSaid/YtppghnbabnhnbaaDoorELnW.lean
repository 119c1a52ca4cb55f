/-
  Chapter 2: EchoLines, walked.
-/
import Derived.Test.YtppghnbabnhnbaaDoorELag
import Derived.Test.YtppghnbabnhnbaaDoorERDp
import Derived.Test.YtppghnbabnhnbaaDoorERSm
import Derived.Test.YtppghnbabnhnbaaDoorEAwk
namespace Go.Proofs.YtppghnbabnhnbaaDoor
open Go.ChangeShapes Go.WideShapes Go.ChangeAt Go.RowKit
set_option linter.unusedVariables false
set_option linter.unusedSimpArgs false

theorem few_any (A : Option Addr) (l : List Gs) (ca : Nat) (w : World) (b : Bool) (hb : decide ((l.length : Int) ≤ 66) = b) :
    Calls Tryd.prog 55 #[.slice A l.length ca] w fun e w' => e = .returned (.bool b) ∧ w = w' := by
  go_enter Tryd.func55, Tryd.ntmps55
  go_wp2
  go_ret
  exact ⟨rfl, rfl⟩
theorem CopyG_cap (B : Option Addr) (l : List Gs) (cap : Nat) (w : World) (hl : l.length ≤ 1000) (hB : GsAt w B l) :
    Calls Tryd.prog 44 #[.slice B l.length cap] w fun e w' => ∃ A' c', e = .returned (.slice A' l.length c') ∧ l.length ≤ c' ∧ GsAt w' A' l ∧ Below w.heap.size w w' := by
  refine (CopyG_any B l cap w hl hB).mono fun e w' h => ?_
  obtain ⟨A', c', e1, own, hb⟩ := h
  exact ⟨A', c', e1, own_cap own, rowsAt_of_own own rfl (by decide), hb⟩
theorem lagQ_1 {x : List Gs} (h : ¬ 2 ≤ x.length) : lagQ x = (⟨0, 0⟩, 10) := by
  have e : lagE x = 10 := by unfold lagE; rw [decide_eq_false h, unl_false, firstE_nz (by decide)]
  unfold lagQ; rw [if_neg (by rw [e]; decide), e]; rfl
theorem lagQ_2 {x : List Gs} (h : 2 ≤ x.length) (hc : smpsE x ≠ 0) : lagQ x = (⟨0, 0⟩, smpsE x) := by
  have e : lagE x = smpsE x := by unfold lagE; rw [decide_eq_true h, unl_true, firstE_z, firstE1]
  unfold lagQ; rw [if_neg (by rw [e]; exact hc), e]; rfl
theorem lagQ_3 {x : List Gs} (h : 2 ≤ x.length) (hc : smpsE x = 0) : lagQ x = (lagP x, 0) := if_pos (lagE_of h hc)
theorem linE_1 {x : List Gs} (h : ¬ 0 < x.length) : linE x = 10 := by unfold linE; rw [decide_eq_false h, unl_false, firstE_nz (by decide)]
theorem linE_2 {x : List Gs} (h : 0 < x.length) : linE x = smpsE x := by unfold linE; rw [decide_eq_true h, unl_true, firstE_z, firstE1]
theorem linV_z {x : List Gs} (h : linE x ≠ 0) : linV x = fun _ => gz := funext fun j => if_neg h
theorem linV_p {x : List Gs} (h : linE x = 0) : linV x = linP x := funext fun j => if_pos h
theorem dopQ_z {x : List Gs} (h : linE x ≠ 0) : dopQ x = (0, linE x) := if_neg h
theorem dopQ_p {x : List Gs} (h : linE x = 0) : dopQ x = (((dopK (linP x) 4 : Nat) : Int), unl (nzL (linP x)) 11) := if_pos h
theorem dop_max (v : Nat → Gs) : ∀ n j, j < n → gnorm (v j) ≤ gnorm (v (dopK v n))
  | 0, j, h => by omega
  | n + 1, j, h => by
    rw [dopK]
    by_cases c : gnorm (v (dopK v n)) < gnorm (v n)
    · rw [if_pos c]
      by_cases e : j = n
      · rw [e]; exact Int.le_refl _
      · have := dop_max v n j (by omega); omega
    · rw [if_neg c]
      by_cases e : j = n
      · rw [e]; omega
      · exact dop_max v n j (by omega)
theorem gnorm_nn (g : Gs) : 0 ≤ gnorm g := by
  have a := mul_self_nonneg' g.re
  have b := mul_self_nonneg' g.im
  unfold gnorm; omega
theorem eqB_iff {a b : Gs} : eqB a b = true ↔ a = b := by
  unfold eqB
  constructor
  · intro h; rw [Bool.and_eq_true, beq_iff_eq, beq_iff_eq] at h; exact Gs.ext2 h.1 h.2
  · rintro rfl; simp
theorem nzL_ff {v : Nat → Gs} (h : nzL v = false) : ∀ j, j < 4 → v j = gz := by
  unfold nzL eqL4 at h
  simp only [Bool.not_eq_false', Bool.and_eq_true, eqB_iff] at h
  intro j hj
  have h4 : j = 0 ∨ j = 1 ∨ j = 2 ∨ j = 3 := by omega
  rcases h4 with rfl | rfl | rfl | rfl
  · exact h.1
  · exact h.2.1
  · exact h.2.2.1
  · exact h.2.2.2
theorem dop_zero {v : Nat → Gs} (h : ∀ j, j < 4 → v j = gz) : ∀ n, n ≤ 4 → dopK v n = 0
  | 0, _ => rfl
  | n + 1, hn => by
    rw [dopK, dop_zero h n (by omega), h 0 (by decide), h n (by omega), if_neg (by decide)]
theorem nzL_dop (x : List Gs) : nzL (linP x) = dopB x ∧ (nzL (linP x) = false → dopK (linP x) 4 = 0) := by
  unfold dopB
  generalize linP x = v
  cases hn : nzL v
  · have hz := nzL_ff hn
    have e := dop_zero hz 4 (Nat.le_refl _)
    refine ⟨?_, fun _ => e⟩
    rw [e, hz 0 (by decide)]
    rfl
  · refine ⟨?_, fun h => by cases h⟩
    symm
    rw [decide_eq_true_eq]
    apply Int.not_le.1
    intro hle
    have hz : ∀ j, j < 4 → v j = gz := fun j hj => by
      have := dop_max v 4 j hj
      have h0 := gnorm_nn (v j)
      by_cases e : v j = gz
      · exact e
      · have := gnorm_pos e; omega
    have hf : nzL v = false := by
      unfold nzL eqL4
      rw [hz 0 (by decide), hz 1 (by decide), hz 2 (by decide), hz 3 (by decide)]
      rfl
    rw [hf] at hn; cases hn
set_option maxRecDepth 100000 in
set_option maxHeartbeats 16000000 in
theorem lines_0 (A : Option Addr) (x : List Gs) (ca : Nat) (h : Nat → Gs) (w : World) (ht : Tab w) (hA : GsAt w A x) (hxl : x.length ≤ 66) (hn : x.length = 0) :
    Calls Tryd.prog 9 #[.slice A x.length ca, gv4 h] w fun e w' => e = .returned (.bool true) ∧ Below w.heap.size w w' := by
  have HT := Lib.hid ht
  have HFW := Lib.hid (fun W => few_any A x ca W true (decide_eq_true (by omega)))
  have HCP := Lib.hid (fun W (hB : GsAt W A x) => CopyG_cap A x ca W (by omega) hB)
  have HLG := Lib.hid (fun W B c (hc : x.length ≤ c) (hB : GsAt W B x) => LagProduct_any B x c W (by omega) hc hB)
  have HLN := Lib.hid (fun W B c (hB : GsAt W B x) => LinesOf_any B x c W (by omega) hB)
  have HDP := Lib.hid (fun W B c (hB : GsAt W B x) => DopplerOf_any B x c W (by omega) hB)
  have HS1 := Lib.hid (fun W => SumsOf_any h W)
  have HS2 := Lib.hid (fun W => RSums_any h W)
  have HSE := Lib.hid (fun W (hB : GsAt W A x) => RSamplesErr_any A x ca W (by omega) hB)
  have hsn := neL (smsV h) (smsV h)
  have hss : eqL4 (smsV h) (smsV h) = true := by simp [eqL4, eqB]
  rw [hss] at hsn
  have hee : (smsE h != smsE h) = false := by simp
  have hxi : (x.length : Int) ≤ 66 := by omega
  have hl1 := linE_1 (show ¬ 0 < x.length by omega)
  have hl2 : linE x ≠ 0 := by rw [hl1]; decide
  rw [lagQ_1 (by omega)] at HLG
  rw [linV_z hl2, hl1] at HLN
  rw [dopQ_z hl2, hl1] at HDP
  rw [hn] at *
  have hni : ((0 : Nat) : Int) = 0 := rfl
  have hzL := eqL (fun _ => gz) (fun _ => gz)
  have hzl : eqL4 (fun _ => gz) (fun _ => gz) = true := rfl
  rw [hzl] at hzL
  clear hzl
  have hzG := eqG gz gz
  have hzg : eqB gz gz = true := rfl
  rw [hzg] at hzG
  clear hzg
  clear hl1 hl2
  clear ht hss
  generalize smsE h = se at *
  generalize smsV h = sv at *
  generalize smpsE x = c at *
  simp only [gv4, gv, gz] at *
  go_enter Tryd.func9, Tryd.ntmps9
  go_upto_region 1 with (fail)
  have hb0 : Below w.heap.size w (w.alloc (.cells #[.int .i64 (h 0).re, .int .i64 (h 0).im, .int .i64 (h 1).re, .int .i64 (h 1).im, .int .i64 (h 2).re, .int .i64 (h 2).im, .int .i64 (h 3).re, .int .i64 (h 3).im] 73)) := below_alloc _ (Nat.le_refl _) (Below.refl _ _)
  have q0 : (w.alloc (.cells #[.int .i64 (h 0).re, .int .i64 (h 0).im, .int .i64 (h 1).re, .int .i64 (h 1).im, .int .i64 (h 2).re, .int .i64 (h 2).im, .int .i64 (h 3).re, .int .i64 (h 3).im] 73)).cell? ⟨w.heap.size, 0, none⟩ = some (.int .i64 (h 0).re) := cell_new (by simp) rfl
  have q1 : (w.alloc (.cells #[.int .i64 (h 0).re, .int .i64 (h 0).im, .int .i64 (h 1).re, .int .i64 (h 1).im, .int .i64 (h 2).re, .int .i64 (h 2).im, .int .i64 (h 3).re, .int .i64 (h 3).im] 73)).cell? ⟨w.heap.size, 1, none⟩ = some (.int .i64 (h 0).im) := cell_new (by simp) rfl
  have q2 : (w.alloc (.cells #[.int .i64 (h 0).re, .int .i64 (h 0).im, .int .i64 (h 1).re, .int .i64 (h 1).im, .int .i64 (h 2).re, .int .i64 (h 2).im, .int .i64 (h 3).re, .int .i64 (h 3).im] 73)).cell? ⟨w.heap.size, 2, none⟩ = some (.int .i64 (h 1).re) := cell_new (by simp) rfl
  have q3 : (w.alloc (.cells #[.int .i64 (h 0).re, .int .i64 (h 0).im, .int .i64 (h 1).re, .int .i64 (h 1).im, .int .i64 (h 2).re, .int .i64 (h 2).im, .int .i64 (h 3).re, .int .i64 (h 3).im] 73)).cell? ⟨w.heap.size, 3, none⟩ = some (.int .i64 (h 1).im) := cell_new (by simp) rfl
  have q4 : (w.alloc (.cells #[.int .i64 (h 0).re, .int .i64 (h 0).im, .int .i64 (h 1).re, .int .i64 (h 1).im, .int .i64 (h 2).re, .int .i64 (h 2).im, .int .i64 (h 3).re, .int .i64 (h 3).im] 73)).cell? ⟨w.heap.size, 4, none⟩ = some (.int .i64 (h 2).re) := cell_new (by simp) rfl
  have q5 : (w.alloc (.cells #[.int .i64 (h 0).re, .int .i64 (h 0).im, .int .i64 (h 1).re, .int .i64 (h 1).im, .int .i64 (h 2).re, .int .i64 (h 2).im, .int .i64 (h 3).re, .int .i64 (h 3).im] 73)).cell? ⟨w.heap.size, 5, none⟩ = some (.int .i64 (h 2).im) := cell_new (by simp) rfl
  have q6 : (w.alloc (.cells #[.int .i64 (h 0).re, .int .i64 (h 0).im, .int .i64 (h 1).re, .int .i64 (h 1).im, .int .i64 (h 2).re, .int .i64 (h 2).im, .int .i64 (h 3).re, .int .i64 (h 3).im] 73)).cell? ⟨w.heap.size, 6, none⟩ = some (.int .i64 (h 3).re) := cell_new (by simp) rfl
  have q7 : (w.alloc (.cells #[.int .i64 (h 0).re, .int .i64 (h 0).im, .int .i64 (h 1).re, .int .i64 (h 1).im, .int .i64 (h 2).re, .int .i64 (h 2).im, .int .i64 (h 3).re, .int .i64 (h 3).im] 73)).cell? ⟨w.heap.size, 7, none⟩ = some (.int .i64 (h 3).im) := cell_new (by simp) rfl
  have zq : w.heap.size < (w.alloc (.cells #[.int .i64 (h 0).re, .int .i64 (h 0).im, .int .i64 (h 1).re, .int .i64 (h 1).im, .int .i64 (h 2).re, .int .i64 (h 2).im, .int .i64 (h 3).re, .int .i64 (h 3).im] 73)).heap.size := World.block_lt_of_cell? _ _ q0
  generalize (w.alloc (.cells #[.int .i64 (h 0).re, .int .i64 (h 0).im, .int .i64 (h 1).re, .int .i64 (h 1).im, .int .i64 (h 2).re, .int .i64 (h 2).im, .int .i64 (h 3).re, .int .i64 (h 3).im] 73)) = w0 at *
  have HT0 := Lib.hid (HT.out.below hb0)
  go_wp2_with (fail)
  refine (awake_any w0 HT0.out).mono ?_
  rintro e w1 ⟨rfl, hb1⟩
  have hA0 := RowsAt.below hA hb0
  have k1 : Below w.heap.size w w1 := (hb0).trans ((hb1).mono (hb0).size)
  replace q0 := cell_below' hb1 q0
  replace q1 := cell_below' hb1 q1
  replace q2 := cell_below' hb1 q2
  replace q3 := cell_below' hb1 q3
  replace q4 := cell_below' hb1 q4
  replace q5 := cell_below' hb1 q5
  replace q6 := cell_below' hb1 q6
  replace q7 := cell_below' hb1 q7
  replace zq := Nat.lt_of_lt_of_le zq (hb1).size
  replace hA0 := RowsAt.below hA0 hb1
  clear hb1 hb0
  clear HT HT0 hA
  go_wp2_with (fail)
  refine (HFW.out _).mono ?_
  rintro e w' ⟨rfl, rfl⟩
  clear HFW
  go_wp2_with (fail)
  refine (HCP.out _ hA0).mono ?_
  rintro e w2 ⟨B2, c2, rfl, hc2, hB2, hb2⟩
  have k2 : Below w.heap.size w w2 := (k1).trans ((hb2).mono (k1).size)
  replace q0 := cell_below' hb2 q0
  replace q1 := cell_below' hb2 q1
  replace q2 := cell_below' hb2 q2
  replace q3 := cell_below' hb2 q3
  replace q4 := cell_below' hb2 q4
  replace q5 := cell_below' hb2 q5
  replace q6 := cell_below' hb2 q6
  replace q7 := cell_below' hb2 q7
  replace zq := Nat.lt_of_lt_of_le zq (hb2).size
  replace hA0 := RowsAt.below hA0 hb2
  clear hb2 k1
  go_wp2_with (fail)
  refine (HLG.out _ _ _ hc2 hB2).mono ?_
  rintro e w3 ⟨rfl, hb3⟩
  have k3 : Below w.heap.size w w3 := (k2).trans ((hb3).mono (k2).size)
  replace q0 := cell_below' hb3 q0
  replace q1 := cell_below' hb3 q1
  replace q2 := cell_below' hb3 q2
  replace q3 := cell_below' hb3 q3
  replace q4 := cell_below' hb3 q4
  replace q5 := cell_below' hb3 q5
  replace q6 := cell_below' hb3 q6
  replace q7 := cell_below' hb3 q7
  replace zq := Nat.lt_of_lt_of_le zq (hb3).size
  replace hA0 := RowsAt.below hA0 hb3
  clear hb3 k2
  clear HLG hB2
  go_upto_region 6 with (fail)
  have hb4 : Below w3.heap.size w3 (w3.alloc (.cells #[.int .i64 0, .int .i64 0] 24)) := below_alloc _ (Nat.le_refl _) (Below.refl _ _)
  have p0 : (w3.alloc (.cells #[.int .i64 0, .int .i64 0] 24)).cell? ⟨w3.heap.size, 0, none⟩ = some (.int .i64 0) := cell_new (by simp) rfl
  have p1 : (w3.alloc (.cells #[.int .i64 0, .int .i64 0] 24)).cell? ⟨w3.heap.size, 1, none⟩ = some (.int .i64 0) := cell_new (by simp) rfl
  have zp : w3.heap.size < (w3.alloc (.cells #[.int .i64 0, .int .i64 0] 24)).heap.size := World.block_lt_of_cell? _ _ p0
  generalize (w3.alloc (.cells #[.int .i64 0, .int .i64 0] 24)) = w4 at *
  have k4 : Below w.heap.size w w4 := (k3).trans ((hb4).mono (k3).size)
  replace q0 := cell_below' hb4 q0
  replace q1 := cell_below' hb4 q1
  replace q2 := cell_below' hb4 q2
  replace q3 := cell_below' hb4 q3
  replace q4 := cell_below' hb4 q4
  replace q5 := cell_below' hb4 q5
  replace q6 := cell_below' hb4 q6
  replace q7 := cell_below' hb4 q7
  replace zq := Nat.lt_of_lt_of_le zq (hb4).size
  replace hA0 := RowsAt.below hA0 hb4
  clear hb4 k3
  generalize w3.heap.size = pb at *
  go_wp2_with (fail)
  refine (HCP.out _ hA0).mono ?_
  rintro e w5 ⟨B5, c5, rfl, hc5, hB5, hb5⟩
  have k5 : Below w.heap.size w w5 := (k4).trans ((hb5).mono (k4).size)
  replace q0 := cell_below' hb5 q0
  replace q1 := cell_below' hb5 q1
  replace q2 := cell_below' hb5 q2
  replace q3 := cell_below' hb5 q3
  replace q4 := cell_below' hb5 q4
  replace q5 := cell_below' hb5 q5
  replace q6 := cell_below' hb5 q6
  replace q7 := cell_below' hb5 q7
  replace zq := Nat.lt_of_lt_of_le zq (hb5).size
  replace p0 := cell_below' hb5 p0
  replace p1 := cell_below' hb5 p1
  replace zp := Nat.lt_of_lt_of_le zp (hb5).size
  replace hA0 := RowsAt.below hA0 hb5
  clear hb5 k4
  go_wp2_with (fail)
  refine (HLN.out _ _ _ hB5).mono ?_
  rintro e w6 ⟨rfl, hb6⟩
  have k6 : Below w.heap.size w w6 := (k5).trans ((hb6).mono (k5).size)
  replace q0 := cell_below' hb6 q0
  replace q1 := cell_below' hb6 q1
  replace q2 := cell_below' hb6 q2
  replace q3 := cell_below' hb6 q3
  replace q4 := cell_below' hb6 q4
  replace q5 := cell_below' hb6 q5
  replace q6 := cell_below' hb6 q6
  replace q7 := cell_below' hb6 q7
  replace zq := Nat.lt_of_lt_of_le zq (hb6).size
  replace p0 := cell_below' hb6 p0
  replace p1 := cell_below' hb6 p1
  replace zp := Nat.lt_of_lt_of_le zp (hb6).size
  replace hA0 := RowsAt.below hA0 hb6
  clear hb6 k5
  clear HLN hB5
  go_upto_region 7 with (fail)
  have hb7 : Below w6.heap.size w6 (w6.alloc (.cells #[.int .i64 0, .int .i64 0, .int .i64 0, .int .i64 0, .int .i64 0, .int .i64 0, .int .i64 0, .int .i64 0] 73)) := below_alloc _ (Nat.le_refl _) (Below.refl _ _)
  have l0 : (w6.alloc (.cells #[.int .i64 0, .int .i64 0, .int .i64 0, .int .i64 0, .int .i64 0, .int .i64 0, .int .i64 0, .int .i64 0] 73)).cell? ⟨w6.heap.size, 0, none⟩ = some (.int .i64 0) := cell_new (by simp) rfl
  have l1 : (w6.alloc (.cells #[.int .i64 0, .int .i64 0, .int .i64 0, .int .i64 0, .int .i64 0, .int .i64 0, .int .i64 0, .int .i64 0] 73)).cell? ⟨w6.heap.size, 1, none⟩ = some (.int .i64 0) := cell_new (by simp) rfl
  have l2 : (w6.alloc (.cells #[.int .i64 0, .int .i64 0, .int .i64 0, .int .i64 0, .int .i64 0, .int .i64 0, .int .i64 0, .int .i64 0] 73)).cell? ⟨w6.heap.size, 2, none⟩ = some (.int .i64 0) := cell_new (by simp) rfl
  have l3 : (w6.alloc (.cells #[.int .i64 0, .int .i64 0, .int .i64 0, .int .i64 0, .int .i64 0, .int .i64 0, .int .i64 0, .int .i64 0] 73)).cell? ⟨w6.heap.size, 3, none⟩ = some (.int .i64 0) := cell_new (by simp) rfl
  have l4 : (w6.alloc (.cells #[.int .i64 0, .int .i64 0, .int .i64 0, .int .i64 0, .int .i64 0, .int .i64 0, .int .i64 0, .int .i64 0] 73)).cell? ⟨w6.heap.size, 4, none⟩ = some (.int .i64 0) := cell_new (by simp) rfl
  have l5 : (w6.alloc (.cells #[.int .i64 0, .int .i64 0, .int .i64 0, .int .i64 0, .int .i64 0, .int .i64 0, .int .i64 0, .int .i64 0] 73)).cell? ⟨w6.heap.size, 5, none⟩ = some (.int .i64 0) := cell_new (by simp) rfl
  have l6 : (w6.alloc (.cells #[.int .i64 0, .int .i64 0, .int .i64 0, .int .i64 0, .int .i64 0, .int .i64 0, .int .i64 0, .int .i64 0] 73)).cell? ⟨w6.heap.size, 6, none⟩ = some (.int .i64 0) := cell_new (by simp) rfl
  have l7 : (w6.alloc (.cells #[.int .i64 0, .int .i64 0, .int .i64 0, .int .i64 0, .int .i64 0, .int .i64 0, .int .i64 0, .int .i64 0] 73)).cell? ⟨w6.heap.size, 7, none⟩ = some (.int .i64 0) := cell_new (by simp) rfl
  have zl : w6.heap.size < (w6.alloc (.cells #[.int .i64 0, .int .i64 0, .int .i64 0, .int .i64 0, .int .i64 0, .int .i64 0, .int .i64 0, .int .i64 0] 73)).heap.size := World.block_lt_of_cell? _ _ l0
  generalize (w6.alloc (.cells #[.int .i64 0, .int .i64 0, .int .i64 0, .int .i64 0, .int .i64 0, .int .i64 0, .int .i64 0, .int .i64 0] 73)) = w7 at *
  have k7 : Below w.heap.size w w7 := (k6).trans ((hb7).mono (k6).size)
  replace q0 := cell_below' hb7 q0
  replace q1 := cell_below' hb7 q1
  replace q2 := cell_below' hb7 q2
  replace q3 := cell_below' hb7 q3
  replace q4 := cell_below' hb7 q4
  replace q5 := cell_below' hb7 q5
  replace q6 := cell_below' hb7 q6
  replace q7 := cell_below' hb7 q7
  replace zq := Nat.lt_of_lt_of_le zq (hb7).size
  replace p0 := cell_below' hb7 p0
  replace p1 := cell_below' hb7 p1
  replace zp := Nat.lt_of_lt_of_le zp (hb7).size
  replace hA0 := RowsAt.below hA0 hb7
  clear hb7 k6
  generalize w6.heap.size = lb at *
  go_wp2_with (fail)
  refine (HCP.out _ hA0).mono ?_
  rintro e w8 ⟨B8, c8, rfl, hc8, hB8, hb8⟩
  have k8 : Below w.heap.size w w8 := (k7).trans ((hb8).mono (k7).size)
  replace q0 := cell_below' hb8 q0
  replace q1 := cell_below' hb8 q1
  replace q2 := cell_below' hb8 q2
  replace q3 := cell_below' hb8 q3
  replace q4 := cell_below' hb8 q4
  replace q5 := cell_below' hb8 q5
  replace q6 := cell_below' hb8 q6
  replace q7 := cell_below' hb8 q7
  replace zq := Nat.lt_of_lt_of_le zq (hb8).size
  replace p0 := cell_below' hb8 p0
  replace p1 := cell_below' hb8 p1
  replace zp := Nat.lt_of_lt_of_le zp (hb8).size
  replace l0 := cell_below' hb8 l0
  replace l1 := cell_below' hb8 l1
  replace l2 := cell_below' hb8 l2
  replace l3 := cell_below' hb8 l3
  replace l4 := cell_below' hb8 l4
  replace l5 := cell_below' hb8 l5
  replace l6 := cell_below' hb8 l6
  replace l7 := cell_below' hb8 l7
  replace zl := Nat.lt_of_lt_of_le zl (hb8).size
  replace hA0 := RowsAt.below hA0 hb8
  clear hb8 k7
  go_wp2_with (fail)
  refine (HDP.out _ _ _ hB8).mono ?_
  rintro e w9 ⟨rfl, hb9⟩
  have k9 : Below w.heap.size w w9 := (k8).trans ((hb9).mono (k8).size)
  replace q0 := cell_below' hb9 q0
  replace q1 := cell_below' hb9 q1
  replace q2 := cell_below' hb9 q2
  replace q3 := cell_below' hb9 q3
  replace q4 := cell_below' hb9 q4
  replace q5 := cell_below' hb9 q5
  replace q6 := cell_below' hb9 q6
  replace q7 := cell_below' hb9 q7
  replace zq := Nat.lt_of_lt_of_le zq (hb9).size
  replace p0 := cell_below' hb9 p0
  replace p1 := cell_below' hb9 p1
  replace zp := Nat.lt_of_lt_of_le zp (hb9).size
  replace l0 := cell_below' hb9 l0
  replace l1 := cell_below' hb9 l1
  replace l2 := cell_below' hb9 l2
  replace l3 := cell_below' hb9 l3
  replace l4 := cell_below' hb9 l4
  replace l5 := cell_below' hb9 l5
  replace l6 := cell_below' hb9 l6
  replace l7 := cell_below' hb9 l7
  replace zl := Nat.lt_of_lt_of_le zl (hb9).size
  replace hA0 := RowsAt.below hA0 hb9
  clear hb9 k8
  clear HDP hB8 HCP
  go_wp2_with (fail)
  refine (HS1.out _).mono ?_
  rintro e wa ⟨rfl, hba⟩
  have ka : Below w.heap.size w wa := (k9).trans ((hba).mono (k9).size)
  replace q0 := cell_below' hba q0
  replace q1 := cell_below' hba q1
  replace q2 := cell_below' hba q2
  replace q3 := cell_below' hba q3
  replace q4 := cell_below' hba q4
  replace q5 := cell_below' hba q5
  replace q6 := cell_below' hba q6
  replace q7 := cell_below' hba q7
  replace zq := Nat.lt_of_lt_of_le zq (hba).size
  replace p0 := cell_below' hba p0
  replace p1 := cell_below' hba p1
  replace zp := Nat.lt_of_lt_of_le zp (hba).size
  replace l0 := cell_below' hba l0
  replace l1 := cell_below' hba l1
  replace l2 := cell_below' hba l2
  replace l3 := cell_below' hba l3
  replace l4 := cell_below' hba l4
  replace l5 := cell_below' hba l5
  replace l6 := cell_below' hba l6
  replace l7 := cell_below' hba l7
  replace zl := Nat.lt_of_lt_of_le zl (hba).size
  replace hA0 := RowsAt.below hA0 hba
  clear hba k9
  go_upto_region 9 with (fail)
  have hbb : Below wa.heap.size wa (wa.alloc (.cells #[.int .i64 (sv 0).re, .int .i64 (sv 0).im, .int .i64 (sv 1).re, .int .i64 (sv 1).im, .int .i64 (sv 2).re, .int .i64 (sv 2).im, .int .i64 (sv 3).re, .int .i64 (sv 3).im] 73)) := below_alloc _ (Nat.le_refl _) (Below.refl _ _)
  have s0 : (wa.alloc (.cells #[.int .i64 (sv 0).re, .int .i64 (sv 0).im, .int .i64 (sv 1).re, .int .i64 (sv 1).im, .int .i64 (sv 2).re, .int .i64 (sv 2).im, .int .i64 (sv 3).re, .int .i64 (sv 3).im] 73)).cell? ⟨wa.heap.size, 0, none⟩ = some (.int .i64 (sv 0).re) := cell_new (by simp) rfl
  have s1 : (wa.alloc (.cells #[.int .i64 (sv 0).re, .int .i64 (sv 0).im, .int .i64 (sv 1).re, .int .i64 (sv 1).im, .int .i64 (sv 2).re, .int .i64 (sv 2).im, .int .i64 (sv 3).re, .int .i64 (sv 3).im] 73)).cell? ⟨wa.heap.size, 1, none⟩ = some (.int .i64 (sv 0).im) := cell_new (by simp) rfl
  have s2 : (wa.alloc (.cells #[.int .i64 (sv 0).re, .int .i64 (sv 0).im, .int .i64 (sv 1).re, .int .i64 (sv 1).im, .int .i64 (sv 2).re, .int .i64 (sv 2).im, .int .i64 (sv 3).re, .int .i64 (sv 3).im] 73)).cell? ⟨wa.heap.size, 2, none⟩ = some (.int .i64 (sv 1).re) := cell_new (by simp) rfl
  have s3 : (wa.alloc (.cells #[.int .i64 (sv 0).re, .int .i64 (sv 0).im, .int .i64 (sv 1).re, .int .i64 (sv 1).im, .int .i64 (sv 2).re, .int .i64 (sv 2).im, .int .i64 (sv 3).re, .int .i64 (sv 3).im] 73)).cell? ⟨wa.heap.size, 3, none⟩ = some (.int .i64 (sv 1).im) := cell_new (by simp) rfl
  have s4 : (wa.alloc (.cells #[.int .i64 (sv 0).re, .int .i64 (sv 0).im, .int .i64 (sv 1).re, .int .i64 (sv 1).im, .int .i64 (sv 2).re, .int .i64 (sv 2).im, .int .i64 (sv 3).re, .int .i64 (sv 3).im] 73)).cell? ⟨wa.heap.size, 4, none⟩ = some (.int .i64 (sv 2).re) := cell_new (by simp) rfl
  have s5 : (wa.alloc (.cells #[.int .i64 (sv 0).re, .int .i64 (sv 0).im, .int .i64 (sv 1).re, .int .i64 (sv 1).im, .int .i64 (sv 2).re, .int .i64 (sv 2).im, .int .i64 (sv 3).re, .int .i64 (sv 3).im] 73)).cell? ⟨wa.heap.size, 5, none⟩ = some (.int .i64 (sv 2).im) := cell_new (by simp) rfl
  have s6 : (wa.alloc (.cells #[.int .i64 (sv 0).re, .int .i64 (sv 0).im, .int .i64 (sv 1).re, .int .i64 (sv 1).im, .int .i64 (sv 2).re, .int .i64 (sv 2).im, .int .i64 (sv 3).re, .int .i64 (sv 3).im] 73)).cell? ⟨wa.heap.size, 6, none⟩ = some (.int .i64 (sv 3).re) := cell_new (by simp) rfl
  have s7 : (wa.alloc (.cells #[.int .i64 (sv 0).re, .int .i64 (sv 0).im, .int .i64 (sv 1).re, .int .i64 (sv 1).im, .int .i64 (sv 2).re, .int .i64 (sv 2).im, .int .i64 (sv 3).re, .int .i64 (sv 3).im] 73)).cell? ⟨wa.heap.size, 7, none⟩ = some (.int .i64 (sv 3).im) := cell_new (by simp) rfl
  have zs : wa.heap.size < (wa.alloc (.cells #[.int .i64 (sv 0).re, .int .i64 (sv 0).im, .int .i64 (sv 1).re, .int .i64 (sv 1).im, .int .i64 (sv 2).re, .int .i64 (sv 2).im, .int .i64 (sv 3).re, .int .i64 (sv 3).im] 73)).heap.size := World.block_lt_of_cell? _ _ s0
  generalize (wa.alloc (.cells #[.int .i64 (sv 0).re, .int .i64 (sv 0).im, .int .i64 (sv 1).re, .int .i64 (sv 1).im, .int .i64 (sv 2).re, .int .i64 (sv 2).im, .int .i64 (sv 3).re, .int .i64 (sv 3).im] 73)) = wb at *
  have kb : Below w.heap.size w wb := (ka).trans ((hbb).mono (ka).size)
  replace q0 := cell_below' hbb q0
  replace q1 := cell_below' hbb q1
  replace q2 := cell_below' hbb q2
  replace q3 := cell_below' hbb q3
  replace q4 := cell_below' hbb q4
  replace q5 := cell_below' hbb q5
  replace q6 := cell_below' hbb q6
  replace q7 := cell_below' hbb q7
  replace zq := Nat.lt_of_lt_of_le zq (hbb).size
  replace p0 := cell_below' hbb p0
  replace p1 := cell_below' hbb p1
  replace zp := Nat.lt_of_lt_of_le zp (hbb).size
  replace l0 := cell_below' hbb l0
  replace l1 := cell_below' hbb l1
  replace l2 := cell_below' hbb l2
  replace l3 := cell_below' hbb l3
  replace l4 := cell_below' hbb l4
  replace l5 := cell_below' hbb l5
  replace l6 := cell_below' hbb l6
  replace l7 := cell_below' hbb l7
  replace zl := Nat.lt_of_lt_of_le zl (hbb).size
  replace hA0 := RowsAt.below hA0 hbb
  clear hbb ka
  generalize wa.heap.size = sb at *
  go_wp2_with (fail)
  refine (HS2.out _).mono ?_
  rintro e wc ⟨rfl, hbc⟩
  have kc : Below w.heap.size w wc := (kb).trans ((hbc).mono (kb).size)
  replace p0 := cell_below' hbc p0
  replace p1 := cell_below' hbc p1
  replace zp := Nat.lt_of_lt_of_le zp (hbc).size
  replace l0 := cell_below' hbc l0
  replace l1 := cell_below' hbc l1
  replace l2 := cell_below' hbc l2
  replace l3 := cell_below' hbc l3
  replace l4 := cell_below' hbc l4
  replace l5 := cell_below' hbc l5
  replace l6 := cell_below' hbc l6
  replace l7 := cell_below' hbc l7
  replace zl := Nat.lt_of_lt_of_le zl (hbc).size
  replace s0 := cell_below' hbc s0
  replace s1 := cell_below' hbc s1
  replace s2 := cell_below' hbc s2
  replace s3 := cell_below' hbc s3
  replace s4 := cell_below' hbc s4
  replace s5 := cell_below' hbc s5
  replace s6 := cell_below' hbc s6
  replace s7 := cell_below' hbc s7
  replace zs := Nat.lt_of_lt_of_le zs (hbc).size
  replace hA0 := RowsAt.below hA0 hbc
  clear hbc kb
  clear HS1 HS2
  go_upto_region 10 with (fail)
  have hbd : Below wc.heap.size wc (wc.alloc (.cells #[.int .i64 (sv 0).re, .int .i64 (sv 0).im, .int .i64 (sv 1).re, .int .i64 (sv 1).im, .int .i64 (sv 2).re, .int .i64 (sv 2).im, .int .i64 (sv 3).re, .int .i64 (sv 3).im] 73)) := below_alloc _ (Nat.le_refl _) (Below.refl _ _)
  have t0 : (wc.alloc (.cells #[.int .i64 (sv 0).re, .int .i64 (sv 0).im, .int .i64 (sv 1).re, .int .i64 (sv 1).im, .int .i64 (sv 2).re, .int .i64 (sv 2).im, .int .i64 (sv 3).re, .int .i64 (sv 3).im] 73)).cell? ⟨wc.heap.size, 0, none⟩ = some (.int .i64 (sv 0).re) := cell_new (by simp) rfl
  have t1 : (wc.alloc (.cells #[.int .i64 (sv 0).re, .int .i64 (sv 0).im, .int .i64 (sv 1).re, .int .i64 (sv 1).im, .int .i64 (sv 2).re, .int .i64 (sv 2).im, .int .i64 (sv 3).re, .int .i64 (sv 3).im] 73)).cell? ⟨wc.heap.size, 1, none⟩ = some (.int .i64 (sv 0).im) := cell_new (by simp) rfl
  have t2 : (wc.alloc (.cells #[.int .i64 (sv 0).re, .int .i64 (sv 0).im, .int .i64 (sv 1).re, .int .i64 (sv 1).im, .int .i64 (sv 2).re, .int .i64 (sv 2).im, .int .i64 (sv 3).re, .int .i64 (sv 3).im] 73)).cell? ⟨wc.heap.size, 2, none⟩ = some (.int .i64 (sv 1).re) := cell_new (by simp) rfl
  have t3 : (wc.alloc (.cells #[.int .i64 (sv 0).re, .int .i64 (sv 0).im, .int .i64 (sv 1).re, .int .i64 (sv 1).im, .int .i64 (sv 2).re, .int .i64 (sv 2).im, .int .i64 (sv 3).re, .int .i64 (sv 3).im] 73)).cell? ⟨wc.heap.size, 3, none⟩ = some (.int .i64 (sv 1).im) := cell_new (by simp) rfl
  have t4 : (wc.alloc (.cells #[.int .i64 (sv 0).re, .int .i64 (sv 0).im, .int .i64 (sv 1).re, .int .i64 (sv 1).im, .int .i64 (sv 2).re, .int .i64 (sv 2).im, .int .i64 (sv 3).re, .int .i64 (sv 3).im] 73)).cell? ⟨wc.heap.size, 4, none⟩ = some (.int .i64 (sv 2).re) := cell_new (by simp) rfl
  have t5 : (wc.alloc (.cells #[.int .i64 (sv 0).re, .int .i64 (sv 0).im, .int .i64 (sv 1).re, .int .i64 (sv 1).im, .int .i64 (sv 2).re, .int .i64 (sv 2).im, .int .i64 (sv 3).re, .int .i64 (sv 3).im] 73)).cell? ⟨wc.heap.size, 5, none⟩ = some (.int .i64 (sv 2).im) := cell_new (by simp) rfl
  have t6 : (wc.alloc (.cells #[.int .i64 (sv 0).re, .int .i64 (sv 0).im, .int .i64 (sv 1).re, .int .i64 (sv 1).im, .int .i64 (sv 2).re, .int .i64 (sv 2).im, .int .i64 (sv 3).re, .int .i64 (sv 3).im] 73)).cell? ⟨wc.heap.size, 6, none⟩ = some (.int .i64 (sv 3).re) := cell_new (by simp) rfl
  have t7 : (wc.alloc (.cells #[.int .i64 (sv 0).re, .int .i64 (sv 0).im, .int .i64 (sv 1).re, .int .i64 (sv 1).im, .int .i64 (sv 2).re, .int .i64 (sv 2).im, .int .i64 (sv 3).re, .int .i64 (sv 3).im] 73)).cell? ⟨wc.heap.size, 7, none⟩ = some (.int .i64 (sv 3).im) := cell_new (by simp) rfl
  have zt : wc.heap.size < (wc.alloc (.cells #[.int .i64 (sv 0).re, .int .i64 (sv 0).im, .int .i64 (sv 1).re, .int .i64 (sv 1).im, .int .i64 (sv 2).re, .int .i64 (sv 2).im, .int .i64 (sv 3).re, .int .i64 (sv 3).im] 73)).heap.size := World.block_lt_of_cell? _ _ t0
  generalize (wc.alloc (.cells #[.int .i64 (sv 0).re, .int .i64 (sv 0).im, .int .i64 (sv 1).re, .int .i64 (sv 1).im, .int .i64 (sv 2).re, .int .i64 (sv 2).im, .int .i64 (sv 3).re, .int .i64 (sv 3).im] 73)) = wd at *
  have kd : Below w.heap.size w wd := (kc).trans ((hbd).mono (kc).size)
  replace p0 := cell_below' hbd p0
  replace p1 := cell_below' hbd p1
  replace zp := Nat.lt_of_lt_of_le zp (hbd).size
  replace l0 := cell_below' hbd l0
  replace l1 := cell_below' hbd l1
  replace l2 := cell_below' hbd l2
  replace l3 := cell_below' hbd l3
  replace l4 := cell_below' hbd l4
  replace l5 := cell_below' hbd l5
  replace l6 := cell_below' hbd l6
  replace l7 := cell_below' hbd l7
  replace zl := Nat.lt_of_lt_of_le zl (hbd).size
  replace s0 := cell_below' hbd s0
  replace s1 := cell_below' hbd s1
  replace s2 := cell_below' hbd s2
  replace s3 := cell_below' hbd s3
  replace s4 := cell_below' hbd s4
  replace s5 := cell_below' hbd s5
  replace s6 := cell_below' hbd s6
  replace s7 := cell_below' hbd s7
  replace zs := Nat.lt_of_lt_of_le zs (hbd).size
  replace hA0 := RowsAt.below hA0 hbd
  clear hbd kc
  go_wp2_with (fail)
  refine (HSE.out _ hA0).mono ?_
  rintro e we ⟨rfl, hbe⟩
  have ke : Below w.heap.size w we := (kd).trans ((hbe).mono (kd).size)
  replace p0 := cell_below' hbe p0
  replace p1 := cell_below' hbe p1
  replace zp := Nat.lt_of_lt_of_le zp (hbe).size
  replace l0 := cell_below' hbe l0
  replace l1 := cell_below' hbe l1
  replace l2 := cell_below' hbe l2
  replace l3 := cell_below' hbe l3
  replace l4 := cell_below' hbe l4
  replace l5 := cell_below' hbe l5
  replace l6 := cell_below' hbe l6
  replace l7 := cell_below' hbe l7
  replace zl := Nat.lt_of_lt_of_le zl (hbe).size
  replace hA0 := RowsAt.below hA0 hbe
  clear hbe kd
  clear HSE s0 s1 s2 s3 s4 s5 s6 s7 zs t0 t1 t2 t3 t4 t5 t6 t7
  go_wp2_with (fail)
  go_ret
  exact ⟨rfl, ke⟩
set_option maxRecDepth 100000 in
set_option maxHeartbeats 16000000 in
theorem lines_1e (A : Option Addr) (x : List Gs) (ca : Nat) (h : Nat → Gs) (w : World) (ht : Tab w) (hA : GsAt w A x) (hxl : x.length ≤ 66) (hn : x.length = 1) (hc : smpsE x ≠ 0) :
    Calls Tryd.prog 9 #[.slice A x.length ca, gv4 h] w fun e w' => e = .returned (.bool true) ∧ Below w.heap.size w w' := by
  have HT := Lib.hid ht
  have HFW := Lib.hid (fun W => few_any A x ca W true (decide_eq_true (by omega)))
  have HCP := Lib.hid (fun W (hB : GsAt W A x) => CopyG_cap A x ca W (by omega) hB)
  have HLG := Lib.hid (fun W B c (hc : x.length ≤ c) (hB : GsAt W B x) => LagProduct_any B x c W (by omega) hc hB)
  have HLN := Lib.hid (fun W B c (hB : GsAt W B x) => LinesOf_any B x c W (by omega) hB)
  have HDP := Lib.hid (fun W B c (hB : GsAt W B x) => DopplerOf_any B x c W (by omega) hB)
  have HS1 := Lib.hid (fun W => SumsOf_any h W)
  have HS2 := Lib.hid (fun W => RSums_any h W)
  have HSE := Lib.hid (fun W (hB : GsAt W A x) => RSamplesErr_any A x ca W (by omega) hB)
  have hsn := neL (smsV h) (smsV h)
  have hss : eqL4 (smsV h) (smsV h) = true := by simp [eqL4, eqB]
  rw [hss] at hsn
  have hee : (smsE h != smsE h) = false := by simp
  have hxi : (x.length : Int) ≤ 66 := by omega
  have hl1 := linE_2 (show 0 < x.length by omega)
  have hl2 : linE x ≠ 0 := by rw [hl1]; exact hc
  rw [lagQ_1 (by omega)] at HLG
  rw [linV_z hl2, hl1] at HLN
  rw [dopQ_z hl2, hl1] at HDP
  have hc1 : (smpsE x != 0) = true := by simpa using hc
  have hc2 : (smpsE x == 0) = false := by simpa using hc
  have hc3 : (smpsE x != smpsE x) = false := by simp
  have hc4 : (smpsE x == smpsE x) = true := by simp
  have hi0 : ((x.length : Int) == 0) = false := by rw [beq_eq_false_iff_ne]; omega
  have hi2 : decide ((x.length : Int) < 2) = true := by simp; omega
  have hzL := eqL (fun _ => gz) (fun _ => gz)
  have hzl : eqL4 (fun _ => gz) (fun _ => gz) = true := rfl
  rw [hzl] at hzL
  clear hzl
  have hnG := neG gz gz
  have hng : neB gz gz = false := rfl
  rw [hng] at hnG
  clear hng
  clear hn
  clear hl1 hl2 hc
  clear ht hss
  generalize smsE h = se at *
  generalize smsV h = sv at *
  generalize smpsE x = c at *
  simp only [gv4, gv, gz] at *
  go_enter Tryd.func9, Tryd.ntmps9
  go_upto_region 1 with (fail)
  have hb0 : Below w.heap.size w (w.alloc (.cells #[.int .i64 (h 0).re, .int .i64 (h 0).im, .int .i64 (h 1).re, .int .i64 (h 1).im, .int .i64 (h 2).re, .int .i64 (h 2).im, .int .i64 (h 3).re, .int .i64 (h 3).im] 73)) := below_alloc _ (Nat.le_refl _) (Below.refl _ _)
  have q0 : (w.alloc (.cells #[.int .i64 (h 0).re, .int .i64 (h 0).im, .int .i64 (h 1).re, .int .i64 (h 1).im, .int .i64 (h 2).re, .int .i64 (h 2).im, .int .i64 (h 3).re, .int .i64 (h 3).im] 73)).cell? ⟨w.heap.size, 0, none⟩ = some (.int .i64 (h 0).re) := cell_new (by simp) rfl
  have q1 : (w.alloc (.cells #[.int .i64 (h 0).re, .int .i64 (h 0).im, .int .i64 (h 1).re, .int .i64 (h 1).im, .int .i64 (h 2).re, .int .i64 (h 2).im, .int .i64 (h 3).re, .int .i64 (h 3).im] 73)).cell? ⟨w.heap.size, 1, none⟩ = some (.int .i64 (h 0).im) := cell_new (by simp) rfl
  have q2 : (w.alloc (.cells #[.int .i64 (h 0).re, .int .i64 (h 0).im, .int .i64 (h 1).re, .int .i64 (h 1).im, .int .i64 (h 2).re, .int .i64 (h 2).im, .int .i64 (h 3).re, .int .i64 (h 3).im] 73)).cell? ⟨w.heap.size, 2, none⟩ = some (.int .i64 (h 1).re) := cell_new (by simp) rfl
  have q3 : (w.alloc (.cells #[.int .i64 (h 0).re, .int .i64 (h 0).im, .int .i64 (h 1).re, .int .i64 (h 1).im, .int .i64 (h 2).re, .int .i64 (h 2).im, .int .i64 (h 3).re, .int .i64 (h 3).im] 73)).cell? ⟨w.heap.size, 3, none⟩ = some (.int .i64 (h 1).im) := cell_new (by simp) rfl
  have q4 : (w.alloc (.cells #[.int .i64 (h 0).re, .int .i64 (h 0).im, .int .i64 (h 1).re, .int .i64 (h 1).im, .int .i64 (h 2).re, .int .i64 (h 2).im, .int .i64 (h 3).re, .int .i64 (h 3).im] 73)).cell? ⟨w.heap.size, 4, none⟩ = some (.int .i64 (h 2).re) := cell_new (by simp) rfl
  have q5 : (w.alloc (.cells #[.int .i64 (h 0).re, .int .i64 (h 0).im, .int .i64 (h 1).re, .int .i64 (h 1).im, .int .i64 (h 2).re, .int .i64 (h 2).im, .int .i64 (h 3).re, .int .i64 (h 3).im] 73)).cell? ⟨w.heap.size, 5, none⟩ = some (.int .i64 (h 2).im) := cell_new (by simp) rfl
  have q6 : (w.alloc (.cells #[.int .i64 (h 0).re, .int .i64 (h 0).im, .int .i64 (h 1).re, .int .i64 (h 1).im, .int .i64 (h 2).re, .int .i64 (h 2).im, .int .i64 (h 3).re, .int .i64 (h 3).im] 73)).cell? ⟨w.heap.size, 6, none⟩ = some (.int .i64 (h 3).re) := cell_new (by simp) rfl
  have q7 : (w.alloc (.cells #[.int .i64 (h 0).re, .int .i64 (h 0).im, .int .i64 (h 1).re, .int .i64 (h 1).im, .int .i64 (h 2).re, .int .i64 (h 2).im, .int .i64 (h 3).re, .int .i64 (h 3).im] 73)).cell? ⟨w.heap.size, 7, none⟩ = some (.int .i64 (h 3).im) := cell_new (by simp) rfl
  have zq : w.heap.size < (w.alloc (.cells #[.int .i64 (h 0).re, .int .i64 (h 0).im, .int .i64 (h 1).re, .int .i64 (h 1).im, .int .i64 (h 2).re, .int .i64 (h 2).im, .int .i64 (h 3).re, .int .i64 (h 3).im] 73)).heap.size := World.block_lt_of_cell? _ _ q0
  generalize (w.alloc (.cells #[.int .i64 (h 0).re, .int .i64 (h 0).im, .int .i64 (h 1).re, .int .i64 (h 1).im, .int .i64 (h 2).re, .int .i64 (h 2).im, .int .i64 (h 3).re, .int .i64 (h 3).im] 73)) = w0 at *
  have HT0 := Lib.hid (HT.out.below hb0)
  go_wp2_with (fail)
  refine (awake_any w0 HT0.out).mono ?_
  rintro e w1 ⟨rfl, hb1⟩
  have hA0 := RowsAt.below hA hb0
  have k1 : Below w.heap.size w w1 := (hb0).trans ((hb1).mono (hb0).size)
  replace q0 := cell_below' hb1 q0
  replace q1 := cell_below' hb1 q1
  replace q2 := cell_below' hb1 q2
  replace q3 := cell_below' hb1 q3
  replace q4 := cell_below' hb1 q4
  replace q5 := cell_below' hb1 q5
  replace q6 := cell_below' hb1 q6
  replace q7 := cell_below' hb1 q7
  replace zq := Nat.lt_of_lt_of_le zq (hb1).size
  replace hA0 := RowsAt.below hA0 hb1
  clear hb1 hb0
  clear HT HT0 hA
  go_wp2_with (fail)
  refine (HFW.out _).mono ?_
  rintro e w' ⟨rfl, rfl⟩
  clear HFW
  go_wp2_with (fail)
  refine (HCP.out _ hA0).mono ?_
  rintro e w2 ⟨B2, c2, rfl, hc2, hB2, hb2⟩
  have k2 : Below w.heap.size w w2 := (k1).trans ((hb2).mono (k1).size)
  replace q0 := cell_below' hb2 q0
  replace q1 := cell_below' hb2 q1
  replace q2 := cell_below' hb2 q2
  replace q3 := cell_below' hb2 q3
  replace q4 := cell_below' hb2 q4
  replace q5 := cell_below' hb2 q5
  replace q6 := cell_below' hb2 q6
  replace q7 := cell_below' hb2 q7
  replace zq := Nat.lt_of_lt_of_le zq (hb2).size
  replace hA0 := RowsAt.below hA0 hb2
  clear hb2 k1
  go_wp2_with (fail)
  refine (HLG.out _ _ _ hc2 hB2).mono ?_
  rintro e w3 ⟨rfl, hb3⟩
  have k3 : Below w.heap.size w w3 := (k2).trans ((hb3).mono (k2).size)
  replace q0 := cell_below' hb3 q0
  replace q1 := cell_below' hb3 q1
  replace q2 := cell_below' hb3 q2
  replace q3 := cell_below' hb3 q3
  replace q4 := cell_below' hb3 q4
  replace q5 := cell_below' hb3 q5
  replace q6 := cell_below' hb3 q6
  replace q7 := cell_below' hb3 q7
  replace zq := Nat.lt_of_lt_of_le zq (hb3).size
  replace hA0 := RowsAt.below hA0 hb3
  clear hb3 k2
  clear HLG hB2
  go_upto_region 6 with (fail)
  have hb4 : Below w3.heap.size w3 (w3.alloc (.cells #[.int .i64 0, .int .i64 0] 24)) := below_alloc _ (Nat.le_refl _) (Below.refl _ _)
  have p0 : (w3.alloc (.cells #[.int .i64 0, .int .i64 0] 24)).cell? ⟨w3.heap.size, 0, none⟩ = some (.int .i64 0) := cell_new (by simp) rfl
  have p1 : (w3.alloc (.cells #[.int .i64 0, .int .i64 0] 24)).cell? ⟨w3.heap.size, 1, none⟩ = some (.int .i64 0) := cell_new (by simp) rfl
  have zp : w3.heap.size < (w3.alloc (.cells #[.int .i64 0, .int .i64 0] 24)).heap.size := World.block_lt_of_cell? _ _ p0
  generalize (w3.alloc (.cells #[.int .i64 0, .int .i64 0] 24)) = w4 at *
  have k4 : Below w.heap.size w w4 := (k3).trans ((hb4).mono (k3).size)
  replace q0 := cell_below' hb4 q0
  replace q1 := cell_below' hb4 q1
  replace q2 := cell_below' hb4 q2
  replace q3 := cell_below' hb4 q3
  replace q4 := cell_below' hb4 q4
  replace q5 := cell_below' hb4 q5
  replace q6 := cell_below' hb4 q6
  replace q7 := cell_below' hb4 q7
  replace zq := Nat.lt_of_lt_of_le zq (hb4).size
  replace hA0 := RowsAt.below hA0 hb4
  clear hb4 k3
  generalize w3.heap.size = pb at *
  go_wp2_with (fail)
  refine (HCP.out _ hA0).mono ?_
  rintro e w5 ⟨B5, c5, rfl, hc5, hB5, hb5⟩
  have k5 : Below w.heap.size w w5 := (k4).trans ((hb5).mono (k4).size)
  replace q0 := cell_below' hb5 q0
  replace q1 := cell_below' hb5 q1
  replace q2 := cell_below' hb5 q2
  replace q3 := cell_below' hb5 q3
  replace q4 := cell_below' hb5 q4
  replace q5 := cell_below' hb5 q5
  replace q6 := cell_below' hb5 q6
  replace q7 := cell_below' hb5 q7
  replace zq := Nat.lt_of_lt_of_le zq (hb5).size
  replace p0 := cell_below' hb5 p0
  replace p1 := cell_below' hb5 p1
  replace zp := Nat.lt_of_lt_of_le zp (hb5).size
  replace hA0 := RowsAt.below hA0 hb5
  clear hb5 k4
  go_wp2_with (fail)
  refine (HLN.out _ _ _ hB5).mono ?_
  rintro e w6 ⟨rfl, hb6⟩
  have k6 : Below w.heap.size w w6 := (k5).trans ((hb6).mono (k5).size)
  replace q0 := cell_below' hb6 q0
  replace q1 := cell_below' hb6 q1
  replace q2 := cell_below' hb6 q2
  replace q3 := cell_below' hb6 q3
  replace q4 := cell_below' hb6 q4
  replace q5 := cell_below' hb6 q5
  replace q6 := cell_below' hb6 q6
  replace q7 := cell_below' hb6 q7
  replace zq := Nat.lt_of_lt_of_le zq (hb6).size
  replace p0 := cell_below' hb6 p0
  replace p1 := cell_below' hb6 p1
  replace zp := Nat.lt_of_lt_of_le zp (hb6).size
  replace hA0 := RowsAt.below hA0 hb6
  clear hb6 k5
  clear HLN hB5
  go_upto_region 7 with (fail)
  have hb7 : Below w6.heap.size w6 (w6.alloc (.cells #[.int .i64 0, .int .i64 0, .int .i64 0, .int .i64 0, .int .i64 0, .int .i64 0, .int .i64 0, .int .i64 0] 73)) := below_alloc _ (Nat.le_refl _) (Below.refl _ _)
  have l0 : (w6.alloc (.cells #[.int .i64 0, .int .i64 0, .int .i64 0, .int .i64 0, .int .i64 0, .int .i64 0, .int .i64 0, .int .i64 0] 73)).cell? ⟨w6.heap.size, 0, none⟩ = some (.int .i64 0) := cell_new (by simp) rfl
  have l1 : (w6.alloc (.cells #[.int .i64 0, .int .i64 0, .int .i64 0, .int .i64 0, .int .i64 0, .int .i64 0, .int .i64 0, .int .i64 0] 73)).cell? ⟨w6.heap.size, 1, none⟩ = some (.int .i64 0) := cell_new (by simp) rfl
  have l2 : (w6.alloc (.cells #[.int .i64 0, .int .i64 0, .int .i64 0, .int .i64 0, .int .i64 0, .int .i64 0, .int .i64 0, .int .i64 0] 73)).cell? ⟨w6.heap.size, 2, none⟩ = some (.int .i64 0) := cell_new (by simp) rfl
  have l3 : (w6.alloc (.cells #[.int .i64 0, .int .i64 0, .int .i64 0, .int .i64 0, .int .i64 0, .int .i64 0, .int .i64 0, .int .i64 0] 73)).cell? ⟨w6.heap.size, 3, none⟩ = some (.int .i64 0) := cell_new (by simp) rfl
  have l4 : (w6.alloc (.cells #[.int .i64 0, .int .i64 0, .int .i64 0, .int .i64 0, .int .i64 0, .int .i64 0, .int .i64 0, .int .i64 0] 73)).cell? ⟨w6.heap.size, 4, none⟩ = some (.int .i64 0) := cell_new (by simp) rfl
  have l5 : (w6.alloc (.cells #[.int .i64 0, .int .i64 0, .int .i64 0, .int .i64 0, .int .i64 0, .int .i64 0, .int .i64 0, .int .i64 0] 73)).cell? ⟨w6.heap.size, 5, none⟩ = some (.int .i64 0) := cell_new (by simp) rfl
  have l6 : (w6.alloc (.cells #[.int .i64 0, .int .i64 0, .int .i64 0, .int .i64 0, .int .i64 0, .int .i64 0, .int .i64 0, .int .i64 0] 73)).cell? ⟨w6.heap.size, 6, none⟩ = some (.int .i64 0) := cell_new (by simp) rfl
  have l7 : (w6.alloc (.cells #[.int .i64 0, .int .i64 0, .int .i64 0, .int .i64 0, .int .i64 0, .int .i64 0, .int .i64 0, .int .i64 0] 73)).cell? ⟨w6.heap.size, 7, none⟩ = some (.int .i64 0) := cell_new (by simp) rfl
  have zl : w6.heap.size < (w6.alloc (.cells #[.int .i64 0, .int .i64 0, .int .i64 0, .int .i64 0, .int .i64 0, .int .i64 0, .int .i64 0, .int .i64 0] 73)).heap.size := World.block_lt_of_cell? _ _ l0
  generalize (w6.alloc (.cells #[.int .i64 0, .int .i64 0, .int .i64 0, .int .i64 0, .int .i64 0, .int .i64 0, .int .i64 0, .int .i64 0] 73)) = w7 at *
  have k7 : Below w.heap.size w w7 := (k6).trans ((hb7).mono (k6).size)
  replace q0 := cell_below' hb7 q0
  replace q1 := cell_below' hb7 q1
  replace q2 := cell_below' hb7 q2
  replace q3 := cell_below' hb7 q3
  replace q4 := cell_below' hb7 q4
  replace q5 := cell_below' hb7 q5
  replace q6 := cell_below' hb7 q6
  replace q7 := cell_below' hb7 q7
  replace zq := Nat.lt_of_lt_of_le zq (hb7).size
  replace p0 := cell_below' hb7 p0
  replace p1 := cell_below' hb7 p1
  replace zp := Nat.lt_of_lt_of_le zp (hb7).size
  replace hA0 := RowsAt.below hA0 hb7
  clear hb7 k6
  generalize w6.heap.size = lb at *
  go_wp2_with (fail)
  refine (HCP.out _ hA0).mono ?_
  rintro e w8 ⟨B8, c8, rfl, hc8, hB8, hb8⟩
  have k8 : Below w.heap.size w w8 := (k7).trans ((hb8).mono (k7).size)
  replace q0 := cell_below' hb8 q0
  replace q1 := cell_below' hb8 q1
  replace q2 := cell_below' hb8 q2
  replace q3 := cell_below' hb8 q3
  replace q4 := cell_below' hb8 q4
  replace q5 := cell_below' hb8 q5
  replace q6 := cell_below' hb8 q6
  replace q7 := cell_below' hb8 q7
  replace zq := Nat.lt_of_lt_of_le zq (hb8).size
  replace p0 := cell_below' hb8 p0
  replace p1 := cell_below' hb8 p1
  replace zp := Nat.lt_of_lt_of_le zp (hb8).size
  replace l0 := cell_below' hb8 l0
  replace l1 := cell_below' hb8 l1
  replace l2 := cell_below' hb8 l2
  replace l3 := cell_below' hb8 l3
  replace l4 := cell_below' hb8 l4
  replace l5 := cell_below' hb8 l5
  replace l6 := cell_below' hb8 l6
  replace l7 := cell_below' hb8 l7
  replace zl := Nat.lt_of_lt_of_le zl (hb8).size
  replace hA0 := RowsAt.below hA0 hb8
  clear hb8 k7
  go_wp2_with (fail)
  refine (HDP.out _ _ _ hB8).mono ?_
  rintro e w9 ⟨rfl, hb9⟩
  have k9 : Below w.heap.size w w9 := (k8).trans ((hb9).mono (k8).size)
  replace q0 := cell_below' hb9 q0
  replace q1 := cell_below' hb9 q1
  replace q2 := cell_below' hb9 q2
  replace q3 := cell_below' hb9 q3
  replace q4 := cell_below' hb9 q4
  replace q5 := cell_below' hb9 q5
  replace q6 := cell_below' hb9 q6
  replace q7 := cell_below' hb9 q7
  replace zq := Nat.lt_of_lt_of_le zq (hb9).size
  replace p0 := cell_below' hb9 p0
  replace p1 := cell_below' hb9 p1
  replace zp := Nat.lt_of_lt_of_le zp (hb9).size
  replace l0 := cell_below' hb9 l0
  replace l1 := cell_below' hb9 l1
  replace l2 := cell_below' hb9 l2
  replace l3 := cell_below' hb9 l3
  replace l4 := cell_below' hb9 l4
  replace l5 := cell_below' hb9 l5
  replace l6 := cell_below' hb9 l6
  replace l7 := cell_below' hb9 l7
  replace zl := Nat.lt_of_lt_of_le zl (hb9).size
  replace hA0 := RowsAt.below hA0 hb9
  clear hb9 k8
  clear HDP hB8 HCP
  go_wp2_with (fail)
  refine (HS1.out _).mono ?_
  rintro e wa ⟨rfl, hba⟩
  have ka : Below w.heap.size w wa := (k9).trans ((hba).mono (k9).size)
  replace q0 := cell_below' hba q0
  replace q1 := cell_below' hba q1
  replace q2 := cell_below' hba q2
  replace q3 := cell_below' hba q3
  replace q4 := cell_below' hba q4
  replace q5 := cell_below' hba q5
  replace q6 := cell_below' hba q6
  replace q7 := cell_below' hba q7
  replace zq := Nat.lt_of_lt_of_le zq (hba).size
  replace p0 := cell_below' hba p0
  replace p1 := cell_below' hba p1
  replace zp := Nat.lt_of_lt_of_le zp (hba).size
  replace l0 := cell_below' hba l0
  replace l1 := cell_below' hba l1
  replace l2 := cell_below' hba l2
  replace l3 := cell_below' hba l3
  replace l4 := cell_below' hba l4
  replace l5 := cell_below' hba l5
  replace l6 := cell_below' hba l6
  replace l7 := cell_below' hba l7
  replace zl := Nat.lt_of_lt_of_le zl (hba).size
  replace hA0 := RowsAt.below hA0 hba
  clear hba k9
  go_upto_region 9 with (fail)
  have hbb : Below wa.heap.size wa (wa.alloc (.cells #[.int .i64 (sv 0).re, .int .i64 (sv 0).im, .int .i64 (sv 1).re, .int .i64 (sv 1).im, .int .i64 (sv 2).re, .int .i64 (sv 2).im, .int .i64 (sv 3).re, .int .i64 (sv 3).im] 73)) := below_alloc _ (Nat.le_refl _) (Below.refl _ _)
  have s0 : (wa.alloc (.cells #[.int .i64 (sv 0).re, .int .i64 (sv 0).im, .int .i64 (sv 1).re, .int .i64 (sv 1).im, .int .i64 (sv 2).re, .int .i64 (sv 2).im, .int .i64 (sv 3).re, .int .i64 (sv 3).im] 73)).cell? ⟨wa.heap.size, 0, none⟩ = some (.int .i64 (sv 0).re) := cell_new (by simp) rfl
  have s1 : (wa.alloc (.cells #[.int .i64 (sv 0).re, .int .i64 (sv 0).im, .int .i64 (sv 1).re, .int .i64 (sv 1).im, .int .i64 (sv 2).re, .int .i64 (sv 2).im, .int .i64 (sv 3).re, .int .i64 (sv 3).im] 73)).cell? ⟨wa.heap.size, 1, none⟩ = some (.int .i64 (sv 0).im) := cell_new (by simp) rfl
  have s2 : (wa.alloc (.cells #[.int .i64 (sv 0).re, .int .i64 (sv 0).im, .int .i64 (sv 1).re, .int .i64 (sv 1).im, .int .i64 (sv 2).re, .int .i64 (sv 2).im, .int .i64 (sv 3).re, .int .i64 (sv 3).im] 73)).cell? ⟨wa.heap.size, 2, none⟩ = some (.int .i64 (sv 1).re) := cell_new (by simp) rfl
  have s3 : (wa.alloc (.cells #[.int .i64 (sv 0).re, .int .i64 (sv 0).im, .int .i64 (sv 1).re, .int .i64 (sv 1).im, .int .i64 (sv 2).re, .int .i64 (sv 2).im, .int .i64 (sv 3).re, .int .i64 (sv 3).im] 73)).cell? ⟨wa.heap.size, 3, none⟩ = some (.int .i64 (sv 1).im) := cell_new (by simp) rfl
  have s4 : (wa.alloc (.cells #[.int .i64 (sv 0).re, .int .i64 (sv 0).im, .int .i64 (sv 1).re, .int .i64 (sv 1).im, .int .i64 (sv 2).re, .int .i64 (sv 2).im, .int .i64 (sv 3).re, .int .i64 (sv 3).im] 73)).cell? ⟨wa.heap.size, 4, none⟩ = some (.int .i64 (sv 2).re) := cell_new (by simp) rfl
  have s5 : (wa.alloc (.cells #[.int .i64 (sv 0).re, .int .i64 (sv 0).im, .int .i64 (sv 1).re, .int .i64 (sv 1).im, .int .i64 (sv 2).re, .int .i64 (sv 2).im, .int .i64 (sv 3).re, .int .i64 (sv 3).im] 73)).cell? ⟨wa.heap.size, 5, none⟩ = some (.int .i64 (sv 2).im) := cell_new (by simp) rfl
  have s6 : (wa.alloc (.cells #[.int .i64 (sv 0).re, .int .i64 (sv 0).im, .int .i64 (sv 1).re, .int .i64 (sv 1).im, .int .i64 (sv 2).re, .int .i64 (sv 2).im, .int .i64 (sv 3).re, .int .i64 (sv 3).im] 73)).cell? ⟨wa.heap.size, 6, none⟩ = some (.int .i64 (sv 3).re) := cell_new (by simp) rfl
  have s7 : (wa.alloc (.cells #[.int .i64 (sv 0).re, .int .i64 (sv 0).im, .int .i64 (sv 1).re, .int .i64 (sv 1).im, .int .i64 (sv 2).re, .int .i64 (sv 2).im, .int .i64 (sv 3).re, .int .i64 (sv 3).im] 73)).cell? ⟨wa.heap.size, 7, none⟩ = some (.int .i64 (sv 3).im) := cell_new (by simp) rfl
  have zs : wa.heap.size < (wa.alloc (.cells #[.int .i64 (sv 0).re, .int .i64 (sv 0).im, .int .i64 (sv 1).re, .int .i64 (sv 1).im, .int .i64 (sv 2).re, .int .i64 (sv 2).im, .int .i64 (sv 3).re, .int .i64 (sv 3).im] 73)).heap.size := World.block_lt_of_cell? _ _ s0
  generalize (wa.alloc (.cells #[.int .i64 (sv 0).re, .int .i64 (sv 0).im, .int .i64 (sv 1).re, .int .i64 (sv 1).im, .int .i64 (sv 2).re, .int .i64 (sv 2).im, .int .i64 (sv 3).re, .int .i64 (sv 3).im] 73)) = wb at *
  have kb : Below w.heap.size w wb := (ka).trans ((hbb).mono (ka).size)
  replace q0 := cell_below' hbb q0
  replace q1 := cell_below' hbb q1
  replace q2 := cell_below' hbb q2
  replace q3 := cell_below' hbb q3
  replace q4 := cell_below' hbb q4
  replace q5 := cell_below' hbb q5
  replace q6 := cell_below' hbb q6
  replace q7 := cell_below' hbb q7
  replace zq := Nat.lt_of_lt_of_le zq (hbb).size
  replace p0 := cell_below' hbb p0
  replace p1 := cell_below' hbb p1
  replace zp := Nat.lt_of_lt_of_le zp (hbb).size
  replace l0 := cell_below' hbb l0
  replace l1 := cell_below' hbb l1
  replace l2 := cell_below' hbb l2
  replace l3 := cell_below' hbb l3
  replace l4 := cell_below' hbb l4
  replace l5 := cell_below' hbb l5
  replace l6 := cell_below' hbb l6
  replace l7 := cell_below' hbb l7
  replace zl := Nat.lt_of_lt_of_le zl (hbb).size
  replace hA0 := RowsAt.below hA0 hbb
  clear hbb ka
  generalize wa.heap.size = sb at *
  go_wp2_with (fail)
  refine (HS2.out _).mono ?_
  rintro e wc ⟨rfl, hbc⟩
  have kc : Below w.heap.size w wc := (kb).trans ((hbc).mono (kb).size)
  replace p0 := cell_below' hbc p0
  replace p1 := cell_below' hbc p1
  replace zp := Nat.lt_of_lt_of_le zp (hbc).size
  replace l0 := cell_below' hbc l0
  replace l1 := cell_below' hbc l1
  replace l2 := cell_below' hbc l2
  replace l3 := cell_below' hbc l3
  replace l4 := cell_below' hbc l4
  replace l5 := cell_below' hbc l5
  replace l6 := cell_below' hbc l6
  replace l7 := cell_below' hbc l7
  replace zl := Nat.lt_of_lt_of_le zl (hbc).size
  replace s0 := cell_below' hbc s0
  replace s1 := cell_below' hbc s1
  replace s2 := cell_below' hbc s2
  replace s3 := cell_below' hbc s3
  replace s4 := cell_below' hbc s4
  replace s5 := cell_below' hbc s5
  replace s6 := cell_below' hbc s6
  replace s7 := cell_below' hbc s7
  replace zs := Nat.lt_of_lt_of_le zs (hbc).size
  replace hA0 := RowsAt.below hA0 hbc
  clear hbc kb
  clear HS1 HS2
  go_upto_region 10 with (fail)
  have hbd : Below wc.heap.size wc (wc.alloc (.cells #[.int .i64 (sv 0).re, .int .i64 (sv 0).im, .int .i64 (sv 1).re, .int .i64 (sv 1).im, .int .i64 (sv 2).re, .int .i64 (sv 2).im, .int .i64 (sv 3).re, .int .i64 (sv 3).im] 73)) := below_alloc _ (Nat.le_refl _) (Below.refl _ _)
  have t0 : (wc.alloc (.cells #[.int .i64 (sv 0).re, .int .i64 (sv 0).im, .int .i64 (sv 1).re, .int .i64 (sv 1).im, .int .i64 (sv 2).re, .int .i64 (sv 2).im, .int .i64 (sv 3).re, .int .i64 (sv 3).im] 73)).cell? ⟨wc.heap.size, 0, none⟩ = some (.int .i64 (sv 0).re) := cell_new (by simp) rfl
  have t1 : (wc.alloc (.cells #[.int .i64 (sv 0).re, .int .i64 (sv 0).im, .int .i64 (sv 1).re, .int .i64 (sv 1).im, .int .i64 (sv 2).re, .int .i64 (sv 2).im, .int .i64 (sv 3).re, .int .i64 (sv 3).im] 73)).cell? ⟨wc.heap.size, 1, none⟩ = some (.int .i64 (sv 0).im) := cell_new (by simp) rfl
  have t2 : (wc.alloc (.cells #[.int .i64 (sv 0).re, .int .i64 (sv 0).im, .int .i64 (sv 1).re, .int .i64 (sv 1).im, .int .i64 (sv 2).re, .int .i64 (sv 2).im, .int .i64 (sv 3).re, .int .i64 (sv 3).im] 73)).cell? ⟨wc.heap.size, 2, none⟩ = some (.int .i64 (sv 1).re) := cell_new (by simp) rfl
  have t3 : (wc.alloc (.cells #[.int .i64 (sv 0).re, .int .i64 (sv 0).im, .int .i64 (sv 1).re, .int .i64 (sv 1).im, .int .i64 (sv 2).re, .int .i64 (sv 2).im, .int .i64 (sv 3).re, .int .i64 (sv 3).im] 73)).cell? ⟨wc.heap.size, 3, none⟩ = some (.int .i64 (sv 1).im) := cell_new (by simp) rfl
  have t4 : (wc.alloc (.cells #[.int .i64 (sv 0).re, .int .i64 (sv 0).im, .int .i64 (sv 1).re, .int .i64 (sv 1).im, .int .i64 (sv 2).re, .int .i64 (sv 2).im, .int .i64 (sv 3).re, .int .i64 (sv 3).im] 73)).cell? ⟨wc.heap.size, 4, none⟩ = some (.int .i64 (sv 2).re) := cell_new (by simp) rfl
  have t5 : (wc.alloc (.cells #[.int .i64 (sv 0).re, .int .i64 (sv 0).im, .int .i64 (sv 1).re, .int .i64 (sv 1).im, .int .i64 (sv 2).re, .int .i64 (sv 2).im, .int .i64 (sv 3).re, .int .i64 (sv 3).im] 73)).cell? ⟨wc.heap.size, 5, none⟩ = some (.int .i64 (sv 2).im) := cell_new (by simp) rfl
  have t6 : (wc.alloc (.cells #[.int .i64 (sv 0).re, .int .i64 (sv 0).im, .int .i64 (sv 1).re, .int .i64 (sv 1).im, .int .i64 (sv 2).re, .int .i64 (sv 2).im, .int .i64 (sv 3).re, .int .i64 (sv 3).im] 73)).cell? ⟨wc.heap.size, 6, none⟩ = some (.int .i64 (sv 3).re) := cell_new (by simp) rfl
  have t7 : (wc.alloc (.cells #[.int .i64 (sv 0).re, .int .i64 (sv 0).im, .int .i64 (sv 1).re, .int .i64 (sv 1).im, .int .i64 (sv 2).re, .int .i64 (sv 2).im, .int .i64 (sv 3).re, .int .i64 (sv 3).im] 73)).cell? ⟨wc.heap.size, 7, none⟩ = some (.int .i64 (sv 3).im) := cell_new (by simp) rfl
  have zt : wc.heap.size < (wc.alloc (.cells #[.int .i64 (sv 0).re, .int .i64 (sv 0).im, .int .i64 (sv 1).re, .int .i64 (sv 1).im, .int .i64 (sv 2).re, .int .i64 (sv 2).im, .int .i64 (sv 3).re, .int .i64 (sv 3).im] 73)).heap.size := World.block_lt_of_cell? _ _ t0
  generalize (wc.alloc (.cells #[.int .i64 (sv 0).re, .int .i64 (sv 0).im, .int .i64 (sv 1).re, .int .i64 (sv 1).im, .int .i64 (sv 2).re, .int .i64 (sv 2).im, .int .i64 (sv 3).re, .int .i64 (sv 3).im] 73)) = wd at *
  have kd : Below w.heap.size w wd := (kc).trans ((hbd).mono (kc).size)
  replace p0 := cell_below' hbd p0
  replace p1 := cell_below' hbd p1
  replace zp := Nat.lt_of_lt_of_le zp (hbd).size
  replace l0 := cell_below' hbd l0
  replace l1 := cell_below' hbd l1
  replace l2 := cell_below' hbd l2
  replace l3 := cell_below' hbd l3
  replace l4 := cell_below' hbd l4
  replace l5 := cell_below' hbd l5
  replace l6 := cell_below' hbd l6
  replace l7 := cell_below' hbd l7
  replace zl := Nat.lt_of_lt_of_le zl (hbd).size
  replace s0 := cell_below' hbd s0
  replace s1 := cell_below' hbd s1
  replace s2 := cell_below' hbd s2
  replace s3 := cell_below' hbd s3
  replace s4 := cell_below' hbd s4
  replace s5 := cell_below' hbd s5
  replace s6 := cell_below' hbd s6
  replace s7 := cell_below' hbd s7
  replace zs := Nat.lt_of_lt_of_le zs (hbd).size
  replace hA0 := RowsAt.below hA0 hbd
  clear hbd kc
  go_wp2_with (fail)
  refine (HSE.out _ hA0).mono ?_
  rintro e we ⟨rfl, hbe⟩
  have ke : Below w.heap.size w we := (kd).trans ((hbe).mono (kd).size)
  replace p0 := cell_below' hbe p0
  replace p1 := cell_below' hbe p1
  replace zp := Nat.lt_of_lt_of_le zp (hbe).size
  replace l0 := cell_below' hbe l0
  replace l1 := cell_below' hbe l1
  replace l2 := cell_below' hbe l2
  replace l3 := cell_below' hbe l3
  replace l4 := cell_below' hbe l4
  replace l5 := cell_below' hbe l5
  replace l6 := cell_below' hbe l6
  replace l7 := cell_below' hbe l7
  replace zl := Nat.lt_of_lt_of_le zl (hbe).size
  replace hA0 := RowsAt.below hA0 hbe
  clear hbe kd
  clear HSE s0 s1 s2 s3 s4 s5 s6 s7 zs t0 t1 t2 t3 t4 t5 t6 t7
  go_wp2_with (fail)
  go_ret
  exact ⟨rfl, ke⟩
set_option maxRecDepth 100000 in
set_option maxHeartbeats 16000000 in
theorem lines_1z (A : Option Addr) (x : List Gs) (ca : Nat) (h : Nat → Gs) (w : World) (ht : Tab w) (hA : GsAt w A x) (hxl : x.length ≤ 66) (hn : x.length = 1) (hc : smpsE x = 0) :
    Calls Tryd.prog 9 #[.slice A x.length ca, gv4 h] w fun e w' => e = .returned (.bool true) ∧ Below w.heap.size w w' := by
  have HT := Lib.hid ht
  have HFW := Lib.hid (fun W => few_any A x ca W true (decide_eq_true (by omega)))
  have HCP := Lib.hid (fun W (hB : GsAt W A x) => CopyG_cap A x ca W (by omega) hB)
  have HLG := Lib.hid (fun W B c (hc : x.length ≤ c) (hB : GsAt W B x) => LagProduct_any B x c W (by omega) hc hB)
  have HLN := Lib.hid (fun W B c (hB : GsAt W B x) => LinesOf_any B x c W (by omega) hB)
  have HDP := Lib.hid (fun W B c (hB : GsAt W B x) => DopplerOf_any B x c W (by omega) hB)
  have HS1 := Lib.hid (fun W => SumsOf_any h W)
  have HS2 := Lib.hid (fun W => RSums_any h W)
  have HSE := Lib.hid (fun W (hB : GsAt W A x) => RSamplesErr_any A x ca W (by omega) hB)
  have hsn := neL (smsV h) (smsV h)
  have hss : eqL4 (smsV h) (smsV h) = true := by simp [eqL4, eqB]
  rw [hss] at hsn
  have hee : (smsE h != smsE h) = false := by simp
  have hxi : (x.length : Int) ≤ 66 := by omega
  have hl1 := linE_2 (show 0 < x.length by omega)
  rw [hc] at hl1
  obtain ⟨hx64, hok⟩ := smpsE_zero hc
  rw [lagQ_1 (by omega)] at HLG
  rw [linV_p hl1, hl1] at HLN
  rw [dopQ_p hl1] at HDP
  rw [hc] at HSE
  have HRD := Lib.hid (fun W (hB : GsAt W A x) => RDoppler_any A x ca W hx64 hok hB)
  have HRL := Lib.hid (fun W (hB : GsAt W A x) => RLines_any A x ca W hx64 hok hB)
  obtain ⟨hnd, hnz⟩ := nzL_dop x
  rw [hnd] at HDP hnz
  have HNZ := Lib.hid hnz
  have hln := neL (linP x) (linP x)
  have hll : eqL4 (linP x) (linP x) = true := by simp [eqL4, eqB]
  rw [hll] at hln
  have hi0 : ((x.length : Int) == 0) = false := by rw [beq_eq_false_iff_ne]; omega
  have hi2 : decide ((x.length : Int) < 2) = true := by simp; omega
  have hnG := neG gz gz
  have hng : neB gz gz = false := rfl
  rw [hng] at hnG
  clear hng
  clear hn
  clear hl1 hc hx64 hok hnd hnz hll
  clear ht hss
  generalize smsE h = se at *
  generalize smsV h = sv at *
  generalize dopB x = db at *
  generalize dopK (linP x) 4 = dk at *
  generalize linP x = lv at *
  simp only [gv4, gv, gz] at *
  go_enter Tryd.func9, Tryd.ntmps9
  go_upto_region 1 with (fail)
  have hb0 : Below w.heap.size w (w.alloc (.cells #[.int .i64 (h 0).re, .int .i64 (h 0).im, .int .i64 (h 1).re, .int .i64 (h 1).im, .int .i64 (h 2).re, .int .i64 (h 2).im, .int .i64 (h 3).re, .int .i64 (h 3).im] 73)) := below_alloc _ (Nat.le_refl _) (Below.refl _ _)
  have q0 : (w.alloc (.cells #[.int .i64 (h 0).re, .int .i64 (h 0).im, .int .i64 (h 1).re, .int .i64 (h 1).im, .int .i64 (h 2).re, .int .i64 (h 2).im, .int .i64 (h 3).re, .int .i64 (h 3).im] 73)).cell? ⟨w.heap.size, 0, none⟩ = some (.int .i64 (h 0).re) := cell_new (by simp) rfl
  have q1 : (w.alloc (.cells #[.int .i64 (h 0).re, .int .i64 (h 0).im, .int .i64 (h 1).re, .int .i64 (h 1).im, .int .i64 (h 2).re, .int .i64 (h 2).im, .int .i64 (h 3).re, .int .i64 (h 3).im] 73)).cell? ⟨w.heap.size, 1, none⟩ = some (.int .i64 (h 0).im) := cell_new (by simp) rfl
  have q2 : (w.alloc (.cells #[.int .i64 (h 0).re, .int .i64 (h 0).im, .int .i64 (h 1).re, .int .i64 (h 1).im, .int .i64 (h 2).re, .int .i64 (h 2).im, .int .i64 (h 3).re, .int .i64 (h 3).im] 73)).cell? ⟨w.heap.size, 2, none⟩ = some (.int .i64 (h 1).re) := cell_new (by simp) rfl
  have q3 : (w.alloc (.cells #[.int .i64 (h 0).re, .int .i64 (h 0).im, .int .i64 (h 1).re, .int .i64 (h 1).im, .int .i64 (h 2).re, .int .i64 (h 2).im, .int .i64 (h 3).re, .int .i64 (h 3).im] 73)).cell? ⟨w.heap.size, 3, none⟩ = some (.int .i64 (h 1).im) := cell_new (by simp) rfl
  have q4 : (w.alloc (.cells #[.int .i64 (h 0).re, .int .i64 (h 0).im, .int .i64 (h 1).re, .int .i64 (h 1).im, .int .i64 (h 2).re, .int .i64 (h 2).im, .int .i64 (h 3).re, .int .i64 (h 3).im] 73)).cell? ⟨w.heap.size, 4, none⟩ = some (.int .i64 (h 2).re) := cell_new (by simp) rfl
  have q5 : (w.alloc (.cells #[.int .i64 (h 0).re, .int .i64 (h 0).im, .int .i64 (h 1).re, .int .i64 (h 1).im, .int .i64 (h 2).re, .int .i64 (h 2).im, .int .i64 (h 3).re, .int .i64 (h 3).im] 73)).cell? ⟨w.heap.size, 5, none⟩ = some (.int .i64 (h 2).im) := cell_new (by simp) rfl
  have q6 : (w.alloc (.cells #[.int .i64 (h 0).re, .int .i64 (h 0).im, .int .i64 (h 1).re, .int .i64 (h 1).im, .int .i64 (h 2).re, .int .i64 (h 2).im, .int .i64 (h 3).re, .int .i64 (h 3).im] 73)).cell? ⟨w.heap.size, 6, none⟩ = some (.int .i64 (h 3).re) := cell_new (by simp) rfl
  have q7 : (w.alloc (.cells #[.int .i64 (h 0).re, .int .i64 (h 0).im, .int .i64 (h 1).re, .int .i64 (h 1).im, .int .i64 (h 2).re, .int .i64 (h 2).im, .int .i64 (h 3).re, .int .i64 (h 3).im] 73)).cell? ⟨w.heap.size, 7, none⟩ = some (.int .i64 (h 3).im) := cell_new (by simp) rfl
  have zq : w.heap.size < (w.alloc (.cells #[.int .i64 (h 0).re, .int .i64 (h 0).im, .int .i64 (h 1).re, .int .i64 (h 1).im, .int .i64 (h 2).re, .int .i64 (h 2).im, .int .i64 (h 3).re, .int .i64 (h 3).im] 73)).heap.size := World.block_lt_of_cell? _ _ q0
  generalize (w.alloc (.cells #[.int .i64 (h 0).re, .int .i64 (h 0).im, .int .i64 (h 1).re, .int .i64 (h 1).im, .int .i64 (h 2).re, .int .i64 (h 2).im, .int .i64 (h 3).re, .int .i64 (h 3).im] 73)) = w0 at *
  have HT0 := Lib.hid (HT.out.below hb0)
  go_wp2_with (fail)
  refine (awake_any w0 HT0.out).mono ?_
  rintro e w1 ⟨rfl, hb1⟩
  have hA0 := RowsAt.below hA hb0
  have k1 : Below w.heap.size w w1 := (hb0).trans ((hb1).mono (hb0).size)
  replace q0 := cell_below' hb1 q0
  replace q1 := cell_below' hb1 q1
  replace q2 := cell_below' hb1 q2
  replace q3 := cell_below' hb1 q3
  replace q4 := cell_below' hb1 q4
  replace q5 := cell_below' hb1 q5
  replace q6 := cell_below' hb1 q6
  replace q7 := cell_below' hb1 q7
  replace zq := Nat.lt_of_lt_of_le zq (hb1).size
  replace hA0 := RowsAt.below hA0 hb1
  clear hb1 hb0
  clear HT HT0 hA
  go_wp2_with (fail)
  refine (HFW.out _).mono ?_
  rintro e w' ⟨rfl, rfl⟩
  clear HFW
  go_wp2_with (fail)
  refine (HCP.out _ hA0).mono ?_
  rintro e w2 ⟨B2, c2, rfl, hc2, hB2, hb2⟩
  have k2 : Below w.heap.size w w2 := (k1).trans ((hb2).mono (k1).size)
  replace q0 := cell_below' hb2 q0
  replace q1 := cell_below' hb2 q1
  replace q2 := cell_below' hb2 q2
  replace q3 := cell_below' hb2 q3
  replace q4 := cell_below' hb2 q4
  replace q5 := cell_below' hb2 q5
  replace q6 := cell_below' hb2 q6
  replace q7 := cell_below' hb2 q7
  replace zq := Nat.lt_of_lt_of_le zq (hb2).size
  replace hA0 := RowsAt.below hA0 hb2
  clear hb2 k1
  go_wp2_with (fail)
  refine (HLG.out _ _ _ hc2 hB2).mono ?_
  rintro e w3 ⟨rfl, hb3⟩
  have k3 : Below w.heap.size w w3 := (k2).trans ((hb3).mono (k2).size)
  replace q0 := cell_below' hb3 q0
  replace q1 := cell_below' hb3 q1
  replace q2 := cell_below' hb3 q2
  replace q3 := cell_below' hb3 q3
  replace q4 := cell_below' hb3 q4
  replace q5 := cell_below' hb3 q5
  replace q6 := cell_below' hb3 q6
  replace q7 := cell_below' hb3 q7
  replace zq := Nat.lt_of_lt_of_le zq (hb3).size
  replace hA0 := RowsAt.below hA0 hb3
  clear hb3 k2
  clear HLG hB2
  go_upto_region 6 with (fail)
  have hb4 : Below w3.heap.size w3 (w3.alloc (.cells #[.int .i64 0, .int .i64 0] 24)) := below_alloc _ (Nat.le_refl _) (Below.refl _ _)
  have p0 : (w3.alloc (.cells #[.int .i64 0, .int .i64 0] 24)).cell? ⟨w3.heap.size, 0, none⟩ = some (.int .i64 0) := cell_new (by simp) rfl
  have p1 : (w3.alloc (.cells #[.int .i64 0, .int .i64 0] 24)).cell? ⟨w3.heap.size, 1, none⟩ = some (.int .i64 0) := cell_new (by simp) rfl
  have zp : w3.heap.size < (w3.alloc (.cells #[.int .i64 0, .int .i64 0] 24)).heap.size := World.block_lt_of_cell? _ _ p0
  generalize (w3.alloc (.cells #[.int .i64 0, .int .i64 0] 24)) = w4 at *
  have k4 : Below w.heap.size w w4 := (k3).trans ((hb4).mono (k3).size)
  replace q0 := cell_below' hb4 q0
  replace q1 := cell_below' hb4 q1
  replace q2 := cell_below' hb4 q2
  replace q3 := cell_below' hb4 q3
  replace q4 := cell_below' hb4 q4
  replace q5 := cell_below' hb4 q5
  replace q6 := cell_below' hb4 q6
  replace q7 := cell_below' hb4 q7
  replace zq := Nat.lt_of_lt_of_le zq (hb4).size
  replace hA0 := RowsAt.below hA0 hb4
  clear hb4 k3
  generalize w3.heap.size = pb at *
  go_wp2_with (fail)
  refine (HCP.out _ hA0).mono ?_
  rintro e w5 ⟨B5, c5, rfl, hc5, hB5, hb5⟩
  have k5 : Below w.heap.size w w5 := (k4).trans ((hb5).mono (k4).size)
  replace q0 := cell_below' hb5 q0
  replace q1 := cell_below' hb5 q1
  replace q2 := cell_below' hb5 q2
  replace q3 := cell_below' hb5 q3
  replace q4 := cell_below' hb5 q4
  replace q5 := cell_below' hb5 q5
  replace q6 := cell_below' hb5 q6
  replace q7 := cell_below' hb5 q7
  replace zq := Nat.lt_of_lt_of_le zq (hb5).size
  replace p0 := cell_below' hb5 p0
  replace p1 := cell_below' hb5 p1
  replace zp := Nat.lt_of_lt_of_le zp (hb5).size
  replace hA0 := RowsAt.below hA0 hb5
  clear hb5 k4
  go_wp2_with (fail)
  refine (HLN.out _ _ _ hB5).mono ?_
  rintro e w6 ⟨rfl, hb6⟩
  have k6 : Below w.heap.size w w6 := (k5).trans ((hb6).mono (k5).size)
  replace q0 := cell_below' hb6 q0
  replace q1 := cell_below' hb6 q1
  replace q2 := cell_below' hb6 q2
  replace q3 := cell_below' hb6 q3
  replace q4 := cell_below' hb6 q4
  replace q5 := cell_below' hb6 q5
  replace q6 := cell_below' hb6 q6
  replace q7 := cell_below' hb6 q7
  replace zq := Nat.lt_of_lt_of_le zq (hb6).size
  replace p0 := cell_below' hb6 p0
  replace p1 := cell_below' hb6 p1
  replace zp := Nat.lt_of_lt_of_le zp (hb6).size
  replace hA0 := RowsAt.below hA0 hb6
  clear hb6 k5
  clear HLN hB5
  go_upto_region 7 with (fail)
  have hb7 : Below w6.heap.size w6 (w6.alloc (.cells #[.int .i64 (lv 0).re, .int .i64 (lv 0).im, .int .i64 (lv 1).re, .int .i64 (lv 1).im, .int .i64 (lv 2).re, .int .i64 (lv 2).im, .int .i64 (lv 3).re, .int .i64 (lv 3).im] 73)) := below_alloc _ (Nat.le_refl _) (Below.refl _ _)
  have l0 : (w6.alloc (.cells #[.int .i64 (lv 0).re, .int .i64 (lv 0).im, .int .i64 (lv 1).re, .int .i64 (lv 1).im, .int .i64 (lv 2).re, .int .i64 (lv 2).im, .int .i64 (lv 3).re, .int .i64 (lv 3).im] 73)).cell? ⟨w6.heap.size, 0, none⟩ = some (.int .i64 (lv 0).re) := cell_new (by simp) rfl
  have l1 : (w6.alloc (.cells #[.int .i64 (lv 0).re, .int .i64 (lv 0).im, .int .i64 (lv 1).re, .int .i64 (lv 1).im, .int .i64 (lv 2).re, .int .i64 (lv 2).im, .int .i64 (lv 3).re, .int .i64 (lv 3).im] 73)).cell? ⟨w6.heap.size, 1, none⟩ = some (.int .i64 (lv 0).im) := cell_new (by simp) rfl
  have l2 : (w6.alloc (.cells #[.int .i64 (lv 0).re, .int .i64 (lv 0).im, .int .i64 (lv 1).re, .int .i64 (lv 1).im, .int .i64 (lv 2).re, .int .i64 (lv 2).im, .int .i64 (lv 3).re, .int .i64 (lv 3).im] 73)).cell? ⟨w6.heap.size, 2, none⟩ = some (.int .i64 (lv 1).re) := cell_new (by simp) rfl
  have l3 : (w6.alloc (.cells #[.int .i64 (lv 0).re, .int .i64 (lv 0).im, .int .i64 (lv 1).re, .int .i64 (lv 1).im, .int .i64 (lv 2).re, .int .i64 (lv 2).im, .int .i64 (lv 3).re, .int .i64 (lv 3).im] 73)).cell? ⟨w6.heap.size, 3, none⟩ = some (.int .i64 (lv 1).im) := cell_new (by simp) rfl
  have l4 : (w6.alloc (.cells #[.int .i64 (lv 0).re, .int .i64 (lv 0).im, .int .i64 (lv 1).re, .int .i64 (lv 1).im, .int .i64 (lv 2).re, .int .i64 (lv 2).im, .int .i64 (lv 3).re, .int .i64 (lv 3).im] 73)).cell? ⟨w6.heap.size, 4, none⟩ = some (.int .i64 (lv 2).re) := cell_new (by simp) rfl
  have l5 : (w6.alloc (.cells #[.int .i64 (lv 0).re, .int .i64 (lv 0).im, .int .i64 (lv 1).re, .int .i64 (lv 1).im, .int .i64 (lv 2).re, .int .i64 (lv 2).im, .int .i64 (lv 3).re, .int .i64 (lv 3).im] 73)).cell? ⟨w6.heap.size, 5, none⟩ = some (.int .i64 (lv 2).im) := cell_new (by simp) rfl
  have l6 : (w6.alloc (.cells #[.int .i64 (lv 0).re, .int .i64 (lv 0).im, .int .i64 (lv 1).re, .int .i64 (lv 1).im, .int .i64 (lv 2).re, .int .i64 (lv 2).im, .int .i64 (lv 3).re, .int .i64 (lv 3).im] 73)).cell? ⟨w6.heap.size, 6, none⟩ = some (.int .i64 (lv 3).re) := cell_new (by simp) rfl
  have l7 : (w6.alloc (.cells #[.int .i64 (lv 0).re, .int .i64 (lv 0).im, .int .i64 (lv 1).re, .int .i64 (lv 1).im, .int .i64 (lv 2).re, .int .i64 (lv 2).im, .int .i64 (lv 3).re, .int .i64 (lv 3).im] 73)).cell? ⟨w6.heap.size, 7, none⟩ = some (.int .i64 (lv 3).im) := cell_new (by simp) rfl
  have zl : w6.heap.size < (w6.alloc (.cells #[.int .i64 (lv 0).re, .int .i64 (lv 0).im, .int .i64 (lv 1).re, .int .i64 (lv 1).im, .int .i64 (lv 2).re, .int .i64 (lv 2).im, .int .i64 (lv 3).re, .int .i64 (lv 3).im] 73)).heap.size := World.block_lt_of_cell? _ _ l0
  generalize (w6.alloc (.cells #[.int .i64 (lv 0).re, .int .i64 (lv 0).im, .int .i64 (lv 1).re, .int .i64 (lv 1).im, .int .i64 (lv 2).re, .int .i64 (lv 2).im, .int .i64 (lv 3).re, .int .i64 (lv 3).im] 73)) = w7 at *
  have k7 : Below w.heap.size w w7 := (k6).trans ((hb7).mono (k6).size)
  replace q0 := cell_below' hb7 q0
  replace q1 := cell_below' hb7 q1
  replace q2 := cell_below' hb7 q2
  replace q3 := cell_below' hb7 q3
  replace q4 := cell_below' hb7 q4
  replace q5 := cell_below' hb7 q5
  replace q6 := cell_below' hb7 q6
  replace q7 := cell_below' hb7 q7
  replace zq := Nat.lt_of_lt_of_le zq (hb7).size
  replace p0 := cell_below' hb7 p0
  replace p1 := cell_below' hb7 p1
  replace zp := Nat.lt_of_lt_of_le zp (hb7).size
  replace hA0 := RowsAt.below hA0 hb7
  clear hb7 k6
  generalize w6.heap.size = lb at *
  go_wp2_with (fail)
  refine (HCP.out _ hA0).mono ?_
  rintro e w8 ⟨B8, c8, rfl, hc8, hB8, hb8⟩
  have k8 : Below w.heap.size w w8 := (k7).trans ((hb8).mono (k7).size)
  replace q0 := cell_below' hb8 q0
  replace q1 := cell_below' hb8 q1
  replace q2 := cell_below' hb8 q2
  replace q3 := cell_below' hb8 q3
  replace q4 := cell_below' hb8 q4
  replace q5 := cell_below' hb8 q5
  replace q6 := cell_below' hb8 q6
  replace q7 := cell_below' hb8 q7
  replace zq := Nat.lt_of_lt_of_le zq (hb8).size
  replace p0 := cell_below' hb8 p0
  replace p1 := cell_below' hb8 p1
  replace zp := Nat.lt_of_lt_of_le zp (hb8).size
  replace l0 := cell_below' hb8 l0
  replace l1 := cell_below' hb8 l1
  replace l2 := cell_below' hb8 l2
  replace l3 := cell_below' hb8 l3
  replace l4 := cell_below' hb8 l4
  replace l5 := cell_below' hb8 l5
  replace l6 := cell_below' hb8 l6
  replace l7 := cell_below' hb8 l7
  replace zl := Nat.lt_of_lt_of_le zl (hb8).size
  replace hA0 := RowsAt.below hA0 hb8
  clear hb8 k7
  go_wp2_with (fail)
  refine (HDP.out _ _ _ hB8).mono ?_
  rintro e w9 ⟨rfl, hb9⟩
  have k9 : Below w.heap.size w w9 := (k8).trans ((hb9).mono (k8).size)
  replace q0 := cell_below' hb9 q0
  replace q1 := cell_below' hb9 q1
  replace q2 := cell_below' hb9 q2
  replace q3 := cell_below' hb9 q3
  replace q4 := cell_below' hb9 q4
  replace q5 := cell_below' hb9 q5
  replace q6 := cell_below' hb9 q6
  replace q7 := cell_below' hb9 q7
  replace zq := Nat.lt_of_lt_of_le zq (hb9).size
  replace p0 := cell_below' hb9 p0
  replace p1 := cell_below' hb9 p1
  replace zp := Nat.lt_of_lt_of_le zp (hb9).size
  replace l0 := cell_below' hb9 l0
  replace l1 := cell_below' hb9 l1
  replace l2 := cell_below' hb9 l2
  replace l3 := cell_below' hb9 l3
  replace l4 := cell_below' hb9 l4
  replace l5 := cell_below' hb9 l5
  replace l6 := cell_below' hb9 l6
  replace l7 := cell_below' hb9 l7
  replace zl := Nat.lt_of_lt_of_le zl (hb9).size
  replace hA0 := RowsAt.below hA0 hb9
  clear hb9 k8
  clear HDP hB8 HCP
  go_wp2_with (fail)
  refine (HS1.out _).mono ?_
  rintro e wa ⟨rfl, hba⟩
  have ka : Below w.heap.size w wa := (k9).trans ((hba).mono (k9).size)
  replace q0 := cell_below' hba q0
  replace q1 := cell_below' hba q1
  replace q2 := cell_below' hba q2
  replace q3 := cell_below' hba q3
  replace q4 := cell_below' hba q4
  replace q5 := cell_below' hba q5
  replace q6 := cell_below' hba q6
  replace q7 := cell_below' hba q7
  replace zq := Nat.lt_of_lt_of_le zq (hba).size
  replace p0 := cell_below' hba p0
  replace p1 := cell_below' hba p1
  replace zp := Nat.lt_of_lt_of_le zp (hba).size
  replace l0 := cell_below' hba l0
  replace l1 := cell_below' hba l1
  replace l2 := cell_below' hba l2
  replace l3 := cell_below' hba l3
  replace l4 := cell_below' hba l4
  replace l5 := cell_below' hba l5
  replace l6 := cell_below' hba l6
  replace l7 := cell_below' hba l7
  replace zl := Nat.lt_of_lt_of_le zl (hba).size
  replace hA0 := RowsAt.below hA0 hba
  clear hba k9
  go_upto_region 9 with (fail)
  have hbb : Below wa.heap.size wa (wa.alloc (.cells #[.int .i64 (sv 0).re, .int .i64 (sv 0).im, .int .i64 (sv 1).re, .int .i64 (sv 1).im, .int .i64 (sv 2).re, .int .i64 (sv 2).im, .int .i64 (sv 3).re, .int .i64 (sv 3).im] 73)) := below_alloc _ (Nat.le_refl _) (Below.refl _ _)
  have s0 : (wa.alloc (.cells #[.int .i64 (sv 0).re, .int .i64 (sv 0).im, .int .i64 (sv 1).re, .int .i64 (sv 1).im, .int .i64 (sv 2).re, .int .i64 (sv 2).im, .int .i64 (sv 3).re, .int .i64 (sv 3).im] 73)).cell? ⟨wa.heap.size, 0, none⟩ = some (.int .i64 (sv 0).re) := cell_new (by simp) rfl
  have s1 : (wa.alloc (.cells #[.int .i64 (sv 0).re, .int .i64 (sv 0).im, .int .i64 (sv 1).re, .int .i64 (sv 1).im, .int .i64 (sv 2).re, .int .i64 (sv 2).im, .int .i64 (sv 3).re, .int .i64 (sv 3).im] 73)).cell? ⟨wa.heap.size, 1, none⟩ = some (.int .i64 (sv 0).im) := cell_new (by simp) rfl
  have s2 : (wa.alloc (.cells #[.int .i64 (sv 0).re, .int .i64 (sv 0).im, .int .i64 (sv 1).re, .int .i64 (sv 1).im, .int .i64 (sv 2).re, .int .i64 (sv 2).im, .int .i64 (sv 3).re, .int .i64 (sv 3).im] 73)).cell? ⟨wa.heap.size, 2, none⟩ = some (.int .i64 (sv 1).re) := cell_new (by simp) rfl
  have s3 : (wa.alloc (.cells #[.int .i64 (sv 0).re, .int .i64 (sv 0).im, .int .i64 (sv 1).re, .int .i64 (sv 1).im, .int .i64 (sv 2).re, .int .i64 (sv 2).im, .int .i64 (sv 3).re, .int .i64 (sv 3).im] 73)).cell? ⟨wa.heap.size, 3, none⟩ = some (.int .i64 (sv 1).im) := cell_new (by simp) rfl
  have s4 : (wa.alloc (.cells #[.int .i64 (sv 0).re, .int .i64 (sv 0).im, .int .i64 (sv 1).re, .int .i64 (sv 1).im, .int .i64 (sv 2).re, .int .i64 (sv 2).im, .int .i64 (sv 3).re, .int .i64 (sv 3).im] 73)).cell? ⟨wa.heap.size, 4, none⟩ = some (.int .i64 (sv 2).re) := cell_new (by simp) rfl
  have s5 : (wa.alloc (.cells #[.int .i64 (sv 0).re, .int .i64 (sv 0).im, .int .i64 (sv 1).re, .int .i64 (sv 1).im, .int .i64 (sv 2).re, .int .i64 (sv 2).im, .int .i64 (sv 3).re, .int .i64 (sv 3).im] 73)).cell? ⟨wa.heap.size, 5, none⟩ = some (.int .i64 (sv 2).im) := cell_new (by simp) rfl
  have s6 : (wa.alloc (.cells #[.int .i64 (sv 0).re, .int .i64 (sv 0).im, .int .i64 (sv 1).re, .int .i64 (sv 1).im, .int .i64 (sv 2).re, .int .i64 (sv 2).im, .int .i64 (sv 3).re, .int .i64 (sv 3).im] 73)).cell? ⟨wa.heap.size, 6, none⟩ = some (.int .i64 (sv 3).re) := cell_new (by simp) rfl
  have s7 : (wa.alloc (.cells #[.int .i64 (sv 0).re, .int .i64 (sv 0).im, .int .i64 (sv 1).re, .int .i64 (sv 1).im, .int .i64 (sv 2).re, .int .i64 (sv 2).im, .int .i64 (sv 3).re, .int .i64 (sv 3).im] 73)).cell? ⟨wa.heap.size, 7, none⟩ = some (.int .i64 (sv 3).im) := cell_new (by simp) rfl
  have zs : wa.heap.size < (wa.alloc (.cells #[.int .i64 (sv 0).re, .int .i64 (sv 0).im, .int .i64 (sv 1).re, .int .i64 (sv 1).im, .int .i64 (sv 2).re, .int .i64 (sv 2).im, .int .i64 (sv 3).re, .int .i64 (sv 3).im] 73)).heap.size := World.block_lt_of_cell? _ _ s0
  generalize (wa.alloc (.cells #[.int .i64 (sv 0).re, .int .i64 (sv 0).im, .int .i64 (sv 1).re, .int .i64 (sv 1).im, .int .i64 (sv 2).re, .int .i64 (sv 2).im, .int .i64 (sv 3).re, .int .i64 (sv 3).im] 73)) = wb at *
  have kb : Below w.heap.size w wb := (ka).trans ((hbb).mono (ka).size)
  replace q0 := cell_below' hbb q0
  replace q1 := cell_below' hbb q1
  replace q2 := cell_below' hbb q2
  replace q3 := cell_below' hbb q3
  replace q4 := cell_below' hbb q4
  replace q5 := cell_below' hbb q5
  replace q6 := cell_below' hbb q6
  replace q7 := cell_below' hbb q7
  replace zq := Nat.lt_of_lt_of_le zq (hbb).size
  replace p0 := cell_below' hbb p0
  replace p1 := cell_below' hbb p1
  replace zp := Nat.lt_of_lt_of_le zp (hbb).size
  replace l0 := cell_below' hbb l0
  replace l1 := cell_below' hbb l1
  replace l2 := cell_below' hbb l2
  replace l3 := cell_below' hbb l3
  replace l4 := cell_below' hbb l4
  replace l5 := cell_below' hbb l5
  replace l6 := cell_below' hbb l6
  replace l7 := cell_below' hbb l7
  replace zl := Nat.lt_of_lt_of_le zl (hbb).size
  replace hA0 := RowsAt.below hA0 hbb
  clear hbb ka
  generalize wa.heap.size = sb at *
  go_wp2_with (fail)
  refine (HS2.out _).mono ?_
  rintro e wc ⟨rfl, hbc⟩
  have kc : Below w.heap.size w wc := (kb).trans ((hbc).mono (kb).size)
  replace p0 := cell_below' hbc p0
  replace p1 := cell_below' hbc p1
  replace zp := Nat.lt_of_lt_of_le zp (hbc).size
  replace l0 := cell_below' hbc l0
  replace l1 := cell_below' hbc l1
  replace l2 := cell_below' hbc l2
  replace l3 := cell_below' hbc l3
  replace l4 := cell_below' hbc l4
  replace l5 := cell_below' hbc l5
  replace l6 := cell_below' hbc l6
  replace l7 := cell_below' hbc l7
  replace zl := Nat.lt_of_lt_of_le zl (hbc).size
  replace s0 := cell_below' hbc s0
  replace s1 := cell_below' hbc s1
  replace s2 := cell_below' hbc s2
  replace s3 := cell_below' hbc s3
  replace s4 := cell_below' hbc s4
  replace s5 := cell_below' hbc s5
  replace s6 := cell_below' hbc s6
  replace s7 := cell_below' hbc s7
  replace zs := Nat.lt_of_lt_of_le zs (hbc).size
  replace hA0 := RowsAt.below hA0 hbc
  clear hbc kb
  clear HS1 HS2
  go_upto_region 10 with (fail)
  have hbd : Below wc.heap.size wc (wc.alloc (.cells #[.int .i64 (sv 0).re, .int .i64 (sv 0).im, .int .i64 (sv 1).re, .int .i64 (sv 1).im, .int .i64 (sv 2).re, .int .i64 (sv 2).im, .int .i64 (sv 3).re, .int .i64 (sv 3).im] 73)) := below_alloc _ (Nat.le_refl _) (Below.refl _ _)
  have t0 : (wc.alloc (.cells #[.int .i64 (sv 0).re, .int .i64 (sv 0).im, .int .i64 (sv 1).re, .int .i64 (sv 1).im, .int .i64 (sv 2).re, .int .i64 (sv 2).im, .int .i64 (sv 3).re, .int .i64 (sv 3).im] 73)).cell? ⟨wc.heap.size, 0, none⟩ = some (.int .i64 (sv 0).re) := cell_new (by simp) rfl
  have t1 : (wc.alloc (.cells #[.int .i64 (sv 0).re, .int .i64 (sv 0).im, .int .i64 (sv 1).re, .int .i64 (sv 1).im, .int .i64 (sv 2).re, .int .i64 (sv 2).im, .int .i64 (sv 3).re, .int .i64 (sv 3).im] 73)).cell? ⟨wc.heap.size, 1, none⟩ = some (.int .i64 (sv 0).im) := cell_new (by simp) rfl
  have t2 : (wc.alloc (.cells #[.int .i64 (sv 0).re, .int .i64 (sv 0).im, .int .i64 (sv 1).re, .int .i64 (sv 1).im, .int .i64 (sv 2).re, .int .i64 (sv 2).im, .int .i64 (sv 3).re, .int .i64 (sv 3).im] 73)).cell? ⟨wc.heap.size, 2, none⟩ = some (.int .i64 (sv 1).re) := cell_new (by simp) rfl
  have t3 : (wc.alloc (.cells #[.int .i64 (sv 0).re, .int .i64 (sv 0).im, .int .i64 (sv 1).re, .int .i64 (sv 1).im, .int .i64 (sv 2).re, .int .i64 (sv 2).im, .int .i64 (sv 3).re, .int .i64 (sv 3).im] 73)).cell? ⟨wc.heap.size, 3, none⟩ = some (.int .i64 (sv 1).im) := cell_new (by simp) rfl
  have t4 : (wc.alloc (.cells #[.int .i64 (sv 0).re, .int .i64 (sv 0).im, .int .i64 (sv 1).re, .int .i64 (sv 1).im, .int .i64 (sv 2).re, .int .i64 (sv 2).im, .int .i64 (sv 3).re, .int .i64 (sv 3).im] 73)).cell? ⟨wc.heap.size, 4, none⟩ = some (.int .i64 (sv 2).re) := cell_new (by simp) rfl
  have t5 : (wc.alloc (.cells #[.int .i64 (sv 0).re, .int .i64 (sv 0).im, .int .i64 (sv 1).re, .int .i64 (sv 1).im, .int .i64 (sv 2).re, .int .i64 (sv 2).im, .int .i64 (sv 3).re, .int .i64 (sv 3).im] 73)).cell? ⟨wc.heap.size, 5, none⟩ = some (.int .i64 (sv 2).im) := cell_new (by simp) rfl
  have t6 : (wc.alloc (.cells #[.int .i64 (sv 0).re, .int .i64 (sv 0).im, .int .i64 (sv 1).re, .int .i64 (sv 1).im, .int .i64 (sv 2).re, .int .i64 (sv 2).im, .int .i64 (sv 3).re, .int .i64 (sv 3).im] 73)).cell? ⟨wc.heap.size, 6, none⟩ = some (.int .i64 (sv 3).re) := cell_new (by simp) rfl
  have t7 : (wc.alloc (.cells #[.int .i64 (sv 0).re, .int .i64 (sv 0).im, .int .i64 (sv 1).re, .int .i64 (sv 1).im, .int .i64 (sv 2).re, .int .i64 (sv 2).im, .int .i64 (sv 3).re, .int .i64 (sv 3).im] 73)).cell? ⟨wc.heap.size, 7, none⟩ = some (.int .i64 (sv 3).im) := cell_new (by simp) rfl
  have zt : wc.heap.size < (wc.alloc (.cells #[.int .i64 (sv 0).re, .int .i64 (sv 0).im, .int .i64 (sv 1).re, .int .i64 (sv 1).im, .int .i64 (sv 2).re, .int .i64 (sv 2).im, .int .i64 (sv 3).re, .int .i64 (sv 3).im] 73)).heap.size := World.block_lt_of_cell? _ _ t0
  generalize (wc.alloc (.cells #[.int .i64 (sv 0).re, .int .i64 (sv 0).im, .int .i64 (sv 1).re, .int .i64 (sv 1).im, .int .i64 (sv 2).re, .int .i64 (sv 2).im, .int .i64 (sv 3).re, .int .i64 (sv 3).im] 73)) = wd at *
  have kd : Below w.heap.size w wd := (kc).trans ((hbd).mono (kc).size)
  replace p0 := cell_below' hbd p0
  replace p1 := cell_below' hbd p1
  replace zp := Nat.lt_of_lt_of_le zp (hbd).size
  replace l0 := cell_below' hbd l0
  replace l1 := cell_below' hbd l1
  replace l2 := cell_below' hbd l2
  replace l3 := cell_below' hbd l3
  replace l4 := cell_below' hbd l4
  replace l5 := cell_below' hbd l5
  replace l6 := cell_below' hbd l6
  replace l7 := cell_below' hbd l7
  replace zl := Nat.lt_of_lt_of_le zl (hbd).size
  replace s0 := cell_below' hbd s0
  replace s1 := cell_below' hbd s1
  replace s2 := cell_below' hbd s2
  replace s3 := cell_below' hbd s3
  replace s4 := cell_below' hbd s4
  replace s5 := cell_below' hbd s5
  replace s6 := cell_below' hbd s6
  replace s7 := cell_below' hbd s7
  replace zs := Nat.lt_of_lt_of_le zs (hbd).size
  replace hA0 := RowsAt.below hA0 hbd
  clear hbd kc
  go_wp2_with (fail)
  refine (HSE.out _ hA0).mono ?_
  rintro e we ⟨rfl, hbe⟩
  have ke : Below w.heap.size w we := (kd).trans ((hbe).mono (kd).size)
  replace p0 := cell_below' hbe p0
  replace p1 := cell_below' hbe p1
  replace zp := Nat.lt_of_lt_of_le zp (hbe).size
  replace l0 := cell_below' hbe l0
  replace l1 := cell_below' hbe l1
  replace l2 := cell_below' hbe l2
  replace l3 := cell_below' hbe l3
  replace l4 := cell_below' hbe l4
  replace l5 := cell_below' hbe l5
  replace l6 := cell_below' hbe l6
  replace l7 := cell_below' hbe l7
  replace zl := Nat.lt_of_lt_of_le zl (hbe).size
  replace hA0 := RowsAt.below hA0 hbe
  clear hbe kd
  clear HSE s0 s1 s2 s3 s4 s5 s6 s7 zs t0 t1 t2 t3 t4 t5 t6 t7
  go_wp2_with (fail)
  refine (HRD.out _ hA0).mono ?_
  rintro e wf ⟨rfl, hbf⟩
  have kf : Below w.heap.size w wf := (ke).trans ((hbf).mono (ke).size)
  replace l0 := cell_below' hbf l0
  replace l1 := cell_below' hbf l1
  replace l2 := cell_below' hbf l2
  replace l3 := cell_below' hbf l3
  replace l4 := cell_below' hbf l4
  replace l5 := cell_below' hbf l5
  replace l6 := cell_below' hbf l6
  replace l7 := cell_below' hbf l7
  replace zl := Nat.lt_of_lt_of_le zl (hbf).size
  replace hA0 := RowsAt.below hA0 hbf
  clear hbf ke
  clear HRD
  go_upto_region 23 with (fail)
  (refine region_extx 7 (by kernel_rfl) (by kernel_rfl) fun hx => ?_; simp only [List.take_succ_cons, List.take_zero, List.drop_succ_cons, List.drop_zero]; (repeat (any_goals (first | go_big_quiet_step (((go_at_call 60; with_reducible exact ext_call (HRL.out _ (RowsAt.below hA0 (ext_bel _ _)))))) | quiet_step (((go_at_call 60; with_reducible exact ext_call (HRL.out _ (RowsAt.below hA0 (ext_bel _ _))))))))))
  (refine wpQuiet_nil ?_; clear hx; intro u; have hbwh := ext_bel _ u; have hxwh := ext_cell _ u; generalize ext _ u = wh at *; clear u; have hswh := hbwh.size; (try simp at hswh))
  have kh := kf.trans (hbwh.mono kf.size)
  clear hxwh hswh HRL
  cases db
  · have hd0 := HNZ.out rfl
    subst hd0
    have hu : unl false 11 = 11 := rfl
    rw [hu]
    clear HNZ
    go_wp2_with (fail)
    go_ret
    exact ⟨rfl, kh⟩
  · have hu : unl true 11 = 0 := rfl
    rw [hu]
    have hdd : ((dk : Int) == dk) = true := by simp
    clear HNZ
    go_wp2_with (fail)
    go_ret
    exact ⟨rfl, kh⟩
set_option maxRecDepth 100000 in
set_option maxHeartbeats 16000000 in
theorem lines_2e (A : Option Addr) (x : List Gs) (ca : Nat) (h : Nat → Gs) (w : World) (ht : Tab w) (hA : GsAt w A x) (hxl : x.length ≤ 66) (hn : 2 ≤ x.length) (hc : smpsE x ≠ 0) :
    Calls Tryd.prog 9 #[.slice A x.length ca, gv4 h] w fun e w' => e = .returned (.bool true) ∧ Below w.heap.size w w' := by
  have HT := Lib.hid ht
  have HFW := Lib.hid (fun W => few_any A x ca W true (decide_eq_true (by omega)))
  have HCP := Lib.hid (fun W (hB : GsAt W A x) => CopyG_cap A x ca W (by omega) hB)
  have HLG := Lib.hid (fun W B c (hc : x.length ≤ c) (hB : GsAt W B x) => LagProduct_any B x c W (by omega) hc hB)
  have HLN := Lib.hid (fun W B c (hB : GsAt W B x) => LinesOf_any B x c W (by omega) hB)
  have HDP := Lib.hid (fun W B c (hB : GsAt W B x) => DopplerOf_any B x c W (by omega) hB)
  have HS1 := Lib.hid (fun W => SumsOf_any h W)
  have HS2 := Lib.hid (fun W => RSums_any h W)
  have HSE := Lib.hid (fun W (hB : GsAt W A x) => RSamplesErr_any A x ca W (by omega) hB)
  have hsn := neL (smsV h) (smsV h)
  have hss : eqL4 (smsV h) (smsV h) = true := by simp [eqL4, eqB]
  rw [hss] at hsn
  have hee : (smsE h != smsE h) = false := by simp
  have hxi : (x.length : Int) ≤ 66 := by omega
  have hl1 := linE_2 (show 0 < x.length by omega)
  have hl2 : linE x ≠ 0 := by rw [hl1]; exact hc
  rw [lagQ_2 hn hc] at HLG
  rw [linV_z hl2, hl1] at HLN
  rw [dopQ_z hl2, hl1] at HDP
  have hc1 : (smpsE x != 0) = true := by simpa using hc
  have hc2 : (smpsE x == 0) = false := by simpa using hc
  have hc3 : (smpsE x != smpsE x) = false := by simp
  have hc4 : (smpsE x == smpsE x) = true := by simp
  have hi0 : ((x.length : Int) == 0) = false := by rw [beq_eq_false_iff_ne]; omega
  have hi2 : decide ((x.length : Int) < 2) = false := by simp; omega
  have hzL := eqL (fun _ => gz) (fun _ => gz)
  have hzl : eqL4 (fun _ => gz) (fun _ => gz) = true := rfl
  rw [hzl] at hzL
  clear hzl
  have hnG := neG gz gz
  have hng : neB gz gz = false := rfl
  rw [hng] at hnG
  clear hng
  clear hl1 hl2 hc
  clear ht hss
  generalize smsE h = se at *
  generalize smsV h = sv at *
  generalize smpsE x = c at *
  simp only [gv4, gv, gz] at *
  go_enter Tryd.func9, Tryd.ntmps9
  go_upto_region 1 with (fail)
  have hb0 : Below w.heap.size w (w.alloc (.cells #[.int .i64 (h 0).re, .int .i64 (h 0).im, .int .i64 (h 1).re, .int .i64 (h 1).im, .int .i64 (h 2).re, .int .i64 (h 2).im, .int .i64 (h 3).re, .int .i64 (h 3).im] 73)) := below_alloc _ (Nat.le_refl _) (Below.refl _ _)
  have q0 : (w.alloc (.cells #[.int .i64 (h 0).re, .int .i64 (h 0).im, .int .i64 (h 1).re, .int .i64 (h 1).im, .int .i64 (h 2).re, .int .i64 (h 2).im, .int .i64 (h 3).re, .int .i64 (h 3).im] 73)).cell? ⟨w.heap.size, 0, none⟩ = some (.int .i64 (h 0).re) := cell_new (by simp) rfl
  have q1 : (w.alloc (.cells #[.int .i64 (h 0).re, .int .i64 (h 0).im, .int .i64 (h 1).re, .int .i64 (h 1).im, .int .i64 (h 2).re, .int .i64 (h 2).im, .int .i64 (h 3).re, .int .i64 (h 3).im] 73)).cell? ⟨w.heap.size, 1, none⟩ = some (.int .i64 (h 0).im) := cell_new (by simp) rfl
  have q2 : (w.alloc (.cells #[.int .i64 (h 0).re, .int .i64 (h 0).im, .int .i64 (h 1).re, .int .i64 (h 1).im, .int .i64 (h 2).re, .int .i64 (h 2).im, .int .i64 (h 3).re, .int .i64 (h 3).im] 73)).cell? ⟨w.heap.size, 2, none⟩ = some (.int .i64 (h 1).re) := cell_new (by simp) rfl
  have q3 : (w.alloc (.cells #[.int .i64 (h 0).re, .int .i64 (h 0).im, .int .i64 (h 1).re, .int .i64 (h 1).im, .int .i64 (h 2).re, .int .i64 (h 2).im, .int .i64 (h 3).re, .int .i64 (h 3).im] 73)).cell? ⟨w.heap.size, 3, none⟩ = some (.int .i64 (h 1).im) := cell_new (by simp) rfl
  have q4 : (w.alloc (.cells #[.int .i64 (h 0).re, .int .i64 (h 0).im, .int .i64 (h 1).re, .int .i64 (h 1).im, .int .i64 (h 2).re, .int .i64 (h 2).im, .int .i64 (h 3).re, .int .i64 (h 3).im] 73)).cell? ⟨w.heap.size, 4, none⟩ = some (.int .i64 (h 2).re) := cell_new (by simp) rfl
  have q5 : (w.alloc (.cells #[.int .i64 (h 0).re, .int .i64 (h 0).im, .int .i64 (h 1).re, .int .i64 (h 1).im, .int .i64 (h 2).re, .int .i64 (h 2).im, .int .i64 (h 3).re, .int .i64 (h 3).im] 73)).cell? ⟨w.heap.size, 5, none⟩ = some (.int .i64 (h 2).im) := cell_new (by simp) rfl
  have q6 : (w.alloc (.cells #[.int .i64 (h 0).re, .int .i64 (h 0).im, .int .i64 (h 1).re, .int .i64 (h 1).im, .int .i64 (h 2).re, .int .i64 (h 2).im, .int .i64 (h 3).re, .int .i64 (h 3).im] 73)).cell? ⟨w.heap.size, 6, none⟩ = some (.int .i64 (h 3).re) := cell_new (by simp) rfl
  have q7 : (w.alloc (.cells #[.int .i64 (h 0).re, .int .i64 (h 0).im, .int .i64 (h 1).re, .int .i64 (h 1).im, .int .i64 (h 2).re, .int .i64 (h 2).im, .int .i64 (h 3).re, .int .i64 (h 3).im] 73)).cell? ⟨w.heap.size, 7, none⟩ = some (.int .i64 (h 3).im) := cell_new (by simp) rfl
  have zq : w.heap.size < (w.alloc (.cells #[.int .i64 (h 0).re, .int .i64 (h 0).im, .int .i64 (h 1).re, .int .i64 (h 1).im, .int .i64 (h 2).re, .int .i64 (h 2).im, .int .i64 (h 3).re, .int .i64 (h 3).im] 73)).heap.size := World.block_lt_of_cell? _ _ q0
  generalize (w.alloc (.cells #[.int .i64 (h 0).re, .int .i64 (h 0).im, .int .i64 (h 1).re, .int .i64 (h 1).im, .int .i64 (h 2).re, .int .i64 (h 2).im, .int .i64 (h 3).re, .int .i64 (h 3).im] 73)) = w0 at *
  have HT0 := Lib.hid (HT.out.below hb0)
  go_wp2_with (fail)
  refine (awake_any w0 HT0.out).mono ?_
  rintro e w1 ⟨rfl, hb1⟩
  have hA0 := RowsAt.below hA hb0
  have k1 : Below w.heap.size w w1 := (hb0).trans ((hb1).mono (hb0).size)
  replace q0 := cell_below' hb1 q0
  replace q1 := cell_below' hb1 q1
  replace q2 := cell_below' hb1 q2
  replace q3 := cell_below' hb1 q3
  replace q4 := cell_below' hb1 q4
  replace q5 := cell_below' hb1 q5
  replace q6 := cell_below' hb1 q6
  replace q7 := cell_below' hb1 q7
  replace zq := Nat.lt_of_lt_of_le zq (hb1).size
  replace hA0 := RowsAt.below hA0 hb1
  clear hb1 hb0
  clear HT HT0 hA
  go_wp2_with (fail)
  refine (HFW.out _).mono ?_
  rintro e w' ⟨rfl, rfl⟩
  clear HFW
  go_wp2_with (fail)
  refine (HCP.out _ hA0).mono ?_
  rintro e w2 ⟨B2, c2, rfl, hc2, hB2, hb2⟩
  have k2 : Below w.heap.size w w2 := (k1).trans ((hb2).mono (k1).size)
  replace q0 := cell_below' hb2 q0
  replace q1 := cell_below' hb2 q1
  replace q2 := cell_below' hb2 q2
  replace q3 := cell_below' hb2 q3
  replace q4 := cell_below' hb2 q4
  replace q5 := cell_below' hb2 q5
  replace q6 := cell_below' hb2 q6
  replace q7 := cell_below' hb2 q7
  replace zq := Nat.lt_of_lt_of_le zq (hb2).size
  replace hA0 := RowsAt.below hA0 hb2
  clear hb2 k1
  go_wp2_with (fail)
  refine (HLG.out _ _ _ hc2 hB2).mono ?_
  rintro e w3 ⟨rfl, hb3⟩
  have k3 : Below w.heap.size w w3 := (k2).trans ((hb3).mono (k2).size)
  replace q0 := cell_below' hb3 q0
  replace q1 := cell_below' hb3 q1
  replace q2 := cell_below' hb3 q2
  replace q3 := cell_below' hb3 q3
  replace q4 := cell_below' hb3 q4
  replace q5 := cell_below' hb3 q5
  replace q6 := cell_below' hb3 q6
  replace q7 := cell_below' hb3 q7
  replace zq := Nat.lt_of_lt_of_le zq (hb3).size
  replace hA0 := RowsAt.below hA0 hb3
  clear hb3 k2
  clear HLG hB2
  go_upto_region 6 with (fail)
  have hb4 : Below w3.heap.size w3 (w3.alloc (.cells #[.int .i64 0, .int .i64 0] 24)) := below_alloc _ (Nat.le_refl _) (Below.refl _ _)
  have p0 : (w3.alloc (.cells #[.int .i64 0, .int .i64 0] 24)).cell? ⟨w3.heap.size, 0, none⟩ = some (.int .i64 0) := cell_new (by simp) rfl
  have p1 : (w3.alloc (.cells #[.int .i64 0, .int .i64 0] 24)).cell? ⟨w3.heap.size, 1, none⟩ = some (.int .i64 0) := cell_new (by simp) rfl
  have zp : w3.heap.size < (w3.alloc (.cells #[.int .i64 0, .int .i64 0] 24)).heap.size := World.block_lt_of_cell? _ _ p0
  generalize (w3.alloc (.cells #[.int .i64 0, .int .i64 0] 24)) = w4 at *
  have k4 : Below w.heap.size w w4 := (k3).trans ((hb4).mono (k3).size)
  replace q0 := cell_below' hb4 q0
  replace q1 := cell_below' hb4 q1
  replace q2 := cell_below' hb4 q2
  replace q3 := cell_below' hb4 q3
  replace q4 := cell_below' hb4 q4
  replace q5 := cell_below' hb4 q5
  replace q6 := cell_below' hb4 q6
  replace q7 := cell_below' hb4 q7
  replace zq := Nat.lt_of_lt_of_le zq (hb4).size
  replace hA0 := RowsAt.below hA0 hb4
  clear hb4 k3
  generalize w3.heap.size = pb at *
  go_wp2_with (fail)
  refine (HCP.out _ hA0).mono ?_
  rintro e w5 ⟨B5, c5, rfl, hc5, hB5, hb5⟩
  have k5 : Below w.heap.size w w5 := (k4).trans ((hb5).mono (k4).size)
  replace q0 := cell_below' hb5 q0
  replace q1 := cell_below' hb5 q1
  replace q2 := cell_below' hb5 q2
  replace q3 := cell_below' hb5 q3
  replace q4 := cell_below' hb5 q4
  replace q5 := cell_below' hb5 q5
  replace q6 := cell_below' hb5 q6
  replace q7 := cell_below' hb5 q7
  replace zq := Nat.lt_of_lt_of_le zq (hb5).size
  replace p0 := cell_below' hb5 p0
  replace p1 := cell_below' hb5 p1
  replace zp := Nat.lt_of_lt_of_le zp (hb5).size
  replace hA0 := RowsAt.below hA0 hb5
  clear hb5 k4
  go_wp2_with (fail)
  refine (HLN.out _ _ _ hB5).mono ?_
  rintro e w6 ⟨rfl, hb6⟩
  have k6 : Below w.heap.size w w6 := (k5).trans ((hb6).mono (k5).size)
  replace q0 := cell_below' hb6 q0
  replace q1 := cell_below' hb6 q1
  replace q2 := cell_below' hb6 q2
  replace q3 := cell_below' hb6 q3
  replace q4 := cell_below' hb6 q4
  replace q5 := cell_below' hb6 q5
  replace q6 := cell_below' hb6 q6
  replace q7 := cell_below' hb6 q7
  replace zq := Nat.lt_of_lt_of_le zq (hb6).size
  replace p0 := cell_below' hb6 p0
  replace p1 := cell_below' hb6 p1
  replace zp := Nat.lt_of_lt_of_le zp (hb6).size
  replace hA0 := RowsAt.below hA0 hb6
  clear hb6 k5
  clear HLN hB5
  go_upto_region 7 with (fail)
  have hb7 : Below w6.heap.size w6 (w6.alloc (.cells #[.int .i64 0, .int .i64 0, .int .i64 0, .int .i64 0, .int .i64 0, .int .i64 0, .int .i64 0, .int .i64 0] 73)) := below_alloc _ (Nat.le_refl _) (Below.refl _ _)
  have l0 : (w6.alloc (.cells #[.int .i64 0, .int .i64 0, .int .i64 0, .int .i64 0, .int .i64 0, .int .i64 0, .int .i64 0, .int .i64 0] 73)).cell? ⟨w6.heap.size, 0, none⟩ = some (.int .i64 0) := cell_new (by simp) rfl
  have l1 : (w6.alloc (.cells #[.int .i64 0, .int .i64 0, .int .i64 0, .int .i64 0, .int .i64 0, .int .i64 0, .int .i64 0, .int .i64 0] 73)).cell? ⟨w6.heap.size, 1, none⟩ = some (.int .i64 0) := cell_new (by simp) rfl
  have l2 : (w6.alloc (.cells #[.int .i64 0, .int .i64 0, .int .i64 0, .int .i64 0, .int .i64 0, .int .i64 0, .int .i64 0, .int .i64 0] 73)).cell? ⟨w6.heap.size, 2, none⟩ = some (.int .i64 0) := cell_new (by simp) rfl
  have l3 : (w6.alloc (.cells #[.int .i64 0, .int .i64 0, .int .i64 0, .int .i64 0, .int .i64 0, .int .i64 0, .int .i64 0, .int .i64 0] 73)).cell? ⟨w6.heap.size, 3, none⟩ = some (.int .i64 0) := cell_new (by simp) rfl
  have l4 : (w6.alloc (.cells #[.int .i64 0, .int .i64 0, .int .i64 0, .int .i64 0, .int .i64 0, .int .i64 0, .int .i64 0, .int .i64 0] 73)).cell? ⟨w6.heap.size, 4, none⟩ = some (.int .i64 0) := cell_new (by simp) rfl
  have l5 : (w6.alloc (.cells #[.int .i64 0, .int .i64 0, .int .i64 0, .int .i64 0, .int .i64 0, .int .i64 0, .int .i64 0, .int .i64 0] 73)).cell? ⟨w6.heap.size, 5, none⟩ = some (.int .i64 0) := cell_new (by simp) rfl
  have l6 : (w6.alloc (.cells #[.int .i64 0, .int .i64 0, .int .i64 0, .int .i64 0, .int .i64 0, .int .i64 0, .int .i64 0, .int .i64 0] 73)).cell? ⟨w6.heap.size, 6, none⟩ = some (.int .i64 0) := cell_new (by simp) rfl
  have l7 : (w6.alloc (.cells #[.int .i64 0, .int .i64 0, .int .i64 0, .int .i64 0, .int .i64 0, .int .i64 0, .int .i64 0, .int .i64 0] 73)).cell? ⟨w6.heap.size, 7, none⟩ = some (.int .i64 0) := cell_new (by simp) rfl
  have zl : w6.heap.size < (w6.alloc (.cells #[.int .i64 0, .int .i64 0, .int .i64 0, .int .i64 0, .int .i64 0, .int .i64 0, .int .i64 0, .int .i64 0] 73)).heap.size := World.block_lt_of_cell? _ _ l0
  generalize (w6.alloc (.cells #[.int .i64 0, .int .i64 0, .int .i64 0, .int .i64 0, .int .i64 0, .int .i64 0, .int .i64 0, .int .i64 0] 73)) = w7 at *
  have k7 : Below w.heap.size w w7 := (k6).trans ((hb7).mono (k6).size)
  replace q0 := cell_below' hb7 q0
  replace q1 := cell_below' hb7 q1
  replace q2 := cell_below' hb7 q2
  replace q3 := cell_below' hb7 q3
  replace q4 := cell_below' hb7 q4
  replace q5 := cell_below' hb7 q5
  replace q6 := cell_below' hb7 q6
  replace q7 := cell_below' hb7 q7
  replace zq := Nat.lt_of_lt_of_le zq (hb7).size
  replace p0 := cell_below' hb7 p0
  replace p1 := cell_below' hb7 p1
  replace zp := Nat.lt_of_lt_of_le zp (hb7).size
  replace hA0 := RowsAt.below hA0 hb7
  clear hb7 k6
  generalize w6.heap.size = lb at *
  go_wp2_with (fail)
  refine (HCP.out _ hA0).mono ?_
  rintro e w8 ⟨B8, c8, rfl, hc8, hB8, hb8⟩
  have k8 : Below w.heap.size w w8 := (k7).trans ((hb8).mono (k7).size)
  replace q0 := cell_below' hb8 q0
  replace q1 := cell_below' hb8 q1
  replace q2 := cell_below' hb8 q2
  replace q3 := cell_below' hb8 q3
  replace q4 := cell_below' hb8 q4
  replace q5 := cell_below' hb8 q5
  replace q6 := cell_below' hb8 q6
  replace q7 := cell_below' hb8 q7
  replace zq := Nat.lt_of_lt_of_le zq (hb8).size
  replace p0 := cell_below' hb8 p0
  replace p1 := cell_below' hb8 p1
  replace zp := Nat.lt_of_lt_of_le zp (hb8).size
  replace l0 := cell_below' hb8 l0
  replace l1 := cell_below' hb8 l1
  replace l2 := cell_below' hb8 l2
  replace l3 := cell_below' hb8 l3
  replace l4 := cell_below' hb8 l4
  replace l5 := cell_below' hb8 l5
  replace l6 := cell_below' hb8 l6
  replace l7 := cell_below' hb8 l7
  replace zl := Nat.lt_of_lt_of_le zl (hb8).size
  replace hA0 := RowsAt.below hA0 hb8
  clear hb8 k7
  go_wp2_with (fail)
  refine (HDP.out _ _ _ hB8).mono ?_
  rintro e w9 ⟨rfl, hb9⟩
  have k9 : Below w.heap.size w w9 := (k8).trans ((hb9).mono (k8).size)
  replace q0 := cell_below' hb9 q0
  replace q1 := cell_below' hb9 q1
  replace q2 := cell_below' hb9 q2
  replace q3 := cell_below' hb9 q3
  replace q4 := cell_below' hb9 q4
  replace q5 := cell_below' hb9 q5
  replace q6 := cell_below' hb9 q6
  replace q7 := cell_below' hb9 q7
  replace zq := Nat.lt_of_lt_of_le zq (hb9).size
  replace p0 := cell_below' hb9 p0
  replace p1 := cell_below' hb9 p1
  replace zp := Nat.lt_of_lt_of_le zp (hb9).size
  replace l0 := cell_below' hb9 l0
  replace l1 := cell_below' hb9 l1
  replace l2 := cell_below' hb9 l2
  replace l3 := cell_below' hb9 l3
  replace l4 := cell_below' hb9 l4
  replace l5 := cell_below' hb9 l5
  replace l6 := cell_below' hb9 l6
  replace l7 := cell_below' hb9 l7
  replace zl := Nat.lt_of_lt_of_le zl (hb9).size
  replace hA0 := RowsAt.below hA0 hb9
  clear hb9 k8
  clear HDP hB8 HCP
  go_wp2_with (fail)
  refine (HS1.out _).mono ?_
  rintro e wa ⟨rfl, hba⟩
  have ka : Below w.heap.size w wa := (k9).trans ((hba).mono (k9).size)
  replace q0 := cell_below' hba q0
  replace q1 := cell_below' hba q1
  replace q2 := cell_below' hba q2
  replace q3 := cell_below' hba q3
  replace q4 := cell_below' hba q4
  replace q5 := cell_below' hba q5
  replace q6 := cell_below' hba q6
  replace q7 := cell_below' hba q7
  replace zq := Nat.lt_of_lt_of_le zq (hba).size
  replace p0 := cell_below' hba p0
  replace p1 := cell_below' hba p1
  replace zp := Nat.lt_of_lt_of_le zp (hba).size
  replace l0 := cell_below' hba l0
  replace l1 := cell_below' hba l1
  replace l2 := cell_below' hba l2
  replace l3 := cell_below' hba l3
  replace l4 := cell_below' hba l4
  replace l5 := cell_below' hba l5
  replace l6 := cell_below' hba l6
  replace l7 := cell_below' hba l7
  replace zl := Nat.lt_of_lt_of_le zl (hba).size
  replace hA0 := RowsAt.below hA0 hba
  clear hba k9
  go_upto_region 9 with (fail)
  have hbb : Below wa.heap.size wa (wa.alloc (.cells #[.int .i64 (sv 0).re, .int .i64 (sv 0).im, .int .i64 (sv 1).re, .int .i64 (sv 1).im, .int .i64 (sv 2).re, .int .i64 (sv 2).im, .int .i64 (sv 3).re, .int .i64 (sv 3).im] 73)) := below_alloc _ (Nat.le_refl _) (Below.refl _ _)
  have s0 : (wa.alloc (.cells #[.int .i64 (sv 0).re, .int .i64 (sv 0).im, .int .i64 (sv 1).re, .int .i64 (sv 1).im, .int .i64 (sv 2).re, .int .i64 (sv 2).im, .int .i64 (sv 3).re, .int .i64 (sv 3).im] 73)).cell? ⟨wa.heap.size, 0, none⟩ = some (.int .i64 (sv 0).re) := cell_new (by simp) rfl
  have s1 : (wa.alloc (.cells #[.int .i64 (sv 0).re, .int .i64 (sv 0).im, .int .i64 (sv 1).re, .int .i64 (sv 1).im, .int .i64 (sv 2).re, .int .i64 (sv 2).im, .int .i64 (sv 3).re, .int .i64 (sv 3).im] 73)).cell? ⟨wa.heap.size, 1, none⟩ = some (.int .i64 (sv 0).im) := cell_new (by simp) rfl
  have s2 : (wa.alloc (.cells #[.int .i64 (sv 0).re, .int .i64 (sv 0).im, .int .i64 (sv 1).re, .int .i64 (sv 1).im, .int .i64 (sv 2).re, .int .i64 (sv 2).im, .int .i64 (sv 3).re, .int .i64 (sv 3).im] 73)).cell? ⟨wa.heap.size, 2, none⟩ = some (.int .i64 (sv 1).re) := cell_new (by simp) rfl
  have s3 : (wa.alloc (.cells #[.int .i64 (sv 0).re, .int .i64 (sv 0).im, .int .i64 (sv 1).re, .int .i64 (sv 1).im, .int .i64 (sv 2).re, .int .i64 (sv 2).im, .int .i64 (sv 3).re, .int .i64 (sv 3).im] 73)).cell? ⟨wa.heap.size, 3, none⟩ = some (.int .i64 (sv 1).im) := cell_new (by simp) rfl
  have s4 : (wa.alloc (.cells #[.int .i64 (sv 0).re, .int .i64 (sv 0).im, .int .i64 (sv 1).re, .int .i64 (sv 1).im, .int .i64 (sv 2).re, .int .i64 (sv 2).im, .int .i64 (sv 3).re, .int .i64 (sv 3).im] 73)).cell? ⟨wa.heap.size, 4, none⟩ = some (.int .i64 (sv 2).re) := cell_new (by simp) rfl
  have s5 : (wa.alloc (.cells #[.int .i64 (sv 0).re, .int .i64 (sv 0).im, .int .i64 (sv 1).re, .int .i64 (sv 1).im, .int .i64 (sv 2).re, .int .i64 (sv 2).im, .int .i64 (sv 3).re, .int .i64 (sv 3).im] 73)).cell? ⟨wa.heap.size, 5, none⟩ = some (.int .i64 (sv 2).im) := cell_new (by simp) rfl
  have s6 : (wa.alloc (.cells #[.int .i64 (sv 0).re, .int .i64 (sv 0).im, .int .i64 (sv 1).re, .int .i64 (sv 1).im, .int .i64 (sv 2).re, .int .i64 (sv 2).im, .int .i64 (sv 3).re, .int .i64 (sv 3).im] 73)).cell? ⟨wa.heap.size, 6, none⟩ = some (.int .i64 (sv 3).re) := cell_new (by simp) rfl
  have s7 : (wa.alloc (.cells #[.int .i64 (sv 0).re, .int .i64 (sv 0).im, .int .i64 (sv 1).re, .int .i64 (sv 1).im, .int .i64 (sv 2).re, .int .i64 (sv 2).im, .int .i64 (sv 3).re, .int .i64 (sv 3).im] 73)).cell? ⟨wa.heap.size, 7, none⟩ = some (.int .i64 (sv 3).im) := cell_new (by simp) rfl
  have zs : wa.heap.size < (wa.alloc (.cells #[.int .i64 (sv 0).re, .int .i64 (sv 0).im, .int .i64 (sv 1).re, .int .i64 (sv 1).im, .int .i64 (sv 2).re, .int .i64 (sv 2).im, .int .i64 (sv 3).re, .int .i64 (sv 3).im] 73)).heap.size := World.block_lt_of_cell? _ _ s0
  generalize (wa.alloc (.cells #[.int .i64 (sv 0).re, .int .i64 (sv 0).im, .int .i64 (sv 1).re, .int .i64 (sv 1).im, .int .i64 (sv 2).re, .int .i64 (sv 2).im, .int .i64 (sv 3).re, .int .i64 (sv 3).im] 73)) = wb at *
  have kb : Below w.heap.size w wb := (ka).trans ((hbb).mono (ka).size)
  replace q0 := cell_below' hbb q0
  replace q1 := cell_below' hbb q1
  replace q2 := cell_below' hbb q2
  replace q3 := cell_below' hbb q3
  replace q4 := cell_below' hbb q4
  replace q5 := cell_below' hbb q5
  replace q6 := cell_below' hbb q6
  replace q7 := cell_below' hbb q7
  replace zq := Nat.lt_of_lt_of_le zq (hbb).size
  replace p0 := cell_below' hbb p0
  replace p1 := cell_below' hbb p1
  replace zp := Nat.lt_of_lt_of_le zp (hbb).size
  replace l0 := cell_below' hbb l0
  replace l1 := cell_below' hbb l1
  replace l2 := cell_below' hbb l2
  replace l3 := cell_below' hbb l3
  replace l4 := cell_below' hbb l4
  replace l5 := cell_below' hbb l5
  replace l6 := cell_below' hbb l6
  replace l7 := cell_below' hbb l7
  replace zl := Nat.lt_of_lt_of_le zl (hbb).size
  replace hA0 := RowsAt.below hA0 hbb
  clear hbb ka
  generalize wa.heap.size = sb at *
  go_wp2_with (fail)
  refine (HS2.out _).mono ?_
  rintro e wc ⟨rfl, hbc⟩
  have kc : Below w.heap.size w wc := (kb).trans ((hbc).mono (kb).size)
  replace p0 := cell_below' hbc p0
  replace p1 := cell_below' hbc p1
  replace zp := Nat.lt_of_lt_of_le zp (hbc).size
  replace l0 := cell_below' hbc l0
  replace l1 := cell_below' hbc l1
  replace l2 := cell_below' hbc l2
  replace l3 := cell_below' hbc l3
  replace l4 := cell_below' hbc l4
  replace l5 := cell_below' hbc l5
  replace l6 := cell_below' hbc l6
  replace l7 := cell_below' hbc l7
  replace zl := Nat.lt_of_lt_of_le zl (hbc).size
  replace s0 := cell_below' hbc s0
  replace s1 := cell_below' hbc s1
  replace s2 := cell_below' hbc s2
  replace s3 := cell_below' hbc s3
  replace s4 := cell_below' hbc s4
  replace s5 := cell_below' hbc s5
  replace s6 := cell_below' hbc s6
  replace s7 := cell_below' hbc s7
  replace zs := Nat.lt_of_lt_of_le zs (hbc).size
  replace hA0 := RowsAt.below hA0 hbc
  clear hbc kb
  clear HS1 HS2
  go_upto_region 10 with (fail)
  have hbd : Below wc.heap.size wc (wc.alloc (.cells #[.int .i64 (sv 0).re, .int .i64 (sv 0).im, .int .i64 (sv 1).re, .int .i64 (sv 1).im, .int .i64 (sv 2).re, .int .i64 (sv 2).im, .int .i64 (sv 3).re, .int .i64 (sv 3).im] 73)) := below_alloc _ (Nat.le_refl _) (Below.refl _ _)
  have t0 : (wc.alloc (.cells #[.int .i64 (sv 0).re, .int .i64 (sv 0).im, .int .i64 (sv 1).re, .int .i64 (sv 1).im, .int .i64 (sv 2).re, .int .i64 (sv 2).im, .int .i64 (sv 3).re, .int .i64 (sv 3).im] 73)).cell? ⟨wc.heap.size, 0, none⟩ = some (.int .i64 (sv 0).re) := cell_new (by simp) rfl
  have t1 : (wc.alloc (.cells #[.int .i64 (sv 0).re, .int .i64 (sv 0).im, .int .i64 (sv 1).re, .int .i64 (sv 1).im, .int .i64 (sv 2).re, .int .i64 (sv 2).im, .int .i64 (sv 3).re, .int .i64 (sv 3).im] 73)).cell? ⟨wc.heap.size, 1, none⟩ = some (.int .i64 (sv 0).im) := cell_new (by simp) rfl
  have t2 : (wc.alloc (.cells #[.int .i64 (sv 0).re, .int .i64 (sv 0).im, .int .i64 (sv 1).re, .int .i64 (sv 1).im, .int .i64 (sv 2).re, .int .i64 (sv 2).im, .int .i64 (sv 3).re, .int .i64 (sv 3).im] 73)).cell? ⟨wc.heap.size, 2, none⟩ = some (.int .i64 (sv 1).re) := cell_new (by simp) rfl
  have t3 : (wc.alloc (.cells #[.int .i64 (sv 0).re, .int .i64 (sv 0).im, .int .i64 (sv 1).re, .int .i64 (sv 1).im, .int .i64 (sv 2).re, .int .i64 (sv 2).im, .int .i64 (sv 3).re, .int .i64 (sv 3).im] 73)).cell? ⟨wc.heap.size, 3, none⟩ = some (.int .i64 (sv 1).im) := cell_new (by simp) rfl
  have t4 : (wc.alloc (.cells #[.int .i64 (sv 0).re, .int .i64 (sv 0).im, .int .i64 (sv 1).re, .int .i64 (sv 1).im, .int .i64 (sv 2).re, .int .i64 (sv 2).im, .int .i64 (sv 3).re, .int .i64 (sv 3).im] 73)).cell? ⟨wc.heap.size, 4, none⟩ = some (.int .i64 (sv 2).re) := cell_new (by simp) rfl
  have t5 : (wc.alloc (.cells #[.int .i64 (sv 0).re, .int .i64 (sv 0).im, .int .i64 (sv 1).re, .int .i64 (sv 1).im, .int .i64 (sv 2).re, .int .i64 (sv 2).im, .int .i64 (sv 3).re, .int .i64 (sv 3).im] 73)).cell? ⟨wc.heap.size, 5, none⟩ = some (.int .i64 (sv 2).im) := cell_new (by simp) rfl
  have t6 : (wc.alloc (.cells #[.int .i64 (sv 0).re, .int .i64 (sv 0).im, .int .i64 (sv 1).re, .int .i64 (sv 1).im, .int .i64 (sv 2).re, .int .i64 (sv 2).im, .int .i64 (sv 3).re, .int .i64 (sv 3).im] 73)).cell? ⟨wc.heap.size, 6, none⟩ = some (.int .i64 (sv 3).re) := cell_new (by simp) rfl
  have t7 : (wc.alloc (.cells #[.int .i64 (sv 0).re, .int .i64 (sv 0).im, .int .i64 (sv 1).re, .int .i64 (sv 1).im, .int .i64 (sv 2).re, .int .i64 (sv 2).im, .int .i64 (sv 3).re, .int .i64 (sv 3).im] 73)).cell? ⟨wc.heap.size, 7, none⟩ = some (.int .i64 (sv 3).im) := cell_new (by simp) rfl
  have zt : wc.heap.size < (wc.alloc (.cells #[.int .i64 (sv 0).re, .int .i64 (sv 0).im, .int .i64 (sv 1).re, .int .i64 (sv 1).im, .int .i64 (sv 2).re, .int .i64 (sv 2).im, .int .i64 (sv 3).re, .int .i64 (sv 3).im] 73)).heap.size := World.block_lt_of_cell? _ _ t0
  generalize (wc.alloc (.cells #[.int .i64 (sv 0).re, .int .i64 (sv 0).im, .int .i64 (sv 1).re, .int .i64 (sv 1).im, .int .i64 (sv 2).re, .int .i64 (sv 2).im, .int .i64 (sv 3).re, .int .i64 (sv 3).im] 73)) = wd at *
  have kd : Below w.heap.size w wd := (kc).trans ((hbd).mono (kc).size)
  replace p0 := cell_below' hbd p0
  replace p1 := cell_below' hbd p1
  replace zp := Nat.lt_of_lt_of_le zp (hbd).size
  replace l0 := cell_below' hbd l0
  replace l1 := cell_below' hbd l1
  replace l2 := cell_below' hbd l2
  replace l3 := cell_below' hbd l3
  replace l4 := cell_below' hbd l4
  replace l5 := cell_below' hbd l5
  replace l6 := cell_below' hbd l6
  replace l7 := cell_below' hbd l7
  replace zl := Nat.lt_of_lt_of_le zl (hbd).size
  replace s0 := cell_below' hbd s0
  replace s1 := cell_below' hbd s1
  replace s2 := cell_below' hbd s2
  replace s3 := cell_below' hbd s3
  replace s4 := cell_below' hbd s4
  replace s5 := cell_below' hbd s5
  replace s6 := cell_below' hbd s6
  replace s7 := cell_below' hbd s7
  replace zs := Nat.lt_of_lt_of_le zs (hbd).size
  replace hA0 := RowsAt.below hA0 hbd
  clear hbd kc
  go_wp2_with (fail)
  refine (HSE.out _ hA0).mono ?_
  rintro e we ⟨rfl, hbe⟩
  have ke : Below w.heap.size w we := (kd).trans ((hbe).mono (kd).size)
  replace p0 := cell_below' hbe p0
  replace p1 := cell_below' hbe p1
  replace zp := Nat.lt_of_lt_of_le zp (hbe).size
  replace l0 := cell_below' hbe l0
  replace l1 := cell_below' hbe l1
  replace l2 := cell_below' hbe l2
  replace l3 := cell_below' hbe l3
  replace l4 := cell_below' hbe l4
  replace l5 := cell_below' hbe l5
  replace l6 := cell_below' hbe l6
  replace l7 := cell_below' hbe l7
  replace zl := Nat.lt_of_lt_of_le zl (hbe).size
  replace hA0 := RowsAt.below hA0 hbe
  clear hbe kd
  clear HSE s0 s1 s2 s3 s4 s5 s6 s7 zs t0 t1 t2 t3 t4 t5 t6 t7
  go_upto_region 18 with (fail)
  (refine region_extx 25 (by kernel_rfl) (by kernel_rfl) fun hx => ?_; simp only [List.take_succ_cons, List.take_zero, List.drop_succ_cons, List.drop_zero]; (repeat (any_goals (first | go_big_quiet_step (fail) | quiet_step (fail)))))
  (refine wpQuiet_nil ?_; clear hx; intro u; have hbwf := ext_bel _ u; have hxwf := ext_cell _ u; generalize ext _ u = wf at *; clear u; have hswf := hbwf.size; (try simp at hswf))
  have kf : Below w.heap.size w wf := (ke).trans ((hbwf).mono (ke).size)
  replace l0 := cell_below' hbwf l0
  replace l1 := cell_below' hbwf l1
  replace l2 := cell_below' hbwf l2
  replace l3 := cell_below' hbwf l3
  replace l4 := cell_below' hbwf l4
  replace l5 := cell_below' hbwf l5
  replace l6 := cell_below' hbwf l6
  replace l7 := cell_below' hbwf l7
  replace zl := Nat.lt_of_lt_of_le zl (hbwf).size
  clear hbwf ke
  go_wp2_with (fail)
  go_ret
  exact ⟨rfl, kf⟩
set_option maxRecDepth 100000 in
set_option maxHeartbeats 16000000 in
theorem lines_2z (A : Option Addr) (x : List Gs) (ca : Nat) (h : Nat → Gs) (w : World) (ht : Tab w) (hA : GsAt w A x) (hxl : x.length ≤ 66) (hn : 2 ≤ x.length) (hc : smpsE x = 0) :
    Calls Tryd.prog 9 #[.slice A x.length ca, gv4 h] w fun e w' => e = .returned (.bool true) ∧ Below w.heap.size w w' := by
  have HT := Lib.hid ht
  have HFW := Lib.hid (fun W => few_any A x ca W true (decide_eq_true (by omega)))
  have HCP := Lib.hid (fun W (hB : GsAt W A x) => CopyG_cap A x ca W (by omega) hB)
  have HLG := Lib.hid (fun W B c (hc : x.length ≤ c) (hB : GsAt W B x) => LagProduct_any B x c W (by omega) hc hB)
  have HLN := Lib.hid (fun W B c (hB : GsAt W B x) => LinesOf_any B x c W (by omega) hB)
  have HDP := Lib.hid (fun W B c (hB : GsAt W B x) => DopplerOf_any B x c W (by omega) hB)
  have HS1 := Lib.hid (fun W => SumsOf_any h W)
  have HS2 := Lib.hid (fun W => RSums_any h W)
  have HSE := Lib.hid (fun W (hB : GsAt W A x) => RSamplesErr_any A x ca W (by omega) hB)
  have hsn := neL (smsV h) (smsV h)
  have hss : eqL4 (smsV h) (smsV h) = true := by simp [eqL4, eqB]
  rw [hss] at hsn
  have hee : (smsE h != smsE h) = false := by simp
  have hxi : (x.length : Int) ≤ 66 := by omega
  have hl1 := linE_2 (show 0 < x.length by omega)
  rw [hc] at hl1
  obtain ⟨hx64, hok⟩ := smpsE_zero hc
  rw [lagQ_3 hn hc] at HLG
  rw [linV_p hl1, hl1] at HLN
  rw [dopQ_p hl1] at HDP
  rw [hc] at HSE
  have HRP := Lib.hid (fun W (hB : GsAt W A x) => RLagProduct_any A x ca W hn hc hB)
  have hnG := neG (lagP x) (lagP x)
  have hng : neB (lagP x) (lagP x) = false := by simp [neB, eqB]
  rw [hng] at hnG
  clear hng
  have HRD := Lib.hid (fun W (hB : GsAt W A x) => RDoppler_any A x ca W hx64 hok hB)
  have HRL := Lib.hid (fun W (hB : GsAt W A x) => RLines_any A x ca W hx64 hok hB)
  obtain ⟨hnd, hnz⟩ := nzL_dop x
  rw [hnd] at HDP hnz
  have HNZ := Lib.hid hnz
  have hln := neL (linP x) (linP x)
  have hll : eqL4 (linP x) (linP x) = true := by simp [eqL4, eqB]
  rw [hll] at hln
  have hi0 : ((x.length : Int) == 0) = false := by rw [beq_eq_false_iff_ne]; omega
  have hi2 : decide ((x.length : Int) < 2) = false := by simp; omega
  clear hl1 hc hx64 hok hnd hnz hll
  clear ht hss
  generalize smsE h = se at *
  generalize smsV h = sv at *
  generalize dopB x = db at *
  generalize dopK (linP x) 4 = dk at *
  generalize linP x = lv at *
  rcases hlg : lagP x with ⟨lg0, lg1⟩
  rw [hlg] at HLG HRP hnG
  clear hlg
  simp only [gv4, gv, gz] at *
  go_enter Tryd.func9, Tryd.ntmps9
  go_upto_region 1 with (fail)
  have hb0 : Below w.heap.size w (w.alloc (.cells #[.int .i64 (h 0).re, .int .i64 (h 0).im, .int .i64 (h 1).re, .int .i64 (h 1).im, .int .i64 (h 2).re, .int .i64 (h 2).im, .int .i64 (h 3).re, .int .i64 (h 3).im] 73)) := below_alloc _ (Nat.le_refl _) (Below.refl _ _)
  have q0 : (w.alloc (.cells #[.int .i64 (h 0).re, .int .i64 (h 0).im, .int .i64 (h 1).re, .int .i64 (h 1).im, .int .i64 (h 2).re, .int .i64 (h 2).im, .int .i64 (h 3).re, .int .i64 (h 3).im] 73)).cell? ⟨w.heap.size, 0, none⟩ = some (.int .i64 (h 0).re) := cell_new (by simp) rfl
  have q1 : (w.alloc (.cells #[.int .i64 (h 0).re, .int .i64 (h 0).im, .int .i64 (h 1).re, .int .i64 (h 1).im, .int .i64 (h 2).re, .int .i64 (h 2).im, .int .i64 (h 3).re, .int .i64 (h 3).im] 73)).cell? ⟨w.heap.size, 1, none⟩ = some (.int .i64 (h 0).im) := cell_new (by simp) rfl
  have q2 : (w.alloc (.cells #[.int .i64 (h 0).re, .int .i64 (h 0).im, .int .i64 (h 1).re, .int .i64 (h 1).im, .int .i64 (h 2).re, .int .i64 (h 2).im, .int .i64 (h 3).re, .int .i64 (h 3).im] 73)).cell? ⟨w.heap.size, 2, none⟩ = some (.int .i64 (h 1).re) := cell_new (by simp) rfl
  have q3 : (w.alloc (.cells #[.int .i64 (h 0).re, .int .i64 (h 0).im, .int .i64 (h 1).re, .int .i64 (h 1).im, .int .i64 (h 2).re, .int .i64 (h 2).im, .int .i64 (h 3).re, .int .i64 (h 3).im] 73)).cell? ⟨w.heap.size, 3, none⟩ = some (.int .i64 (h 1).im) := cell_new (by simp) rfl
  have q4 : (w.alloc (.cells #[.int .i64 (h 0).re, .int .i64 (h 0).im, .int .i64 (h 1).re, .int .i64 (h 1).im, .int .i64 (h 2).re, .int .i64 (h 2).im, .int .i64 (h 3).re, .int .i64 (h 3).im] 73)).cell? ⟨w.heap.size, 4, none⟩ = some (.int .i64 (h 2).re) := cell_new (by simp) rfl
  have q5 : (w.alloc (.cells #[.int .i64 (h 0).re, .int .i64 (h 0).im, .int .i64 (h 1).re, .int .i64 (h 1).im, .int .i64 (h 2).re, .int .i64 (h 2).im, .int .i64 (h 3).re, .int .i64 (h 3).im] 73)).cell? ⟨w.heap.size, 5, none⟩ = some (.int .i64 (h 2).im) := cell_new (by simp) rfl
  have q6 : (w.alloc (.cells #[.int .i64 (h 0).re, .int .i64 (h 0).im, .int .i64 (h 1).re, .int .i64 (h 1).im, .int .i64 (h 2).re, .int .i64 (h 2).im, .int .i64 (h 3).re, .int .i64 (h 3).im] 73)).cell? ⟨w.heap.size, 6, none⟩ = some (.int .i64 (h 3).re) := cell_new (by simp) rfl
  have q7 : (w.alloc (.cells #[.int .i64 (h 0).re, .int .i64 (h 0).im, .int .i64 (h 1).re, .int .i64 (h 1).im, .int .i64 (h 2).re, .int .i64 (h 2).im, .int .i64 (h 3).re, .int .i64 (h 3).im] 73)).cell? ⟨w.heap.size, 7, none⟩ = some (.int .i64 (h 3).im) := cell_new (by simp) rfl
  have zq : w.heap.size < (w.alloc (.cells #[.int .i64 (h 0).re, .int .i64 (h 0).im, .int .i64 (h 1).re, .int .i64 (h 1).im, .int .i64 (h 2).re, .int .i64 (h 2).im, .int .i64 (h 3).re, .int .i64 (h 3).im] 73)).heap.size := World.block_lt_of_cell? _ _ q0
  generalize (w.alloc (.cells #[.int .i64 (h 0).re, .int .i64 (h 0).im, .int .i64 (h 1).re, .int .i64 (h 1).im, .int .i64 (h 2).re, .int .i64 (h 2).im, .int .i64 (h 3).re, .int .i64 (h 3).im] 73)) = w0 at *
  have HT0 := Lib.hid (HT.out.below hb0)
  go_wp2_with (fail)
  refine (awake_any w0 HT0.out).mono ?_
  rintro e w1 ⟨rfl, hb1⟩
  have hA0 := RowsAt.below hA hb0
  have k1 : Below w.heap.size w w1 := (hb0).trans ((hb1).mono (hb0).size)
  replace q0 := cell_below' hb1 q0
  replace q1 := cell_below' hb1 q1
  replace q2 := cell_below' hb1 q2
  replace q3 := cell_below' hb1 q3
  replace q4 := cell_below' hb1 q4
  replace q5 := cell_below' hb1 q5
  replace q6 := cell_below' hb1 q6
  replace q7 := cell_below' hb1 q7
  replace zq := Nat.lt_of_lt_of_le zq (hb1).size
  replace hA0 := RowsAt.below hA0 hb1
  clear hb1 hb0
  clear HT HT0 hA
  go_wp2_with (fail)
  refine (HFW.out _).mono ?_
  rintro e w' ⟨rfl, rfl⟩
  clear HFW
  go_wp2_with (fail)
  refine (HCP.out _ hA0).mono ?_
  rintro e w2 ⟨B2, c2, rfl, hc2, hB2, hb2⟩
  have k2 : Below w.heap.size w w2 := (k1).trans ((hb2).mono (k1).size)
  replace q0 := cell_below' hb2 q0
  replace q1 := cell_below' hb2 q1
  replace q2 := cell_below' hb2 q2
  replace q3 := cell_below' hb2 q3
  replace q4 := cell_below' hb2 q4
  replace q5 := cell_below' hb2 q5
  replace q6 := cell_below' hb2 q6
  replace q7 := cell_below' hb2 q7
  replace zq := Nat.lt_of_lt_of_le zq (hb2).size
  replace hA0 := RowsAt.below hA0 hb2
  clear hb2 k1
  go_wp2_with (fail)
  refine (HLG.out _ _ _ hc2 hB2).mono ?_
  rintro e w3 ⟨rfl, hb3⟩
  have k3 : Below w.heap.size w w3 := (k2).trans ((hb3).mono (k2).size)
  replace q0 := cell_below' hb3 q0
  replace q1 := cell_below' hb3 q1
  replace q2 := cell_below' hb3 q2
  replace q3 := cell_below' hb3 q3
  replace q4 := cell_below' hb3 q4
  replace q5 := cell_below' hb3 q5
  replace q6 := cell_below' hb3 q6
  replace q7 := cell_below' hb3 q7
  replace zq := Nat.lt_of_lt_of_le zq (hb3).size
  replace hA0 := RowsAt.below hA0 hb3
  clear hb3 k2
  clear HLG hB2
  go_upto_region 6 with (fail)
  have hb4 : Below w3.heap.size w3 (w3.alloc (.cells #[.int .i64 lg0, .int .i64 lg1] 24)) := below_alloc _ (Nat.le_refl _) (Below.refl _ _)
  have p0 : (w3.alloc (.cells #[.int .i64 lg0, .int .i64 lg1] 24)).cell? ⟨w3.heap.size, 0, none⟩ = some (.int .i64 lg0) := cell_new (by simp) rfl
  have p1 : (w3.alloc (.cells #[.int .i64 lg0, .int .i64 lg1] 24)).cell? ⟨w3.heap.size, 1, none⟩ = some (.int .i64 lg1) := cell_new (by simp) rfl
  have zp : w3.heap.size < (w3.alloc (.cells #[.int .i64 lg0, .int .i64 lg1] 24)).heap.size := World.block_lt_of_cell? _ _ p0
  generalize (w3.alloc (.cells #[.int .i64 lg0, .int .i64 lg1] 24)) = w4 at *
  have k4 : Below w.heap.size w w4 := (k3).trans ((hb4).mono (k3).size)
  replace q0 := cell_below' hb4 q0
  replace q1 := cell_below' hb4 q1
  replace q2 := cell_below' hb4 q2
  replace q3 := cell_below' hb4 q3
  replace q4 := cell_below' hb4 q4
  replace q5 := cell_below' hb4 q5
  replace q6 := cell_below' hb4 q6
  replace q7 := cell_below' hb4 q7
  replace zq := Nat.lt_of_lt_of_le zq (hb4).size
  replace hA0 := RowsAt.below hA0 hb4
  clear hb4 k3
  generalize w3.heap.size = pb at *
  go_wp2_with (fail)
  refine (HCP.out _ hA0).mono ?_
  rintro e w5 ⟨B5, c5, rfl, hc5, hB5, hb5⟩
  have k5 : Below w.heap.size w w5 := (k4).trans ((hb5).mono (k4).size)
  replace q0 := cell_below' hb5 q0
  replace q1 := cell_below' hb5 q1
  replace q2 := cell_below' hb5 q2
  replace q3 := cell_below' hb5 q3
  replace q4 := cell_below' hb5 q4
  replace q5 := cell_below' hb5 q5
  replace q6 := cell_below' hb5 q6
  replace q7 := cell_below' hb5 q7
  replace zq := Nat.lt_of_lt_of_le zq (hb5).size
  replace p0 := cell_below' hb5 p0
  replace p1 := cell_below' hb5 p1
  replace zp := Nat.lt_of_lt_of_le zp (hb5).size
  replace hA0 := RowsAt.below hA0 hb5
  clear hb5 k4
  go_wp2_with (fail)
  refine (HLN.out _ _ _ hB5).mono ?_
  rintro e w6 ⟨rfl, hb6⟩
  have k6 : Below w.heap.size w w6 := (k5).trans ((hb6).mono (k5).size)
  replace q0 := cell_below' hb6 q0
  replace q1 := cell_below' hb6 q1
  replace q2 := cell_below' hb6 q2
  replace q3 := cell_below' hb6 q3
  replace q4 := cell_below' hb6 q4
  replace q5 := cell_below' hb6 q5
  replace q6 := cell_below' hb6 q6
  replace q7 := cell_below' hb6 q7
  replace zq := Nat.lt_of_lt_of_le zq (hb6).size
  replace p0 := cell_below' hb6 p0
  replace p1 := cell_below' hb6 p1
  replace zp := Nat.lt_of_lt_of_le zp (hb6).size
  replace hA0 := RowsAt.below hA0 hb6
  clear hb6 k5
  clear HLN hB5
  go_upto_region 7 with (fail)
  have hb7 : Below w6.heap.size w6 (w6.alloc (.cells #[.int .i64 (lv 0).re, .int .i64 (lv 0).im, .int .i64 (lv 1).re, .int .i64 (lv 1).im, .int .i64 (lv 2).re, .int .i64 (lv 2).im, .int .i64 (lv 3).re, .int .i64 (lv 3).im] 73)) := below_alloc _ (Nat.le_refl _) (Below.refl _ _)
  have l0 : (w6.alloc (.cells #[.int .i64 (lv 0).re, .int .i64 (lv 0).im, .int .i64 (lv 1).re, .int .i64 (lv 1).im, .int .i64 (lv 2).re, .int .i64 (lv 2).im, .int .i64 (lv 3).re, .int .i64 (lv 3).im] 73)).cell? ⟨w6.heap.size, 0, none⟩ = some (.int .i64 (lv 0).re) := cell_new (by simp) rfl
  have l1 : (w6.alloc (.cells #[.int .i64 (lv 0).re, .int .i64 (lv 0).im, .int .i64 (lv 1).re, .int .i64 (lv 1).im, .int .i64 (lv 2).re, .int .i64 (lv 2).im, .int .i64 (lv 3).re, .int .i64 (lv 3).im] 73)).cell? ⟨w6.heap.size, 1, none⟩ = some (.int .i64 (lv 0).im) := cell_new (by simp) rfl
  have l2 : (w6.alloc (.cells #[.int .i64 (lv 0).re, .int .i64 (lv 0).im, .int .i64 (lv 1).re, .int .i64 (lv 1).im, .int .i64 (lv 2).re, .int .i64 (lv 2).im, .int .i64 (lv 3).re, .int .i64 (lv 3).im] 73)).cell? ⟨w6.heap.size, 2, none⟩ = some (.int .i64 (lv 1).re) := cell_new (by simp) rfl
  have l3 : (w6.alloc (.cells #[.int .i64 (lv 0).re, .int .i64 (lv 0).im, .int .i64 (lv 1).re, .int .i64 (lv 1).im, .int .i64 (lv 2).re, .int .i64 (lv 2).im, .int .i64 (lv 3).re, .int .i64 (lv 3).im] 73)).cell? ⟨w6.heap.size, 3, none⟩ = some (.int .i64 (lv 1).im) := cell_new (by simp) rfl
  have l4 : (w6.alloc (.cells #[.int .i64 (lv 0).re, .int .i64 (lv 0).im, .int .i64 (lv 1).re, .int .i64 (lv 1).im, .int .i64 (lv 2).re, .int .i64 (lv 2).im, .int .i64 (lv 3).re, .int .i64 (lv 3).im] 73)).cell? ⟨w6.heap.size, 4, none⟩ = some (.int .i64 (lv 2).re) := cell_new (by simp) rfl
  have l5 : (w6.alloc (.cells #[.int .i64 (lv 0).re, .int .i64 (lv 0).im, .int .i64 (lv 1).re, .int .i64 (lv 1).im, .int .i64 (lv 2).re, .int .i64 (lv 2).im, .int .i64 (lv 3).re, .int .i64 (lv 3).im] 73)).cell? ⟨w6.heap.size, 5, none⟩ = some (.int .i64 (lv 2).im) := cell_new (by simp) rfl
  have l6 : (w6.alloc (.cells #[.int .i64 (lv 0).re, .int .i64 (lv 0).im, .int .i64 (lv 1).re, .int .i64 (lv 1).im, .int .i64 (lv 2).re, .int .i64 (lv 2).im, .int .i64 (lv 3).re, .int .i64 (lv 3).im] 73)).cell? ⟨w6.heap.size, 6, none⟩ = some (.int .i64 (lv 3).re) := cell_new (by simp) rfl
  have l7 : (w6.alloc (.cells #[.int .i64 (lv 0).re, .int .i64 (lv 0).im, .int .i64 (lv 1).re, .int .i64 (lv 1).im, .int .i64 (lv 2).re, .int .i64 (lv 2).im, .int .i64 (lv 3).re, .int .i64 (lv 3).im] 73)).cell? ⟨w6.heap.size, 7, none⟩ = some (.int .i64 (lv 3).im) := cell_new (by simp) rfl
  have zl : w6.heap.size < (w6.alloc (.cells #[.int .i64 (lv 0).re, .int .i64 (lv 0).im, .int .i64 (lv 1).re, .int .i64 (lv 1).im, .int .i64 (lv 2).re, .int .i64 (lv 2).im, .int .i64 (lv 3).re, .int .i64 (lv 3).im] 73)).heap.size := World.block_lt_of_cell? _ _ l0
  generalize (w6.alloc (.cells #[.int .i64 (lv 0).re, .int .i64 (lv 0).im, .int .i64 (lv 1).re, .int .i64 (lv 1).im, .int .i64 (lv 2).re, .int .i64 (lv 2).im, .int .i64 (lv 3).re, .int .i64 (lv 3).im] 73)) = w7 at *
  have k7 : Below w.heap.size w w7 := (k6).trans ((hb7).mono (k6).size)
  replace q0 := cell_below' hb7 q0
  replace q1 := cell_below' hb7 q1
  replace q2 := cell_below' hb7 q2
  replace q3 := cell_below' hb7 q3
  replace q4 := cell_below' hb7 q4
  replace q5 := cell_below' hb7 q5
  replace q6 := cell_below' hb7 q6
  replace q7 := cell_below' hb7 q7
  replace zq := Nat.lt_of_lt_of_le zq (hb7).size
  replace p0 := cell_below' hb7 p0
  replace p1 := cell_below' hb7 p1
  replace zp := Nat.lt_of_lt_of_le zp (hb7).size
  replace hA0 := RowsAt.below hA0 hb7
  clear hb7 k6
  generalize w6.heap.size = lb at *
  go_wp2_with (fail)
  refine (HCP.out _ hA0).mono ?_
  rintro e w8 ⟨B8, c8, rfl, hc8, hB8, hb8⟩
  have k8 : Below w.heap.size w w8 := (k7).trans ((hb8).mono (k7).size)
  replace q0 := cell_below' hb8 q0
  replace q1 := cell_below' hb8 q1
  replace q2 := cell_below' hb8 q2
  replace q3 := cell_below' hb8 q3
  replace q4 := cell_below' hb8 q4
  replace q5 := cell_below' hb8 q5
  replace q6 := cell_below' hb8 q6
  replace q7 := cell_below' hb8 q7
  replace zq := Nat.lt_of_lt_of_le zq (hb8).size
  replace p0 := cell_below' hb8 p0
  replace p1 := cell_below' hb8 p1
  replace zp := Nat.lt_of_lt_of_le zp (hb8).size
  replace l0 := cell_below' hb8 l0
  replace l1 := cell_below' hb8 l1
  replace l2 := cell_below' hb8 l2
  replace l3 := cell_below' hb8 l3
  replace l4 := cell_below' hb8 l4
  replace l5 := cell_below' hb8 l5
  replace l6 := cell_below' hb8 l6
  replace l7 := cell_below' hb8 l7
  replace zl := Nat.lt_of_lt_of_le zl (hb8).size
  replace hA0 := RowsAt.below hA0 hb8
  clear hb8 k7
  go_wp2_with (fail)
  refine (HDP.out _ _ _ hB8).mono ?_
  rintro e w9 ⟨rfl, hb9⟩
  have k9 : Below w.heap.size w w9 := (k8).trans ((hb9).mono (k8).size)
  replace q0 := cell_below' hb9 q0
  replace q1 := cell_below' hb9 q1
  replace q2 := cell_below' hb9 q2
  replace q3 := cell_below' hb9 q3
  replace q4 := cell_below' hb9 q4
  replace q5 := cell_below' hb9 q5
  replace q6 := cell_below' hb9 q6
  replace q7 := cell_below' hb9 q7
  replace zq := Nat.lt_of_lt_of_le zq (hb9).size
  replace p0 := cell_below' hb9 p0
  replace p1 := cell_below' hb9 p1
  replace zp := Nat.lt_of_lt_of_le zp (hb9).size
  replace l0 := cell_below' hb9 l0
  replace l1 := cell_below' hb9 l1
  replace l2 := cell_below' hb9 l2
  replace l3 := cell_below' hb9 l3
  replace l4 := cell_below' hb9 l4
  replace l5 := cell_below' hb9 l5
  replace l6 := cell_below' hb9 l6
  replace l7 := cell_below' hb9 l7
  replace zl := Nat.lt_of_lt_of_le zl (hb9).size
  replace hA0 := RowsAt.below hA0 hb9
  clear hb9 k8
  clear HDP hB8 HCP
  go_wp2_with (fail)
  refine (HS1.out _).mono ?_
  rintro e wa ⟨rfl, hba⟩
  have ka : Below w.heap.size w wa := (k9).trans ((hba).mono (k9).size)
  replace q0 := cell_below' hba q0
  replace q1 := cell_below' hba q1
  replace q2 := cell_below' hba q2
  replace q3 := cell_below' hba q3
  replace q4 := cell_below' hba q4
  replace q5 := cell_below' hba q5
  replace q6 := cell_below' hba q6
  replace q7 := cell_below' hba q7
  replace zq := Nat.lt_of_lt_of_le zq (hba).size
  replace p0 := cell_below' hba p0
  replace p1 := cell_below' hba p1
  replace zp := Nat.lt_of_lt_of_le zp (hba).size
  replace l0 := cell_below' hba l0
  replace l1 := cell_below' hba l1
  replace l2 := cell_below' hba l2
  replace l3 := cell_below' hba l3
  replace l4 := cell_below' hba l4
  replace l5 := cell_below' hba l5
  replace l6 := cell_below' hba l6
  replace l7 := cell_below' hba l7
  replace zl := Nat.lt_of_lt_of_le zl (hba).size
  replace hA0 := RowsAt.below hA0 hba
  clear hba k9
  go_upto_region 9 with (fail)
  have hbb : Below wa.heap.size wa (wa.alloc (.cells #[.int .i64 (sv 0).re, .int .i64 (sv 0).im, .int .i64 (sv 1).re, .int .i64 (sv 1).im, .int .i64 (sv 2).re, .int .i64 (sv 2).im, .int .i64 (sv 3).re, .int .i64 (sv 3).im] 73)) := below_alloc _ (Nat.le_refl _) (Below.refl _ _)
  have s0 : (wa.alloc (.cells #[.int .i64 (sv 0).re, .int .i64 (sv 0).im, .int .i64 (sv 1).re, .int .i64 (sv 1).im, .int .i64 (sv 2).re, .int .i64 (sv 2).im, .int .i64 (sv 3).re, .int .i64 (sv 3).im] 73)).cell? ⟨wa.heap.size, 0, none⟩ = some (.int .i64 (sv 0).re) := cell_new (by simp) rfl
  have s1 : (wa.alloc (.cells #[.int .i64 (sv 0).re, .int .i64 (sv 0).im, .int .i64 (sv 1).re, .int .i64 (sv 1).im, .int .i64 (sv 2).re, .int .i64 (sv 2).im, .int .i64 (sv 3).re, .int .i64 (sv 3).im] 73)).cell? ⟨wa.heap.size, 1, none⟩ = some (.int .i64 (sv 0).im) := cell_new (by simp) rfl
  have s2 : (wa.alloc (.cells #[.int .i64 (sv 0).re, .int .i64 (sv 0).im, .int .i64 (sv 1).re, .int .i64 (sv 1).im, .int .i64 (sv 2).re, .int .i64 (sv 2).im, .int .i64 (sv 3).re, .int .i64 (sv 3).im] 73)).cell? ⟨wa.heap.size, 2, none⟩ = some (.int .i64 (sv 1).re) := cell_new (by simp) rfl
  have s3 : (wa.alloc (.cells #[.int .i64 (sv 0).re, .int .i64 (sv 0).im, .int .i64 (sv 1).re, .int .i64 (sv 1).im, .int .i64 (sv 2).re, .int .i64 (sv 2).im, .int .i64 (sv 3).re, .int .i64 (sv 3).im] 73)).cell? ⟨wa.heap.size, 3, none⟩ = some (.int .i64 (sv 1).im) := cell_new (by simp) rfl
  have s4 : (wa.alloc (.cells #[.int .i64 (sv 0).re, .int .i64 (sv 0).im, .int .i64 (sv 1).re, .int .i64 (sv 1).im, .int .i64 (sv 2).re, .int .i64 (sv 2).im, .int .i64 (sv 3).re, .int .i64 (sv 3).im] 73)).cell? ⟨wa.heap.size, 4, none⟩ = some (.int .i64 (sv 2).re) := cell_new (by simp) rfl
  have s5 : (wa.alloc (.cells #[.int .i64 (sv 0).re, .int .i64 (sv 0).im, .int .i64 (sv 1).re, .int .i64 (sv 1).im, .int .i64 (sv 2).re, .int .i64 (sv 2).im, .int .i64 (sv 3).re, .int .i64 (sv 3).im] 73)).cell? ⟨wa.heap.size, 5, none⟩ = some (.int .i64 (sv 2).im) := cell_new (by simp) rfl
  have s6 : (wa.alloc (.cells #[.int .i64 (sv 0).re, .int .i64 (sv 0).im, .int .i64 (sv 1).re, .int .i64 (sv 1).im, .int .i64 (sv 2).re, .int .i64 (sv 2).im, .int .i64 (sv 3).re, .int .i64 (sv 3).im] 73)).cell? ⟨wa.heap.size, 6, none⟩ = some (.int .i64 (sv 3).re) := cell_new (by simp) rfl
  have s7 : (wa.alloc (.cells #[.int .i64 (sv 0).re, .int .i64 (sv 0).im, .int .i64 (sv 1).re, .int .i64 (sv 1).im, .int .i64 (sv 2).re, .int .i64 (sv 2).im, .int .i64 (sv 3).re, .int .i64 (sv 3).im] 73)).cell? ⟨wa.heap.size, 7, none⟩ = some (.int .i64 (sv 3).im) := cell_new (by simp) rfl
  have zs : wa.heap.size < (wa.alloc (.cells #[.int .i64 (sv 0).re, .int .i64 (sv 0).im, .int .i64 (sv 1).re, .int .i64 (sv 1).im, .int .i64 (sv 2).re, .int .i64 (sv 2).im, .int .i64 (sv 3).re, .int .i64 (sv 3).im] 73)).heap.size := World.block_lt_of_cell? _ _ s0
  generalize (wa.alloc (.cells #[.int .i64 (sv 0).re, .int .i64 (sv 0).im, .int .i64 (sv 1).re, .int .i64 (sv 1).im, .int .i64 (sv 2).re, .int .i64 (sv 2).im, .int .i64 (sv 3).re, .int .i64 (sv 3).im] 73)) = wb at *
  have kb : Below w.heap.size w wb := (ka).trans ((hbb).mono (ka).size)
  replace q0 := cell_below' hbb q0
  replace q1 := cell_below' hbb q1
  replace q2 := cell_below' hbb q2
  replace q3 := cell_below' hbb q3
  replace q4 := cell_below' hbb q4
  replace q5 := cell_below' hbb q5
  replace q6 := cell_below' hbb q6
  replace q7 := cell_below' hbb q7
  replace zq := Nat.lt_of_lt_of_le zq (hbb).size
  replace p0 := cell_below' hbb p0
  replace p1 := cell_below' hbb p1
  replace zp := Nat.lt_of_lt_of_le zp (hbb).size
  replace l0 := cell_below' hbb l0
  replace l1 := cell_below' hbb l1
  replace l2 := cell_below' hbb l2
  replace l3 := cell_below' hbb l3
  replace l4 := cell_below' hbb l4
  replace l5 := cell_below' hbb l5
  replace l6 := cell_below' hbb l6
  replace l7 := cell_below' hbb l7
  replace zl := Nat.lt_of_lt_of_le zl (hbb).size
  replace hA0 := RowsAt.below hA0 hbb
  clear hbb ka
  generalize wa.heap.size = sb at *
  go_wp2_with (fail)
  refine (HS2.out _).mono ?_
  rintro e wc ⟨rfl, hbc⟩
  have kc : Below w.heap.size w wc := (kb).trans ((hbc).mono (kb).size)
  replace p0 := cell_below' hbc p0
  replace p1 := cell_below' hbc p1
  replace zp := Nat.lt_of_lt_of_le zp (hbc).size
  replace l0 := cell_below' hbc l0
  replace l1 := cell_below' hbc l1
  replace l2 := cell_below' hbc l2
  replace l3 := cell_below' hbc l3
  replace l4 := cell_below' hbc l4
  replace l5 := cell_below' hbc l5
  replace l6 := cell_below' hbc l6
  replace l7 := cell_below' hbc l7
  replace zl := Nat.lt_of_lt_of_le zl (hbc).size
  replace s0 := cell_below' hbc s0
  replace s1 := cell_below' hbc s1
  replace s2 := cell_below' hbc s2
  replace s3 := cell_below' hbc s3
  replace s4 := cell_below' hbc s4
  replace s5 := cell_below' hbc s5
  replace s6 := cell_below' hbc s6
  replace s7 := cell_below' hbc s7
  replace zs := Nat.lt_of_lt_of_le zs (hbc).size
  replace hA0 := RowsAt.below hA0 hbc
  clear hbc kb
  clear HS1 HS2
  go_upto_region 10 with (fail)
  have hbd : Below wc.heap.size wc (wc.alloc (.cells #[.int .i64 (sv 0).re, .int .i64 (sv 0).im, .int .i64 (sv 1).re, .int .i64 (sv 1).im, .int .i64 (sv 2).re, .int .i64 (sv 2).im, .int .i64 (sv 3).re, .int .i64 (sv 3).im] 73)) := below_alloc _ (Nat.le_refl _) (Below.refl _ _)
  have t0 : (wc.alloc (.cells #[.int .i64 (sv 0).re, .int .i64 (sv 0).im, .int .i64 (sv 1).re, .int .i64 (sv 1).im, .int .i64 (sv 2).re, .int .i64 (sv 2).im, .int .i64 (sv 3).re, .int .i64 (sv 3).im] 73)).cell? ⟨wc.heap.size, 0, none⟩ = some (.int .i64 (sv 0).re) := cell_new (by simp) rfl
  have t1 : (wc.alloc (.cells #[.int .i64 (sv 0).re, .int .i64 (sv 0).im, .int .i64 (sv 1).re, .int .i64 (sv 1).im, .int .i64 (sv 2).re, .int .i64 (sv 2).im, .int .i64 (sv 3).re, .int .i64 (sv 3).im] 73)).cell? ⟨wc.heap.size, 1, none⟩ = some (.int .i64 (sv 0).im) := cell_new (by simp) rfl
  have t2 : (wc.alloc (.cells #[.int .i64 (sv 0).re, .int .i64 (sv 0).im, .int .i64 (sv 1).re, .int .i64 (sv 1).im, .int .i64 (sv 2).re, .int .i64 (sv 2).im, .int .i64 (sv 3).re, .int .i64 (sv 3).im] 73)).cell? ⟨wc.heap.size, 2, none⟩ = some (.int .i64 (sv 1).re) := cell_new (by simp) rfl
  have t3 : (wc.alloc (.cells #[.int .i64 (sv 0).re, .int .i64 (sv 0).im, .int .i64 (sv 1).re, .int .i64 (sv 1).im, .int .i64 (sv 2).re, .int .i64 (sv 2).im, .int .i64 (sv 3).re, .int .i64 (sv 3).im] 73)).cell? ⟨wc.heap.size, 3, none⟩ = some (.int .i64 (sv 1).im) := cell_new (by simp) rfl
  have t4 : (wc.alloc (.cells #[.int .i64 (sv 0).re, .int .i64 (sv 0).im, .int .i64 (sv 1).re, .int .i64 (sv 1).im, .int .i64 (sv 2).re, .int .i64 (sv 2).im, .int .i64 (sv 3).re, .int .i64 (sv 3).im] 73)).cell? ⟨wc.heap.size, 4, none⟩ = some (.int .i64 (sv 2).re) := cell_new (by simp) rfl
  have t5 : (wc.alloc (.cells #[.int .i64 (sv 0).re, .int .i64 (sv 0).im, .int .i64 (sv 1).re, .int .i64 (sv 1).im, .int .i64 (sv 2).re, .int .i64 (sv 2).im, .int .i64 (sv 3).re, .int .i64 (sv 3).im] 73)).cell? ⟨wc.heap.size, 5, none⟩ = some (.int .i64 (sv 2).im) := cell_new (by simp) rfl
  have t6 : (wc.alloc (.cells #[.int .i64 (sv 0).re, .int .i64 (sv 0).im, .int .i64 (sv 1).re, .int .i64 (sv 1).im, .int .i64 (sv 2).re, .int .i64 (sv 2).im, .int .i64 (sv 3).re, .int .i64 (sv 3).im] 73)).cell? ⟨wc.heap.size, 6, none⟩ = some (.int .i64 (sv 3).re) := cell_new (by simp) rfl
  have t7 : (wc.alloc (.cells #[.int .i64 (sv 0).re, .int .i64 (sv 0).im, .int .i64 (sv 1).re, .int .i64 (sv 1).im, .int .i64 (sv 2).re, .int .i64 (sv 2).im, .int .i64 (sv 3).re, .int .i64 (sv 3).im] 73)).cell? ⟨wc.heap.size, 7, none⟩ = some (.int .i64 (sv 3).im) := cell_new (by simp) rfl
  have zt : wc.heap.size < (wc.alloc (.cells #[.int .i64 (sv 0).re, .int .i64 (sv 0).im, .int .i64 (sv 1).re, .int .i64 (sv 1).im, .int .i64 (sv 2).re, .int .i64 (sv 2).im, .int .i64 (sv 3).re, .int .i64 (sv 3).im] 73)).heap.size := World.block_lt_of_cell? _ _ t0
  generalize (wc.alloc (.cells #[.int .i64 (sv 0).re, .int .i64 (sv 0).im, .int .i64 (sv 1).re, .int .i64 (sv 1).im, .int .i64 (sv 2).re, .int .i64 (sv 2).im, .int .i64 (sv 3).re, .int .i64 (sv 3).im] 73)) = wd at *
  have kd : Below w.heap.size w wd := (kc).trans ((hbd).mono (kc).size)
  replace p0 := cell_below' hbd p0
  replace p1 := cell_below' hbd p1
  replace zp := Nat.lt_of_lt_of_le zp (hbd).size
  replace l0 := cell_below' hbd l0
  replace l1 := cell_below' hbd l1
  replace l2 := cell_below' hbd l2
  replace l3 := cell_below' hbd l3
  replace l4 := cell_below' hbd l4
  replace l5 := cell_below' hbd l5
  replace l6 := cell_below' hbd l6
  replace l7 := cell_below' hbd l7
  replace zl := Nat.lt_of_lt_of_le zl (hbd).size
  replace s0 := cell_below' hbd s0
  replace s1 := cell_below' hbd s1
  replace s2 := cell_below' hbd s2
  replace s3 := cell_below' hbd s3
  replace s4 := cell_below' hbd s4
  replace s5 := cell_below' hbd s5
  replace s6 := cell_below' hbd s6
  replace s7 := cell_below' hbd s7
  replace zs := Nat.lt_of_lt_of_le zs (hbd).size
  replace hA0 := RowsAt.below hA0 hbd
  clear hbd kc
  go_wp2_with (fail)
  refine (HSE.out _ hA0).mono ?_
  rintro e we ⟨rfl, hbe⟩
  have ke : Below w.heap.size w we := (kd).trans ((hbe).mono (kd).size)
  replace p0 := cell_below' hbe p0
  replace p1 := cell_below' hbe p1
  replace zp := Nat.lt_of_lt_of_le zp (hbe).size
  replace l0 := cell_below' hbe l0
  replace l1 := cell_below' hbe l1
  replace l2 := cell_below' hbe l2
  replace l3 := cell_below' hbe l3
  replace l4 := cell_below' hbe l4
  replace l5 := cell_below' hbe l5
  replace l6 := cell_below' hbe l6
  replace l7 := cell_below' hbe l7
  replace zl := Nat.lt_of_lt_of_le zl (hbe).size
  replace hA0 := RowsAt.below hA0 hbe
  clear hbe kd
  clear HSE s0 s1 s2 s3 s4 s5 s6 s7 zs t0 t1 t2 t3 t4 t5 t6 t7
  go_upto_region 18 with (fail)
  (refine region_extx 25 (by kernel_rfl) (by kernel_rfl) fun hx => ?_; simp only [List.take_succ_cons, List.take_zero, List.drop_succ_cons, List.drop_zero]; (repeat (any_goals (first | go_big_quiet_step (((go_at_call 58; with_reducible exact ext_call (HRP.out _ (RowsAt.below hA0 (ext_bel _ _)))))) | quiet_step (((go_at_call 58; with_reducible exact ext_call (HRP.out _ (RowsAt.below hA0 (ext_bel _ _))))))))))
  (refine wpQuiet_nil ?_; clear hx; intro u; have hbwg := ext_bel _ u; have hxwg := ext_cell _ u; generalize ext _ u = wg at *; clear u; have hswg := hbwg.size; (try simp at hswg))
  have kg : Below w.heap.size w wg := (ke).trans ((hbwg).mono (ke).size)
  replace l0 := cell_below' hbwg l0
  replace l1 := cell_below' hbwg l1
  replace l2 := cell_below' hbwg l2
  replace l3 := cell_below' hbwg l3
  replace l4 := cell_below' hbwg l4
  replace l5 := cell_below' hbwg l5
  replace l6 := cell_below' hbwg l6
  replace l7 := cell_below' hbwg l7
  replace zl := Nat.lt_of_lt_of_le zl (hbwg).size
  replace hA0 := RowsAt.below hA0 hbwg
  clear hbwg ke
  clear hxwg hswg HRP p0 p1 zp
  go_wp2_with (fail)
  refine (HRD.out _ hA0).mono ?_
  rintro e wf ⟨rfl, hbf⟩
  have kf : Below w.heap.size w wf := (kg).trans ((hbf).mono (kg).size)
  replace l0 := cell_below' hbf l0
  replace l1 := cell_below' hbf l1
  replace l2 := cell_below' hbf l2
  replace l3 := cell_below' hbf l3
  replace l4 := cell_below' hbf l4
  replace l5 := cell_below' hbf l5
  replace l6 := cell_below' hbf l6
  replace l7 := cell_below' hbf l7
  replace zl := Nat.lt_of_lt_of_le zl (hbf).size
  replace hA0 := RowsAt.below hA0 hbf
  clear hbf kg
  clear HRD
  go_upto_region 23 with (fail)
  (refine region_extx 7 (by kernel_rfl) (by kernel_rfl) fun hx => ?_; simp only [List.take_succ_cons, List.take_zero, List.drop_succ_cons, List.drop_zero]; (repeat (any_goals (first | go_big_quiet_step (((go_at_call 60; with_reducible exact ext_call (HRL.out _ (RowsAt.below hA0 (ext_bel _ _)))))) | quiet_step (((go_at_call 60; with_reducible exact ext_call (HRL.out _ (RowsAt.below hA0 (ext_bel _ _))))))))))
  (refine wpQuiet_nil ?_; clear hx; intro u; have hbwh := ext_bel _ u; have hxwh := ext_cell _ u; generalize ext _ u = wh at *; clear u; have hswh := hbwh.size; (try simp at hswh))
  have kh := kf.trans (hbwh.mono kf.size)
  clear hxwh hswh HRL
  cases db
  · have hd0 := HNZ.out rfl
    subst hd0
    have hu : unl false 11 = 11 := rfl
    rw [hu]
    clear HNZ
    go_wp2_with (fail)
    go_ret
    exact ⟨rfl, kh⟩
  · have hu : unl true 11 = 0 := rfl
    rw [hu]
    have hdd : ((dk : Int) == dk) = true := by simp
    clear HNZ
    go_wp2_with (fail)
    go_ret
    exact ⟨rfl, kh⟩
set_option maxRecDepth 100000 in
set_option maxHeartbeats 8000000 in
theorem EchoLines_any (A : Option Addr) (x : List Gs) (ca : Nat) (h : Nat → Gs) (w : World) (ht : Tab w) (hA : GsAt w A x) :
    Calls Tryd.prog 9 #[.slice A x.length ca, gv4 h] w fun e w' => e = .returned (.bool true) ∧ Below w.heap.size w w' := by
  by_cases hx : x.length ≤ 66
  · by_cases h0 : x.length = 0
    · exact lines_0 A x ca h w ht hA hx h0
    · by_cases h1 : x.length = 1
      · by_cases hc : smpsE x = 0
        · exact lines_1z A x ca h w ht hA hx h1 hc
        · exact lines_1e A x ca h w ht hA hx h1 hc
      · by_cases hc : smpsE x = 0
        · exact lines_2z A x ca h w ht hA hx (by omega) hc
        · exact lines_2e A x ca h w ht hA hx (by omega) hc
  · have HT := Lib.hid ht
    have HFW := Lib.hid (fun W => few_any A x ca W false (decide_eq_false (by omega)))
    clear ht hx hA
    simp only [gv4] at *
    go_enter Tryd.func9, Tryd.ntmps9
    go_upto_region 1 with (fail)
    have hb0 : Below w.heap.size w (w.alloc (.cells #[.int .i64 (h 0).re, .int .i64 (h 0).im, .int .i64 (h 1).re, .int .i64 (h 1).im, .int .i64 (h 2).re, .int .i64 (h 2).im, .int .i64 (h 3).re, .int .i64 (h 3).im] 73)) := below_alloc _ (Nat.le_refl _) (Below.refl _ _)
    have q0 : (w.alloc (.cells #[.int .i64 (h 0).re, .int .i64 (h 0).im, .int .i64 (h 1).re, .int .i64 (h 1).im, .int .i64 (h 2).re, .int .i64 (h 2).im, .int .i64 (h 3).re, .int .i64 (h 3).im] 73)).cell? ⟨w.heap.size, 0, none⟩ = some (.int .i64 (h 0).re) := cell_new (by simp) rfl
    have q1 : (w.alloc (.cells #[.int .i64 (h 0).re, .int .i64 (h 0).im, .int .i64 (h 1).re, .int .i64 (h 1).im, .int .i64 (h 2).re, .int .i64 (h 2).im, .int .i64 (h 3).re, .int .i64 (h 3).im] 73)).cell? ⟨w.heap.size, 1, none⟩ = some (.int .i64 (h 0).im) := cell_new (by simp) rfl
    have q2 : (w.alloc (.cells #[.int .i64 (h 0).re, .int .i64 (h 0).im, .int .i64 (h 1).re, .int .i64 (h 1).im, .int .i64 (h 2).re, .int .i64 (h 2).im, .int .i64 (h 3).re, .int .i64 (h 3).im] 73)).cell? ⟨w.heap.size, 2, none⟩ = some (.int .i64 (h 1).re) := cell_new (by simp) rfl
    have q3 : (w.alloc (.cells #[.int .i64 (h 0).re, .int .i64 (h 0).im, .int .i64 (h 1).re, .int .i64 (h 1).im, .int .i64 (h 2).re, .int .i64 (h 2).im, .int .i64 (h 3).re, .int .i64 (h 3).im] 73)).cell? ⟨w.heap.size, 3, none⟩ = some (.int .i64 (h 1).im) := cell_new (by simp) rfl
    have q4 : (w.alloc (.cells #[.int .i64 (h 0).re, .int .i64 (h 0).im, .int .i64 (h 1).re, .int .i64 (h 1).im, .int .i64 (h 2).re, .int .i64 (h 2).im, .int .i64 (h 3).re, .int .i64 (h 3).im] 73)).cell? ⟨w.heap.size, 4, none⟩ = some (.int .i64 (h 2).re) := cell_new (by simp) rfl
    have q5 : (w.alloc (.cells #[.int .i64 (h 0).re, .int .i64 (h 0).im, .int .i64 (h 1).re, .int .i64 (h 1).im, .int .i64 (h 2).re, .int .i64 (h 2).im, .int .i64 (h 3).re, .int .i64 (h 3).im] 73)).cell? ⟨w.heap.size, 5, none⟩ = some (.int .i64 (h 2).im) := cell_new (by simp) rfl
    have q6 : (w.alloc (.cells #[.int .i64 (h 0).re, .int .i64 (h 0).im, .int .i64 (h 1).re, .int .i64 (h 1).im, .int .i64 (h 2).re, .int .i64 (h 2).im, .int .i64 (h 3).re, .int .i64 (h 3).im] 73)).cell? ⟨w.heap.size, 6, none⟩ = some (.int .i64 (h 3).re) := cell_new (by simp) rfl
    have q7 : (w.alloc (.cells #[.int .i64 (h 0).re, .int .i64 (h 0).im, .int .i64 (h 1).re, .int .i64 (h 1).im, .int .i64 (h 2).re, .int .i64 (h 2).im, .int .i64 (h 3).re, .int .i64 (h 3).im] 73)).cell? ⟨w.heap.size, 7, none⟩ = some (.int .i64 (h 3).im) := cell_new (by simp) rfl
    have zq : w.heap.size < (w.alloc (.cells #[.int .i64 (h 0).re, .int .i64 (h 0).im, .int .i64 (h 1).re, .int .i64 (h 1).im, .int .i64 (h 2).re, .int .i64 (h 2).im, .int .i64 (h 3).re, .int .i64 (h 3).im] 73)).heap.size := World.block_lt_of_cell? _ _ q0
    generalize (w.alloc (.cells #[.int .i64 (h 0).re, .int .i64 (h 0).im, .int .i64 (h 1).re, .int .i64 (h 1).im, .int .i64 (h 2).re, .int .i64 (h 2).im, .int .i64 (h 3).re, .int .i64 (h 3).im] 73)) = w0 at *
    have HT0 := Lib.hid (HT.out.below hb0)
    go_wp2_with (fail)
    refine (awake_any w0 HT0.out).mono ?_
    rintro e w1 ⟨rfl, hb1⟩
    have k1 := hb0.trans (hb1.mono hb0.size)
    go_wp2_with (fail)
    refine (HFW.out _).mono ?_
    rintro e w' ⟨rfl, rfl⟩
    go_wp2_with (fail)
    go_ret
    exact ⟨rfl, k1⟩
end Go.Proofs.YtppghnbabnhnbaaDoor
