/-
  Chapter 2: EchoSpacings, walked.
-/
import Derived.Test.YtppghnbabnhnbaaDoorENxR
import Derived.Test.YtppghnbabnhnbaaDoorEAwk
namespace Go.Proofs.YtppghnbabnhnbaaDoor
open Go.ChangeShapes Go.WideShapes Go.ChangeAt Go.RowKit
set_option linter.unusedVariables false
set_option linter.unusedSimpArgs false

theorem fewReadings_any (A : Option Addr) (l : List Rd) (ca : Nat) (w : World) (b : Bool) (hb : decide ((l.length : Int) ≤ 10) = b) :
    Calls Tryd.prog 30 #[.slice A l.length ca] w fun e w' => e = .returned (.bool b) ∧ w = w' := by
  go_enter Tryd.func30, Tryd.ntmps30
  go_wp2_with (fail)
  go_ret
  exact ⟨rfl, rfl⟩
theorem nextE_1 {l : List Rd} {sp : List Int} {wg : Int} (h : rdsE l ≠ 0) : nextE l sp wg = rdsE l := by
  unfold nextE; rw [firstE_nz h]
theorem nextE_2 {l : List Rd} {sp : List Int} {wg : Int} (h : rdsE l = 0) (h2 : ¬ 0 < sp.length) : nextE l sp wg = 10 := by
  unfold nextE; rw [h, firstE_z, decide_eq_false h2, unl_false, firstE_nz (by decide)]
theorem nextE_3 {l : List Rd} {sp : List Int} {wg : Int} (h : rdsE l = 0) (h2 : 0 < sp.length) (h3 : ¬ sp.length ≤ 20) : nextE l sp wg = 8 := by
  unfold nextE; rw [h, firstE_z, decide_eq_true h2, unl_true, firstE_z, decide_eq_false h3, unl_false, firstE_nz (by decide)]
theorem nextE_4 {l : List Rd} {sp : List Int} {wg : Int} (h : rdsE l = 0) (h2 : 0 < sp.length) (h3 : sp.length ≤ 20) (h4 : spsE sp ≠ 0) : nextE l sp wg = spsE sp := by
  unfold nextE; rw [h, firstE_z, decide_eq_true h2, unl_true, firstE_z, decide_eq_true h3, unl_true, firstE_z, firstE_nz h4]
theorem nextE_5 {l : List Rd} {sp : List Int} {wg : Int} (h : rdsE l = 0) (h2 : 0 < sp.length) (h3 : sp.length ≤ 20) (h4 : spsE sp = 0) : nextE l sp wg = unl (withinB wg 0 360) 2 := by
  unfold nextE; rw [h, firstE_z, decide_eq_true h2, unl_true, firstE_z, decide_eq_true h3, unl_true, firstE_z, h4, firstE_z, firstE1]
theorem nextQ_err {l : List Rd} {sp : List Int} {wg x : Int} (h : nextE l sp wg = x) (hx : x ≠ 0) : nextQ l sp wg = (0, 0, x) := by
  unfold nextQ; rw [if_neg (by rw [h]; exact hx), h]
theorem nextQ_none {l : List Rd} {sp : List Int} {wg : Int} (h : nextE l sp wg = 0) (hx : (candA l).length = 0) : nextQ l sp wg = (0, 0, 12) := by
  unfold nextQ; rw [if_pos h, if_pos hx]
theorem nextQ_ok {l : List Rd} {sp : List Int} {wg : Int} (h : nextE l sp wg = 0) (hx : (candA l).length ≠ 0) : nextQ l sp wg = ((nxt wg (candA l) sp).1, (nxt wg (candA l) sp).2, 0) := by
  unfold nextQ; rw [if_pos h, if_neg hx]
theorem spsE_val (l : List Int) : spsE l = 0 ∨ spsE l = 2 := by
  induction l with
  | nil => exact .inl rfl
  | cons x r ih =>
    rw [spsE_cons]
    cases withinB x (-360) 360
    · exact .inr rfl
    · exact ih
set_option maxRecDepth 100000 in
set_option maxHeartbeats 8000000 in
theorem EchoSpacings_any (A : Option Addr) (l : List Rd) (ca : Nat) (B : Option Addr) (sp : List Int) (cb : Nat) (wg : Int) (w : World) (ht : Tab w) (hA : RdsAt w A l) (hB : IntsAt w B sp) :
    Calls Tryd.prog 4 #[.slice A l.length ca, .slice B sp.length cb, .int .i64 wg] w fun e w' => e = .returned (.bool true) ∧ Below w.heap.size w w' := by
  have HT := Lib.hid ht
  clear ht
  by_cases h10 : l.length ≤ 10
  rotate_left 1
  · have hb : decide ((l.length : Int) ≤ 10) = false := by simp; omega
    have H1 := Lib.hid (fun W => fewReadings_any A l ca W false hb)
    clear hb
    go_enter Tryd.func4, Tryd.ntmps4
    go_wp2_with (fail)
    refine (awake_any w HT.out).mono ?_
    rintro e w1 ⟨rfl, hb1⟩
    go_wp2_with (fail)
    refine (H1.out _).mono ?_
    rintro e w' ⟨rfl, rfl⟩
    go_wp2_with (fail)
    go_ret
    exact ⟨rfl, hb1⟩
  have hb : decide ((l.length : Int) ≤ 10) = true := by simp; omega
  have H1 := Lib.hid (fun W => fewReadings_any A l ca W true hb)
  clear hb
  by_cases h22 : sp.length ≤ 22
  rotate_left 1
  · have h22b : (22 : Int) < sp.length := by omega
    go_enter Tryd.func4, Tryd.ntmps4
    go_wp2_with (fail)
    refine (awake_any w HT.out).mono ?_
    rintro e w1 ⟨rfl, hb1⟩
    go_wp2_with (fail)
    refine (H1.out _).mono ?_
    rintro e w' ⟨rfl, rfl⟩
    go_wp2_with (fail)
    go_ret
    exact ⟨rfl, hb1⟩
  have h22b : (sp.length : Int) ≤ 22 := by omega
  have h22c : ¬ (22 : Int) < sp.length := by omega
  go_enter Tryd.func4, Tryd.ntmps4
  go_wp2_with (fail)
  refine (awake_any w HT.out).mono ?_
  rintro e w1 ⟨rfl, hb1⟩
  have hA1 := RowsAt.below hA hb1
  have hB1 := RowsAt.below hB hb1
  clear HT
  go_wp2_with (fail)
  refine (H1.out _).mono ?_
  rintro e w' ⟨rfl, rfl⟩
  go_wp2_with (fail)
  refine (CopyR_any A l ca w1 (by omega) hA1).mono ?_
  rintro e w2 hp
  obtain ⟨A2, c2, rfl, hA2, hb2⟩ := hp.rows
  have hB2 := RowsAt.below hB1 hb2
  have h2 := hb1.trans (hb2.mono hb1.size)
  clear hp hb1 hb2 hA1 hB1
  go_wp2_with (fail)
  refine (CopyInts_any B sp cb w2 (by omega) hB2).mono ?_
  rintro e w3 hp
  obtain ⟨B3, c3, rfl, o3, hb3⟩ := hp
  have hB3 : IntsAt w3 B3 sp := rowsAt_of_own o3 rfl (by decide)
  have hA3 := RowsAt.below hA2 hb3
  have h3 := h2.trans (hb3.mono h2.size)
  clear o3 h2 hb3 hA2 hB2
  go_wp2_with (fail)
  refine (NextSpacing_any A2 l c2 B3 sp c3 wg w3 (by omega) (by omega) hA3 hB3).mono ?_
  rintro e w4 ⟨rfl, hb4⟩
  have h4 := h3.trans (hb4.mono h3.size)
  clear h3 hb4 hA3 hB3
  have HQ : Hid (nextQ l sp wg = nextQ l sp wg) := Lib.hid rfl
  go_wp2_with (fail)
  refine (RReadingsErr_any A l ca w4 (by omega) (RowsAt.below hA h4)).mono ?_
  rintro e w5 ⟨rfl, hb5⟩
  have h5 := h4.trans (hb5.mono h4.size)
  have hB5 := RowsAt.below hB h5
  have hA5 := RowsAt.below hA h5
  clear h4 hb5 HQ H1 h22 h22c
  by_cases r1 : rdsE l = 0
  rotate_left 1
  · have e1 : (rdsE l == 0) = false := by simpa using r1
    have e2 : (rdsE l != 0) = true := by simpa using r1
    rw [nextQ_err (nextE_1 r1) r1]
    generalize rdsE l = E at *
    clear r1
    go_wp2_with (fail)
    go_loop [10, 11] (fun m i => m = .int .i64 E ∧ i = .int .i64 0) (fun _ _ => 0)
    case atStart => exact ⟨rfl, rfl⟩
    case round =>
      obtain ⟨rfl, rfl⟩ := hrel
      by_cases hs : (0 : Int) < sp.length
      all_goals
        go_wp2_with (fail)
        go_ret
        exact ⟨rfl, h5⟩
  by_cases s0 : 0 < sp.length
  rotate_left 1
  · rw [nextQ_err (nextE_2 r1 s0) (by decide), r1]
    have hs : (sp.length : Int) = 0 := by omega
    rw [hs]
    clear r1
    go_wp2_with (fail)
    go_loop [10, 11] (fun m i => m = .int .i64 10 ∧ i = .int .i64 0) (fun _ _ => 0)
    case atStart => exact ⟨rfl, rfl⟩
    case round =>
      obtain ⟨rfl, rfl⟩ := hrel
      skip
      go_wp2_with (fail)
      go_ret
      exact ⟨rfl, h5⟩
  by_cases s20 : sp.length ≤ 20
  rotate_left 1
  · rw [nextQ_err (nextE_3 r1 s0 s20) (by decide), r1]
    have hs : (0 : Int) < sp.length := by omega
    have hs1 : ((sp.length : Int) == 0) = false := by rw [beq_eq_false_iff_ne]; omega
    have hs2 : (20 : Int) < sp.length := by omega
    clear r1
    go_wp2_with (fail)
    go_loop [10, 11] (fun m i => m = .int .i64 8 ∧ i = .int .i64 0) (fun _ _ => 0)
    case atStart => exact ⟨rfl, rfl⟩
    case round =>
      obtain ⟨rfl, rfl⟩ := hrel
      skip
      go_wp2_with (fail)
      go_ret
      exact ⟨rfl, h5⟩
  have hs1 : ((sp.length : Int) == 0) = false := by rw [beq_eq_false_iff_ne]; omega
  have hs2 : (sp.length : Int) ≤ 20 := by omega
  have HE4 := Lib.hid (fun h => nextE_4 (wg := wg) r1 s0 s20 h)
  have HE5 := Lib.hid (fun h => nextE_5 (wg := wg) r1 s0 s20 h)
  have HQE := Lib.hid (fun x (h : nextE l sp wg = x) (hx : x ≠ 0) => nextQ_err h hx)
  have HQN := Lib.hid (@nextQ_none l sp wg)
  have HQO := Lib.hid (@nextQ_ok l sp wg)
  obtain ⟨l8, hok⟩ := rdsE_zero r1
  have HR := Lib.hid (fun W (h : RdsAt W A l) => RCandidates_any A l ca W l8 hok h)
  have HSV := Lib.hid (spsE_val sp)
  have HSZ := Lib.hid (@spsE_zero sp)
  have hlen := candA_len l
  have HCB := Lib.hid (@candA_bd l)
  rw [r1]
  clear r1 hok
  rcases hq : nextQ l sp wg with ⟨q1, q2, q3⟩
  rw [hq] at HQE HQN HQO
  clear hq
  have e0 : Hid (spsE sp = spsE (sp.drop 0)) := Lib.hid rfl
  have hex : ∀ {x : Int}, (q1, q2, q3) = ((0 : Int), (0 : Int), x) → q1 = 0 ∧ q2 = 0 ∧ q3 = x := fun h => by simpa using h
  have HEX := Lib.hid (fun x (h : (q1, q2, q3) = ((0 : Int), (0 : Int), x)) => hex h)
  clear hex
  go_wp2_with (fail)
  go_loop [10, 11] (fun m i => ∃ (k : Nat) (kk : Int), k ≤ sp.length ∧ i = .int .i64 k ∧ m = .int .i64 kk ∧ ((kk = 0 ∧ spsE sp = spsE (sp.drop k)) ∨ (kk = 2 ∧ spsE sp = 2))) (fun _ i => sp.length - (intOf i).toNat)
  case atStart => exact ⟨0, 0, Nat.zero_le _, rfl, rfl, .inl ⟨rfl, e0.out⟩⟩
  case round =>
    obtain ⟨k, kk, hk, rfl, rfl, hor⟩ := hrel
    rcases hor with ⟨rfl, hgo⟩ | ⟨rfl, h2⟩
    rotate_left 1
    · obtain ⟨rfl, rfl, rfl⟩ := HEX.out _ (HQE.out _ ((HE4.out (by rw [h2]; decide)).trans h2) (by decide))
      clear HE4 HE5 HQE HQN HQO HEX e0 HSV h2
      by_cases hkl : (k : Int) < sp.length
      all_goals
        go_wp2_with (fail)
        go_ret
        exact ⟨rfl, h5⟩
    · by_cases hkl : k < sp.length
      · have hkl2 : (k : Int) < sp.length := by omega
        have hd : sp.drop k = sp[k] :: sp.drop (k + 1) := List.drop_eq_getElem_cons hkl
        rw [hd, spsE_cons] at hgo
        obtain ⟨b1, o1, rfl, hz1, c0⟩ := IntsAt.at_ hB5 hkl
        have HS := Lib.hid (fun W => IsSpacing_any sp[k] W)
        have HGO := Lib.hid hgo
        clear hgo hd
        generalize sp[k] = g at *
        cases hb : withinB g (-360) 360
        · rw [hb] at HS HGO
          have h2 := Lib.hid (HGO.out.trans (if_neg (by decide)))
          clear HGO
          go_wp2_with (fail)
          refine (HS.out _).mono ?_
          rintro e w' ⟨rfl, rfl⟩
          go_wp2_with (fail)
          exact ⟨⟨k + 1, 2, by omega, by go_num, rfl, .inr ⟨rfl, h2.out⟩⟩, by simp [intOf]; omega⟩
        · rw [hb] at HS HGO
          have h2 := Lib.hid (HGO.out.trans (if_pos rfl))
          clear HGO
          go_wp2_with (fail)
          refine (HS.out _).mono ?_
          rintro e w' ⟨rfl, rfl⟩
          go_wp2_with (fail)
          exact ⟨⟨k + 1, 0, by omega, by go_num, rfl, .inl ⟨rfl, h2.out⟩⟩, by simp [intOf]; omega⟩
      · have hd : sp.drop k = [] := List.drop_eq_nil_of_le (by omega)
        rw [hd] at hgo
        have hz : spsE sp = 0 := hgo
        have hkl2 : (sp.length : Int) ≤ k := by omega
        have HE := HE5.out hz
        have HSP := Lib.hid (HSZ.out hz)
        have HWI := Lib.hid (fun W => Within_any wg 0 360 W)
        clear hgo hd hz HE4 HE5 HSV HSZ e0
        cases hw : withinB wg 0 360
        · rw [hw] at HE HWI
          obtain ⟨rfl, rfl, rfl⟩ := HEX.out _ (HQE.out _ HE (by decide))
          clear HE HQE HQN HQO HEX hw
          go_wp2_with (fail)
          refine (HWI.out _).mono ?_
          rintro e w' ⟨rfl, rfl⟩
          go_wp2_with (fail)
          go_ret
          exact ⟨rfl, h5⟩
        · obtain ⟨w0, w360⟩ := withinB_true.1 hw
          rw [hw] at HE HWI
          have HQN2 := Lib.hid (fun h => HEX.out _ (HQN.out HE h))
          have HQO2 := Lib.hid (fun h => HQO.out HE h)
          have HB6 := Lib.hid (fun W (hb : Below w5.heap.size w5 W) => RowsAt.below hB5 hb)
          clear HE HQE HQN HQO HEX hw
          go_wp2_with (fail)
          refine (HWI.out _).mono ?_
          rintro e w' ⟨rfl, rfl⟩
          go_wp2_with (fail)
          refine (HR.out _ hA5).mono ?_
          rintro e w6 ⟨C, c6, rfl, hc6, hb6⟩
          have hB6 : IntsAt w6 B sp := HB6.out _ hb6
          have h6 := h5.trans (hb6.mono h5.size)
          clear hb6 HB6 HR HWI hA5 hB5
          by_cases hcz : (candA l).length = 0
          · obtain ⟨rfl, rfl, rfl⟩ := HQN2.out hcz
            rw [hcz]
            clear HQN2 HQO2
            go_wp2_with (fail)
            go_ret
            exact ⟨rfl, h6⟩
          · have hq := HQO2.out hcz
            have hc1 : (((candA l).length : Nat) : Int) ≠ 0 := by omega
            have hc2 : ((((candA l).length : Nat) : Int) == 0) = false := by rw [beq_eq_false_iff_ne]; omega
            have HN := Lib.hid (RNextSpacing_any C (candA l) c6 B sp cb wg w6 hlen HCB.out s0 s20 HSP.out w0 w360 hc6 hB6)
            obtain ⟨rfl, rfl, rfl⟩ : q1 = (nxt wg (candA l) sp).1 ∧ q2 = (nxt wg (candA l) sp).2 ∧ q3 = 0 := by simpa using hq
            clear HQN2 HQO2 hq hcz HCB HSP hc6 hB6
            generalize (candA l) = cl at *
            generalize (nxt wg cl sp).1 = n1 at *
            generalize (nxt wg cl sp).2 = n2 at *
            go_wp2_with (fail)
            refine HN.out.mono ?_
            rintro e w7 ⟨rfl, hb7⟩
            have h7 := h6.trans (hb7.mono h6.size)
            clear HN hb7 h6
            go_wp2_with (fail)
            go_ret
            exact ⟨rfl, h7⟩
end Go.Proofs.YtppghnbabnhnbaaDoor
