/-
  Chapter 2: EchoAmong, walked.
-/
import Derived.Test.YtppghnbabnhnbaaDoorEAmP
import Derived.Test.YtppghnbabnhnbaaDoorETpA
namespace Go.Proofs.YtppghnbabnhnbaaDoor
open Go.ChangeShapes Go.WideShapes Go.ChangeAt Go.RowKit
set_option linter.unusedVariables false
set_option linter.unusedSimpArgs false

theorem RReadingsErr_long (A : Option Addr) (l : List Rd) (ca : Nat) (w : World) (h : 8 < l.length) :
    Calls Tryd.prog 31 #[.slice A l.length ca] w fun e w' => e = .returned (.int .i64 8) ∧ w = w' := by
  have e1 : decide ((8 : Int) < (l.length : Int)) = true := by simp; omega
  go_enter Tryd.func31, Tryd.ntmps31
  go_wp2_with (fail)
  go_ret
  exact ⟨rfl, rfl⟩

set_option maxRecDepth 100000 in
set_option maxHeartbeats 8000000 in
theorem EchoAmong_any (A : Option Addr) (l : List Rd) (ca : Nat) (d : Int) (B : Option Addr) (ws : List Int) (cb : Nat) (w : World) (ht : Tab w) (hA : RdsAt w A l) (hB : IntsAt w B ws) :
    Calls Tryd.prog 14 #[.slice A l.length ca, .int .i64 d, .slice B ws.length cb] w fun e w' => e = .returned (.bool true) ∧ Below w.heap.size w w' := by
  have HT := Lib.hid ht
  clear ht
  by_cases h8 : l.length ≤ 8
  rotate_left 1
  · have HR := Lib.hid (fun W => RReadingsErr_long A l ca W (by omega))
    clear h8
    go_enter Tryd.func14, Tryd.ntmps14
    go_wp2_with (fail)
    refine (awake_any w HT.out).mono ?_
    rintro e w0 ⟨rfl, h0⟩
    clear HT
    go_wp2_with (fail)
    refine (HR.out _).mono ?_
    rintro e w' ⟨rfl, rfl⟩
    go_wp2_with (fail)
    go_ret
    exact ⟨rfl, h0⟩
  have HR := Lib.hid (fun (W : World) (h : RdsAt W A l) => RReadingsErr_any A l ca W (by omega) h)
  by_cases r0 : rdsE l = 0
  rotate_left 1
  · have e1 : (rdsE l != 0) = true := by simpa using r0
    clear r0
    generalize rdsE l = E at *
    go_enter Tryd.func14, Tryd.ntmps14
    go_wp2_with (fail)
    refine (awake_any w HT.out).mono ?_
    rintro e w0 ⟨rfl, h0⟩
    clear HT
    go_wp2_with (fail)
    refine (HR.out _ (RowsAt.below hA h0)).mono ?_
    rintro e w1 ⟨rfl, k1⟩
    have h1 := h0.trans (k1.mono h0.size)
    go_wp2_with (fail)
    go_ret
    exact ⟨rfl, h1⟩
  obtain ⟨-, hok⟩ := rdsE_zero r0
  rw [r0] at HR
  have HD := Lib.hid (fun W => IsDirection_any d W)
  cases hd : withinB d (-90) 90
  · rw [hd] at HD
    clear hd r0 hok
    go_enter Tryd.func14, Tryd.ntmps14
    go_wp2_with (fail)
    refine (awake_any w HT.out).mono ?_
    rintro e w0 ⟨rfl, h0⟩
    clear HT
    go_wp2_with (fail)
    refine (HR.out _ (RowsAt.below hA h0)).mono ?_
    rintro e w1 ⟨rfl, k1⟩
    have h1 := h0.trans (k1.mono h0.size)
    go_wp2_with (fail)
    refine (HD.out _).mono ?_
    rintro e w' ⟨rfl, rfl⟩
    go_wp2_with (fail)
    go_ret
    exact ⟨rfl, h1⟩
  rw [hd] at HD
  obtain ⟨d0, d1⟩ := withinB_true.1 hd
  clear hd r0
  by_cases hws : ws.length < l.length
  · have e1 : decide ((ws.length : Int) < (l.length : Int)) = true := decide_eq_true (by omega)
    have e1n : decide (ws.length < l.length) = true := decide_eq_true hws
    clear hok
    go_enter Tryd.func14, Tryd.ntmps14
    go_wp2_with (fail)
    refine (awake_any w HT.out).mono ?_
    rintro e w0 ⟨rfl, h0⟩
    clear HT
    go_wp2_with (fail)
    refine (HR.out _ (RowsAt.below hA h0)).mono ?_
    rintro e w1 ⟨rfl, k1⟩
    have h1 := h0.trans (k1.mono h0.size)
    go_wp2_with (fail)
    refine (HD.out _).mono ?_
    rintro e w' ⟨rfl, rfl⟩
    go_wp2_with (fail)
    go_ret
    exact ⟨rfl, h1⟩
  have e1 : decide ((ws.length : Int) < (l.length : Int)) = false := decide_eq_false (by omega)
  have e1n : decide (ws.length < l.length) = false := decide_eq_false hws
  by_cases hw20 : 20 < ws.length
  · have e2 : decide ((20 : Int) < (ws.length : Int)) = true := decide_eq_true (by omega)
    clear hok
    go_enter Tryd.func14, Tryd.ntmps14
    go_wp2_with (fail)
    refine (awake_any w HT.out).mono ?_
    rintro e w0 ⟨rfl, h0⟩
    clear HT
    go_wp2_with (fail)
    refine (HR.out _ (RowsAt.below hA h0)).mono ?_
    rintro e w1 ⟨rfl, k1⟩
    have h1 := h0.trans (k1.mono h0.size)
    go_wp2_with (fail)
    refine (HD.out _).mono ?_
    rintro e w' ⟨rfl, rfl⟩
    go_wp2_with (fail)
    go_ret
    exact ⟨rfl, h1⟩
  have e2 : decide ((20 : Int) < (ws.length : Int)) = false := decide_eq_false (by omega)
  obtain ⟨i1, hi1, hz3, hz4, hz5⟩ := infoRd_
  have HI1 := Lib.hid hi1
  have HZ3 := Lib.hid hz3
  have HZ4 := Lib.hid hz4
  have HZ5 := Lib.hid hz5
  have HOK := Lib.hid hok
  have HOWN := Lib.hid (fun (k : Nat) (h1 : k < l.length) (h2 : k < ws.length) => ownL_succ (d := d) h1 h2)
  have HOL := Lib.hid (fun (k : Nat) (h1 : k ≤ l.length) (h2 : k ≤ ws.length) => ownL_len (d := d) h1 h2)
  have hle : l.length ≤ ws.length := by omega
  have HLE := Lib.hid hle
  clear hi1 hz3 hz4 hz5 hok hws hw20 hle
  go_enter Tryd.func14, Tryd.ntmps14
  go_wp2_with (fail)
  refine (awake_any w HT.out).mono ?_
  rintro e w0 ⟨rfl, h0⟩
  clear HT
  go_wp2_with (fail)
  refine (HR.out _ (RowsAt.below hA h0)).mono ?_
  rintro e w1 ⟨rfl, k1⟩
  have h1 := h0.trans (k1.mono h0.size)
  have hA1 : RdsAt w1 A l := RowsAt.below hA h1
  have hB1 : IntsAt w1 B ws := RowsAt.below hB h1
  clear hB h0 k1 HR
  go_wp2_with (fail)
  refine (HD.out _).mono ?_
  rintro e w' ⟨rfl, rfl⟩
  clear HD
  go_wp2_with (fail)
  clear e1 e1n e2
  go_loopw [7, 8] (fun o i wr => ∃ (k : Nat) (A' : Option Addr) (c' : Nat), k ≤ l.length ∧ i = .int .i64 k ∧ o = .slice A' (ownL l d ws k).length c' ∧ wr.ownsRow w1.heap.size 34 3 (.slice A' (ownL l d ws k).length c') (ownL l d ws k).length (cellsOf 3 rdC (ownL l d ws k)) ∧ Below w1.heap.size w1 wr) (fun _ i _ => l.length - (intOf i).toNat)
  case atStart => exact ⟨0, none, 0, Nat.zero_le _, rfl, rfl, World.ownsRow_nil _ _ _ _, Below.refl _ _⟩
  case round =>
    obtain ⟨k, A', c', hk, rfl, rfl, own, hbr⟩ := hrel
    obtain ⟨wi, rfl⟩ : ∃ wi : World, wi = wr := ⟨_, rfl⟩
    have OWN := Lib.hid own
    have zx : w1.heap.size ≤ wi.heap.size := hbr.size
    clear own
    by_cases hkl : k < l.length
    · have hkI : (k : Int) < (l.length : Int) := by omega
      have hkw : k < ws.length := by have := HLE.out; omega
      have hst := HOWN.out k hkl hkw
      have hol2 : (ownL l d ws k).length ≤ 8 := by rw [HOL.out k (by omega) (by omega)]; omega
      have hrd := HOK.out _ (List.getElem_mem hkl)
      obtain ⟨b1, o1, rfl, hb1, c0, c1, c2⟩ := RdsAt.at_ (RowsAt.below hA1 hbr) hkl
      obtain ⟨b2, o2, rfl, hb2, x0⟩ := IntsAt.at_ (RowsAt.below hB1 hbr) hkw
      generalize l[k] = r at *
      generalize ws[k] = wr0 at *
      have hpq : phaseQ r.s d = (r.s * d % 720, 0) := by
        unfold phaseQ
        rw [withinB_true.2 ⟨hrd.s0, hrd.s1⟩, withinB_true.2 ⟨d0, d1⟩]; rfl
      have HPH := Lib.hid (fun W => PhaseOf_any r.s d W)
      rw [hpq] at HPH
      clear hpq
      have hor : ownR r d wr0 = ⟨r.s, (r.s * d % 720 + wr0 % (2 * r.e + 1) - r.e) % 720, r.e⟩ := rfl
      rw [hor] at hst
      have n0 := Int.emod_nonneg (r.s * d) (show (720 : Int) ≠ 0 by decide)
      have n1 := Int.emod_lt_of_pos (r.s * d) (show (0 : Int) < 720 by decide)
      generalize r.s * d % 720 = n at *
      obtain ⟨g0, g1, g2, g3, g4, g5⟩ := hrd
      have m0 := Int.emod_nonneg wr0 (show 2 * r.e + 1 ≠ 0 by omega)
      have m1 := Int.emod_lt_of_pos wr0 (show 0 < 2 * r.e + 1 by omega)
      have HM1 := Lib.hid (fun W => Mod_any wr0 (2 * r.e + 1) W (by omega) (by omega))
      generalize hm : wr0 % (2 * r.e + 1) = m at *
      have HM2 := Lib.hid (fun W => Mod_any (n + m - r.e) 720 W (by decide) (by decide))
      have hin : withinB n 0 719 = true := withinB_true.2 ⟨n0, by omega⟩
      have HIN := Lib.hid (fun W => Within_any n 0 719 W)
      rw [hin] at HIN
      generalize hp : (n + m - r.e) % 720 = p at *
      have HST := Lib.hid hst
      clear hst hm hp hin hor
      obtain ⟨s, p0, e0⟩ := r
      simp only at *
      go_wp2_with (fail)
      refine (HPH.out _).mono ?_
      rintro e w2 ⟨rfl, hb12⟩
      have hbr2 := hbr.trans (hb12.mono hbr.size)
      replace c0 := cell_below' hb12 c0
      replace c1 := cell_below' hb12 c1
      replace c2 := cell_below' hb12 c2
      replace x0 := cell_below' hb12 x0
      replace hb1 := Nat.lt_of_lt_of_le hb1 hb12.size
      replace hb2 := Nat.lt_of_lt_of_le hb2 hb12.size
      have OWN2 := Lib.hid (own_below OWN.out hb12)
      have zx2 : w1.heap.size ≤ w2.heap.size := hbr2.size
      clear OWN HPH hb12 hbr zx
      go_wp2_with (fail)
      refine (HIN.out _).mono ?_
      rintro e w' ⟨rfl, rfl⟩
      clear HIN
      go_upto_region 13 with (fail)
      have hb3 : Below w2.heap.size w2 (w2.alloc (.cells #[.int .i64 s, .int .i64 p0, .int .i64 e0] 34)) := below_alloc _ (Nat.le_refl _) (Below.refl _ _)
      have y0 : (w2.alloc (.cells #[.int .i64 s, .int .i64 p0, .int .i64 e0] 34)).cell? ⟨w2.heap.size, 0, none⟩ = some (.int .i64 s) := cell_new (by simp) rfl
      have yf0 : (w2.alloc (.cells #[.int .i64 s, .int .i64 p0, .int .i64 e0] 34)).frozen? ⟨w2.heap.size, 0, none⟩ = false := frozen_new (by simp)
      have y1 : (w2.alloc (.cells #[.int .i64 s, .int .i64 p0, .int .i64 e0] 34)).cell? ⟨w2.heap.size, 1, none⟩ = some (.int .i64 p0) := cell_new (by simp) rfl
      have yf1 : (w2.alloc (.cells #[.int .i64 s, .int .i64 p0, .int .i64 e0] 34)).frozen? ⟨w2.heap.size, 1, none⟩ = false := frozen_new (by simp)
      have y2 : (w2.alloc (.cells #[.int .i64 s, .int .i64 p0, .int .i64 e0] 34)).cell? ⟨w2.heap.size, 2, none⟩ = some (.int .i64 e0) := cell_new (by simp) rfl
      have yf2 : (w2.alloc (.cells #[.int .i64 s, .int .i64 p0, .int .i64 e0] 34)).frozen? ⟨w2.heap.size, 2, none⟩ = false := frozen_new (by simp)
      have zy : w2.heap.size < (w2.alloc (.cells #[.int .i64 s, .int .i64 p0, .int .i64 e0] 34)).heap.size := World.block_lt_of_cell? _ _ y0
      generalize (w2.alloc (.cells #[.int .i64 s, .int .i64 p0, .int .i64 e0] 34)) = w3 at *
      have q0 : IntKind.i64.wrap (2 * e0) = 2 * e0 := IntWalk.i64_in _ (by omega)
      have q1 : IntKind.i64.wrap (2 * e0 + 1) = 2 * e0 + 1 := IntWalk.i64_in _ (by omega)
      have q2 : IntKind.i64.wrap (n + m) = n + m := IntWalk.i64_in _ (by omega)
      have q3 : IntKind.i64.wrap (n + m - e0) = n + m - e0 := IntWalk.i64_in _ (by omega)
      replace x0 := cell_below' hb3 x0
      replace hb2 := Nat.lt_of_lt_of_le hb2 hb3.size
      (refine region_extx 15 (by kernel_rfl) (by kernel_rfl) fun hx => ?_; simp only [List.take_succ_cons, List.take_zero, List.drop_succ_cons, List.drop_zero]; (repeat (any_goals (first | go_big_quiet_step ((first | ((go_at_call 53; with_reducible exact ext_same (HM1.out _))) | ((go_at_call 53; with_reducible exact ext_same (HM2.out _))))) | quiet_step ((first | ((go_at_call 53; with_reducible exact ext_same (HM1.out _))) | ((go_at_call 53; with_reducible exact ext_same (HM2.out _)))))))))
      (refine wpQuiet_nil ?_; clear hx; intro u; have hbw4 := ext_bel _ u; have hxw4 := ext_cell _ u; generalize ext _ u = w4 at *; clear u; have hsw4 := hbw4.size; (try simp at hsw4))
      clear q0 q1 q2 q3 hxw4 hsw4 HM1 HM2
      have hb4 : Below w2.heap.size w2 w4 := (hb3).trans ((hbw4).mono (hb3).size)
      replace yf0 := frozen_below hbw4 (World.block_lt_of_cell? _ _ y0) yf0
      replace yf1 := frozen_below hbw4 (World.block_lt_of_cell? _ _ y1) yf1
      replace yf2 := frozen_below hbw4 (World.block_lt_of_cell? _ _ y2) yf2
      replace y0 := cell_below' hbw4 y0
      replace y1 := cell_below' hbw4 y1
      replace y2 := cell_below' hbw4 y2
      replace zy := Nat.lt_of_lt_of_le zy (hbw4).size
      clear hbw4 hb3
      go_upto_region 14 with (fail)
      have hb5 : Below w2.heap.size w2 (w4.setCell ⟨w2.heap.size, 1, none⟩ (.int .i64 p)) := below_set _ (by simp; try omega) (hb4)
      replace y1 : (w4.setCell ⟨w2.heap.size, 1, none⟩ (.int .i64 p)).cell? ⟨w2.heap.size, 1, none⟩ = some (.int .i64 p) := cell_same (y1)
      replace y0 := cell_next (i := 1) (u := .int .i64 p) (by decide) (y0)
      replace y2 := cell_next (i := 1) (u := .int .i64 p) (by decide) (y2)
      replace yf0 := (show World.frozen? (w4.setCell ⟨w2.heap.size, 1, none⟩ (.int .i64 p)) ⟨w2.heap.size, 0, none⟩ = false from frozen_set _ _ (yf0))
      replace yf1 := (show World.frozen? (w4.setCell ⟨w2.heap.size, 1, none⟩ (.int .i64 p)) ⟨w2.heap.size, 1, none⟩ = false from frozen_set _ _ (yf1))
      replace yf2 := (show World.frozen? (w4.setCell ⟨w2.heap.size, 1, none⟩ (.int .i64 p)) ⟨w2.heap.size, 2, none⟩ = false from frozen_set _ _ (yf2))
      have hszQ : (w4.setCell ⟨w2.heap.size, 1, none⟩ (.int .i64 p)).heap.size = w4.heap.size := by simp
      replace zy : w2.heap.size < (w4.setCell ⟨w2.heap.size, 1, none⟩ (.int .i64 p)).heap.size := by rw [hszQ]; exact zy
      clear hszQ hb4
      generalize (w4.setCell ⟨w2.heap.size, 1, none⟩ (.int .i64 p)) = w5 at *
      have hbr5 := hbr2.trans (hb5.mono hbr2.size)
      have OWN5 := Lib.hid (own_below OWN2.out hb5)
      have zx5 : w1.heap.size ≤ w5.heap.size := hbr5.size
      clear OWN2 hb5 hbr2 zx2 x0 hb2 hb1 c0 c1 c2
      generalize ownL l d ws k = sl at *
      go_wp2_with (at_builtin; (refine wpList_append_rows _ rfl (.tmp 89) (.tmp 91) 29 rfl w1.heap.size 34 i1 (.agg #[.int .i64 0, .int .i64 0, .int .i64 0]) 3 24 Tryd.underlying29 HI1.out HZ3.out HZ4.out HZ5.out rfl (by decide) A' sl.length c' (cellsOf 3 rdC sl) rfl (World.ownsRow.alloc OWN5.out _) (some ⟨_, 0, none⟩) 1 1 [.int .i64 s, .int .i64 p, .int .i64 e0] rfl rfl (fun h => by cases h) (fun ad h => by cases h; exact newsRd (x := ⟨s, p, e0⟩) (blk_new rfl)) (fun u hu => by simp at hu; rcases hu with rfl | rfl | rfl <;> rfl) (by unfold maxLen; omega) (by omega) (by simp; omega) ?_; intro A2 c2' w6 h1 h2 h3))
      have r3 : Below w1.heap.size w1 w6 := below_own (below_alloc _ (Nat.le_refl _) hbr5) h2 (World.ownsRow.alloc OWN5.out _) (Nat.le_refl _) (by simp; omega)
      have hL1 : (ownL l d ws (k + 1)).length = sl.length + 1 := by rw [HST.out]; simp
      have HL1 := Lib.hid hL1
      have H1 : Hid (w6.ownsRow w1.heap.size 34 3 (.slice A2 (ownL l d ws (k + 1)).length c2') (ownL l d ws (k + 1)).length (cellsOf 3 rdC (ownL l d ws (k + 1)))) := Lib.hid (by rw [hL1, HST.out, cellsOf_append]; exact h1)
      clear h1 h2 h3 OWN5 hL1 hbr5 zx5
      go_wp2_with (fail)
      go_roundw
      case rel => exact ⟨k + 1, A2, c2', by omega, by go_num, by rw [HL1.out], H1.out, r3⟩
      case measure => simp [intOf]; omega
    · obtain rfl : k = l.length := by omega
      have hol := HOL.out l.length (Nat.le_refl _) HLE.out
      have hok2 := ownL_ok HOK.out d ws l.length
      have hmem := ownL_cand HOK.out d ws l.length d0 d1
      have hcq := candQ_mem (by omega) hok2 hmem
      have hmt := candA_tail hmem
      have hct := candQ_mem (l := (ownL l d ws l.length).drop 1) (by rw [List.length_drop]; omega) (fun x hx => hok2 x (List.mem_of_mem_drop hx)) hmt
      have HTL := Lib.hid (fun x => @candA_tail (ownL l d ws l.length) x)
      have hcl := candA_len (ownL l d ws l.length)
      have hcl2 := candA_len ((ownL l d ws l.length).drop 1)
      have ho8 : (ownL l d ws l.length).length ≤ 8 := by omega
      have HOLN := Lib.hid hol
      have HMEM := Lib.hid hmem
      have HCQ := Lib.hid hcq
      have HCT := Lib.hid hct
      clear hol hok2 hmem hcq hmt hct HOWN HOL
      generalize ownL l d ws l.length = o at *
      have HC := Lib.hid (fun (B : Option Addr) (c : Nat) (W : World) (h : RdsAt W B o) => Candidates_any B o c W (by omega) h)
      rw [HCQ.out] at HC
      have HC2 := Lib.hid (fun (B : Option Addr) (c : Nat) (W : World) (h : RdsAt W B (o.drop 1)) => Candidates_any B (o.drop 1) c W (by rw [List.length_drop]; omega) h)
      rw [HCT.out] at HC2
      have HHAS := Lib.hid (fun (B : Option Addr) (c : Nat) (W : World) (h : IntsAt W B (candA o)) => Has_any B (candA o) d c W (by omega) h)
      rw [any_mem HMEM.out] at HHAS
      have hRo : RdsAt wi A' o := rowsAt_of_own OWN.out rfl (by decide)
      have hcI : (((candA o).length : Nat) : Int) ≤ 181 := by omega
      have h1w := h1.trans (hbr.mono h1.size)
      clear HCQ HCT
      go_wp2_with (fail)
      refine (CopyR_any A' o c' wi (by omega) hRo).mono ?_
      rintro e w2 hp
      obtain ⟨X0, x0, rfl, hX0, k2⟩ := hp.rows
      have h2 := h1w.trans (k2.mono h1w.size)
      clear hp
      go_wp2_with (fail)
      refine (HC.out _ _ _ hX0).mono ?_
      rintro e w3 ⟨R0, r0, rfl, I0, k3⟩
      have h3 := h2.trans (k3.mono h2.size)
      have OWN3 := Lib.hid (own_below (own_below OWN.out k2) k3)
      clear hX0 HC OWN hRo h1w h2 hbr
      go_wp2_with (fail)
      refine (HHAS.out _ _ _ I0).mono ?_
      rintro e w4 ⟨rfl, k4⟩
      have h4 := h3.trans (k4.mono h3.size)
      have I4 : IntsAt w4 R0 (candA o) := RowsAt.below I0 k4
      have OWN4 := Lib.hid (own_below OWN3.out k4)
      clear I0 HHAS OWN3 h3 k2 k3 k4 zx
      by_cases hl0 : l.length = 0
      · have hcon := conQ_none (rdsE_of h8 HOK.out) (best_nil hl0)
        have ho0 : o.length = 0 := by rw [HOLN.out]; exact hl0
        have HN := Lib.hid (fun (B : Option Addr) (c : Nat) (W : World) (h : RdsAt W B l) => ContradictingIn_any B l c W (by omega) h)
        rw [hcon] at HN
        rw [ho0]
        have hnl : ([] : List Int).length = 0 := rfl
        clear hcon ho0 hl0
        go_wp2_with (fail)
        refine (CopyR_any A l ca w4 (by omega) (RowsAt.below hA h4)).mono ?_
        rintro e w5 hp
        obtain ⟨X1, x1, rfl, hX1, k5⟩ := hp.rows
        have h5 := h4.trans (k5.mono h4.size)
        clear hp
        go_wp2_with (fail)
        refine (HN.out _ _ _ hX1).mono ?_
        rintro e w6 ⟨R2, r2, rfl, I2, k6⟩
        have h6 := h5.trans (k6.mono h5.size)
        go_wp2_with (fail)
        go_ret
        exact ⟨rfl, h6⟩
      have hop : 0 < o.length := by rw [HOLN.out]; omega
      obtain ⟨g, rfl, hg1, hg2, hgc⟩ := own_open' OWN4.out hop
      have hR4 : RdsAt w4 (some ⟨g, 0, none⟩) o := rowsAt_of_own OWN4.out rfl (by decide)
      obtain ⟨B', hsl, hD⟩ := drop_slice hop hgc hR4
      have hdl : (o.drop 1).length = o.length - 1 := List.length_drop
      have hopI : (0 : Int) < (o.length : Int) := by omega
      clear hR4 OWN4 hg1 hg2 hgc
      rw [← hdl] at hsl
      generalize o.drop 1 = od at *
      have hod : od.length ≤ 8 := by omega
      have HCP := Lib.hid (fun (c : Nat) (W : World) (h : RdsAt W B' od) => CopyR_any B' od c W (by omega) h)
      have HHM := Lib.hid (fun (m : Nat) (hm : m < (candA o).length) => any_mem (HTL.out _ (List.getElem_mem hm)))
      have hl0' : 0 < l.length := by omega
      clear hdl HTL HMEM hl0 HOLN
      generalize candA o = cs at *
      generalize candA od = cs2 at *
      go_wp2_with (fail)
      refine (HCP.out _ _ hD).mono ?_
      rintro e w5 hp
      obtain ⟨X1, x1, rfl, hX1, k5⟩ := hp.rows
      have h5 := h4.trans (k5.mono h4.size)
      clear hp hsl HCP
      go_wp2_with (fail)
      refine (HC2.out _ _ _ hX1).mono ?_
      rintro e w6 ⟨R1, r1, rfl, J6, k6⟩
      have h6 := h5.trans (k6.mono h5.size)
      have I6 : IntsAt w6 R0 cs := RowsAt.below (RowsAt.below I4 k5) k6
      have hA6 : RdsAt w6 A l := RowsAt.below hA h6
      clear HC2 hX1 hD I4 h4 h5 k5 k6 h1 hopI
      go_wp2_with (fail)
      go_loopw [16] (fun i wx => ∃ m : Nat, m ≤ cs.length ∧ i = .int .i64 m ∧ Below w6.heap.size w6 wx) (fun i _ => cs.length - (intOf i).toNat)
      case atStart => exact ⟨0, Nat.zero_le _, rfl, Below.refl _ _⟩
      case round =>
        obtain ⟨m, hm, rfl, hbx⟩ := hrel
        obtain ⟨wj, rfl⟩ : ∃ wj : World, wj = wr := ⟨_, rfl⟩
        by_cases hml : m < cs.length
        · have hmI : (m : Int) < (cs.length : Int) := by omega
          obtain ⟨b1, o1, rfl, hb1, c0⟩ := IntsAt.at_ (RowsAt.below I6 hbx) hml
          have HH := Lib.hid (Has_any R1 cs2 cs[m] r1 wj (by omega) (RowsAt.below J6 hbx))
          rw [HHM.out m hml] at HH
          generalize cs[m] = v at *
          go_wp2_with (fail)
          refine HH.out.mono ?_
          rintro e w7 ⟨rfl, k7⟩
          have hb7 := hbx.trans (k7.mono hbx.size)
          clear HH k7 c0
          go_wp2_with (fail)
          exact ⟨⟨m + 1, by omega, by go_num, hb7⟩, by simp [intOf]; omega⟩
        · obtain rfl : m = cs.length := by omega
          have HN := Lib.hid (fun (B : Option Addr) (c : Nat) (W : World) (h : RdsAt W B l) => ContradictingIn_any B l c W (by omega) h)
          have hj := h6.trans (hbx.mono h6.size)
          have hAj : RdsAt wj A l := RowsAt.below hA6 hbx
          clear HHM I6 J6 hA6 h6 hbx
          cases hba : bestA l with
          | none =>
            rw [conQ_none (rdsE_of h8 HOK.out) hba] at HN
            have hnl : ([] : List Int).length = 0 := rfl
            clear hba
            go_wp2_with (fail)
            refine (CopyR_any A l ca wj (by omega) hAj).mono ?_
            rintro e w8 hp
            obtain ⟨X2, x2, rfl, hX2, k8⟩ := hp.rows
            have h8' := hj.trans (k8.mono hj.size)
            clear hp
            go_wp2_with (fail)
            refine (HN.out _ _ _ hX2).mono ?_
            rintro e w9 ⟨R2, r2, rfl, I2, k9⟩
            have h9 := h8'.trans (k9.mono h8'.size)
            go_wp2_with (fail)
            go_ret
            exact ⟨rfl, h9⟩
          | some b =>
            rw [conQ_some (rdsE_of h8 HOK.out) hba] at HN
            obtain ⟨hbl, hbn⟩ := bestK_len l _ b hba
            have HBI := Lib.hid (best_at hba)
            have HSA := Lib.hid (some_allQ HOK.out h8 hba)
            have HSL := Lib.hid (fun (t : Nat) => @some_lessQ l b HOK.out h8 hba t)
            have hb0 : 0 < b.length := List.length_pos_iff.2 hbn
            clear hba hbn
            go_wp2_with (fail)
            refine (CopyR_any A l ca wj (by omega) hAj).mono ?_
            rintro e w8 hp
            obtain ⟨X2, x2, rfl, hX2, k8⟩ := hp.rows
            have h8' := hj.trans (k8.mono hj.size)
            have hA8 : RdsAt w8 A l := RowsAt.below hAj k8
            clear hp hj hAj
            go_wp2_with (fail)
            refine (HN.out _ _ _ hX2).mono ?_
            rintro e w9 ⟨R2, r2, rfl, I9, k9⟩
            have h9 := h8'.trans (k9.mono h8'.size)
            have hA9 : RdsAt w9 A l := RowsAt.below hA8 k9
            clear HN hX2 h8' hA8 k9 k8
            have hb0I : (0 : Int) < (b.length : Int) := by omega
            go_wp2_with (fail)
            go_loopw [19] (fun i wx => ∃ z : Int, -1 ≤ z ∧ z ≤ b.length ∧ i = .int .i64 z ∧ Below w9.heap.size w9 wx) (fun i _ => ((b.length : Int) - intOf i).toNat)
            case atStart => exact ⟨-1, by omega, by omega, rfl, Below.refl _ _⟩
            case round =>
              obtain ⟨z, z0, z1, rfl, hbz⟩ := hrel
              obtain ⟨wz, rfl⟩ : ∃ wz : World, wz = wr := ⟨_, rfl⟩
              by_cases hzl : z < b.length
              · obtain ⟨T, hT1, hT2⟩ : ∃ T : Nat, (∀ j : Nat, j < b.length → ((j : Int) != z) = !(decide (j = T))) ∧ ((z < 0 ∧ T = b.length) ∨ (0 ≤ z ∧ T < b.length)) := by
                  by_cases hz : z < 0
                  · refine ⟨b.length, fun j hj => ?_, .inl ⟨hz, rfl⟩⟩
                    rw [decide_eq_false (by omega), bne_iff_ne.2 (by omega)]; rfl
                  · refine ⟨z.toNat, fun j hj => ?_, .inr ⟨by omega, by omega⟩⟩
                    by_cases hj2 : j = z.toNat
                    · rw [decide_eq_true hj2, show (j : Int) = z by omega]; simp
                    · rw [decide_eq_false hj2, bne_iff_ne.2 (by omega)]; rfl
                have HT1 := Lib.hid hT1
                have HT2 := Lib.hid hT2
                have hAz : RdsAt wz A l := RowsAt.below hA9 hbz
                have hIz : IntsAt wz R2 b := RowsAt.below I9 hbz
                clear hT1 hT2
                go_wp2_with (fail)
                go_loopw [20, 21] (fun s i wx => ∃ (j : Nat) (A' : Option Addr) (c' : Nat), j ≤ b.length ∧ i = .int .i64 j ∧ s = .slice A' (someK l b T j).length c' ∧ wx.ownsRow wz.heap.size 34 3 (.slice A' (someK l b T j).length c') (someK l b T j).length (cellsOf 3 rdC (someK l b T j)) ∧ Below wz.heap.size wz wx) (fun _ i _ => b.length - (intOf i).toNat)
                case atStart => exact ⟨0, none, 0, Nat.zero_le _, rfl, rfl, World.ownsRow_nil _ _ _ _, Below.refl _ _⟩
                case round =>
                  obtain ⟨j, A', c', hj, rfl, rfl, own, hbx⟩ := hrel
                  obtain ⟨wi, rfl⟩ : ∃ wi : World, wi = wr := ⟨_, rfl⟩
                  have OWN := Lib.hid own
                  have zx : wz.heap.size ≤ wi.heap.size := hbx.size
                  have hsl := someK_len l b T j
                  clear own
                  by_cases hjl : j < b.length
                  · have hjI : (j : Int) < (b.length : Int) := by omega
                    have hne := HT1.out j hjl
                    have hkp := fun h => someK_keep (l := l) (b := b) (t := T) hjl h
                    have hsk := someK_skip (l := l) hjl
                    obtain ⟨i, hi, hbi⟩ := HBI.out _ (List.getElem_mem hjl)
                    obtain ⟨b1, o1, rfl, hb1, c0⟩ := IntsAt.at_ (RowsAt.below hIz hbx) hjl
                    rw [hbi] at c0 hkp
                    rw [gR_at hi] at hkp
                    have hwi : withinB (i : Int) 0 ((l.length : Int) - 1) = true := withinB_true.2 ⟨by omega, by omega⟩
                    have HW := Lib.hid (fun W => Within_any (i : Int) 0 ((l.length : Int) - 1) W)
                    rw [hwi] at HW
                    clear hbi hwi
                    by_cases hjt : j = T
                    · subst hjt
                      rw [decide_eq_true rfl] at hne
                      have hne2 : ((j : Int) != z) = false := hne
                      have HSK := Lib.hid hsk
                      clear hsk hkp hne
                      go_wp2_with (fail)
                      refine (HW.out _).mono ?_
                      rintro e w' ⟨rfl, rfl⟩
                      go_wp2_with (fail)
                      have H1 : Hid (wi.ownsRow wz.heap.size 34 3 (.slice A' (someK l b j (j + 1)).length c') (someK l b j (j + 1)).length (cellsOf 3 rdC (someK l b j (j + 1)))) := Lib.hid (by rw [HSK.out]; exact OWN.out)
                      exact ⟨⟨j + 1, A', c', by omega, by go_num, by rw [HSK.out], H1.out, hbx⟩, by simp [intOf]; omega⟩
                    · rw [decide_eq_false hjt] at hne
                      have hne2 : ((j : Int) != z) = true := hne
                      have hiI : (i : Int) < (l.length : Int) := by omega
                      obtain ⟨b3, o3, rfl, hb3, x0, x1, x2⟩ := RdsAt.at_ (RowsAt.below hAz hbx) hi
                      have HST := Lib.hid (hkp hjt)
                      clear hsk hkp hne hjt
                      generalize l[i] = r at *
                      generalize someK l b T j = sl at *
                      go_wp2_with (fail)
                      refine (HW.out _).mono ?_
                      rintro e w' ⟨rfl, rfl⟩
                      go_wp2_with (at_builtin; (refine wpList_append_rows _ rfl (.tmp 176) (.tmp 184) 29 rfl wz.heap.size 34 i1 (.agg #[.int .i64 0, .int .i64 0, .int .i64 0]) 3 24 Tryd.underlying29 HI1.out HZ3.out HZ4.out HZ5.out rfl (by decide) A' sl.length c' (cellsOf 3 rdC sl) rfl (World.ownsRow.alloc OWN.out _) (some ⟨_, 0, none⟩) 1 1 [.int .i64 r.s, .int .i64 r.p, .int .i64 r.e] rfl rfl (fun h => by cases h) (fun ad h => by cases h; exact newsRd (x := r) (blk_new rfl)) (fun u hu => by simp at hu; rcases hu with rfl | rfl | rfl <;> rfl) (by unfold maxLen; omega) (by omega) (by simp; omega) ?_; intro A2 c2' w6 h1 h2 h3))
                      have r3 : Below wz.heap.size wz w6 := below_own (below_alloc _ (Nat.le_refl _) hbx) h2 (World.ownsRow.alloc OWN.out _) (Nat.le_refl _) (by simp; omega)
                      have hL1 : (someK l b T (j + 1)).length = sl.length + 1 := by rw [HST.out]; simp
                      have HL1 := Lib.hid hL1
                      have H1 : Hid (w6.ownsRow wz.heap.size 34 3 (.slice A2 (someK l b T (j + 1)).length c2') (someK l b T (j + 1)).length (cellsOf 3 rdC (someK l b T (j + 1)))) := Lib.hid (by rw [hL1, HST.out, cellsOf_append]; exact h1)
                      clear h1 h2 h3 OWN hL1 hbx
                      go_wp2_with (fail)
                      go_roundw
                      case rel => exact ⟨j + 1, A2, c2', by omega, by go_num, by rw [HL1.out], H1.out, r3⟩
                      case measure => simp [intOf]; omega
                  · obtain rfl : j = b.length := by omega
                    have hR : RdsAt wi A' (someK l b T b.length) := rowsAt_of_own OWN.out rfl (by decide)
                    have HC3 := Lib.hid (Candidates_any A' (someK l b T b.length) c' wi (by omega) hR)
                    have hbi2 := hbz.trans (hbx.mono hbz.size)
                    clear OWN hbx hR
                    rcases HT2.out with ⟨hz, hT⟩ | ⟨hz, hT⟩
                    · obtain rfl : z = -1 := by omega
                      subst hT
                      rw [HSA.out] at HC3
                      clear HT1 HT2 hz z0 z1 hzl
                      go_wp2_with (fail)
                      refine HC3.out.mono ?_
                      rintro e w10 ⟨R3, r3, rfl, I3, k10⟩
                      have hb10 := hbi2.trans (k10.mono hbi2.size)
                      clear HC3 k10
                      go_wp2_with (fail)
                      exact ⟨⟨0, by omega, by omega, rfl, hb10⟩, by first | (simp [intOf]; done) | (simp [intOf]; omega)⟩
                    · rw [HSL.out T hT] at HC3
                      clear HT1 HT2
                      generalize candA (someK l b T b.length) = c3 at *
                      go_wp2_with (fail)
                      refine HC3.out.mono ?_
                      rintro e w10 ⟨R3, r3, rfl, I3, k10⟩
                      have hb10 := hbi2.trans (k10.mono hbi2.size)
                      clear HC3 k10
                      go_wp2_with (fail)
                      exact ⟨⟨z + 1, by omega, by omega, rfl, hb10⟩, by first | (simp [intOf]; done) | (simp [intOf]; omega)⟩
              · have hb10 := h9.trans (hbz.mono h9.size)
                go_wp2_with (fail)
                go_ret
                exact ⟨rfl, hb10⟩
end Go.Proofs.YtppghnbabnhnbaaDoor
