/-
  Chapter 2: the reference of the next spacing.
-/
import Derived.Test.YtppghnbabnhnbaaDoorENxt
namespace Go.Proofs.YtppghnbabnhnbaaDoor
open Go.ChangeShapes Go.WideShapes Go.ChangeAt Go.RowKit
set_option linter.unusedVariables false
set_option linter.unusedSimpArgs false

theorem dstP_mod2 (a b : Int) : dstP (a % 720) (b % 720) = dstP a b := by
  have h : (a % 720 - b % 720) % 720 = (a - b) % 720 := by omega
  unfold dstP
  rw [h]
set_option maxRecDepth 100000 in
set_option maxHeartbeats 8000000 in
theorem RNextSpacing_any (C : Option Addr) (c : List Int) (cc : Nat) (B : Option Addr) (sp : List Int) (cb : Nat) (wg : Int) (w : World) (hlen : c.length ≤ 181) (hcb : ∀ d ∈ c, -90 ≤ d ∧ d ≤ 90) (n0 : 0 < sp.length) (n1 : sp.length ≤ 20) (hsp : ∀ s ∈ sp, -360 ≤ s ∧ s ≤ 360) (w0 : 0 ≤ wg) (w1 : wg ≤ 360) (hc : IntsAt w C c) (hB : IntsAt w B sp) :
    Calls Tryd.prog 33 #[.slice C c.length cc, .slice B sp.length cb, .int .i64 wg] w fun e w' => e = .returned (.tuple #[.int .i64 (nxt wg c sp).1, .int .i64 (nxt wg c sp).2]) ∧ Below w.heap.size w w' := by
  have HCB := Lib.hid hcb
  have HSP := Lib.hid hsp
  have hne : sp ≠ [] := fun e => by rw [e] at n0; cases n0
  have HNX := Lib.hid (@nxt_ref wg c sp hne)
  clear hcb hsp hne
  go_enter Tryd.func33, Tryd.ntmps33
  go_wp2_with (fail)
  go_loopw [8, 9, 10] (fun b m i wx => ∃ (k : Nat) (bb mm : Int), k ≤ sp.length ∧ i = .int .i64 k ∧ b = .int .i64 bb ∧ m = .int .i64 mm ∧ 0 ≤ bb ∧ bb ≤ k ∧ -1 ≤ mm ∧ mm ≤ 200 ∧ nxtRo wg c (sp.drop k) k bb mm = nxt wg c sp ∧ Below w.heap.size w wx) (fun _ _ i _ => sp.length - (intOf i).toNat)
  case atStart => exact ⟨0, 0, -1, Nat.zero_le _, rfl, rfl, rfl, by decide, by decide, by decide, by decide, HNX.out, Below.refl _ _⟩
  case round =>
    obtain ⟨k, bb, mm, hk, rfl, rfl, rfl, hb0, hbk, hm0, hm1, hgo, hbx⟩ := hrel
    obtain ⟨wo, rfl⟩ : ∃ wo : World, wo = wr := ⟨_, rfl⟩
    have HGO := Lib.hid hgo
    clear hgo
    have hcx := RowsAt.below hc hbx
    have hBx := RowsAt.below hB hbx
    by_cases hkl : k < sp.length
    · obtain ⟨hs0, hs1⟩ := HSP.out _ (List.getElem_mem hkl)
      have hd2 : sp.drop k = sp[k] :: sp.drop (k + 1) := List.drop_eq_getElem_cons hkl
      rw [hd2, nxtRo] at HGO
      clear hd2
      have hbk2 := fun (W : World) (h : IntsAt W B sp) => IntsAt.at_ h hkl
      have HBK := Lib.hid hbk2
      obtain ⟨b2, o2, rfl, -, -⟩ := IntsAt.at_ hBx hkl
      generalize sp[k] = s at *
      clear hbk2
      have hws := wst_bd s wg c
      obtain ⟨hw0, hw1⟩ := hws
      have hwq : wst s wg c = wstGo s wg c c 0 := rfl
      have HW := Lib.hid hwq
      have hk1 : (k : Int) < (sp.length : Int) := by omega
      clear hwq hcx hBx
      go_wp2_with (fail)
      go_loopw [11, 12] (fun m i wy => ∃ (j : Nat) (m2 : Int), j ≤ c.length ∧ i = .int .i64 j ∧ m = .int .i64 m2 ∧ 0 ≤ m2 ∧ m2 ≤ 200 ∧ wst s wg c = wstGo s wg c (c.drop j) m2 ∧ Below wo.heap.size wo wy) (fun _ i _ => c.length - (intOf i).toNat)
      case atStart => exact ⟨0, 0, Nat.zero_le _, rfl, rfl, by decide, by decide, HW.out, Below.refl _ _⟩
      case round =>
        obtain ⟨j, m2, hj, rfl, rfl, hm20, hm21, hgw, hby⟩ := hrel
        obtain ⟨wp, rfl⟩ : ∃ wp : World, wp = wr := ⟨_, rfl⟩
        have HGW := Lib.hid hgw
        clear hgw
        have hxy : Below w.heap.size w wp := hbx.trans (hby.mono hbx.size)
        by_cases hjl : j < c.length
        · obtain ⟨ha0, ha1⟩ := HCB.out _ (List.getElem_mem hjl)
          have hd3 : c.drop j = c[j] :: c.drop (j + 1) := List.drop_eq_getElem_cons hjl
          rw [hd3, wstGo] at HGW
          clear hd3
          have hca := fun (W : World) (h : IntsAt W C c) => IntsAt.at_ h hjl
          have HCA := Lib.hid hca
          obtain ⟨b3, o3, rfl, -, -⟩ := IntsAt.at_ hc hjl
          generalize c[j] = a at *
          clear hca
          have hcq := cntA_bd s wg a c
          obtain ⟨hc0, hc1⟩ := hcq
          have hj1 : (j : Int) < (c.length : Int) := by omega
          obtain ⟨q0, q1⟩ := mul_bd hs0 hs1 ha0 ha1
          go_wp2_with (fail)
          go_loopw [13, 14] (fun n i wz => ∃ (t : Nat) (n2 : Int), t ≤ c.length ∧ i = .int .i64 t ∧ n = .int .i64 n2 ∧ 0 ≤ n2 ∧ n2 ≤ t ∧ cntA s wg a c = n2 + cntA s wg a (c.drop t) ∧ Below wp.heap.size wp wz) (fun _ i _ => c.length - (intOf i).toNat)
          case atStart => exact ⟨0, 0, Nat.zero_le _, rfl, rfl, by decide, by decide, by simp, Below.refl _ _⟩
          case round =>
            obtain ⟨t, n2, ht, rfl, rfl, hn20, hn21, hgc, hbz⟩ := hrel
            obtain ⟨wq, rfl⟩ : ∃ wq : World, wq = wr := ⟨_, rfl⟩
            have HGC := Lib.hid hgc
            clear hgc
            have hxz : Below w.heap.size w wq := hxy.trans (hbz.mono hxy.size)
            by_cases htl : t < c.length
            · obtain ⟨hx0, hx1⟩ := HCB.out _ (List.getElem_mem htl)
              have hd4 : c.drop t = c[t] :: c.drop (t + 1) := List.drop_eq_getElem_cons htl
              rw [hd4, cntA] at HGC
              clear hd4
              obtain ⟨b4, o4, he4, -, g0⟩ := IntsAt.at_ (RowsAt.below hc hxz) htl
              obtain ⟨b5, o5, he5, -, f0⟩ := HCA.out _ (RowsAt.below hc hxz)
              obtain ⟨b6, o6, he6, -, d0⟩ := HBK.out _ (RowsAt.below hB hxz)
              generalize c[t] = x at *
              have ht1 : (t : Int) < (c.length : Int) := by omega
              obtain ⟨z0, z1⟩ := mul_bd hs0 hs1 hx0 hx1
              obtain ⟨rfl, rfl⟩ : b3 = b4 ∧ o3 = o4 := by simpa using he4
              obtain ⟨rfl, rfl⟩ : b3 = b5 ∧ o3 = o5 := by simpa using he5
              obtain ⟨rfl, rfl⟩ : b2 = b6 ∧ o2 = o6 := by simpa using he6
              have p0 := Int.emod_nonneg (s * a) (show (720 : Int) ≠ 0 by decide)
              have p1 := Int.emod_lt_of_pos (s * a) (show (0 : Int) < 720 by decide)
              have r0 := Int.emod_nonneg (s * x) (show (720 : Int) ≠ 0 by decide)
              have r1 := Int.emod_lt_of_pos (s * x) (show (0 : Int) < 720 by decide)
              have HP1 := Lib.hid (fun W => Phase_any s a W hs0 hs1 ha0 ha1)
              have HP2 := Lib.hid (fun W => Phase_any s x W hs0 hs1 hx0 hx1)
              have HDI := Lib.hid (fun W => Apart_any (s * a % 720) (s * x % 720) W (by omega) (by omega) (by omega) (by omega))
              have hnq : near s wg a x = decide (dstP (s * a) (s * x) ≤ wg) := rfl
              rw [← dstP_mod2] at hnq
              clear he4 he5 he6 p0 p1 r0 r1 z0 z1
              generalize dstP (s * a % 720) (s * x % 720) = dd at *
              generalize s * a % 720 = v1 at *
              generalize s * x % 720 = v2 at *
              cases hnb : near s wg a x
              · rw [hnb] at hnq HGC
                rw [if_neg (by decide), Int.zero_add] at HGC
                have e9 : decide (dd ≤ wg) = false := hnq.symm
                clear hnq hnb
                go_wp2_with (fail)
                (refine region_extx 20 (by kernel_rfl) (by kernel_rfl) fun hx => ?_; simp only [List.take_succ_cons, List.take_zero, List.drop_succ_cons, List.drop_zero]; (repeat (any_goals (first | go_big_quiet_step ((first | ((go_at_call 73; with_reducible exact ext_same (HP1.out _))) | ((go_at_call 73; with_reducible exact ext_same (HP2.out _))) | ((go_at_call 54; with_reducible exact ext_same (HDI.out _))))) | quiet_step ((first | ((go_at_call 73; with_reducible exact ext_same (HP1.out _))) | ((go_at_call 73; with_reducible exact ext_same (HP2.out _))) | ((go_at_call 54; with_reducible exact ext_same (HDI.out _)))))))))
                (refine wpQuiet_nil ?_; clear hx; intro u; have hbw9 := ext_bel _ u; have hxw9 := ext_cell _ u; generalize ext _ u = w9 at *; clear u; have hsw9 := hbw9.size; (try simp at hsw9))
                have hbz9 : Below wp.heap.size wp w9 := hbz.trans (hbw9.mono hbz.size)
                clear hxw9 hsw9 hbw9 d0 f0 g0
                go_wp2_with (fail)
                exact ⟨⟨t + 1, n2, by omega, by go_num, rfl, hn20, by omega, HGC.out, hbz9⟩, by simp [intOf]; omega⟩
              · rw [hnb] at hnq HGC
                rw [if_pos rfl, ← Int.add_assoc] at HGC
                have e9 : decide (dd ≤ wg) = true := hnq.symm
                clear hnq hnb
                go_wp2_with (fail)
                (refine region_extx 20 (by kernel_rfl) (by kernel_rfl) fun hx => ?_; simp only [List.take_succ_cons, List.take_zero, List.drop_succ_cons, List.drop_zero]; (repeat (any_goals (first | go_big_quiet_step ((first | ((go_at_call 73; with_reducible exact ext_same (HP1.out _))) | ((go_at_call 73; with_reducible exact ext_same (HP2.out _))) | ((go_at_call 54; with_reducible exact ext_same (HDI.out _))))) | quiet_step ((first | ((go_at_call 73; with_reducible exact ext_same (HP1.out _))) | ((go_at_call 73; with_reducible exact ext_same (HP2.out _))) | ((go_at_call 54; with_reducible exact ext_same (HDI.out _)))))))))
                (refine wpQuiet_nil ?_; clear hx; intro u; have hbw9 := ext_bel _ u; have hxw9 := ext_cell _ u; generalize ext _ u = w9 at *; clear u; have hsw9 := hbw9.size; (try simp at hsw9))
                have hbz9 : Below wp.heap.size wp w9 := hbz.trans (hbw9.mono hbz.size)
                clear hxw9 hsw9 hbw9 d0 f0 g0
                go_wp2_with (fail)
                exact ⟨⟨t + 1, n2 + 1, by omega, by go_num, rfl, by omega, by omega, HGC.out, hbz9⟩, by simp [intOf]; omega⟩
            · have hd4 : c.drop t = [] := List.drop_eq_nil_of_le (by omega)
              rw [hd4, cntA, Int.add_zero] at HGC
              rw [HGC.out] at HGW hc0 hc1
              have htl2 : c.length ≤ t := by omega
              have hby2 := hby.trans (hbz.mono hby.size)
              clear hd4 HGC hbz hby hxz
              go_wp2_with (fail)
              all_goals
                exact ⟨⟨j + 1, _, by omega, by go_num, rfl, by omega, by omega, by first | exact HGW.out | exact HGW.out.trans (congrArg (wstGo s wg c _) (if_pos (by omega))) | exact HGW.out.trans (congrArg (wstGo s wg c _) (if_neg (by omega))), hby2⟩, by simp [intOf]; omega⟩
        · have hd3 : c.drop j = [] := List.drop_eq_nil_of_le (by omega)
          rw [hd3, wstGo] at HGW
          have hjl2 : c.length ≤ j := by omega
          rw [HGW.out] at HGO hw0 hw1
          clear hd3 HGW HW hbx hby
          by_cases hlt : mm < 0 ∨ m2 < mm
          · rw [if_pos hlt] at HGO
            by_cases hz : mm < 0
            · have e9 : decide (mm < 0) = true := by simpa using hz
              clear hlt
              go_wp2_with (fail)
              exact ⟨⟨k + 1, k, m2, by omega, by go_num, rfl, rfl, by omega, by omega, by omega, by omega, HGO.out, hxy⟩, by simp [intOf]; omega⟩
            · have e9 : decide (mm < 0) = false := by simpa using hz
              have hz2 : m2 < mm := by omega
              have e8 : decide (m2 < mm) = true := by simpa using hz2
              clear hlt
              go_wp2_with (fail)
              exact ⟨⟨k + 1, k, m2, by omega, by go_num, rfl, rfl, by omega, by omega, by omega, by omega, HGO.out, hxy⟩, by simp [intOf]; omega⟩
          · rw [if_neg hlt] at HGO
            have e9 : decide (mm < 0) = false := by simp; omega
            have e8 : decide (m2 < mm) = false := by simp; omega
            clear hlt
            go_wp2_with (fail)
            exact ⟨⟨k + 1, bb, mm, by omega, by go_num, rfl, rfl, by omega, by omega, by omega, by omega, HGO.out, hxy⟩, by simp [intOf]; omega⟩
    · have hd2 : sp.drop k = [] := List.drop_eq_nil_of_le (by omega)
      rw [hd2, nxtRo] at HGO
      have hkl2 : sp.length ≤ k := by omega
      clear hd2
      go_wp2_with (fail)
      go_ret2
      rw [← HGO.out]
      exact ⟨rfl, hbx⟩
end Go.Proofs.YtppghnbabnhnbaaDoor
