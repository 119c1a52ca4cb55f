/-
  The trace of a profile: the reference's.
-/
import Derived.Test.YtoegpaolbkcleaaTof
import Derived.Test.YtoegpaolbkcleaaOrdF
namespace Go.Proofs.Ytoegpaolbkcleaa
open Go.ChangeShapes Go.WideShapes Go.ChangeAt Go.RowKit
set_option linter.unusedVariables false
set_option linter.unusedSimpArgs false
attribute [local go_sem] field_lo field_hi

def lastOf (fl : List Int) : Nat → Int
  | 0 => 0
  | k + 1 => fl.getD k 0
theorem lastOf_succ {fl : List Int} {k : Nat} (h : k < fl.length) : lastOf fl (k + 1) = fl[k] := by
  unfold lastOf; simp [List.getD, List.getElem?_eq_getElem h]
theorem refl_ok {base : Int} {sl : List Slb} {f : Int} (ho : Ok base sl) (f0 : 1 ≤ f) (f1 : f ≤ 3000) (hi : ¬ (refl base sl f).2 < 0) : reflAtE base sl f = 0 := by
  have h0 : reflAtE0 base sl f = 0 := by
    unfold reflAtE0
    rw [firstE2]
    exact ⟨chk_of_ok ho, (unl_zero (by decide)).2 (withinB_true.2 ⟨f0, f1⟩)⟩
  unfold reflAtE
  rw [if_neg (by simp [h0]), if_neg hi]

set_option maxRecDepth 100000 in
set_option maxHeartbeats 4000000 in
theorem RTraceOf_any (base : Int) (A : Option Addr) (sl : List Slb) (cap : Nat) (B : Option Addr) (fl : List Int) (capB : Nat) (w : World) (ho : Ok base sl) (hfl : fl.length ≤ 100) (hA : SlabsAt w A sl) (hB : IntsAt w B fl) :
    Calls Try.prog 41 #[.agg #[.int .i64 base, .slice A sl.length cap], .slice B fl.length capB] w (TofPost (tof base sl fl) w) := by
  have h1 : trE0 base sl fl.length = firstE [chkE base sl, unl (decide (0 < fl.length)) 10, unl (decide ((fl.length : Int) ≤ 8)) 8] := rfl
  have h2 : tof base sl fl = if trE0 base sl fl.length ≠ 0 then ([], 0, trE0 base sl fl.length) else trGo base sl fl 0 0 [] := rfl
  rw [chk_of_ok ho] at h1
  have HO := Lib.hid ho
  clear ho
  go_enter Try.func41, Try.ntmps41
  by_cases hn0 : fl.length = 0
  · have e1 : trE0 base sl fl.length = 10 := by rw [h1, hn0]; simp [unl, firstE]
    rw [e1, if_pos (by decide)] at h2
    have H2 := Lib.hid h2
    have hfl0 : fl = [] := List.eq_nil_of_length_eq_zero hn0
    have hz : ((fl.length : Int) == 0) = true := by simp [hfl0]
    clear h1 h2 e1 hfl0 hn0
    go_wp2
    refine bodyPost_ret (v := .tuple #[.agg #[.slice none 0 0, .int .i64 0, .int .i64 0], .int .i64 0, .int .i64 10]) (by simp [results, Try.results41, go_sem]) rfl ?_
    unfold TofPost
    rw [H2.out]
    exact ⟨none, 0, rfl, World.ownsRow_nil _ _ _ _, (by repeat (first | assumption | exact Below.refl _ _ | refine Below.drew ?_ | (refine below_alloc _ ?_ ?_; focus (first | omega | (simp; done) | (simp; omega) | (simp at *; omega))) | (refine below_set _ ?_ ?_; focus (first | omega | (simp; done) | (simp; omega) | (simp at *; omega))) | refine below_drewN ?_ _ | (refine below_call (by assumption) ?_ ?_; focus (first | omega | (simp; done) | (simp; omega) | (simp at *; omega))) | (refine below_call' (by assumption) ?_ ?_; focus (first | omega | (simp; done) | (simp; omega) | (simp at *; omega)))))⟩
  have hz : ((fl.length : Int) == 0) = false := by simp; exact fun e => hn0 (by simp [e])
  have hd0 : decide (0 < fl.length) = true := by simp; omega
  rw [hd0] at h1
  clear hd0
  by_cases hn1 : (fl.length : Int) ≤ 8
  · have e1 : trE0 base sl fl.length = 0 := by rw [h1]; simp [unl, firstE, hn1]
    rw [e1, if_neg (by simp)] at h2
    have H2 := Lib.hid h2
    have hn1d : decide (8 < (fl.length : Int)) = false := by simp; omega
    clear h1 h2 e1
    go_wp2
    have C0 : (((w.alloc (.cells #[.int .i64 base, .slice A sl.length cap] 24)).alloc (.cells #[.slice none 0 0, .int .i64 0, .int .i64 0] 53)).alloc (.cells #[.slice none 0 0, .int .i64 0, .int .i64 0] 53)).cell? ⟨w.heap.size + 1, 0, none⟩ = some (.slice none 0 0) := cell_alloc _ (cell_new (by simp) rfl)
    have C1 : (((w.alloc (.cells #[.int .i64 base, .slice A sl.length cap] 24)).alloc (.cells #[.slice none 0 0, .int .i64 0, .int .i64 0] 53)).alloc (.cells #[.slice none 0 0, .int .i64 0, .int .i64 0] 53)).cell? ⟨w.heap.size + 1, 1, none⟩ = some (.int .i64 0) := cell_alloc _ (cell_new (by simp) rfl)
    have C2 : (((w.alloc (.cells #[.int .i64 base, .slice A sl.length cap] 24)).alloc (.cells #[.slice none 0 0, .int .i64 0, .int .i64 0] 53)).alloc (.cells #[.slice none 0 0, .int .i64 0, .int .i64 0] 53)).cell? ⟨w.heap.size + 1, 2, none⟩ = some (.int .i64 0) := cell_alloc _ (cell_new (by simp) rfl)
    have G0 : (((w.alloc (.cells #[.int .i64 base, .slice A sl.length cap] 24)).alloc (.cells #[.slice none 0 0, .int .i64 0, .int .i64 0] 53)).alloc (.cells #[.slice none 0 0, .int .i64 0, .int .i64 0] 53)).frozen? ⟨w.heap.size + 1, 0, none⟩ = false := frozen_alloc _ (by simp) (frozen_new (by simp))
    have G1 : (((w.alloc (.cells #[.int .i64 base, .slice A sl.length cap] 24)).alloc (.cells #[.slice none 0 0, .int .i64 0, .int .i64 0] 53)).alloc (.cells #[.slice none 0 0, .int .i64 0, .int .i64 0] 53)).frozen? ⟨w.heap.size + 1, 1, none⟩ = false := frozen_alloc _ (by simp) (frozen_new (by simp))
    have G2 : (((w.alloc (.cells #[.int .i64 base, .slice A sl.length cap] 24)).alloc (.cells #[.slice none 0 0, .int .i64 0, .int .i64 0] 53)).alloc (.cells #[.slice none 0 0, .int .i64 0, .int .i64 0] 53)).frozen? ⟨w.heap.size + 1, 2, none⟩ = false := frozen_alloc _ (by simp) (frozen_new (by simp))
    have N0 : (((w.alloc (.cells #[.int .i64 base, .slice A sl.length cap] 24)).alloc (.cells #[.slice none 0 0, .int .i64 0, .int .i64 0] 53)).alloc (.cells #[.slice none 0 0, .int .i64 0, .int .i64 0] 53)).cell? ⟨w.heap.size + 1 + 1, 0, none⟩ = some (.slice none 0 0) := cell_new (by simp) rfl
    have N1 : (((w.alloc (.cells #[.int .i64 base, .slice A sl.length cap] 24)).alloc (.cells #[.slice none 0 0, .int .i64 0, .int .i64 0] 53)).alloc (.cells #[.slice none 0 0, .int .i64 0, .int .i64 0] 53)).cell? ⟨w.heap.size + 1 + 1, 1, none⟩ = some (.int .i64 0) := cell_new (by simp) rfl
    have N2 : (((w.alloc (.cells #[.int .i64 base, .slice A sl.length cap] 24)).alloc (.cells #[.slice none 0 0, .int .i64 0, .int .i64 0] 53)).alloc (.cells #[.slice none 0 0, .int .i64 0, .int .i64 0] 53)).cell? ⟨w.heap.size + 1 + 1, 2, none⟩ = some (.int .i64 0) := cell_new (by simp) rfl
    have K0 : (((w.alloc (.cells #[.int .i64 base, .slice A sl.length cap] 24)).alloc (.cells #[.slice none 0 0, .int .i64 0, .int .i64 0] 53)).alloc (.cells #[.slice none 0 0, .int .i64 0, .int .i64 0] 53)).cell? ⟨w.heap.size, 0, none⟩ = some (.int .i64 base) := cell_alloc _ (cell_alloc _ (cell_new rfl rfl))
    have K1 : (((w.alloc (.cells #[.int .i64 base, .slice A sl.length cap] 24)).alloc (.cells #[.slice none 0 0, .int .i64 0, .int .i64 0] 53)).alloc (.cells #[.slice none 0 0, .int .i64 0, .int .i64 0] 53)).cell? ⟨w.heap.size, 1, none⟩ = some (.slice A sl.length cap) := cell_alloc _ (cell_alloc _ (cell_new rfl rfl))
    have hv : (((w.alloc (.cells #[.int .i64 base, .slice A sl.length cap] 24)).alloc (.cells #[.slice none 0 0, .int .i64 0, .int .i64 0] 53)).alloc (.cells #[.slice none 0 0, .int .i64 0, .int .i64 0] 53)).heap.size = w.heap.size + 1 + 1 + 1 := by simp
    have hbw2 : Below w.heap.size w (((w.alloc (.cells #[.int .i64 base, .slice A sl.length cap] 24)).alloc (.cells #[.slice none 0 0, .int .i64 0, .int .i64 0] 53)).alloc (.cells #[.slice none 0 0, .int .i64 0, .int .i64 0] 53)) := (by repeat (first | assumption | exact Below.refl _ _ | refine Below.drew ?_ | (refine below_alloc _ ?_ ?_; focus (first | omega | (simp; done) | (simp; omega) | (simp at *; omega))) | (refine below_set _ ?_ ?_; focus (first | omega | (simp; done) | (simp; omega) | (simp at *; omega))) | refine below_drewN ?_ _ | (refine below_call (by assumption) ?_ ?_; focus (first | omega | (simp; done) | (simp; omega) | (simp at *; omega))) | (refine below_call' (by assumption) ?_ ?_; focus (first | omega | (simp; done) | (simp; omega) | (simp at *; omega)))))
    have AV := hA.below hbw2
    have BV := hB.below hbw2
    rw [← hv]
    generalize (((w.alloc (.cells #[.int .i64 base, .slice A sl.length cap] 24)).alloc (.cells #[.slice none 0 0, .int .i64 0, .int .i64 0] 53)).alloc (.cells #[.slice none 0 0, .int .i64 0, .int .i64 0] 53)) = v1 at *
    have hs6 : w.heap.size < v1.heap.size := by omega
    have hs7 : w.heap.size + 1 < v1.heap.size := by omega
    have hs5 : w.heap.size + 1 + 1 < v1.heap.size := by omega
    clear hv hA hB
    go_loopw [9] (fun i wr => ∃ (k : Nat) (out : List Pt) (A' : Option Addr) (c' : Nat), k ≤ fl.length ∧ i = .int .i64 k ∧ out.length = k ∧ trGo base sl fl 0 0 [] = trGo base sl (fl.drop k) k (lastOf fl k) out ∧ wr.cell? ⟨v1.heap.size, 0, none⟩ = some (.slice A' k c') ∧ wr.cell? ⟨v1.heap.size, 1, none⟩ = some (.int .i64 0) ∧ wr.cell? ⟨v1.heap.size, 2, none⟩ = some (.int .i64 0) ∧ wr.frozen? ⟨v1.heap.size, 0, none⟩ = false ∧ wr.ownsRow (v1.heap.size + 1) 75 3 (.slice A' k c') k (cellsOf 3 ptC out) ∧ Below v1.heap.size v1 wr ∧ v1.heap.size < wr.heap.size) (fun i _ => fl.length - (intOf i).toNat)
    case atStart => exact ⟨0, [], none, 0, Nat.zero_le _, rfl, rfl, rfl, cell_new rfl rfl, cell_new rfl rfl, cell_new rfl rfl, frozen_new rfl, World.ownsRow_nil _ _ _ _, (by repeat (first | assumption | exact Below.refl _ _ | refine Below.drew ?_ | (refine below_alloc _ ?_ ?_; focus (first | omega | (simp; done) | (simp; omega) | (simp at *; omega))) | (refine below_set _ ?_ ?_; focus (first | omega | (simp; done) | (simp; omega) | (simp at *; omega))) | refine below_drewN ?_ _ | (refine below_call (by assumption) ?_ ?_; focus (first | omega | (simp; done) | (simp; omega) | (simp at *; omega))) | (refine below_call' (by assumption) ?_ ?_; focus (first | omega | (simp; done) | (simp; omega) | (simp at *; omega))))), by simp⟩
    case round =>
      obtain ⟨k, out, A', c', hk, rfl, hlen, hfit, s0, s1, s2, sf, hown, hbw, hsz⟩ := hrel
      have HM := Lib.hid hfit
      have HLEN := Lib.hid hlen
      clear hfit hlen
      (have c0 := cell_below' hbw C0; have c1 := cell_below' hbw C1; have c2 := cell_below' hbw C2; have g0 := frozen_below hbw (show _ from hs7) G0; have g1 := frozen_below hbw (show _ from hs7) G1; have g2 := frozen_below hbw (show _ from hs7) G2; have n0 := cell_below' hbw N0; have n1 := cell_below' hbw N1; have n2 := cell_below' hbw N2; have k0 := cell_below' hbw K0; have k1 := cell_below' hbw K1; have hA1 := RowsAt.below AV hbw; have hB1 := RowsAt.below BV hbw)
      have hs8 : w.heap.size < wr.heap.size := by omega
      have hs9 : w.heap.size + 1 < wr.heap.size := by omega
      have hs10 : w.heap.size + 1 + 1 < wr.heap.size := by omega
      by_cases hlt : k < fl.length
      · obtain ⟨bb, oo, rfl, hbb, e0⟩ := IntsAt.at_ hB1 hlt
        have hd : fl.drop k = fl[k] :: fl.drop (k + 1) := List.drop_eq_getElem_cons hlt
        have hls := lastOf_succ hlt
        rw [hd, trGo] at HM
        clear hd
        have hprev : ∀ k', k = k' + 1 → wr.cell? ⟨bb, oo + k', none⟩ = some (.int .i64 (lastOf fl k)) := fun k' e => by
          subst e
          obtain ⟨b2, o2, h2, _, h3⟩ := IntsAt.at_ hB1 (show k' < fl.length by omega)
          injection h2 with h2
          injection h2 with h21 h22
          subst h21 h22
          rw [lastOf_succ (by omega)]
          exact h3
        have HPREV := Lib.hid hprev
        have HLS := Lib.hid hls
        clear hprev hls
        generalize fl[k] = f at *
        have hl0 : k = 0 → lastOf fl k = 0 := fun e => by subst e; rfl
        have HL0 := Lib.hid hl0
        clear hl0
        generalize lastOf fl k = last at *
        have ht : trE base sl last f = if firstE [unl (withinB f 1 3000) 2, unl (decide (last < f)) 9] ≠ 0 then firstE [unl (withinB f 1 3000) 2, unl (decide (last < f)) 9] else if (refl base sl f).2 < 0 then 21 else if 20000 < virtHi base sl f (refl base sl f).2.toNat then 22 else 0 := rfl
        have HT := Lib.hid ht
        clear ht
        by_cases hwf : withinB f 1 3000 = true
        · have hu : unl (withinB f 1 3000) 2 = 0 := by rw [hwf]; rfl
          have HU := Lib.hid hu
          obtain ⟨f0, f1⟩ := withinB_true.1 hwf
          rw [hu] at HT
          clear hu hwf
          by_cases hlf : last < f
          · rw [if_neg (by simp [hlf, unl, firstE])] at HT
            have hrr := @refl_passed base sl f HO.out (by omega) f1
            have HR := Lib.hid hrr
            clear hrr
            go_wp2_with (go_at_call 20; refine (FrequencyErr_any _ _).mono ?_; rintro e w' ⟨rfl, rfl⟩; rw [HU.out])
            have hlfd : decide (f ≤ last) = false := by simpa using hlf
            by_cases hk0 : 0 < k
            focus
              have hpc := HPREV.out (k - 1) (by omega)
              have hkp : decide (0 < (k : Int)) = true := by simpa using hk0
              have hkn : ((k : Int) - 1).toNat = k - 1 := by omega
              have hk1 : (1 : Int) ≤ (k : Int) := by omega
              go_quiet (fail)
              (have hbq : Below wr.heap.size wr (wr.drewN nq) := (by repeat (first | assumption | exact Below.refl _ _ | refine Below.drew ?_ | (refine below_alloc _ ?_ ?_; focus (first | omega | (simp; done) | (simp; omega) | (simp at *; omega))) | (refine below_set _ ?_ ?_; focus (first | omega | (simp; done) | (simp; omega) | (simp at *; omega))) | refine below_drewN ?_ _ | (refine below_call (by assumption) ?_ ?_; focus (first | omega | (simp; done) | (simp; omega) | (simp at *; omega))) | (refine below_call' (by assumption) ?_ ?_; focus (first | omega | (simp; done) | (simp; omega) | (simp at *; omega))))); have hzq : wr.heap.size = (wr.drewN nq).heap.size := rfl; generalize wr.drewN nq = wq at *)
              clear hkn hk1 hpc hkp
            rotate_left 1
            focus
              have hkp : decide (0 < (k : Int)) = false := by simp; omega
              go_quiet (fail)
              (have hbq : Below wr.heap.size wr (wr.drewN nq) := (by repeat (first | assumption | exact Below.refl _ _ | refine Below.drew ?_ | (refine below_alloc _ ?_ ?_; focus (first | omega | (simp; done) | (simp; omega) | (simp at *; omega))) | (refine below_set _ ?_ ?_; focus (first | omega | (simp; done) | (simp; omega) | (simp at *; omega))) | refine below_drewN ?_ _ | (refine below_call (by assumption) ?_ ?_; focus (first | omega | (simp; done) | (simp; omega) | (simp at *; omega))) | (refine below_call' (by assumption) ?_ ?_; focus (first | omega | (simp; done) | (simp; omega) | (simp at *; omega))))); have hzq : wr.heap.size = (wr.drewN nq).heap.size := rfl; generalize wr.drewN nq = wq at *)
              clear hkp
            all_goals
              have hbqv : Below v1.heap.size v1 wq := hbw.trans (hbq.mono (by omega))
              have hq1 : w.heap.size < wq.heap.size := by omega
              have hq2 : w.heap.size + 1 < wq.heap.size := by omega
              have hq3 : w.heap.size + 1 + 1 < wq.heap.size := by omega
              have hq4 : v1.heap.size < wq.heap.size := by omega
              (clear c0 c1 c2 g0 g1 g2 n0 n1 n2 k0 k1 hA1 hB1)
              (have c0 := cell_below' hbqv C0; have c1 := cell_below' hbqv C1; have c2 := cell_below' hbqv C2; have g0 := frozen_below hbqv (show _ from hs7) G0; have g1 := frozen_below hbqv (show _ from hs7) G1; have g2 := frozen_below hbqv (show _ from hs7) G2; have n0 := cell_below' hbqv N0; have n1 := cell_below' hbqv N1; have n2 := cell_below' hbqv N2; have k0 := cell_below' hbqv K0; have k1 := cell_below' hbqv K1; have hA1 := RowsAt.below AV hbqv; have hB1 := RowsAt.below BV hbqv)
              have hlt2 := hown.lt
              replace hown := own_below hown hbq
              replace s0 := cell_below' hbq s0
              replace s1 := cell_below' hbq s1
              replace s2 := cell_below' hbq s2
              replace sf := frozen_below hbq (show _ from hsz) sf
              replace e0 := cell_below' hbq e0
              clear HPREV HL0 hlfd hk0
              by_cases hi : (refl base sl f).2 < 0
              · rw [if_pos hi] at HT
                rw [HT.out, if_pos (by decide)] at HM
                have hr : ∀ W, SlabsAt W A sl → Calls Try.prog 21 #[.agg #[.int .i64 base, .slice A sl.length cap], .int .i64 f] W fun e w' => e = .returned (.tuple #[.int .i64 0, .int .i64 0, .bool false]) ∧ Below W.heap.size W w' := fun W hW => by
                  have := RReflected_any base A sl cap f W HO.out hW (by omega) f1
                  unfold rreflV at this
                  rw [if_pos hi] at this
                  exact this
                have HRR := Lib.hid hr
                clear hr HR hi
                go_wp2
                (refine region_full (by kernel_rfl) (by kernel_rfl) fun hx => ?_; (repeat (any_goals (first | go_big_quiet_step ((go_at_call 21; exact ext_call (HRR.out _ (RowsAt.below hA1 (ext_bel _ _))))) | quiet_step ((go_at_call 21; exact ext_call (HRR.out _ (RowsAt.below hA1 (ext_bel _ _)))))))))
                (refine wpQuiet_nil ?_; clear hx; intro u; have hbw3 := ext_bel _ u; have hxw3 := ext_cell _ u; generalize ext _ u = w3 at *; clear u; have hsw3 := hbw3.size; (try simp at hsw3))
                have hb3v : Below v1.heap.size v1 w3 := hbqv.trans (hbw3.mono (by omega))
                have hz31 : w.heap.size < w3.heap.size := by omega
                have hz32 : w.heap.size + 1 < w3.heap.size := by omega
                have hz33 : w.heap.size + 1 + 1 < w3.heap.size := by omega
                (clear c0 c1 c2 g0 g1 g2 n0 n1 n2 k0 k1 hA1 hB1)
                (have c0 := cell_below' hb3v C0; have c1 := cell_below' hb3v C1; have c2 := cell_below' hb3v C2; have g0 := frozen_below hb3v (show _ from hs7) G0; have g1 := frozen_below hb3v (show _ from hs7) G1; have g2 := frozen_below hb3v (show _ from hs7) G2; have n0 := cell_below' hb3v N0; have n1 := cell_below' hb3v N1; have n2 := cell_below' hb3v N2; have k0 := cell_below' hb3v K0; have k1 := cell_below' hb3v K1; have hA1 := RowsAt.below AV hb3v; have hB1 := RowsAt.below BV hb3v)
                go_wp2
                refine bodyPost_ret (v := .tuple #[.agg #[.slice none 0 0, .int .i64 0, .int .i64 0], .int .i64 (k), .int .i64 (21)]) (by simp [results, Try.results41, go_sem, c0, c1, c2, hz31, hz32]) rfl ?_
                unfold TofPost
                rw [H2.out, HM.out]
                exact ⟨none, 0, rfl, World.ownsRow_nil _ _ _ _, (by repeat (first | assumption | exact Below.refl _ _ | refine Below.drew ?_ | (refine below_alloc _ ?_ ?_; focus (first | omega | (simp; done) | (simp; omega) | (simp at *; omega))) | (refine below_set _ ?_ ?_; focus (first | omega | (simp; done) | (simp; omega) | (simp at *; omega))) | refine below_drewN ?_ _ | (refine below_call (by assumption) ?_ ?_; focus (first | omega | (simp; done) | (simp; omega) | (simp at *; omega))) | (refine below_call' (by assumption) ?_ ?_; focus (first | omega | (simp; done) | (simp; omega) | (simp at *; omega)))))⟩
              · rw [if_neg hi] at HT
                obtain ⟨kk, e1, e2, e3, e4⟩ := HR.out (by omega)
                have hr : ∀ W, SlabsAt W A sl → Calls Try.prog 21 #[.agg #[.int .i64 base, .slice A sl.length cap], .int .i64 f] W fun e w' => e = .returned (.tuple #[.int .i64 (refl base sl f).1, .int .i64 kk, .bool true]) ∧ Below W.heap.size W w' := fun W hW => by
                  have := RReflected_any base A sl cap f W HO.out hW (by omega) f1
                  unfold rreflV at this
                  rw [if_neg hi, e1] at this
                  exact this
                have hE := refl_ok HO.out f0 f1 hi
                have hvr : ∀ W, SlabsAt W A sl → Calls Try.prog 22 #[.agg #[.int .i64 base, .slice A sl.length cap], .int .i64 f] W fun e w' => e = .returned (.agg #[.int .i64 (virtLo base sl f kk), .int .i64 (virtHi base sl f kk)]) ∧ Below W.heap.size W w' := fun W hW => by
                  have := RVirtual_any base A sl cap f W hE hW
                  have h2 : reflAt2 base sl f = kk := by unfold reflAt2; rw [if_pos hE, e1]
                  unfold vatLo vatHi at this
                  rw [if_pos hE, if_pos hE, h2, Int.toNat_natCast] at this
                  exact this
                rw [e1, Int.toNat_natCast] at HT
                have hP : trP base sl f = ⟨f, virtLo base sl f kk, virtHi base sl f kk⟩ := by unfold trP; rw [e1, Int.toNat_natCast]
                have HP := Lib.hid hP
                have HRR := Lib.hid hr
                have HVR := Lib.hid hvr
                clear hP e1 e3 e4 HR hi hr hvr hE
                generalize (refl base sl f).1 = hgt at *
                go_wp2
                (refine region_full (by kernel_rfl) (by kernel_rfl) fun hx => ?_; (repeat (any_goals (first | go_big_quiet_step ((go_at_call 21; exact ext_call (HRR.out _ (RowsAt.below hA1 (ext_bel _ _))))) | quiet_step ((go_at_call 21; exact ext_call (HRR.out _ (RowsAt.below hA1 (ext_bel _ _)))))))))
                (refine wpQuiet_nil ?_; clear hx; intro u; have hbw3 := ext_bel _ u; have hxw3 := ext_cell _ u; generalize ext _ u = w3 at *; clear u; have hsw3 := hbw3.size; (try simp at hsw3))
                have hb3v : Below v1.heap.size v1 w3 := hbqv.trans (hbw3.mono (by omega))
                have hz31 : w.heap.size < w3.heap.size := by omega
                have hz32 : w.heap.size + 1 < w3.heap.size := by omega
                have hz33 : w.heap.size + 1 + 1 < w3.heap.size := by omega
                have hz34 : v1.heap.size < w3.heap.size := by omega
                (clear c0 c1 c2 g0 g1 g2 n0 n1 n2 k0 k1 hA1 hB1)
                (have c0 := cell_below' hb3v C0; have c1 := cell_below' hb3v C1; have c2 := cell_below' hb3v C2; have g0 := frozen_below hb3v (show _ from hs7) G0; have g1 := frozen_below hb3v (show _ from hs7) G1; have g2 := frozen_below hb3v (show _ from hs7) G2; have n0 := cell_below' hb3v N0; have n1 := cell_below' hb3v N1; have n2 := cell_below' hb3v N2; have k0 := cell_below' hb3v K0; have k1 := cell_below' hb3v K1; have hA1 := RowsAt.below AV hb3v; have hB1 := RowsAt.below BV hb3v)
                replace hown := own_below hown hbw3
                replace s0 := cell_below' hbw3 s0
                replace s1 := cell_below' hbw3 s1
                replace s2 := cell_below' hbw3 s2
                replace sf := frozen_below hbw3 (show _ from hq4) sf
                replace e0 := cell_below' hbw3 e0
                generalize virtLo base sl f kk = lo at *
                generalize virtHi base sl f kk = hi at *
                go_wp2
                (refine region_alloc (T := ?_) (obj := (.cells #[.int .i64 0, .int .i64 0] 32)) (val := (fun nb => .pointer (some ⟨nb, 0, none⟩))) 6 14 (by kernel_rfl) (by kernel_rfl) rfl rfl rfl (Nat.le_of_ble_eq_true rfl) ?_ ?_ ?_; rotate_left 1)
                focus (intro W0 hB0 hx; simp only [List.take_succ_cons, List.take_zero]; (repeat (any_goals (first | go_big_quiet_step ((go_at_call 22; exact ext_call (HVR.out _ ((RowsAt.below hA1 hB0).below (ext_bel _ _))))) | quiet_step ((go_at_call 22; exact ext_call (HVR.out _ ((RowsAt.below hA1 hB0).below (ext_bel _ _)))))))); refine wpQuiet_nil ?_; exact rfl)
                focus (intro W; go_simp; done)
                (intro W0 w4 hB0 hB1; obtain ⟨hbw4, hnw4, hsw4, hkw4⟩ := alloc_out hB0 hB1; clear hB0 hB1; simp only [List.drop_succ_cons, List.drop_zero]; generalize W0.heap.size = nb at *; clear W0)
                have x0 : w4.cell? ⟨nb, 0, none⟩ = some (.int .i64 0) := blk_cell hkw4 rfl
                have x1 : w4.cell? ⟨nb, 1, none⟩ = some (.int .i64 0) := blk_cell hkw4 rfl
                have y0 : w4.frozen? ⟨nb, 0, none⟩ = false := blk_frozen hkw4
                have y1 : w4.frozen? ⟨nb, 1, none⟩ = false := blk_frozen hkw4
                have hb4v : Below v1.heap.size v1 w4 := hb3v.trans (hbw4.mono (by omega))
                have hz40 := hbw4.size
                have hnb : v1.heap.size < nb := by omega
                have hnbw : w.heap.size + 1 + 1 < nb := by omega
                have hz41 : w.heap.size < w4.heap.size := by omega
                have hz42 : w.heap.size + 1 < w4.heap.size := by omega
                have hz43 : w.heap.size + 1 + 1 < w4.heap.size := by omega
                have hz44 : v1.heap.size < w4.heap.size := by omega
                (clear c0 c1 c2 g0 g1 g2 n0 n1 n2 k0 k1 hA1 hB1)
                (have c0 := cell_below' hb4v C0; have c1 := cell_below' hb4v C1; have c2 := cell_below' hb4v C2; have g0 := frozen_below hb4v (show _ from hs7) G0; have g1 := frozen_below hb4v (show _ from hs7) G1; have g2 := frozen_below hb4v (show _ from hs7) G2; have n0 := cell_below' hb4v N0; have n1 := cell_below' hb4v N1; have n2 := cell_below' hb4v N2; have k0 := cell_below' hb4v K0; have k1 := cell_below' hb4v K1; have hA1 := RowsAt.below AV hb4v; have hB1 := RowsAt.below BV hb4v)
                have hnb2 : w.heap.size < nb := by omega
                have hnb3 : w.heap.size + 1 < nb := by omega
                by_cases hvh : 20000 < hi
                · rw [if_pos hvh] at HT
                  rw [HT.out, if_pos (by decide)] at HM
                  go_wp2
                  refine bodyPost_ret (v := .tuple #[.agg #[.slice none 0 0, .int .i64 0, .int .i64 0], .int .i64 (k), .int .i64 (22)]) (by simp [results, Try.results41, go_sem, c0, c1, c2, hz41, hz42, hnb2, hnb3]) rfl ?_
                  unfold TofPost
                  rw [H2.out, HM.out]
                  exact ⟨none, 0, rfl, World.ownsRow_nil _ _ _ _, (by repeat (first | assumption | exact Below.refl _ _ | refine Below.drew ?_ | (refine below_alloc _ ?_ ?_; focus (first | omega | (simp; done) | (simp; omega) | (simp at *; omega))) | (refine below_set _ ?_ ?_; focus (first | omega | (simp; done) | (simp; omega) | (simp at *; omega))) | refine below_drewN ?_ _ | (refine below_call (by assumption) ?_ ?_; focus (first | omega | (simp; done) | (simp; omega) | (simp at *; omega))) | (refine below_call' (by assumption) ?_ ?_; focus (first | omega | (simp; done) | (simp; omega) | (simp at *; omega)))))⟩
                · rw [if_neg hvh] at HT
                  rw [HT.out, if_neg (by decide), HP.out] at HM
                  have hvd : decide (20000 < hi) = false := by simpa using hvh
                  clear HT HP hvh
                  go_wp2
                  obtain ⟨u0, u1⟩ := set2 (u := .int .i64 lo) (v := .int .i64 hi) x0 x1
                  have hb35 : Below w3.heap.size w3 ((w4.setCell ⟨nb, 0, none⟩ (.int .i64 lo)).setCell ⟨nb, 1, none⟩ (.int .i64 hi)) := (by repeat (first | assumption | exact Below.refl _ _ | refine Below.drew ?_ | (refine below_alloc _ ?_ ?_; focus (first | omega | (simp; done) | (simp; omega) | (simp at *; omega))) | (refine below_set _ ?_ ?_; focus (first | omega | (simp; done) | (simp; omega) | (simp at *; omega))) | refine below_drewN ?_ _ | (refine below_call (by assumption) ?_ ?_; focus (first | omega | (simp; done) | (simp; omega) | (simp at *; omega))) | (refine below_call' (by assumption) ?_ ?_; focus (first | omega | (simp; done) | (simp; omega) | (simp at *; omega)))))
                  have hz5 : ((w4.setCell ⟨nb, 0, none⟩ (.int .i64 lo)).setCell ⟨nb, 1, none⟩ (.int .i64 hi)).heap.size = w4.heap.size := by simp
                  clear x0 x1 y0 y1
                  generalize (w4.setCell ⟨nb, 0, none⟩ (.int .i64 lo)).setCell ⟨nb, 1, none⟩ (.int .i64 hi) = w5 at *
                  have hb5v : Below v1.heap.size v1 w5 := hb3v.trans (hb35.mono (by omega))
                  have hz51 : v1.heap.size < w5.heap.size := by omega
                  have hz52 : nb < w5.heap.size := by omega
                  (clear c0 c1 c2 g0 g1 g2 n0 n1 n2 k0 k1 hA1 hB1)
                  replace hown := own_below hown hb35
                  replace s0 := cell_below' hb35 s0
                  replace s1 := cell_below' hb35 s1
                  replace s2 := cell_below' hb35 s2
                  replace sf := frozen_below hb35 (show _ from hz34) sf
                  replace e0 := cell_below' hb35 e0
                  have hn1' : some v1.heap.size ≠ Value.ownBlock (.slice A' k c') := fun e => by have := hlt2 _ e.symm; omega
                  (refine region_alloc (T := ?_) (obj := (.cells #[.int .i64 f, .int .i64 lo, .int .i64 hi] 75)) (val := (fun nb => .slice (some ⟨nb, 0, none⟩) 1 1)) 8 89 (by kernel_rfl) (by kernel_rfl) rfl rfl rfl (Nat.le_of_ble_eq_true rfl) ?_ ?_ ?_; rotate_left 1)
                  focus (intro W0 hB0 hx; simp only [List.take_succ_cons, List.take_zero]; (repeat (any_goals (first | go_big_quiet_step (fail) | quiet_step (fail)))); refine wpQuiet_nil ?_; exact rfl)
                  focus (intro W; go_simp; done)
                  (intro W0 w6 hB0 hB1; obtain ⟨hbw6, hnw6, hsw6, hkw6⟩ := alloc_out hB0 hB1; clear hB0 hB1; simp only [List.drop_succ_cons, List.drop_zero]; generalize W0.heap.size = nb6 at *; clear W0)
                  have hrow : PtsAt w6 (some ⟨nb6, 0, none⟩) [⟨f, lo, hi⟩] := rows_blk hkw6 rfl
                  have hz6 := hbw6.size
                  have hb6v : Below v1.heap.size v1 w6 := hb5v.trans (hbw6.mono (by omega))
                  have hown6 := own_below hown hbw6
                  refine wpList_appPoint w6 rfl (.tmp 82) (.tmp 89) rfl (v1.heap.size + 1) A' k c' (cellsOf 3 ptC out) rfl hown6 (some ⟨nb6, 0, none⟩) 1 1 (cellsOf 3 ptC [⟨f, lo, hi⟩]) rfl rfl (fun e => by cases e) (fun ad e => by cases e; exact RowsAt.news hrow (by decide)) (cellsOf_one ptC_one (by decide) _) (by omega) (by omega) ?_
                  intro A4 c5 w7 hown7 hg halt
                  rw [← cellsOf_append] at hown7
                  have hz7 := hg.size
                  have hb7v : Below v1.heap.size v1 w7 := below_own hb6v hg hown6 (by omega) (by omega)
                  replace s0 := cell_grown hg (cell_below' hbw6 s0) hn1'
                  replace s1 := cell_grown hg (cell_below' hbw6 s1) hn1'
                  replace s2 := cell_grown hg (cell_below' hbw6 s2) hn1'
                  replace sf := frozen_grown hg (frozen_below hbw6 (show _ from hz51) sf) (by simp; omega) hn1'
                  clear hg halt hown hown6 hn1' hrow hkw6 e0 u0 u1
                  go_wp2
                  go_roundw
                  case rel => exact ⟨k + 1, _, A4, c5, by omega, by go_num, by simp [HLEN.out], by rw [HLS.out]; exact HM.out, cell_same s0, (World.cell?_setCell_other _ _ _ _ (by simp)).trans s1, (World.cell?_setCell_other _ _ _ _ (by simp)).trans s2, frozen_set _ _ sf, ownsRow_setCell_below hown7 (by simp) _, below_set _ (Nat.le_refl _) hb7v, by simp; omega⟩
                  case measure => simp [intOf]; omega
          · have hkpos : 0 < k := Nat.pos_of_ne_zero fun e => by have := HL0.out e; omega
            have hpc := HPREV.out (k - 1) (by omega)
            have hkp : decide (0 < (k : Int)) = true := by simpa using hkpos
            have hkn : ((k : Int) - 1).toNat = k - 1 := by omega
            have hk1 : (1 : Int) ≤ (k : Int) := by omega
            have hfl' : f ≤ last := by omega
            rw [if_pos (by simp [hlf, unl, firstE])] at HT
            have ht9 : trE base sl last f = 9 := by rw [HT.out]; simp [hlf, unl, firstE]
            rw [ht9, if_pos (by decide)] at HM
            clear ht9 HT HL0 HPREV hlf
            go_wp2_with (go_at_call 20; refine (FrequencyErr_any _ _).mono ?_; rintro e w' ⟨rfl, rfl⟩; rw [HU.out])
            go_quiet (fail)
            (have hbq : Below wr.heap.size wr (wr.drewN nq) := (by repeat (first | assumption | exact Below.refl _ _ | refine Below.drew ?_ | (refine below_alloc _ ?_ ?_; focus (first | omega | (simp; done) | (simp; omega) | (simp at *; omega))) | (refine below_set _ ?_ ?_; focus (first | omega | (simp; done) | (simp; omega) | (simp at *; omega))) | refine below_drewN ?_ _ | (refine below_call (by assumption) ?_ ?_; focus (first | omega | (simp; done) | (simp; omega) | (simp at *; omega))) | (refine below_call' (by assumption) ?_ ?_; focus (first | omega | (simp; done) | (simp; omega) | (simp at *; omega))))); have hzq : wr.heap.size = (wr.drewN nq).heap.size := rfl; generalize wr.drewN nq = wq at *)
            have hbqv : Below v1.heap.size v1 wq := hbw.trans (hbq.mono (by omega))
            have hq1 : w.heap.size < wq.heap.size := by omega
            have hq2 : w.heap.size + 1 < wq.heap.size := by omega
            have hq3 : w.heap.size + 1 + 1 < wq.heap.size := by omega
            (clear c0 c1 c2 g0 g1 g2 n0 n1 n2 k0 k1 hA1 hB1)
            (have c0 := cell_below' hbqv C0; have c1 := cell_below' hbqv C1; have c2 := cell_below' hbqv C2; have g0 := frozen_below hbqv (show _ from hs7) G0; have g1 := frozen_below hbqv (show _ from hs7) G1; have g2 := frozen_below hbqv (show _ from hs7) G2; have n0 := cell_below' hbqv N0; have n1 := cell_below' hbqv N1; have n2 := cell_below' hbqv N2; have k0 := cell_below' hbqv K0; have k1 := cell_below' hbqv K1; have hA1 := RowsAt.below AV hbqv; have hB1 := RowsAt.below BV hbqv)
            clear hkn hk1 hpc
            go_wp2
            refine bodyPost_ret (v := .tuple #[.agg #[.slice none 0 0, .int .i64 0, .int .i64 0], .int .i64 (k), .int .i64 (9)]) (by simp [results, Try.results41, go_sem, c0, c1, c2, hq1, hq2]) rfl ?_
            unfold TofPost
            rw [H2.out, HM.out]
            exact ⟨none, 0, rfl, World.ownsRow_nil _ _ _ _, (by repeat (first | assumption | exact Below.refl _ _ | refine Below.drew ?_ | (refine below_alloc _ ?_ ?_; focus (first | omega | (simp; done) | (simp; omega) | (simp at *; omega))) | (refine below_set _ ?_ ?_; focus (first | omega | (simp; done) | (simp; omega) | (simp at *; omega))) | refine below_drewN ?_ _ | (refine below_call (by assumption) ?_ ?_; focus (first | omega | (simp; done) | (simp; omega) | (simp at *; omega))) | (refine below_call' (by assumption) ?_ ?_; focus (first | omega | (simp; done) | (simp; omega) | (simp at *; omega)))))⟩
        · have hu : unl (withinB f 1 3000) 2 = 2 := by unfold unl; rw [if_neg hwf]
          have HU := Lib.hid hu
          rw [hu, if_pos (by simp [firstE])] at HT
          have ht2 : trE base sl last f = 2 := by rw [HT.out]; simp [firstE]
          rw [ht2, if_pos (by decide)] at HM
          clear ht2 hu HT HL0 HPREV hwf
          go_wp2_with (go_at_call 20; refine (FrequencyErr_any _ _).mono ?_; rintro e w' ⟨rfl, rfl⟩; rw [HU.out])
          refine bodyPost_ret (v := .tuple #[.agg #[.slice none 0 0, .int .i64 0, .int .i64 0], .int .i64 (k), .int .i64 (2)]) (by simp [results, Try.results41, go_sem, c0, c1, c2, hs8, hs9]) rfl ?_
          unfold TofPost
          rw [H2.out, HM.out]
          exact ⟨none, 0, rfl, World.ownsRow_nil _ _ _ _, (by repeat (first | assumption | exact Below.refl _ _ | refine Below.drew ?_ | (refine below_alloc _ ?_ ?_; focus (first | omega | (simp; done) | (simp; omega) | (simp at *; omega))) | (refine below_set _ ?_ ?_; focus (first | omega | (simp; done) | (simp; omega) | (simp at *; omega))) | refine below_drewN ?_ _ | (refine below_call (by assumption) ?_ ?_; focus (first | omega | (simp; done) | (simp; omega) | (simp at *; omega))) | (refine below_call' (by assumption) ?_ ?_; focus (first | omega | (simp; done) | (simp; omega) | (simp at *; omega)))))⟩
      · have hd : fl.drop k = [] := List.drop_eq_nil_of_le (by omega)
        rw [hd, trGo] at HM
        have hlt' : ¬ k < fl.length := hlt
        clear hd
        have hne7 : ¬ v1.heap.size = w.heap.size + 1 := by omega
        have hne8 : ¬ w.heap.size + 1 = v1.heap.size := by omega
        go_wp2
        refine bodyPost_ret (v := .tuple #[.agg #[.slice A' k c', .int .i64 0, .int .i64 0], .int .i64 0, .int .i64 0]) (by simp [results, Try.results41, go_sem, c0, c1, c2, hs8, hs9]) rfl ?_
        have hk2 := HLEN.out
        subst hk2
        unfold TofPost
        rw [H2.out, HM.out]
        refine ⟨A', c', rfl, ?_, (by repeat (first | assumption | exact Below.refl _ _ | refine Below.drew ?_ | (refine below_alloc _ ?_ ?_; focus (first | omega | (simp; done) | (simp; omega) | (simp at *; omega))) | (refine below_set _ ?_ ?_; focus (first | omega | (simp; done) | (simp; omega) | (simp at *; omega))) | refine below_drewN ?_ _ | (refine below_call (by assumption) ?_ ?_; focus (first | omega | (simp; done) | (simp; omega) | (simp at *; omega))) | (refine below_call' (by assumption) ?_ ?_; focus (first | omega | (simp; done) | (simp; omega) | (simp at *; omega)))))⟩
        exact own_mono (ownsRow_setCell_below (ownsRow_setCell_below (ownsRow_setCell_below hown (by simp; omega) _) (by simp; omega) _) (by simp; omega) _) (by omega)
  · have e1 : trE0 base sl fl.length = 8 := by rw [h1]; simp [unl, firstE, hn1]
    rw [e1, if_pos (by decide)] at h2
    have H2 := Lib.hid h2
    have hgt : 8 < (fl.length : Int) := by omega
    clear h1 h2 e1 hn1
    go_wp2
    refine bodyPost_ret (v := .tuple #[.agg #[.slice none 0 0, .int .i64 0, .int .i64 0], .int .i64 0, .int .i64 8]) (by simp [results, Try.results41, go_sem]) rfl ?_
    unfold TofPost
    rw [H2.out]
    exact ⟨none, 0, rfl, World.ownsRow_nil _ _ _ _, (by repeat (first | assumption | exact Below.refl _ _ | refine Below.drew ?_ | (refine below_alloc _ ?_ ?_; focus (first | omega | (simp; done) | (simp; omega) | (simp at *; omega))) | (refine below_set _ ?_ ?_; focus (first | omega | (simp; done) | (simp; omega) | (simp at *; omega))) | refine below_drewN ?_ _ | (refine below_call (by assumption) ?_ ?_; focus (first | omega | (simp; done) | (simp; omega) | (simp at *; omega))) | (refine below_call' (by assumption) ?_ ?_; focus (first | omega | (simp; done) | (simp; omega) | (simp at *; omega)))))⟩
end Go.Proofs.Ytoegpaolbkcleaa
