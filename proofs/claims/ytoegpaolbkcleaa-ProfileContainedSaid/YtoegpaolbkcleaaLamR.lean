/-
  The reference's lamination.
-/
import Derived.Test.YtoegpaolbkcleaaLam
import Derived.Test.YtoegpaolbkcleaaOrdF
namespace Go.Proofs.Ytoegpaolbkcleaa
open Go.ChangeShapes Go.WideShapes Go.ChangeAt Go.RowKit
set_option linter.unusedVariables false
set_option linter.unusedSimpArgs false
attribute [local go_sem] field_lo field_hi

theorem max_div {a oh : Int} (h : 1000 ≤ oh) : (if a < 0 then 0 else a) / oh = posI (a / oh) := by
  unfold posI
  by_cases ha : a < 0
  · have h1 : a / oh < 1 := (Int.ediv_lt_iff_lt_mul (by omega)).2 (by omega)
    rw [if_pos ha, if_neg (by omega), Int.zero_ediv]
  · have h1 : 0 ≤ a / oh := Int.ediv_nonneg (by omega) (by omega)
    rw [if_neg ha]
    by_cases h2 : 0 < a / oh
    · rw [if_pos h2]
    · rw [if_neg h2]; omega

set_option maxHeartbeats 1000000 in
theorem own_any (A : Option Addr) (l : List Pt) (n cap k : Nat) (after width f : Int) (w : World) (hk : k < l.length) (hn : l.length = n) (hA : PtsAt w A l) (h0 : 0 ≤ l[k].f) (h1 : l[k].f ≤ 3000) (hs : l[k].f * l[k].f < f * f) (f0 : 0 ≤ f) (f1 : f ≤ 3000) :
    Calls Try.prog 83 #[.agg #[.slice A n cap, .int .i64 after, .int .i64 width], .int .i64 k, .int .i64 f] w fun e w' => e = .returned (.agg #[.int .i64 (idxLo (l[k].f * l[k].f) f), .int .i64 (idxHi (l[k].f * l[k].f) f)]) ∧ Below w.heap.size w w' := by
  subst hn
  obtain ⟨b, off, rfl, hb, c0, c1, c2⟩ := PtsAt.at_ hA hk
  have hq := sq_bd l[k].f h0 h1
  obtain ⟨hq0, hq1⟩ := hq
  generalize l[k] = p at *
  have hb1 : b < w.heap.size + 1 := by omega
  clear hA c1 c2
  go_enter Try.func83, Try.ntmps83
  go_wp2_with (fail)
  (refine region_extx 15 (by kernel_rfl) (by kernel_rfl) fun hx => ?_; simp only [List.take_succ_cons, List.take_zero, List.drop_succ_cons, List.drop_zero]; (repeat (any_goals (first | go_big_quiet_step ((go_at_call 25; exact ext_call (Index_any _ _ _ (by omega) hs f0 f1))) | quiet_step ((go_at_call 25; exact ext_call (Index_any _ _ _ (by omega) hs f0 f1)))))))
  (refine wpQuiet_nil ?_; clear hx; intro u; have hbw2 := ext_bel _ u; have hxw2 := ext_cell _ u; generalize ext _ u = w2 at *; clear u; have hsw2 := hbw2.size; (try simp at hsw2))
  have x0 : w2.cell? ⟨w.heap.size + 1, 0, none⟩ = some (.int .i64 0) := cell_below' hbw2 (by repeat (first | assumption | (refine cell_new ?_ rfl; focus (simp; done)) | refine cell_drew ?_ | refine cell_alloc _ ?_ | refine cell_drewN _ ?_ | (refine cell_far ?_ ?_; focus (first | omega | (simp; omega) | (simp; done))) | refine cell_below' (by assumption) ?_))
  have x1 : w2.cell? ⟨w.heap.size + 1, 1, none⟩ = some (.int .i64 0) := cell_below' hbw2 (by repeat (first | assumption | (refine cell_new ?_ rfl; focus (simp; done)) | refine cell_drew ?_ | refine cell_alloc _ ?_ | refine cell_drewN _ ?_ | (refine cell_far ?_ ?_; focus (first | omega | (simp; omega) | (simp; done))) | refine cell_below' (by assumption) ?_))
  have y0 : w2.frozen? ⟨w.heap.size + 1, 0, none⟩ = false := frozen_below hbw2 (by simp) (by repeat (first | assumption | (refine frozen_new ?_; focus (simp; done)) | refine frozen_drew ?_ | (refine frozen_alloc _ ?_ ?_; focus (first | (simp; done) | (simp; omega))) | refine frozen_drewN _ ?_ | refine frozen_set _ _ ?_ | (refine frozen_below (by assumption) ?_ ?_; focus (first | (simp; done) | (simp; omega)))))
  have y1 : w2.frozen? ⟨w.heap.size + 1, 1, none⟩ = false := frozen_below hbw2 (by simp) (by repeat (first | assumption | (refine frozen_new ?_; focus (simp; done)) | refine frozen_drew ?_ | (refine frozen_alloc _ ?_ ?_; focus (first | (simp; done) | (simp; omega))) | refine frozen_drewN _ ?_ | refine frozen_set _ _ ?_ | (refine frozen_below (by assumption) ?_ ?_; focus (first | (simp; done) | (simp; omega)))))
  have hbw : Below w.heap.size w w2 := (by repeat (first | assumption | exact Below.refl _ _ | refine Below.drew ?_ | (refine below_alloc _ ?_ ?_; focus (first | omega | (simp; done) | (simp; omega) | (simp at *; omega))) | (refine below_set _ ?_ ?_; focus (first | omega | (simp; done) | (simp; omega) | (simp at *; omega))) | refine below_drewN ?_ _ | (refine below_call (by assumption) ?_ ?_; focus (first | omega | (simp; done) | (simp; omega) | (simp at *; omega))) | (refine below_call' (by assumption) ?_ ?_; focus (first | omega | (simp; done) | (simp; omega) | (simp at *; omega)))))
  clear hbw2 hxw2
  go_wp2
  obtain ⟨u0, u1⟩ := set2 (u := .int .i64 (idxLo (p.f * p.f) f)) (v := .int .i64 (idxHi (p.f * p.f) f)) x0 x1
  refine bodyPost_ret (v := .agg #[.int .i64 (idxLo (p.f * p.f) f), .int .i64 (idxHi (p.f * p.f) f)]) (by simp [results, Try.results83, go_sem, u0, u1]) rfl ⟨rfl, (by repeat (first | assumption | exact Below.refl _ _ | refine Below.drew ?_ | (refine below_alloc _ ?_ ?_; focus (first | omega | (simp; done) | (simp; omega) | (simp at *; omega))) | (refine below_set _ ?_ ?_; focus (first | omega | (simp; done) | (simp; omega) | (simp at *; omega))) | refine below_drewN ?_ _ | (refine below_call (by assumption) ?_ ?_; focus (first | omega | (simp; done) | (simp; omega) | (simp at *; omega))) | (refine below_call' (by assumption) ?_ ?_; focus (first | omega | (simp; done) | (simp; omega) | (simp at *; omega)))))⟩

set_option maxRecDepth 100000 in
set_option maxHeartbeats 2000000 in
theorem RLaminated_any (A : Option Addr) (l : List Pt) (cap : Nat) (after width : Int) (w : World) (hO : OkT l after width) (hA : PtsAt w A l) :
    Calls Try.prog 33 #[.agg #[.slice A l.length cap, .int .i64 after, .int .i64 width]] w (LamPost l after width w) := by
  obtain ⟨an, rfl⟩ := Int.eq_ofNat_of_zero_le hO.a0
  have hn0 := hO.n0
  have hn1 := hO.n1
  have han := hO.a1
  have hw0 := hO.w0
  have hw1 := hO.w1
  have HO := Lib.hid hO
  have hp0 := hO.pt l[0] (List.getElem_mem hn0)
  clear hO
  obtain ⟨b, off, rfl, hb, c0, c1, c2⟩ := PtsAt.at_ hA hn0
  have hL : lam l an width = lamGo l an width l[0] (l.drop 1) 0 [] := by unfold lam; rw [List.getD_eq_getElem?_getD, List.getElem?_eq_getElem hn0]; rfl
  have HL := Lib.hid hL
  clear hL
  generalize l[0] = p0 at *
  simp only [Nat.zero_mul, Nat.add_zero] at c0 c1 c2
  obtain ⟨q1, q2, q3, q4, q5⟩ := hp0
  go_enter Try.func33, Try.ntmps33
  go_wp2
  go_loopw [5, 7] (fun o i wr => ∃ (k : Nat) (out : List Rng) (A' : Option Addr) (c' : Nat), k + 1 ≤ l.length ∧ i = .int .i64 k ∧ o = .slice A' k c' ∧ out.length = k ∧ RB out ∧ wr.ownsRow (w.heap.size + 2) 32 2 (.slice A' k c') k (cellsOf 2 rngC out) ∧ lam l an width = lamGo l an width p0 (l.drop (k + 1)) k out ∧ Below (w.heap.size + 2) ((w.alloc (.cells #[.slice (some ⟨b, off, none⟩) l.length cap, .int .i64 an, .int .i64 width] 53)).alloc (.cells #[.int .i64 p0.lo, .int .i64 p0.hi] 32)) wr) (fun _ i _ => l.length - (intOf i).toNat)
  case atStart => exact ⟨0, [], none, 0, hn0, rfl, rfl, rfl, RB.nil, World.ownsRow_nil _ _ _ _, HL.out, Below.refl _ _⟩
  case round =>
    obtain ⟨k, out, A', c', hk, rfl, rfl, hlen, hRB, hown, hlam, hbw⟩ := hrel
    obtain ⟨wo, rfl⟩ : ∃ wo, wo = wr := ⟨wr, rfl⟩
    have HM := Lib.hid hlam
    have HLEN := Lib.hid hlen
    have HRB := Lib.hid hRB
    clear hlam hlen hRB
    have hbw0 : Below w.heap.size w wo := (by repeat (first | assumption | exact Below.refl _ _ | refine Below.drew ?_ | (refine below_alloc _ ?_ ?_; focus (first | omega | (simp; done) | (simp; omega) | (simp at *; omega))) | (refine below_set _ ?_ ?_; focus (first | omega | (simp; done) | (simp; omega) | (simp at *; omega))) | refine below_drewN ?_ _ | (refine below_call (by assumption) ?_ ?_; focus (first | omega | (simp; done) | (simp; omega) | (simp at *; omega))) | (refine below_call' (by assumption) ?_ ?_; focus (first | omega | (simp; done) | (simp; omega) | (simp at *; omega)))))
    have hzr := hbw.size
    simp at hzr
    have hzr1 : w.heap.size < wo.heap.size := by omega
    have hzr2 : w.heap.size + 1 < wo.heap.size := by omega
    have d0 : wo.cell? ⟨w.heap.size, 0, none⟩ = some (.slice (some ⟨b, off, none⟩) l.length cap) := cell_below hbw (by repeat (first | assumption | (refine cell_new ?_ rfl; focus (simp; done)) | refine cell_drew ?_ | refine cell_alloc _ ?_ | refine cell_drewN _ ?_ | (refine cell_far ?_ ?_; focus (first | omega | (simp; omega) | (simp; done))) | refine cell_below' (by assumption) ?_)) (by simp)
    have d1 : wo.cell? ⟨w.heap.size, 1, none⟩ = some (.int .i64 an) := cell_below hbw (by repeat (first | assumption | (refine cell_new ?_ rfl; focus (simp; done)) | refine cell_drew ?_ | refine cell_alloc _ ?_ | refine cell_drewN _ ?_ | (refine cell_far ?_ ?_; focus (first | omega | (simp; omega) | (simp; done))) | refine cell_below' (by assumption) ?_)) (by simp)
    have d2 : wo.cell? ⟨w.heap.size, 2, none⟩ = some (.int .i64 width) := cell_below hbw (by repeat (first | assumption | (refine cell_new ?_ rfl; focus (simp; done)) | refine cell_drew ?_ | refine cell_alloc _ ?_ | refine cell_drewN _ ?_ | (refine cell_far ?_ ?_; focus (first | omega | (simp; omega) | (simp; done))) | refine cell_below' (by assumption) ?_)) (by simp)
    have e0 : wo.cell? ⟨w.heap.size + 1, 0, none⟩ = some (.int .i64 p0.lo) := cell_below hbw (by repeat (first | assumption | (refine cell_new ?_ rfl; focus (simp; done)) | refine cell_drew ?_ | refine cell_alloc _ ?_ | refine cell_drewN _ ?_ | (refine cell_far ?_ ?_; focus (first | omega | (simp; omega) | (simp; done))) | refine cell_below' (by assumption) ?_)) (by simp)
    have e1 : wo.cell? ⟨w.heap.size + 1, 1, none⟩ = some (.int .i64 p0.hi) := cell_below hbw (by repeat (first | assumption | (refine cell_new ?_ rfl; focus (simp; done)) | refine cell_drew ?_ | refine cell_alloc _ ?_ | refine cell_drewN _ ?_ | (refine cell_far ?_ ?_; focus (first | omega | (simp; omega) | (simp; done))) | refine cell_below' (by assumption) ?_)) (by simp)
    clear c0 c1 c2
    by_cases hlt : k + 1 < l.length
    · have hAr := hA.below hbw0
      obtain ⟨bb, oo, hbb, hb2, c0, c1, c2⟩ := PtsAt.at_ hAr hlt
      injection hbb with hbb
      injection hbb with hbb1 hbb2
      subst hbb1 hbb2
      have hp := HO.out.pt l[k + 1] (List.getElem_mem hlt)
      have hd : l.drop (k + 1) = l[k + 1] :: l.drop (k + 1 + 1) := List.drop_eq_getElem_cons hlt
      rw [hd] at HM
      clear hd
      have hsq : ∀ j (hj : j < l.length), j < k + 1 → 0 ≤ l[j].f * l[j].f ∧ l[j].f * l[j].f < l[k + 1].f * l[k + 1].f := fun j hj hjk => HO.out.sq hj hlt hjk
      have HSQ := Lib.hid hsq
      clear hsq
      generalize l[k + 1] = p at *
      obtain ⟨p1, p2, p3, p4, p5⟩ := hp
      have hlt' : (k : Int) + 1 < (l.length : Int) := by omega
      have hkn : ((k : Int) + 1).toNat = k + 1 := by omega
      go_wp2
      go_quiet (fail)
      have hbW : Below wo.heap.size wo ((wo.alloc (.cells #[.int .i64 p.f, .int .i64 p.lo, .int .i64 p.hi] 75)).drewN nq) := (by repeat (first | assumption | exact Below.refl _ _ | refine Below.drew ?_ | (refine below_alloc _ ?_ ?_; focus (first | omega | (simp; done) | (simp; omega) | (simp at *; omega))) | (refine below_set _ ?_ ?_; focus (first | omega | (simp; done) | (simp; omega) | (simp at *; omega))) | refine below_drewN ?_ _ | (refine below_call (by assumption) ?_ ?_; focus (first | omega | (simp; done) | (simp; omega) | (simp at *; omega))) | (refine below_call' (by assumption) ?_ ?_; focus (first | omega | (simp; done) | (simp; omega) | (simp at *; omega)))))
      have f0 : ((wo.alloc (.cells #[.int .i64 p.f, .int .i64 p.lo, .int .i64 p.hi] 75)).drewN nq).cell? ⟨wo.heap.size, 0, none⟩ = some (.int .i64 p.f) := (by repeat (first | assumption | (refine cell_new ?_ rfl; focus (simp; done)) | refine cell_drew ?_ | refine cell_alloc _ ?_ | refine cell_drewN _ ?_ | (refine cell_far ?_ ?_; focus (first | omega | (simp; omega) | (simp; done))) | refine cell_below' (by assumption) ?_))
      have hsW : wo.heap.size < ((wo.alloc (.cells #[.int .i64 p.f, .int .i64 p.lo, .int .i64 p.hi] 75)).drewN nq).heap.size := by simp
      generalize (wo.alloc (.cells #[.int .i64 p.f, .int .i64 p.lo, .int .i64 p.hi] 75)).drewN nq = w1 at *
      replace d0 := cell_below' hbW d0
      replace d1 := cell_below' hbW d1
      replace d2 := cell_below' hbW d2
      replace hAr := hAr.below hbW
      replace hown := own_below hown hbW
      clear e0 e1 c0 c1 c2
      rw [lamGo] at HM
      have hkl : k < l.length := by omega
      have hol : ownLo l an width p0 p k out = posI ((lamA p.f l out (1000 * (p.lo - p0.hi)) - valI an width (k + 1) * idxHi (l[an].f * l[an].f) p.f) / idxHi (l[k].f * l[k].f) p.f) := by
        unfold ownLo; rw [Int.toNat_natCast, fAt_eq hkl, fAt_eq (by omega)]
      have hoh : ownHi l p0 p k out = ceilI (lamB p.f l out (1000 * (p.hi - p0.lo))) (idxLo (l[k].f * l[k].f) p.f) := by
        unfold ownHi; rw [fAt_eq hkl]
      have HOL := Lib.hid hol
      have HOH := Lib.hid hoh
      clear hol hoh
      generalize hA0 : 1000 * (p.lo - p0.hi) = a0 at *
      generalize hB0 : 1000 * (p.hi - p0.lo) = b0 at *
      have ha0 : -20000000 ≤ a0 ∧ a0 ≤ 20000000 := by omega
      have hb0 : -20000000 ≤ b0 ∧ b0 ≤ 20000000 := by omega
      clear hA0 hB0
      obtain ⟨ha01, ha02⟩ := ha0
      obtain ⟨hb01, hb02⟩ := hb0
      go_wp2
      go_loopw [9, 10, 11] (fun a b i wr => ∃ (j : Nat) (av bv : Int), j ≤ k ∧ i = .int .i64 j ∧ a = .int .i64 av ∧ b = .int .i64 bv ∧ lamA p.f l out a0 = lamA p.f (l.drop j) (out.drop j) av ∧ lamB p.f l out b0 = lamB p.f (l.drop j) (out.drop j) bv ∧ -20000000 - j * 60000000000 ≤ av ∧ av ≤ 20000000 ∧ -20000000 - j * 60000000000 ≤ bv ∧ bv ≤ 20000000 ∧ Below w1.heap.size w1 wr) (fun _ _ i _ => k - (intOf i).toNat)
      case atStart => exact ⟨0, a0, b0, Nat.zero_le _, rfl, rfl, rfl, rfl, rfl, by omega, by omega, by omega, by omega, Below.refl _ _⟩
      case round =>
        obtain ⟨j, av, bv, hj, rfl, rfl, rfl, ha, hb', v1, v2, v3, v4, hbx⟩ := hrel
        have HA := Lib.hid ha
        have HB := Lib.hid hb'
        clear ha hb'
        replace f0 := cell_below' hbx f0
        replace d0 := cell_below' hbx d0
        replace d1 := cell_below' hbx d1
        replace d2 := cell_below' hbx d2
        replace hAr := hAr.below hbx
        replace hown := own_below hown hbx
        have hsx := hbx.size
        have z1 : w.heap.size < wr.heap.size := by omega
        have z2 : wo.heap.size < wr.heap.size := by omega
        by_cases hjk : j < k
        · have hjl : j < l.length := by omega
          have hjo : j < out.length := by rw [HLEN.out]; exact hjk
          have hr := HRB.out out[j] (List.getElem_mem hjo)
          rw [List.drop_eq_getElem_cons hjl, List.drop_eq_getElem_cons hjo, lamA] at HA
          rw [List.drop_eq_getElem_cons hjl, List.drop_eq_getElem_cons hjo, lamB] at HB
          have hs := HSQ.out j hjl (by omega)
          have hpj := HO.out.pt l[j] (List.getElem_mem hjl)
          have hcall : ∀ W, PtsAt W (some ⟨b, off, none⟩) l → Calls Try.prog 83 #[.agg #[.slice (some ⟨b, off, none⟩) l.length cap, .int .i64 an, .int .i64 width], .int .i64 j, .int .i64 p.f] W fun e w' => e = .returned (.agg #[.int .i64 (idxLo (l[j].f * l[j].f) p.f), .int .i64 (idxHi (l[j].f * l[j].f) p.f)]) ∧ Below W.heap.size W w' := fun W hW => own_any _ l _ cap j _ _ p.f W hjl rfl hW (by omega) (by omega) hs.2 (by omega) p2
          generalize l[j].f * l[j].f = sq at *
          obtain ⟨s1, s2⟩ := hs
          obtain ⟨r1, r2, r3, r4⟩ := hr
          have l1 := idxLo_bd sq p.f s1 s2 (by omega) p2
          have l2 := idxHi_bd sq p.f s1 s2 (by omega) p2
          have m1 := mul_bd out[j].hi (idxHi sq p.f) 20000 3000000 r3 r4 (by omega) l2.2.2
          have m2 := mul_bd out[j].lo (idxLo sq p.f) 20000 3000000 r1 r2 (by omega) l1.2
          obtain ⟨m11, m12⟩ := m1
          obtain ⟨m21, m22⟩ := m2
          have HC := Lib.hid hcall
          clear hcall hpj l1 l2
          have hjd : decide (j < k) = true := by simpa using hjk
          go_wp2_with (fail)
          refine (HC.out _ hAr).mono ?_
          rintro e w2 ⟨rfl, hb2⟩
          replace hown := own_below hown hb2
          obtain ⟨bo, oo, rfl, hbo, g0, g1⟩ := RngsAt.at_ (rowsAt_of_own hown HLEN.out (by decide)) hjo
          generalize out[j] = r at *
          have hz2 := hb2.size
          have hbr : Below wr.heap.size wr w2 := (by repeat (first | assumption | exact Below.refl _ _ | refine Below.drew ?_ | (refine below_alloc _ ?_ ?_; focus (first | omega | (simp; done) | (simp; omega) | (simp at *; omega))) | (refine below_set _ ?_ ?_; focus (first | omega | (simp; done) | (simp; omega) | (simp at *; omega))) | refine below_drewN ?_ _ | (refine below_call (by assumption) ?_ ?_; focus (first | omega | (simp; done) | (simp; omega) | (simp at *; omega))) | (refine below_call' (by assumption) ?_ ?_; focus (first | omega | (simp; done) | (simp; omega) | (simp at *; omega)))))
          have z3 : w.heap.size < w2.heap.size := by omega
          have z4 : wo.heap.size < w2.heap.size := by omega
          clear HC
          go_wp2_with (fail)
          go_quiet (fail)
          go_wp2
          go_roundw
          case rel => exact ⟨j + 1, _, _, by omega, by go_num, rfl, rfl, HA.out, HB.out, by omega, by omega, by omega, by omega, (by repeat (first | assumption | exact Below.refl _ _ | refine Below.drew ?_ | (refine below_alloc _ ?_ ?_; focus (first | omega | (simp; done) | (simp; omega) | (simp at *; omega))) | (refine below_set _ ?_ ?_; focus (first | omega | (simp; done) | (simp; omega) | (simp at *; omega))) | refine below_drewN ?_ _ | (refine below_call (by assumption) ?_ ?_; focus (first | omega | (simp; done) | (simp; omega) | (simp at *; omega))) | (refine below_call' (by assumption) ?_ ?_; focus (first | omega | (simp; done) | (simp; omega) | (simp at *; omega)))))⟩
          case measure => simp [intOf]; omega
        · obtain rfl : k = j := by omega
          have hdr : out.drop k = [] := List.drop_eq_nil_of_le (by rw [HLEN.out]; omega)
          rw [hdr, lamA_nil] at HA
          rw [hdr, lamB_nil] at HB
          rw [HA.out] at HOL
          rw [HB.out] at HOH HM
          clear hdr HA HB
          have hsk := HSQ.out k hkl (by omega)
          have hpk := HO.out.pt l[k] (List.getElem_mem hkl)
          have hck : ∀ W, PtsAt W (some ⟨b, off, none⟩) l → Calls Try.prog 83 #[.agg #[.slice (some ⟨b, off, none⟩) l.length cap, .int .i64 an, .int .i64 width], .int .i64 k, .int .i64 p.f] W fun e w' => e = .returned (.agg #[.int .i64 (idxLo (l[k].f * l[k].f) p.f), .int .i64 (idxHi (l[k].f * l[k].f) p.f)]) ∧ Below W.heap.size W w' := fun W hW => own_any _ l _ cap k _ _ p.f W hkl rfl hW (by omega) (by omega) hsk.2 (by omega) p2
          by_cases hge : an ≤ k
          focus
            have hsa := HSQ.out an (by omega) (by omega)
            have hpa := HO.out.pt l[an] (List.getElem_mem (by omega))
            have hca : ∀ W, PtsAt W (some ⟨b, off, none⟩) l → Calls Try.prog 83 #[.agg #[.slice (some ⟨b, off, none⟩) l.length cap, .int .i64 an, .int .i64 width], .int .i64 an, .int .i64 p.f] W fun e w' => e = .returned (.agg #[.int .i64 (idxLo (l[an].f * l[an].f) p.f), .int .i64 (idxHi (l[an].f * l[an].f) p.f)]) ∧ Below W.heap.size W w' := fun W hW => own_any _ l _ cap an _ _ p.f W (by omega) rfl hW (by omega) (by omega) hsa.2 (by omega) p2
            have hv1 : valI an width (k + 1) = width := by unfold valI; rw [if_pos (by omega)]
            rw [hv1] at HOL
            have HCK := Lib.hid hck
            have HCA := Lib.hid hca
            clear hck hca hpk hpa hv1
            generalize l[an].f * l[an].f = sqa at *
            generalize l[k].f * l[k].f = sqk at *
            obtain ⟨sk1, sk2⟩ := hsk
            obtain ⟨sa1, sa2⟩ := hsa
            have l2 := idxHi_bd sqa p.f sa1 sa2 (by omega) p2
            have l1 := idxLo_bd sqa p.f sa1 sa2 (by omega) p2
            have m1 := mul_bd width (idxHi sqa p.f) 500 3000000 hw0 hw1 (by omega) l2.2.2
            obtain ⟨m11, m12⟩ := m1
            clear l1 l2
            have hged : (an : Int) ≤ (k : Int) := by omega
            go_wp2_with (fail)
            (refine region_extx 12 (by kernel_rfl) (by kernel_rfl) fun hx => ?_; simp only [List.take_succ_cons, List.take_zero, List.drop_succ_cons, List.drop_zero]; (repeat (any_goals (first | go_big_quiet_step ((go_at_call 83; exact ext_call (HCA.out _ (hAr.below (ext_bel _ _))))) | quiet_step ((go_at_call 83; exact ext_call (HCA.out _ (hAr.below (ext_bel _ _)))))))))
            (refine wpQuiet_nil ?_; clear hx; intro u; have hbw4 := ext_bel _ u; have hxw4 := ext_cell _ u; generalize ext _ u = w4 at *; clear u; have hsw4 := hbw4.size; (try simp at hsw4))
            have ha2 : -1000000000000 ≤ av - width * idxHi sqa p.f ∧ av - width * idxHi sqa p.f ≤ 20000000 := by omega
            generalize av - width * idxHi sqa p.f = a2 at *
            (by_cases hbn : bv < 0; (focus (rw [if_pos hbn] at HM; go_wp2; go_ret3; unfold LamPost; rw [HM.out]; exact ⟨none, 0, rfl, World.ownsRow_nil _ _ _ _, (by repeat (first | assumption | exact Below.refl _ _ | refine Below.drew ?_ | (refine below_alloc _ ?_ ?_; focus (first | omega | (simp; done) | (simp; omega) | (simp at *; omega))) | (refine below_set _ ?_ ?_; focus (first | omega | (simp; done) | (simp; omega) | (simp at *; omega))) | refine below_drewN ?_ _ | (refine below_call (by assumption) ?_ ?_; focus (first | omega | (simp; done) | (simp; omega) | (simp at *; omega))) | (refine below_call' (by assumption) ?_ ?_; focus (first | omega | (simp; done) | (simp; omega) | (simp at *; omega)))))⟩)); have hbd : decide (bv < 0) = false := (by simpa using hbn); rw [if_neg hbn] at HM)
            replace f0 := cell_below' hbw4 f0
            replace d0 := cell_below' hbw4 d0
            replace d1 := cell_below' hbw4 d1
            replace d2 := cell_below' hbw4 d2
            replace hAr := hAr.below hbw4
            replace hown := own_below hown hbw4
            have z5 : w.heap.size < w4.heap.size := by omega
            have z6 : wo.heap.size < w4.heap.size := by omega
            have hbo : Below wo.heap.size wo w4 := (by repeat (first | assumption | exact Below.refl _ _ | refine Below.drew ?_ | (refine below_alloc _ ?_ ?_; focus (first | omega | (simp; done) | (simp; omega) | (simp at *; omega))) | (refine below_set _ ?_ ?_; focus (first | omega | (simp; done) | (simp; omega) | (simp at *; omega))) | refine below_drewN ?_ _ | (refine below_call (by assumption) ?_ ?_; focus (first | omega | (simp; done) | (simp; omega) | (simp at *; omega))) | (refine below_call' (by assumption) ?_ ?_; focus (first | omega | (simp; done) | (simp; omega) | (simp at *; omega)))))
            go_wp2_with (fail)
            clear hbw4 hbx hbW hxw4 HCA
          rotate_left 1
          focus
            have hv0 : valI an width (k + 1) = 0 := by unfold valI; rw [if_neg (by omega)]
            rw [hv0, Int.zero_mul, Int.sub_zero] at HOL
            have HCK := Lib.hid hck
            clear hck hpk hv0
            generalize l[k].f * l[k].f = sqk at *
            obtain ⟨sk1, sk2⟩ := hsk
            have hged : ¬ (an : Int) ≤ (k : Int) := by omega
            have hged' : (k : Int) < (an : Int) := by omega
            have ha2 : -1000000000000 ≤ av ∧ av ≤ 20000000 := by omega
            (by_cases hbn : bv < 0; (focus (rw [if_pos hbn] at HM; go_wp2; go_ret3; unfold LamPost; rw [HM.out]; exact ⟨none, 0, rfl, World.ownsRow_nil _ _ _ _, (by repeat (first | assumption | exact Below.refl _ _ | refine Below.drew ?_ | (refine below_alloc _ ?_ ?_; focus (first | omega | (simp; done) | (simp; omega) | (simp at *; omega))) | (refine below_set _ ?_ ?_; focus (first | omega | (simp; done) | (simp; omega) | (simp at *; omega))) | refine below_drewN ?_ _ | (refine below_call (by assumption) ?_ ?_; focus (first | omega | (simp; done) | (simp; omega) | (simp at *; omega))) | (refine below_call' (by assumption) ?_ ?_; focus (first | omega | (simp; done) | (simp; omega) | (simp at *; omega)))))⟩)); have hbd : decide (bv < 0) = false := (by simpa using hbn); rw [if_neg hbn] at HM)
            go_wp2_with (fail)
            have hbo : Below wo.heap.size wo wr := (by repeat (first | assumption | exact Below.refl _ _ | refine Below.drew ?_ | (refine below_alloc _ ?_ ?_; focus (first | omega | (simp; done) | (simp; omega) | (simp at *; omega))) | (refine below_set _ ?_ ?_; focus (first | omega | (simp; done) | (simp; omega) | (simp at *; omega))) | refine below_drewN ?_ _ | (refine below_call (by assumption) ?_ ?_; focus (first | omega | (simp; done) | (simp; omega) | (simp at *; omega))) | (refine below_call' (by assumption) ?_ ?_; focus (first | omega | (simp; done) | (simp; omega) | (simp at *; omega)))))
            clear hbx hbW hsx
            obtain ⟨w4, rfl⟩ : ∃ w4, w4 = wr := ⟨_, rfl⟩
            obtain ⟨a2, rfl⟩ : ∃ a2, a2 = av := ⟨_, rfl⟩
            have z5 : w.heap.size < w4.heap.size := by omega
            have z6 : wo.heap.size < w4.heap.size := by omega
          all_goals
            obtain ⟨a21, a22⟩ := ha2
            have l2 := idxHi_bd sqk p.f sk1 sk2 (by omega) p2
            have l1 := idxLo_bd sqk p.f sk1 sk2 (by omega) p2
            have hob := @own_bd a2 bv (idxLo sqk p.f) (idxHi sqk p.f) a22 (by omega) v4 l1.1 (by omega)
            have hmd := max_div (a := a2) (oh := idxHi sqk p.f) (by omega)
            obtain ⟨l11, l12⟩ := l1
            obtain ⟨l21, l22, l23⟩ := l2
            have HOB := Lib.hid hob
            have HMD := Lib.hid hmd
            clear hob hmd
            have hm : 0 ≤ (if a2 < 0 then 0 else a2) ∧ (if a2 < 0 then 0 else a2) ≤ 20000000 := by split <;> omega
            obtain ⟨hm1, hm2⟩ := hm
            refine (HCK.out _ hAr).mono ?_
            rintro e w5 ⟨rfl, hb5⟩
            replace f0 := cell_below' hb5 f0
            replace d0 := cell_below' hb5 d0
            replace d1 := cell_below' hb5 d1
            replace d2 := cell_below' hb5 d2
            replace hown := own_below hown hb5
            have z7 : w.heap.size < w5.heap.size := by have := hb5.size; omega
            have z8 : wo.heap.size < w5.heap.size := by have := hb5.size; omega
            replace hbo : Below wo.heap.size wo w5 := (by repeat (first | assumption | exact Below.refl _ _ | refine Below.drew ?_ | (refine below_alloc _ ?_ ?_; focus (first | omega | (simp; done) | (simp; omega) | (simp at *; omega))) | (refine below_set _ ?_ ?_; focus (first | omega | (simp; done) | (simp; omega) | (simp at *; omega))) | refine below_drewN ?_ _ | (refine below_call (by assumption) ?_ ?_; focus (first | omega | (simp; done) | (simp; omega) | (simp at *; omega))) | (refine below_call' (by assumption) ?_ ?_; focus (first | omega | (simp; done) | (simp; omega) | (simp at *; omega)))))
            clear hb5
            go_wp2_with (fail)
            (refine region_alloc (T := ?_) (obj := (.cells #[.int .i64 ((if a2 < 0 then 0 else a2) / idxHi sqk p.f), .int .i64 (ceilI bv (idxLo sqk p.f))] 32)) (val := (fun nb => .slice (some ⟨nb, 0, none⟩) 1 1)) 11 113 (by kernel_rfl) (by kernel_rfl) rfl rfl rfl (Nat.le_of_ble_eq_true rfl) ?_ ?_ ?_; rotate_left 1)
            focus (intro W0 hB0 hx; simp only [List.take_succ_cons, List.take_zero]; (repeat (any_goals (first | go_big_quiet_step (first | (go_at_call 72; exact ext_same (Floor_any _ _ _ (by omega) (by omega) (by omega) (by omega))) | (go_at_call 73; exact ext_same (Ceil_any _ _ _ (by omega) (by omega) (by omega) (by omega)))) | quiet_step (first | (go_at_call 72; exact ext_same (Floor_any _ _ _ (by omega) (by omega) (by omega) (by omega))) | (go_at_call 73; exact ext_same (Ceil_any _ _ _ (by omega) (by omega) (by omega) (by omega))))))); refine wpQuiet_nil ?_; exact rfl)
            focus (intro W; go_simp; done)
            (intro W0 w7 hB0 hB1; obtain ⟨hbw7, hnw7, hsw7, hkw7⟩ := alloc_out hB0 hB1; clear hB0 hB1; simp only [List.drop_succ_cons, List.drop_zero]; generalize W0.heap.size = nb2 at *; clear W0)
            rw [HMD.out] at hkw7
            have hb47 : Below wo.heap.size wo w7 := (by repeat (first | assumption | exact Below.refl _ _ | refine Below.drew ?_ | (refine below_alloc _ ?_ ?_; focus (first | omega | (simp; done) | (simp; omega) | (simp at *; omega))) | (refine below_set _ ?_ ?_; focus (first | omega | (simp; done) | (simp; omega) | (simp at *; omega))) | refine below_drewN ?_ _ | (refine below_call (by assumption) ?_ ?_; focus (first | omega | (simp; done) | (simp; omega) | (simp at *; omega))) | (refine below_call' (by assumption) ?_ ?_; focus (first | omega | (simp; done) | (simp; omega) | (simp at *; omega)))))
            have hz7 := hb47.size
            have hrow := rows_one hkw7
            refine wpList_appRange w7 rfl (.tmp 102) (.tmp 113) rfl (w.heap.size + 2) A' k c' (cellsOf 2 rngC out) rfl (own_below (hown.alloc _) hbw7) (some ⟨nb2, 0, none⟩) 1 1 (cellsOf 2 rngC [⟨posI (a2 / idxHi sqk p.f), ceilI bv (idxLo sqk p.f)⟩]) rfl rfl (fun e => by cases e) (fun ad e => by cases e; exact RowsAt.news hrow (by decide)) (cellsOf_one rngC_one (by decide) _) (by omega) (by omega) ?_
            intro A'' c'' w8 hown8 hg halt
            rw [← cellsOf_append] at hown8
            have hb8 : Below (w.heap.size + 2) _ w8 := below_own (hbw.trans (hb47.mono (by omega))) hg (own_below (hown.alloc _) hbw7) (Nat.le_refl _) (by omega)
            rw [HOL.out, HOH.out] at HM
            clear hg halt hown
            go_wp2
            go_roundw
            case rel => exact ⟨k + 1, _, A'', c'', by omega, by go_num, rfl, by simp [HLEN.out], RB.snoc HRB.out HOB.out, hown8, HM.out, hb8⟩
            case measure => simp [intOf]; omega
    · have hlt' : ¬ (k : Int) + 1 < (l.length : Int) := by omega
      have hd : l.drop (k + 1) = [] := List.drop_eq_nil_of_le (by omega)
      rw [hd, lamGo] at HM
      clear hd d1 d2 e0 e1
      go_wp2
      go_ret3
      have hk2 := HLEN.out
      subst hk2
      unfold LamPost
      rw [HM.out]
      exact ⟨A', c', rfl, own_mono hown (by omega), (by repeat (first | assumption | exact Below.refl _ _ | refine Below.drew ?_ | (refine below_alloc _ ?_ ?_; focus (first | omega | (simp; done) | (simp; omega) | (simp at *; omega))) | (refine below_set _ ?_ ?_; focus (first | omega | (simp; done) | (simp; omega) | (simp at *; omega))) | refine below_drewN ?_ _ | (refine below_call (by assumption) ?_ ?_; focus (first | omega | (simp; done) | (simp; omega) | (simp at *; omega))) | (refine below_call' (by assumption) ?_ ?_; focus (first | omega | (simp; done) | (simp; omega) | (simp at *; omega)))))⟩
end Go.Proofs.Ytoegpaolbkcleaa
