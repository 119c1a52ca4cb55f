/-
  The reference's true heights of the points of a trace.
-/
import Derived.Test.YtoegpaolbkcleaaHts
namespace Go.Proofs.Ytoegpaolbkcleaa
open Go.ChangeShapes Go.WideShapes Go.ChangeAt Go.RowKit
set_option linter.unusedVariables false
set_option linter.unusedSimpArgs false

def RHtsPost (l : List Pt) (after width : Int) (sl : List Rng) (w : World) (e : Ending) (w' : World) : Prop :=
  ∃ A' c', e = .returned (.slice A' (hts l after width sl).length c') ∧ w'.ownsRow w.heap.size 32 2 (.slice A' (hts l after width sl).length c') (hts l after width sl).length (cellsOf 2 rngC (hts l after width sl)) ∧ Below w.heap.size w w'

set_option maxRecDepth 100000 in
set_option maxHeartbeats 2000000 in
theorem RHeightsOf_any (A : Option Addr) (l : List Pt) (cap : Nat) (after width : Int) (B : Option Addr) (sl : List Rng) (capB : Nat) (w : World) (hO : OkT l after width) (hRB : RB sl) (h8 : sl.length ≤ 8) (hA : PtsAt w A l) (hB : RngsAt w B sl) :
    Calls Try.prog 35 #[.agg #[.slice A l.length cap, .int .i64 after, .int .i64 width], .slice B sl.length capB] w (RHtsPost l after width sl w) := by
  have hn0 := hO.n0
  have hn1 := hO.n1
  have hw0 := hO.w0
  have hw1 := hO.w1
  have hp0 := hO.pt l[0] (List.getElem_mem hn0)
  have hg : hts l after width sl = htA after width sl 0 l[0].lo l[0].hi [⟨l[0].lo, l[0].hi⟩] := by unfold hts; rw [List.getD_eq_getElem?_getD, List.getElem?_eq_getElem hn0]; rfl
  have HV := Lib.hid hg
  have HRB := Lib.hid hRB
  clear hg hO hRB
  obtain ⟨b, off, rfl, hb, c0, c1, c2⟩ := PtsAt.at_ hA hn0
  generalize l[0] = p0 at *
  simp only [Nat.zero_mul, Nat.add_zero] at c0 c1 c2
  obtain ⟨q1', q2', q3', q4', q5'⟩ := hp0
  go_enter Try.func35, Try.ntmps35
  go_wp2
  have hv : (w.alloc (.cells #[.slice (some ⟨b, off, none⟩) l.length cap, .int .i64 after, .int .i64 width] 53)).heap.size = w.heap.size + 1 := by simp
  have k0 : (w.alloc (.cells #[.slice (some ⟨b, off, none⟩) l.length cap, .int .i64 after, .int .i64 width] 53)).cell? ⟨w.heap.size, 0, none⟩ = some (.slice (some ⟨b, off, none⟩) l.length cap) := (by repeat (first | assumption | (refine cell_new ?_ rfl; focus (simp; done)) | refine cell_drew ?_ | refine cell_alloc _ ?_ | refine cell_drewN _ ?_ | (refine cell_far ?_ ?_; focus (first | omega | (simp; omega) | (simp; done))) | refine cell_below' (by assumption) ?_))
  have k1 : (w.alloc (.cells #[.slice (some ⟨b, off, none⟩) l.length cap, .int .i64 after, .int .i64 width] 53)).cell? ⟨w.heap.size, 1, none⟩ = some (.int .i64 after) := (by repeat (first | assumption | (refine cell_new ?_ rfl; focus (simp; done)) | refine cell_drew ?_ | refine cell_alloc _ ?_ | refine cell_drewN _ ?_ | (refine cell_far ?_ ?_; focus (first | omega | (simp; omega) | (simp; done))) | refine cell_below' (by assumption) ?_))
  have k2 : (w.alloc (.cells #[.slice (some ⟨b, off, none⟩) l.length cap, .int .i64 after, .int .i64 width] 53)).cell? ⟨w.heap.size, 2, none⟩ = some (.int .i64 width) := (by repeat (first | assumption | (refine cell_new ?_ rfl; focus (simp; done)) | refine cell_drew ?_ | refine cell_alloc _ ?_ | refine cell_drewN _ ?_ | (refine cell_far ?_ ?_; focus (first | omega | (simp; omega) | (simp; done))) | refine cell_below' (by assumption) ?_))
  have hbv : Below w.heap.size w (w.alloc (.cells #[.slice (some ⟨b, off, none⟩) l.length cap, .int .i64 after, .int .i64 width] 53)) := (by repeat (first | assumption | exact Below.refl _ _ | refine Below.drew ?_ | (refine below_alloc _ ?_ ?_; focus (first | omega | (simp; done) | (simp; omega) | (simp at *; omega))) | (refine below_set _ ?_ ?_; focus (first | omega | (simp; done) | (simp; omega) | (simp at *; omega))) | refine below_drewN ?_ _ | (refine below_call (by assumption) ?_ ?_; focus (first | omega | (simp; done) | (simp; omega) | (simp at *; omega))) | (refine below_call' (by assumption) ?_ ?_; focus (first | omega | (simp; done) | (simp; omega) | (simp at *; omega)))))
  rw [← hv]
  generalize (w.alloc (.cells #[.slice (some ⟨b, off, none⟩) l.length cap, .int .i64 after, .int .i64 width] 53)) = v at *
  have hR := RowsAt.below hB hbv
  have hzv : w.heap.size < v.heap.size := by omega
  clear hA hB hb c0 c1 c2 hv
  go_loopw [6, 7] (fun o i wr => ∃ (k : Nat) (lo hi : Int) (out : List Rng) (A'' : Option Addr) (c'' : Nat), k ≤ sl.length ∧ i = .int .i64 k ∧ o = .slice A'' (k + 1) c'' ∧ out.length = k + 1 ∧ hts l after width sl = htA after width (sl.drop k) k lo hi out ∧ (0 ≤ lo ∧ lo ≤ 20000 + 20000 * k ∧ 0 ≤ hi ∧ hi ≤ 20000 + 20000 * k) ∧ wr.cell? ⟨v.heap.size, 0, none⟩ = some (.int .i64 lo) ∧ wr.cell? ⟨v.heap.size, 1, none⟩ = some (.int .i64 hi) ∧ wr.frozen? ⟨v.heap.size, 0, none⟩ = false ∧ wr.frozen? ⟨v.heap.size, 1, none⟩ = false ∧ wr.ownsRow (v.heap.size + 1) 32 2 (.slice A'' (k + 1) c'') (k + 1) (cellsOf 2 rngC out) ∧ Below v.heap.size v wr ∧ v.heap.size < wr.heap.size) (fun _ i _ => sl.length - (intOf i).toNat)
  case atStart => exact ⟨0, p0.lo, p0.hi, [⟨p0.lo, p0.hi⟩], _, _, Nat.zero_le _, rfl, rfl, rfl, HV.out, ⟨by omega, by omega, by omega, by omega⟩, (by repeat (first | assumption | (refine cell_new ?_ rfl; focus (simp; done)) | refine cell_drew ?_ | refine cell_alloc _ ?_ | refine cell_drewN _ ?_ | (refine cell_far ?_ ?_; focus (first | omega | (simp; omega) | (simp; done))) | refine cell_below' (by assumption) ?_)), (by repeat (first | assumption | (refine cell_new ?_ rfl; focus (simp; done)) | refine cell_drew ?_ | refine cell_alloc _ ?_ | refine cell_drewN _ ?_ | (refine cell_far ?_ ?_; focus (first | omega | (simp; omega) | (simp; done))) | refine cell_below' (by assumption) ?_)), (by repeat (first | assumption | (refine frozen_new ?_; focus (simp; done)) | refine frozen_drew ?_ | (refine frozen_alloc _ ?_ ?_; focus (first | (simp; done) | (simp; omega))) | refine frozen_drewN _ ?_ | refine frozen_set _ _ ?_ | (refine frozen_below (by assumption) ?_ ?_; focus (first | (simp; done) | (simp; omega))))), (by repeat (first | assumption | (refine frozen_new ?_; focus (simp; done)) | refine frozen_drew ?_ | (refine frozen_alloc _ ?_ ?_; focus (first | (simp; done) | (simp; omega))) | refine frozen_drewN _ ?_ | refine frozen_set _ _ ?_ | (refine frozen_below (by assumption) ?_ ?_; focus (first | (simp; done) | (simp; omega))))), own_row1 (by simp) (blk_new (by simp)), (by repeat (first | assumption | exact Below.refl _ _ | refine Below.drew ?_ | (refine below_alloc _ ?_ ?_; focus (first | omega | (simp; done) | (simp; omega) | (simp at *; omega))) | (refine below_set _ ?_ ?_; focus (first | omega | (simp; done) | (simp; omega) | (simp at *; omega))) | refine below_drewN ?_ _ | (refine below_call (by assumption) ?_ ?_; focus (first | omega | (simp; done) | (simp; omega) | (simp at *; omega))) | (refine below_call' (by assumption) ?_ ?_; focus (first | omega | (simp; done) | (simp; omega) | (simp at *; omega))))), by simp; omega⟩
  case round =>
    obtain ⟨k, lo, hi, out, A'', c'', hk, rfl, rfl, hlen, hh, hbd, s0, s1, y0, y1, hown, hbw, hsz⟩ := hrel
    obtain ⟨b1, b2, b3, b4⟩ := hbd
    have HM := Lib.hid hh
    have HLEN := Lib.hid hlen
    clear hh hlen
    have hz4 : w.heap.size < wr.heap.size := by omega
    by_cases hlt : k < sl.length
    · obtain ⟨bb, oo, rfl, hbb, e0, e1⟩ := RngsAt.at_ (RowsAt.below hR hbw) hlt
      have hr := HRB.out sl[k] (List.getElem_mem hlt)
      rw [List.drop_eq_getElem_cons hlt, htA] at HM
      generalize sl[k] = r at *
      obtain ⟨r1, r2, r3, r4⟩ := hr
      replace k0 := cell_below' hbw k0
      replace k1 := cell_below' hbw k1
      replace k2 := cell_below' hbw k2
      have hne1 : ¬ w.heap.size = v.heap.size := by omega
      have hne2 : ¬ v.heap.size = w.heap.size := by omega
      go_wp2_with (fail)
      (refine region_extx 17 (by kernel_rfl) (by kernel_rfl) fun hx => ?_; simp only [List.take_succ_cons, List.take_zero, List.drop_succ_cons, List.drop_zero]; (repeat (any_goals (first | go_big_quiet_step (fail) | quiet_step (fail)))))
      (refine wpQuiet_nil ?_; clear hx; intro u; have hbw3 := ext_bel _ u; have hxw3 := ext_cell _ u; generalize ext _ u = w3 at *; clear u; have hsw3 := hbw3.size; (try simp at hsw3))
      replace k0 := cell_below' hbw3 k0
      replace k1 := cell_below' hbw3 k1
      replace k2 := cell_below' hbw3 k2
      replace s0 := cell_below' hbw3 s0
      replace s1 := cell_below' hbw3 s1
      replace y0 := frozen_below hbw3 (show _ from hsz) y0
      replace y1 := frozen_below hbw3 (show _ from hsz) y1
      have hlt2 := hown.lt
      replace hown := own_below hown hbw3
      have hb3 : Below v.heap.size v w3 := hbw.trans (hbw3.mono (by omega))
      have hz5 : w.heap.size < w3.heap.size := by omega
      have hz6 : v.heap.size < w3.heap.size := by omega
      clear hxw3 hbw3 hbw e0 e1
      have hown3 := ownsRow_setCell_below (ownsRow_setCell_below hown (a := ⟨v.heap.size, 0, none⟩) (by simp) (.int .i64 (lo + r.lo))) (a := ⟨v.heap.size, 1, none⟩) (by simp) (.int .i64 (hi + r.hi))
      obtain ⟨x0, x1⟩ := set2 (w := w3) (u := .int .i64 (lo + r.lo)) (v := .int .i64 (hi + r.hi)) s0 s1
      have hve : valI after width (k + 1) = if after < ((k + 1 : Nat) : Int) then width else 0 := rfl
      by_cases hge : after ≤ (k : Int)
      · rw [if_pos (by omega)] at hve
        rw [hve] at HM
        clear hve
        have hn1' : some v.heap.size ≠ Value.ownBlock (.slice A'' (k + 1) c'') := fun e => by have := hlt2 _ e.symm; omega
        have hbW : Below v.heap.size v ((((w3.setCell ⟨v.heap.size, 0, none⟩ (.int .i64 (lo + r.lo))).setCell ⟨v.heap.size, 1, none⟩ (.int .i64 (hi + r.hi))).alloc (.cells #[.int .i64 (lo + r.lo), .int .i64 (hi + r.hi + width)] 32)).alloc (.cells #[.int .i64 (lo + r.lo), .int .i64 (hi + r.hi + width)] 32)) := (by repeat (first | assumption | exact Below.refl _ _ | refine Below.drew ?_ | (refine below_alloc _ ?_ ?_; focus (first | omega | (simp; done) | (simp; omega) | (simp at *; omega))) | (refine below_set _ ?_ ?_; focus (first | omega | (simp; done) | (simp; omega) | (simp at *; omega))) | refine below_drewN ?_ _ | (refine below_call (by assumption) ?_ ?_; focus (first | omega | (simp; done) | (simp; omega) | (simp at *; omega))) | (refine below_call' (by assumption) ?_ ?_; focus (first | omega | (simp; done) | (simp; omega) | (simp at *; omega)))))
        go_wp2_with (at_builtin; refine wpList_appRange _ rfl (.tmp 50) (.tmp 52) rfl (v.heap.size + 1) A'' (k + 1) c'' (cellsOf 2 rngC out) rfl ((hown3.alloc _).alloc _) (some ⟨w3.heap.size + 1, 0, none⟩) 1 1 (cellsOf 2 rngC [⟨lo + r.lo, hi + r.hi + width⟩]) rfl rfl (fun e => by cases e) (fun ad e => by cases e; exact RowsAt.news (rows_blk (blk_new (by simp)) rfl) (by decide)) (cellsOf_one rngC_one (by decide) _) (by omega) (by simp; omega) ?_; intro A4 c5 w5 hown5 hg halt; rw [← cellsOf_append] at hown5; have hz7 := hg.size; simp at hz7; have hb5 : Below v.heap.size v w5 := below_own hbW hg ((hown3.alloc _).alloc _) (by omega) (by simp; omega); have u0 := cell_grown hg (cell_alloc _ (cell_alloc _ x0)) hn1'; have u1 := cell_grown hg (cell_alloc _ (cell_alloc _ x1)) hn1'; have uy0 := frozen_grown hg (frozen_alloc _ (by simp; omega) (frozen_alloc _ (by simp; omega) (frozen_set _ _ (frozen_set _ _ y0)))) (by simp; omega) hn1'; have uy1 := frozen_grown hg (frozen_alloc _ (by simp; omega) (frozen_alloc _ (by simp; omega) (frozen_set _ _ (frozen_set _ _ y1)))) (by simp; omega) hn1'; clear hg halt hown hown3 hbW s0 s1 y0 y1 x0 x1 hn1')
        go_roundw
        case rel => exact ⟨k + 1, _, _, _, A4, c5, by omega, by go_num, rfl, by simp [HLEN.out], HM.out, ⟨by omega, by omega, by omega, by omega⟩, u0, u1, uy0, uy1, hown5, hb5, by omega⟩
        case measure => simp [intOf]; omega
      · rw [if_neg (by omega)] at hve
        rw [hve] at HM
        clear hve
        rw [Int.add_zero] at HM
        have hge' : (k : Int) < after := by omega
        have hn1' : some v.heap.size ≠ Value.ownBlock (.slice A'' (k + 1) c'') := fun e => by have := hlt2 _ e.symm; omega
        have hbW : Below v.heap.size v ((((w3.setCell ⟨v.heap.size, 0, none⟩ (.int .i64 (lo + r.lo))).setCell ⟨v.heap.size, 1, none⟩ (.int .i64 (hi + r.hi))).alloc (.cells #[.int .i64 (lo + r.lo), .int .i64 (hi + r.hi)] 32)).alloc (.cells #[.int .i64 (lo + r.lo), .int .i64 (hi + r.hi)] 32)) := (by repeat (first | assumption | exact Below.refl _ _ | refine Below.drew ?_ | (refine below_alloc _ ?_ ?_; focus (first | omega | (simp; done) | (simp; omega) | (simp at *; omega))) | (refine below_set _ ?_ ?_; focus (first | omega | (simp; done) | (simp; omega) | (simp at *; omega))) | refine below_drewN ?_ _ | (refine below_call (by assumption) ?_ ?_; focus (first | omega | (simp; done) | (simp; omega) | (simp at *; omega))) | (refine below_call' (by assumption) ?_ ?_; focus (first | omega | (simp; done) | (simp; omega) | (simp at *; omega)))))
        go_wp2_with (at_builtin; refine wpList_appRange _ rfl (.tmp 50) (.tmp 52) rfl (v.heap.size + 1) A'' (k + 1) c'' (cellsOf 2 rngC out) rfl ((hown3.alloc _).alloc _) (some ⟨w3.heap.size + 1, 0, none⟩) 1 1 (cellsOf 2 rngC [⟨lo + r.lo, hi + r.hi⟩]) rfl rfl (fun e => by cases e) (fun ad e => by cases e; exact RowsAt.news (rows_blk (blk_new (by simp)) rfl) (by decide)) (cellsOf_one rngC_one (by decide) _) (by omega) (by simp; omega) ?_; intro A4 c5 w5 hown5 hg halt; rw [← cellsOf_append] at hown5; have hz7 := hg.size; simp at hz7; have hb5 : Below v.heap.size v w5 := below_own hbW hg ((hown3.alloc _).alloc _) (by omega) (by simp; omega); have u0 := cell_grown hg (cell_alloc _ (cell_alloc _ x0)) hn1'; have u1 := cell_grown hg (cell_alloc _ (cell_alloc _ x1)) hn1'; have uy0 := frozen_grown hg (frozen_alloc _ (by simp; omega) (frozen_alloc _ (by simp; omega) (frozen_set _ _ (frozen_set _ _ y0)))) (by simp; omega) hn1'; have uy1 := frozen_grown hg (frozen_alloc _ (by simp; omega) (frozen_alloc _ (by simp; omega) (frozen_set _ _ (frozen_set _ _ y1)))) (by simp; omega) hn1'; clear hg halt hown hown3 hbW s0 s1 y0 y1 x0 x1 hn1')
        go_roundw
        case rel => exact ⟨k + 1, _, _, _, A4, c5, by omega, by go_num, rfl, by simp [HLEN.out], HM.out, ⟨by omega, by omega, by omega, by omega⟩, u0, u1, uy0, uy1, hown5, hb5, by omega⟩
        case measure => simp [intOf]; omega
    · obtain rfl : k = sl.length := by omega
      rw [List.drop_length, htA] at HM
      go_wp2
      go_ret
      have hk2 := HLEN.out
      unfold RHtsPost
      rw [HM.out, hk2]
      exact ⟨A'', c'', rfl, own_mono hown (by omega), (by repeat (first | assumption | exact Below.refl _ _ | refine Below.drew ?_ | (refine below_alloc _ ?_ ?_; focus (first | omega | (simp; done) | (simp; omega) | (simp at *; omega))) | (refine below_set _ ?_ ?_; focus (first | omega | (simp; done) | (simp; omega) | (simp at *; omega))) | refine below_drewN ?_ _ | (refine below_call (by assumption) ?_ ?_; focus (first | omega | (simp; done) | (simp; omega) | (simp at *; omega))) | (refine below_call' (by assumption) ?_ ?_; focus (first | omega | (simp; done) | (simp; omega) | (simp at *; omega)))))⟩
end Go.Proofs.Ytoegpaolbkcleaa
