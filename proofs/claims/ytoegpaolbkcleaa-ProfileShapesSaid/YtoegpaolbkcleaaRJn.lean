/-
  The joined profile: the reference's.
-/
import Derived.Test.YtoegpaolbkcleaaJnd
import Derived.Test.YtoegpaolbkcleaaLam
namespace Go.Proofs.Ytoegpaolbkcleaa
open Go.ChangeShapes Go.WideShapes Go.ChangeAt Go.RowKit
set_option linter.unusedVariables false
set_option linter.unusedSimpArgs false

def RJndPost (base : Int) (l : List Slb) (w : World) (e : Ending) (w' : World) : Prop :=
  ∃ A' c', e = .returned (.agg #[.int .i64 base, .slice A' (jnd l).length c']) ∧ w'.ownsRow w.heap.size 45 2 (.slice A' (jnd l).length c') (jnd l).length (cellsOf 2 slbC (jnd l)) ∧ Below w.heap.size w w'

set_option maxRecDepth 100000 in
set_option maxHeartbeats 4000000 in
theorem RJoined_any (base : Int) (A : Option Addr) (l : List Slb) (cap : Nat) (w : World) (ho : Ok base l) (hA : SlabsAt w A l) :
    Calls Try.prog 63 #[.agg #[.int .i64 base, .slice A l.length cap]] w (RJndPost base l w) := by
  have HO := Lib.hid ho
  have hn0 := ho.n0
  have hn1 := ho.n1
  clear ho
  obtain ⟨bb, off, rfl, hb, f0, f1⟩ := SlabsAt.at_ hA hn0
  clear f0 f1
  go_enter Try.func63, Try.ntmps63
  go_wp2
  have hv : ((w.alloc (.cells #[.int .i64 base, .slice (some ⟨bb, off, none⟩) l.length cap] 24)).alloc (.cells #[.int .i64 0, .slice none 0 0] 24)).heap.size = w.heap.size + 1 + 1 := by simp
  have K1 : ((w.alloc (.cells #[.int .i64 base, .slice (some ⟨bb, off, none⟩) l.length cap] 24)).alloc (.cells #[.int .i64 0, .slice none 0 0] 24)).cell? ⟨w.heap.size, 1, none⟩ = some (.slice (some ⟨bb, off, none⟩) l.length cap) := cell_alloc _ (cell_new rfl rfl)
  have C0 : ((w.alloc (.cells #[.int .i64 base, .slice (some ⟨bb, off, none⟩) l.length cap] 24)).alloc (.cells #[.int .i64 0, .slice none 0 0] 24)).cell? ⟨w.heap.size + 1, 0, none⟩ = some (.int .i64 0) := cell_new (by simp) rfl
  have C1 : ((w.alloc (.cells #[.int .i64 base, .slice (some ⟨bb, off, none⟩) l.length cap] 24)).alloc (.cells #[.int .i64 0, .slice none 0 0] 24)).cell? ⟨w.heap.size + 1, 1, none⟩ = some (.slice none 0 0) := cell_new (by simp) rfl
  have G0 : ((w.alloc (.cells #[.int .i64 base, .slice (some ⟨bb, off, none⟩) l.length cap] 24)).alloc (.cells #[.int .i64 0, .slice none 0 0] 24)).frozen? ⟨w.heap.size + 1, 0, none⟩ = false := frozen_new (by simp)
  have G1 : ((w.alloc (.cells #[.int .i64 base, .slice (some ⟨bb, off, none⟩) l.length cap] 24)).alloc (.cells #[.int .i64 0, .slice none 0 0] 24)).frozen? ⟨w.heap.size + 1, 1, none⟩ = false := frozen_new (by simp)
  have hbv : Below w.heap.size w ((w.alloc (.cells #[.int .i64 base, .slice (some ⟨bb, off, none⟩) l.length cap] 24)).alloc (.cells #[.int .i64 0, .slice none 0 0] 24)) := (by repeat (first | assumption | exact Below.refl _ _ | refine Below.drew ?_ | (refine below_alloc _ ?_ ?_; focus (first | omega | (simp; done) | (simp; omega) | (simp at *; omega))) | (refine below_set _ ?_ ?_; focus (first | omega | (simp; done) | (simp; omega) | (simp at *; omega))) | refine below_drewN ?_ _ | (refine below_call (by assumption) ?_ ?_; focus (first | omega | (simp; done) | (simp; omega) | (simp at *; omega))) | (refine below_call' (by assumption) ?_ ?_; focus (first | omega | (simp; done) | (simp; omega) | (simp at *; omega)))))
  rw [← hv]
  generalize ((w.alloc (.cells #[.int .i64 base, .slice (some ⟨bb, off, none⟩) l.length cap] 24)).alloc (.cells #[.int .i64 0, .slice none 0 0] 24)) = v1 at *
  have hs2 : w.heap.size + 1 < v1.heap.size := by omega
  have hs0 : w.heap.size < v1.heap.size := by omega
  have AV : SlabsAt v1 (some ⟨bb, off, none⟩) l := RowsAt.below hA hbv
  clear hv hb
  go_loopw [4] (fun i wr => ∃ (k : Nat) (out : List Slb) (n : Nat) (A' : Option Addr) (c' : Nat), k ≤ l.length ∧ i = .int .i64 k ∧ JB out ∧ out.length = n ∧ n ≤ k ∧ jnGo l [] = jnGo (l.drop k) out ∧ wr.cell? ⟨v1.heap.size, 0, none⟩ = some (.int .i64 base) ∧ wr.cell? ⟨v1.heap.size, 1, none⟩ = some (.slice A' n c') ∧ wr.frozen? ⟨v1.heap.size, 0, none⟩ = false ∧ wr.frozen? ⟨v1.heap.size, 1, none⟩ = false ∧ wr.ownsRow (v1.heap.size + 1) 45 2 (.slice A' n c') n (cellsOf 2 slbC out) ∧ Below v1.heap.size v1 wr ∧ v1.heap.size < wr.heap.size) (fun i _ => l.length - (intOf i).toNat)
  case atStart => exact ⟨0, [], 0, none, 0, Nat.zero_le _, rfl, JB.nil, rfl, Nat.le_refl _, rfl, cell_new rfl rfl, cell_new rfl rfl, frozen_new rfl, frozen_new rfl, World.ownsRow_nil _ _ _ _, (by repeat (first | assumption | exact Below.refl _ _ | refine Below.drew ?_ | (refine below_alloc _ ?_ ?_; focus (first | omega | (simp; done) | (simp; omega) | (simp at *; omega))) | (refine below_set _ ?_ ?_; focus (first | omega | (simp; done) | (simp; omega) | (simp at *; omega))) | refine below_drewN ?_ _ | (refine below_call (by assumption) ?_ ?_; focus (first | omega | (simp; done) | (simp; omega) | (simp at *; omega))) | (refine below_call' (by assumption) ?_ ?_; focus (first | omega | (simp; done) | (simp; omega) | (simp at *; omega))))), by simp⟩
  case round =>
    obtain ⟨k, out, n, A', c', hk, rfl, hjb, hlen, hnk, hgo, s0, s1, y0, y1, hown, hbw, hsz⟩ := hrel
    have HM := Lib.hid hgo
    have HJB := Lib.hid hjb
    have HLEN := Lib.hid hlen
    have k1 := cell_below' hbw K1
    have hz0 : w.heap.size < wr.heap.size := by omega
    have hz1 : w.heap.size + 1 < wr.heap.size := by omega
    clear hgo hjb hlen
    by_cases hlt : k < l.length
    · obtain ⟨b2, o2, e2, hb2, e0, e1⟩ := SlabsAt.at_ (RowsAt.below AV hbw) hlt
      injection e2 with e2
      injection e2 with e21 e22
      subst e21 e22
      have hx := HO.out.sl l[k] (List.getElem_mem hlt)
      rw [List.drop_eq_getElem_cons hlt, jnGo] at HM
      generalize l[k] = x at *
      obtain ⟨x1, x2, x3, x4⟩ := hx
      have hne3 : ¬ v1.heap.size = w.heap.size := by omega
      by_cases hth : x.th = 0
      · have hst : jnStep out x = out := by unfold jnStep; rw [if_pos hth]
        rw [hst] at HM
        have hth' : (x.th == 0) = true := by simpa using hth
        clear hst hth
        go_wp2
        go_roundw
        case rel => exact ⟨k + 1, out, n, A', c', by omega, by go_num, HJB.out, HLEN.out, by omega, HM.out, cell_alloc _ s0, cell_alloc _ s1, frozen_alloc _ (by omega) y0, frozen_alloc _ (by omega) y1, hown.alloc _, (by repeat (first | assumption | exact Below.refl _ _ | refine Below.drew ?_ | (refine below_alloc _ ?_ ?_; focus (first | omega | (simp; done) | (simp; omega) | (simp at *; omega))) | (refine below_set _ ?_ ?_; focus (first | omega | (simp; done) | (simp; omega) | (simp at *; omega))) | refine below_drewN ?_ _ | (refine below_call (by assumption) ?_ ?_; focus (first | omega | (simp; done) | (simp; omega) | (simp at *; omega))) | (refine below_call' (by assumption) ?_ ?_; focus (first | omega | (simp; done) | (simp; omega) | (simp at *; omega))))), by simp; omega⟩
        case measure => simp [intOf]; omega
      have hst : jnStep out x = jnAdd out x := by unfold jnStep; rw [if_neg hth]
      rw [hst] at HM
      have hth' : (x.th == 0) = false := by simpa using hth
      clear hst
      rcases snoc_cases out with rfl | ⟨i, y, rfl⟩
      · obtain rfl : n = 0 := by have := HLEN.out; simpa using this.symm
        rw [jnAdd_nil] at HM
        go_wp2_with (fail)
        (refine region_full (by kernel_rfl) (by kernel_rfl) fun hx => ?_; (repeat (any_goals (first | go_big_quiet_step (fail) | quiet_step (fail)))))
        (refine wpQuiet_nil ?_; clear hx; intro u; have hbw3 := ext_bel _ u; have hxw3 := ext_cell _ u; generalize ext _ u = w3 at *; clear u; have hsw3 := hbw3.size; (try simp at hsw3))
        have hb3 : Below v1.heap.size v1 w3 := hbw.trans ((below_alloc _ (Nat.le_refl _) (Below.refl _ wr)).trans (hbw3.mono (by simp)) |>.mono (by omega))
        have hz9 : wr.heap.size < w3.heap.size := by have := hbw3.size; simp at this; omega
        have r0 : w3.cell? ⟨wr.heap.size, 0, none⟩ = some (.int .i64 x.sq) := cell_below' hbw3 (cell_new rfl rfl)
        have r1 : w3.cell? ⟨wr.heap.size, 1, none⟩ = some (.int .i64 x.th) := cell_below' hbw3 (cell_new rfl rfl)
        have hown3 := own_below (hown.alloc (.cells #[.int .i64 x.sq, .int .i64 x.th] 45)) hbw3
        replace y0 := frozen_below hbw3 (show v1.heap.size < _ by simp; omega) (frozen_alloc _ (by omega) y0)
        replace y1 := frozen_below hbw3 (show v1.heap.size < _ by simp; omega) (frozen_alloc _ (by omega) y1)
        replace s0 := cell_below' hbw3 (cell_alloc _ s0)
        replace s1 := cell_below' hbw3 (cell_alloc _ s1)
        have hz10 : v1.heap.size < w3.heap.size := by omega
        clear hown hbw3 hxw3
        have hlt2 := hown3.lt
        have hn1' : some v1.heap.size ≠ Value.ownBlock (.slice A' 0 c') := fun e => by have := hlt2 _ e.symm; omega
        clear hlt2
        go_wp2_with (at_builtin; refine wpList_appSlab _ rfl (.tmp 69) (.tmp 71) rfl (v1.heap.size + 1) A' 0 c' (cellsOf 2 slbC []) rfl (hown3.alloc _) (some ⟨w3.heap.size, 0, none⟩) 1 1 (cellsOf 2 slbC [x]) rfl rfl (fun e => by cases e) (fun ad e => by cases e; exact RowsAt.news (rows_blk (blk_new (by simp)) rfl) (by decide)) (cellsOf_one slbC_one (by decide) _) (by omega) (by simp; omega) ?_; intro A4 c5 w5 hown5 hg halt; rw [← cellsOf_append] at hown5; have hz7 := hg.size; simp at hz7; have hb5 : Below v1.heap.size v1 w5 := below_own (below_alloc _ (by omega) hb3) hg (hown3.alloc _) (by omega) (by simp; omega); have u0 := cell_grown hg (cell_alloc _ s0) hn1'; have u1 := cell_grown hg (cell_alloc _ s1) hn1'; have uy0 := frozen_grown hg (frozen_alloc _ (by omega) y0) (by simp; omega) hn1'; have uy1 := frozen_grown hg (frozen_alloc _ (by omega) y1) (by simp; omega) hn1'; clear hg halt hown3 s0 s1 y0 y1 hn1')
        go_roundw
        case rel => exact ⟨k + 1, _, 0 + 1, A4, c5, by omega, by go_num, JB.snoc HJB.out ⟨x1, x2, x3, x4⟩, by first | (simp [HIL.out]; done) | (simp [HLEN.out]; done), by omega, HM.out, (World.cell?_setCell_other _ _ _ _ (by simp)).trans u0, cell_same u1, frozen_set _ _ uy0, frozen_set _ _ uy1, ownsRow_setCell_below hown5 (by simp) _, below_set _ (Nat.le_refl _) hb5, by simp; omega⟩
        case measure => simp [intOf]; omega
      obtain ⟨m, rfl⟩ : ∃ m, n = m + 1 := ⟨i.length, by have := HLEN.out; simp at this; omega⟩
      have hil : i.length = m := by have := HLEN.out; simp at this; omega
      rw [jnAdd_snoc] at HM
      obtain ⟨g, cg, hvg, hgb, hgl⟩ := hown.form (by omega)
      injection hvg with hvg1 hvg2 hvg3
      subst hvg1
      clear hvg2 hvg3 cg
      have tq := last_sq hown hil
      obtain ⟨tc, tf⟩ := last_cell hown hil
      obtain ⟨hji, yb1, yb2, yb3, yb4⟩ := HJB.out.init
      have HJI := Lib.hid hji
      have HIL := Lib.hid hil
      clear hji hil
      have hmp : (0 : Int) ≤ (m : Int) := by omega
      by_cases hq : y.sq = x.sq
      rotate_left 1
      · rw [if_neg (fun h => hq h.1)] at HM
        have hq' : (y.sq == x.sq) = false := by simpa using hq
        clear hq
        go_wp2_with (fail)
        (refine region_full (by kernel_rfl) (by kernel_rfl) fun hx => ?_; (repeat (any_goals (first | go_big_quiet_step (fail) | quiet_step (fail)))))
        (refine wpQuiet_nil ?_; clear hx; intro u; have hbw3 := ext_bel _ u; have hxw3 := ext_cell _ u; generalize ext _ u = w3 at *; clear u; have hsw3 := hbw3.size; (try simp at hsw3))
        have hb3 : Below v1.heap.size v1 w3 := hbw.trans ((below_alloc _ (Nat.le_refl _) (Below.refl _ wr)).trans (hbw3.mono (by simp)) |>.mono (by omega))
        have hz9 : wr.heap.size < w3.heap.size := by have := hbw3.size; simp at this; omega
        have r0 : w3.cell? ⟨wr.heap.size, 0, none⟩ = some (.int .i64 x.sq) := cell_below' hbw3 (cell_new rfl rfl)
        have r1 : w3.cell? ⟨wr.heap.size, 1, none⟩ = some (.int .i64 x.th) := cell_below' hbw3 (cell_new rfl rfl)
        have hown3 := own_below (hown.alloc (.cells #[.int .i64 x.sq, .int .i64 x.th] 45)) hbw3
        replace y0 := frozen_below hbw3 (show v1.heap.size < _ by simp; omega) (frozen_alloc _ (by omega) y0)
        replace y1 := frozen_below hbw3 (show v1.heap.size < _ by simp; omega) (frozen_alloc _ (by omega) y1)
        replace s0 := cell_below' hbw3 (cell_alloc _ s0)
        replace s1 := cell_below' hbw3 (cell_alloc _ s1)
        have hz10 : v1.heap.size < w3.heap.size := by omega
        clear hown hbw3 hxw3
        have hlt2 := hown3.lt
        have hn1' : some v1.heap.size ≠ Value.ownBlock (.slice (some ⟨g, 0, none⟩) (m + 1) c') := fun e => by have := hlt2 _ e.symm; omega
        clear hlt2
        go_wp2_with (at_builtin; refine wpList_appSlab _ rfl (.tmp 69) (.tmp 71) rfl (v1.heap.size + 1) (some ⟨g, 0, none⟩) (m + 1) c' (cellsOf 2 slbC (i ++ [y])) rfl (hown3.alloc _) (some ⟨w3.heap.size, 0, none⟩) 1 1 (cellsOf 2 slbC [x]) rfl rfl (fun e => by cases e) (fun ad e => by cases e; exact RowsAt.news (rows_blk (blk_new (by simp)) rfl) (by decide)) (cellsOf_one slbC_one (by decide) _) (by omega) (by simp; omega) ?_; intro A4 c5 w5 hown5 hg halt; rw [← cellsOf_append] at hown5; have hz7 := hg.size; simp at hz7; have hb5 : Below v1.heap.size v1 w5 := below_own (below_alloc _ (by omega) hb3) hg (hown3.alloc _) (by omega) (by simp; omega); have u0 := cell_grown hg (cell_alloc _ s0) hn1'; have u1 := cell_grown hg (cell_alloc _ s1) hn1'; have uy0 := frozen_grown hg (frozen_alloc _ (by omega) y0) (by simp; omega) hn1'; have uy1 := frozen_grown hg (frozen_alloc _ (by omega) y1) (by simp; omega) hn1'; clear hg halt hown3 s0 s1 y0 y1 hn1')
        go_roundw
        case rel => exact ⟨k + 1, _, (m + 1) + 1, A4, c5, by omega, by go_num, JB.snoc HJB.out ⟨x1, x2, x3, x4⟩, by first | (simp [HIL.out]; done) | (simp [HLEN.out]; done), by omega, HM.out, (World.cell?_setCell_other _ _ _ _ (by simp)).trans u0, cell_same u1, frozen_set _ _ uy0, frozen_set _ _ uy1, ownsRow_setCell_below hown5 (by simp) _, below_set _ (Nat.le_refl _) hb5, by simp; omega⟩
        case measure => simp [intOf]; omega
      have hq' : (y.sq == x.sq) = true := by simpa using hq
      by_cases hsum : y.th + x.th ≤ 500
      · rw [if_pos ⟨hq, hsum⟩] at HM
        go_wp2_with (fail)
        (refine region_full (by kernel_rfl) (by kernel_rfl) fun hx => ?_; (repeat (any_goals (first | go_big_quiet_step (fail) | quiet_step (fail)))))
        (refine wpQuiet_nil ?_; clear hx; intro u; have hbw3 := ext_bel _ u; have hxw3 := ext_cell _ u; generalize ext _ u = w3 at *; clear u; have hsw3 := hbw3.size; (try simp at hsw3))
        have hb3 : Below v1.heap.size v1 w3 := hbw.trans ((below_alloc _ (Nat.le_refl _) (Below.refl _ wr)).trans (hbw3.mono (by simp)) |>.mono (by omega))
        have hz9 : wr.heap.size < w3.heap.size := by have := hbw3.size; simp at this; omega
        have r0 : w3.cell? ⟨wr.heap.size, 0, none⟩ = some (.int .i64 x.sq) := cell_below' hbw3 (cell_new rfl rfl)
        have r1 : w3.cell? ⟨wr.heap.size, 1, none⟩ = some (.int .i64 x.th) := cell_below' hbw3 (cell_new rfl rfl)
        have hown3 := own_below (hown.alloc (.cells #[.int .i64 x.sq, .int .i64 x.th] 45)) hbw3
        replace y0 := frozen_below hbw3 (show v1.heap.size < _ by simp; omega) (frozen_alloc _ (by omega) y0)
        replace y1 := frozen_below hbw3 (show v1.heap.size < _ by simp; omega) (frozen_alloc _ (by omega) y1)
        replace s0 := cell_below' hbw3 (cell_alloc _ s0)
        replace s1 := cell_below' hbw3 (cell_alloc _ s1)
        have hz10 : v1.heap.size < w3.heap.size := by omega
        clear hown hbw3 hxw3
        obtain ⟨tc3, tf3⟩ := last_cell hown3 HIL.out
        have hgl3 : g < w3.heap.size := by omega
        clear tq tc tf
        go_wp2_with (fail)
        (refine region_extx 12 (by kernel_rfl) (by kernel_rfl) fun hx => ?_; simp only [List.take_succ_cons, List.take_zero, List.drop_succ_cons, List.drop_zero]; (repeat (any_goals (first | go_big_quiet_step (fail) | quiet_step (fail)))))
        (refine wpQuiet_nil ?_; clear hx; intro u; have hbw4 := ext_bel _ u; have hxw4 := ext_cell _ u; generalize ext _ u = w4 at *; clear u; have hsw4 := hbw4.size; (try simp at hsw4))
        have hb4 : Below v1.heap.size v1 w4 := hb3.trans (hbw4.mono (by omega))
        have hown4 := own_below hown3 hbw4
        replace s0 := cell_below' hbw4 s0
        replace s1 := cell_below' hbw4 s1
        replace y0 := frozen_below hbw4 (show _ from hz10) y0
        replace y1 := frozen_below hbw4 (show _ from hz10) y1
        have hz11 : v1.heap.size < w4.heap.size := by have := hbw4.size; omega
        have hgl4 : g < w4.heap.size := by have := hbw4.size; omega
        clear hown3 hbw4 hxw4 tc3 tf3 r0 r1
        obtain ⟨tc4, tf4⟩ := last_cell hown4 HIL.out
        obtain ⟨o1, ot⟩ := last_store hown4 HIL.out (y.th + x.th)
        go_wp2
        go_roundw
        case rel => exact ⟨k + 1, i ++ [⟨y.sq, y.th + x.th⟩], m + 1, some ⟨g, 0, none⟩, c', by omega, by go_num, JB.snoc HJI.out ⟨yb1, yb2, by show 0 ≤ y.th + x.th; omega, hsum⟩, by simp [HIL.out], by omega, HM.out, (World.cell?_setCell_other _ _ _ _ (fun h => by injection h with h1; omega)).trans s0, (World.cell?_setCell_other _ _ _ _ (fun h => by injection h with h1; omega)).trans s1, frozen_set _ _ y0, frozen_set _ _ y1, o1, below_set _ (by show _ ≤ g; omega) hb4, by simp; omega⟩
        case measure => simp [intOf]; omega
      · rw [if_neg (fun h => hsum h.2)] at HM
        have hsum' : 500 < y.th + x.th := by omega
        go_wp2_with (fail)
        (refine region_full (by kernel_rfl) (by kernel_rfl) fun hx => ?_; (repeat (any_goals (first | go_big_quiet_step (fail) | quiet_step (fail)))))
        (refine wpQuiet_nil ?_; clear hx; intro u; have hbw3 := ext_bel _ u; have hxw3 := ext_cell _ u; generalize ext _ u = w3 at *; clear u; have hsw3 := hbw3.size; (try simp at hsw3))
        have hb3 : Below v1.heap.size v1 w3 := hbw.trans ((below_alloc _ (Nat.le_refl _) (Below.refl _ wr)).trans (hbw3.mono (by simp)) |>.mono (by omega))
        have hz9 : wr.heap.size < w3.heap.size := by have := hbw3.size; simp at this; omega
        have r0 : w3.cell? ⟨wr.heap.size, 0, none⟩ = some (.int .i64 x.sq) := cell_below' hbw3 (cell_new rfl rfl)
        have r1 : w3.cell? ⟨wr.heap.size, 1, none⟩ = some (.int .i64 x.th) := cell_below' hbw3 (cell_new rfl rfl)
        have hown3 := own_below (hown.alloc (.cells #[.int .i64 x.sq, .int .i64 x.th] 45)) hbw3
        replace y0 := frozen_below hbw3 (show v1.heap.size < _ by simp; omega) (frozen_alloc _ (by omega) y0)
        replace y1 := frozen_below hbw3 (show v1.heap.size < _ by simp; omega) (frozen_alloc _ (by omega) y1)
        replace s0 := cell_below' hbw3 (cell_alloc _ s0)
        replace s1 := cell_below' hbw3 (cell_alloc _ s1)
        have hz10 : v1.heap.size < w3.heap.size := by omega
        clear hown hbw3 hxw3
        have hlt2 := hown3.lt
        have hn1' : some v1.heap.size ≠ Value.ownBlock (.slice (some ⟨g, 0, none⟩) (m + 1) c') := fun e => by have := hlt2 _ e.symm; omega
        clear hlt2
        go_wp2_with (at_builtin; refine wpList_appSlab _ rfl (.tmp 69) (.tmp 71) rfl (v1.heap.size + 1) (some ⟨g, 0, none⟩) (m + 1) c' (cellsOf 2 slbC (i ++ [y])) rfl (hown3.alloc _) (some ⟨w3.heap.size, 0, none⟩) 1 1 (cellsOf 2 slbC [x]) rfl rfl (fun e => by cases e) (fun ad e => by cases e; exact RowsAt.news (rows_blk (blk_new (by simp)) rfl) (by decide)) (cellsOf_one slbC_one (by decide) _) (by omega) (by simp; omega) ?_; intro A4 c5 w5 hown5 hg halt; rw [← cellsOf_append] at hown5; have hz7 := hg.size; simp at hz7; have hb5 : Below v1.heap.size v1 w5 := below_own (below_alloc _ (by omega) hb3) hg (hown3.alloc _) (by omega) (by simp; omega); have u0 := cell_grown hg (cell_alloc _ s0) hn1'; have u1 := cell_grown hg (cell_alloc _ s1) hn1'; have uy0 := frozen_grown hg (frozen_alloc _ (by omega) y0) (by simp; omega) hn1'; have uy1 := frozen_grown hg (frozen_alloc _ (by omega) y1) (by simp; omega) hn1'; clear hg halt hown3 s0 s1 y0 y1 hn1')
        go_roundw
        case rel => exact ⟨k + 1, _, (m + 1) + 1, A4, c5, by omega, by go_num, JB.snoc HJB.out ⟨x1, x2, x3, x4⟩, by first | (simp [HIL.out]; done) | (simp [HLEN.out]; done), by omega, HM.out, (World.cell?_setCell_other _ _ _ _ (by simp)).trans u0, cell_same u1, frozen_set _ _ uy0, frozen_set _ _ uy1, ownsRow_setCell_below hown5 (by simp) _, below_set _ (Nat.le_refl _) hb5, by simp; omega⟩
        case measure => simp [intOf]; omega
    · obtain rfl : k = l.length := by omega
      rw [List.drop_length, jnGo] at HM
      have c0 := cell_below' hbw C0
      have c1 := cell_below' hbw C1
      have g0 := frozen_below hbw (show _ from hs2) G0
      have g1 := frozen_below hbw (show _ from hs2) G1
      have hne1 : ¬ v1.heap.size = w.heap.size + 1 := by omega
      have hne2 : ¬ w.heap.size + 1 = v1.heap.size := by omega
      have hlt' : ¬ l.length < l.length := hlt
      by_cases hn : n = 0
      · subst hn
        have hj : jnd l = l.take 1 := by unfold jnd; rw [HM.out, if_pos HLEN.out]
        have ho0 : out = [] := List.eq_nil_of_length_eq_zero HLEN.out
        have ht1 : l.take 1 = [l[0]] := by rw [List.take_one]; rw [List.head?_eq_getElem?, List.getElem?_eq_getElem hn0]; rfl
        rw [ht1] at hj
        have HJ := Lib.hid hj
        obtain ⟨b2, o2, e2, hb2, e0, e1⟩ := SlabsAt.at_ (RowsAt.below AV hbw) hn0
        injection e2 with e2
        injection e2 with e21 e22
        subst e21 e22
        generalize l[0] = x at *
        clear hj ht1
        subst ho0
        simp only [Nat.zero_mul, Nat.add_zero] at e0 e1
        go_wp2_with (fail)
        (refine region_alloc (T := ?_) (obj := (.cells #[.int .i64 x.sq, .int .i64 x.th] 45)) (val := (fun nb => .slice (some ⟨nb, 0, none⟩) 1 1)) 6 84 (by kernel_rfl) (by kernel_rfl) rfl rfl rfl (Nat.le_of_ble_eq_true rfl) ?_ ?_ ?_; rotate_left 1)
        focus (intro W0 hB0 hx; simp only [List.take_succ_cons, List.take_zero]; (repeat (any_goals (first | go_big_quiet_step (fail) | quiet_step (fail)))); refine wpQuiet_nil ?_; exact rfl)
        focus (intro W; go_simp; done)
        (intro W0 w2 hB0 hB1; obtain ⟨hbw2, hnw2, hsw2, hkw2⟩ := alloc_out hB0 hB1; clear hB0 hB1; simp only [List.drop_succ_cons, List.drop_zero]; generalize W0.heap.size = nb at *; clear W0)
        have hown2 := own_below hown hbw2
        replace s0 := cell_below' hbw2 s0
        replace s1 := cell_below' hbw2 s1
        replace c0 := cell_below' hbw2 c0
        replace c1 := cell_below' hbw2 c1
        replace y0 := frozen_below hbw2 (show _ from hsz) y0
        replace y1 := frozen_below hbw2 (show _ from hsz) y1
        replace g0 := frozen_below hbw2 (show _ from hz1) g0
        replace g1 := frozen_below hbw2 (show _ from hz1) g1
        have hq1 : w.heap.size + 1 < w2.heap.size := by have := hbw2.size; omega
        have hq2 : v1.heap.size < w2.heap.size := by have := hbw2.size; omega
        have hrow : SlabsAt w2 (some ⟨nb, 0, none⟩) [x] := rows_blk hkw2 rfl
        have hb2' : Below v1.heap.size v1 w2 := hbw.trans (hbw2.mono (by omega))
        have hlt2 := hown2.lt
        have hn1' : some v1.heap.size ≠ Value.ownBlock (.slice A' 0 c') := fun e => by have := hlt2 _ e.symm; omega
        have hn2' : some (w.heap.size + 1) ≠ Value.ownBlock (.slice A' 0 c') := fun e => by have := hlt2 _ e.symm; omega
        clear hlt2 hkw2
        refine wpList_appSlab w2 rfl (.tmp 79) (.tmp 84) rfl (v1.heap.size + 1) A' 0 c' (cellsOf 2 slbC []) rfl hown2 (some ⟨nb, 0, none⟩) 1 1 (cellsOf 2 slbC [x]) rfl rfl (fun e => by cases e) (fun ad e => by cases e; exact RowsAt.news hrow (by decide)) (cellsOf_one slbC_one (by decide) _) (by omega) (by omega) ?_
        intro A4 c5 w5 hown5 hg halt
        rw [← cellsOf_append] at hown5
        have hz7 := hg.size
        have hb5 : Below v1.heap.size v1 w5 := below_own hb2' hg hown2 (by omega) (by omega)
        replace s0 := cell_grown hg s0 hn1'
        replace s1 := cell_grown hg s1 hn1'
        replace c0 := cell_grown hg c0 hn2'
        replace c1 := cell_grown hg c1 hn2'
        replace y0 := frozen_grown hg y0 (by simp; omega) hn1'
        replace y1 := frozen_grown hg y1 (by simp; omega) hn1'
        replace g0 := frozen_grown hg g0 (by simp; omega) hn2'
        replace g1 := frozen_grown hg g1 (by simp; omega) hn2'
        have hq3 : w.heap.size + 1 < w5.heap.size := by omega
        have hq4 : v1.heap.size < w5.heap.size := by omega
        clear hg halt hown2 hown
        go_wp2
        refine bodyPost_ret (v := .agg #[.int .i64 base, .slice A4 1 c5]) (by simp [results, Try.results63, go_sem, c0, c1, s0, s1, hq3, hq4]) rfl ?_
        unfold RJndPost
        rw [HJ.out]
        exact ⟨A4, c5, rfl, own_mono (ownsRow_setCell_below (ownsRow_setCell_below (ownsRow_setCell_below hown5 (by simp) _) (by simp; omega) _) (by simp; omega) _) (by omega), (by repeat (first | assumption | exact Below.refl _ _ | refine Below.drew ?_ | (refine below_alloc _ ?_ ?_; focus (first | omega | (simp; done) | (simp; omega) | (simp at *; omega))) | (refine below_set _ ?_ ?_; focus (first | omega | (simp; done) | (simp; omega) | (simp at *; omega))) | refine below_drewN ?_ _ | (refine below_call (by assumption) ?_ ?_; focus (first | omega | (simp; done) | (simp; omega) | (simp at *; omega))) | (refine below_call' (by assumption) ?_ ?_; focus (first | omega | (simp; done) | (simp; omega) | (simp at *; omega)))))⟩
      · have hj : jnd l = out := by unfold jnd; rw [HM.out, if_neg (by rw [HLEN.out]; exact hn)]
        have HJ := Lib.hid hj
        have hn' : ((n : Int) == 0) = false := by simp; omega
        clear hj
        go_wp2
        refine bodyPost_ret (v := .agg #[.int .i64 base, .slice A' n c']) (by simp [results, Try.results63, go_sem, c0, c1, s0, s1, hz1, hsz]) rfl ?_
        unfold RJndPost
        rw [HJ.out, HLEN.out]
        exact ⟨A', c', rfl, own_mono (ownsRow_setCell_below (ownsRow_setCell_below hown (by simp; omega) _) (by simp; omega) _) (by omega), (by repeat (first | assumption | exact Below.refl _ _ | refine Below.drew ?_ | (refine below_alloc _ ?_ ?_; focus (first | omega | (simp; done) | (simp; omega) | (simp at *; omega))) | (refine below_set _ ?_ ?_; focus (first | omega | (simp; done) | (simp; omega) | (simp at *; omega))) | refine below_drewN ?_ _ | (refine below_call (by assumption) ?_ ?_; focus (first | omega | (simp; done) | (simp; omega) | (simp at *; omega))) | (refine below_call' (by assumption) ?_ ?_; focus (first | omega | (simp; done) | (simp; omega) | (simp at *; omega)))))⟩
end Go.Proofs.Ytoegpaolbkcleaa
