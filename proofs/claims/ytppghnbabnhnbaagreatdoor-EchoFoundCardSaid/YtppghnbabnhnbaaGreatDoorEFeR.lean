/-
  Chapter 2: the reference's powers and echoes of a frame.
-/
import Derived.Test.YtppghnbabnhnbaaGreatDoorEFdR
import Derived.Test.YtppghnbabnhnbaaGreatDoorEEch
namespace Go.Proofs.YtppghnbabnhnbaaGreatDoor
open Go.ChangeShapes Go.WideShapes Go.ChangeAt Go.RowKit
set_option linter.unusedVariables false
set_option linter.unusedSimpArgs false

def frmE (f s : List Gs) : Int := firstE [unl (decide (f.length = s.length)) 10, smpsE f, smpsE s]
set_option maxHeartbeats 1000000 in
theorem RFrameErr_any (A : Option Addr) (f : List Gs) (ca : Nat) (B : Option Addr) (s : List Gs) (cb : Nat) (w : World) (hA : GsAt w A f) (hB : GsAt w B s) :
    Calls Tryz.prog 30 #[frv A f ca B s cb] w fun e w' => e = .returned (.int .i64 (frmE f s)) ∧ Below w.heap.size w w' := by
  have HF := Lib.hid (fun W (h : GsAt W A f) => RSamplesErr_all A f ca W h)
  have HS := Lib.hid (fun W (h : GsAt W B s) => RSamplesErr_all B s cb W h)
  have hq : frmE f s = firstE [unl (decide (f.length = s.length)) 10, smpsE f, smpsE s] := rfl
  simp only [frv] at *
  by_cases hl : f.length = s.length
  rotate_left 1
  · rw [decide_eq_false hl, unl_false, firstE_nz (by decide)] at hq
    have e1 : ((f.length : Int) != (s.length : Int)) = true := bne_iff_ne.2 (by omega)
    have e2 : (f.length != s.length) = true := bne_iff_ne.2 hl
    have HQ := Lib.hid hq
    clear hq hl
    go_enter Tryz.func30, Tryz.ntmps30
    go_wp2_with (fail)
    go_ret
    exact ⟨ret_int (by rw [HQ.out]), (by repeat (first | assumption | exact Below.refl _ _ | refine Below.drew ?_ | (refine below_alloc _ ?_ ?_; focus (first | omega | (simp; done) | (simp; omega) | (simp at *; omega))) | (refine below_set _ ?_ ?_; focus (first | omega | (simp; done) | (simp; omega) | (simp at *; omega))) | refine below_drewN ?_ _ | (refine below_call (by assumption) ?_ ?_; focus (first | omega | (simp; done) | (simp; omega) | (simp at *; omega))) | (refine below_call' (by assumption) ?_ ?_; focus (first | omega | (simp; done) | (simp; omega) | (simp at *; omega)))))⟩
  rw [decide_eq_true hl, unl_true, firstE_z] at hq
  have e1 : ((f.length : Int) != (s.length : Int)) = false := by rw [hl]; simp
  have e2 : (f.length != s.length) = false := by rw [hl]; simp
  clear hl
  have hor : (smpsE f = 0 ∧ frmE f s = smpsE s ∧ (smpsE f != 0) = false) ∨ ((smpsE f != 0) = true ∧ frmE f s = smpsE f) := by
    by_cases h0 : smpsE f = 0
    · exact .inl ⟨h0, by rw [hq, h0, firstE_z, firstE1], by rw [h0]; rfl⟩
    · exact .inr ⟨bne_iff_ne.2 h0, by rw [hq, firstE_nz h0]⟩
  clear hq
  rcases hor with ⟨h0, hq, e3⟩ | ⟨e3, hq⟩
  all_goals
    have HQ := Lib.hid hq
    clear hq
    try clear h0
    generalize smpsE f = E at *
    go_enter Tryz.func30, Tryz.ntmps30
    go_upto_region 1 with (fail)
    have hb1 : Below w.heap.size w (w.alloc (.cells #[.slice A f.length ca, .slice B s.length cb] 40)) := below_alloc _ (Nat.le_refl _) (Below.refl _ _)
    have y0 : (w.alloc (.cells #[.slice A f.length ca, .slice B s.length cb] 40)).cell? ⟨w.heap.size, 0, none⟩ = some (.slice A f.length ca) := cell_new (by simp) rfl
    have y1 : (w.alloc (.cells #[.slice A f.length ca, .slice B s.length cb] 40)).cell? ⟨w.heap.size, 1, none⟩ = some (.slice B s.length cb) := cell_new (by simp) rfl
    have zy : w.heap.size < (w.alloc (.cells #[.slice A f.length ca, .slice B s.length cb] 40)).heap.size := World.block_lt_of_cell? _ _ y0
    generalize (w.alloc (.cells #[.slice A f.length ca, .slice B s.length cb] 40)) = w1 at *
    have hA1 := RowsAt.below hA hb1
    have hB1 := RowsAt.below hB hb1
    go_wp2_with (fail)
    refine (HF.out _ hA1).mono ?_
    rintro e w2 ⟨rfl, k2⟩
    have h2 : Below w.heap.size w w2 := (hb1).trans ((k2).mono (hb1).size)
    replace y0 := cell_below' k2 y0
    replace y1 := cell_below' k2 y1
    replace zy := Nat.lt_of_lt_of_le zy (k2).size
    replace hB1 := RowsAt.below hB1 k2
    clear k2 hb1
    go_wp2_with (fail)
    first
      | (go_ret; exact ⟨ret_int (by rw [HQ.out]), h2⟩)
      | (refine (HS.out _ hB1).mono ?_
         rintro e w3 ⟨rfl, k3⟩
         go_wp2_with (fail)
         go_ret
         exact ⟨ret_int (by rw [HQ.out]), h2.trans (k3.mono h2.size)⟩)
set_option maxRecDepth 100000 in
set_option maxHeartbeats 4000000 in
theorem RPower_any (A : Option Addr) (f : List Gs) (ca : Nat) (B : Option Addr) (s : List Gs) (cb : Nat) (lag : Int) (j : Nat) (w : World) (hj : lag = (j : Int) - 1) (hj2 : j ≤ f.length + 1) (hl : f.length = s.length) (h64 : f.length ≤ 64) (hf : ∀ x ∈ f, Sz 10000 x) (hs : ∀ x ∈ s, Sz 10000 x) (hA : GsAt w A f) (hB : GsAt w B s) :
    Calls Tryz.prog 17 #[frv A f ca B s cb, .int .i64 lag] w fun e w' => e = .returned (.int .i64 (padK f s f.length j)) ∧ Below w.heap.size w w' := by
  have hq : padK f s f.length j = if 1 ≤ j ∧ j ≤ f.length then pwA f s (j - 1) else 0 := rfl
  simp only [frv] at *
  have hfi : (f.length : Int) ≤ 64 := by omega
  by_cases hin : 1 ≤ j ∧ j ≤ f.length
  rotate_left 1
  · rw [if_neg hin] at hq
    have hw : withinB lag 0 ((f.length : Int) - 1) = false := by
      rcases h : withinB lag 0 ((f.length : Int) - 1) with _ | _
      · rfl
      · have := withinB_true.1 h; omega
    have HW := Lib.hid (fun W => Within_any lag 0 ((f.length : Int) - 1) W)
    rw [hw] at HW
    have HQ := Lib.hid hq
    clear hq hin hw hj hl
    go_enter Tryz.func17, Tryz.ntmps17
    go_wp2_with (fail)
    refine (HW.out _).mono ?_
    rintro e w' ⟨rfl, rfl⟩
    go_wp2_with (fail)
    go_ret
    exact ⟨ret_int (by rw [HQ.out]), (by repeat (first | assumption | exact Below.refl _ _ | refine Below.drew ?_ | (refine below_alloc _ ?_ ?_; focus (first | omega | (simp; done) | (simp; omega) | (simp at *; omega))) | (refine below_set _ ?_ ?_; focus (first | omega | (simp; done) | (simp; omega) | (simp at *; omega))) | refine below_drewN ?_ _ | (refine below_call (by assumption) ?_ ?_; focus (first | omega | (simp; done) | (simp; omega) | (simp at *; omega))) | (refine below_call' (by assumption) ?_ ?_; focus (first | omega | (simp; done) | (simp; omega) | (simp at *; omega)))))⟩
  rw [if_pos hin] at hq
  obtain ⟨k, rfl⟩ : ∃ k, j = k + 1 := ⟨j - 1, by omega⟩
  obtain rfl : lag = (k : Int) := by omega
  have hk : k < f.length := by omega
  have hk2 : k < s.length := by omega
  have hw : withinB (k : Int) 0 ((f.length : Int) - 1) = true := withinB_true.2 ⟨by omega, by omega⟩
  have HW := Lib.hid (fun W => Within_any (k : Int) 0 ((f.length : Int) - 1) W)
  rw [hw] at HW
  rw [Nat.add_sub_cancel, show pwA f s k = gnorm f[k] + gnorm s[k] by unfold pwA; rw [gd_eq hk, gd_eq hk2]] at hq
  have s1 := hf _ (List.getElem_mem hk)
  have s2 := hs _ (List.getElem_mem hk2)
  have P1 := Lib.hid (fun W => GNorm_any f[k] W (s1.mono (by decide)))
  have P2 := Lib.hid (fun W => GNorm_any s[k] W (s2.mono (by decide)))
  have m1 := s1.norm
  have m2 := s2.norm
  have HQ := Lib.hid hq
  have hkI : (k : Int) < (f.length : Int) := by omega
  have hkI2 : (k : Int) < (s.length : Int) := by omega
  clear hq hin hw hj hl hj2 hf hs s1 s2
  go_enter Tryz.func17, Tryz.ntmps17
  go_upto_region 1 with (fail)
  have hb1 : Below w.heap.size w (w.alloc (.cells #[.slice A f.length ca, .slice B s.length cb] 40)) := below_alloc _ (Nat.le_refl _) (Below.refl _ _)
  have y0 : (w.alloc (.cells #[.slice A f.length ca, .slice B s.length cb] 40)).cell? ⟨w.heap.size, 0, none⟩ = some (.slice A f.length ca) := cell_new (by simp) rfl
  have y1 : (w.alloc (.cells #[.slice A f.length ca, .slice B s.length cb] 40)).cell? ⟨w.heap.size, 1, none⟩ = some (.slice B s.length cb) := cell_new (by simp) rfl
  have zy : w.heap.size < (w.alloc (.cells #[.slice A f.length ca, .slice B s.length cb] 40)).heap.size := World.block_lt_of_cell? _ _ y0
  generalize (w.alloc (.cells #[.slice A f.length ca, .slice B s.length cb] 40)) = w1 at *
  obtain ⟨b1, o1, rfl, hb1', c0, c1⟩ := GsAt.at_ (RowsAt.below hA hb1) hk
  obtain ⟨b2, o2, rfl, hb2', d0, d1⟩ := GsAt.at_ (RowsAt.below hB hb1) hk2
  generalize f[k] = gx at *
  generalize s[k] = gy at *
  simp only [gv] at P1 P2
  generalize gnorm gx = g1 at *
  generalize gnorm gy = g2 at *
  go_wp2_with (fail)
  refine (HW.out _).mono ?_
  rintro e w' ⟨rfl, rfl⟩
  go_upto_region 3 with (fail)
  (refine region_extx 12 (by kernel_rfl) (by kernel_rfl) fun hx => ?_; simp only [List.take_succ_cons, List.take_zero, List.drop_succ_cons, List.drop_zero]; (repeat (any_goals (first | go_big_quiet_step ((first | ((go_at_call 11; with_reducible exact ext_call (P1.out _))) | ((go_at_call 11; with_reducible exact ext_call (P2.out _))))) | quiet_step ((first | ((go_at_call 11; with_reducible exact ext_call (P1.out _))) | ((go_at_call 11; with_reducible exact ext_call (P2.out _)))))))))
  (refine wpQuiet_nil ?_; clear hx; intro u; have hbw2 := ext_bel _ u; have hxw2 := ext_cell _ u; generalize ext _ u = w2 at *; clear u; have hsw2 := hbw2.size; (try simp at hsw2))
  have h2 := hb1.trans (hbw2.mono hb1.size)
  go_wp2_with (fail)
  go_ret
  exact ⟨ret_int (by rw [HQ.out]), h2⟩
def ItsX (q : List It) (w : World) (e : Ending) (w' : World) : Prop := ∃ A' c', e = .returned (.slice A' q.length c') ∧ ItsAt w' A' q ∧ Below w.heap.size w w'
set_option maxRecDepth 100000 in
set_option maxHeartbeats 8000000 in
theorem REchoes_any (r : Ru) (A : Option Addr) (f : List Gs) (ca : Nat) (B : Option Addr) (s : List Gs) (cb : Nat) (w : World) (hr : OkRu r) (hl : f.length = s.length) (h64 : f.length ≤ 64) (hf : ∀ x ∈ f, Sz 10000 x) (hs : ∀ x ∈ s, Sz 10000 x) (hA : GsAt w A f) (hB : GsAt w B s) :
    Calls Tryz.prog 31 #[ruv r, frv A f ca B s cb] w (ItsX (echA r f s) w) := by
  have HP := Lib.hid (fun (lag : Int) (j : Nat) W (h1 : lag = (j : Int) - 1) (h2 : j ≤ f.length + 1) (hA : GsAt W A f) (hB : GsAt W B s) => RPower_any A f ca B s cb lag j W h1 h2 hl h64 hf hs hA hB)
  have HT := Lib.hid (fun (x y : Gs) W (k0 : Sz 10000 x) (k1 : Sz 10000 y) => RTag_any r x y W hr k0 k1)
  have HH := Lib.hid (fun (lag : Int) W (l0 : 0 ≤ lag) (l1 : lag ≤ 1000000) => RHeights_any r lag W hr l0 l1)
  have HITM := Lib.hid (fun k => show itm r f s k = ⟨k, padK f s f.length (k + 1), tagP r (gd f k) (gd s k), (hgtP r k).re, (hgtP r k).im⟩ from rfl)
  have HISE := Lib.hid (fun k => show isE r.po f s k = (decide (r.po ≤ padK f s f.length (k + 1)) && (decide (padK f s f.length k < padK f s f.length (k + 1)) && decide (padK f s f.length (k + 2) ≤ padK f s f.length (k + 1)))) from rfl)
  have HYES := Lib.hid (fun k => @echK_yes r f s k)
  have HNO := Lib.hid (fun k => @echK_no r f s k)
  have HLEN := Lib.hid (echK_len r f s)
  have HZE : Hid (echK r f s 0 = []) := Lib.hid rfl
  have HEA : Hid (echA r f s = echK r f s f.length) := Lib.hid rfl
  have HO1 := Lib.hid hf
  have HO2 := Lib.hid hs
  have HEQ := Lib.hid hl
  have hpb := fun k j => pad_bd hf hs k j
  have HPB := Lib.hid hpb
  obtain ⟨i0, hi0, hz0, hz1, hz2⟩ := infoIt_
  have HI := Lib.hid hi0
  have HZ0 := Lib.hid hz0
  have HZ1 := Lib.hid hz1
  have HZ2 := Lib.hid hz2
  clear hi0 hz0 hz1 hz2 hf hs hl hpb hr
  have hlf : (f.length : Int) ≤ 64 := by omega
  generalize hG : echK r f s = ek at *
  generalize hG2 : itm r f s = im at *
  generalize hG3 : tagP r = tg at *
  generalize hG4 : hgtP r = hg at *
  generalize isE r.po f s = ie at *
  generalize echA r f s = ea at *
  clear hG hG2 hG3 hG4
  obtain ⟨⟨mo0, mo1⟩, ⟨me0, me1⟩, ra, no, po, ce, st, du⟩ := r
  simp only [ruv, gv2, gv, frv] at *
  go_enter Tryz.func31, Tryz.ntmps31
  go_upto_region 1 with (fail)
  have hb0 : Below w.heap.size w ((w.alloc (.cells #[.int .i64 mo0, .int .i64 mo1, .int .i64 me0, .int .i64 me1, .int .i64 ra, .int .i64 no, .int .i64 po, .int .i64 ce, .int .i64 st, .int .i64 du] 27)).alloc (.cells #[.slice A f.length ca, .slice B s.length cb] 40)) := below_alloc _ (Nat.le_refl _) (below_alloc _ (Nat.le_refl _) (Below.refl _ _))
  have r0 : ((w.alloc (.cells #[.int .i64 mo0, .int .i64 mo1, .int .i64 me0, .int .i64 me1, .int .i64 ra, .int .i64 no, .int .i64 po, .int .i64 ce, .int .i64 st, .int .i64 du] 27)).alloc (.cells #[.slice A f.length ca, .slice B s.length cb] 40)).cell? ⟨w.heap.size, 0, none⟩ = some (.int .i64 mo0) := cell_alloc _ (cell_new (by simp) rfl)
  have r1 : ((w.alloc (.cells #[.int .i64 mo0, .int .i64 mo1, .int .i64 me0, .int .i64 me1, .int .i64 ra, .int .i64 no, .int .i64 po, .int .i64 ce, .int .i64 st, .int .i64 du] 27)).alloc (.cells #[.slice A f.length ca, .slice B s.length cb] 40)).cell? ⟨w.heap.size, 1, none⟩ = some (.int .i64 mo1) := cell_alloc _ (cell_new (by simp) rfl)
  have r2 : ((w.alloc (.cells #[.int .i64 mo0, .int .i64 mo1, .int .i64 me0, .int .i64 me1, .int .i64 ra, .int .i64 no, .int .i64 po, .int .i64 ce, .int .i64 st, .int .i64 du] 27)).alloc (.cells #[.slice A f.length ca, .slice B s.length cb] 40)).cell? ⟨w.heap.size, 2, none⟩ = some (.int .i64 me0) := cell_alloc _ (cell_new (by simp) rfl)
  have r3 : ((w.alloc (.cells #[.int .i64 mo0, .int .i64 mo1, .int .i64 me0, .int .i64 me1, .int .i64 ra, .int .i64 no, .int .i64 po, .int .i64 ce, .int .i64 st, .int .i64 du] 27)).alloc (.cells #[.slice A f.length ca, .slice B s.length cb] 40)).cell? ⟨w.heap.size, 3, none⟩ = some (.int .i64 me1) := cell_alloc _ (cell_new (by simp) rfl)
  have r4 : ((w.alloc (.cells #[.int .i64 mo0, .int .i64 mo1, .int .i64 me0, .int .i64 me1, .int .i64 ra, .int .i64 no, .int .i64 po, .int .i64 ce, .int .i64 st, .int .i64 du] 27)).alloc (.cells #[.slice A f.length ca, .slice B s.length cb] 40)).cell? ⟨w.heap.size, 4, none⟩ = some (.int .i64 ra) := cell_alloc _ (cell_new (by simp) rfl)
  have r5 : ((w.alloc (.cells #[.int .i64 mo0, .int .i64 mo1, .int .i64 me0, .int .i64 me1, .int .i64 ra, .int .i64 no, .int .i64 po, .int .i64 ce, .int .i64 st, .int .i64 du] 27)).alloc (.cells #[.slice A f.length ca, .slice B s.length cb] 40)).cell? ⟨w.heap.size, 5, none⟩ = some (.int .i64 no) := cell_alloc _ (cell_new (by simp) rfl)
  have r6 : ((w.alloc (.cells #[.int .i64 mo0, .int .i64 mo1, .int .i64 me0, .int .i64 me1, .int .i64 ra, .int .i64 no, .int .i64 po, .int .i64 ce, .int .i64 st, .int .i64 du] 27)).alloc (.cells #[.slice A f.length ca, .slice B s.length cb] 40)).cell? ⟨w.heap.size, 6, none⟩ = some (.int .i64 po) := cell_alloc _ (cell_new (by simp) rfl)
  have r7 : ((w.alloc (.cells #[.int .i64 mo0, .int .i64 mo1, .int .i64 me0, .int .i64 me1, .int .i64 ra, .int .i64 no, .int .i64 po, .int .i64 ce, .int .i64 st, .int .i64 du] 27)).alloc (.cells #[.slice A f.length ca, .slice B s.length cb] 40)).cell? ⟨w.heap.size, 7, none⟩ = some (.int .i64 ce) := cell_alloc _ (cell_new (by simp) rfl)
  have r8 : ((w.alloc (.cells #[.int .i64 mo0, .int .i64 mo1, .int .i64 me0, .int .i64 me1, .int .i64 ra, .int .i64 no, .int .i64 po, .int .i64 ce, .int .i64 st, .int .i64 du] 27)).alloc (.cells #[.slice A f.length ca, .slice B s.length cb] 40)).cell? ⟨w.heap.size, 8, none⟩ = some (.int .i64 st) := cell_alloc _ (cell_new (by simp) rfl)
  have r9 : ((w.alloc (.cells #[.int .i64 mo0, .int .i64 mo1, .int .i64 me0, .int .i64 me1, .int .i64 ra, .int .i64 no, .int .i64 po, .int .i64 ce, .int .i64 st, .int .i64 du] 27)).alloc (.cells #[.slice A f.length ca, .slice B s.length cb] 40)).cell? ⟨w.heap.size, 9, none⟩ = some (.int .i64 du) := cell_alloc _ (cell_new (by simp) rfl)
  have zr : w.heap.size < ((w.alloc (.cells #[.int .i64 mo0, .int .i64 mo1, .int .i64 me0, .int .i64 me1, .int .i64 ra, .int .i64 no, .int .i64 po, .int .i64 ce, .int .i64 st, .int .i64 du] 27)).alloc (.cells #[.slice A f.length ca, .slice B s.length cb] 40)).heap.size := World.block_lt_of_cell? _ _ r0
  have y0 : ((w.alloc (.cells #[.int .i64 mo0, .int .i64 mo1, .int .i64 me0, .int .i64 me1, .int .i64 ra, .int .i64 no, .int .i64 po, .int .i64 ce, .int .i64 st, .int .i64 du] 27)).alloc (.cells #[.slice A f.length ca, .slice B s.length cb] 40)).cell? ⟨w.heap.size + 1, 0, none⟩ = some (.slice A f.length ca) := cell_new (by simp) rfl
  have y1 : ((w.alloc (.cells #[.int .i64 mo0, .int .i64 mo1, .int .i64 me0, .int .i64 me1, .int .i64 ra, .int .i64 no, .int .i64 po, .int .i64 ce, .int .i64 st, .int .i64 du] 27)).alloc (.cells #[.slice A f.length ca, .slice B s.length cb] 40)).cell? ⟨w.heap.size + 1, 1, none⟩ = some (.slice B s.length cb) := cell_new (by simp) rfl
  have zy : w.heap.size + 1 < ((w.alloc (.cells #[.int .i64 mo0, .int .i64 mo1, .int .i64 me0, .int .i64 me1, .int .i64 ra, .int .i64 no, .int .i64 po, .int .i64 ce, .int .i64 st, .int .i64 du] 27)).alloc (.cells #[.slice A f.length ca, .slice B s.length cb] 40)).heap.size := World.block_lt_of_cell? _ _ y0
  generalize ((w.alloc (.cells #[.int .i64 mo0, .int .i64 mo1, .int .i64 me0, .int .i64 me1, .int .i64 ra, .int .i64 no, .int .i64 po, .int .i64 ce, .int .i64 st, .int .i64 du] 27)).alloc (.cells #[.slice A f.length ca, .slice B s.length cb] 40)) = w0 at *
  have hA0 := RowsAt.below hA hb0
  have hB0 := RowsAt.below hB hb0
  clear hA hB
  go_wp2_with (fail)
  go_loopw [5, 6] (fun o i wr => ∃ (k : Nat) (A' : Option Addr) (c' : Nat), k ≤ f.length ∧ i = .int .i64 k ∧ o = .slice A' (ek k).length c' ∧ wr.ownsRow w0.heap.size 58 5 (.slice A' (ek k).length c') (ek k).length (cellsOf 5 itC (ek k)) ∧ Below w0.heap.size w0 wr) (fun _ i _ => f.length - (intOf i).toNat)
  case atStart => exact ⟨0, none, 0, Nat.zero_le _, rfl, by rw [HZE.out] <;> rfl, by rw [HZE.out]; exact World.ownsRow_nil _ _ _ _, Below.refl _ _⟩
  case round =>
    obtain ⟨k, A', c', hk, rfl, rfl, own, hbr⟩ := hrel
    obtain ⟨v, rfl⟩ : ∃ v : World, v = wr := ⟨_, rfl⟩
    have OWN := Lib.hid own
    have hlk := HLEN.out k
    clear own
    have hbz : Below w0.heap.size w0 w0 := Below.refl _ _
    have hbv : Below w0.heap.size w0 v := (hbz).trans ((hbr).mono (hbz).size)
    replace r0 := cell_below' hbr r0
    replace r1 := cell_below' hbr r1
    replace r2 := cell_below' hbr r2
    replace r3 := cell_below' hbr r3
    replace r4 := cell_below' hbr r4
    replace r5 := cell_below' hbr r5
    replace r6 := cell_below' hbr r6
    replace r7 := cell_below' hbr r7
    replace r8 := cell_below' hbr r8
    replace r9 := cell_below' hbr r9
    replace zr := Nat.lt_of_lt_of_le zr (hbr).size
    replace y0 := cell_below' hbr y0
    replace y1 := cell_below' hbr y1
    replace zy := Nat.lt_of_lt_of_le zy (hbr).size
    replace hA0 := RowsAt.below hA0 hbr
    replace hB0 := RowsAt.below hB0 hbr
    clear hbr hbz
    by_cases hlt : k < f.length
    · have hlt2 : k < s.length := by have := HEQ.out; omega
      have hik := HITM.out k
      rw [gd_eq hlt, gd_eq hlt2] at hik
      have hie := HISE.out k
      have hyes := HYES.out k
      have hno := HNO.out k
      have s1 := HO1.out _ (List.getElem_mem hlt)
      have s2 := HO2.out _ (List.getElem_mem hlt2)
      have T := Lib.hid (fun W => HT.out f[k] s[k] W s1 s2)
      have H := Lib.hid (fun W => HH.out (k : Int) W (by omega) (by omega))
      have HP1 := Lib.hid (fun W => HP.out (k : Int) (k + 1) W (by omega) (by omega))
      have HP0 := Lib.hid (fun W => HP.out ((k : Int) - 1) k W (by omega) (by omega))
      have HP2 := Lib.hid (fun W => HP.out ((k : Int) + 1) (k + 2) W (by omega) (by omega))
      obtain ⟨b1, o1, rfl, hb1, c0, c1⟩ := GsAt.at_ hA0 hlt
      obtain ⟨b2, o2, rfl, hb2, d0, d1⟩ := GsAt.at_ hB0 hlt2
      generalize f[k] = gx at *
      generalize s[k] = gy at *
      generalize padK f s f.length k = v0 at *
      generalize padK f s f.length (k + 1) = v1 at *
      generalize padK f s f.length (k + 2) = v2 at *
      have HIK := Lib.hid hik
      have HIE := Lib.hid hie
      have HY := Lib.hid hyes
      have HN := Lib.hid hno
      have hk1 : (k : Int) < (f.length : Int) := by omega
      clear hik hie hyes hno s1 s2
      go_wp2_with (fail)
      refine (HP1.out _ hA0 hB0).mono ?_
      rintro e w2 ⟨rfl, kw2⟩
      have OWN_w2 := Lib.hid (own_below OWN.out kw2)
      replace c0 := cell_below' kw2 c0
      replace c1 := cell_below' kw2 c1
      replace d0 := cell_below' kw2 d0
      replace d1 := cell_below' kw2 d1
      replace hb1 := Nat.lt_of_lt_of_le hb1 kw2.size
      replace hb2 := Nat.lt_of_lt_of_le hb2 kw2.size
      have h2 : Below w0.heap.size w0 w2 := (hbv).trans ((kw2).mono (hbv).size)
      replace r0 := cell_below' kw2 r0
      replace r1 := cell_below' kw2 r1
      replace r2 := cell_below' kw2 r2
      replace r3 := cell_below' kw2 r3
      replace r4 := cell_below' kw2 r4
      replace r5 := cell_below' kw2 r5
      replace r6 := cell_below' kw2 r6
      replace r7 := cell_below' kw2 r7
      replace r8 := cell_below' kw2 r8
      replace r9 := cell_below' kw2 r9
      replace zr := Nat.lt_of_lt_of_le zr (kw2).size
      replace y0 := cell_below' kw2 y0
      replace y1 := cell_below' kw2 y1
      replace zy := Nat.lt_of_lt_of_le zy (kw2).size
      replace hA0 := RowsAt.below hA0 kw2
      replace hB0 := RowsAt.below hB0 kw2
      clear kw2 hbv
      clear OWN
      cases e1 : decide (po ≤ v1)
      · have H5 := Lib.hid (HN.out (by rw [HIE.out, e1]; rfl))
        go_wp2_with (fail)
        exact ⟨⟨k + 1, A', c', by omega, by go_num, by rw [← H5.out], by rw [← H5.out]; exact OWN_w2.out, h2⟩, by simp [intOf]; omega⟩
      go_wp2_with (fail)
      refine (HP0.out _ hA0 hB0).mono ?_
      rintro e w3 ⟨rfl, kw3⟩
      have OWN_w3 := Lib.hid (own_below OWN_w2.out kw3)
      replace c0 := cell_below' kw3 c0
      replace c1 := cell_below' kw3 c1
      replace d0 := cell_below' kw3 d0
      replace d1 := cell_below' kw3 d1
      replace hb1 := Nat.lt_of_lt_of_le hb1 kw3.size
      replace hb2 := Nat.lt_of_lt_of_le hb2 kw3.size
      have h3 : Below w0.heap.size w0 w3 := (h2).trans ((kw3).mono (h2).size)
      replace r0 := cell_below' kw3 r0
      replace r1 := cell_below' kw3 r1
      replace r2 := cell_below' kw3 r2
      replace r3 := cell_below' kw3 r3
      replace r4 := cell_below' kw3 r4
      replace r5 := cell_below' kw3 r5
      replace r6 := cell_below' kw3 r6
      replace r7 := cell_below' kw3 r7
      replace r8 := cell_below' kw3 r8
      replace r9 := cell_below' kw3 r9
      replace zr := Nat.lt_of_lt_of_le zr (kw3).size
      replace y0 := cell_below' kw3 y0
      replace y1 := cell_below' kw3 y1
      replace zy := Nat.lt_of_lt_of_le zy (kw3).size
      replace hA0 := RowsAt.below hA0 kw3
      replace hB0 := RowsAt.below hB0 kw3
      clear kw3 h2
      clear OWN_w2
      cases e2 : decide (v0 < v1)
      · have H5 := Lib.hid (HN.out (by rw [HIE.out, e1, e2]; rfl))
        go_wp2_with (fail)
        exact ⟨⟨k + 1, A', c', by omega, by go_num, by rw [← H5.out], by rw [← H5.out]; exact OWN_w3.out, h3⟩, by simp [intOf]; omega⟩
      go_wp2_with (fail)
      refine (HP2.out _ hA0 hB0).mono ?_
      rintro e w4 ⟨rfl, kw4⟩
      have OWN_w4 := Lib.hid (own_below OWN_w3.out kw4)
      replace c0 := cell_below' kw4 c0
      replace c1 := cell_below' kw4 c1
      replace d0 := cell_below' kw4 d0
      replace d1 := cell_below' kw4 d1
      replace hb1 := Nat.lt_of_lt_of_le hb1 kw4.size
      replace hb2 := Nat.lt_of_lt_of_le hb2 kw4.size
      have h4 : Below w0.heap.size w0 w4 := (h3).trans ((kw4).mono (h3).size)
      replace r0 := cell_below' kw4 r0
      replace r1 := cell_below' kw4 r1
      replace r2 := cell_below' kw4 r2
      replace r3 := cell_below' kw4 r3
      replace r4 := cell_below' kw4 r4
      replace r5 := cell_below' kw4 r5
      replace r6 := cell_below' kw4 r6
      replace r7 := cell_below' kw4 r7
      replace r8 := cell_below' kw4 r8
      replace r9 := cell_below' kw4 r9
      replace zr := Nat.lt_of_lt_of_le zr (kw4).size
      replace y0 := cell_below' kw4 y0
      replace y1 := cell_below' kw4 y1
      replace zy := Nat.lt_of_lt_of_le zy (kw4).size
      replace hA0 := RowsAt.below hA0 kw4
      replace hB0 := RowsAt.below hB0 kw4
      clear kw4 h3
      clear OWN_w3
      cases e3 : decide (v2 ≤ v1)
      · have H5 := Lib.hid (HN.out (by rw [HIE.out, e1, e2, e3]; rfl))
        go_wp2_with (fail)
        exact ⟨⟨k + 1, A', c', by omega, by go_num, by rw [← H5.out], by rw [← H5.out]; exact OWN_w4.out, h4⟩, by simp [intOf]; omega⟩
      have H5 := Lib.hid (HY.out (by rw [HIE.out, e1, e2, e3]; rfl))
      rw [HIK.out] at H5
      clear HY HN HIE HIK HP0 HP1 HP2 hA0 hB0
      go_upto_region 7 with (fail)
      (refine region_alloc (T := ?_) (obj := (.cells #[.int .i64 k, .int .i64 v1, .int .i64 (tg gx gy), .int .i64 (hg k).re, .int .i64 (hg k).im] 58)) (val := (fun nb => .slice (some ⟨nb, 0, none⟩) 1 1)) 20 58 (by kernel_rfl) (by kernel_rfl) rfl rfl rfl (Nat.le_of_ble_eq_true rfl) ?_ ?_ ?_; rotate_left 1)
      focus (intro W0 hB0 hx; simp only [List.take_succ_cons, List.take_zero]; (repeat (any_goals (first | go_big_quiet_step (first | ((go_at_call 71; with_reducible exact ext_call (T.out _))) | ((go_at_call 72; with_reducible exact ext_call (H.out _)))) | quiet_step (first | ((go_at_call 71; with_reducible exact ext_call (T.out _))) | ((go_at_call 72; with_reducible exact ext_call (H.out _))))))); refine wpQuiet_nil ?_; exact rfl)
      focus (intro W; go_simp; done)
      (intro W0 w6 hB0 hB1; obtain ⟨hbw6, hnw6, hsw6, hkw6⟩ := alloc_out hB0 hB1; clear hB0 hB1; simp only [List.drop_succ_cons, List.drop_zero]; generalize W0.heap.size = nb at *; clear W0)
      have OWN6 := Lib.hid (own_below OWN_w4.out hbw6)
      have hbr6 : Below w0.heap.size w0 w6 := h4.trans (hbw6.mono h4.size)
      have z6 := hbr6.size
      have HNW := Lib.hid (newsIt (x := ⟨k, v1, tg gx gy, (hg k).re, (hg k).im⟩) hkw6)
      clear hbw6 h4 OWN_w4 hkw6 hnw6 hsw6
      generalize ek k = out at *
      go_wp2_with (at_builtin; (refine wpList_append_rows _ rfl (.tmp 38) (.tmp 58) 51 rfl w0.heap.size 58 i0 (.agg #[.int .i64 0, .int .i64 0, .int .i64 0, .int .i64 0, .int .i64 0]) 5 40 Tryz.underlying51 HI.out HZ0.out HZ1.out HZ2.out rfl (by decide) A' out.length c' (cellsOf 5 itC out) rfl OWN6.out (some ⟨nb, 0, none⟩) 1 1 [.int .i64 k, .int .i64 v1, .int .i64 (tg gx gy), .int .i64 (hg k).re, .int .i64 (hg k).im] rfl rfl (fun h => by cases h) (fun ad h => by cases h; exact HNW.out) (fun u hu => by simp at hu; rcases hu with rfl | rfl | rfl | rfl | rfl <;> rfl) (by unfold maxLen; omega) (by omega) (by omega) ?_; intro A2' c2' w7 h1 h2 h3))
      have hL : (out ++ [⟨k, v1, tg gx gy, (hg k).re, (hg k).im⟩] : List It).length = out.length + 1 := by simp
      have h4 : w7.ownsRow w0.heap.size 58 5 (.slice A2' (out ++ [⟨k, v1, tg gx gy, (hg k).re, (hg k).im⟩] : List It).length c2') (out ++ [⟨k, v1, tg gx gy, (hg k).re, (hg k).im⟩] : List It).length (cellsOf 5 itC (out ++ [⟨k, v1, tg gx gy, (hg k).re, (hg k).im⟩])) := by rw [hL, cellsOf_append]; exact h1
      have h5 : Below w0.heap.size w0 w7 := below_own hbr6 h2 OWN6.out (Nat.le_refl _) (by omega)
      rw [H5.out] at h4 hL
      have HL := Lib.hid hL
      clear h1 h2 h3 hL H5 OWN6
      go_wp2_with (fail)
      exact ⟨⟨k + 1, A2', c2', by omega, by go_num, by rw [HL.out], h4, h5⟩, by simp [intOf]; omega⟩
    · have hkn : k = f.length := by omega
      subst hkn
      have hA3 : ItsAt v A' (ek f.length) := rowsAt_of_own OWN.out rfl (by decide)
      have HA3 := Lib.hid hA3
      clear OWN hA3
      go_wp2_with (fail)
      go_ret
      rw [HEA.out]
      exact ⟨A', c', rfl, HA3.out, hb0.trans (hbv.mono hb0.size)⟩
theorem neIt (a : It) (w : World) : (binOp .neq 58 (.agg #[.int .i64 a.l, .int .i64 a.p, .int .i64 a.t, .int .i64 a.lo, .int .i64 a.hi]) (.agg #[.int .i64 a.l, .int .i64 a.p, .int .i64 a.t, .int .i64 a.lo, .int .i64 a.hi])).run Tryz.prog w = .ok (.bool false) w := by
  go_simp
set_option maxHeartbeats 1000000 in
theorem SameEchoes_refl (A B : Option Addr) (l : List It) (ca cb : Nat) (w : World) (hl : l.length ≤ 1000) (hA : ItsAt w A l) (hB : ItsAt w B l) :
    Calls Tryz.prog 21 #[.slice A l.length ca, .slice B l.length cb] w fun e w' => e = .returned (.bool true) ∧ Below w.heap.size w w' := by
  go_enter Tryz.func21, Tryz.ntmps21
  go_wp2
  go_loopw [5] (fun i wr => ∃ k : Nat, k ≤ l.length ∧ i = .int .i64 k ∧ Below w.heap.size w wr) (fun i _ => l.length - (intOf i).toNat)
  case atStart => exact ⟨0, Nat.zero_le _, rfl, Below.refl _ _⟩
  case round =>
    obtain ⟨k, hk, rfl, hbw⟩ := hrel
    have hAr := RowsAt.below hA hbw
    have hBr := RowsAt.below hB hbw
    by_cases hlt : k < l.length
    · obtain ⟨b1, o1, rfl, hb1, c0, c1, c2, c3, c4⟩ := ItsAt.at_ hAr hlt
      obtain ⟨b2, o2, rfl, hb2, d0, d1, d2, d3, d4⟩ := ItsAt.at_ hBr hlt
      generalize l[k] = p at *
      go_wp2
      go_quiet (fail)
      go_wp2
      go_roundw
      case rel => exact ⟨k + 1, by omega, by go_num, (by repeat (first | assumption | exact Below.refl _ _ | refine Below.drew ?_ | (refine below_alloc _ ?_ ?_; focus (first | omega | (simp; done) | (simp; omega) | (simp at *; omega))) | (refine below_set _ ?_ ?_; focus (first | omega | (simp; done) | (simp; omega) | (simp at *; omega))) | refine below_drewN ?_ _ | (refine below_call (by assumption) ?_ ?_; focus (first | omega | (simp; done) | (simp; omega) | (simp at *; omega))) | (refine below_call' (by assumption) ?_ ?_; focus (first | omega | (simp; done) | (simp; omega) | (simp at *; omega)))))⟩
      case measure => simp [intOf]; omega
    · go_wp2
      go_ret
      exact ⟨rfl, (by repeat (first | assumption | exact Below.refl _ _ | refine Below.drew ?_ | (refine below_alloc _ ?_ ?_; focus (first | omega | (simp; done) | (simp; omega) | (simp at *; omega))) | (refine below_set _ ?_ ?_; focus (first | omega | (simp; done) | (simp; omega) | (simp at *; omega))) | refine below_drewN ?_ _ | (refine below_call (by assumption) ?_ ?_; focus (first | omega | (simp; done) | (simp; omega) | (simp at *; omega))) | (refine below_call' (by assumption) ?_ ?_; focus (first | omega | (simp; done) | (simp; omega) | (simp at *; omega)))))⟩
end Go.Proofs.YtppghnbabnhnbaaGreatDoor
