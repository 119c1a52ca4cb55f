/-
  Chapter 2: samples, readings: lists of them, copies, errors.
-/
import Derived.Test.YtlnbbioponmcfaaDoorEGau
import Derived.Test.YtlnbbioponmcfaaDoorOrdF
import Derived.Deep.RegionHeld3
namespace Go.Proofs.YtlnbbioponmcfaaDoor
open Go.ChangeShapes Go.WideShapes Go.ChangeAt Go.RowKit
set_option linter.unusedVariables false
set_option linter.unusedSimpArgs false

def gC (x : Gs) (j : Nat) : Value := match j with
  | 0 => .int .i64 x.re
  | _ => .int .i64 x.im
abbrev GsAt := RowsAt 2 gC
theorem GsAt.at_ {w : World} {A : Option Addr} {l : List Gs} (h : GsAt w A l) {k : Nat} (hk : k < l.length) :
    ∃ b off, A = some ⟨b, off, none⟩ ∧ b < w.heap.size ∧ w.cell? ⟨b, off + k * 2, none⟩ = some (.int .i64 l[k].re) ∧ w.cell? ⟨b, off + k * 2 + 1, none⟩ = some (.int .i64 l[k].im) := by
  obtain ⟨b, off, e, hb, hc⟩ := h k l[k] (List.getElem?_eq_getElem hk)
  exact ⟨b, off, e, hb, by simpa [gC] using hc 0 (by omega), by simpa [gC] using hc 1 (by omega)⟩
theorem gC_one (x : Gs) (i : Nat) : (gC x i).oneCell' = true := by unfold gC; split <;> rfl
theorem infoGs : (Tryd.prog.info? 30).map (fun i => (i.zero, i.size, i.bytes)) = some (some (.agg #[.int .i64 0, .int .i64 0]), 2, 16) := by kernel_rfl
theorem infoGs_ : ∃ i : TypeInfo, Tryd.prog.info? 30 = some i ∧ i.zero = some (.agg #[.int .i64 0, .int .i64 0]) ∧ i.size = 2 ∧ i.bytes = 16 := by
  have h := infoGs
  cases hi : Tryd.prog.info? 30 with
  | none => rw [hi] at h; cases h
  | some i =>
    rw [hi] at h
    simp only [Option.map_some, Option.some.injEq, Prod.mk.injEq] at h
    exact ⟨i, rfl, h.1, h.2.1, h.2.2⟩
theorem memOneGs {l : List Gs} : ∀ u ∈ cellsOf 2 gC l, u.oneCell' = true := cellsOf_one gC_one (by decide) l
def CopyGPost (l : List Gs) (w : World) (e : Ending) (w' : World) : Prop :=
  ∃ A' c', e = .returned (.slice A' l.length c') ∧ w'.ownsRow w.heap.size 30 2 (.slice A' l.length c') l.length (cellsOf 2 gC l) ∧ Below w.heap.size w w'
theorem CopyGPost.rows {l : List Gs} {w : World} {e : Ending} {w' : World} (h : CopyGPost l w e w') : ∃ A' c', e = .returned (.slice A' l.length c') ∧ GsAt w' A' l ∧ Below w.heap.size w w' := by
  obtain ⟨A', c', e, o, b⟩ := h
  exact ⟨A', c', e, rowsAt_of_own o rfl (by decide), b⟩
set_option maxHeartbeats 1000000 in
theorem CopyG_any (B : Option Addr) (l : List Gs) (cap : Nat) (w : World) (hl : l.length ≤ 1000) (hB : GsAt w B l) :
    Calls Tryd.prog 7 #[.slice B l.length cap] w (CopyGPost l w) := by
  obtain ⟨i0, hi0, hz0, hz1, hz2⟩ := infoGs_
  go_enter Tryd.func7, Tryd.ntmps7
  go_wp2_with (at_builtin; (refine wpList_append_rows _ rfl (.tmp 3) (.tmp 4) 28 rfl w.heap.size 30 i0 (.agg #[.int .i64 0, .int .i64 0]) 2 16 Tryd.underlying28 hi0 hz0 hz1 hz2 rfl (by decide) (some ⟨w.heap.size, 0, none⟩) 0 0 [] rfl (own_empty (Nat.le_refl _) (heap_alloc_new _ _)) B l.length cap (cellsOf 2 gC l) rfl (cellsOf_length l) (fun e => by subst e; exact RowsAt.nil_len hB) (fun ad e => by subst e; exact RowsAt.news (RowsAt.below hB (by repeat (first | assumption | exact Below.refl _ _ | refine Below.drew ?_ | (refine below_alloc _ ?_ ?_; focus (first | omega | (simp; done) | (simp; omega) | (simp at *; omega))) | (refine below_set _ ?_ ?_; focus (first | omega | (simp; done) | (simp; omega) | (simp at *; omega))) | refine below_drewN ?_ _ | (refine below_call (by assumption) ?_ ?_; focus (first | omega | (simp; done) | (simp; omega) | (simp at *; omega))) | (refine below_call' (by assumption) ?_ ?_; focus (first | omega | (simp; done) | (simp; omega) | (simp at *; omega)))))) (by decide)) memOneGs (by unfold maxLen; omega) (by omega) (by simp) ?_; intro A' c' w1 hown hg _; rw [Nat.zero_add, List.nil_append] at hown; (try rw [Nat.zero_add]); have hb1 : Below w.heap.size w w1 := grown_below hg (by omega) (by omega) (by repeat (first | assumption | exact Below.refl _ _ | refine Below.drew ?_ | (refine below_alloc _ ?_ ?_; focus (first | omega | (simp; done) | (simp; omega) | (simp at *; omega))) | (refine below_set _ ?_ ?_; focus (first | omega | (simp; done) | (simp; omega) | (simp at *; omega))) | refine below_drewN ?_ _ | (refine below_call (by assumption) ?_ ?_; focus (first | omega | (simp; done) | (simp; omega) | (simp at *; omega))) | (refine below_call' (by assumption) ?_ ?_; focus (first | omega | (simp; done) | (simp; omega) | (simp at *; omega))))); clear hg))
  go_ret
  exact ⟨A', c', rfl, hown, hb1⟩
set_option maxHeartbeats 1000000 in
theorem Gausses_refl (A B : Option Addr) (l : List Gs) (ca cb : Nat) (w : World) (hl : l.length ≤ 1000) (hA : GsAt w A l) (hB : GsAt w B l) :
    Calls Tryd.prog 13 #[.slice A l.length ca, .slice B l.length cb] w fun e w' => e = .returned (.bool true) ∧ Below w.heap.size w w' := by
  go_enter Tryd.func13, Tryd.ntmps13
  go_wp2
  go_loopw [5] (fun i wr => ∃ k : Nat, k ≤ l.length ∧ i = .int .i64 k ∧ Below w.heap.size w wr) (fun i _ => l.length - (intOf i).toNat)
  case atStart => exact ⟨0, Nat.zero_le _, rfl, Below.refl _ _⟩
  case round =>
    obtain ⟨k, hk, rfl, hbw⟩ := hrel
    have hAr := hA.below hbw
    have hBr := hB.below hbw
    by_cases hlt : k < l.length
    · obtain ⟨b1, o1, rfl, hb1, c0, c1⟩ := GsAt.at_ hAr hlt
      obtain ⟨b2, o2, rfl, hb2, d0, d1⟩ := GsAt.at_ hBr hlt
      generalize l[k] = p at *
      go_wp2
      go_quiet (fail)
      go_wp2
      go_roundw
      case rel => exact ⟨k + 1, by omega, by go_num, (by repeat (first | assumption | exact Below.refl _ _ | refine Below.drew ?_ | (refine below_alloc _ ?_ ?_; focus (first | omega | (simp; done) | (simp; omega) | (simp at *; omega))) | (refine below_set _ ?_ ?_; focus (first | omega | (simp; done) | (simp; omega) | (simp at *; omega))) | refine below_drewN ?_ _ | (refine below_call (by assumption) ?_ ?_; focus (first | omega | (simp; done) | (simp; omega) | (simp at *; omega))) | (refine below_call' (by assumption) ?_ ?_; focus (first | omega | (simp; done) | (simp; omega) | (simp at *; omega)))))⟩
      case measure => simp [intOf]; omega
    · go_wp2
      go_ret
      exact ⟨rfl, (by repeat (first | assumption | exact Below.refl _ _ | refine Below.drew ?_ | (refine below_alloc _ ?_ ?_; focus (first | omega | (simp; done) | (simp; omega) | (simp at *; omega))) | (refine below_set _ ?_ ?_; focus (first | omega | (simp; done) | (simp; omega) | (simp at *; omega))) | refine below_drewN ?_ _ | (refine below_call (by assumption) ?_ ?_; focus (first | omega | (simp; done) | (simp; omega) | (simp at *; omega))) | (refine below_call' (by assumption) ?_ ?_; focus (first | omega | (simp; done) | (simp; omega) | (simp at *; omega)))))⟩
/-- a reading: its spacing, its phase, its error -/
structure Rd where
  s : Int
  p : Int
  e : Int
abbrev rv (r : Rd) : Value := .agg #[.int .i64 r.s, .int .i64 r.p, .int .i64 r.e]
def rdC (x : Rd) (j : Nat) : Value := match j with
  | 0 => .int .i64 x.s
  | 1 => .int .i64 x.p
  | _ => .int .i64 x.e
abbrev RdsAt := RowsAt 3 rdC
theorem RdsAt.at_ {w : World} {A : Option Addr} {l : List Rd} (h : RdsAt w A l) {k : Nat} (hk : k < l.length) :
    ∃ b off, A = some ⟨b, off, none⟩ ∧ b < w.heap.size ∧ w.cell? ⟨b, off + k * 3, none⟩ = some (.int .i64 l[k].s) ∧ w.cell? ⟨b, off + k * 3 + 1, none⟩ = some (.int .i64 l[k].p) ∧ w.cell? ⟨b, off + k * 3 + 2, none⟩ = some (.int .i64 l[k].e) := by
  obtain ⟨b, off, e, hb, hc⟩ := h k l[k] (List.getElem?_eq_getElem hk)
  exact ⟨b, off, e, hb, by simpa [rdC] using hc 0 (by omega), by simpa [rdC] using hc 1 (by omega), by simpa [rdC] using hc 2 (by omega)⟩
theorem rdC_one (x : Rd) (i : Nat) : (rdC x i).oneCell' = true := by unfold rdC; split <;> rfl
theorem infoRd : (Tryd.prog.info? 89).map (fun i => (i.zero, i.size, i.bytes)) = some (some (.agg #[.int .i64 0, .int .i64 0, .int .i64 0]), 3, 24) := by kernel_rfl
theorem infoRd_ : ∃ i : TypeInfo, Tryd.prog.info? 89 = some i ∧ i.zero = some (.agg #[.int .i64 0, .int .i64 0, .int .i64 0]) ∧ i.size = 3 ∧ i.bytes = 24 := by
  have h := infoRd
  cases hi : Tryd.prog.info? 89 with
  | none => rw [hi] at h; cases h
  | some i =>
    rw [hi] at h
    simp only [Option.map_some, Option.some.injEq, Prod.mk.injEq] at h
    exact ⟨i, rfl, h.1, h.2.1, h.2.2⟩
theorem memOneRd {l : List Rd} : ∀ u ∈ cellsOf 3 rdC l, u.oneCell' = true := cellsOf_one rdC_one (by decide) l
def CopyRPost (l : List Rd) (w : World) (e : Ending) (w' : World) : Prop :=
  ∃ A' c', e = .returned (.slice A' l.length c') ∧ w'.ownsRow w.heap.size 89 3 (.slice A' l.length c') l.length (cellsOf 3 rdC l) ∧ Below w.heap.size w w'
theorem CopyRPost.rows {l : List Rd} {w : World} {e : Ending} {w' : World} (h : CopyRPost l w e w') : ∃ A' c', e = .returned (.slice A' l.length c') ∧ RdsAt w' A' l ∧ Below w.heap.size w w' := by
  obtain ⟨A', c', e, o, b⟩ := h
  exact ⟨A', c', e, rowsAt_of_own o rfl (by decide), b⟩
def clipI (n : Int) : Int := if withinB n (-4000000000) 4000000000 = true then n else 4000000000
theorem clip_any (n : Int) (w : World) :
    Calls Tryd.prog 54 #[.int .i64 n] w fun e w' => e = .returned (.int .i64 (clipI n)) ∧ w = w' := by
  have hq : clipI n = if withinB n (-4000000000) 4000000000 = true then n else 4000000000 := rfl
  cases hb : withinB n (-4000000000) 4000000000
  all_goals
    rw [hb] at hq
    have HQ := Lib.hid hq
    have H := Lib.hid hb
    clear hb hq
    go_enter Tryd.func54, Tryd.ntmps54
    go_wp2_with (go_at_call 25; refine (Within_any _ _ _ _).mono ?_; rintro e w' ⟨rfl, rfl⟩; rw [H.out])
    go_ret
    exact ⟨ret_int (by rw [HQ.out]; rfl), rfl⟩
theorem clip_bd (n : Int) : -4000000000 ≤ clipI n ∧ clipI n ≤ 4000000000 := by
  unfold clipI
  split
  · rename_i h; rw [withinB_true] at h; omega
  · omega
def absI (n : Int) : Int := if n < -n then -n else n
theorem absI_nn (n : Int) : 0 ≤ absI n := by unfold absI; split <;> omega
theorem absI_le {n m : Int} : absI n ≤ m ↔ -m ≤ n ∧ n ≤ m := by unfold absI; split <;> omega
theorem Size_any (n : Int) (w : World) (h1 : -1000000000000 ≤ n) (h2 : n ≤ 1000000000000) :
    Calls Tryd.prog 26 #[.int .i64 n] w fun e w' => e = .returned (.int .i64 (absI n)) ∧ w = w' := by
  have ha : absI n = if n < -n then -n else n := rfl
  have HA := Lib.hid ha
  clear ha
  go_enter Tryd.func26, Tryd.ntmps26
  go_wp2
  all_goals
    go_ret
    exact ⟨ret_eq (by rw [HA.out]; first | (simp [*]; done) | (simp [*]; omega)), rfl⟩
/-- the greater size of both parts -/
def gprt (g : Gs) : Int := if absI g.re < absI g.im then absI g.im else absI g.re
theorem gprt_le {g : Gs} {m : Int} : gprt g ≤ m ↔ Sz m g := by
  have h1 := @absI_le g.re m
  have h2 := @absI_le g.im m
  unfold gprt
  constructor
  · intro h
    have : absI g.re ≤ m ∧ absI g.im ≤ m := by split at h <;> omega
    obtain ⟨k1, k2⟩ := this
    rw [h1] at k1
    rw [h2] at k2
    exact ⟨k1.1, k1.2, k2.1, k2.2⟩
  · rintro ⟨a, b, c, d⟩
    have k1 := h1.2 ⟨a, b⟩
    have k2 := h2.2 ⟨c, d⟩
    split <;> omega
set_option maxHeartbeats 1000000 in
theorem GPart_any (g : Gs) (w : World) (h : Sz 100000000000 g) :
    Calls Tryd.prog 6 #[gv g] w fun e w' => e = .returned (.int .i64 (gprt g)) ∧ Below w.heap.size w w' := by
  have hq : gprt g = if absI g.re < absI g.im then absI g.im else absI g.re := rfl
  have H1 := Lib.hid (fun W => Size_any g.re W (by have := h.r0; omega) (by have := h.r1; omega))
  have H2 := Lib.hid (fun W => Size_any g.im W (by have := h.i0; omega) (by have := h.i1; omega))
  obtain ⟨a, b⟩ := g
  simp only [gv] at *
  generalize absI a = x at *
  generalize absI b = y at *
  have HQ := Lib.hid hq
  clear hq h
  go_enter Tryd.func6, Tryd.ntmps6
  go_wp2_with (fail)
  (refine region_extx 6 (by kernel_rfl) (by kernel_rfl) fun hx => ?_; simp only [List.take_succ_cons, List.take_zero, List.drop_succ_cons, List.drop_zero]; (repeat (any_goals (first | go_big_quiet_step ((first | ((go_at_call 26; with_reducible exact ext_same (H1.out _))) | ((go_at_call 26; with_reducible exact ext_same (H2.out _))))) | quiet_step ((first | ((go_at_call 26; with_reducible exact ext_same (H1.out _))) | ((go_at_call 26; with_reducible exact ext_same (H2.out _)))))))))
  (refine wpQuiet_nil ?_; clear hx; intro u; have hbw2 := ext_bel _ u; have hxw2 := ext_cell _ u; generalize ext _ u = w2 at *; clear u; have hsw2 := hbw2.size; (try simp at hsw2))
  go_wp2_with (fail)
  all_goals
    go_ret
    exact ⟨ret_int (by rw [HQ.out]; first | (rw [if_pos (by omega)]; done) | (rw [if_neg (by omega)]; done)), (by repeat (first | assumption | exact Below.refl _ _ | refine Below.drew ?_ | (refine below_alloc _ ?_ ?_; focus (first | omega | (simp; done) | (simp; omega) | (simp at *; omega))) | (refine below_set _ ?_ ?_; focus (first | omega | (simp; done) | (simp; omega) | (simp at *; omega))) | refine below_drewN ?_ _ | (refine below_call (by assumption) ?_ ?_; focus (first | omega | (simp; done) | (simp; omega) | (simp at *; omega))) | (refine below_call' (by assumption) ?_ ?_; focus (first | omega | (simp; done) | (simp; omega) | (simp at *; omega)))))⟩
theorem clip_prt (g : Gs) : decide (10000 < gprt ⟨clipI g.re, clipI g.im⟩) = !(prtB 10000 g) := by
  have h := @gprt_le ⟨clipI g.re, clipI g.im⟩ 10000
  have k : Sz 10000 ⟨clipI g.re, clipI g.im⟩ ↔ Sz 10000 g := by
    constructor
    · rintro ⟨a, b, c, d⟩
      simp only [clipI] at a b c d
      by_cases h1 : withinB g.re (-4000000000) 4000000000 = true <;> by_cases h2 : withinB g.im (-4000000000) 4000000000 = true
      · rw [if_pos h1] at a b; rw [if_pos h2] at c d; exact ⟨a, b, c, d⟩
      · rw [if_neg h2] at d; omega
      · rw [if_neg h1] at b; omega
      · rw [if_neg h1] at b; omega
    · rintro ⟨a, b, c, d⟩
      have h1 : withinB g.re (-4000000000) 4000000000 = true := by rw [withinB_true]; omega
      have h2 : withinB g.im (-4000000000) 4000000000 = true := by rw [withinB_true]; omega
      have e1 : clipI g.re = g.re := if_pos h1
      have e2 : clipI g.im = g.im := if_pos h2
      rw [e1, e2]
      exact ⟨a, b, c, d⟩
  cases hb : prtB 10000 g
  · have : ¬ Sz 10000 g := fun hs => by rw [prtB_of hs] at hb; cases hb
    rw [← k, ← h] at this
    simp; omega
  · have := prtB_true hb
    rw [← k, ← h] at this
    simp; omega
set_option maxHeartbeats 1000000 in
theorem RSampleErr_any (g : Gs) (w : World) :
    Calls Tryd.prog 35 #[gv g] w fun e w' => e = .returned (.int .i64 (smpE g)) ∧ Below w.heap.size w w' := by
  have hq : smpE g = unl (prtB 10000 g) 2 := rfl
  have hp := clip_prt g
  have c1 := clip_bd g.re
  have c2 := clip_bd g.im
  have H1 := Lib.hid (fun W => clip_any g.re W)
  have H2 := Lib.hid (fun W => clip_any g.im W)
  have H3 := Lib.hid (fun W => GPart_any ⟨clipI g.re, clipI g.im⟩ W ⟨by simp only; omega, by simp only; omega, by simp only; omega, by simp only; omega⟩)
  obtain ⟨a, b⟩ := g
  simp only [gv] at *
  generalize gprt ⟨clipI a, clipI b⟩ = x at *
  generalize clipI a = x1 at *
  generalize clipI b = x2 at *
  cases hb : prtB 10000 ⟨a, b⟩
  all_goals
    rw [hb] at hq
    rw [hb] at hp
    simp only [Bool.not_false, Bool.not_true] at hp
    have HQ := Lib.hid hq
    clear hb hq c1 c2
    go_enter Tryd.func35, Tryd.ntmps35
    go_wp2_with (fail)
    (refine region_extx 8 (by kernel_rfl) (by kernel_rfl) fun hx => ?_; simp only [List.take_succ_cons, List.take_zero, List.drop_succ_cons, List.drop_zero]; (repeat (any_goals (first | go_big_quiet_step ((first | ((go_at_call 54; with_reducible exact ext_same (H1.out _))) | ((go_at_call 54; with_reducible exact ext_same (H2.out _))) | ((go_at_call 6; with_reducible exact ext_call (H3.out _))))) | quiet_step ((first | ((go_at_call 54; with_reducible exact ext_same (H1.out _))) | ((go_at_call 54; with_reducible exact ext_same (H2.out _))) | ((go_at_call 6; with_reducible exact ext_call (H3.out _)))))))))
    (refine wpQuiet_nil ?_; clear hx; intro u; have hbw2 := ext_bel _ u; have hxw2 := ext_cell _ u; generalize ext _ u = w2 at *; clear u; have hsw2 := hbw2.size; (try simp at hsw2))
    go_wp2_with (fail)
    go_ret
    exact ⟨ret_int (by rw [HQ.out]; rfl), (by repeat (first | assumption | exact Below.refl _ _ | refine Below.drew ?_ | (refine below_alloc _ ?_ ?_; focus (first | omega | (simp; done) | (simp; omega) | (simp at *; omega))) | (refine below_set _ ?_ ?_; focus (first | omega | (simp; done) | (simp; omega) | (simp at *; omega))) | refine below_drewN ?_ _ | (refine below_call (by assumption) ?_ ?_; focus (first | omega | (simp; done) | (simp; omega) | (simp at *; omega))) | (refine below_call' (by assumption) ?_ ?_; focus (first | omega | (simp; done) | (simp; omega) | (simp at *; omega)))))⟩
/-- the error of a sample of two antennas -/
def pairE (x y : Gs) : Int := firstE [smpE x, smpE y]
theorem pairE_zero {x y : Gs} (h : pairE x y = 0) : Sz 10000 x ∧ Sz 10000 y := by
  unfold pairE at h
  by_cases hx : smpE x = 0
  · rw [hx, firstE_z, firstE1] at h
    exact ⟨smpE_zero hx, smpE_zero h⟩
  · rw [firstE_nz hx] at h; exact absurd h hx
theorem pairE_cases (x y : Gs) : pairE x y = 0 ∨ pairE x y = 2 := by
  unfold pairE
  rcases smpE_cases x with h | h
  · rw [h, firstE_z, firstE1]; exact smpE_cases y
  · rw [firstE_nz (by omega)]; exact .inr h
abbrev gv2 (x y : Gs) : Value := .agg #[.int .i64 x.re, .int .i64 x.im, .int .i64 y.re, .int .i64 y.im]
set_option maxHeartbeats 1000000 in
theorem bothErr_any (x y : Gs) (w : World) :
    Calls Tryd.prog 43 #[gv2 x y] w fun e w' => e = .returned (.int .i64 (pairE x y)) ∧ Below w.heap.size w w' := by
  have hq : pairE x y = firstE [smpE x, smpE y] := rfl
  have HQ := Lib.hid hq
  have H1 := Lib.hid (fun W => sampleErr_any x W)
  have H2 := Lib.hid (fun W => sampleErr_any y W)
  clear hq
  generalize smpE x = e1 at *
  generalize smpE y = e2 at *
  obtain ⟨x0, x1⟩ := x
  obtain ⟨y0, y1⟩ := y
  simp only [gv, gv2] at *
  go_enter Tryd.func43, Tryd.ntmps43
  go_wp2_with (fail)
  (refine region_extx 6 (by kernel_rfl) (by kernel_rfl) fun hx => ?_; simp only [List.take_succ_cons, List.take_zero, List.drop_succ_cons, List.drop_zero]; (repeat (any_goals (first | go_big_quiet_step ((first | ((go_at_call 53; with_reducible exact ext_call (H1.out _))) | ((go_at_call 53; with_reducible exact ext_call (H2.out _))))) | quiet_step ((first | ((go_at_call 53; with_reducible exact ext_call (H1.out _))) | ((go_at_call 53; with_reducible exact ext_call (H2.out _)))))))))
  (refine wpQuiet_nil ?_; clear hx; intro u; have hbw2 := ext_bel _ u; have hxw2 := ext_cell _ u; generalize ext _ u = w2 at *; clear u; have hsw2 := hbw2.size; (try simp at hsw2))
  go_wp2_with (go_at_call 27; refine (first2 _ _ _ _ (by simp) (cell_new (by simp) rfl) (cell_new (by simp) rfl)).mono ?_; rintro e w' ⟨rfl, rfl⟩)
  go_ret
  exact ⟨ret_int (by rw [HQ.out]), (by repeat (first | assumption | exact Below.refl _ _ | refine Below.drew ?_ | (refine below_alloc _ ?_ ?_; focus (first | omega | (simp; done) | (simp; omega) | (simp at *; omega))) | (refine below_set _ ?_ ?_; focus (first | omega | (simp; done) | (simp; omega) | (simp at *; omega))) | refine below_drewN ?_ _ | (refine below_call (by assumption) ?_ ?_; focus (first | omega | (simp; done) | (simp; omega) | (simp at *; omega))) | (refine below_call' (by assumption) ?_ ?_; focus (first | omega | (simp; done) | (simp; omega) | (simp at *; omega)))))⟩
/-- the error of samples -/
def smpsG (l : List Gs) : Int := firstE (l.map smpE)
theorem smpsG_cons (x : Gs) (r : List Gs) : smpsG (x :: r) = if smpE x = 0 then smpsG r else smpE x := rfl
theorem smpsG_zero {l : List Gs} (h : smpsG l = 0) : ∀ x ∈ l, Sz 10000 x := by
  induction l with
  | nil => intro x hx; cases hx
  | cons y r ih =>
    rw [smpsG_cons] at h
    by_cases hy : smpE y = 0
    · rw [if_pos hy] at h
      intro x hx
      rcases List.mem_cons.1 hx with rfl | hx
      · exact smpE_zero hy
      · exact ih h x hx
    · rw [if_neg hy] at h; exact absurd h hy
theorem smpsG_of {l : List Gs} (h : ∀ x ∈ l, Sz 10000 x) : smpsG l = 0 := by
  induction l with
  | nil => rfl
  | cons y r ih => rw [smpsG_cons, if_pos (smpE_of (h y (List.mem_cons_self ..)))]; exact ih fun x hx => h x (List.mem_cons_of_mem _ hx)
def smpsE (l : List Gs) : Int := firstE [unl (decide (l.length ≤ 64)) 8, smpsG l]
theorem smpsE_zero {l : List Gs} (h : smpsE l = 0) : l.length ≤ 64 ∧ ∀ x ∈ l, Sz 10000 x := by
  unfold smpsE at h
  by_cases hl : l.length ≤ 64
  · rw [decide_eq_true hl, unl_true, firstE_z, firstE1] at h
    exact ⟨hl, smpsG_zero h⟩
  · rw [decide_eq_false hl, unl_false, firstE_nz (by decide)] at h
    cases h
theorem smpsE_of {l : List Gs} (h1 : l.length ≤ 64) (h2 : ∀ x ∈ l, Sz 10000 x) : smpsE l = 0 := by
  unfold smpsE
  rw [decide_eq_true h1, unl_true, firstE_z, firstE1, smpsG_of h2]
set_option maxHeartbeats 1000000 in
theorem eachG_any (A : Option Addr) (l : List Gs) (cap : Nat) (w : World) (hl : l.length ≤ 1000) (hA : GsAt w A l) :
    Calls Tryd.prog 52 #[.slice A l.length cap, .func (.func 53) #[] #[]] w fun e w' => e = .returned (.int .i64 (smpsG l)) ∧ Below w.heap.size w w' := by
  go_enter Tryd.func52, Tryd.ntmps52
  go_wp2_with (fail)
  go_loopw [10] (fun i wr => ∃ k : Nat, k ≤ l.length ∧ i = .int .i64 k ∧ smpsG l = smpsG (l.drop k) ∧ Below w.heap.size w wr) (fun i _ => l.length - (intOf i).toNat)
  case atStart => exact ⟨0, Nat.zero_le _, rfl, rfl, Below.refl _ _⟩
  case round =>
    obtain ⟨k, hk, rfl, he, hbr⟩ := hrel
    have H := Lib.hid he
    have hAr := RowsAt.below hA hbr
    clear he
    by_cases hlt : k < l.length
    · have hd : l.drop k = l[k] :: l.drop (k + 1) := List.drop_eq_getElem_cons hlt
      rw [hd, smpsG_cons] at H
      clear hd
      obtain ⟨b1, o1, rfl, hb1, c0, c1⟩ := GsAt.at_ hAr hlt
      have HS := Lib.hid (fun W => sampleErr_any l[k] W)
      generalize l[k] = g at *
      simp only [gv] at HS
      have hk1 : (k : Int) < (l.length : Int) := by omega
      by_cases hx : smpE g = 0
      · rw [if_pos hx] at H
        rw [hx] at HS
        clear hx
        go_wp2_with (fail)
        refine (HS.out _).mono ?_
        rintro e w2 ⟨rfl, hb2⟩
        have hw2 : Below w.heap.size w w2 := (by repeat (first | assumption | exact Below.refl _ _ | refine Below.drew ?_ | (refine below_alloc _ ?_ ?_; focus (first | omega | (simp; done) | (simp; omega) | (simp at *; omega))) | (refine below_set _ ?_ ?_; focus (first | omega | (simp; done) | (simp; omega) | (simp at *; omega))) | refine below_drewN ?_ _ | (refine below_call (by assumption) ?_ ?_; focus (first | omega | (simp; done) | (simp; omega) | (simp at *; omega))) | (refine below_call' (by assumption) ?_ ?_; focus (first | omega | (simp; done) | (simp; omega) | (simp at *; omega)))))
        clear hb2
        go_wp2_with (fail)
        exact ⟨⟨k + 1, by omega, by go_num, H.out, hw2⟩, by simp [intOf]; omega⟩
      · rw [if_neg hx] at H
        have e2 : (smpE g != 0) = true := by simpa using hx
        clear hx
        generalize smpE g = E at *
        go_wp2_with (fail)
        refine (HS.out _).mono ?_
        rintro e w2 ⟨rfl, hb2⟩
        have hw2 : Below w.heap.size w w2 := (by repeat (first | assumption | exact Below.refl _ _ | refine Below.drew ?_ | (refine below_alloc _ ?_ ?_; focus (first | omega | (simp; done) | (simp; omega) | (simp at *; omega))) | (refine below_set _ ?_ ?_; focus (first | omega | (simp; done) | (simp; omega) | (simp at *; omega))) | refine below_drewN ?_ _ | (refine below_call (by assumption) ?_ ?_; focus (first | omega | (simp; done) | (simp; omega) | (simp at *; omega))) | (refine below_call' (by assumption) ?_ ?_; focus (first | omega | (simp; done) | (simp; omega) | (simp at *; omega)))))
        clear hb2
        go_wp2_with (fail)
        go_ret
        exact ⟨ret_int (by rw [H.out]), hw2⟩
    · have e : l.drop k = [] := List.drop_eq_nil_of_le (by omega)
      rw [e] at H
      clear e
      go_wp2_with (fail)
      go_ret
      exact ⟨ret_int (by rw [H.out]; rfl), hbr⟩
set_option maxHeartbeats 1000000 in
theorem samplesErr_any (A : Option Addr) (l : List Gs) (cap : Nat) (w : World) (hl : l.length ≤ 1000) (hA : GsAt w A l) :
    Calls Tryd.prog 29 #[.slice A l.length cap] w fun e w' => e = .returned (.int .i64 (smpsE l)) ∧ Below w.heap.size w w' := by
  have hq : smpsE l = firstE [unl (decide (l.length ≤ 64)) 8, smpsG l] := rfl
  have HE := Lib.hid (fun W (h : GsAt W A l) => eachG_any A l cap W hl h)
  generalize smpsG l = e2 at *
  have e64 : decide ((l.length : Int) ≤ 64) = decide (l.length ≤ 64) := by by_cases h : l.length ≤ 64 <;> simp [h] <;> omega
  have HQ := Lib.hid hq
  clear hq
  generalize hb : decide (l.length ≤ 64) = b at *
  clear hb
  go_enter Tryd.func29, Tryd.ntmps29
  go_wp2_with (go_at_call 28; refine (unless_any _ _ _).mono ?_; rintro e w' ⟨rfl, rfl⟩)
  refine (HE.out _ hA).mono ?_
  rintro e w1 ⟨rfl, hb1⟩
  go_wp2_with (go_at_call 27; refine (first2 _ _ _ _ (by simp) (cell_new (by simp) rfl) (cell_new (by simp) rfl)).mono ?_; rintro e w' ⟨rfl, rfl⟩)
  go_ret
  exact ⟨ret_int (by rw [HQ.out]), (by repeat (first | assumption | exact Below.refl _ _ | refine Below.drew ?_ | (refine below_alloc _ ?_ ?_; focus (first | omega | (simp; done) | (simp; omega) | (simp at *; omega))) | (refine below_set _ ?_ ?_; focus (first | omega | (simp; done) | (simp; omega) | (simp at *; omega))) | refine below_drewN ?_ _ | (refine below_call (by assumption) ?_ ?_; focus (first | omega | (simp; done) | (simp; omega) | (simp at *; omega))) | (refine below_call' (by assumption) ?_ ?_; focus (first | omega | (simp; done) | (simp; omega) | (simp at *; omega)))))⟩
set_option maxHeartbeats 1000000 in
theorem RSamplesErr_any (A : Option Addr) (l : List Gs) (cap : Nat) (w : World) (hl : l.length ≤ 1000) (hA : GsAt w A l) :
    Calls Tryd.prog 14 #[.slice A l.length cap] w fun e w' => e = .returned (.int .i64 (smpsE l)) ∧ Below w.heap.size w w' := by
  have hq : smpsE l = firstE [unl (decide (l.length ≤ 64)) 8, smpsG l] := rfl
  by_cases h64 : l.length ≤ 64
  rotate_left 1
  · rw [decide_eq_false h64, unl_false, firstE_nz (by decide)] at hq
    have HQ := Lib.hid hq
    have e1 : decide ((64 : Int) < (l.length : Int)) = true := by simp; omega
    clear hq h64
    go_enter Tryd.func14, Tryd.ntmps14
    go_wp2_with (fail)
    go_ret
    exact ⟨ret_int (by rw [HQ.out]), (by repeat (first | assumption | exact Below.refl _ _ | refine Below.drew ?_ | (refine below_alloc _ ?_ ?_; focus (first | omega | (simp; done) | (simp; omega) | (simp at *; omega))) | (refine below_set _ ?_ ?_; focus (first | omega | (simp; done) | (simp; omega) | (simp at *; omega))) | refine below_drewN ?_ _ | (refine below_call (by assumption) ?_ ?_; focus (first | omega | (simp; done) | (simp; omega) | (simp at *; omega))) | (refine below_call' (by assumption) ?_ ?_; focus (first | omega | (simp; done) | (simp; omega) | (simp at *; omega)))))⟩
  rw [decide_eq_true h64, unl_true, firstE_z, firstE1] at hq
  have HQ := Lib.hid hq
  have e1 : decide ((64 : Int) < (l.length : Int)) = false := by simp; omega
  clear hq h64
  go_enter Tryd.func14, Tryd.ntmps14
  go_wp2_with (fail)
  go_loopw [3] (fun i wr => ∃ k : Nat, k ≤ l.length ∧ i = .int .i64 k ∧ smpsG l = smpsG (l.drop k) ∧ Below w.heap.size w wr) (fun i _ => l.length - (intOf i).toNat)
  case atStart => exact ⟨0, Nat.zero_le _, rfl, rfl, Below.refl _ _⟩
  case round =>
    obtain ⟨k, hk, rfl, he, hbr⟩ := hrel
    have H := Lib.hid (HQ.out.trans he)
    have H' := Lib.hid he
    have hAr := RowsAt.below hA hbr
    clear he
    by_cases hlt : k < l.length
    · have hd : l.drop k = l[k] :: l.drop (k + 1) := List.drop_eq_getElem_cons hlt
      rw [hd, smpsG_cons] at H H'
      clear hd
      obtain ⟨b1, o1, rfl, hb1, c0, c1⟩ := GsAt.at_ hAr hlt
      have HS := Lib.hid (fun W => RSampleErr_any l[k] W)
      generalize l[k] = g at *
      simp only [gv] at HS
      have hk1 : (k : Int) < (l.length : Int) := by omega
      by_cases hx : smpE g = 0
      · rw [if_pos hx] at H'
        rw [hx] at HS
        clear hx H
        go_wp2_with (fail)
        refine (HS.out _).mono ?_
        rintro e w2 ⟨rfl, hb2⟩
        have hw2 : Below w.heap.size w w2 := (by repeat (first | assumption | exact Below.refl _ _ | refine Below.drew ?_ | (refine below_alloc _ ?_ ?_; focus (first | omega | (simp; done) | (simp; omega) | (simp at *; omega))) | (refine below_set _ ?_ ?_; focus (first | omega | (simp; done) | (simp; omega) | (simp at *; omega))) | refine below_drewN ?_ _ | (refine below_call (by assumption) ?_ ?_; focus (first | omega | (simp; done) | (simp; omega) | (simp at *; omega))) | (refine below_call' (by assumption) ?_ ?_; focus (first | omega | (simp; done) | (simp; omega) | (simp at *; omega)))))
        clear hb2
        go_wp2_with (fail)
        go_roundw
        case rel => exact ⟨k + 1, by omega, by go_num, H'.out, hw2⟩
        case measure => simp [intOf]; omega
      · rw [if_neg hx] at H
        have e2 : (smpE g != 0) = true := by simpa using hx
        clear hx H'
        generalize smpE g = E at *
        go_wp2_with (fail)
        refine (HS.out _).mono ?_
        rintro e w2 ⟨rfl, hb2⟩
        have hw2 : Below w.heap.size w w2 := (by repeat (first | assumption | exact Below.refl _ _ | refine Below.drew ?_ | (refine below_alloc _ ?_ ?_; focus (first | omega | (simp; done) | (simp; omega) | (simp at *; omega))) | (refine below_set _ ?_ ?_; focus (first | omega | (simp; done) | (simp; omega) | (simp at *; omega))) | refine below_drewN ?_ _ | (refine below_call (by assumption) ?_ ?_; focus (first | omega | (simp; done) | (simp; omega) | (simp at *; omega))) | (refine below_call' (by assumption) ?_ ?_; focus (first | omega | (simp; done) | (simp; omega) | (simp at *; omega)))))
        clear hb2
        go_wp2_with (fail)
        go_ret
        exact ⟨ret_int (by rw [H.out]), hw2⟩
    · have e : l.drop k = [] := List.drop_eq_nil_of_le (by omega)
      rw [e] at H
      clear e
      go_wp2_with (fail)
      go_ret
      exact ⟨ret_int (by rw [H.out]; rfl), hbr⟩
end Go.Proofs.YtlnbbioponmcfaaDoor
