/-
  Chapter 2: the Doppler line.
-/
import Derived.Test.YtlnbbioponmcfaaDoorELin
namespace Go.Proofs.YtlnbbioponmcfaaDoor
open Go.ChangeShapes Go.WideShapes Go.ChangeAt Go.RowKit
set_option linter.unusedVariables false
set_option linter.unusedSimpArgs false

/-- the first line with the greatest power, of those before the n-th -/
def dopK (v : Nat → Gs) : Nat → Nat
  | 0 => 0
  | n + 1 => if gnorm (v (dopK v n)) < gnorm (v n) then n else dopK v n
theorem dopK_lt (v : Nat → Gs) : ∀ n, dopK v n < n ∨ dopK v n = 0
  | 0 => .inr rfl
  | n + 1 => by
    rw [dopK]
    split
    · exact .inl (by omega)
    · rcases dopK_lt v n with h | h
      · exact .inl (by omega)
      · exact .inr h
theorem dopK_4 (v : Nat → Gs) (n : Nat) (h : n ≤ 4) : dopK v n < 4 := by rcases dopK_lt v n with h | h <;> omega
/-- not all are 0 -/
def nzL (v : Nat → Gs) : Bool := !(eqL4 v fun _ => gz)
def dopQ (x : List Gs) : Int × Int := if linE x = 0 then (((dopK (linP x) 4 : Nat) : Int), unl (nzL (linP x)) 11) else (0, linE x)
set_option maxRecDepth 100000 in
set_option maxHeartbeats 8000000 in
theorem DopplerOf_any (A : Option Addr) (x : List Gs) (ca : Nat) (w : World) (hx : x.length ≤ 1000) (hA : GsAt w A x) :
    Calls Tryd.prog 22 #[.slice A x.length ca] w fun e w' => e = .returned (.tuple #[.int .i64 (dopQ x).1, .int .i64 (dopQ x).2]) ∧ Below w.heap.size w w' := by
  have hq : dopQ x = if linE x = 0 then (((dopK (linP x) 4 : Nat) : Int), unl (nzL (linP x)) 11) else (0, linE x) := rfl
  have HL := Lib.hid (fun W (h : GsAt W A x) => LinesOf_any A x ca W hx h)
  by_cases h0 : linE x = 0
  rotate_left 1
  · rw [if_neg h0] at hq
    have HQ := Lib.hid hq
    have e9 : (linE x != 0) = true := by simpa using h0
    clear hq h0
    generalize linE x = E at *
    generalize linV x = v at *
    simp only [gv4] at HL
    go_enter Tryd.func22, Tryd.ntmps22
    go_wp2_with (fail)
    refine (HL.out _ hA).mono ?_
    rintro e w1 ⟨rfl, hb1⟩
    go_wp2_with (fail)
    go_ret2
    rw [HQ.out]
    exact ⟨rfl, below_alloc _ (Nat.le_refl _) hb1⟩
  rw [if_pos h0] at hq
  rw [h0] at HL
  obtain ⟨hn0, hn1, hok⟩ := linE_zero h0
  have hv : linV x = linP x := funext fun j => if_pos h0
  rw [hv] at HL
  have hsz := fun n => linP_sz hn1 hok n
  have HSZ := Lib.hid hsz
  have hne := neL (linP x) (fun _ => gz)
  have hnz : (!(eqL4 (linP x) fun _ => gz)) = nzL (linP x) := rfl
  rw [hnz] at hne
  have HQ := Lib.hid hq
  have hd4 := fun n h => dopK_4 (linP x) n h
  have hds : ∀ n, dopK (linP x) (n + 1) = if gnorm (linP x (dopK (linP x) n)) < gnorm (linP x n) then n else dopK (linP x) n := fun n => rfl
  have HD4 := Lib.hid hd4
  have HDS := Lib.hid hds
  have HD0 : Hid (dopK (linP x) 0 = 0) := Lib.hid rfl
  clear hq h0 hn0 hn1 hok hv hsz hnz hd4 hds
  generalize nzL (linP x) = nz at *
  generalize hdk : dopK (linP x) = dk at *
  clear hdk
  generalize linP x = v at *
  simp only [gv4, gz] at HL hne
  have PW := Lib.hid (fun n W => power_any (v n) W ((HSZ.out n).mono (by decide)))
  simp only [gv] at PW
  go_enter Tryd.func22, Tryd.ntmps22
  go_wp2_with (fail)
  refine (HL.out _ hA).mono ?_
  rintro e w1 ⟨rfl, hb1⟩
  go_upto_region 4 with (fail)
  have hb2 : Below w1.heap.size w1 (w1.alloc (.cells #[.int .i64 (v 0).re, .int .i64 (v 0).im, .int .i64 (v 1).re, .int .i64 (v 1).im, .int .i64 (v 2).re, .int .i64 (v 2).im, .int .i64 (v 3).re, .int .i64 (v 3).im] 31)) := below_alloc _ (Nat.le_refl _) (Below.refl _ _)
  have l0 : (w1.alloc (.cells #[.int .i64 (v 0).re, .int .i64 (v 0).im, .int .i64 (v 1).re, .int .i64 (v 1).im, .int .i64 (v 2).re, .int .i64 (v 2).im, .int .i64 (v 3).re, .int .i64 (v 3).im] 31)).cell? ⟨w1.heap.size, 0, none⟩ = some (.int .i64 (v 0).re) := cell_new (by simp) rfl
  have lf0 : (w1.alloc (.cells #[.int .i64 (v 0).re, .int .i64 (v 0).im, .int .i64 (v 1).re, .int .i64 (v 1).im, .int .i64 (v 2).re, .int .i64 (v 2).im, .int .i64 (v 3).re, .int .i64 (v 3).im] 31)).frozen? ⟨w1.heap.size, 0, none⟩ = false := frozen_new (by simp)
  have l1 : (w1.alloc (.cells #[.int .i64 (v 0).re, .int .i64 (v 0).im, .int .i64 (v 1).re, .int .i64 (v 1).im, .int .i64 (v 2).re, .int .i64 (v 2).im, .int .i64 (v 3).re, .int .i64 (v 3).im] 31)).cell? ⟨w1.heap.size, 1, none⟩ = some (.int .i64 (v 0).im) := cell_new (by simp) rfl
  have lf1 : (w1.alloc (.cells #[.int .i64 (v 0).re, .int .i64 (v 0).im, .int .i64 (v 1).re, .int .i64 (v 1).im, .int .i64 (v 2).re, .int .i64 (v 2).im, .int .i64 (v 3).re, .int .i64 (v 3).im] 31)).frozen? ⟨w1.heap.size, 1, none⟩ = false := frozen_new (by simp)
  have l2 : (w1.alloc (.cells #[.int .i64 (v 0).re, .int .i64 (v 0).im, .int .i64 (v 1).re, .int .i64 (v 1).im, .int .i64 (v 2).re, .int .i64 (v 2).im, .int .i64 (v 3).re, .int .i64 (v 3).im] 31)).cell? ⟨w1.heap.size, 2, none⟩ = some (.int .i64 (v 1).re) := cell_new (by simp) rfl
  have lf2 : (w1.alloc (.cells #[.int .i64 (v 0).re, .int .i64 (v 0).im, .int .i64 (v 1).re, .int .i64 (v 1).im, .int .i64 (v 2).re, .int .i64 (v 2).im, .int .i64 (v 3).re, .int .i64 (v 3).im] 31)).frozen? ⟨w1.heap.size, 2, none⟩ = false := frozen_new (by simp)
  have l3 : (w1.alloc (.cells #[.int .i64 (v 0).re, .int .i64 (v 0).im, .int .i64 (v 1).re, .int .i64 (v 1).im, .int .i64 (v 2).re, .int .i64 (v 2).im, .int .i64 (v 3).re, .int .i64 (v 3).im] 31)).cell? ⟨w1.heap.size, 3, none⟩ = some (.int .i64 (v 1).im) := cell_new (by simp) rfl
  have lf3 : (w1.alloc (.cells #[.int .i64 (v 0).re, .int .i64 (v 0).im, .int .i64 (v 1).re, .int .i64 (v 1).im, .int .i64 (v 2).re, .int .i64 (v 2).im, .int .i64 (v 3).re, .int .i64 (v 3).im] 31)).frozen? ⟨w1.heap.size, 3, none⟩ = false := frozen_new (by simp)
  have l4 : (w1.alloc (.cells #[.int .i64 (v 0).re, .int .i64 (v 0).im, .int .i64 (v 1).re, .int .i64 (v 1).im, .int .i64 (v 2).re, .int .i64 (v 2).im, .int .i64 (v 3).re, .int .i64 (v 3).im] 31)).cell? ⟨w1.heap.size, 4, none⟩ = some (.int .i64 (v 2).re) := cell_new (by simp) rfl
  have lf4 : (w1.alloc (.cells #[.int .i64 (v 0).re, .int .i64 (v 0).im, .int .i64 (v 1).re, .int .i64 (v 1).im, .int .i64 (v 2).re, .int .i64 (v 2).im, .int .i64 (v 3).re, .int .i64 (v 3).im] 31)).frozen? ⟨w1.heap.size, 4, none⟩ = false := frozen_new (by simp)
  have l5 : (w1.alloc (.cells #[.int .i64 (v 0).re, .int .i64 (v 0).im, .int .i64 (v 1).re, .int .i64 (v 1).im, .int .i64 (v 2).re, .int .i64 (v 2).im, .int .i64 (v 3).re, .int .i64 (v 3).im] 31)).cell? ⟨w1.heap.size, 5, none⟩ = some (.int .i64 (v 2).im) := cell_new (by simp) rfl
  have lf5 : (w1.alloc (.cells #[.int .i64 (v 0).re, .int .i64 (v 0).im, .int .i64 (v 1).re, .int .i64 (v 1).im, .int .i64 (v 2).re, .int .i64 (v 2).im, .int .i64 (v 3).re, .int .i64 (v 3).im] 31)).frozen? ⟨w1.heap.size, 5, none⟩ = false := frozen_new (by simp)
  have l6 : (w1.alloc (.cells #[.int .i64 (v 0).re, .int .i64 (v 0).im, .int .i64 (v 1).re, .int .i64 (v 1).im, .int .i64 (v 2).re, .int .i64 (v 2).im, .int .i64 (v 3).re, .int .i64 (v 3).im] 31)).cell? ⟨w1.heap.size, 6, none⟩ = some (.int .i64 (v 3).re) := cell_new (by simp) rfl
  have lf6 : (w1.alloc (.cells #[.int .i64 (v 0).re, .int .i64 (v 0).im, .int .i64 (v 1).re, .int .i64 (v 1).im, .int .i64 (v 2).re, .int .i64 (v 2).im, .int .i64 (v 3).re, .int .i64 (v 3).im] 31)).frozen? ⟨w1.heap.size, 6, none⟩ = false := frozen_new (by simp)
  have l7 : (w1.alloc (.cells #[.int .i64 (v 0).re, .int .i64 (v 0).im, .int .i64 (v 1).re, .int .i64 (v 1).im, .int .i64 (v 2).re, .int .i64 (v 2).im, .int .i64 (v 3).re, .int .i64 (v 3).im] 31)).cell? ⟨w1.heap.size, 7, none⟩ = some (.int .i64 (v 3).im) := cell_new (by simp) rfl
  have lf7 : (w1.alloc (.cells #[.int .i64 (v 0).re, .int .i64 (v 0).im, .int .i64 (v 1).re, .int .i64 (v 1).im, .int .i64 (v 2).re, .int .i64 (v 2).im, .int .i64 (v 3).re, .int .i64 (v 3).im] 31)).frozen? ⟨w1.heap.size, 7, none⟩ = false := frozen_new (by simp)
  have lk : (w1.alloc (.cells #[.int .i64 (v 0).re, .int .i64 (v 0).im, .int .i64 (v 1).re, .int .i64 (v 1).im, .int .i64 (v 2).re, .int .i64 (v 2).im, .int .i64 (v 3).re, .int .i64 (v 3).im] 31)).heap[w1.heap.size]? = some (.cells #[.int .i64 (v 0).re, .int .i64 (v 0).im, .int .i64 (v 1).re, .int .i64 (v 1).im, .int .i64 (v 2).re, .int .i64 (v 2).im, .int .i64 (v 3).re, .int .i64 (v 3).im] 31) := blk_new (by simp)
  have zl : w1.heap.size < (w1.alloc (.cells #[.int .i64 (v 0).re, .int .i64 (v 0).im, .int .i64 (v 1).re, .int .i64 (v 1).im, .int .i64 (v 2).re, .int .i64 (v 2).im, .int .i64 (v 3).re, .int .i64 (v 3).im] 31)).heap.size := World.block_lt_of_cell? _ _ l0
  generalize (w1.alloc (.cells #[.int .i64 (v 0).re, .int .i64 (v 0).im, .int .i64 (v 1).re, .int .i64 (v 1).im, .int .i64 (v 2).re, .int .i64 (v 2).im, .int .i64 (v 3).re, .int .i64 (v 3).im] 31)) = w2 at *
  have hgx : GxAt w1.heap.size v w2 := by
    refine ⟨fun j hj => ?_, fun j => ?_, zl⟩
    · have h4 : j = 0 ∨ j = 1 ∨ j = 2 ∨ j = 3 := by omega
      rcases h4 with rfl | rfl | rfl | rfl
      · exact ⟨l0, l1⟩
      · exact ⟨l2, l3⟩
      · exact ⟨l4, l5⟩
      · exact ⟨l6, l7⟩
    · exact blk_frozen lk
  have HGX := Lib.hid hgx
  have hbw := hb1.trans (hb2.mono hb1.size)
  clear hgx HL hA hb1
  have c0 := l0
  have c1 := l1
  have c2 := l2
  have c3 := l3
  have c4 := l4
  have c5 := l5
  have c6 := l6
  have c7 := l7
  clear lk lf0 lf1 lf2 lf3 lf4 lf5 lf6 lf7
  go_wp2_with (fail)
  go_loopw [6, 18] (fun b i wr => ∃ (m : Int) (b' : Nat), 0 ≤ m ∧ m ≤ 4 ∧ i = .int .i64 m ∧ b = .int .i64 b' ∧ b' = dk m.toNat ∧ Below w2.heap.size w2 wr) (fun _ i _ => 4 - (intOf i).toNat)
  case atStart => exact ⟨0, 0, by decide, by decide, rfl, rfl, HD0.out.symm, Below.refl _ _⟩
  case round =>
    obtain ⟨m, b, hm0, hm4, rfl, rfl, hbd, hbr⟩ := hrel
    obtain ⟨wo, rfl⟩ : ∃ wo : World, wo = wr := ⟨_, rfl⟩
    have hb4 : b < 4 := by rw [hbd]; exact HD4.out _ (by omega)
    have HBD := Lib.hid hbd
    have hg := HGX.out.below hbr
    obtain ⟨y0, y1⟩ := hg.c b hb4
    have zl' := hg.z
    have hw : Below w.heap.size w wo := hbw.trans (hbr.mono (by have := hbw.size; omega))
    have hbI : (b : Int) < 4 := by omega
    clear hg hbd
    by_cases hlt : m < 4
    · have hds := HDS.out m.toNat
      rw [← HBD.out] at hds
      have P1 := Lib.hid (PW.out b)
      have h4 : m = 0 ∨ m = 1 ∨ m = 2 ∨ m = 3 := by omega
      rcases h4 with rfl | rfl | rfl | rfl
      · have hix : ∀ W, (Instr.index 31 (.agg #[.int .i64 (v 0).re, .int .i64 (v 0).im, .int .i64 (v 1).re, .int .i64 (v 1).im, .int .i64 (v 2).re, .int .i64 (v 2).im, .int .i64 (v 3).re, .int .i64 (v 3).im]) (.int .i64 0)).run Tryd.prog W = .ok (.agg #[.int .i64 (v 0).re, .int .i64 (v 0).im]) W := fun W => by kernel_rfl
        have P2 := Lib.hid (PW.out 0)
        rw [show (0 : Int).toNat = 0 from rfl] at hds
        clear HD0 hne
        go_upto_region 8 with (fail)
        have hb4' : Below wo.heap.size wo (wo.alloc (.cells #[.int .i64 (v 0).re, .int .i64 (v 0).im] 30)) := below_alloc _ (Nat.le_refl _) (Below.refl _ _)
        have t0 : (wo.alloc (.cells #[.int .i64 (v 0).re, .int .i64 (v 0).im] 30)).cell? ⟨wo.heap.size, 0, none⟩ = some (.int .i64 (v 0).re) := cell_new (by simp) rfl
        have t1 : (wo.alloc (.cells #[.int .i64 (v 0).re, .int .i64 (v 0).im] 30)).cell? ⟨wo.heap.size, 1, none⟩ = some (.int .i64 (v 0).im) := cell_new (by simp) rfl
        have zt : wo.heap.size < (wo.alloc (.cells #[.int .i64 (v 0).re, .int .i64 (v 0).im] 30)).heap.size := World.block_lt_of_cell? _ _ t0
        generalize (wo.alloc (.cells #[.int .i64 (v 0).re, .int .i64 (v 0).im] 30)) = w4 at *
        replace y0 := cell_below' hb4' y0
        replace y1 := cell_below' hb4' y1
        replace zl' := Nat.lt_of_lt_of_le zl' hb4'.size
        generalize v b = gb at *
        generalize gnorm gb = n1 at *
        generalize gnorm (v 0) = n2 at *
        (refine region_extx 6 (by kernel_rfl) (by kernel_rfl) fun hx => ?_; simp only [List.take_succ_cons, List.take_zero, List.drop_succ_cons, List.drop_zero]; (repeat (any_goals (first | go_big_quiet_step ((first | ((go_at_call 46; with_reducible exact ext_call (P2.out _))) | ((go_at_call 46; with_reducible exact ext_call (P1.out _))))) | quiet_step ((first | ((go_at_call 46; with_reducible exact ext_call (P2.out _))) | ((go_at_call 46; with_reducible exact ext_call (P1.out _)))))))))
        (refine wpQuiet_nil ?_; clear hx; intro u; have hbw5 := ext_bel _ u; have hxw5 := ext_cell _ u; generalize ext _ u = w5 at *; clear u; have hsw5 := hbw5.size; (try simp at hsw5))
        have hbr5 : Below w2.heap.size w2 w5 := hbr.trans ((hb4'.trans (hbw5.mono hb4'.size)).mono hbr.size)
        clear hxw5 hsw5 hbw5 hb4'
        by_cases hc : n1 < n2
        · rw [if_pos hc] at hds
          have e1 : decide (n1 < n2) = true := by simpa using hc
          have HDS2 := Lib.hid hds
          clear hds hc
          go_wp2_with (fail)
          exact ⟨⟨1, 0, by decide, by decide, rfl, rfl, HDS2.out.symm, hbr5⟩, by decide⟩
        · rw [if_neg hc] at hds
          have e1 : decide (n1 < n2) = false := by simpa using hc
          have HDS2 := Lib.hid hds
          clear hds hc
          go_wp2_with (fail)
          exact ⟨⟨1, b, by decide, by decide, rfl, rfl, HDS2.out.symm, hbr5⟩, by decide⟩
      · have hix : ∀ W, (Instr.index 31 (.agg #[.int .i64 (v 0).re, .int .i64 (v 0).im, .int .i64 (v 1).re, .int .i64 (v 1).im, .int .i64 (v 2).re, .int .i64 (v 2).im, .int .i64 (v 3).re, .int .i64 (v 3).im]) (.int .i64 1)).run Tryd.prog W = .ok (.agg #[.int .i64 (v 1).re, .int .i64 (v 1).im]) W := fun W => by kernel_rfl
        have P2 := Lib.hid (PW.out 1)
        rw [show (1 : Int).toNat = 1 from rfl] at hds
        clear HD0 hne
        go_upto_region 8 with (fail)
        have hb4' : Below wo.heap.size wo (wo.alloc (.cells #[.int .i64 (v 1).re, .int .i64 (v 1).im] 30)) := below_alloc _ (Nat.le_refl _) (Below.refl _ _)
        have t0 : (wo.alloc (.cells #[.int .i64 (v 1).re, .int .i64 (v 1).im] 30)).cell? ⟨wo.heap.size, 0, none⟩ = some (.int .i64 (v 1).re) := cell_new (by simp) rfl
        have t1 : (wo.alloc (.cells #[.int .i64 (v 1).re, .int .i64 (v 1).im] 30)).cell? ⟨wo.heap.size, 1, none⟩ = some (.int .i64 (v 1).im) := cell_new (by simp) rfl
        have zt : wo.heap.size < (wo.alloc (.cells #[.int .i64 (v 1).re, .int .i64 (v 1).im] 30)).heap.size := World.block_lt_of_cell? _ _ t0
        generalize (wo.alloc (.cells #[.int .i64 (v 1).re, .int .i64 (v 1).im] 30)) = w4 at *
        replace y0 := cell_below' hb4' y0
        replace y1 := cell_below' hb4' y1
        replace zl' := Nat.lt_of_lt_of_le zl' hb4'.size
        generalize v b = gb at *
        generalize gnorm gb = n1 at *
        generalize gnorm (v 1) = n2 at *
        (refine region_extx 6 (by kernel_rfl) (by kernel_rfl) fun hx => ?_; simp only [List.take_succ_cons, List.take_zero, List.drop_succ_cons, List.drop_zero]; (repeat (any_goals (first | go_big_quiet_step ((first | ((go_at_call 46; with_reducible exact ext_call (P2.out _))) | ((go_at_call 46; with_reducible exact ext_call (P1.out _))))) | quiet_step ((first | ((go_at_call 46; with_reducible exact ext_call (P2.out _))) | ((go_at_call 46; with_reducible exact ext_call (P1.out _)))))))))
        (refine wpQuiet_nil ?_; clear hx; intro u; have hbw5 := ext_bel _ u; have hxw5 := ext_cell _ u; generalize ext _ u = w5 at *; clear u; have hsw5 := hbw5.size; (try simp at hsw5))
        have hbr5 : Below w2.heap.size w2 w5 := hbr.trans ((hb4'.trans (hbw5.mono hb4'.size)).mono hbr.size)
        clear hxw5 hsw5 hbw5 hb4'
        by_cases hc : n1 < n2
        · rw [if_pos hc] at hds
          have e1 : decide (n1 < n2) = true := by simpa using hc
          have HDS2 := Lib.hid hds
          clear hds hc
          go_wp2_with (fail)
          exact ⟨⟨2, 1, by decide, by decide, rfl, rfl, HDS2.out.symm, hbr5⟩, by decide⟩
        · rw [if_neg hc] at hds
          have e1 : decide (n1 < n2) = false := by simpa using hc
          have HDS2 := Lib.hid hds
          clear hds hc
          go_wp2_with (fail)
          exact ⟨⟨2, b, by decide, by decide, rfl, rfl, HDS2.out.symm, hbr5⟩, by decide⟩
      · have hix : ∀ W, (Instr.index 31 (.agg #[.int .i64 (v 0).re, .int .i64 (v 0).im, .int .i64 (v 1).re, .int .i64 (v 1).im, .int .i64 (v 2).re, .int .i64 (v 2).im, .int .i64 (v 3).re, .int .i64 (v 3).im]) (.int .i64 2)).run Tryd.prog W = .ok (.agg #[.int .i64 (v 2).re, .int .i64 (v 2).im]) W := fun W => by kernel_rfl
        have P2 := Lib.hid (PW.out 2)
        rw [show (2 : Int).toNat = 2 from rfl] at hds
        clear HD0 hne
        go_upto_region 8 with (fail)
        have hb4' : Below wo.heap.size wo (wo.alloc (.cells #[.int .i64 (v 2).re, .int .i64 (v 2).im] 30)) := below_alloc _ (Nat.le_refl _) (Below.refl _ _)
        have t0 : (wo.alloc (.cells #[.int .i64 (v 2).re, .int .i64 (v 2).im] 30)).cell? ⟨wo.heap.size, 0, none⟩ = some (.int .i64 (v 2).re) := cell_new (by simp) rfl
        have t1 : (wo.alloc (.cells #[.int .i64 (v 2).re, .int .i64 (v 2).im] 30)).cell? ⟨wo.heap.size, 1, none⟩ = some (.int .i64 (v 2).im) := cell_new (by simp) rfl
        have zt : wo.heap.size < (wo.alloc (.cells #[.int .i64 (v 2).re, .int .i64 (v 2).im] 30)).heap.size := World.block_lt_of_cell? _ _ t0
        generalize (wo.alloc (.cells #[.int .i64 (v 2).re, .int .i64 (v 2).im] 30)) = w4 at *
        replace y0 := cell_below' hb4' y0
        replace y1 := cell_below' hb4' y1
        replace zl' := Nat.lt_of_lt_of_le zl' hb4'.size
        generalize v b = gb at *
        generalize gnorm gb = n1 at *
        generalize gnorm (v 2) = n2 at *
        (refine region_extx 6 (by kernel_rfl) (by kernel_rfl) fun hx => ?_; simp only [List.take_succ_cons, List.take_zero, List.drop_succ_cons, List.drop_zero]; (repeat (any_goals (first | go_big_quiet_step ((first | ((go_at_call 46; with_reducible exact ext_call (P2.out _))) | ((go_at_call 46; with_reducible exact ext_call (P1.out _))))) | quiet_step ((first | ((go_at_call 46; with_reducible exact ext_call (P2.out _))) | ((go_at_call 46; with_reducible exact ext_call (P1.out _)))))))))
        (refine wpQuiet_nil ?_; clear hx; intro u; have hbw5 := ext_bel _ u; have hxw5 := ext_cell _ u; generalize ext _ u = w5 at *; clear u; have hsw5 := hbw5.size; (try simp at hsw5))
        have hbr5 : Below w2.heap.size w2 w5 := hbr.trans ((hb4'.trans (hbw5.mono hb4'.size)).mono hbr.size)
        clear hxw5 hsw5 hbw5 hb4'
        by_cases hc : n1 < n2
        · rw [if_pos hc] at hds
          have e1 : decide (n1 < n2) = true := by simpa using hc
          have HDS2 := Lib.hid hds
          clear hds hc
          go_wp2_with (fail)
          exact ⟨⟨3, 2, by decide, by decide, rfl, rfl, HDS2.out.symm, hbr5⟩, by decide⟩
        · rw [if_neg hc] at hds
          have e1 : decide (n1 < n2) = false := by simpa using hc
          have HDS2 := Lib.hid hds
          clear hds hc
          go_wp2_with (fail)
          exact ⟨⟨3, b, by decide, by decide, rfl, rfl, HDS2.out.symm, hbr5⟩, by decide⟩
      · have hix : ∀ W, (Instr.index 31 (.agg #[.int .i64 (v 0).re, .int .i64 (v 0).im, .int .i64 (v 1).re, .int .i64 (v 1).im, .int .i64 (v 2).re, .int .i64 (v 2).im, .int .i64 (v 3).re, .int .i64 (v 3).im]) (.int .i64 3)).run Tryd.prog W = .ok (.agg #[.int .i64 (v 3).re, .int .i64 (v 3).im]) W := fun W => by kernel_rfl
        have P2 := Lib.hid (PW.out 3)
        rw [show (3 : Int).toNat = 3 from rfl] at hds
        clear HD0 hne
        go_upto_region 8 with (fail)
        have hb4' : Below wo.heap.size wo (wo.alloc (.cells #[.int .i64 (v 3).re, .int .i64 (v 3).im] 30)) := below_alloc _ (Nat.le_refl _) (Below.refl _ _)
        have t0 : (wo.alloc (.cells #[.int .i64 (v 3).re, .int .i64 (v 3).im] 30)).cell? ⟨wo.heap.size, 0, none⟩ = some (.int .i64 (v 3).re) := cell_new (by simp) rfl
        have t1 : (wo.alloc (.cells #[.int .i64 (v 3).re, .int .i64 (v 3).im] 30)).cell? ⟨wo.heap.size, 1, none⟩ = some (.int .i64 (v 3).im) := cell_new (by simp) rfl
        have zt : wo.heap.size < (wo.alloc (.cells #[.int .i64 (v 3).re, .int .i64 (v 3).im] 30)).heap.size := World.block_lt_of_cell? _ _ t0
        generalize (wo.alloc (.cells #[.int .i64 (v 3).re, .int .i64 (v 3).im] 30)) = w4 at *
        replace y0 := cell_below' hb4' y0
        replace y1 := cell_below' hb4' y1
        replace zl' := Nat.lt_of_lt_of_le zl' hb4'.size
        generalize v b = gb at *
        generalize gnorm gb = n1 at *
        generalize gnorm (v 3) = n2 at *
        (refine region_extx 6 (by kernel_rfl) (by kernel_rfl) fun hx => ?_; simp only [List.take_succ_cons, List.take_zero, List.drop_succ_cons, List.drop_zero]; (repeat (any_goals (first | go_big_quiet_step ((first | ((go_at_call 46; with_reducible exact ext_call (P2.out _))) | ((go_at_call 46; with_reducible exact ext_call (P1.out _))))) | quiet_step ((first | ((go_at_call 46; with_reducible exact ext_call (P2.out _))) | ((go_at_call 46; with_reducible exact ext_call (P1.out _)))))))))
        (refine wpQuiet_nil ?_; clear hx; intro u; have hbw5 := ext_bel _ u; have hxw5 := ext_cell _ u; generalize ext _ u = w5 at *; clear u; have hsw5 := hbw5.size; (try simp at hsw5))
        have hbr5 : Below w2.heap.size w2 w5 := hbr.trans ((hb4'.trans (hbw5.mono hb4'.size)).mono hbr.size)
        clear hxw5 hsw5 hbw5 hb4'
        by_cases hc : n1 < n2
        · rw [if_pos hc] at hds
          have e1 : decide (n1 < n2) = true := by simpa using hc
          have HDS2 := Lib.hid hds
          clear hds hc
          go_wp2_with (fail)
          exact ⟨⟨4, 3, by decide, by decide, rfl, rfl, HDS2.out.symm, hbr5⟩, by decide⟩
        · rw [if_neg hc] at hds
          have e1 : decide (n1 < n2) = false := by simpa using hc
          have HDS2 := Lib.hid hds
          clear hds hc
          go_wp2_with (fail)
          exact ⟨⟨4, b, by decide, by decide, rfl, rfl, HDS2.out.symm, hbr5⟩, by decide⟩
    · obtain rfl : m = 4 := by omega
      have hbe := HBD.out
      rw [show (4 : Int).toNat = 4 from rfl] at hbe
      have HBE := Lib.hid hbe
      replace l0 := cell_below' hbr c0
      replace l1 := cell_below' hbr c1
      replace l2 := cell_below' hbr c2
      replace l3 := cell_below' hbr c3
      replace l4 := cell_below' hbr c4
      replace l5 := cell_below' hbr c5
      replace l6 := cell_below' hbr c6
      replace l7 := cell_below' hbr c7
      clear hbe HBD c0 c1 c2 c3 c4 c5 c6 c7 HGX HD4 HDS HD0 PW HSZ y0 y1
      go_wp2_with (go_at_call 28; refine (unless_any _ _ _).mono ?_; rintro e w' ⟨rfl, rfl⟩)
      go_ret2
      rw [HQ.out]
      exact ⟨by rw [HBE.out] <;> rfl, hw⟩
end Go.Proofs.YtlnbbioponmcfaaDoor
