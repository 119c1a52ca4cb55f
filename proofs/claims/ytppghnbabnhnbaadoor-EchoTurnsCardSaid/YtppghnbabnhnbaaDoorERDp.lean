/-
  Chapter 2: the reference of the Doppler line.
-/
import Derived.Test.YtppghnbabnhnbaaDoorERLi
namespace Go.Proofs.YtppghnbabnhnbaaDoor
open Go.ChangeShapes Go.WideShapes Go.ChangeAt Go.RowKit
set_option linter.unusedVariables false
set_option linter.unusedSimpArgs false

def dopB (x : List Gs) : Bool := decide (0 < gnorm (linP x (dopK (linP x) 4)))
set_option maxRecDepth 100000 in
set_option maxHeartbeats 8000000 in
theorem RDoppler_any (A : Option Addr) (x : List Gs) (ca : Nat) (w : World) (hx : x.length ≤ 64) (hok : ∀ y ∈ x, Sz 10000 y) (hA : GsAt w A x) :
    Calls Tryd.prog 59 #[.slice A x.length ca] w fun e w' => e = .returned (.tuple #[.int .i64 (dopK (linP x) 4 : Nat), .bool (dopB x)]) ∧ Below w.heap.size w w' := by
  have HL := Lib.hid (fun W (h : GsAt W A x) => RLines_any A x ca W hx hok h)
  have hq : dopB x = decide (0 < gnorm (linP x (dopK (linP x) 4))) := rfl
  have HSZ := Lib.hid (fun n => linP_sz hx hok n)
  have HD4 := Lib.hid (fun n h => dopK_4 (linP x) n h)
  have hds : ∀ n, dopK (linP x) (n + 1) = if gnorm (linP x (dopK (linP x) n)) < gnorm (linP x n) then n else dopK (linP x) n := fun n => rfl
  have HDS := Lib.hid hds
  have HD1 : Hid (dopK (linP x) 1 = 0) := Lib.hid (by rw [dopK]; split <;> rfl)
  clear hok hds
  generalize hdk : dopK (linP x) = dk at *
  clear hdk
  generalize linP x = v at *
  have HQ := Lib.hid hq
  clear hq
  simp only [gv4] at HL
  have PW := Lib.hid (fun n W => GNorm_any (v n) W ((HSZ.out n).mono (by decide)))
  simp only [gv] at PW
  go_enter Tryd.func59, Tryd.ntmps59
  go_wp2_with (fail)
  refine (HL.out _ hA).mono ?_
  rintro e w1 ⟨rfl, hb1⟩
  go_upto_region 2 with (fail)
  have hb2 : Below w1.heap.size w1 (w1.alloc (.cells #[.int .i64 (v 0).re, .int .i64 (v 0).im, .int .i64 (v 1).re, .int .i64 (v 1).im, .int .i64 (v 2).re, .int .i64 (v 2).im, .int .i64 (v 3).re, .int .i64 (v 3).im] 73)) := below_alloc _ (Nat.le_refl _) (Below.refl _ _)
  have l0 : (w1.alloc (.cells #[.int .i64 (v 0).re, .int .i64 (v 0).im, .int .i64 (v 1).re, .int .i64 (v 1).im, .int .i64 (v 2).re, .int .i64 (v 2).im, .int .i64 (v 3).re, .int .i64 (v 3).im] 73)).cell? ⟨w1.heap.size, 0, none⟩ = some (.int .i64 (v 0).re) := cell_new (by simp) rfl
  have l1 : (w1.alloc (.cells #[.int .i64 (v 0).re, .int .i64 (v 0).im, .int .i64 (v 1).re, .int .i64 (v 1).im, .int .i64 (v 2).re, .int .i64 (v 2).im, .int .i64 (v 3).re, .int .i64 (v 3).im] 73)).cell? ⟨w1.heap.size, 1, none⟩ = some (.int .i64 (v 0).im) := cell_new (by simp) rfl
  have l2 : (w1.alloc (.cells #[.int .i64 (v 0).re, .int .i64 (v 0).im, .int .i64 (v 1).re, .int .i64 (v 1).im, .int .i64 (v 2).re, .int .i64 (v 2).im, .int .i64 (v 3).re, .int .i64 (v 3).im] 73)).cell? ⟨w1.heap.size, 2, none⟩ = some (.int .i64 (v 1).re) := cell_new (by simp) rfl
  have l3 : (w1.alloc (.cells #[.int .i64 (v 0).re, .int .i64 (v 0).im, .int .i64 (v 1).re, .int .i64 (v 1).im, .int .i64 (v 2).re, .int .i64 (v 2).im, .int .i64 (v 3).re, .int .i64 (v 3).im] 73)).cell? ⟨w1.heap.size, 3, none⟩ = some (.int .i64 (v 1).im) := cell_new (by simp) rfl
  have l4 : (w1.alloc (.cells #[.int .i64 (v 0).re, .int .i64 (v 0).im, .int .i64 (v 1).re, .int .i64 (v 1).im, .int .i64 (v 2).re, .int .i64 (v 2).im, .int .i64 (v 3).re, .int .i64 (v 3).im] 73)).cell? ⟨w1.heap.size, 4, none⟩ = some (.int .i64 (v 2).re) := cell_new (by simp) rfl
  have l5 : (w1.alloc (.cells #[.int .i64 (v 0).re, .int .i64 (v 0).im, .int .i64 (v 1).re, .int .i64 (v 1).im, .int .i64 (v 2).re, .int .i64 (v 2).im, .int .i64 (v 3).re, .int .i64 (v 3).im] 73)).cell? ⟨w1.heap.size, 5, none⟩ = some (.int .i64 (v 2).im) := cell_new (by simp) rfl
  have l6 : (w1.alloc (.cells #[.int .i64 (v 0).re, .int .i64 (v 0).im, .int .i64 (v 1).re, .int .i64 (v 1).im, .int .i64 (v 2).re, .int .i64 (v 2).im, .int .i64 (v 3).re, .int .i64 (v 3).im] 73)).cell? ⟨w1.heap.size, 6, none⟩ = some (.int .i64 (v 3).re) := cell_new (by simp) rfl
  have l7 : (w1.alloc (.cells #[.int .i64 (v 0).re, .int .i64 (v 0).im, .int .i64 (v 1).re, .int .i64 (v 1).im, .int .i64 (v 2).re, .int .i64 (v 2).im, .int .i64 (v 3).re, .int .i64 (v 3).im] 73)).cell? ⟨w1.heap.size, 7, none⟩ = some (.int .i64 (v 3).im) := cell_new (by simp) rfl
  have lk : (w1.alloc (.cells #[.int .i64 (v 0).re, .int .i64 (v 0).im, .int .i64 (v 1).re, .int .i64 (v 1).im, .int .i64 (v 2).re, .int .i64 (v 2).im, .int .i64 (v 3).re, .int .i64 (v 3).im] 73)).heap[w1.heap.size]? = some (.cells #[.int .i64 (v 0).re, .int .i64 (v 0).im, .int .i64 (v 1).re, .int .i64 (v 1).im, .int .i64 (v 2).re, .int .i64 (v 2).im, .int .i64 (v 3).re, .int .i64 (v 3).im] 73) := blk_new (by simp)
  have zl : w1.heap.size < (w1.alloc (.cells #[.int .i64 (v 0).re, .int .i64 (v 0).im, .int .i64 (v 1).re, .int .i64 (v 1).im, .int .i64 (v 2).re, .int .i64 (v 2).im, .int .i64 (v 3).re, .int .i64 (v 3).im] 73)).heap.size := World.block_lt_of_cell? _ _ l0
  generalize (w1.alloc (.cells #[.int .i64 (v 0).re, .int .i64 (v 0).im, .int .i64 (v 1).re, .int .i64 (v 1).im, .int .i64 (v 2).re, .int .i64 (v 2).im, .int .i64 (v 3).re, .int .i64 (v 3).im] 73)) = w2 at *
  have HGX : Hid (GxAt w1.heap.size v w2) := Lib.hid (gx_of l0 l1 l2 l3 l4 l5 l6 l7 (fun j => blk_frozen lk))
  have hbw := hb1.trans (hb2.mono hb1.size)
  clear lk HL hA hb1 l0 l1 l2 l3 l4 l5 l6 l7
  go_wp2_with (fail)
  go_loopw [5, 6] (fun b i wr => ∃ (m b' : Nat), 1 ≤ m ∧ m ≤ 4 ∧ i = .int .i64 m ∧ b = .int .i64 b' ∧ b' = dk m ∧ Below w2.heap.size w2 wr) (fun _ i _ => 4 - (intOf i).toNat)
  case atStart => exact ⟨1, 0, by decide, by decide, rfl, rfl, HD1.out.symm, Below.refl _ _⟩
  case round =>
    obtain ⟨m, b, hm0, hm4, rfl, rfl, hbd, hbr⟩ := hrel
    obtain ⟨wo, rfl⟩ : ∃ wo : World, wo = wr := ⟨_, rfl⟩
    have hb4 : b < 4 := by rw [hbd]; exact HD4.out _ (by omega)
    have HBD := Lib.hid hbd
    have hg := HGX.out.below hbr
    obtain ⟨y0, y1⟩ := hg.c b hb4
    have zl' := hg.z
    have hw : Below w.heap.size w wo := hbw.trans (hbr.mono (by have := hbw.size; omega))
    have hbI : (b : Int) < 4 := by omega
    clear hbd
    by_cases hlt : m < 4
    · obtain ⟨z0, z1⟩ := hg.c m hlt
      have hds := HDS.out m
      rw [← HBD.out] at hds
      have P1 := Lib.hid (PW.out b)
      have P2 := Lib.hid (PW.out m)
      have hmI : (m : Int) < 4 := by omega
      clear hg
      generalize v b = gb at *
      generalize v m = gm at *
      generalize gnorm gb = n1 at *
      generalize gnorm gm = n2 at *
      go_upto_region 6 with (fail)
      (refine region_extx 8 (by kernel_rfl) (by kernel_rfl) fun hx => ?_; simp only [List.take_succ_cons, List.take_zero, List.drop_succ_cons, List.drop_zero]; (repeat (any_goals (first | go_big_quiet_step ((first | ((go_at_call 51; with_reducible exact ext_call (P2.out _))) | ((go_at_call 51; with_reducible exact ext_call (P1.out _))))) | quiet_step ((first | ((go_at_call 51; with_reducible exact ext_call (P2.out _))) | ((go_at_call 51; with_reducible exact ext_call (P1.out _)))))))))
      (refine wpQuiet_nil ?_; clear hx; intro u; have hbw5 := ext_bel _ u; have hxw5 := ext_cell _ u; generalize ext _ u = w5 at *; clear u; have hsw5 := hbw5.size; (try simp at hsw5))
      have hbr5 : Below w2.heap.size w2 w5 := hbr.trans (hbw5.mono hbr.size)
      clear hxw5 hsw5 hbw5 z0 z1 y0 y1
      by_cases hc : n1 < n2
      · rw [if_pos hc] at hds
        have e1 : decide (n1 < n2) = true := by simpa using hc
        have HDS2 := Lib.hid hds
        clear hds hc
        go_wp2_with (fail)
        exact ⟨⟨m + 1, m, by omega, by omega, by go_num, rfl, HDS2.out.symm, hbr5⟩, by simp [intOf]; omega⟩
      · rw [if_neg hc] at hds
        have e1 : decide (n1 < n2) = false := by simpa using hc
        have HDS2 := Lib.hid hds
        clear hds hc
        go_wp2_with (fail)
        exact ⟨⟨m + 1, b, by omega, by omega, by go_num, rfl, HDS2.out.symm, hbr5⟩, by simp [intOf]; omega⟩
    · obtain rfl : m = 4 := by omega
      have hq := HQ.out
      rw [← HBD.out] at hq
      have P1 := Lib.hid (PW.out b)
      have HQ2 := Lib.hid hq
      clear hg HQ hq HDS HD4 HD1 HGX PW
      generalize v b = gb at *
      generalize gnorm gb = n1 at *
      go_wp2_with (fail)
      refine (P1.out _).mono ?_
      rintro e w6 ⟨rfl, hb6⟩
      have h6 := hw.trans (hb6.mono hw.size)
      go_wp2_with (fail)
      go_ret2
      rw [HQ2.out, ← HBD.out]
      exact ⟨rfl, h6⟩
end Go.Proofs.YtppghnbabnhnbaaDoor
