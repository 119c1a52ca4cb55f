/-
  Chapter 2: what is mixed from two parts.
-/
import Derived.Test.YtppghnbabnhnbaaDoorESpL
import Derived.Test.YtppghnbabnhnbaaDoorETra
namespace Go.Proofs.YtppghnbabnhnbaaDoor
open Go.ChangeShapes Go.WideShapes Go.ChangeAt Go.RowKit
set_option linter.unusedVariables false
set_option linter.unusedSimpArgs false

set_option maxRecDepth 100000 in
set_option maxHeartbeats 4000000 in
theorem mixed_any (mo me o e : Gs) (w : World) (hm : OkM mo me) (ko : Sz 10000000 o) (ke : Sz 10000000 e) :
    Calls Tryd.prog 115 #[gv2 mo me, gv o, gv e] w fun e' w' => e' = .returned (gv2 (mixA o e) (mixB mo me o e)) ∧ Below w.heap.size w w' := by
  have hq1 : mixA o e = gadd o e := rfl
  have hq2 : mixB mo me o e = gadd (gmul mo o) (gmul me e) := rfl
  have HQ1 := Lib.hid hq1
  have HQ2 := Lib.hid hq2
  have A1 := Lib.hid (fun W => plus_any o e W (ko.mono (by decide)) (ke.mono (by decide)))
  have M1 := Lib.hid (fun W => times_any mo o W (hm.o.mono (by decide)) (ko.mono (by decide)))
  have M2 := Lib.hid (fun W => times_any me e W (hm.e.mono (by decide)) (ke.mono (by decide)))
  have A2 := Lib.hid (fun W => plus_any (gmul mo o) (gmul me e) W ((hm.o.mul ko).mono (by decide)) ((hm.e.mul ke).mono (by decide)))
  clear hq1 hq2 hm ko ke
  generalize mixA o e = q1 at *
  generalize mixB mo me o e = q2 at *
  generalize gmul mo o = p1 at *
  generalize gmul me e = p2 at *
  rw [← HQ1.out] at A1
  rw [← HQ2.out] at A2
  clear HQ1 HQ2
  obtain ⟨mo0, mo1⟩ := mo
  obtain ⟨me0, me1⟩ := me
  obtain ⟨o0, o1⟩ := o
  obtain ⟨e0, e1⟩ := e
  obtain ⟨q10, q11⟩ := q1
  obtain ⟨q20, q21⟩ := q2
  obtain ⟨p10, p11⟩ := p1
  obtain ⟨p20, p21⟩ := p2
  simp only [gv, gv2] at *
  go_enter Tryd.func115, Tryd.ntmps115
  go_upto_region 1 with (fail)
  have hb0 : Below w.heap.size w ((((w.alloc (.cells #[.int .i64 mo0, .int .i64 mo1, .int .i64 me0, .int .i64 me1] 54)).alloc (.cells #[.int .i64 o0, .int .i64 o1] 147)).alloc (.cells #[.int .i64 e0, .int .i64 e1] 147)).alloc (.cells #[.int .i64 0, .int .i64 0, .int .i64 0, .int .i64 0] 168)) := below_alloc _ (Nat.le_refl _) (below_alloc _ (Nat.le_refl _) (below_alloc _ (Nat.le_refl _) (below_alloc _ (Nat.le_refl _) (Below.refl _ _))))
  have m0 : ((((w.alloc (.cells #[.int .i64 mo0, .int .i64 mo1, .int .i64 me0, .int .i64 me1] 54)).alloc (.cells #[.int .i64 o0, .int .i64 o1] 147)).alloc (.cells #[.int .i64 e0, .int .i64 e1] 147)).alloc (.cells #[.int .i64 0, .int .i64 0, .int .i64 0, .int .i64 0] 168)).cell? ⟨w.heap.size, 0, none⟩ = some (.int .i64 mo0) := cell_alloc _ (cell_alloc _ (cell_alloc _ (cell_new (by simp) rfl)))
  have m1 : ((((w.alloc (.cells #[.int .i64 mo0, .int .i64 mo1, .int .i64 me0, .int .i64 me1] 54)).alloc (.cells #[.int .i64 o0, .int .i64 o1] 147)).alloc (.cells #[.int .i64 e0, .int .i64 e1] 147)).alloc (.cells #[.int .i64 0, .int .i64 0, .int .i64 0, .int .i64 0] 168)).cell? ⟨w.heap.size, 1, none⟩ = some (.int .i64 mo1) := cell_alloc _ (cell_alloc _ (cell_alloc _ (cell_new (by simp) rfl)))
  have m2 : ((((w.alloc (.cells #[.int .i64 mo0, .int .i64 mo1, .int .i64 me0, .int .i64 me1] 54)).alloc (.cells #[.int .i64 o0, .int .i64 o1] 147)).alloc (.cells #[.int .i64 e0, .int .i64 e1] 147)).alloc (.cells #[.int .i64 0, .int .i64 0, .int .i64 0, .int .i64 0] 168)).cell? ⟨w.heap.size, 2, none⟩ = some (.int .i64 me0) := cell_alloc _ (cell_alloc _ (cell_alloc _ (cell_new (by simp) rfl)))
  have m3 : ((((w.alloc (.cells #[.int .i64 mo0, .int .i64 mo1, .int .i64 me0, .int .i64 me1] 54)).alloc (.cells #[.int .i64 o0, .int .i64 o1] 147)).alloc (.cells #[.int .i64 e0, .int .i64 e1] 147)).alloc (.cells #[.int .i64 0, .int .i64 0, .int .i64 0, .int .i64 0] 168)).cell? ⟨w.heap.size, 3, none⟩ = some (.int .i64 me1) := cell_alloc _ (cell_alloc _ (cell_alloc _ (cell_new (by simp) rfl)))
  have zm : w.heap.size < ((((w.alloc (.cells #[.int .i64 mo0, .int .i64 mo1, .int .i64 me0, .int .i64 me1] 54)).alloc (.cells #[.int .i64 o0, .int .i64 o1] 147)).alloc (.cells #[.int .i64 e0, .int .i64 e1] 147)).alloc (.cells #[.int .i64 0, .int .i64 0, .int .i64 0, .int .i64 0] 168)).heap.size := World.block_lt_of_cell? _ _ m0
  have a0 : ((((w.alloc (.cells #[.int .i64 mo0, .int .i64 mo1, .int .i64 me0, .int .i64 me1] 54)).alloc (.cells #[.int .i64 o0, .int .i64 o1] 147)).alloc (.cells #[.int .i64 e0, .int .i64 e1] 147)).alloc (.cells #[.int .i64 0, .int .i64 0, .int .i64 0, .int .i64 0] 168)).cell? ⟨w.heap.size + 1, 0, none⟩ = some (.int .i64 o0) := cell_alloc _ (cell_alloc _ (cell_new (by simp) rfl))
  have a1 : ((((w.alloc (.cells #[.int .i64 mo0, .int .i64 mo1, .int .i64 me0, .int .i64 me1] 54)).alloc (.cells #[.int .i64 o0, .int .i64 o1] 147)).alloc (.cells #[.int .i64 e0, .int .i64 e1] 147)).alloc (.cells #[.int .i64 0, .int .i64 0, .int .i64 0, .int .i64 0] 168)).cell? ⟨w.heap.size + 1, 1, none⟩ = some (.int .i64 o1) := cell_alloc _ (cell_alloc _ (cell_new (by simp) rfl))
  have za : w.heap.size + 1 < ((((w.alloc (.cells #[.int .i64 mo0, .int .i64 mo1, .int .i64 me0, .int .i64 me1] 54)).alloc (.cells #[.int .i64 o0, .int .i64 o1] 147)).alloc (.cells #[.int .i64 e0, .int .i64 e1] 147)).alloc (.cells #[.int .i64 0, .int .i64 0, .int .i64 0, .int .i64 0] 168)).heap.size := World.block_lt_of_cell? _ _ a0
  have b0 : ((((w.alloc (.cells #[.int .i64 mo0, .int .i64 mo1, .int .i64 me0, .int .i64 me1] 54)).alloc (.cells #[.int .i64 o0, .int .i64 o1] 147)).alloc (.cells #[.int .i64 e0, .int .i64 e1] 147)).alloc (.cells #[.int .i64 0, .int .i64 0, .int .i64 0, .int .i64 0] 168)).cell? ⟨w.heap.size + 1 + 1, 0, none⟩ = some (.int .i64 e0) := cell_alloc _ (cell_new (by simp) rfl)
  have b1 : ((((w.alloc (.cells #[.int .i64 mo0, .int .i64 mo1, .int .i64 me0, .int .i64 me1] 54)).alloc (.cells #[.int .i64 o0, .int .i64 o1] 147)).alloc (.cells #[.int .i64 e0, .int .i64 e1] 147)).alloc (.cells #[.int .i64 0, .int .i64 0, .int .i64 0, .int .i64 0] 168)).cell? ⟨w.heap.size + 1 + 1, 1, none⟩ = some (.int .i64 e1) := cell_alloc _ (cell_new (by simp) rfl)
  have zb : w.heap.size + 1 + 1 < ((((w.alloc (.cells #[.int .i64 mo0, .int .i64 mo1, .int .i64 me0, .int .i64 me1] 54)).alloc (.cells #[.int .i64 o0, .int .i64 o1] 147)).alloc (.cells #[.int .i64 e0, .int .i64 e1] 147)).alloc (.cells #[.int .i64 0, .int .i64 0, .int .i64 0, .int .i64 0] 168)).heap.size := World.block_lt_of_cell? _ _ b0
  have r0 : ((((w.alloc (.cells #[.int .i64 mo0, .int .i64 mo1, .int .i64 me0, .int .i64 me1] 54)).alloc (.cells #[.int .i64 o0, .int .i64 o1] 147)).alloc (.cells #[.int .i64 e0, .int .i64 e1] 147)).alloc (.cells #[.int .i64 0, .int .i64 0, .int .i64 0, .int .i64 0] 168)).cell? ⟨w.heap.size + 1 + 1 + 1, 0, none⟩ = some (.int .i64 0) := cell_new (by simp) rfl
  have rf0 : ((((w.alloc (.cells #[.int .i64 mo0, .int .i64 mo1, .int .i64 me0, .int .i64 me1] 54)).alloc (.cells #[.int .i64 o0, .int .i64 o1] 147)).alloc (.cells #[.int .i64 e0, .int .i64 e1] 147)).alloc (.cells #[.int .i64 0, .int .i64 0, .int .i64 0, .int .i64 0] 168)).frozen? ⟨w.heap.size + 1 + 1 + 1, 0, none⟩ = false := frozen_new (by simp)
  have r1 : ((((w.alloc (.cells #[.int .i64 mo0, .int .i64 mo1, .int .i64 me0, .int .i64 me1] 54)).alloc (.cells #[.int .i64 o0, .int .i64 o1] 147)).alloc (.cells #[.int .i64 e0, .int .i64 e1] 147)).alloc (.cells #[.int .i64 0, .int .i64 0, .int .i64 0, .int .i64 0] 168)).cell? ⟨w.heap.size + 1 + 1 + 1, 1, none⟩ = some (.int .i64 0) := cell_new (by simp) rfl
  have rf1 : ((((w.alloc (.cells #[.int .i64 mo0, .int .i64 mo1, .int .i64 me0, .int .i64 me1] 54)).alloc (.cells #[.int .i64 o0, .int .i64 o1] 147)).alloc (.cells #[.int .i64 e0, .int .i64 e1] 147)).alloc (.cells #[.int .i64 0, .int .i64 0, .int .i64 0, .int .i64 0] 168)).frozen? ⟨w.heap.size + 1 + 1 + 1, 1, none⟩ = false := frozen_new (by simp)
  have r2 : ((((w.alloc (.cells #[.int .i64 mo0, .int .i64 mo1, .int .i64 me0, .int .i64 me1] 54)).alloc (.cells #[.int .i64 o0, .int .i64 o1] 147)).alloc (.cells #[.int .i64 e0, .int .i64 e1] 147)).alloc (.cells #[.int .i64 0, .int .i64 0, .int .i64 0, .int .i64 0] 168)).cell? ⟨w.heap.size + 1 + 1 + 1, 2, none⟩ = some (.int .i64 0) := cell_new (by simp) rfl
  have rf2 : ((((w.alloc (.cells #[.int .i64 mo0, .int .i64 mo1, .int .i64 me0, .int .i64 me1] 54)).alloc (.cells #[.int .i64 o0, .int .i64 o1] 147)).alloc (.cells #[.int .i64 e0, .int .i64 e1] 147)).alloc (.cells #[.int .i64 0, .int .i64 0, .int .i64 0, .int .i64 0] 168)).frozen? ⟨w.heap.size + 1 + 1 + 1, 2, none⟩ = false := frozen_new (by simp)
  have r3 : ((((w.alloc (.cells #[.int .i64 mo0, .int .i64 mo1, .int .i64 me0, .int .i64 me1] 54)).alloc (.cells #[.int .i64 o0, .int .i64 o1] 147)).alloc (.cells #[.int .i64 e0, .int .i64 e1] 147)).alloc (.cells #[.int .i64 0, .int .i64 0, .int .i64 0, .int .i64 0] 168)).cell? ⟨w.heap.size + 1 + 1 + 1, 3, none⟩ = some (.int .i64 0) := cell_new (by simp) rfl
  have rf3 : ((((w.alloc (.cells #[.int .i64 mo0, .int .i64 mo1, .int .i64 me0, .int .i64 me1] 54)).alloc (.cells #[.int .i64 o0, .int .i64 o1] 147)).alloc (.cells #[.int .i64 e0, .int .i64 e1] 147)).alloc (.cells #[.int .i64 0, .int .i64 0, .int .i64 0, .int .i64 0] 168)).frozen? ⟨w.heap.size + 1 + 1 + 1, 3, none⟩ = false := frozen_new (by simp)
  have zr : w.heap.size + 1 + 1 + 1 < ((((w.alloc (.cells #[.int .i64 mo0, .int .i64 mo1, .int .i64 me0, .int .i64 me1] 54)).alloc (.cells #[.int .i64 o0, .int .i64 o1] 147)).alloc (.cells #[.int .i64 e0, .int .i64 e1] 147)).alloc (.cells #[.int .i64 0, .int .i64 0, .int .i64 0, .int .i64 0] 168)).heap.size := World.block_lt_of_cell? _ _ r0
  generalize ((((w.alloc (.cells #[.int .i64 mo0, .int .i64 mo1, .int .i64 me0, .int .i64 me1] 54)).alloc (.cells #[.int .i64 o0, .int .i64 o1] 147)).alloc (.cells #[.int .i64 e0, .int .i64 e1] 147)).alloc (.cells #[.int .i64 0, .int .i64 0, .int .i64 0, .int .i64 0] 168)) = w0 at *
  (refine region_extx 13 (by kernel_rfl) (by kernel_rfl) fun hx => ?_; simp only [List.take_succ_cons, List.take_zero, List.drop_succ_cons, List.drop_zero]; (repeat (any_goals (first | go_big_quiet_step ((first | ((go_at_call 116; with_reducible exact ext_call (A1.out _))) | ((go_at_call 93; with_reducible exact ext_call (M1.out _))) | ((go_at_call 93; with_reducible exact ext_call (M2.out _))) | ((go_at_call 116; with_reducible exact ext_call (A2.out _))))) | quiet_step ((first | ((go_at_call 116; with_reducible exact ext_call (A1.out _))) | ((go_at_call 93; with_reducible exact ext_call (M1.out _))) | ((go_at_call 93; with_reducible exact ext_call (M2.out _))) | ((go_at_call 116; with_reducible exact ext_call (A2.out _)))))))))
  (refine wpQuiet_nil ?_; clear hx; intro u; have hbw1 := ext_bel _ u; have hxw1 := ext_cell _ u; generalize ext _ u = w1 at *; clear u; have hsw1 := hbw1.size; (try simp at hsw1))
  have h1 : Below w.heap.size w w1 := (hb0).trans ((hbw1).mono (hb0).size)
  replace rf0 := frozen_below hbw1 (World.block_lt_of_cell? _ _ r0) rf0
  replace rf1 := frozen_below hbw1 (World.block_lt_of_cell? _ _ r1) rf1
  replace rf2 := frozen_below hbw1 (World.block_lt_of_cell? _ _ r2) rf2
  replace rf3 := frozen_below hbw1 (World.block_lt_of_cell? _ _ r3) rf3
  replace r0 := cell_below' hbw1 r0
  replace r1 := cell_below' hbw1 r1
  replace r2 := cell_below' hbw1 r2
  replace r3 := cell_below' hbw1 r3
  replace zr := Nat.lt_of_lt_of_le zr (hbw1).size
  clear hbw1 hb0
  clear hxw1 hsw1
  go_wp2_with (fail)
  obtain ⟨f0, f1, f2, f3⟩ := set4 (v0 := .int .i64 q10) (v1 := .int .i64 q11) (v2 := .int .i64 q20) (v3 := .int .i64 q21) r0 r1 r2 r3
  refine bodyPost_ret (v := .agg #[.int .i64 q10, .int .i64 q11, .int .i64 q20, .int .i64 q21]) (by simp [results, Tryd.results115, go_sem, f0, f1, f2, f3]) rfl ?_
  have hle : w.heap.size ≤ w.heap.size + 1 + 1 + 1 := by omega
  exact ⟨rfl, below_set _ hle (below_set _ hle (below_set _ hle (below_set _ hle h1)))⟩
set_option maxRecDepth 100000 in
set_option maxHeartbeats 4000000 in
theorem RMixed_any (mo me o e : Gs) (w : World) (hm : OkM mo me) (ko : Sz 10000000 o) (ke : Sz 10000000 e) :
    Calls Tryd.prog 70 #[gv2 mo me, gv o, gv e] w fun e' w' => e' = .returned (gv2 (mixA o e) (mixB mo me o e)) ∧ Below w.heap.size w w' := by
  have hq1 : mixA o e = gadd o e := rfl
  have hq2 : mixB mo me o e = gadd (gmul mo o) (gmul me e) := rfl
  have HQ1 := Lib.hid hq1
  have HQ2 := Lib.hid hq2
  have A1 := Lib.hid (fun W => GAdd_any o e W (ko.mono (by decide)) (ke.mono (by decide)))
  have M1 := Lib.hid (fun W => GMul_any mo o W (hm.o.mono (by decide)) (ko.mono (by decide)))
  have M2 := Lib.hid (fun W => GMul_any me e W (hm.e.mono (by decide)) (ke.mono (by decide)))
  have A2 := Lib.hid (fun W => GAdd_any (gmul mo o) (gmul me e) W ((hm.o.mul ko).mono (by decide)) ((hm.e.mul ke).mono (by decide)))
  clear hq1 hq2 hm ko ke
  generalize mixA o e = q1 at *
  generalize mixB mo me o e = q2 at *
  generalize gmul mo o = p1 at *
  generalize gmul me e = p2 at *
  rw [← HQ1.out] at A1
  rw [← HQ2.out] at A2
  clear HQ1 HQ2
  obtain ⟨mo0, mo1⟩ := mo
  obtain ⟨me0, me1⟩ := me
  obtain ⟨o0, o1⟩ := o
  obtain ⟨e0, e1⟩ := e
  obtain ⟨q10, q11⟩ := q1
  obtain ⟨q20, q21⟩ := q2
  obtain ⟨p10, p11⟩ := p1
  obtain ⟨p20, p21⟩ := p2
  simp only [gv, gv2] at *
  go_enter Tryd.func70, Tryd.ntmps70
  go_upto_region 1 with (fail)
  have hb0 : Below w.heap.size w ((((w.alloc (.cells #[.int .i64 mo0, .int .i64 mo1, .int .i64 me0, .int .i64 me1] 54)).alloc (.cells #[.int .i64 o0, .int .i64 o1] 24)).alloc (.cells #[.int .i64 e0, .int .i64 e1] 24)).alloc (.cells #[.int .i64 0, .int .i64 0, .int .i64 0, .int .i64 0] 57)) := below_alloc _ (Nat.le_refl _) (below_alloc _ (Nat.le_refl _) (below_alloc _ (Nat.le_refl _) (below_alloc _ (Nat.le_refl _) (Below.refl _ _))))
  have m0 : ((((w.alloc (.cells #[.int .i64 mo0, .int .i64 mo1, .int .i64 me0, .int .i64 me1] 54)).alloc (.cells #[.int .i64 o0, .int .i64 o1] 24)).alloc (.cells #[.int .i64 e0, .int .i64 e1] 24)).alloc (.cells #[.int .i64 0, .int .i64 0, .int .i64 0, .int .i64 0] 57)).cell? ⟨w.heap.size, 0, none⟩ = some (.int .i64 mo0) := cell_alloc _ (cell_alloc _ (cell_alloc _ (cell_new (by simp) rfl)))
  have m1 : ((((w.alloc (.cells #[.int .i64 mo0, .int .i64 mo1, .int .i64 me0, .int .i64 me1] 54)).alloc (.cells #[.int .i64 o0, .int .i64 o1] 24)).alloc (.cells #[.int .i64 e0, .int .i64 e1] 24)).alloc (.cells #[.int .i64 0, .int .i64 0, .int .i64 0, .int .i64 0] 57)).cell? ⟨w.heap.size, 1, none⟩ = some (.int .i64 mo1) := cell_alloc _ (cell_alloc _ (cell_alloc _ (cell_new (by simp) rfl)))
  have m2 : ((((w.alloc (.cells #[.int .i64 mo0, .int .i64 mo1, .int .i64 me0, .int .i64 me1] 54)).alloc (.cells #[.int .i64 o0, .int .i64 o1] 24)).alloc (.cells #[.int .i64 e0, .int .i64 e1] 24)).alloc (.cells #[.int .i64 0, .int .i64 0, .int .i64 0, .int .i64 0] 57)).cell? ⟨w.heap.size, 2, none⟩ = some (.int .i64 me0) := cell_alloc _ (cell_alloc _ (cell_alloc _ (cell_new (by simp) rfl)))
  have m3 : ((((w.alloc (.cells #[.int .i64 mo0, .int .i64 mo1, .int .i64 me0, .int .i64 me1] 54)).alloc (.cells #[.int .i64 o0, .int .i64 o1] 24)).alloc (.cells #[.int .i64 e0, .int .i64 e1] 24)).alloc (.cells #[.int .i64 0, .int .i64 0, .int .i64 0, .int .i64 0] 57)).cell? ⟨w.heap.size, 3, none⟩ = some (.int .i64 me1) := cell_alloc _ (cell_alloc _ (cell_alloc _ (cell_new (by simp) rfl)))
  have zm : w.heap.size < ((((w.alloc (.cells #[.int .i64 mo0, .int .i64 mo1, .int .i64 me0, .int .i64 me1] 54)).alloc (.cells #[.int .i64 o0, .int .i64 o1] 24)).alloc (.cells #[.int .i64 e0, .int .i64 e1] 24)).alloc (.cells #[.int .i64 0, .int .i64 0, .int .i64 0, .int .i64 0] 57)).heap.size := World.block_lt_of_cell? _ _ m0
  have a0 : ((((w.alloc (.cells #[.int .i64 mo0, .int .i64 mo1, .int .i64 me0, .int .i64 me1] 54)).alloc (.cells #[.int .i64 o0, .int .i64 o1] 24)).alloc (.cells #[.int .i64 e0, .int .i64 e1] 24)).alloc (.cells #[.int .i64 0, .int .i64 0, .int .i64 0, .int .i64 0] 57)).cell? ⟨w.heap.size + 1, 0, none⟩ = some (.int .i64 o0) := cell_alloc _ (cell_alloc _ (cell_new (by simp) rfl))
  have a1 : ((((w.alloc (.cells #[.int .i64 mo0, .int .i64 mo1, .int .i64 me0, .int .i64 me1] 54)).alloc (.cells #[.int .i64 o0, .int .i64 o1] 24)).alloc (.cells #[.int .i64 e0, .int .i64 e1] 24)).alloc (.cells #[.int .i64 0, .int .i64 0, .int .i64 0, .int .i64 0] 57)).cell? ⟨w.heap.size + 1, 1, none⟩ = some (.int .i64 o1) := cell_alloc _ (cell_alloc _ (cell_new (by simp) rfl))
  have za : w.heap.size + 1 < ((((w.alloc (.cells #[.int .i64 mo0, .int .i64 mo1, .int .i64 me0, .int .i64 me1] 54)).alloc (.cells #[.int .i64 o0, .int .i64 o1] 24)).alloc (.cells #[.int .i64 e0, .int .i64 e1] 24)).alloc (.cells #[.int .i64 0, .int .i64 0, .int .i64 0, .int .i64 0] 57)).heap.size := World.block_lt_of_cell? _ _ a0
  have b0 : ((((w.alloc (.cells #[.int .i64 mo0, .int .i64 mo1, .int .i64 me0, .int .i64 me1] 54)).alloc (.cells #[.int .i64 o0, .int .i64 o1] 24)).alloc (.cells #[.int .i64 e0, .int .i64 e1] 24)).alloc (.cells #[.int .i64 0, .int .i64 0, .int .i64 0, .int .i64 0] 57)).cell? ⟨w.heap.size + 1 + 1, 0, none⟩ = some (.int .i64 e0) := cell_alloc _ (cell_new (by simp) rfl)
  have b1 : ((((w.alloc (.cells #[.int .i64 mo0, .int .i64 mo1, .int .i64 me0, .int .i64 me1] 54)).alloc (.cells #[.int .i64 o0, .int .i64 o1] 24)).alloc (.cells #[.int .i64 e0, .int .i64 e1] 24)).alloc (.cells #[.int .i64 0, .int .i64 0, .int .i64 0, .int .i64 0] 57)).cell? ⟨w.heap.size + 1 + 1, 1, none⟩ = some (.int .i64 e1) := cell_alloc _ (cell_new (by simp) rfl)
  have zb : w.heap.size + 1 + 1 < ((((w.alloc (.cells #[.int .i64 mo0, .int .i64 mo1, .int .i64 me0, .int .i64 me1] 54)).alloc (.cells #[.int .i64 o0, .int .i64 o1] 24)).alloc (.cells #[.int .i64 e0, .int .i64 e1] 24)).alloc (.cells #[.int .i64 0, .int .i64 0, .int .i64 0, .int .i64 0] 57)).heap.size := World.block_lt_of_cell? _ _ b0
  have r0 : ((((w.alloc (.cells #[.int .i64 mo0, .int .i64 mo1, .int .i64 me0, .int .i64 me1] 54)).alloc (.cells #[.int .i64 o0, .int .i64 o1] 24)).alloc (.cells #[.int .i64 e0, .int .i64 e1] 24)).alloc (.cells #[.int .i64 0, .int .i64 0, .int .i64 0, .int .i64 0] 57)).cell? ⟨w.heap.size + 1 + 1 + 1, 0, none⟩ = some (.int .i64 0) := cell_new (by simp) rfl
  have rf0 : ((((w.alloc (.cells #[.int .i64 mo0, .int .i64 mo1, .int .i64 me0, .int .i64 me1] 54)).alloc (.cells #[.int .i64 o0, .int .i64 o1] 24)).alloc (.cells #[.int .i64 e0, .int .i64 e1] 24)).alloc (.cells #[.int .i64 0, .int .i64 0, .int .i64 0, .int .i64 0] 57)).frozen? ⟨w.heap.size + 1 + 1 + 1, 0, none⟩ = false := frozen_new (by simp)
  have r1 : ((((w.alloc (.cells #[.int .i64 mo0, .int .i64 mo1, .int .i64 me0, .int .i64 me1] 54)).alloc (.cells #[.int .i64 o0, .int .i64 o1] 24)).alloc (.cells #[.int .i64 e0, .int .i64 e1] 24)).alloc (.cells #[.int .i64 0, .int .i64 0, .int .i64 0, .int .i64 0] 57)).cell? ⟨w.heap.size + 1 + 1 + 1, 1, none⟩ = some (.int .i64 0) := cell_new (by simp) rfl
  have rf1 : ((((w.alloc (.cells #[.int .i64 mo0, .int .i64 mo1, .int .i64 me0, .int .i64 me1] 54)).alloc (.cells #[.int .i64 o0, .int .i64 o1] 24)).alloc (.cells #[.int .i64 e0, .int .i64 e1] 24)).alloc (.cells #[.int .i64 0, .int .i64 0, .int .i64 0, .int .i64 0] 57)).frozen? ⟨w.heap.size + 1 + 1 + 1, 1, none⟩ = false := frozen_new (by simp)
  have r2 : ((((w.alloc (.cells #[.int .i64 mo0, .int .i64 mo1, .int .i64 me0, .int .i64 me1] 54)).alloc (.cells #[.int .i64 o0, .int .i64 o1] 24)).alloc (.cells #[.int .i64 e0, .int .i64 e1] 24)).alloc (.cells #[.int .i64 0, .int .i64 0, .int .i64 0, .int .i64 0] 57)).cell? ⟨w.heap.size + 1 + 1 + 1, 2, none⟩ = some (.int .i64 0) := cell_new (by simp) rfl
  have rf2 : ((((w.alloc (.cells #[.int .i64 mo0, .int .i64 mo1, .int .i64 me0, .int .i64 me1] 54)).alloc (.cells #[.int .i64 o0, .int .i64 o1] 24)).alloc (.cells #[.int .i64 e0, .int .i64 e1] 24)).alloc (.cells #[.int .i64 0, .int .i64 0, .int .i64 0, .int .i64 0] 57)).frozen? ⟨w.heap.size + 1 + 1 + 1, 2, none⟩ = false := frozen_new (by simp)
  have r3 : ((((w.alloc (.cells #[.int .i64 mo0, .int .i64 mo1, .int .i64 me0, .int .i64 me1] 54)).alloc (.cells #[.int .i64 o0, .int .i64 o1] 24)).alloc (.cells #[.int .i64 e0, .int .i64 e1] 24)).alloc (.cells #[.int .i64 0, .int .i64 0, .int .i64 0, .int .i64 0] 57)).cell? ⟨w.heap.size + 1 + 1 + 1, 3, none⟩ = some (.int .i64 0) := cell_new (by simp) rfl
  have rf3 : ((((w.alloc (.cells #[.int .i64 mo0, .int .i64 mo1, .int .i64 me0, .int .i64 me1] 54)).alloc (.cells #[.int .i64 o0, .int .i64 o1] 24)).alloc (.cells #[.int .i64 e0, .int .i64 e1] 24)).alloc (.cells #[.int .i64 0, .int .i64 0, .int .i64 0, .int .i64 0] 57)).frozen? ⟨w.heap.size + 1 + 1 + 1, 3, none⟩ = false := frozen_new (by simp)
  have zr : w.heap.size + 1 + 1 + 1 < ((((w.alloc (.cells #[.int .i64 mo0, .int .i64 mo1, .int .i64 me0, .int .i64 me1] 54)).alloc (.cells #[.int .i64 o0, .int .i64 o1] 24)).alloc (.cells #[.int .i64 e0, .int .i64 e1] 24)).alloc (.cells #[.int .i64 0, .int .i64 0, .int .i64 0, .int .i64 0] 57)).heap.size := World.block_lt_of_cell? _ _ r0
  generalize ((((w.alloc (.cells #[.int .i64 mo0, .int .i64 mo1, .int .i64 me0, .int .i64 me1] 54)).alloc (.cells #[.int .i64 o0, .int .i64 o1] 24)).alloc (.cells #[.int .i64 e0, .int .i64 e1] 24)).alloc (.cells #[.int .i64 0, .int .i64 0, .int .i64 0, .int .i64 0] 57)) = w0 at *
  (refine region_extx 13 (by kernel_rfl) (by kernel_rfl) fun hx => ?_; simp only [List.take_succ_cons, List.take_zero, List.drop_succ_cons, List.drop_zero]; (repeat (any_goals (first | go_big_quiet_step ((first | ((go_at_call 46; with_reducible exact ext_call (A1.out _))) | ((go_at_call 22; with_reducible exact ext_call (M1.out _))) | ((go_at_call 22; with_reducible exact ext_call (M2.out _))) | ((go_at_call 46; with_reducible exact ext_call (A2.out _))))) | quiet_step ((first | ((go_at_call 46; with_reducible exact ext_call (A1.out _))) | ((go_at_call 22; with_reducible exact ext_call (M1.out _))) | ((go_at_call 22; with_reducible exact ext_call (M2.out _))) | ((go_at_call 46; with_reducible exact ext_call (A2.out _)))))))))
  (refine wpQuiet_nil ?_; clear hx; intro u; have hbw1 := ext_bel _ u; have hxw1 := ext_cell _ u; generalize ext _ u = w1 at *; clear u; have hsw1 := hbw1.size; (try simp at hsw1))
  have h1 : Below w.heap.size w w1 := (hb0).trans ((hbw1).mono (hb0).size)
  replace rf0 := frozen_below hbw1 (World.block_lt_of_cell? _ _ r0) rf0
  replace rf1 := frozen_below hbw1 (World.block_lt_of_cell? _ _ r1) rf1
  replace rf2 := frozen_below hbw1 (World.block_lt_of_cell? _ _ r2) rf2
  replace rf3 := frozen_below hbw1 (World.block_lt_of_cell? _ _ r3) rf3
  replace r0 := cell_below' hbw1 r0
  replace r1 := cell_below' hbw1 r1
  replace r2 := cell_below' hbw1 r2
  replace r3 := cell_below' hbw1 r3
  replace zr := Nat.lt_of_lt_of_le zr (hbw1).size
  clear hbw1 hb0
  clear hxw1 hsw1
  go_wp2_with (fail)
  obtain ⟨f0, f1, f2, f3⟩ := set4 (v0 := .int .i64 q10) (v1 := .int .i64 q11) (v2 := .int .i64 q20) (v3 := .int .i64 q21) r0 r1 r2 r3
  refine bodyPost_ret (v := .agg #[.int .i64 q10, .int .i64 q11, .int .i64 q20, .int .i64 q21]) (by simp [results, Tryd.results70, go_sem, f0, f1, f2, f3]) rfl ?_
  have hle : w.heap.size ≤ w.heap.size + 1 + 1 + 1 := by omega
  exact ⟨rfl, below_set _ hle (below_set _ hle (below_set _ hle (below_set _ hle h1)))⟩
/-- the error of modes and parts -/
def mixE (mo me o e : Gs) : Int := firstE [mdsE mo me, pairE o e]
def mixQ (mo me o e : Gs) : (Gs × Gs) × Int := if mixE mo me o e = 0 then ((mixA o e, mixB mo me o e), 0) else ((gz, gz), mixE mo me o e)
theorem mixE_zero {mo me x0 x1 : Gs} (h : mixE mo me x0 x1 = 0) : OkM mo me ∧ Sz 10000 x0 ∧ Sz 10000 x1 := sepE2_zero h
set_option maxRecDepth 100000 in
set_option maxHeartbeats 8000000 in
theorem Mixed_any (mo me o e : Gs) (w : World) :
    Calls Tryd.prog 50 #[gv2 mo me, gv2 o e] w fun e' w' => e' = .returned (.tuple #[gv2 (mixQ mo me o e).1.1 (mixQ mo me o e).1.2, .int .i64 (mixQ mo me o e).2]) ∧ Below w.heap.size w w' := by
  have hq : mixQ mo me o e = if mixE mo me o e = 0 then ((mixA o e, mixB mo me o e), 0) else ((gz, gz), mixE mo me o e) := rfl
  have hE : mixE mo me o e = firstE [mdsE mo me, pairE o e] := rfl
  have H1 := Lib.hid (fun W => CheckModes_any mo me W)
  have H2 := Lib.hid (fun W => bothErr_any o e W)
  by_cases h0 : mixE mo me o e = 0
  · rw [if_pos h0] at hq
    obtain ⟨hr, hp0, hp1⟩ := mixE_zero h0
    rw [h0] at hE
    have HG := Lib.hid (fun W => mixed_any mo me o e W hr (hp0.mono (by decide)) (hp1.mono (by decide)))
    have HQ := Lib.hid hq
    have HE := Lib.hid hE
    clear hq hE h0 hr hp0 hp1
    generalize mdsE mo me = e1 at *
    generalize pairE o e = e2 at *
    generalize mixA o e = q1 at *
    generalize mixB mo me o e = q2 at *
    obtain ⟨mo0, mo1⟩ := mo
    obtain ⟨me0, me1⟩ := me
    obtain ⟨o0, o1⟩ := o
    obtain ⟨e0, e1'⟩ := e
    obtain ⟨q10, q11⟩ := q1
    obtain ⟨q20, q21⟩ := q2
    simp only [gv, gv2] at *
    go_enter Tryd.func50, Tryd.ntmps50
    go_upto_region 1 with (fail)
    have hb0 : Below w.heap.size w (((w.alloc (.cells #[.int .i64 mo0, .int .i64 mo1, .int .i64 me0, .int .i64 me1] 54)).alloc (.cells #[.int .i64 o0, .int .i64 o1, .int .i64 e0, .int .i64 e1'] 57)).alloc (.cells #[.int .i64 0, .int .i64 0, .int .i64 0, .int .i64 0] 57)) := below_alloc _ (Nat.le_refl _) (below_alloc _ (Nat.le_refl _) (below_alloc _ (Nat.le_refl _) (Below.refl _ _)))
    have m0 : (((w.alloc (.cells #[.int .i64 mo0, .int .i64 mo1, .int .i64 me0, .int .i64 me1] 54)).alloc (.cells #[.int .i64 o0, .int .i64 o1, .int .i64 e0, .int .i64 e1'] 57)).alloc (.cells #[.int .i64 0, .int .i64 0, .int .i64 0, .int .i64 0] 57)).cell? ⟨w.heap.size, 0, none⟩ = some (.int .i64 mo0) := cell_alloc _ (cell_alloc _ (cell_new (by simp) rfl))
    have m1 : (((w.alloc (.cells #[.int .i64 mo0, .int .i64 mo1, .int .i64 me0, .int .i64 me1] 54)).alloc (.cells #[.int .i64 o0, .int .i64 o1, .int .i64 e0, .int .i64 e1'] 57)).alloc (.cells #[.int .i64 0, .int .i64 0, .int .i64 0, .int .i64 0] 57)).cell? ⟨w.heap.size, 1, none⟩ = some (.int .i64 mo1) := cell_alloc _ (cell_alloc _ (cell_new (by simp) rfl))
    have m2 : (((w.alloc (.cells #[.int .i64 mo0, .int .i64 mo1, .int .i64 me0, .int .i64 me1] 54)).alloc (.cells #[.int .i64 o0, .int .i64 o1, .int .i64 e0, .int .i64 e1'] 57)).alloc (.cells #[.int .i64 0, .int .i64 0, .int .i64 0, .int .i64 0] 57)).cell? ⟨w.heap.size, 2, none⟩ = some (.int .i64 me0) := cell_alloc _ (cell_alloc _ (cell_new (by simp) rfl))
    have m3 : (((w.alloc (.cells #[.int .i64 mo0, .int .i64 mo1, .int .i64 me0, .int .i64 me1] 54)).alloc (.cells #[.int .i64 o0, .int .i64 o1, .int .i64 e0, .int .i64 e1'] 57)).alloc (.cells #[.int .i64 0, .int .i64 0, .int .i64 0, .int .i64 0] 57)).cell? ⟨w.heap.size, 3, none⟩ = some (.int .i64 me1) := cell_alloc _ (cell_alloc _ (cell_new (by simp) rfl))
    have zm : w.heap.size < (((w.alloc (.cells #[.int .i64 mo0, .int .i64 mo1, .int .i64 me0, .int .i64 me1] 54)).alloc (.cells #[.int .i64 o0, .int .i64 o1, .int .i64 e0, .int .i64 e1'] 57)).alloc (.cells #[.int .i64 0, .int .i64 0, .int .i64 0, .int .i64 0] 57)).heap.size := World.block_lt_of_cell? _ _ m0
    have x0 : (((w.alloc (.cells #[.int .i64 mo0, .int .i64 mo1, .int .i64 me0, .int .i64 me1] 54)).alloc (.cells #[.int .i64 o0, .int .i64 o1, .int .i64 e0, .int .i64 e1'] 57)).alloc (.cells #[.int .i64 0, .int .i64 0, .int .i64 0, .int .i64 0] 57)).cell? ⟨w.heap.size + 1, 0, none⟩ = some (.int .i64 o0) := cell_alloc _ (cell_new (by simp) rfl)
    have x1 : (((w.alloc (.cells #[.int .i64 mo0, .int .i64 mo1, .int .i64 me0, .int .i64 me1] 54)).alloc (.cells #[.int .i64 o0, .int .i64 o1, .int .i64 e0, .int .i64 e1'] 57)).alloc (.cells #[.int .i64 0, .int .i64 0, .int .i64 0, .int .i64 0] 57)).cell? ⟨w.heap.size + 1, 1, none⟩ = some (.int .i64 o1) := cell_alloc _ (cell_new (by simp) rfl)
    have x2 : (((w.alloc (.cells #[.int .i64 mo0, .int .i64 mo1, .int .i64 me0, .int .i64 me1] 54)).alloc (.cells #[.int .i64 o0, .int .i64 o1, .int .i64 e0, .int .i64 e1'] 57)).alloc (.cells #[.int .i64 0, .int .i64 0, .int .i64 0, .int .i64 0] 57)).cell? ⟨w.heap.size + 1, 2, none⟩ = some (.int .i64 e0) := cell_alloc _ (cell_new (by simp) rfl)
    have x3 : (((w.alloc (.cells #[.int .i64 mo0, .int .i64 mo1, .int .i64 me0, .int .i64 me1] 54)).alloc (.cells #[.int .i64 o0, .int .i64 o1, .int .i64 e0, .int .i64 e1'] 57)).alloc (.cells #[.int .i64 0, .int .i64 0, .int .i64 0, .int .i64 0] 57)).cell? ⟨w.heap.size + 1, 3, none⟩ = some (.int .i64 e1') := cell_alloc _ (cell_new (by simp) rfl)
    have zx : w.heap.size + 1 < (((w.alloc (.cells #[.int .i64 mo0, .int .i64 mo1, .int .i64 me0, .int .i64 me1] 54)).alloc (.cells #[.int .i64 o0, .int .i64 o1, .int .i64 e0, .int .i64 e1'] 57)).alloc (.cells #[.int .i64 0, .int .i64 0, .int .i64 0, .int .i64 0] 57)).heap.size := World.block_lt_of_cell? _ _ x0
    have r0 : (((w.alloc (.cells #[.int .i64 mo0, .int .i64 mo1, .int .i64 me0, .int .i64 me1] 54)).alloc (.cells #[.int .i64 o0, .int .i64 o1, .int .i64 e0, .int .i64 e1'] 57)).alloc (.cells #[.int .i64 0, .int .i64 0, .int .i64 0, .int .i64 0] 57)).cell? ⟨w.heap.size + 1 + 1, 0, none⟩ = some (.int .i64 0) := cell_new (by simp) rfl
    have rf0 : (((w.alloc (.cells #[.int .i64 mo0, .int .i64 mo1, .int .i64 me0, .int .i64 me1] 54)).alloc (.cells #[.int .i64 o0, .int .i64 o1, .int .i64 e0, .int .i64 e1'] 57)).alloc (.cells #[.int .i64 0, .int .i64 0, .int .i64 0, .int .i64 0] 57)).frozen? ⟨w.heap.size + 1 + 1, 0, none⟩ = false := frozen_new (by simp)
    have r1 : (((w.alloc (.cells #[.int .i64 mo0, .int .i64 mo1, .int .i64 me0, .int .i64 me1] 54)).alloc (.cells #[.int .i64 o0, .int .i64 o1, .int .i64 e0, .int .i64 e1'] 57)).alloc (.cells #[.int .i64 0, .int .i64 0, .int .i64 0, .int .i64 0] 57)).cell? ⟨w.heap.size + 1 + 1, 1, none⟩ = some (.int .i64 0) := cell_new (by simp) rfl
    have rf1 : (((w.alloc (.cells #[.int .i64 mo0, .int .i64 mo1, .int .i64 me0, .int .i64 me1] 54)).alloc (.cells #[.int .i64 o0, .int .i64 o1, .int .i64 e0, .int .i64 e1'] 57)).alloc (.cells #[.int .i64 0, .int .i64 0, .int .i64 0, .int .i64 0] 57)).frozen? ⟨w.heap.size + 1 + 1, 1, none⟩ = false := frozen_new (by simp)
    have r2 : (((w.alloc (.cells #[.int .i64 mo0, .int .i64 mo1, .int .i64 me0, .int .i64 me1] 54)).alloc (.cells #[.int .i64 o0, .int .i64 o1, .int .i64 e0, .int .i64 e1'] 57)).alloc (.cells #[.int .i64 0, .int .i64 0, .int .i64 0, .int .i64 0] 57)).cell? ⟨w.heap.size + 1 + 1, 2, none⟩ = some (.int .i64 0) := cell_new (by simp) rfl
    have rf2 : (((w.alloc (.cells #[.int .i64 mo0, .int .i64 mo1, .int .i64 me0, .int .i64 me1] 54)).alloc (.cells #[.int .i64 o0, .int .i64 o1, .int .i64 e0, .int .i64 e1'] 57)).alloc (.cells #[.int .i64 0, .int .i64 0, .int .i64 0, .int .i64 0] 57)).frozen? ⟨w.heap.size + 1 + 1, 2, none⟩ = false := frozen_new (by simp)
    have r3 : (((w.alloc (.cells #[.int .i64 mo0, .int .i64 mo1, .int .i64 me0, .int .i64 me1] 54)).alloc (.cells #[.int .i64 o0, .int .i64 o1, .int .i64 e0, .int .i64 e1'] 57)).alloc (.cells #[.int .i64 0, .int .i64 0, .int .i64 0, .int .i64 0] 57)).cell? ⟨w.heap.size + 1 + 1, 3, none⟩ = some (.int .i64 0) := cell_new (by simp) rfl
    have rf3 : (((w.alloc (.cells #[.int .i64 mo0, .int .i64 mo1, .int .i64 me0, .int .i64 me1] 54)).alloc (.cells #[.int .i64 o0, .int .i64 o1, .int .i64 e0, .int .i64 e1'] 57)).alloc (.cells #[.int .i64 0, .int .i64 0, .int .i64 0, .int .i64 0] 57)).frozen? ⟨w.heap.size + 1 + 1, 3, none⟩ = false := frozen_new (by simp)
    have zr : w.heap.size + 1 + 1 < (((w.alloc (.cells #[.int .i64 mo0, .int .i64 mo1, .int .i64 me0, .int .i64 me1] 54)).alloc (.cells #[.int .i64 o0, .int .i64 o1, .int .i64 e0, .int .i64 e1'] 57)).alloc (.cells #[.int .i64 0, .int .i64 0, .int .i64 0, .int .i64 0] 57)).heap.size := World.block_lt_of_cell? _ _ r0
    generalize (((w.alloc (.cells #[.int .i64 mo0, .int .i64 mo1, .int .i64 me0, .int .i64 me1] 54)).alloc (.cells #[.int .i64 o0, .int .i64 o1, .int .i64 e0, .int .i64 e1'] 57)).alloc (.cells #[.int .i64 0, .int .i64 0, .int .i64 0, .int .i64 0] 57)) = w0 at *
    (refine region_extx 4 (by kernel_rfl) (by kernel_rfl) fun hx => ?_; simp only [List.take_succ_cons, List.take_zero, List.drop_succ_cons, List.drop_zero]; (repeat (any_goals (first | go_big_quiet_step ((first | ((go_at_call 68; with_reducible exact ext_call (H1.out _))) | ((go_at_call 103; with_reducible exact ext_call (H2.out _))))) | quiet_step ((first | ((go_at_call 68; with_reducible exact ext_call (H1.out _))) | ((go_at_call 103; with_reducible exact ext_call (H2.out _)))))))))
    (refine wpQuiet_nil ?_; clear hx; intro u; have hbw2 := ext_bel _ u; have hxw2 := ext_cell _ u; generalize ext _ u = w2 at *; clear u; have hsw2 := hbw2.size; (try simp at hsw2))
    have h1 : Below w.heap.size w w2 := (hb0).trans ((hbw2).mono (hb0).size)
    replace m0 := cell_below' hbw2 m0
    replace m1 := cell_below' hbw2 m1
    replace m2 := cell_below' hbw2 m2
    replace m3 := cell_below' hbw2 m3
    replace zm := Nat.lt_of_lt_of_le zm (hbw2).size
    replace x0 := cell_below' hbw2 x0
    replace x1 := cell_below' hbw2 x1
    replace x2 := cell_below' hbw2 x2
    replace x3 := cell_below' hbw2 x3
    replace zx := Nat.lt_of_lt_of_le zx (hbw2).size
    replace rf0 := frozen_below hbw2 (World.block_lt_of_cell? _ _ r0) rf0
    replace rf1 := frozen_below hbw2 (World.block_lt_of_cell? _ _ r1) rf1
    replace rf2 := frozen_below hbw2 (World.block_lt_of_cell? _ _ r2) rf2
    replace rf3 := frozen_below hbw2 (World.block_lt_of_cell? _ _ r3) rf3
    replace r0 := cell_below' hbw2 r0
    replace r1 := cell_below' hbw2 r1
    replace r2 := cell_below' hbw2 r2
    replace r3 := cell_below' hbw2 r3
    replace zr := Nat.lt_of_lt_of_le zr (hbw2).size
    clear hbw2 hb0
    clear hxw2 hsw2
    go_upto_region 4 with (go_at_call 87; refine (first2 _ _ _ _ (by simp) (cell_new (by simp) rfl) (cell_new (by simp) rfl)).mono ?_; rintro e w' ⟨rfl, rfl⟩; rw [← HE.out])
    have hbv : Below w2.heap.size w2 (w2.alloc (.cells #[.int .i64 e1, .int .i64 e2] 30)) := (by repeat (first | assumption | exact Below.refl _ _ | refine Below.drew ?_ | (refine below_alloc _ ?_ ?_; focus (first | omega | (simp; done) | (simp; omega) | (simp at *; omega))) | (refine below_set _ ?_ ?_; focus (first | omega | (simp; done) | (simp; omega) | (simp at *; omega))) | refine below_drewN ?_ _ | (refine below_call (by assumption) ?_ ?_; focus (first | omega | (simp; done) | (simp; omega) | (simp at *; omega))) | (refine below_call' (by assumption) ?_ ?_; focus (first | omega | (simp; done) | (simp; omega) | (simp at *; omega)))))
    generalize (w2.alloc (.cells #[.int .i64 e1, .int .i64 e2] 30)) = w3 at *
    have h2 : Below w.heap.size w w3 := (h1).trans ((hbv).mono (h1).size)
    replace m0 := cell_below' hbv m0
    replace m1 := cell_below' hbv m1
    replace m2 := cell_below' hbv m2
    replace m3 := cell_below' hbv m3
    replace zm := Nat.lt_of_lt_of_le zm (hbv).size
    replace x0 := cell_below' hbv x0
    replace x1 := cell_below' hbv x1
    replace x2 := cell_below' hbv x2
    replace x3 := cell_below' hbv x3
    replace zx := Nat.lt_of_lt_of_le zx (hbv).size
    replace rf0 := frozen_below hbv (World.block_lt_of_cell? _ _ r0) rf0
    replace rf1 := frozen_below hbv (World.block_lt_of_cell? _ _ r1) rf1
    replace rf2 := frozen_below hbv (World.block_lt_of_cell? _ _ r2) rf2
    replace rf3 := frozen_below hbv (World.block_lt_of_cell? _ _ r3) rf3
    replace r0 := cell_below' hbv r0
    replace r1 := cell_below' hbv r1
    replace r2 := cell_below' hbv r2
    replace r3 := cell_below' hbv r3
    replace zr := Nat.lt_of_lt_of_le zr (hbv).size
    clear hbv h1
    go_wp2_with (fail)
    refine (HG.out _).mono ?_
    rintro e w4 ⟨rfl, hb4⟩
    have h3 : Below w.heap.size w w4 := (h2).trans ((hb4).mono (h2).size)
    replace rf0 := frozen_below hb4 (World.block_lt_of_cell? _ _ r0) rf0
    replace rf1 := frozen_below hb4 (World.block_lt_of_cell? _ _ r1) rf1
    replace rf2 := frozen_below hb4 (World.block_lt_of_cell? _ _ r2) rf2
    replace rf3 := frozen_below hb4 (World.block_lt_of_cell? _ _ r3) rf3
    replace r0 := cell_below' hb4 r0
    replace r1 := cell_below' hb4 r1
    replace r2 := cell_below' hb4 r2
    replace r3 := cell_below' hb4 r3
    replace zr := Nat.lt_of_lt_of_le zr (hb4).size
    clear hb4 h2
    go_upto_region 5 with (fail)
    have hb5 : Below w4.heap.size w4 (w4.alloc (.cells #[.int .i64 q10, .int .i64 q11, .int .i64 q20, .int .i64 q21] 168)) := below_alloc _ (Nat.le_refl _) (Below.refl _ _)
    have y0 : (w4.alloc (.cells #[.int .i64 q10, .int .i64 q11, .int .i64 q20, .int .i64 q21] 168)).cell? ⟨w4.heap.size, 0, none⟩ = some (.int .i64 q10) := cell_new (by simp) rfl
    have y1 : (w4.alloc (.cells #[.int .i64 q10, .int .i64 q11, .int .i64 q20, .int .i64 q21] 168)).cell? ⟨w4.heap.size, 1, none⟩ = some (.int .i64 q11) := cell_new (by simp) rfl
    have y2 : (w4.alloc (.cells #[.int .i64 q10, .int .i64 q11, .int .i64 q20, .int .i64 q21] 168)).cell? ⟨w4.heap.size, 2, none⟩ = some (.int .i64 q20) := cell_new (by simp) rfl
    have y3 : (w4.alloc (.cells #[.int .i64 q10, .int .i64 q11, .int .i64 q20, .int .i64 q21] 168)).cell? ⟨w4.heap.size, 3, none⟩ = some (.int .i64 q21) := cell_new (by simp) rfl
    have zy : w4.heap.size < (w4.alloc (.cells #[.int .i64 q10, .int .i64 q11, .int .i64 q20, .int .i64 q21] 168)).heap.size := World.block_lt_of_cell? _ _ y0
    generalize (w4.alloc (.cells #[.int .i64 q10, .int .i64 q11, .int .i64 q20, .int .i64 q21] 168)) = w5 at *
    have h4 : Below w.heap.size w w5 := (h3).trans ((hb5).mono (h3).size)
    replace rf0 := frozen_below hb5 (World.block_lt_of_cell? _ _ r0) rf0
    replace rf1 := frozen_below hb5 (World.block_lt_of_cell? _ _ r1) rf1
    replace rf2 := frozen_below hb5 (World.block_lt_of_cell? _ _ r2) rf2
    replace rf3 := frozen_below hb5 (World.block_lt_of_cell? _ _ r3) rf3
    replace r0 := cell_below' hb5 r0
    replace r1 := cell_below' hb5 r1
    replace r2 := cell_below' hb5 r2
    replace r3 := cell_below' hb5 r3
    replace zr := Nat.lt_of_lt_of_le zr (hb5).size
    clear hb5 h3
    go_wp2_with (fail)
    obtain ⟨f0, f1, f2, f3⟩ := set4 (v0 := .int .i64 q10) (v1 := .int .i64 q11) (v2 := .int .i64 q20) (v3 := .int .i64 q21) r0 r1 r2 r3
    refine bodyPost_ret (v := .tuple #[.agg #[.int .i64 q10, .int .i64 q11, .int .i64 q20, .int .i64 q21], .int .i64 0]) (by simp [results, Tryd.results50, go_sem, f0, f1, f2, f3]) rfl ?_
    rw [HQ.out]
    have hle : w.heap.size ≤ w.heap.size + 1 + 1 := by omega
    exact ⟨rfl, below_set _ hle (below_set _ hle (below_set _ hle (below_set _ hle h4)))⟩
  · rw [if_neg h0] at hq
    have HQ := Lib.hid hq
    have HE := Lib.hid hE
    have e9 : (mixE mo me o e != 0) = true := by simpa using h0
    clear hq hE h0
    generalize mixE mo me o e = E at *
    generalize mdsE mo me = e1 at *
    generalize pairE o e = e2 at *
    obtain ⟨mo0, mo1⟩ := mo
    obtain ⟨me0, me1⟩ := me
    obtain ⟨o0, o1⟩ := o
    obtain ⟨e0, e1'⟩ := e
    simp only [gv, gv2] at *
    go_enter Tryd.func50, Tryd.ntmps50
    go_upto_region 1 with (fail)
    have hb0 : Below w.heap.size w (((w.alloc (.cells #[.int .i64 mo0, .int .i64 mo1, .int .i64 me0, .int .i64 me1] 54)).alloc (.cells #[.int .i64 o0, .int .i64 o1, .int .i64 e0, .int .i64 e1'] 57)).alloc (.cells #[.int .i64 0, .int .i64 0, .int .i64 0, .int .i64 0] 57)) := below_alloc _ (Nat.le_refl _) (below_alloc _ (Nat.le_refl _) (below_alloc _ (Nat.le_refl _) (Below.refl _ _)))
    have m0 : (((w.alloc (.cells #[.int .i64 mo0, .int .i64 mo1, .int .i64 me0, .int .i64 me1] 54)).alloc (.cells #[.int .i64 o0, .int .i64 o1, .int .i64 e0, .int .i64 e1'] 57)).alloc (.cells #[.int .i64 0, .int .i64 0, .int .i64 0, .int .i64 0] 57)).cell? ⟨w.heap.size, 0, none⟩ = some (.int .i64 mo0) := cell_alloc _ (cell_alloc _ (cell_new (by simp) rfl))
    have m1 : (((w.alloc (.cells #[.int .i64 mo0, .int .i64 mo1, .int .i64 me0, .int .i64 me1] 54)).alloc (.cells #[.int .i64 o0, .int .i64 o1, .int .i64 e0, .int .i64 e1'] 57)).alloc (.cells #[.int .i64 0, .int .i64 0, .int .i64 0, .int .i64 0] 57)).cell? ⟨w.heap.size, 1, none⟩ = some (.int .i64 mo1) := cell_alloc _ (cell_alloc _ (cell_new (by simp) rfl))
    have m2 : (((w.alloc (.cells #[.int .i64 mo0, .int .i64 mo1, .int .i64 me0, .int .i64 me1] 54)).alloc (.cells #[.int .i64 o0, .int .i64 o1, .int .i64 e0, .int .i64 e1'] 57)).alloc (.cells #[.int .i64 0, .int .i64 0, .int .i64 0, .int .i64 0] 57)).cell? ⟨w.heap.size, 2, none⟩ = some (.int .i64 me0) := cell_alloc _ (cell_alloc _ (cell_new (by simp) rfl))
    have m3 : (((w.alloc (.cells #[.int .i64 mo0, .int .i64 mo1, .int .i64 me0, .int .i64 me1] 54)).alloc (.cells #[.int .i64 o0, .int .i64 o1, .int .i64 e0, .int .i64 e1'] 57)).alloc (.cells #[.int .i64 0, .int .i64 0, .int .i64 0, .int .i64 0] 57)).cell? ⟨w.heap.size, 3, none⟩ = some (.int .i64 me1) := cell_alloc _ (cell_alloc _ (cell_new (by simp) rfl))
    have zm : w.heap.size < (((w.alloc (.cells #[.int .i64 mo0, .int .i64 mo1, .int .i64 me0, .int .i64 me1] 54)).alloc (.cells #[.int .i64 o0, .int .i64 o1, .int .i64 e0, .int .i64 e1'] 57)).alloc (.cells #[.int .i64 0, .int .i64 0, .int .i64 0, .int .i64 0] 57)).heap.size := World.block_lt_of_cell? _ _ m0
    have x0 : (((w.alloc (.cells #[.int .i64 mo0, .int .i64 mo1, .int .i64 me0, .int .i64 me1] 54)).alloc (.cells #[.int .i64 o0, .int .i64 o1, .int .i64 e0, .int .i64 e1'] 57)).alloc (.cells #[.int .i64 0, .int .i64 0, .int .i64 0, .int .i64 0] 57)).cell? ⟨w.heap.size + 1, 0, none⟩ = some (.int .i64 o0) := cell_alloc _ (cell_new (by simp) rfl)
    have x1 : (((w.alloc (.cells #[.int .i64 mo0, .int .i64 mo1, .int .i64 me0, .int .i64 me1] 54)).alloc (.cells #[.int .i64 o0, .int .i64 o1, .int .i64 e0, .int .i64 e1'] 57)).alloc (.cells #[.int .i64 0, .int .i64 0, .int .i64 0, .int .i64 0] 57)).cell? ⟨w.heap.size + 1, 1, none⟩ = some (.int .i64 o1) := cell_alloc _ (cell_new (by simp) rfl)
    have x2 : (((w.alloc (.cells #[.int .i64 mo0, .int .i64 mo1, .int .i64 me0, .int .i64 me1] 54)).alloc (.cells #[.int .i64 o0, .int .i64 o1, .int .i64 e0, .int .i64 e1'] 57)).alloc (.cells #[.int .i64 0, .int .i64 0, .int .i64 0, .int .i64 0] 57)).cell? ⟨w.heap.size + 1, 2, none⟩ = some (.int .i64 e0) := cell_alloc _ (cell_new (by simp) rfl)
    have x3 : (((w.alloc (.cells #[.int .i64 mo0, .int .i64 mo1, .int .i64 me0, .int .i64 me1] 54)).alloc (.cells #[.int .i64 o0, .int .i64 o1, .int .i64 e0, .int .i64 e1'] 57)).alloc (.cells #[.int .i64 0, .int .i64 0, .int .i64 0, .int .i64 0] 57)).cell? ⟨w.heap.size + 1, 3, none⟩ = some (.int .i64 e1') := cell_alloc _ (cell_new (by simp) rfl)
    have zx : w.heap.size + 1 < (((w.alloc (.cells #[.int .i64 mo0, .int .i64 mo1, .int .i64 me0, .int .i64 me1] 54)).alloc (.cells #[.int .i64 o0, .int .i64 o1, .int .i64 e0, .int .i64 e1'] 57)).alloc (.cells #[.int .i64 0, .int .i64 0, .int .i64 0, .int .i64 0] 57)).heap.size := World.block_lt_of_cell? _ _ x0
    have r0 : (((w.alloc (.cells #[.int .i64 mo0, .int .i64 mo1, .int .i64 me0, .int .i64 me1] 54)).alloc (.cells #[.int .i64 o0, .int .i64 o1, .int .i64 e0, .int .i64 e1'] 57)).alloc (.cells #[.int .i64 0, .int .i64 0, .int .i64 0, .int .i64 0] 57)).cell? ⟨w.heap.size + 1 + 1, 0, none⟩ = some (.int .i64 0) := cell_new (by simp) rfl
    have rf0 : (((w.alloc (.cells #[.int .i64 mo0, .int .i64 mo1, .int .i64 me0, .int .i64 me1] 54)).alloc (.cells #[.int .i64 o0, .int .i64 o1, .int .i64 e0, .int .i64 e1'] 57)).alloc (.cells #[.int .i64 0, .int .i64 0, .int .i64 0, .int .i64 0] 57)).frozen? ⟨w.heap.size + 1 + 1, 0, none⟩ = false := frozen_new (by simp)
    have r1 : (((w.alloc (.cells #[.int .i64 mo0, .int .i64 mo1, .int .i64 me0, .int .i64 me1] 54)).alloc (.cells #[.int .i64 o0, .int .i64 o1, .int .i64 e0, .int .i64 e1'] 57)).alloc (.cells #[.int .i64 0, .int .i64 0, .int .i64 0, .int .i64 0] 57)).cell? ⟨w.heap.size + 1 + 1, 1, none⟩ = some (.int .i64 0) := cell_new (by simp) rfl
    have rf1 : (((w.alloc (.cells #[.int .i64 mo0, .int .i64 mo1, .int .i64 me0, .int .i64 me1] 54)).alloc (.cells #[.int .i64 o0, .int .i64 o1, .int .i64 e0, .int .i64 e1'] 57)).alloc (.cells #[.int .i64 0, .int .i64 0, .int .i64 0, .int .i64 0] 57)).frozen? ⟨w.heap.size + 1 + 1, 1, none⟩ = false := frozen_new (by simp)
    have r2 : (((w.alloc (.cells #[.int .i64 mo0, .int .i64 mo1, .int .i64 me0, .int .i64 me1] 54)).alloc (.cells #[.int .i64 o0, .int .i64 o1, .int .i64 e0, .int .i64 e1'] 57)).alloc (.cells #[.int .i64 0, .int .i64 0, .int .i64 0, .int .i64 0] 57)).cell? ⟨w.heap.size + 1 + 1, 2, none⟩ = some (.int .i64 0) := cell_new (by simp) rfl
    have rf2 : (((w.alloc (.cells #[.int .i64 mo0, .int .i64 mo1, .int .i64 me0, .int .i64 me1] 54)).alloc (.cells #[.int .i64 o0, .int .i64 o1, .int .i64 e0, .int .i64 e1'] 57)).alloc (.cells #[.int .i64 0, .int .i64 0, .int .i64 0, .int .i64 0] 57)).frozen? ⟨w.heap.size + 1 + 1, 2, none⟩ = false := frozen_new (by simp)
    have r3 : (((w.alloc (.cells #[.int .i64 mo0, .int .i64 mo1, .int .i64 me0, .int .i64 me1] 54)).alloc (.cells #[.int .i64 o0, .int .i64 o1, .int .i64 e0, .int .i64 e1'] 57)).alloc (.cells #[.int .i64 0, .int .i64 0, .int .i64 0, .int .i64 0] 57)).cell? ⟨w.heap.size + 1 + 1, 3, none⟩ = some (.int .i64 0) := cell_new (by simp) rfl
    have rf3 : (((w.alloc (.cells #[.int .i64 mo0, .int .i64 mo1, .int .i64 me0, .int .i64 me1] 54)).alloc (.cells #[.int .i64 o0, .int .i64 o1, .int .i64 e0, .int .i64 e1'] 57)).alloc (.cells #[.int .i64 0, .int .i64 0, .int .i64 0, .int .i64 0] 57)).frozen? ⟨w.heap.size + 1 + 1, 3, none⟩ = false := frozen_new (by simp)
    have zr : w.heap.size + 1 + 1 < (((w.alloc (.cells #[.int .i64 mo0, .int .i64 mo1, .int .i64 me0, .int .i64 me1] 54)).alloc (.cells #[.int .i64 o0, .int .i64 o1, .int .i64 e0, .int .i64 e1'] 57)).alloc (.cells #[.int .i64 0, .int .i64 0, .int .i64 0, .int .i64 0] 57)).heap.size := World.block_lt_of_cell? _ _ r0
    generalize (((w.alloc (.cells #[.int .i64 mo0, .int .i64 mo1, .int .i64 me0, .int .i64 me1] 54)).alloc (.cells #[.int .i64 o0, .int .i64 o1, .int .i64 e0, .int .i64 e1'] 57)).alloc (.cells #[.int .i64 0, .int .i64 0, .int .i64 0, .int .i64 0] 57)) = w0 at *
    (refine region_extx 4 (by kernel_rfl) (by kernel_rfl) fun hx => ?_; simp only [List.take_succ_cons, List.take_zero, List.drop_succ_cons, List.drop_zero]; (repeat (any_goals (first | go_big_quiet_step ((first | ((go_at_call 68; with_reducible exact ext_call (H1.out _))) | ((go_at_call 103; with_reducible exact ext_call (H2.out _))))) | quiet_step ((first | ((go_at_call 68; with_reducible exact ext_call (H1.out _))) | ((go_at_call 103; with_reducible exact ext_call (H2.out _)))))))))
    (refine wpQuiet_nil ?_; clear hx; intro u; have hbw2 := ext_bel _ u; have hxw2 := ext_cell _ u; generalize ext _ u = w2 at *; clear u; have hsw2 := hbw2.size; (try simp at hsw2))
    have h1 : Below w.heap.size w w2 := (hb0).trans ((hbw2).mono (hb0).size)
    replace rf0 := frozen_below hbw2 (World.block_lt_of_cell? _ _ r0) rf0
    replace rf1 := frozen_below hbw2 (World.block_lt_of_cell? _ _ r1) rf1
    replace rf2 := frozen_below hbw2 (World.block_lt_of_cell? _ _ r2) rf2
    replace rf3 := frozen_below hbw2 (World.block_lt_of_cell? _ _ r3) rf3
    replace r0 := cell_below' hbw2 r0
    replace r1 := cell_below' hbw2 r1
    replace r2 := cell_below' hbw2 r2
    replace r3 := cell_below' hbw2 r3
    replace zr := Nat.lt_of_lt_of_le zr (hbw2).size
    clear hbw2 hb0
    clear hxw2 hsw2
    go_wp2_with (go_at_call 87; refine (first2 _ _ _ _ (by simp) (cell_new (by simp) rfl) (cell_new (by simp) rfl)).mono ?_; rintro e w' ⟨rfl, rfl⟩; rw [← HE.out])
    obtain ⟨f0, f1, f2, f3⟩ := set4 (v0 := .int .i64 0) (v1 := .int .i64 0) (v2 := .int .i64 0) (v3 := .int .i64 0) r0 r1 r2 r3
    have p0 := fun o => cell_alloc o f0
    have p1 := fun o => cell_alloc o f1
    have p2 := fun o => cell_alloc o f2
    have p3 := fun o => cell_alloc o f3
    refine bodyPost_ret (v := .tuple #[.agg #[.int .i64 0, .int .i64 0, .int .i64 0, .int .i64 0], .int .i64 E]) (by simp only [results, Tryd.results50]; simp [go_sem, p0, p1, p2, p3]) rfl ?_
    rw [HQ.out]
    have hle : w.heap.size ≤ w.heap.size + 1 + 1 := by omega
    exact ⟨rfl, below_alloc _ (Nat.le_refl _) (below_set _ hle (below_set _ hle (below_set _ hle (below_set _ hle h1))))⟩
end Go.Proofs.YtppghnbabnhnbaaDoor
