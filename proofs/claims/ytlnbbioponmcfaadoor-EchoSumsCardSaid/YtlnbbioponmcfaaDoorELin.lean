/-
  Chapter 2: the lines of samples; the Doppler line.
-/
import Derived.Test.YtlnbbioponmcfaaDoorETra
namespace Go.Proofs.YtlnbbioponmcfaaDoor
open Go.ChangeShapes Go.WideShapes Go.ChangeAt Go.RowKit
set_option linter.unusedVariables false
set_option linter.unusedSimpArgs false

theorem eqIn (a b : Gs) (w : World) : (Op.equalIn 9999 30 (.agg #[.int .i64 a.re, .int .i64 a.im]) (.agg #[.int .i64 b.re, .int .i64 b.im])).run Tryd.prog w = .ok (eqB a b) w := by
  have hS : Tryd.prog.underlying 30 = some (.struct (Tryd.prog.fieldsOf 30)) := by kernel_rfl
  have hp : Tryd.prog.stoodInHeld 30 = false := by kernel_rfl
  rw [show (9999 : Nat) = 9998 + 1 from rfl, run_equalIn_agg w 9998 30 _ _ hS hp]
  simp only [Program.fieldsOf, Tryd.underlying30]
  unfold eqB
  cases h0 : (a.re == b.re) <;> cases h1 : (a.im == b.im) <;> go_simp
theorem eqLd (d : Nat) (hd : ∀ (a b : Gs) w, (Op.equalIn d 30 (.agg #[.int .i64 a.re, .int .i64 a.im]) (.agg #[.int .i64 b.re, .int .i64 b.im])).run Tryd.prog w = .ok (eqB a b) w) (a b : Nat → Gs) (w : World) : (Op.equalIn (d + 1) 31 (.agg #[.int .i64 (a 0).re, .int .i64 (a 0).im, .int .i64 (a 1).re, .int .i64 (a 1).im, .int .i64 (a 2).re, .int .i64 (a 2).im, .int .i64 (a 3).re, .int .i64 (a 3).im]) (.agg #[.int .i64 (b 0).re, .int .i64 (b 0).im, .int .i64 (b 1).re, .int .i64 (b 1).im, .int .i64 (b 2).re, .int .i64 (b 2).im, .int .i64 (b 3).re, .int .i64 (b 3).im])).run Tryd.prog w = .ok (eqB (a 0) (b 0) && (eqB (a 1) (b 1) && (eqB (a 2) (b 2) && eqB (a 3) (b 3)))) w := by
  have hU : Tryd.prog.underlying 31 = some (.array 4 30) := by kernel_rfl
  have hz : ∀ w, (sizeOf 30).run Tryd.prog w = .ok 2 w := fun w => by kernel_rfl
  have p0 : ∀ (c0 c1 c2 c3 c4 c5 c6 c7 : Value) w, (part 30 #[c0, c1, c2, c3, c4, c5, c6, c7] 0).run Tryd.prog w = .ok (.agg #[c0, c1]) w := fun _ _ _ _ _ _ _ _ w => by kernel_rfl
  have p1 : ∀ (c0 c1 c2 c3 c4 c5 c6 c7 : Value) w, (part 30 #[c0, c1, c2, c3, c4, c5, c6, c7] 2).run Tryd.prog w = .ok (.agg #[c2, c3]) w := fun _ _ _ _ _ _ _ _ w => by kernel_rfl
  have p2 : ∀ (c0 c1 c2 c3 c4 c5 c6 c7 : Value) w, (part 30 #[c0, c1, c2, c3, c4, c5, c6, c7] 4).run Tryd.prog w = .ok (.agg #[c4, c5]) w := fun _ _ _ _ _ _ _ _ w => by kernel_rfl
  have p3 : ∀ (c0 c1 c2 c3 c4 c5 c6 c7 : Value) w, (part 30 #[c0, c1, c2, c3, c4, c5, c6, c7] 6).run Tryd.prog w = .ok (.agg #[c6, c7]) w := fun _ _ _ _ _ _ _ _ w => by kernel_rfl
  simp only [Op.equalIn, Sem.run_bind, run_underlying hU, Result.andThen_ok, hz, Std.Legacy.Range.forIn_eq_forIn_range', Std.Legacy.Range.size, List.range', List.forIn_cons, List.forIn_nil, Nat.zero_mul, Nat.one_mul, Nat.reduceMul, Nat.reduceAdd, p0, p1, p2, p3, hd]
  cases h0 : eqB (a 0) (b 0) <;> cases h1 : eqB (a 1) (b 1) <;> cases h2 : eqB (a 2) (b 2) <;> cases h3 : eqB (a 3) (b 3) <;> simp [hd, p1, p2, p3, h0, h1, h2, h3]
def eqL4 (a b : Nat → Gs) : Bool := eqB (a 0) (b 0) && (eqB (a 1) (b 1) && (eqB (a 2) (b 2) && eqB (a 3) (b 3)))
theorem eqL (a b : Nat → Gs) (w : World) : (binOp .eql 31 (.agg #[.int .i64 (a 0).re, .int .i64 (a 0).im, .int .i64 (a 1).re, .int .i64 (a 1).im, .int .i64 (a 2).re, .int .i64 (a 2).im, .int .i64 (a 3).re, .int .i64 (a 3).im]) (.agg #[.int .i64 (b 0).re, .int .i64 (b 0).im, .int .i64 (b 1).re, .int .i64 (b 1).im, .int .i64 (b 2).re, .int .i64 (b 2).im, .int .i64 (b 3).re, .int .i64 (b 3).im])).run Tryd.prog w = .ok (.bool (eqL4 a b)) w := by
  rw [run_eql_struct, eqLd 9999 eqIn a b w]; rfl
theorem neL (a b : Nat → Gs) (w : World) : (binOp .neq 31 (.agg #[.int .i64 (a 0).re, .int .i64 (a 0).im, .int .i64 (a 1).re, .int .i64 (a 1).im, .int .i64 (a 2).re, .int .i64 (a 2).im, .int .i64 (a 3).re, .int .i64 (a 3).im]) (.agg #[.int .i64 (b 0).re, .int .i64 (b 0).im, .int .i64 (b 1).re, .int .i64 (b 1).im, .int .i64 (b 2).re, .int .i64 (b 2).im, .int .i64 (b 3).re, .int .i64 (b 3).im])).run Tryd.prog w = .ok (.bool (!(eqL4 a b))) w := by
  rw [run_neq_struct, eqLd 9999 eqIn a b w]; rfl
theorem set8 {w : World} {b : Nat} {a0 a1 a2 a3 a4 a5 a6 a7 v0 v1 v2 v3 v4 v5 v6 v7 : Value} (h0 : w.cell? ⟨b, 0, none⟩ = some a0) (h1 : w.cell? ⟨b, 1, none⟩ = some a1) (h2 : w.cell? ⟨b, 2, none⟩ = some a2) (h3 : w.cell? ⟨b, 3, none⟩ = some a3) (h4 : w.cell? ⟨b, 4, none⟩ = some a4) (h5 : w.cell? ⟨b, 5, none⟩ = some a5) (h6 : w.cell? ⟨b, 6, none⟩ = some a6) (h7 : w.cell? ⟨b, 7, none⟩ = some a7) :
    ((((((((w.setCell ⟨b, 0, none⟩ v0).setCell ⟨b, 1, none⟩ v1).setCell ⟨b, 2, none⟩ v2).setCell ⟨b, 3, none⟩ v3).setCell ⟨b, 4, none⟩ v4).setCell ⟨b, 5, none⟩ v5).setCell ⟨b, 6, none⟩ v6).setCell ⟨b, 7, none⟩ v7).cell? ⟨b, 0, none⟩ = some v0 ∧ ((((((((w.setCell ⟨b, 0, none⟩ v0).setCell ⟨b, 1, none⟩ v1).setCell ⟨b, 2, none⟩ v2).setCell ⟨b, 3, none⟩ v3).setCell ⟨b, 4, none⟩ v4).setCell ⟨b, 5, none⟩ v5).setCell ⟨b, 6, none⟩ v6).setCell ⟨b, 7, none⟩ v7).cell? ⟨b, 1, none⟩ = some v1 ∧ ((((((((w.setCell ⟨b, 0, none⟩ v0).setCell ⟨b, 1, none⟩ v1).setCell ⟨b, 2, none⟩ v2).setCell ⟨b, 3, none⟩ v3).setCell ⟨b, 4, none⟩ v4).setCell ⟨b, 5, none⟩ v5).setCell ⟨b, 6, none⟩ v6).setCell ⟨b, 7, none⟩ v7).cell? ⟨b, 2, none⟩ = some v2 ∧ ((((((((w.setCell ⟨b, 0, none⟩ v0).setCell ⟨b, 1, none⟩ v1).setCell ⟨b, 2, none⟩ v2).setCell ⟨b, 3, none⟩ v3).setCell ⟨b, 4, none⟩ v4).setCell ⟨b, 5, none⟩ v5).setCell ⟨b, 6, none⟩ v6).setCell ⟨b, 7, none⟩ v7).cell? ⟨b, 3, none⟩ = some v3 ∧ ((((((((w.setCell ⟨b, 0, none⟩ v0).setCell ⟨b, 1, none⟩ v1).setCell ⟨b, 2, none⟩ v2).setCell ⟨b, 3, none⟩ v3).setCell ⟨b, 4, none⟩ v4).setCell ⟨b, 5, none⟩ v5).setCell ⟨b, 6, none⟩ v6).setCell ⟨b, 7, none⟩ v7).cell? ⟨b, 4, none⟩ = some v4 ∧ ((((((((w.setCell ⟨b, 0, none⟩ v0).setCell ⟨b, 1, none⟩ v1).setCell ⟨b, 2, none⟩ v2).setCell ⟨b, 3, none⟩ v3).setCell ⟨b, 4, none⟩ v4).setCell ⟨b, 5, none⟩ v5).setCell ⟨b, 6, none⟩ v6).setCell ⟨b, 7, none⟩ v7).cell? ⟨b, 5, none⟩ = some v5 ∧ ((((((((w.setCell ⟨b, 0, none⟩ v0).setCell ⟨b, 1, none⟩ v1).setCell ⟨b, 2, none⟩ v2).setCell ⟨b, 3, none⟩ v3).setCell ⟨b, 4, none⟩ v4).setCell ⟨b, 5, none⟩ v5).setCell ⟨b, 6, none⟩ v6).setCell ⟨b, 7, none⟩ v7).cell? ⟨b, 6, none⟩ = some v6 ∧ ((((((((w.setCell ⟨b, 0, none⟩ v0).setCell ⟨b, 1, none⟩ v1).setCell ⟨b, 2, none⟩ v2).setCell ⟨b, 3, none⟩ v3).setCell ⟨b, 4, none⟩ v4).setCell ⟨b, 5, none⟩ v5).setCell ⟨b, 6, none⟩ v6).setCell ⟨b, 7, none⟩ v7).cell? ⟨b, 7, none⟩ = some v7 :=
  ⟨cell_next (by decide) (cell_next (by decide) (cell_next (by decide) (cell_next (by decide) (cell_next (by decide) (cell_next (by decide) (cell_next (by decide) (cell_same (h0)))))))), cell_next (by decide) (cell_next (by decide) (cell_next (by decide) (cell_next (by decide) (cell_next (by decide) (cell_next (by decide) (cell_same (cell_next (by decide) (h1)))))))), cell_next (by decide) (cell_next (by decide) (cell_next (by decide) (cell_next (by decide) (cell_next (by decide) (cell_same (cell_next (by decide) (cell_next (by decide) (h2)))))))), cell_next (by decide) (cell_next (by decide) (cell_next (by decide) (cell_next (by decide) (cell_same (cell_next (by decide) (cell_next (by decide) (cell_next (by decide) (h3)))))))), cell_next (by decide) (cell_next (by decide) (cell_next (by decide) (cell_same (cell_next (by decide) (cell_next (by decide) (cell_next (by decide) (cell_next (by decide) (h4)))))))), cell_next (by decide) (cell_next (by decide) (cell_same (cell_next (by decide) (cell_next (by decide) (cell_next (by decide) (cell_next (by decide) (cell_next (by decide) (h5)))))))), cell_next (by decide) (cell_same (cell_next (by decide) (cell_next (by decide) (cell_next (by decide) (cell_next (by decide) (cell_next (by decide) (cell_next (by decide) (h6)))))))), cell_same (cell_next (by decide) (cell_next (by decide) (cell_next (by decide) (cell_next (by decide) (cell_next (by decide) (cell_next (by decide) (cell_next (by decide) (h7))))))))⟩
/-- four numbers in memory -/
structure GxAt (O : Nat) (v : Nat → Gs) (w : World) : Prop where
  c : ∀ j, j < 4 → w.cell? ⟨O, j * 2, none⟩ = some (.int .i64 (v j).re) ∧ w.cell? ⟨O, j * 2 + 1, none⟩ = some (.int .i64 (v j).im)
  f : ∀ j, w.frozen? ⟨O, j, none⟩ = false
  z : O < w.heap.size
theorem GxAt.below {O : Nat} {v : Nat → Gs} {w w' : World} (h : GxAt O v w) (hb : Below w.heap.size w w') : GxAt O v w' :=
  ⟨fun j hj => ⟨cell_below' hb (h.c j hj).1, cell_below' hb (h.c j hj).2⟩, fun j => frozen_below hb h.z (h.f j), Nat.lt_of_lt_of_le h.z hb.size⟩
theorem GxAt.set {O k : Nat} {v q : Nat → Gs} {w : World} {a b : Int} (h : GxAt O v w) (hk : k < 4) (h1 : (q k).re = a) (h1' : (q k).im = b) (h2 : ∀ j, j ≠ k → q j = v j) : GxAt O q ((w.setCell ⟨O, k * 2, none⟩ (.int .i64 a)).setCell ⟨O, k * 2 + 1, none⟩ (.int .i64 b)) := by
  refine ⟨fun j hj => ?_, fun j => frozen_set _ _ (frozen_set _ _ (h.f j)), by simpa using h.z⟩
  obtain ⟨c0, c1⟩ := h.c j hj
  by_cases e : j = k
  · subst e
    rw [h1, h1']
    exact ⟨cell_next (by omega) (cell_same c0), cell_same (cell_next (by omega) c1)⟩
  · rw [h2 j e]
    exact ⟨cell_next (by omega) (cell_next (by omega) c0), cell_next (by omega) (cell_next (by omega) c1)⟩
set_option maxHeartbeats 1000000 in
theorem gauss_any (a b : Nat) (g : Gs) (w : World) (h1 : Rep a g.re) (h2 : Rep b g.im) (hs : Sz 1000000000000 g) :
    Calls Tryd.prog 31 #[.complex .f64 a b] w fun e w' => e = .returned (gv g) ∧ Below w.heap.size w w' := by
  have c1 : ∀ W, (convert 115 3 (.float .f64 a)).run Tryd.prog W = .ok (.int .i64 g.re) W := fun W => run_convert_float_int W _ _ _ _ _ _ (by kernel_rfl) Tryd.underlying3 (h1.toInt (by have := hs.r0; omega) (by have := hs.r1; omega))
  have c2 : ∀ W, (convert 115 3 (.float .f64 b)).run Tryd.prog W = .ok (.int .i64 g.im) W := fun W => run_convert_float_int W _ _ _ _ _ _ (by kernel_rfl) Tryd.underlying3 (h2.toInt (by have := hs.i0; omega) (by have := hs.i1; omega))
  clear h1 h2 hs
  obtain ⟨x, y⟩ := g
  simp only [gv] at *
  go_enter Tryd.func31, Tryd.ntmps31
  go_wp2
  refine bodyPost_ret (v := .agg #[.int .i64 x, .int .i64 y]) (by simp [results, Tryd.results31, go_sem]) rfl ?_
  exact ⟨rfl, (by repeat (first | assumption | exact Below.refl _ _ | refine Below.drew ?_ | (refine below_alloc _ ?_ ?_; focus (first | omega | (simp; done) | (simp; omega) | (simp at *; omega))) | (refine below_set _ ?_ ?_; focus (first | omega | (simp; done) | (simp; omega) | (simp at *; omega))) | refine below_drewN ?_ _ | (refine below_call (by assumption) ?_ ?_; focus (first | omega | (simp; done) | (simp; omega) | (simp at *; omega))) | (refine below_call' (by assumption) ?_ ?_; focus (first | omega | (simp; done) | (simp; omega) | (simp at *; omega)))))⟩
/-- the n-th line -/
def linP (x : List Gs) (n : Nat) : Gs := lnK x (-1) n x.length
theorem gd_any {l : List Gs} {M : Int} (hM : 0 ≤ M) (h : ∀ x ∈ l, Sz M x) (i : Nat) : Sz M (gd l i) := by
  by_cases hi : i < l.length
  · rw [gd_eq hi]; exact h _ (List.getElem_mem hi)
  · have : gd l i = gz := by unfold gd; simp; rw [List.getElem?_eq_none (by omega)]; rfl
    rw [this]
    exact ⟨by show -M ≤ 0; omega, hM, by show -M ≤ 0; omega, hM⟩
theorem linP_sz {x : List Gs} (hl : x.length ≤ 64) (h : ∀ y ∈ x, Sz 10000 y) (n : Nat) : Sz 640000 (linP x n) :=
  (lnK_sz (by decide) (gd_any (by decide) h) (-1) n x.length).mono (by omega)
def linE (x : List Gs) : Int := firstE [unl (decide (0 < x.length)) 10, smpsE x]
theorem linE_zero {x : List Gs} (h : linE x = 0) : 0 < x.length ∧ x.length ≤ 64 ∧ ∀ y ∈ x, Sz 10000 y := by
  unfold linE at h
  by_cases h1 : 0 < x.length
  · rw [decide_eq_true h1, unl_true, firstE_z, firstE1] at h
    exact ⟨h1, smpsE_zero h⟩
  · rw [decide_eq_false h1, unl_false, firstE_nz (by decide)] at h; cases h
theorem linE_of {x : List Gs} (h1 : 0 < x.length) (h : smpsE x = 0) : linE x = 0 := by
  unfold linE; rw [decide_eq_true h1, unl_true, firstE_z, firstE1, h]
def linV (x : List Gs) (n : Nat) : Gs := if linE x = 0 then linP x n else gz
def cutV (x : List Gs) (m : Nat) (j : Nat) : Gs := if j < m then linP x j else gz
abbrev gv4 (v : Nat → Gs) : Value := .agg #[.int .i64 (v 0).re, .int .i64 (v 0).im, .int .i64 (v 1).re, .int .i64 (v 1).im, .int .i64 (v 2).re, .int .i64 (v 2).im, .int .i64 (v 3).re, .int .i64 (v 3).im]
set_option maxRecDepth 100000 in
set_option maxHeartbeats 8000000 in
theorem LinesOf_any (A : Option Addr) (x : List Gs) (ca : Nat) (w : World) (hx : x.length ≤ 1000) (hA : GsAt w A x) :
    Calls Tryd.prog 8 #[.slice A x.length ca] w fun e w' => e = .returned (.tuple #[gv4 (linV x), .int .i64 (linE x)]) ∧ Below w.heap.size w w' := by
  have hE : linE x = firstE [unl (decide (0 < x.length)) 10, smpsE x] := rfl
  have HS := Lib.hid (fun W (h : GsAt W A x) => samplesErr_any A x ca W hx h)
  have hxl : (x.length : Int) ≤ 1000 := by omega
  by_cases h0 : linE x = 0
  rotate_left 1
  · have hv : ∀ j, linV x j = gz := fun j => if_neg h0
    have HV := Lib.hid hv
    have e9 : (linE x != 0) = true := by simpa using h0
    have HE := Lib.hid hE
    clear hE h0 hv
    generalize linE x = E at *
    generalize smpsE x = e2 at *
    go_enter Tryd.func8, Tryd.ntmps8
    go_upto_region 2 with (fail)
    have hb0 : Below w.heap.size w ((w.alloc (.cells #[.int .i64 0, .int .i64 0, .int .i64 0, .int .i64 0, .int .i64 0, .int .i64 0, .int .i64 0, .int .i64 0] 31)).alloc (.cells #[.int .i64 0, .int .i64 0, .int .i64 0, .int .i64 0, .int .i64 0, .int .i64 0, .int .i64 0, .int .i64 0] 31)) := below_alloc _ (Nat.le_refl _) (below_alloc _ (Nat.le_refl _) (Below.refl _ _))
    have r0 : ((w.alloc (.cells #[.int .i64 0, .int .i64 0, .int .i64 0, .int .i64 0, .int .i64 0, .int .i64 0, .int .i64 0, .int .i64 0] 31)).alloc (.cells #[.int .i64 0, .int .i64 0, .int .i64 0, .int .i64 0, .int .i64 0, .int .i64 0, .int .i64 0, .int .i64 0] 31)).cell? ⟨w.heap.size, 0, none⟩ = some (.int .i64 0) := cell_alloc _ (cell_new (by simp) rfl)
    have rf0 : ((w.alloc (.cells #[.int .i64 0, .int .i64 0, .int .i64 0, .int .i64 0, .int .i64 0, .int .i64 0, .int .i64 0, .int .i64 0] 31)).alloc (.cells #[.int .i64 0, .int .i64 0, .int .i64 0, .int .i64 0, .int .i64 0, .int .i64 0, .int .i64 0, .int .i64 0] 31)).frozen? ⟨w.heap.size, 0, none⟩ = false := frozen_alloc _ (by first | (simp; done) | (simp; omega)) (frozen_new (by simp))
    have r1 : ((w.alloc (.cells #[.int .i64 0, .int .i64 0, .int .i64 0, .int .i64 0, .int .i64 0, .int .i64 0, .int .i64 0, .int .i64 0] 31)).alloc (.cells #[.int .i64 0, .int .i64 0, .int .i64 0, .int .i64 0, .int .i64 0, .int .i64 0, .int .i64 0, .int .i64 0] 31)).cell? ⟨w.heap.size, 1, none⟩ = some (.int .i64 0) := cell_alloc _ (cell_new (by simp) rfl)
    have rf1 : ((w.alloc (.cells #[.int .i64 0, .int .i64 0, .int .i64 0, .int .i64 0, .int .i64 0, .int .i64 0, .int .i64 0, .int .i64 0] 31)).alloc (.cells #[.int .i64 0, .int .i64 0, .int .i64 0, .int .i64 0, .int .i64 0, .int .i64 0, .int .i64 0, .int .i64 0] 31)).frozen? ⟨w.heap.size, 1, none⟩ = false := frozen_alloc _ (by first | (simp; done) | (simp; omega)) (frozen_new (by simp))
    have r2 : ((w.alloc (.cells #[.int .i64 0, .int .i64 0, .int .i64 0, .int .i64 0, .int .i64 0, .int .i64 0, .int .i64 0, .int .i64 0] 31)).alloc (.cells #[.int .i64 0, .int .i64 0, .int .i64 0, .int .i64 0, .int .i64 0, .int .i64 0, .int .i64 0, .int .i64 0] 31)).cell? ⟨w.heap.size, 2, none⟩ = some (.int .i64 0) := cell_alloc _ (cell_new (by simp) rfl)
    have rf2 : ((w.alloc (.cells #[.int .i64 0, .int .i64 0, .int .i64 0, .int .i64 0, .int .i64 0, .int .i64 0, .int .i64 0, .int .i64 0] 31)).alloc (.cells #[.int .i64 0, .int .i64 0, .int .i64 0, .int .i64 0, .int .i64 0, .int .i64 0, .int .i64 0, .int .i64 0] 31)).frozen? ⟨w.heap.size, 2, none⟩ = false := frozen_alloc _ (by first | (simp; done) | (simp; omega)) (frozen_new (by simp))
    have r3 : ((w.alloc (.cells #[.int .i64 0, .int .i64 0, .int .i64 0, .int .i64 0, .int .i64 0, .int .i64 0, .int .i64 0, .int .i64 0] 31)).alloc (.cells #[.int .i64 0, .int .i64 0, .int .i64 0, .int .i64 0, .int .i64 0, .int .i64 0, .int .i64 0, .int .i64 0] 31)).cell? ⟨w.heap.size, 3, none⟩ = some (.int .i64 0) := cell_alloc _ (cell_new (by simp) rfl)
    have rf3 : ((w.alloc (.cells #[.int .i64 0, .int .i64 0, .int .i64 0, .int .i64 0, .int .i64 0, .int .i64 0, .int .i64 0, .int .i64 0] 31)).alloc (.cells #[.int .i64 0, .int .i64 0, .int .i64 0, .int .i64 0, .int .i64 0, .int .i64 0, .int .i64 0, .int .i64 0] 31)).frozen? ⟨w.heap.size, 3, none⟩ = false := frozen_alloc _ (by first | (simp; done) | (simp; omega)) (frozen_new (by simp))
    have r4 : ((w.alloc (.cells #[.int .i64 0, .int .i64 0, .int .i64 0, .int .i64 0, .int .i64 0, .int .i64 0, .int .i64 0, .int .i64 0] 31)).alloc (.cells #[.int .i64 0, .int .i64 0, .int .i64 0, .int .i64 0, .int .i64 0, .int .i64 0, .int .i64 0, .int .i64 0] 31)).cell? ⟨w.heap.size, 4, none⟩ = some (.int .i64 0) := cell_alloc _ (cell_new (by simp) rfl)
    have rf4 : ((w.alloc (.cells #[.int .i64 0, .int .i64 0, .int .i64 0, .int .i64 0, .int .i64 0, .int .i64 0, .int .i64 0, .int .i64 0] 31)).alloc (.cells #[.int .i64 0, .int .i64 0, .int .i64 0, .int .i64 0, .int .i64 0, .int .i64 0, .int .i64 0, .int .i64 0] 31)).frozen? ⟨w.heap.size, 4, none⟩ = false := frozen_alloc _ (by first | (simp; done) | (simp; omega)) (frozen_new (by simp))
    have r5 : ((w.alloc (.cells #[.int .i64 0, .int .i64 0, .int .i64 0, .int .i64 0, .int .i64 0, .int .i64 0, .int .i64 0, .int .i64 0] 31)).alloc (.cells #[.int .i64 0, .int .i64 0, .int .i64 0, .int .i64 0, .int .i64 0, .int .i64 0, .int .i64 0, .int .i64 0] 31)).cell? ⟨w.heap.size, 5, none⟩ = some (.int .i64 0) := cell_alloc _ (cell_new (by simp) rfl)
    have rf5 : ((w.alloc (.cells #[.int .i64 0, .int .i64 0, .int .i64 0, .int .i64 0, .int .i64 0, .int .i64 0, .int .i64 0, .int .i64 0] 31)).alloc (.cells #[.int .i64 0, .int .i64 0, .int .i64 0, .int .i64 0, .int .i64 0, .int .i64 0, .int .i64 0, .int .i64 0] 31)).frozen? ⟨w.heap.size, 5, none⟩ = false := frozen_alloc _ (by first | (simp; done) | (simp; omega)) (frozen_new (by simp))
    have r6 : ((w.alloc (.cells #[.int .i64 0, .int .i64 0, .int .i64 0, .int .i64 0, .int .i64 0, .int .i64 0, .int .i64 0, .int .i64 0] 31)).alloc (.cells #[.int .i64 0, .int .i64 0, .int .i64 0, .int .i64 0, .int .i64 0, .int .i64 0, .int .i64 0, .int .i64 0] 31)).cell? ⟨w.heap.size, 6, none⟩ = some (.int .i64 0) := cell_alloc _ (cell_new (by simp) rfl)
    have rf6 : ((w.alloc (.cells #[.int .i64 0, .int .i64 0, .int .i64 0, .int .i64 0, .int .i64 0, .int .i64 0, .int .i64 0, .int .i64 0] 31)).alloc (.cells #[.int .i64 0, .int .i64 0, .int .i64 0, .int .i64 0, .int .i64 0, .int .i64 0, .int .i64 0, .int .i64 0] 31)).frozen? ⟨w.heap.size, 6, none⟩ = false := frozen_alloc _ (by first | (simp; done) | (simp; omega)) (frozen_new (by simp))
    have r7 : ((w.alloc (.cells #[.int .i64 0, .int .i64 0, .int .i64 0, .int .i64 0, .int .i64 0, .int .i64 0, .int .i64 0, .int .i64 0] 31)).alloc (.cells #[.int .i64 0, .int .i64 0, .int .i64 0, .int .i64 0, .int .i64 0, .int .i64 0, .int .i64 0, .int .i64 0] 31)).cell? ⟨w.heap.size, 7, none⟩ = some (.int .i64 0) := cell_alloc _ (cell_new (by simp) rfl)
    have rf7 : ((w.alloc (.cells #[.int .i64 0, .int .i64 0, .int .i64 0, .int .i64 0, .int .i64 0, .int .i64 0, .int .i64 0, .int .i64 0] 31)).alloc (.cells #[.int .i64 0, .int .i64 0, .int .i64 0, .int .i64 0, .int .i64 0, .int .i64 0, .int .i64 0, .int .i64 0] 31)).frozen? ⟨w.heap.size, 7, none⟩ = false := frozen_alloc _ (by first | (simp; done) | (simp; omega)) (frozen_new (by simp))
    have zr : w.heap.size < ((w.alloc (.cells #[.int .i64 0, .int .i64 0, .int .i64 0, .int .i64 0, .int .i64 0, .int .i64 0, .int .i64 0, .int .i64 0] 31)).alloc (.cells #[.int .i64 0, .int .i64 0, .int .i64 0, .int .i64 0, .int .i64 0, .int .i64 0, .int .i64 0, .int .i64 0] 31)).heap.size := World.block_lt_of_cell? _ _ r0
    have o0 : ((w.alloc (.cells #[.int .i64 0, .int .i64 0, .int .i64 0, .int .i64 0, .int .i64 0, .int .i64 0, .int .i64 0, .int .i64 0] 31)).alloc (.cells #[.int .i64 0, .int .i64 0, .int .i64 0, .int .i64 0, .int .i64 0, .int .i64 0, .int .i64 0, .int .i64 0] 31)).cell? ⟨w.heap.size + 1, 0, none⟩ = some (.int .i64 0) := cell_new (by simp) rfl
    have o1 : ((w.alloc (.cells #[.int .i64 0, .int .i64 0, .int .i64 0, .int .i64 0, .int .i64 0, .int .i64 0, .int .i64 0, .int .i64 0] 31)).alloc (.cells #[.int .i64 0, .int .i64 0, .int .i64 0, .int .i64 0, .int .i64 0, .int .i64 0, .int .i64 0, .int .i64 0] 31)).cell? ⟨w.heap.size + 1, 1, none⟩ = some (.int .i64 0) := cell_new (by simp) rfl
    have o2 : ((w.alloc (.cells #[.int .i64 0, .int .i64 0, .int .i64 0, .int .i64 0, .int .i64 0, .int .i64 0, .int .i64 0, .int .i64 0] 31)).alloc (.cells #[.int .i64 0, .int .i64 0, .int .i64 0, .int .i64 0, .int .i64 0, .int .i64 0, .int .i64 0, .int .i64 0] 31)).cell? ⟨w.heap.size + 1, 2, none⟩ = some (.int .i64 0) := cell_new (by simp) rfl
    have o3 : ((w.alloc (.cells #[.int .i64 0, .int .i64 0, .int .i64 0, .int .i64 0, .int .i64 0, .int .i64 0, .int .i64 0, .int .i64 0] 31)).alloc (.cells #[.int .i64 0, .int .i64 0, .int .i64 0, .int .i64 0, .int .i64 0, .int .i64 0, .int .i64 0, .int .i64 0] 31)).cell? ⟨w.heap.size + 1, 3, none⟩ = some (.int .i64 0) := cell_new (by simp) rfl
    have o4 : ((w.alloc (.cells #[.int .i64 0, .int .i64 0, .int .i64 0, .int .i64 0, .int .i64 0, .int .i64 0, .int .i64 0, .int .i64 0] 31)).alloc (.cells #[.int .i64 0, .int .i64 0, .int .i64 0, .int .i64 0, .int .i64 0, .int .i64 0, .int .i64 0, .int .i64 0] 31)).cell? ⟨w.heap.size + 1, 4, none⟩ = some (.int .i64 0) := cell_new (by simp) rfl
    have o5 : ((w.alloc (.cells #[.int .i64 0, .int .i64 0, .int .i64 0, .int .i64 0, .int .i64 0, .int .i64 0, .int .i64 0, .int .i64 0] 31)).alloc (.cells #[.int .i64 0, .int .i64 0, .int .i64 0, .int .i64 0, .int .i64 0, .int .i64 0, .int .i64 0, .int .i64 0] 31)).cell? ⟨w.heap.size + 1, 5, none⟩ = some (.int .i64 0) := cell_new (by simp) rfl
    have o6 : ((w.alloc (.cells #[.int .i64 0, .int .i64 0, .int .i64 0, .int .i64 0, .int .i64 0, .int .i64 0, .int .i64 0, .int .i64 0] 31)).alloc (.cells #[.int .i64 0, .int .i64 0, .int .i64 0, .int .i64 0, .int .i64 0, .int .i64 0, .int .i64 0, .int .i64 0] 31)).cell? ⟨w.heap.size + 1, 6, none⟩ = some (.int .i64 0) := cell_new (by simp) rfl
    have o7 : ((w.alloc (.cells #[.int .i64 0, .int .i64 0, .int .i64 0, .int .i64 0, .int .i64 0, .int .i64 0, .int .i64 0, .int .i64 0] 31)).alloc (.cells #[.int .i64 0, .int .i64 0, .int .i64 0, .int .i64 0, .int .i64 0, .int .i64 0, .int .i64 0, .int .i64 0] 31)).cell? ⟨w.heap.size + 1, 7, none⟩ = some (.int .i64 0) := cell_new (by simp) rfl
    have zo : w.heap.size + 1 < ((w.alloc (.cells #[.int .i64 0, .int .i64 0, .int .i64 0, .int .i64 0, .int .i64 0, .int .i64 0, .int .i64 0, .int .i64 0] 31)).alloc (.cells #[.int .i64 0, .int .i64 0, .int .i64 0, .int .i64 0, .int .i64 0, .int .i64 0, .int .i64 0, .int .i64 0] 31)).heap.size := World.block_lt_of_cell? _ _ o0
    generalize ((w.alloc (.cells #[.int .i64 0, .int .i64 0, .int .i64 0, .int .i64 0, .int .i64 0, .int .i64 0, .int .i64 0, .int .i64 0] 31)).alloc (.cells #[.int .i64 0, .int .i64 0, .int .i64 0, .int .i64 0, .int .i64 0, .int .i64 0, .int .i64 0, .int .i64 0] 31)) = w0 at *
    go_wp2_with (go_at_call 28; refine (unless_any _ _ _).mono ?_; rintro e w' ⟨rfl, rfl⟩)
    refine (HS.out _ (RowsAt.below hA hb0)).mono ?_
    rintro e w1 ⟨rfl, hb1⟩
    have h1 : Below w.heap.size w w1 := (hb0).trans ((hb1).mono (hb0).size)
    replace rf0 := frozen_below hb1 (World.block_lt_of_cell? _ _ r0) rf0
    replace rf1 := frozen_below hb1 (World.block_lt_of_cell? _ _ r1) rf1
    replace rf2 := frozen_below hb1 (World.block_lt_of_cell? _ _ r2) rf2
    replace rf3 := frozen_below hb1 (World.block_lt_of_cell? _ _ r3) rf3
    replace rf4 := frozen_below hb1 (World.block_lt_of_cell? _ _ r4) rf4
    replace rf5 := frozen_below hb1 (World.block_lt_of_cell? _ _ r5) rf5
    replace rf6 := frozen_below hb1 (World.block_lt_of_cell? _ _ r6) rf6
    replace rf7 := frozen_below hb1 (World.block_lt_of_cell? _ _ r7) rf7
    replace r0 := cell_below' hb1 r0
    replace r1 := cell_below' hb1 r1
    replace r2 := cell_below' hb1 r2
    replace r3 := cell_below' hb1 r3
    replace r4 := cell_below' hb1 r4
    replace r5 := cell_below' hb1 r5
    replace r6 := cell_below' hb1 r6
    replace r7 := cell_below' hb1 r7
    replace zr := Nat.lt_of_lt_of_le zr (hb1).size
    replace o0 := cell_below' hb1 o0
    replace o1 := cell_below' hb1 o1
    replace o2 := cell_below' hb1 o2
    replace o3 := cell_below' hb1 o3
    replace o4 := cell_below' hb1 o4
    replace o5 := cell_below' hb1 o5
    replace o6 := cell_below' hb1 o6
    replace o7 := cell_below' hb1 o7
    replace zo := Nat.lt_of_lt_of_le zo (hb1).size
    clear hb1 hb0
    go_wp2_with (go_at_call 27; refine (first2 _ _ _ _ (by simp) (cell_new (by simp) rfl) (cell_new (by simp) rfl)).mono ?_; rintro e w' ⟨rfl, rfl⟩; rw [← HE.out])
    obtain ⟨q0, q1, q2, q3, q4, q5, q6, q7⟩ := set8 (v0 := .int .i64 0) (v1 := .int .i64 0) (v2 := .int .i64 0) (v3 := .int .i64 0) (v4 := .int .i64 0) (v5 := .int .i64 0) (v6 := .int .i64 0) (v7 := .int .i64 0) r0 r1 r2 r3 r4 r5 r6 r7
    have hbf := below_set (.int .i64 0) (p := ⟨w.heap.size, 7, none⟩) (Nat.le_refl _) (below_set (.int .i64 0) (p := ⟨w.heap.size, 6, none⟩) (Nat.le_refl _) (below_set (.int .i64 0) (p := ⟨w.heap.size, 5, none⟩) (Nat.le_refl _) (below_set (.int .i64 0) (p := ⟨w.heap.size, 4, none⟩) (Nat.le_refl _) (below_set (.int .i64 0) (p := ⟨w.heap.size, 3, none⟩) (Nat.le_refl _) (below_set (.int .i64 0) (p := ⟨w.heap.size, 2, none⟩) (Nat.le_refl _) (below_set (.int .i64 0) (p := ⟨w.heap.size, 1, none⟩) (Nat.le_refl _) (below_set (.int .i64 0) (p := ⟨w.heap.size, 0, none⟩) (Nat.le_refl _) (h1))))))))
    replace q0 := cell_alloc (.cells #[.int .i64 (unl (decide (0 < x.length)) 10), .int .i64 e2] 34) q0
    replace q1 := cell_alloc (.cells #[.int .i64 (unl (decide (0 < x.length)) 10), .int .i64 e2] 34) q1
    replace q2 := cell_alloc (.cells #[.int .i64 (unl (decide (0 < x.length)) 10), .int .i64 e2] 34) q2
    replace q3 := cell_alloc (.cells #[.int .i64 (unl (decide (0 < x.length)) 10), .int .i64 e2] 34) q3
    replace q4 := cell_alloc (.cells #[.int .i64 (unl (decide (0 < x.length)) 10), .int .i64 e2] 34) q4
    replace q5 := cell_alloc (.cells #[.int .i64 (unl (decide (0 < x.length)) 10), .int .i64 e2] 34) q5
    replace q6 := cell_alloc (.cells #[.int .i64 (unl (decide (0 < x.length)) 10), .int .i64 e2] 34) q6
    replace q7 := cell_alloc (.cells #[.int .i64 (unl (decide (0 < x.length)) 10), .int .i64 e2] 34) q7
    refine bodyPost_ret (v := .tuple #[.agg #[.int .i64 0, .int .i64 0, .int .i64 0, .int .i64 0, .int .i64 0, .int .i64 0, .int .i64 0, .int .i64 0], .int .i64 E]) (by simp [results, Tryd.results8, go_sem, q0, q1, q2, q3, q4, q5, q6, q7]) rfl ?_
    have hz : gv4 (linV x) = .agg #[.int .i64 0, .int .i64 0, .int .i64 0, .int .i64 0, .int .i64 0, .int .i64 0, .int .i64 0, .int .i64 0] := by simp only [gv4, HV.out]; rfl
    rw [hz]
    exact ⟨rfl, below_alloc _ (Nat.le_refl _) hbf⟩
  obtain ⟨hn0, hn1, hok⟩ := linE_zero h0
  have hv : ∀ j, linV x j = linP x j := fun j => if_pos h0
  have HV := Lib.hid hv
  rw [h0] at hE ⊢
  rw [decide_eq_true hn0] at hE
  have HE := Lib.hid hE
  have HT := Lib.hid (fun W (h : GsAt W A x) => transform_any A x ca (-1) 10000 W hn1 (by decide) (by decide) (by decide) (by decide) (gd_any (by decide) hok) h)
  have hsz := fun n => linP_sz hn1 hok n
  have HSZ := Lib.hid hsz
  have hlp : ∀ n : Nat, lnK x (-1) n x.length = linP x n := fun n => rfl
  have HLP := Lib.hid hlp
  clear hE h0 hv hok hsz hlp
  generalize smpsE x = e2 at *
  go_enter Tryd.func8, Tryd.ntmps8
  go_upto_region 2 with (fail)
  have hb0 : Below w.heap.size w ((w.alloc (.cells #[.int .i64 0, .int .i64 0, .int .i64 0, .int .i64 0, .int .i64 0, .int .i64 0, .int .i64 0, .int .i64 0] 31)).alloc (.cells #[.int .i64 0, .int .i64 0, .int .i64 0, .int .i64 0, .int .i64 0, .int .i64 0, .int .i64 0, .int .i64 0] 31)) := below_alloc _ (Nat.le_refl _) (below_alloc _ (Nat.le_refl _) (Below.refl _ _))
  have r0 : ((w.alloc (.cells #[.int .i64 0, .int .i64 0, .int .i64 0, .int .i64 0, .int .i64 0, .int .i64 0, .int .i64 0, .int .i64 0] 31)).alloc (.cells #[.int .i64 0, .int .i64 0, .int .i64 0, .int .i64 0, .int .i64 0, .int .i64 0, .int .i64 0, .int .i64 0] 31)).cell? ⟨w.heap.size, 0, none⟩ = some (.int .i64 0) := cell_alloc _ (cell_new (by simp) rfl)
  have rf0 : ((w.alloc (.cells #[.int .i64 0, .int .i64 0, .int .i64 0, .int .i64 0, .int .i64 0, .int .i64 0, .int .i64 0, .int .i64 0] 31)).alloc (.cells #[.int .i64 0, .int .i64 0, .int .i64 0, .int .i64 0, .int .i64 0, .int .i64 0, .int .i64 0, .int .i64 0] 31)).frozen? ⟨w.heap.size, 0, none⟩ = false := frozen_alloc _ (by first | (simp; done) | (simp; omega)) (frozen_new (by simp))
  have r1 : ((w.alloc (.cells #[.int .i64 0, .int .i64 0, .int .i64 0, .int .i64 0, .int .i64 0, .int .i64 0, .int .i64 0, .int .i64 0] 31)).alloc (.cells #[.int .i64 0, .int .i64 0, .int .i64 0, .int .i64 0, .int .i64 0, .int .i64 0, .int .i64 0, .int .i64 0] 31)).cell? ⟨w.heap.size, 1, none⟩ = some (.int .i64 0) := cell_alloc _ (cell_new (by simp) rfl)
  have rf1 : ((w.alloc (.cells #[.int .i64 0, .int .i64 0, .int .i64 0, .int .i64 0, .int .i64 0, .int .i64 0, .int .i64 0, .int .i64 0] 31)).alloc (.cells #[.int .i64 0, .int .i64 0, .int .i64 0, .int .i64 0, .int .i64 0, .int .i64 0, .int .i64 0, .int .i64 0] 31)).frozen? ⟨w.heap.size, 1, none⟩ = false := frozen_alloc _ (by first | (simp; done) | (simp; omega)) (frozen_new (by simp))
  have r2 : ((w.alloc (.cells #[.int .i64 0, .int .i64 0, .int .i64 0, .int .i64 0, .int .i64 0, .int .i64 0, .int .i64 0, .int .i64 0] 31)).alloc (.cells #[.int .i64 0, .int .i64 0, .int .i64 0, .int .i64 0, .int .i64 0, .int .i64 0, .int .i64 0, .int .i64 0] 31)).cell? ⟨w.heap.size, 2, none⟩ = some (.int .i64 0) := cell_alloc _ (cell_new (by simp) rfl)
  have rf2 : ((w.alloc (.cells #[.int .i64 0, .int .i64 0, .int .i64 0, .int .i64 0, .int .i64 0, .int .i64 0, .int .i64 0, .int .i64 0] 31)).alloc (.cells #[.int .i64 0, .int .i64 0, .int .i64 0, .int .i64 0, .int .i64 0, .int .i64 0, .int .i64 0, .int .i64 0] 31)).frozen? ⟨w.heap.size, 2, none⟩ = false := frozen_alloc _ (by first | (simp; done) | (simp; omega)) (frozen_new (by simp))
  have r3 : ((w.alloc (.cells #[.int .i64 0, .int .i64 0, .int .i64 0, .int .i64 0, .int .i64 0, .int .i64 0, .int .i64 0, .int .i64 0] 31)).alloc (.cells #[.int .i64 0, .int .i64 0, .int .i64 0, .int .i64 0, .int .i64 0, .int .i64 0, .int .i64 0, .int .i64 0] 31)).cell? ⟨w.heap.size, 3, none⟩ = some (.int .i64 0) := cell_alloc _ (cell_new (by simp) rfl)
  have rf3 : ((w.alloc (.cells #[.int .i64 0, .int .i64 0, .int .i64 0, .int .i64 0, .int .i64 0, .int .i64 0, .int .i64 0, .int .i64 0] 31)).alloc (.cells #[.int .i64 0, .int .i64 0, .int .i64 0, .int .i64 0, .int .i64 0, .int .i64 0, .int .i64 0, .int .i64 0] 31)).frozen? ⟨w.heap.size, 3, none⟩ = false := frozen_alloc _ (by first | (simp; done) | (simp; omega)) (frozen_new (by simp))
  have r4 : ((w.alloc (.cells #[.int .i64 0, .int .i64 0, .int .i64 0, .int .i64 0, .int .i64 0, .int .i64 0, .int .i64 0, .int .i64 0] 31)).alloc (.cells #[.int .i64 0, .int .i64 0, .int .i64 0, .int .i64 0, .int .i64 0, .int .i64 0, .int .i64 0, .int .i64 0] 31)).cell? ⟨w.heap.size, 4, none⟩ = some (.int .i64 0) := cell_alloc _ (cell_new (by simp) rfl)
  have rf4 : ((w.alloc (.cells #[.int .i64 0, .int .i64 0, .int .i64 0, .int .i64 0, .int .i64 0, .int .i64 0, .int .i64 0, .int .i64 0] 31)).alloc (.cells #[.int .i64 0, .int .i64 0, .int .i64 0, .int .i64 0, .int .i64 0, .int .i64 0, .int .i64 0, .int .i64 0] 31)).frozen? ⟨w.heap.size, 4, none⟩ = false := frozen_alloc _ (by first | (simp; done) | (simp; omega)) (frozen_new (by simp))
  have r5 : ((w.alloc (.cells #[.int .i64 0, .int .i64 0, .int .i64 0, .int .i64 0, .int .i64 0, .int .i64 0, .int .i64 0, .int .i64 0] 31)).alloc (.cells #[.int .i64 0, .int .i64 0, .int .i64 0, .int .i64 0, .int .i64 0, .int .i64 0, .int .i64 0, .int .i64 0] 31)).cell? ⟨w.heap.size, 5, none⟩ = some (.int .i64 0) := cell_alloc _ (cell_new (by simp) rfl)
  have rf5 : ((w.alloc (.cells #[.int .i64 0, .int .i64 0, .int .i64 0, .int .i64 0, .int .i64 0, .int .i64 0, .int .i64 0, .int .i64 0] 31)).alloc (.cells #[.int .i64 0, .int .i64 0, .int .i64 0, .int .i64 0, .int .i64 0, .int .i64 0, .int .i64 0, .int .i64 0] 31)).frozen? ⟨w.heap.size, 5, none⟩ = false := frozen_alloc _ (by first | (simp; done) | (simp; omega)) (frozen_new (by simp))
  have r6 : ((w.alloc (.cells #[.int .i64 0, .int .i64 0, .int .i64 0, .int .i64 0, .int .i64 0, .int .i64 0, .int .i64 0, .int .i64 0] 31)).alloc (.cells #[.int .i64 0, .int .i64 0, .int .i64 0, .int .i64 0, .int .i64 0, .int .i64 0, .int .i64 0, .int .i64 0] 31)).cell? ⟨w.heap.size, 6, none⟩ = some (.int .i64 0) := cell_alloc _ (cell_new (by simp) rfl)
  have rf6 : ((w.alloc (.cells #[.int .i64 0, .int .i64 0, .int .i64 0, .int .i64 0, .int .i64 0, .int .i64 0, .int .i64 0, .int .i64 0] 31)).alloc (.cells #[.int .i64 0, .int .i64 0, .int .i64 0, .int .i64 0, .int .i64 0, .int .i64 0, .int .i64 0, .int .i64 0] 31)).frozen? ⟨w.heap.size, 6, none⟩ = false := frozen_alloc _ (by first | (simp; done) | (simp; omega)) (frozen_new (by simp))
  have r7 : ((w.alloc (.cells #[.int .i64 0, .int .i64 0, .int .i64 0, .int .i64 0, .int .i64 0, .int .i64 0, .int .i64 0, .int .i64 0] 31)).alloc (.cells #[.int .i64 0, .int .i64 0, .int .i64 0, .int .i64 0, .int .i64 0, .int .i64 0, .int .i64 0, .int .i64 0] 31)).cell? ⟨w.heap.size, 7, none⟩ = some (.int .i64 0) := cell_alloc _ (cell_new (by simp) rfl)
  have rf7 : ((w.alloc (.cells #[.int .i64 0, .int .i64 0, .int .i64 0, .int .i64 0, .int .i64 0, .int .i64 0, .int .i64 0, .int .i64 0] 31)).alloc (.cells #[.int .i64 0, .int .i64 0, .int .i64 0, .int .i64 0, .int .i64 0, .int .i64 0, .int .i64 0, .int .i64 0] 31)).frozen? ⟨w.heap.size, 7, none⟩ = false := frozen_alloc _ (by first | (simp; done) | (simp; omega)) (frozen_new (by simp))
  have zr : w.heap.size < ((w.alloc (.cells #[.int .i64 0, .int .i64 0, .int .i64 0, .int .i64 0, .int .i64 0, .int .i64 0, .int .i64 0, .int .i64 0] 31)).alloc (.cells #[.int .i64 0, .int .i64 0, .int .i64 0, .int .i64 0, .int .i64 0, .int .i64 0, .int .i64 0, .int .i64 0] 31)).heap.size := World.block_lt_of_cell? _ _ r0
  have o0 : ((w.alloc (.cells #[.int .i64 0, .int .i64 0, .int .i64 0, .int .i64 0, .int .i64 0, .int .i64 0, .int .i64 0, .int .i64 0] 31)).alloc (.cells #[.int .i64 0, .int .i64 0, .int .i64 0, .int .i64 0, .int .i64 0, .int .i64 0, .int .i64 0, .int .i64 0] 31)).cell? ⟨w.heap.size + 1, 0, none⟩ = some (.int .i64 0) := cell_new (by simp) rfl
  have of0 : ((w.alloc (.cells #[.int .i64 0, .int .i64 0, .int .i64 0, .int .i64 0, .int .i64 0, .int .i64 0, .int .i64 0, .int .i64 0] 31)).alloc (.cells #[.int .i64 0, .int .i64 0, .int .i64 0, .int .i64 0, .int .i64 0, .int .i64 0, .int .i64 0, .int .i64 0] 31)).frozen? ⟨w.heap.size + 1, 0, none⟩ = false := frozen_new (by simp)
  have o1 : ((w.alloc (.cells #[.int .i64 0, .int .i64 0, .int .i64 0, .int .i64 0, .int .i64 0, .int .i64 0, .int .i64 0, .int .i64 0] 31)).alloc (.cells #[.int .i64 0, .int .i64 0, .int .i64 0, .int .i64 0, .int .i64 0, .int .i64 0, .int .i64 0, .int .i64 0] 31)).cell? ⟨w.heap.size + 1, 1, none⟩ = some (.int .i64 0) := cell_new (by simp) rfl
  have of1 : ((w.alloc (.cells #[.int .i64 0, .int .i64 0, .int .i64 0, .int .i64 0, .int .i64 0, .int .i64 0, .int .i64 0, .int .i64 0] 31)).alloc (.cells #[.int .i64 0, .int .i64 0, .int .i64 0, .int .i64 0, .int .i64 0, .int .i64 0, .int .i64 0, .int .i64 0] 31)).frozen? ⟨w.heap.size + 1, 1, none⟩ = false := frozen_new (by simp)
  have o2 : ((w.alloc (.cells #[.int .i64 0, .int .i64 0, .int .i64 0, .int .i64 0, .int .i64 0, .int .i64 0, .int .i64 0, .int .i64 0] 31)).alloc (.cells #[.int .i64 0, .int .i64 0, .int .i64 0, .int .i64 0, .int .i64 0, .int .i64 0, .int .i64 0, .int .i64 0] 31)).cell? ⟨w.heap.size + 1, 2, none⟩ = some (.int .i64 0) := cell_new (by simp) rfl
  have of2 : ((w.alloc (.cells #[.int .i64 0, .int .i64 0, .int .i64 0, .int .i64 0, .int .i64 0, .int .i64 0, .int .i64 0, .int .i64 0] 31)).alloc (.cells #[.int .i64 0, .int .i64 0, .int .i64 0, .int .i64 0, .int .i64 0, .int .i64 0, .int .i64 0, .int .i64 0] 31)).frozen? ⟨w.heap.size + 1, 2, none⟩ = false := frozen_new (by simp)
  have o3 : ((w.alloc (.cells #[.int .i64 0, .int .i64 0, .int .i64 0, .int .i64 0, .int .i64 0, .int .i64 0, .int .i64 0, .int .i64 0] 31)).alloc (.cells #[.int .i64 0, .int .i64 0, .int .i64 0, .int .i64 0, .int .i64 0, .int .i64 0, .int .i64 0, .int .i64 0] 31)).cell? ⟨w.heap.size + 1, 3, none⟩ = some (.int .i64 0) := cell_new (by simp) rfl
  have of3 : ((w.alloc (.cells #[.int .i64 0, .int .i64 0, .int .i64 0, .int .i64 0, .int .i64 0, .int .i64 0, .int .i64 0, .int .i64 0] 31)).alloc (.cells #[.int .i64 0, .int .i64 0, .int .i64 0, .int .i64 0, .int .i64 0, .int .i64 0, .int .i64 0, .int .i64 0] 31)).frozen? ⟨w.heap.size + 1, 3, none⟩ = false := frozen_new (by simp)
  have o4 : ((w.alloc (.cells #[.int .i64 0, .int .i64 0, .int .i64 0, .int .i64 0, .int .i64 0, .int .i64 0, .int .i64 0, .int .i64 0] 31)).alloc (.cells #[.int .i64 0, .int .i64 0, .int .i64 0, .int .i64 0, .int .i64 0, .int .i64 0, .int .i64 0, .int .i64 0] 31)).cell? ⟨w.heap.size + 1, 4, none⟩ = some (.int .i64 0) := cell_new (by simp) rfl
  have of4 : ((w.alloc (.cells #[.int .i64 0, .int .i64 0, .int .i64 0, .int .i64 0, .int .i64 0, .int .i64 0, .int .i64 0, .int .i64 0] 31)).alloc (.cells #[.int .i64 0, .int .i64 0, .int .i64 0, .int .i64 0, .int .i64 0, .int .i64 0, .int .i64 0, .int .i64 0] 31)).frozen? ⟨w.heap.size + 1, 4, none⟩ = false := frozen_new (by simp)
  have o5 : ((w.alloc (.cells #[.int .i64 0, .int .i64 0, .int .i64 0, .int .i64 0, .int .i64 0, .int .i64 0, .int .i64 0, .int .i64 0] 31)).alloc (.cells #[.int .i64 0, .int .i64 0, .int .i64 0, .int .i64 0, .int .i64 0, .int .i64 0, .int .i64 0, .int .i64 0] 31)).cell? ⟨w.heap.size + 1, 5, none⟩ = some (.int .i64 0) := cell_new (by simp) rfl
  have of5 : ((w.alloc (.cells #[.int .i64 0, .int .i64 0, .int .i64 0, .int .i64 0, .int .i64 0, .int .i64 0, .int .i64 0, .int .i64 0] 31)).alloc (.cells #[.int .i64 0, .int .i64 0, .int .i64 0, .int .i64 0, .int .i64 0, .int .i64 0, .int .i64 0, .int .i64 0] 31)).frozen? ⟨w.heap.size + 1, 5, none⟩ = false := frozen_new (by simp)
  have o6 : ((w.alloc (.cells #[.int .i64 0, .int .i64 0, .int .i64 0, .int .i64 0, .int .i64 0, .int .i64 0, .int .i64 0, .int .i64 0] 31)).alloc (.cells #[.int .i64 0, .int .i64 0, .int .i64 0, .int .i64 0, .int .i64 0, .int .i64 0, .int .i64 0, .int .i64 0] 31)).cell? ⟨w.heap.size + 1, 6, none⟩ = some (.int .i64 0) := cell_new (by simp) rfl
  have of6 : ((w.alloc (.cells #[.int .i64 0, .int .i64 0, .int .i64 0, .int .i64 0, .int .i64 0, .int .i64 0, .int .i64 0, .int .i64 0] 31)).alloc (.cells #[.int .i64 0, .int .i64 0, .int .i64 0, .int .i64 0, .int .i64 0, .int .i64 0, .int .i64 0, .int .i64 0] 31)).frozen? ⟨w.heap.size + 1, 6, none⟩ = false := frozen_new (by simp)
  have o7 : ((w.alloc (.cells #[.int .i64 0, .int .i64 0, .int .i64 0, .int .i64 0, .int .i64 0, .int .i64 0, .int .i64 0, .int .i64 0] 31)).alloc (.cells #[.int .i64 0, .int .i64 0, .int .i64 0, .int .i64 0, .int .i64 0, .int .i64 0, .int .i64 0, .int .i64 0] 31)).cell? ⟨w.heap.size + 1, 7, none⟩ = some (.int .i64 0) := cell_new (by simp) rfl
  have of7 : ((w.alloc (.cells #[.int .i64 0, .int .i64 0, .int .i64 0, .int .i64 0, .int .i64 0, .int .i64 0, .int .i64 0, .int .i64 0] 31)).alloc (.cells #[.int .i64 0, .int .i64 0, .int .i64 0, .int .i64 0, .int .i64 0, .int .i64 0, .int .i64 0, .int .i64 0] 31)).frozen? ⟨w.heap.size + 1, 7, none⟩ = false := frozen_new (by simp)
  have ok : ((w.alloc (.cells #[.int .i64 0, .int .i64 0, .int .i64 0, .int .i64 0, .int .i64 0, .int .i64 0, .int .i64 0, .int .i64 0] 31)).alloc (.cells #[.int .i64 0, .int .i64 0, .int .i64 0, .int .i64 0, .int .i64 0, .int .i64 0, .int .i64 0, .int .i64 0] 31)).heap[w.heap.size + 1]? = some (.cells #[.int .i64 0, .int .i64 0, .int .i64 0, .int .i64 0, .int .i64 0, .int .i64 0, .int .i64 0, .int .i64 0] 31) := blk_new (by simp)
  have zo : w.heap.size + 1 < ((w.alloc (.cells #[.int .i64 0, .int .i64 0, .int .i64 0, .int .i64 0, .int .i64 0, .int .i64 0, .int .i64 0, .int .i64 0] 31)).alloc (.cells #[.int .i64 0, .int .i64 0, .int .i64 0, .int .i64 0, .int .i64 0, .int .i64 0, .int .i64 0, .int .i64 0] 31)).heap.size := World.block_lt_of_cell? _ _ o0
  generalize ((w.alloc (.cells #[.int .i64 0, .int .i64 0, .int .i64 0, .int .i64 0, .int .i64 0, .int .i64 0, .int .i64 0, .int .i64 0] 31)).alloc (.cells #[.int .i64 0, .int .i64 0, .int .i64 0, .int .i64 0, .int .i64 0, .int .i64 0, .int .i64 0, .int .i64 0] 31)) = w0 at *
  have hgx : GxAt (w.heap.size + 1) (cutV x 0) w0 := by
    refine ⟨fun j hj => ?_, fun j => blk_frozen ok, zo⟩
    have hc0 : cutV x 0 j = gz := if_neg (by omega)
    rw [hc0]
    have h4 : j = 0 ∨ j = 1 ∨ j = 2 ∨ j = 3 := by omega
    rcases h4 with rfl | rfl | rfl | rfl
    · exact ⟨o0, o1⟩
    · exact ⟨o2, o3⟩
    · exact ⟨o4, o5⟩
    · exact ⟨o6, o7⟩
  have HGX := Lib.hid hgx
  clear hgx ok o0 o1 o2 o3 o4 o5 o6 o7 of0 of1 of2 of3 of4 of5 of6 of7
  have hA0 := RowsAt.below hA hb0
  go_wp2_with (go_at_call 28; refine (unless_any _ _ _).mono ?_; rintro e w' ⟨rfl, rfl⟩)
  refine (HS.out _ hA0).mono ?_
  rintro e w1 ⟨rfl, hb1⟩
  have hgx1 := HGX.out.below hb1
  have HGX1 := Lib.hid hgx1
  have h1 : Below w.heap.size w w1 := (hb0).trans ((hb1).mono (hb0).size)
  replace rf0 := frozen_below hb1 (World.block_lt_of_cell? _ _ r0) rf0
  replace rf1 := frozen_below hb1 (World.block_lt_of_cell? _ _ r1) rf1
  replace rf2 := frozen_below hb1 (World.block_lt_of_cell? _ _ r2) rf2
  replace rf3 := frozen_below hb1 (World.block_lt_of_cell? _ _ r3) rf3
  replace rf4 := frozen_below hb1 (World.block_lt_of_cell? _ _ r4) rf4
  replace rf5 := frozen_below hb1 (World.block_lt_of_cell? _ _ r5) rf5
  replace rf6 := frozen_below hb1 (World.block_lt_of_cell? _ _ r6) rf6
  replace rf7 := frozen_below hb1 (World.block_lt_of_cell? _ _ r7) rf7
  replace r0 := cell_below' hb1 r0
  replace r1 := cell_below' hb1 r1
  replace r2 := cell_below' hb1 r2
  replace r3 := cell_below' hb1 r3
  replace r4 := cell_below' hb1 r4
  replace r5 := cell_below' hb1 r5
  replace r6 := cell_below' hb1 r6
  replace r7 := cell_below' hb1 r7
  replace zr := Nat.lt_of_lt_of_le zr (hb1).size
  replace hA0 := RowsAt.below hA0 hb1
  clear hb1 hb0
  clear HGX hgx1
  go_upto_region 5 with (go_at_call 27; refine (first2 _ _ _ _ (by simp) (cell_new (by simp) rfl) (cell_new (by simp) rfl)).mono ?_; rintro e w' ⟨rfl, rfl⟩; rw [← HE.out])
  have hbv : Below w1.heap.size w1 (w1.alloc (.cells #[.int .i64 (unl true 10), .int .i64 e2] 34)) := (by repeat (first | assumption | exact Below.refl _ _ | refine Below.drew ?_ | (refine below_alloc _ ?_ ?_; focus (first | omega | (simp; done) | (simp; omega) | (simp at *; omega))) | (refine below_set _ ?_ ?_; focus (first | omega | (simp; done) | (simp; omega) | (simp at *; omega))) | refine below_drewN ?_ _ | (refine below_call (by assumption) ?_ ?_; focus (first | omega | (simp; done) | (simp; omega) | (simp at *; omega))) | (refine below_call' (by assumption) ?_ ?_; focus (first | omega | (simp; done) | (simp; omega) | (simp at *; omega)))))
  generalize (w1.alloc (.cells #[.int .i64 (unl true 10), .int .i64 e2] 34)) = w2 at *
  have hgx2 := HGX1.out.below hbv
  have HGX2 := Lib.hid hgx2
  have h2 : Below w.heap.size w w2 := (h1).trans ((hbv).mono (h1).size)
  replace rf0 := frozen_below hbv (World.block_lt_of_cell? _ _ r0) rf0
  replace rf1 := frozen_below hbv (World.block_lt_of_cell? _ _ r1) rf1
  replace rf2 := frozen_below hbv (World.block_lt_of_cell? _ _ r2) rf2
  replace rf3 := frozen_below hbv (World.block_lt_of_cell? _ _ r3) rf3
  replace rf4 := frozen_below hbv (World.block_lt_of_cell? _ _ r4) rf4
  replace rf5 := frozen_below hbv (World.block_lt_of_cell? _ _ r5) rf5
  replace rf6 := frozen_below hbv (World.block_lt_of_cell? _ _ r6) rf6
  replace rf7 := frozen_below hbv (World.block_lt_of_cell? _ _ r7) rf7
  replace r0 := cell_below' hbv r0
  replace r1 := cell_below' hbv r1
  replace r2 := cell_below' hbv r2
  replace r3 := cell_below' hbv r3
  replace r4 := cell_below' hbv r4
  replace r5 := cell_below' hbv r5
  replace r6 := cell_below' hbv r6
  replace r7 := cell_below' hbv r7
  replace zr := Nat.lt_of_lt_of_le zr (hbv).size
  replace hA0 := RowsAt.below hA0 hbv
  clear hbv h1
  clear HGX1 hgx2 HS HE
  go_wp2_with (fail)
  refine (HT.out _ hA0).mono ?_
  rintro e w3 ⟨a0, b0, a1, b1, a2, b2, a3, b3, rfl, k0, k1, k2, k3, hb3⟩
  simp only at k0 k1 k2 k3
  rw [HLP.out] at k0 k1 k2 k3
  have hgx3 := HGX2.out.below hb3
  have HGX3 := Lib.hid hgx3
  have G0 := Lib.hid (fun W => gauss_any a0 b0 (linP x 0) W k0.1 k0.2 ((HSZ.out 0).mono (by decide)))
  have G1 := Lib.hid (fun W => gauss_any a1 b1 (linP x 1) W k1.1 k1.2 ((HSZ.out 1).mono (by decide)))
  have G2 := Lib.hid (fun W => gauss_any a2 b2 (linP x 2) W k2.1 k2.2 ((HSZ.out 2).mono (by decide)))
  have G3 := Lib.hid (fun W => gauss_any a3 b3 (linP x 3) W k3.1 k3.2 ((HSZ.out 3).mono (by decide)))
  have h3 : Below w.heap.size w w3 := (h2).trans ((hb3).mono (h2).size)
  replace rf0 := frozen_below hb3 (World.block_lt_of_cell? _ _ r0) rf0
  replace rf1 := frozen_below hb3 (World.block_lt_of_cell? _ _ r1) rf1
  replace rf2 := frozen_below hb3 (World.block_lt_of_cell? _ _ r2) rf2
  replace rf3 := frozen_below hb3 (World.block_lt_of_cell? _ _ r3) rf3
  replace rf4 := frozen_below hb3 (World.block_lt_of_cell? _ _ r4) rf4
  replace rf5 := frozen_below hb3 (World.block_lt_of_cell? _ _ r5) rf5
  replace rf6 := frozen_below hb3 (World.block_lt_of_cell? _ _ r6) rf6
  replace rf7 := frozen_below hb3 (World.block_lt_of_cell? _ _ r7) rf7
  replace r0 := cell_below' hb3 r0
  replace r1 := cell_below' hb3 r1
  replace r2 := cell_below' hb3 r2
  replace r3 := cell_below' hb3 r3
  replace r4 := cell_below' hb3 r4
  replace r5 := cell_below' hb3 r5
  replace r6 := cell_below' hb3 r6
  replace r7 := cell_below' hb3 r7
  replace zr := Nat.lt_of_lt_of_le zr (hb3).size
  clear hb3 h2
  clear HGX2 hgx3 HT hA0 k0 k1 k2 k3 HLP HSZ
  simp only [gv] at G0 G1 G2 G3
  have hcv : ∀ m j, cutV x m j = if j < m then linP x j else gz := fun m j => rfl
  have HCV := Lib.hid hcv
  clear hcv
  go_wp2_with (fail)
  go_loopw [22] (fun i wr => ∃ m : Int, 0 ≤ m ∧ m ≤ 4 ∧ i = .int .i64 m ∧ GxAt (w.heap.size + 1) (cutV x m.toNat) wr ∧ Below (w.heap.size + 1) w3 wr) (fun i _ => 4 - (intOf i).toNat)
  case atStart => exact ⟨0, by decide, by decide, rfl, HGX3.out, Below.refl _ _⟩
  case round =>
    obtain ⟨m, hm0, hm4, rfl, hgx, hbr⟩ := hrel
    obtain ⟨wo, rfl⟩ : ∃ wo : World, wo = wr := ⟨_, rfl⟩
    have HG := Lib.hid hgx
    have zo := hgx.z
    have zz : w.heap.size + 1 ≤ wo.heap.size := by omega
    clear hgx
    by_cases hlt : m < 4
    · have h4 : m = 0 ∨ m = 1 ∨ m = 2 ∨ m = 3 := by omega
      rcases h4 with rfl | rfl | rfl | rfl
      · have hix : ∀ W, (Instr.index 77 (.agg #[.complex .f64 a0 b0, .complex .f64 a1 b1, .complex .f64 a2 b2, .complex .f64 a3 b3]) (.int .i64 0)).run Tryd.prog W = .ok (.complex .f64 a0 b0) W := fun W => by kernel_rfl
        have c0 := (HG.out.c 0 (by decide)).1
        have c1 := (HG.out.c 0 (by decide)).2
        have f0 := HG.out.f (0 * 2)
        have f1 := HG.out.f (0 * 2 + 1)
        simp only [Nat.reduceMul, Nat.reduceAdd] at c0 c1 f0 f1
        go_wp2_with (fail)
        refine (G0.out _).mono ?_
        rintro e w4 ⟨rfl, hb4⟩
        replace c0 := cell_below' hb4 c0
        replace c1 := cell_below' hb4 c1
        replace f0 := frozen_below hb4 zo f0
        replace f1 := frozen_below hb4 zo f1
        replace zo := Nat.lt_of_lt_of_le zo hb4.size
        have hg4 := HG.out.below hb4
        have HG4 := Lib.hid hg4
        have hbr4 : Below (w.heap.size + 1) w3 w4 := hbr.trans (hb4.mono zz)
        clear hb4 hg4
        go_wp2_with (fail)
        exact ⟨⟨1, by decide, by decide, rfl, HG4.out.set (k := 0) (q := cutV x 1) (by decide) (by rw [HCV.out]; rfl) (by rw [HCV.out]; rfl) (fun j hj => by rw [HCV.out, HCV.out]; by_cases h : j < 0 <;> simp [h] <;> (try omega)), below_set _ (Nat.le_refl _) (below_set _ (Nat.le_refl _) hbr4)⟩, by decide⟩
      · have hix : ∀ W, (Instr.index 77 (.agg #[.complex .f64 a0 b0, .complex .f64 a1 b1, .complex .f64 a2 b2, .complex .f64 a3 b3]) (.int .i64 1)).run Tryd.prog W = .ok (.complex .f64 a1 b1) W := fun W => by kernel_rfl
        have c0 := (HG.out.c 1 (by decide)).1
        have c1 := (HG.out.c 1 (by decide)).2
        have f0 := HG.out.f (1 * 2)
        have f1 := HG.out.f (1 * 2 + 1)
        simp only [Nat.reduceMul, Nat.reduceAdd] at c0 c1 f0 f1
        go_wp2_with (fail)
        refine (G1.out _).mono ?_
        rintro e w4 ⟨rfl, hb4⟩
        replace c0 := cell_below' hb4 c0
        replace c1 := cell_below' hb4 c1
        replace f0 := frozen_below hb4 zo f0
        replace f1 := frozen_below hb4 zo f1
        replace zo := Nat.lt_of_lt_of_le zo hb4.size
        have hg4 := HG.out.below hb4
        have HG4 := Lib.hid hg4
        have hbr4 : Below (w.heap.size + 1) w3 w4 := hbr.trans (hb4.mono zz)
        clear hb4 hg4
        go_wp2_with (fail)
        exact ⟨⟨2, by decide, by decide, rfl, HG4.out.set (k := 1) (q := cutV x 2) (by decide) (by rw [HCV.out]; rfl) (by rw [HCV.out]; rfl) (fun j hj => by rw [HCV.out, HCV.out]; by_cases h : j < 1 <;> simp [h] <;> (try omega)), below_set _ (Nat.le_refl _) (below_set _ (Nat.le_refl _) hbr4)⟩, by decide⟩
      · have hix : ∀ W, (Instr.index 77 (.agg #[.complex .f64 a0 b0, .complex .f64 a1 b1, .complex .f64 a2 b2, .complex .f64 a3 b3]) (.int .i64 2)).run Tryd.prog W = .ok (.complex .f64 a2 b2) W := fun W => by kernel_rfl
        have c0 := (HG.out.c 2 (by decide)).1
        have c1 := (HG.out.c 2 (by decide)).2
        have f0 := HG.out.f (2 * 2)
        have f1 := HG.out.f (2 * 2 + 1)
        simp only [Nat.reduceMul, Nat.reduceAdd] at c0 c1 f0 f1
        go_wp2_with (fail)
        refine (G2.out _).mono ?_
        rintro e w4 ⟨rfl, hb4⟩
        replace c0 := cell_below' hb4 c0
        replace c1 := cell_below' hb4 c1
        replace f0 := frozen_below hb4 zo f0
        replace f1 := frozen_below hb4 zo f1
        replace zo := Nat.lt_of_lt_of_le zo hb4.size
        have hg4 := HG.out.below hb4
        have HG4 := Lib.hid hg4
        have hbr4 : Below (w.heap.size + 1) w3 w4 := hbr.trans (hb4.mono zz)
        clear hb4 hg4
        go_wp2_with (fail)
        exact ⟨⟨3, by decide, by decide, rfl, HG4.out.set (k := 2) (q := cutV x 3) (by decide) (by rw [HCV.out]; rfl) (by rw [HCV.out]; rfl) (fun j hj => by rw [HCV.out, HCV.out]; by_cases h : j < 2 <;> simp [h] <;> (try omega)), below_set _ (Nat.le_refl _) (below_set _ (Nat.le_refl _) hbr4)⟩, by decide⟩
      · have hix : ∀ W, (Instr.index 77 (.agg #[.complex .f64 a0 b0, .complex .f64 a1 b1, .complex .f64 a2 b2, .complex .f64 a3 b3]) (.int .i64 3)).run Tryd.prog W = .ok (.complex .f64 a3 b3) W := fun W => by kernel_rfl
        have c0 := (HG.out.c 3 (by decide)).1
        have c1 := (HG.out.c 3 (by decide)).2
        have f0 := HG.out.f (3 * 2)
        have f1 := HG.out.f (3 * 2 + 1)
        simp only [Nat.reduceMul, Nat.reduceAdd] at c0 c1 f0 f1
        go_wp2_with (fail)
        refine (G3.out _).mono ?_
        rintro e w4 ⟨rfl, hb4⟩
        replace c0 := cell_below' hb4 c0
        replace c1 := cell_below' hb4 c1
        replace f0 := frozen_below hb4 zo f0
        replace f1 := frozen_below hb4 zo f1
        replace zo := Nat.lt_of_lt_of_le zo hb4.size
        have hg4 := HG.out.below hb4
        have HG4 := Lib.hid hg4
        have hbr4 : Below (w.heap.size + 1) w3 w4 := hbr.trans (hb4.mono zz)
        clear hb4 hg4
        go_wp2_with (fail)
        exact ⟨⟨4, by decide, by decide, rfl, HG4.out.set (k := 3) (q := cutV x 4) (by decide) (by rw [HCV.out]; rfl) (by rw [HCV.out]; rfl) (fun j hj => by rw [HCV.out, HCV.out]; by_cases h : j < 3 <;> simp [h] <;> (try omega)), below_set _ (Nat.le_refl _) (below_set _ (Nat.le_refl _) hbr4)⟩, by decide⟩
    · obtain rfl : m = 4 := by omega
      have hl : ∀ j, j < 4 → cutV x 4 j = linP x j := fun j hj => by rw [HCV.out, if_pos hj]
      have c0 := HG.out.c 0 (by decide)
      rw [show (4 : Int).toNat = 4 from rfl, hl 0 (by decide)] at c0
      obtain ⟨o0, o1⟩ := c0
      simp only [Nat.reduceMul, Nat.reduceAdd] at o0 o1
      have c1 := HG.out.c 1 (by decide)
      rw [show (4 : Int).toNat = 4 from rfl, hl 1 (by decide)] at c1
      obtain ⟨o2, o3⟩ := c1
      simp only [Nat.reduceMul, Nat.reduceAdd] at o2 o3
      have c2 := HG.out.c 2 (by decide)
      rw [show (4 : Int).toNat = 4 from rfl, hl 2 (by decide)] at c2
      obtain ⟨o4, o5⟩ := c2
      simp only [Nat.reduceMul, Nat.reduceAdd] at o4 o5
      have c3 := HG.out.c 3 (by decide)
      rw [show (4 : Int).toNat = 4 from rfl, hl 3 (by decide)] at c3
      obtain ⟨o6, o7⟩ := c3
      simp only [Nat.reduceMul, Nat.reduceAdd] at o6 o7
      have hlw : w.heap.size < w.heap.size + 1 := by omega
      have hbw : Below w.heap.size w wo := h3.trans (hbr.mono (by omega))
      replace r0 := cell_below hbr r0 hlw
      replace rf0 := frozen_below hbr hlw rf0
      replace r1 := cell_below hbr r1 hlw
      replace rf1 := frozen_below hbr hlw rf1
      replace r2 := cell_below hbr r2 hlw
      replace rf2 := frozen_below hbr hlw rf2
      replace r3 := cell_below hbr r3 hlw
      replace rf3 := frozen_below hbr hlw rf3
      replace r4 := cell_below hbr r4 hlw
      replace rf4 := frozen_below hbr hlw rf4
      replace r5 := cell_below hbr r5 hlw
      replace rf5 := frozen_below hbr hlw rf5
      replace r6 := cell_below hbr r6 hlw
      replace rf6 := frozen_below hbr hlw rf6
      replace r7 := cell_below hbr r7 hlw
      replace rf7 := frozen_below hbr hlw rf7
      replace zr : w.heap.size < wo.heap.size := by omega
      clear HG HGX3 hl hbr G0 G1 G2 G3 HCV hlw h3
      go_wp2_with (fail)
      obtain ⟨q0, q1, q2, q3, q4, q5, q6, q7⟩ := set8 (v0 := .int .i64 (linP x 0).re) (v1 := .int .i64 (linP x 0).im) (v2 := .int .i64 (linP x 1).re) (v3 := .int .i64 (linP x 1).im) (v4 := .int .i64 (linP x 2).re) (v5 := .int .i64 (linP x 2).im) (v6 := .int .i64 (linP x 3).re) (v7 := .int .i64 (linP x 3).im) r0 r1 r2 r3 r4 r5 r6 r7
      refine bodyPost_ret (v := .tuple #[gv4 (linP x), .int .i64 0]) (by simp [results, Tryd.results8, go_sem, q0, q1, q2, q3, q4, q5, q6, q7]) rfl ?_
      have hz : gv4 (linV x) = gv4 (linP x) := by simp only [gv4, HV.out]
      rw [hz]
      exact ⟨rfl, below_set _ (Nat.le_refl _) (below_set _ (Nat.le_refl _) (below_set _ (Nat.le_refl _) (below_set _ (Nat.le_refl _) (below_set _ (Nat.le_refl _) (below_set _ (Nat.le_refl _) (below_set _ (Nat.le_refl _) (below_set _ (Nat.le_refl _) (hbw))))))))⟩
end Go.Proofs.YtlnbbioponmcfaaDoor
