/-
  Chapter 2: EchoTagged, walked.
-/
import Derived.Test.YtppghnbabnhnbaaDoorETgL
import Derived.Test.YtppghnbabnhnbaaDoorEMix
import Derived.Test.YtppghnbabnhnbaaDoorERul
import Derived.Test.YtppghnbabnhnbaaDoorEOcL
import Derived.Test.YtppghnbabnhnbaaDoorEAwk
namespace Go.Proofs.YtppghnbabnhnbaaDoor
open Go.ChangeShapes Go.WideShapes Go.ChangeAt Go.RowKit
set_option linter.unusedVariables false
set_option linter.unusedSimpArgs false

def swR (r : Ru) : Ru := ⟨r.me, r.mo, r.ra, r.no, r.po, r.ce, r.st, r.du⟩
theorem swR_ok {r : Ru} (h : OkRu r) : OkRu (swR r) := ⟨⟨h.m.e, h.m.o, h.m.ne.symm⟩, h.ra0, h.ra1, h.no0, h.no1, h.po0, h.po1, h.ce0, h.ce1, h.st0, h.st1, h.du0, h.du1⟩
theorem tagQ_ok {r : Ru} {x0 x1 : Gs} (h : OkRu r) (k0 : Sz 10000 x0) (k1 : Sz 10000 x1) : tagQ r x0 x1 = (tagP r x0 x1, 0) := by
  have e : tagE r x0 x1 = 0 := by
    unfold tagE; rw [ruE_of h, firstE_z, firstE1]; unfold pairE; rw [smpE_of k0, smpE_of k1]; rfl
  unfold tagQ; rw [if_pos e]
theorem mixQ_ok {mo me x0 x1 : Gs} (h : OkM mo me) (k0 : Sz 10000 x0) (k1 : Sz 10000 x1) : mixQ mo me x0 x1 = ((mixA x0 x1, mixB mo me x0 x1), 0) := by
  have e : mixE mo me x0 x1 = 0 := by
    unfold mixE; rw [mdsE_of h, firstE_z, firstE1]; unfold pairE; rw [smpE_of k0, smpE_of k1]; rfl
  exact if_pos e
set_option maxRecDepth 100000 in
set_option maxHeartbeats 16000000 in
theorem EchoTagged_any (r : Ru) (x0 x1 g : Gs) (w : World) (ht : Tab w) :
    Calls Tryd.prog 7 #[ruv r, gv2 x0 x1, gv g] w fun e w' => e = .returned (.bool true) ∧ Below w.heap.size w w' := by
  have HT := Lib.hid ht
  have C1 := Lib.hid (fun W => RCheckRules_any r W)
  have C2 := Lib.hid (fun W => RPairErr_any x0 x1 W)
  have C3 := Lib.hid (fun W => RSampleErr_any g W)
  have C4 := Lib.hid (fun (h : smpE g = 0) W => GPart_any g W ((smpE_zero h).mono (by decide)))
  have T1 := Lib.hid (fun (h : ruE r = 0) (h2 : pairE x0 x1 = 0) W => by
    have q := TagOf_any r x0 x1 W
    rw [tagQ_ok (ruE_zero h) (pairE_zero h2).1 (pairE_zero h2).2] at q
    exact q)
  have U0 := Lib.hid (fun (h2 : pairE x0 x1 = 0) W => (show Calls Tryd.prog 47 #[gv x0, .int .i64 1] W (fun e w' => e = .returned (gv (tI x0)) ∧ Below W.heap.size W w') from RTimes_any x0 1 W (by decide) ((pairE_zero h2).1.mono (by decide))))
  have U1 := Lib.hid (fun (h2 : pairE x0 x1 = 0) W => (show Calls Tryd.prog 47 #[gv x1, .int .i64 1] W (fun e w' => e = .returned (gv (tI x1)) ∧ Below W.heap.size W w') from RTimes_any x1 1 W (by decide) ((pairE_zero h2).2.mono (by decide))))
  have T2 := Lib.hid (fun (h : ruE r = 0) (h2 : pairE x0 x1 = 0) W => by
    have q := TagOf_any r (tI x0) (tI x1) W
    rw [tagQ_ok (ruE_zero h) (pairE_zero h2).1.tI (pairE_zero h2).2.tI, tag_tI] at q
    exact q)
  have WI := Lib.hid (fun W => by
    have q := Within_any (tagP r x0 x1) 0 3 W
    rw [show withinB (tagP r x0 x1) 0 3 = true from withinB_true.2 (tagP_bd r x0 x1)] at q
    exact q)
  have MX := Lib.hid (fun (h : ruE r = 0) (h2 : smpE g = 0) W => by
    have q := Mixed_any r.mo r.me g gz W
    rw [mixQ_ok (ruE_zero h).m (smpE_zero h2) ⟨by decide, by decide, by decide, by decide⟩] at q
    exact q)
  have T3 := Lib.hid (fun (h : ruE r = 0) (h2 : gprt g ≤ 400) W => by
    have q := TagOf_any r (mixA g gz) (mixB r.mo r.me g gz) W
    have k := gprt_le.1 h2
    have z : Sz 0 gz := ⟨by decide, by decide, by decide, by decide⟩
    have hm := (ruE_zero h).m
    rw [tagQ_ok (ruE_zero h) (show Sz 10000 (mixA g gz) from (k.add z).mono (by decide)) (show Sz 10000 (mixB r.mo r.me g gz) from ((hm.o.mul k).add (hm.e.mul z)).mono (by decide)), tag_pure g (ruE_zero h)] at q
    exact q)
  have NG := Lib.hid (fun (h2 : smpE g = 0) W => GNorm_any g W ((smpE_zero h2).mono (by decide)))
  have T4 := Lib.hid (fun (h : ruE r = 0) (h2 : pairE x0 x1 = 0) (h3 : r.ra ≠ 1) W => by
    have q := TagOf_any (swR r) x0 x1 W
    rw [tagQ_ok (swR_ok (ruE_zero h)) (pairE_zero h2).1 (pairE_zero h2).2] at q
    have e : tagP (swR r) x0 x1 = exch (tagP r x0 x1) := tag_swap x0 x1 (ruE_zero h) h3
    rw [e] at q
    exact q)
  have HBD := Lib.hid (tagP_bd r x0 x1)
  have HWT := Lib.hid (show ∀ a b : Int, (a ≤ b → (if a ≤ b then (0 : Int) else 1) = 0) ∧ (¬ a ≤ b → (if a ≤ b then (0 : Int) else 1) = 1) from fun a b => ⟨fun h => if_pos h, fun h => if_neg h⟩)
  clear ht
  generalize ruE r = E at *
  generalize pairE x0 x1 = PE at *
  generalize smpE g = SE at *
  generalize gprt g = gp at *
  generalize gnorm g = gn at *
  generalize tagP r x0 x1 = tg at *
  generalize mixA g gz = qa at *
  generalize mixB r.mo r.me g gz = qb at *
  generalize tI x0 = y0 at *
  generalize tI x1 = y1 at *
  obtain ⟨⟨mo0, mo1⟩, ⟨me0, me1⟩, ra, no, po, ce, st, du⟩ := r
  obtain ⟨x00, x01⟩ := x0
  obtain ⟨x10, x11⟩ := x1
  obtain ⟨y00, y01⟩ := y0
  obtain ⟨y10, y11⟩ := y1
  obtain ⟨g0, g1⟩ := g
  obtain ⟨qa0, qa1⟩ := qa
  obtain ⟨qb0, qb1⟩ := qb
  simp only [gv, gv2, ruv, gz, swR] at *
  have hwt := HWT.out gn no
  generalize hwv : (if gn ≤ no then (0 : Int) else 1) = wt at *
  clear hwv HWT
  have HWV := Lib.hid hwt
  clear hwt
  go_enter Tryd.func7, Tryd.ntmps7
  go_upto_region 1 with (fail)
  have hb0 : Below w.heap.size w (((w.alloc (.cells #[.int .i64 mo0, .int .i64 mo1, .int .i64 me0, .int .i64 me1, .int .i64 ra, .int .i64 no, .int .i64 po, .int .i64 ce, .int .i64 st, .int .i64 du] 56)).alloc (.cells #[.int .i64 x00, .int .i64 x01, .int .i64 x10, .int .i64 x11] 57)).alloc (.cells #[.int .i64 g0, .int .i64 g1] 24)) := below_alloc _ (Nat.le_refl _) (below_alloc _ (Nat.le_refl _) (below_alloc _ (Nat.le_refl _) (Below.refl _ _)))
  have r0 : (((w.alloc (.cells #[.int .i64 mo0, .int .i64 mo1, .int .i64 me0, .int .i64 me1, .int .i64 ra, .int .i64 no, .int .i64 po, .int .i64 ce, .int .i64 st, .int .i64 du] 56)).alloc (.cells #[.int .i64 x00, .int .i64 x01, .int .i64 x10, .int .i64 x11] 57)).alloc (.cells #[.int .i64 g0, .int .i64 g1] 24)).cell? ⟨w.heap.size, 0, none⟩ = some (.int .i64 mo0) := cell_alloc _ (cell_alloc _ (cell_new (by simp) rfl))
  have r1 : (((w.alloc (.cells #[.int .i64 mo0, .int .i64 mo1, .int .i64 me0, .int .i64 me1, .int .i64 ra, .int .i64 no, .int .i64 po, .int .i64 ce, .int .i64 st, .int .i64 du] 56)).alloc (.cells #[.int .i64 x00, .int .i64 x01, .int .i64 x10, .int .i64 x11] 57)).alloc (.cells #[.int .i64 g0, .int .i64 g1] 24)).cell? ⟨w.heap.size, 1, none⟩ = some (.int .i64 mo1) := cell_alloc _ (cell_alloc _ (cell_new (by simp) rfl))
  have r2 : (((w.alloc (.cells #[.int .i64 mo0, .int .i64 mo1, .int .i64 me0, .int .i64 me1, .int .i64 ra, .int .i64 no, .int .i64 po, .int .i64 ce, .int .i64 st, .int .i64 du] 56)).alloc (.cells #[.int .i64 x00, .int .i64 x01, .int .i64 x10, .int .i64 x11] 57)).alloc (.cells #[.int .i64 g0, .int .i64 g1] 24)).cell? ⟨w.heap.size, 2, none⟩ = some (.int .i64 me0) := cell_alloc _ (cell_alloc _ (cell_new (by simp) rfl))
  have r3 : (((w.alloc (.cells #[.int .i64 mo0, .int .i64 mo1, .int .i64 me0, .int .i64 me1, .int .i64 ra, .int .i64 no, .int .i64 po, .int .i64 ce, .int .i64 st, .int .i64 du] 56)).alloc (.cells #[.int .i64 x00, .int .i64 x01, .int .i64 x10, .int .i64 x11] 57)).alloc (.cells #[.int .i64 g0, .int .i64 g1] 24)).cell? ⟨w.heap.size, 3, none⟩ = some (.int .i64 me1) := cell_alloc _ (cell_alloc _ (cell_new (by simp) rfl))
  have r4 : (((w.alloc (.cells #[.int .i64 mo0, .int .i64 mo1, .int .i64 me0, .int .i64 me1, .int .i64 ra, .int .i64 no, .int .i64 po, .int .i64 ce, .int .i64 st, .int .i64 du] 56)).alloc (.cells #[.int .i64 x00, .int .i64 x01, .int .i64 x10, .int .i64 x11] 57)).alloc (.cells #[.int .i64 g0, .int .i64 g1] 24)).cell? ⟨w.heap.size, 4, none⟩ = some (.int .i64 ra) := cell_alloc _ (cell_alloc _ (cell_new (by simp) rfl))
  have r5 : (((w.alloc (.cells #[.int .i64 mo0, .int .i64 mo1, .int .i64 me0, .int .i64 me1, .int .i64 ra, .int .i64 no, .int .i64 po, .int .i64 ce, .int .i64 st, .int .i64 du] 56)).alloc (.cells #[.int .i64 x00, .int .i64 x01, .int .i64 x10, .int .i64 x11] 57)).alloc (.cells #[.int .i64 g0, .int .i64 g1] 24)).cell? ⟨w.heap.size, 5, none⟩ = some (.int .i64 no) := cell_alloc _ (cell_alloc _ (cell_new (by simp) rfl))
  have r6 : (((w.alloc (.cells #[.int .i64 mo0, .int .i64 mo1, .int .i64 me0, .int .i64 me1, .int .i64 ra, .int .i64 no, .int .i64 po, .int .i64 ce, .int .i64 st, .int .i64 du] 56)).alloc (.cells #[.int .i64 x00, .int .i64 x01, .int .i64 x10, .int .i64 x11] 57)).alloc (.cells #[.int .i64 g0, .int .i64 g1] 24)).cell? ⟨w.heap.size, 6, none⟩ = some (.int .i64 po) := cell_alloc _ (cell_alloc _ (cell_new (by simp) rfl))
  have r7 : (((w.alloc (.cells #[.int .i64 mo0, .int .i64 mo1, .int .i64 me0, .int .i64 me1, .int .i64 ra, .int .i64 no, .int .i64 po, .int .i64 ce, .int .i64 st, .int .i64 du] 56)).alloc (.cells #[.int .i64 x00, .int .i64 x01, .int .i64 x10, .int .i64 x11] 57)).alloc (.cells #[.int .i64 g0, .int .i64 g1] 24)).cell? ⟨w.heap.size, 7, none⟩ = some (.int .i64 ce) := cell_alloc _ (cell_alloc _ (cell_new (by simp) rfl))
  have r8 : (((w.alloc (.cells #[.int .i64 mo0, .int .i64 mo1, .int .i64 me0, .int .i64 me1, .int .i64 ra, .int .i64 no, .int .i64 po, .int .i64 ce, .int .i64 st, .int .i64 du] 56)).alloc (.cells #[.int .i64 x00, .int .i64 x01, .int .i64 x10, .int .i64 x11] 57)).alloc (.cells #[.int .i64 g0, .int .i64 g1] 24)).cell? ⟨w.heap.size, 8, none⟩ = some (.int .i64 st) := cell_alloc _ (cell_alloc _ (cell_new (by simp) rfl))
  have r9 : (((w.alloc (.cells #[.int .i64 mo0, .int .i64 mo1, .int .i64 me0, .int .i64 me1, .int .i64 ra, .int .i64 no, .int .i64 po, .int .i64 ce, .int .i64 st, .int .i64 du] 56)).alloc (.cells #[.int .i64 x00, .int .i64 x01, .int .i64 x10, .int .i64 x11] 57)).alloc (.cells #[.int .i64 g0, .int .i64 g1] 24)).cell? ⟨w.heap.size, 9, none⟩ = some (.int .i64 du) := cell_alloc _ (cell_alloc _ (cell_new (by simp) rfl))
  have zr : w.heap.size < (((w.alloc (.cells #[.int .i64 mo0, .int .i64 mo1, .int .i64 me0, .int .i64 me1, .int .i64 ra, .int .i64 no, .int .i64 po, .int .i64 ce, .int .i64 st, .int .i64 du] 56)).alloc (.cells #[.int .i64 x00, .int .i64 x01, .int .i64 x10, .int .i64 x11] 57)).alloc (.cells #[.int .i64 g0, .int .i64 g1] 24)).heap.size := World.block_lt_of_cell? _ _ r0
  have x0 : (((w.alloc (.cells #[.int .i64 mo0, .int .i64 mo1, .int .i64 me0, .int .i64 me1, .int .i64 ra, .int .i64 no, .int .i64 po, .int .i64 ce, .int .i64 st, .int .i64 du] 56)).alloc (.cells #[.int .i64 x00, .int .i64 x01, .int .i64 x10, .int .i64 x11] 57)).alloc (.cells #[.int .i64 g0, .int .i64 g1] 24)).cell? ⟨w.heap.size + 1, 0, none⟩ = some (.int .i64 x00) := cell_alloc _ (cell_new (by simp) rfl)
  have x1 : (((w.alloc (.cells #[.int .i64 mo0, .int .i64 mo1, .int .i64 me0, .int .i64 me1, .int .i64 ra, .int .i64 no, .int .i64 po, .int .i64 ce, .int .i64 st, .int .i64 du] 56)).alloc (.cells #[.int .i64 x00, .int .i64 x01, .int .i64 x10, .int .i64 x11] 57)).alloc (.cells #[.int .i64 g0, .int .i64 g1] 24)).cell? ⟨w.heap.size + 1, 1, none⟩ = some (.int .i64 x01) := cell_alloc _ (cell_new (by simp) rfl)
  have x2 : (((w.alloc (.cells #[.int .i64 mo0, .int .i64 mo1, .int .i64 me0, .int .i64 me1, .int .i64 ra, .int .i64 no, .int .i64 po, .int .i64 ce, .int .i64 st, .int .i64 du] 56)).alloc (.cells #[.int .i64 x00, .int .i64 x01, .int .i64 x10, .int .i64 x11] 57)).alloc (.cells #[.int .i64 g0, .int .i64 g1] 24)).cell? ⟨w.heap.size + 1, 2, none⟩ = some (.int .i64 x10) := cell_alloc _ (cell_new (by simp) rfl)
  have x3 : (((w.alloc (.cells #[.int .i64 mo0, .int .i64 mo1, .int .i64 me0, .int .i64 me1, .int .i64 ra, .int .i64 no, .int .i64 po, .int .i64 ce, .int .i64 st, .int .i64 du] 56)).alloc (.cells #[.int .i64 x00, .int .i64 x01, .int .i64 x10, .int .i64 x11] 57)).alloc (.cells #[.int .i64 g0, .int .i64 g1] 24)).cell? ⟨w.heap.size + 1, 3, none⟩ = some (.int .i64 x11) := cell_alloc _ (cell_new (by simp) rfl)
  have zx : w.heap.size + 1 < (((w.alloc (.cells #[.int .i64 mo0, .int .i64 mo1, .int .i64 me0, .int .i64 me1, .int .i64 ra, .int .i64 no, .int .i64 po, .int .i64 ce, .int .i64 st, .int .i64 du] 56)).alloc (.cells #[.int .i64 x00, .int .i64 x01, .int .i64 x10, .int .i64 x11] 57)).alloc (.cells #[.int .i64 g0, .int .i64 g1] 24)).heap.size := World.block_lt_of_cell? _ _ x0
  have h0 : (((w.alloc (.cells #[.int .i64 mo0, .int .i64 mo1, .int .i64 me0, .int .i64 me1, .int .i64 ra, .int .i64 no, .int .i64 po, .int .i64 ce, .int .i64 st, .int .i64 du] 56)).alloc (.cells #[.int .i64 x00, .int .i64 x01, .int .i64 x10, .int .i64 x11] 57)).alloc (.cells #[.int .i64 g0, .int .i64 g1] 24)).cell? ⟨w.heap.size + 1 + 1, 0, none⟩ = some (.int .i64 g0) := cell_new (by simp) rfl
  have h1 : (((w.alloc (.cells #[.int .i64 mo0, .int .i64 mo1, .int .i64 me0, .int .i64 me1, .int .i64 ra, .int .i64 no, .int .i64 po, .int .i64 ce, .int .i64 st, .int .i64 du] 56)).alloc (.cells #[.int .i64 x00, .int .i64 x01, .int .i64 x10, .int .i64 x11] 57)).alloc (.cells #[.int .i64 g0, .int .i64 g1] 24)).cell? ⟨w.heap.size + 1 + 1, 1, none⟩ = some (.int .i64 g1) := cell_new (by simp) rfl
  have zh : w.heap.size + 1 + 1 < (((w.alloc (.cells #[.int .i64 mo0, .int .i64 mo1, .int .i64 me0, .int .i64 me1, .int .i64 ra, .int .i64 no, .int .i64 po, .int .i64 ce, .int .i64 st, .int .i64 du] 56)).alloc (.cells #[.int .i64 x00, .int .i64 x01, .int .i64 x10, .int .i64 x11] 57)).alloc (.cells #[.int .i64 g0, .int .i64 g1] 24)).heap.size := World.block_lt_of_cell? _ _ h0
  generalize (((w.alloc (.cells #[.int .i64 mo0, .int .i64 mo1, .int .i64 me0, .int .i64 me1, .int .i64 ra, .int .i64 no, .int .i64 po, .int .i64 ce, .int .i64 st, .int .i64 du] 56)).alloc (.cells #[.int .i64 x00, .int .i64 x01, .int .i64 x10, .int .i64 x11] 57)).alloc (.cells #[.int .i64 g0, .int .i64 g1] 24)) = w0 at *
  have HT0 := Lib.hid (HT.out.below hb0)
  go_wp2_with (fail)
  refine (awake_any w0 HT0.out).mono ?_
  rintro e w1 ⟨rfl, hb1⟩
  have k1 : Below w.heap.size w w1 := (hb0).trans ((hb1).mono (hb0).size)
  replace r0 := cell_below' hb1 r0
  replace r1 := cell_below' hb1 r1
  replace r2 := cell_below' hb1 r2
  replace r3 := cell_below' hb1 r3
  replace r4 := cell_below' hb1 r4
  replace r5 := cell_below' hb1 r5
  replace r6 := cell_below' hb1 r6
  replace r7 := cell_below' hb1 r7
  replace r8 := cell_below' hb1 r8
  replace r9 := cell_below' hb1 r9
  replace zr := Nat.lt_of_lt_of_le zr (hb1).size
  replace x0 := cell_below' hb1 x0
  replace x1 := cell_below' hb1 x1
  replace x2 := cell_below' hb1 x2
  replace x3 := cell_below' hb1 x3
  replace zx := Nat.lt_of_lt_of_le zx (hb1).size
  replace h0 := cell_below' hb1 h0
  replace h1 := cell_below' hb1 h1
  replace zh := Nat.lt_of_lt_of_le zh (hb1).size
  clear hb1 hb0
  clear HT HT0
  go_upto_region 3 with (fail)
  go_cut [39] from 22 to 39 (fun t wx => ∃ b : Bool, t = .bool b ∧ (b = false → E = 0 ∧ PE = 0 ∧ SE = 0 ∧ gp ≤ 400) ∧ Below w1.heap.size w1 wx)
  case first =>
    clear T1 U0 U1 T2 WI MX T3 NG T4 HBD HWV
    go_wp2_with (fail)
    refine (C1.out _).mono ?_
    rintro e w2 ⟨rfl, hb2⟩
    have i2 := hb2
    have k2 : Below w.heap.size w w2 := (k1).trans ((hb2).mono (k1).size)
    replace x0 := cell_below' hb2 x0
    replace x1 := cell_below' hb2 x1
    replace x2 := cell_below' hb2 x2
    replace x3 := cell_below' hb2 x3
    replace zx := Nat.lt_of_lt_of_le zx (hb2).size
    replace h0 := cell_below' hb2 h0
    replace h1 := cell_below' hb2 h1
    replace zh := Nat.lt_of_lt_of_le zh (hb2).size
    clear hb2 k1
    by_cases h1 : E = 0
    rotate_left 1
    · have e1 : (E != 0) = true := by simpa using h1
      go_wp2_with (fail)
      go_meet
      exact ⟨true, rfl, fun h => (by cases h), i2⟩
    subst h1
    go_wp2_with (fail)
    refine (C2.out _).mono ?_
    rintro e w3 ⟨rfl, hb3⟩
    have i3 := i2.trans (hb3.mono i2.size)
    have k3 : Below w.heap.size w w3 := (k2).trans ((hb3).mono (k2).size)
    replace h0 := cell_below' hb3 h0
    replace h1 := cell_below' hb3 h1
    replace zh := Nat.lt_of_lt_of_le zh (hb3).size
    clear hb3 k2
    by_cases h2 : PE = 0
    rotate_left 1
    · have e1 : (PE != 0) = true := by simpa using h2
      go_wp2_with (fail)
      go_meet
      exact ⟨true, rfl, fun h => (by cases h), i3⟩
    subst h2
    go_wp2_with (fail)
    refine (C3.out _).mono ?_
    rintro e w4 ⟨rfl, hb4⟩
    have i4 := i3.trans (hb4.mono i3.size)
    have k4 : Below w.heap.size w w4 := (k3).trans ((hb4).mono (k3).size)
    replace h0 := cell_below' hb4 h0
    replace h1 := cell_below' hb4 h1
    replace zh := Nat.lt_of_lt_of_le zh (hb4).size
    clear hb4 k3
    by_cases h3 : SE = 0
    rotate_left 1
    · have e1 : (SE != 0) = true := by simpa using h3
      go_wp2_with (fail)
      go_meet
      exact ⟨true, rfl, fun h => (by cases h), i4⟩
    subst h3
    have C5 := Lib.hid (fun W => C4.out rfl W)
    clear C4
    go_wp2_with (fail)
    refine (C5.out _).mono ?_
    rintro e w5 ⟨rfl, hb5⟩
    have i5 := i4.trans (hb5.mono i4.size)
    by_cases h4 : gp ≤ 400
    · have e1 : decide (400 < gp) = false := by simp; omega
      go_wp2_with (fail)
      go_meet
      exact ⟨false, rfl, fun _ => ⟨(by first | rfl | trivial), (by first | rfl | trivial), (by first | rfl | trivial), h4⟩, i5⟩
    · have e1 : decide (400 < gp) = true := by simp; omega
      go_wp2_with (fail)
      go_meet
      exact ⟨true, rfl, fun h => (by cases h), i5⟩
  case rest =>
  obtain ⟨w2, rfl⟩ : ∃ w2 : World, w2 = wc := ⟨_, rfl⟩
  obtain ⟨b, rfl, hF, hb2⟩ := hcut
  clear C1 C2 C3 C4
  have k2 : Below w.heap.size w w2 := (k1).trans ((hb2).mono (k1).size)
  replace r0 := cell_below' hb2 r0
  replace r1 := cell_below' hb2 r1
  replace r2 := cell_below' hb2 r2
  replace r3 := cell_below' hb2 r3
  replace r4 := cell_below' hb2 r4
  replace r5 := cell_below' hb2 r5
  replace r6 := cell_below' hb2 r6
  replace r7 := cell_below' hb2 r7
  replace r8 := cell_below' hb2 r8
  replace r9 := cell_below' hb2 r9
  replace zr := Nat.lt_of_lt_of_le zr (hb2).size
  replace x0 := cell_below' hb2 x0
  replace x1 := cell_below' hb2 x1
  replace x2 := cell_below' hb2 x2
  replace x3 := cell_below' hb2 x3
  replace zx := Nat.lt_of_lt_of_le zx (hb2).size
  replace h0 := cell_below' hb2 h0
  replace h1 := cell_below' hb2 h1
  replace zh := Nat.lt_of_lt_of_le zh (hb2).size
  clear hb2 k1
  cases b
  rotate_left 1
  · clear hF
    go_wp2_with (fail)
    go_ret
    exact ⟨rfl, k2⟩
  obtain ⟨rfl, rfl, rfl, hgp⟩ := hF rfl
  have A1 := Lib.hid (fun W => T1.out rfl rfl W)
  have A2 := Lib.hid (fun W => T2.out rfl rfl W)
  have B0 := Lib.hid (fun W => U0.out rfl W)
  have B1 := Lib.hid (fun W => U1.out rfl W)
  have A3 := Lib.hid (fun W => T3.out rfl hgp W)
  have A4 := Lib.hid (fun h W => T4.out rfl rfl h W)
  have NG2 := Lib.hid (fun W => NG.out rfl W)
  have MX2 := Lib.hid (fun W => MX.out rfl rfl W)
  have htt : (tg != tg) = false := by simp
  have hww : (wt != wt) = false := by simp
  clear T1 T2 U0 U1 T3 T4 NG MX hF hgp
  go_wp2_with (fail)
  refine (A1.out _).mono ?_
  rintro e w3 ⟨rfl, hb3⟩
  have k3 : Below w.heap.size w w3 := (k2).trans ((hb3).mono (k2).size)
  replace r0 := cell_below' hb3 r0
  replace r1 := cell_below' hb3 r1
  replace r2 := cell_below' hb3 r2
  replace r3 := cell_below' hb3 r3
  replace r4 := cell_below' hb3 r4
  replace r5 := cell_below' hb3 r5
  replace r6 := cell_below' hb3 r6
  replace r7 := cell_below' hb3 r7
  replace r8 := cell_below' hb3 r8
  replace r9 := cell_below' hb3 r9
  replace zr := Nat.lt_of_lt_of_le zr (hb3).size
  replace x0 := cell_below' hb3 x0
  replace x1 := cell_below' hb3 x1
  replace x2 := cell_below' hb3 x2
  replace x3 := cell_below' hb3 x3
  replace zx := Nat.lt_of_lt_of_le zx (hb3).size
  replace h0 := cell_below' hb3 h0
  replace h1 := cell_below' hb3 h1
  replace zh := Nat.lt_of_lt_of_le zh (hb3).size
  clear hb3 k2
  go_upto_region 6 with (fail)
  (refine region_full (by kernel_rfl) (by kernel_rfl) fun hx => ?_; (repeat (any_goals (first | go_big_quiet_step ((first | ((go_at_call 47; with_reducible exact ext_call (B0.out _))) | ((go_at_call 47; with_reducible exact ext_call (B1.out _))) | ((go_at_call 34; with_reducible exact ext_call (A2.out _))))) | quiet_step ((first | ((go_at_call 47; with_reducible exact ext_call (B0.out _))) | ((go_at_call 47; with_reducible exact ext_call (B1.out _))) | ((go_at_call 34; with_reducible exact ext_call (A2.out _)))))))))
  (refine wpQuiet_nil ?_; clear hx; intro u; have hbw4 := ext_bel _ u; have hxw4 := ext_cell _ u; generalize ext _ u = w4 at *; clear u; have hsw4 := hbw4.size; (try simp at hsw4))
  have k4 : Below w.heap.size w w4 := (k3).trans ((hbw4).mono (k3).size)
  replace r0 := cell_below' hbw4 r0
  replace r1 := cell_below' hbw4 r1
  replace r2 := cell_below' hbw4 r2
  replace r3 := cell_below' hbw4 r3
  replace r4 := cell_below' hbw4 r4
  replace r5 := cell_below' hbw4 r5
  replace r6 := cell_below' hbw4 r6
  replace r7 := cell_below' hbw4 r7
  replace r8 := cell_below' hbw4 r8
  replace r9 := cell_below' hbw4 r9
  replace zr := Nat.lt_of_lt_of_le zr (hbw4).size
  replace x0 := cell_below' hbw4 x0
  replace x1 := cell_below' hbw4 x1
  replace x2 := cell_below' hbw4 x2
  replace x3 := cell_below' hbw4 x3
  replace zx := Nat.lt_of_lt_of_le zx (hbw4).size
  replace h0 := cell_below' hbw4 h0
  replace h1 := cell_below' hbw4 h1
  replace zh := Nat.lt_of_lt_of_le zh (hbw4).size
  clear hbw4 k3
  clear hxw4 hsw4 B0 B1 A1 A2
  go_wp2_with (fail)
  refine (WI.out _).mono ?_
  rintro e w' ⟨rfl, rfl⟩
  clear WI
  go_wp2_with (fail)
  refine (MX2.out _).mono ?_
  rintro e w5 ⟨rfl, hb5⟩
  have k5 : Below w.heap.size w w5 := (k4).trans ((hb5).mono (k4).size)
  replace r0 := cell_below' hb5 r0
  replace r1 := cell_below' hb5 r1
  replace r2 := cell_below' hb5 r2
  replace r3 := cell_below' hb5 r3
  replace r4 := cell_below' hb5 r4
  replace r5 := cell_below' hb5 r5
  replace r6 := cell_below' hb5 r6
  replace r7 := cell_below' hb5 r7
  replace r8 := cell_below' hb5 r8
  replace r9 := cell_below' hb5 r9
  replace zr := Nat.lt_of_lt_of_le zr (hb5).size
  replace x0 := cell_below' hb5 x0
  replace x1 := cell_below' hb5 x1
  replace x2 := cell_below' hb5 x2
  replace x3 := cell_below' hb5 x3
  replace zx := Nat.lt_of_lt_of_le zx (hb5).size
  replace h0 := cell_below' hb5 h0
  replace h1 := cell_below' hb5 h1
  replace zh := Nat.lt_of_lt_of_le zh (hb5).size
  clear hb5 k4
  go_upto_region 10 with (fail)
  have hb6 : Below w5.heap.size w5 (w5.alloc (.cells #[.int .i64 qa0, .int .i64 qa1, .int .i64 qb0, .int .i64 qb1] 57)) := below_alloc _ (Nat.le_refl _) (Below.refl _ _)
  have y0 : (w5.alloc (.cells #[.int .i64 qa0, .int .i64 qa1, .int .i64 qb0, .int .i64 qb1] 57)).cell? ⟨w5.heap.size, 0, none⟩ = some (.int .i64 qa0) := cell_new (by simp) rfl
  have y1 : (w5.alloc (.cells #[.int .i64 qa0, .int .i64 qa1, .int .i64 qb0, .int .i64 qb1] 57)).cell? ⟨w5.heap.size, 1, none⟩ = some (.int .i64 qa1) := cell_new (by simp) rfl
  have y2 : (w5.alloc (.cells #[.int .i64 qa0, .int .i64 qa1, .int .i64 qb0, .int .i64 qb1] 57)).cell? ⟨w5.heap.size, 2, none⟩ = some (.int .i64 qb0) := cell_new (by simp) rfl
  have y3 : (w5.alloc (.cells #[.int .i64 qa0, .int .i64 qa1, .int .i64 qb0, .int .i64 qb1] 57)).cell? ⟨w5.heap.size, 3, none⟩ = some (.int .i64 qb1) := cell_new (by simp) rfl
  have zy : w5.heap.size < (w5.alloc (.cells #[.int .i64 qa0, .int .i64 qa1, .int .i64 qb0, .int .i64 qb1] 57)).heap.size := World.block_lt_of_cell? _ _ y0
  generalize (w5.alloc (.cells #[.int .i64 qa0, .int .i64 qa1, .int .i64 qb0, .int .i64 qb1] 57)) = w6 at *
  have k6 : Below w.heap.size w w6 := (k5).trans ((hb6).mono (k5).size)
  replace r0 := cell_below' hb6 r0
  replace r1 := cell_below' hb6 r1
  replace r2 := cell_below' hb6 r2
  replace r3 := cell_below' hb6 r3
  replace r4 := cell_below' hb6 r4
  replace r5 := cell_below' hb6 r5
  replace r6 := cell_below' hb6 r6
  replace r7 := cell_below' hb6 r7
  replace r8 := cell_below' hb6 r8
  replace r9 := cell_below' hb6 r9
  replace zr := Nat.lt_of_lt_of_le zr (hb6).size
  replace x0 := cell_below' hb6 x0
  replace x1 := cell_below' hb6 x1
  replace x2 := cell_below' hb6 x2
  replace x3 := cell_below' hb6 x3
  replace zx := Nat.lt_of_lt_of_le zx (hb6).size
  replace h0 := cell_below' hb6 h0
  replace h1 := cell_below' hb6 h1
  replace zh := Nat.lt_of_lt_of_le zh (hb6).size
  clear hb6 k5
  go_wp2_with (fail)
  refine (A3.out _).mono ?_
  rintro e w7 ⟨rfl, hb7⟩
  have k7 : Below w.heap.size w w7 := (k6).trans ((hb7).mono (k6).size)
  replace r0 := cell_below' hb7 r0
  replace r1 := cell_below' hb7 r1
  replace r2 := cell_below' hb7 r2
  replace r3 := cell_below' hb7 r3
  replace r4 := cell_below' hb7 r4
  replace r5 := cell_below' hb7 r5
  replace r6 := cell_below' hb7 r6
  replace r7 := cell_below' hb7 r7
  replace r8 := cell_below' hb7 r8
  replace r9 := cell_below' hb7 r9
  replace zr := Nat.lt_of_lt_of_le zr (hb7).size
  replace x0 := cell_below' hb7 x0
  replace x1 := cell_below' hb7 x1
  replace x2 := cell_below' hb7 x2
  replace x3 := cell_below' hb7 x3
  replace zx := Nat.lt_of_lt_of_le zx (hb7).size
  replace h0 := cell_below' hb7 h0
  replace h1 := cell_below' hb7 h1
  replace zh := Nat.lt_of_lt_of_le zh (hb7).size
  clear hb7 k6
  clear A3 MX2
  go_upto_region 14 with (fail)
  (refine region_extx 4 (by kernel_rfl) (by kernel_rfl) fun hx => ?_; simp only [List.take_succ_cons, List.take_zero, List.drop_succ_cons, List.drop_zero]; (repeat (any_goals (first | go_big_quiet_step (((go_at_call 51; with_reducible exact ext_call (NG2.out _)))) | quiet_step (((go_at_call 51; with_reducible exact ext_call (NG2.out _))))))))
  (refine wpQuiet_nil ?_; clear hx; intro u; have hbw8 := ext_bel _ u; have hxw8 := ext_cell _ u; generalize ext _ u = w8 at *; clear u; have hsw8 := hbw8.size; (try simp at hsw8))
  have k8 : Below w.heap.size w w8 := (k7).trans ((hbw8).mono (k7).size)
  replace r0 := cell_below' hbw8 r0
  replace r1 := cell_below' hbw8 r1
  replace r2 := cell_below' hbw8 r2
  replace r3 := cell_below' hbw8 r3
  replace r4 := cell_below' hbw8 r4
  replace r5 := cell_below' hbw8 r5
  replace r6 := cell_below' hbw8 r6
  replace r7 := cell_below' hbw8 r7
  replace r8 := cell_below' hbw8 r8
  replace r9 := cell_below' hbw8 r9
  replace zr := Nat.lt_of_lt_of_le zr (hbw8).size
  replace x0 := cell_below' hbw8 x0
  replace x1 := cell_below' hbw8 x1
  replace x2 := cell_below' hbw8 x2
  replace x3 := cell_below' hbw8 x3
  replace zx := Nat.lt_of_lt_of_le zx (hbw8).size
  clear hbw8 k7
  clear hxw8 hsw8 NG2
  go_upto_if 95 with (fail)
  go_cut [15] from 91 to 95 (fun t wx => t = .int .i64 wt ∧ w8 = wx)
  case first =>
    clear A4 HBD
    by_cases hn : gn ≤ no
    · have e1 : decide (gn ≤ no) = true := by simpa using hn
      obtain rfl := HWV.out.1 (by omega)
      go_wp2_with (fail)
      go_meet
      exact ⟨rfl, rfl⟩
    · have e1 : decide (gn ≤ no) = false := by simpa using hn
      obtain rfl := HWV.out.2 (by omega)
      go_wp2_with (fail)
      go_meet
      exact ⟨rfl, rfl⟩
  case rest =>
  obtain ⟨rfl, rfl⟩ := hcut
  clear HWV
  by_cases hra : ra = 1
  · subst hra
    clear A4 HBD
    go_wp2_with (fail)
    go_ret
    exact ⟨rfl, k8⟩
  have e1 : (ra == 1) = false := by simpa using hra
  have A5 := Lib.hid (fun W => A4.out hra W)
  clear A4 hra
  go_upto_region 21 with (fail)
  have hb9 : Below w8.heap.size w8 (w8.alloc (.cells #[.int .i64 mo0, .int .i64 mo1, .int .i64 me0, .int .i64 me1, .int .i64 ra, .int .i64 no, .int .i64 po, .int .i64 ce, .int .i64 st, .int .i64 du] 56)) := below_alloc _ (Nat.le_refl _) (Below.refl _ _)
  have o0 : (w8.alloc (.cells #[.int .i64 mo0, .int .i64 mo1, .int .i64 me0, .int .i64 me1, .int .i64 ra, .int .i64 no, .int .i64 po, .int .i64 ce, .int .i64 st, .int .i64 du] 56)).cell? ⟨w8.heap.size, 0, none⟩ = some (.int .i64 mo0) := cell_new (by simp) rfl
  have of0 : (w8.alloc (.cells #[.int .i64 mo0, .int .i64 mo1, .int .i64 me0, .int .i64 me1, .int .i64 ra, .int .i64 no, .int .i64 po, .int .i64 ce, .int .i64 st, .int .i64 du] 56)).frozen? ⟨w8.heap.size, 0, none⟩ = false := frozen_new (by simp)
  have o1 : (w8.alloc (.cells #[.int .i64 mo0, .int .i64 mo1, .int .i64 me0, .int .i64 me1, .int .i64 ra, .int .i64 no, .int .i64 po, .int .i64 ce, .int .i64 st, .int .i64 du] 56)).cell? ⟨w8.heap.size, 1, none⟩ = some (.int .i64 mo1) := cell_new (by simp) rfl
  have of1 : (w8.alloc (.cells #[.int .i64 mo0, .int .i64 mo1, .int .i64 me0, .int .i64 me1, .int .i64 ra, .int .i64 no, .int .i64 po, .int .i64 ce, .int .i64 st, .int .i64 du] 56)).frozen? ⟨w8.heap.size, 1, none⟩ = false := frozen_new (by simp)
  have o2 : (w8.alloc (.cells #[.int .i64 mo0, .int .i64 mo1, .int .i64 me0, .int .i64 me1, .int .i64 ra, .int .i64 no, .int .i64 po, .int .i64 ce, .int .i64 st, .int .i64 du] 56)).cell? ⟨w8.heap.size, 2, none⟩ = some (.int .i64 me0) := cell_new (by simp) rfl
  have of2 : (w8.alloc (.cells #[.int .i64 mo0, .int .i64 mo1, .int .i64 me0, .int .i64 me1, .int .i64 ra, .int .i64 no, .int .i64 po, .int .i64 ce, .int .i64 st, .int .i64 du] 56)).frozen? ⟨w8.heap.size, 2, none⟩ = false := frozen_new (by simp)
  have o3 : (w8.alloc (.cells #[.int .i64 mo0, .int .i64 mo1, .int .i64 me0, .int .i64 me1, .int .i64 ra, .int .i64 no, .int .i64 po, .int .i64 ce, .int .i64 st, .int .i64 du] 56)).cell? ⟨w8.heap.size, 3, none⟩ = some (.int .i64 me1) := cell_new (by simp) rfl
  have of3 : (w8.alloc (.cells #[.int .i64 mo0, .int .i64 mo1, .int .i64 me0, .int .i64 me1, .int .i64 ra, .int .i64 no, .int .i64 po, .int .i64 ce, .int .i64 st, .int .i64 du] 56)).frozen? ⟨w8.heap.size, 3, none⟩ = false := frozen_new (by simp)
  have o4 : (w8.alloc (.cells #[.int .i64 mo0, .int .i64 mo1, .int .i64 me0, .int .i64 me1, .int .i64 ra, .int .i64 no, .int .i64 po, .int .i64 ce, .int .i64 st, .int .i64 du] 56)).cell? ⟨w8.heap.size, 4, none⟩ = some (.int .i64 ra) := cell_new (by simp) rfl
  have of4 : (w8.alloc (.cells #[.int .i64 mo0, .int .i64 mo1, .int .i64 me0, .int .i64 me1, .int .i64 ra, .int .i64 no, .int .i64 po, .int .i64 ce, .int .i64 st, .int .i64 du] 56)).frozen? ⟨w8.heap.size, 4, none⟩ = false := frozen_new (by simp)
  have o5 : (w8.alloc (.cells #[.int .i64 mo0, .int .i64 mo1, .int .i64 me0, .int .i64 me1, .int .i64 ra, .int .i64 no, .int .i64 po, .int .i64 ce, .int .i64 st, .int .i64 du] 56)).cell? ⟨w8.heap.size, 5, none⟩ = some (.int .i64 no) := cell_new (by simp) rfl
  have of5 : (w8.alloc (.cells #[.int .i64 mo0, .int .i64 mo1, .int .i64 me0, .int .i64 me1, .int .i64 ra, .int .i64 no, .int .i64 po, .int .i64 ce, .int .i64 st, .int .i64 du] 56)).frozen? ⟨w8.heap.size, 5, none⟩ = false := frozen_new (by simp)
  have o6 : (w8.alloc (.cells #[.int .i64 mo0, .int .i64 mo1, .int .i64 me0, .int .i64 me1, .int .i64 ra, .int .i64 no, .int .i64 po, .int .i64 ce, .int .i64 st, .int .i64 du] 56)).cell? ⟨w8.heap.size, 6, none⟩ = some (.int .i64 po) := cell_new (by simp) rfl
  have of6 : (w8.alloc (.cells #[.int .i64 mo0, .int .i64 mo1, .int .i64 me0, .int .i64 me1, .int .i64 ra, .int .i64 no, .int .i64 po, .int .i64 ce, .int .i64 st, .int .i64 du] 56)).frozen? ⟨w8.heap.size, 6, none⟩ = false := frozen_new (by simp)
  have o7 : (w8.alloc (.cells #[.int .i64 mo0, .int .i64 mo1, .int .i64 me0, .int .i64 me1, .int .i64 ra, .int .i64 no, .int .i64 po, .int .i64 ce, .int .i64 st, .int .i64 du] 56)).cell? ⟨w8.heap.size, 7, none⟩ = some (.int .i64 ce) := cell_new (by simp) rfl
  have of7 : (w8.alloc (.cells #[.int .i64 mo0, .int .i64 mo1, .int .i64 me0, .int .i64 me1, .int .i64 ra, .int .i64 no, .int .i64 po, .int .i64 ce, .int .i64 st, .int .i64 du] 56)).frozen? ⟨w8.heap.size, 7, none⟩ = false := frozen_new (by simp)
  have o8 : (w8.alloc (.cells #[.int .i64 mo0, .int .i64 mo1, .int .i64 me0, .int .i64 me1, .int .i64 ra, .int .i64 no, .int .i64 po, .int .i64 ce, .int .i64 st, .int .i64 du] 56)).cell? ⟨w8.heap.size, 8, none⟩ = some (.int .i64 st) := cell_new (by simp) rfl
  have of8 : (w8.alloc (.cells #[.int .i64 mo0, .int .i64 mo1, .int .i64 me0, .int .i64 me1, .int .i64 ra, .int .i64 no, .int .i64 po, .int .i64 ce, .int .i64 st, .int .i64 du] 56)).frozen? ⟨w8.heap.size, 8, none⟩ = false := frozen_new (by simp)
  have o9 : (w8.alloc (.cells #[.int .i64 mo0, .int .i64 mo1, .int .i64 me0, .int .i64 me1, .int .i64 ra, .int .i64 no, .int .i64 po, .int .i64 ce, .int .i64 st, .int .i64 du] 56)).cell? ⟨w8.heap.size, 9, none⟩ = some (.int .i64 du) := cell_new (by simp) rfl
  have of9 : (w8.alloc (.cells #[.int .i64 mo0, .int .i64 mo1, .int .i64 me0, .int .i64 me1, .int .i64 ra, .int .i64 no, .int .i64 po, .int .i64 ce, .int .i64 st, .int .i64 du] 56)).frozen? ⟨w8.heap.size, 9, none⟩ = false := frozen_new (by simp)
  have zo : w8.heap.size < (w8.alloc (.cells #[.int .i64 mo0, .int .i64 mo1, .int .i64 me0, .int .i64 me1, .int .i64 ra, .int .i64 no, .int .i64 po, .int .i64 ce, .int .i64 st, .int .i64 du] 56)).heap.size := World.block_lt_of_cell? _ _ o0
  generalize (w8.alloc (.cells #[.int .i64 mo0, .int .i64 mo1, .int .i64 me0, .int .i64 me1, .int .i64 ra, .int .i64 no, .int .i64 po, .int .i64 ce, .int .i64 st, .int .i64 du] 56)) = w9 at *
  have q1 : w8.heap.size ≠ w.heap.size := by have := k8.size; omega
  have q2 : w8.heap.size ≠ w.heap.size + 1 := by omega
  have sle : w.heap.size ≤ w8.heap.size := k8.size
  have k9 : Below w.heap.size w w9 := (k8).trans ((hb9).mono (k8).size)
  replace r0 := cell_below' hb9 r0
  replace r1 := cell_below' hb9 r1
  replace r2 := cell_below' hb9 r2
  replace r3 := cell_below' hb9 r3
  replace r4 := cell_below' hb9 r4
  replace r5 := cell_below' hb9 r5
  replace r6 := cell_below' hb9 r6
  replace r7 := cell_below' hb9 r7
  replace r8 := cell_below' hb9 r8
  replace r9 := cell_below' hb9 r9
  replace zr := Nat.lt_of_lt_of_le zr (hb9).size
  replace x0 := cell_below' hb9 x0
  replace x1 := cell_below' hb9 x1
  replace x2 := cell_below' hb9 x2
  replace x3 := cell_below' hb9 x3
  replace zx := Nat.lt_of_lt_of_le zx (hb9).size
  clear hb9 k8
  generalize w8.heap.size = ob at *
  go_upto_region 22 with (fail)
  have ka : Below w.heap.size w ((((w9.setCell ⟨ob, 0, none⟩ (.int .i64 me0)).setCell ⟨ob, 1, none⟩ (.int .i64 me1)).setCell ⟨ob, 2, none⟩ (.int .i64 mo0)).setCell ⟨ob, 3, none⟩ (.int .i64 mo1)) := below_set _ (by simp; try omega) (below_set _ (by simp; try omega) (below_set _ (by simp; try omega) (below_set _ (by simp; try omega) (k9))))
  replace o0 : ((((w9.setCell ⟨ob, 0, none⟩ (.int .i64 me0)).setCell ⟨ob, 1, none⟩ (.int .i64 me1)).setCell ⟨ob, 2, none⟩ (.int .i64 mo0)).setCell ⟨ob, 3, none⟩ (.int .i64 mo1)).cell? ⟨ob, 0, none⟩ = some (.int .i64 me0) := cell_next (by decide) (cell_next (by decide) (cell_next (by decide) (cell_same (o0))))
  replace o1 : ((((w9.setCell ⟨ob, 0, none⟩ (.int .i64 me0)).setCell ⟨ob, 1, none⟩ (.int .i64 me1)).setCell ⟨ob, 2, none⟩ (.int .i64 mo0)).setCell ⟨ob, 3, none⟩ (.int .i64 mo1)).cell? ⟨ob, 1, none⟩ = some (.int .i64 me1) := cell_next (by decide) (cell_next (by decide) (cell_same (cell_next (by decide) (o1))))
  replace o2 : ((((w9.setCell ⟨ob, 0, none⟩ (.int .i64 me0)).setCell ⟨ob, 1, none⟩ (.int .i64 me1)).setCell ⟨ob, 2, none⟩ (.int .i64 mo0)).setCell ⟨ob, 3, none⟩ (.int .i64 mo1)).cell? ⟨ob, 2, none⟩ = some (.int .i64 mo0) := cell_next (by decide) (cell_same (cell_next (by decide) (cell_next (by decide) (o2))))
  replace o3 : ((((w9.setCell ⟨ob, 0, none⟩ (.int .i64 me0)).setCell ⟨ob, 1, none⟩ (.int .i64 me1)).setCell ⟨ob, 2, none⟩ (.int .i64 mo0)).setCell ⟨ob, 3, none⟩ (.int .i64 mo1)).cell? ⟨ob, 3, none⟩ = some (.int .i64 mo1) := cell_same (cell_next (by decide) (cell_next (by decide) (cell_next (by decide) (o3))))
  replace o4 := cell_next (i := 3) (u := .int .i64 mo1) (by decide) (cell_next (i := 2) (u := .int .i64 mo0) (by decide) (cell_next (i := 1) (u := .int .i64 me1) (by decide) (cell_next (i := 0) (u := .int .i64 me0) (by decide) (o4))))
  replace o5 := cell_next (i := 3) (u := .int .i64 mo1) (by decide) (cell_next (i := 2) (u := .int .i64 mo0) (by decide) (cell_next (i := 1) (u := .int .i64 me1) (by decide) (cell_next (i := 0) (u := .int .i64 me0) (by decide) (o5))))
  replace o6 := cell_next (i := 3) (u := .int .i64 mo1) (by decide) (cell_next (i := 2) (u := .int .i64 mo0) (by decide) (cell_next (i := 1) (u := .int .i64 me1) (by decide) (cell_next (i := 0) (u := .int .i64 me0) (by decide) (o6))))
  replace o7 := cell_next (i := 3) (u := .int .i64 mo1) (by decide) (cell_next (i := 2) (u := .int .i64 mo0) (by decide) (cell_next (i := 1) (u := .int .i64 me1) (by decide) (cell_next (i := 0) (u := .int .i64 me0) (by decide) (o7))))
  replace o8 := cell_next (i := 3) (u := .int .i64 mo1) (by decide) (cell_next (i := 2) (u := .int .i64 mo0) (by decide) (cell_next (i := 1) (u := .int .i64 me1) (by decide) (cell_next (i := 0) (u := .int .i64 me0) (by decide) (o8))))
  replace o9 := cell_next (i := 3) (u := .int .i64 mo1) (by decide) (cell_next (i := 2) (u := .int .i64 mo0) (by decide) (cell_next (i := 1) (u := .int .i64 me1) (by decide) (cell_next (i := 0) (u := .int .i64 me0) (by decide) (o9))))
  replace of0 := (show World.frozen? ((((w9.setCell ⟨ob, 0, none⟩ (.int .i64 me0)).setCell ⟨ob, 1, none⟩ (.int .i64 me1)).setCell ⟨ob, 2, none⟩ (.int .i64 mo0)).setCell ⟨ob, 3, none⟩ (.int .i64 mo1)) ⟨ob, 0, none⟩ = false from frozen_set _ _ (frozen_set _ _ (frozen_set _ _ (frozen_set _ _ (of0)))))
  replace of1 := (show World.frozen? ((((w9.setCell ⟨ob, 0, none⟩ (.int .i64 me0)).setCell ⟨ob, 1, none⟩ (.int .i64 me1)).setCell ⟨ob, 2, none⟩ (.int .i64 mo0)).setCell ⟨ob, 3, none⟩ (.int .i64 mo1)) ⟨ob, 1, none⟩ = false from frozen_set _ _ (frozen_set _ _ (frozen_set _ _ (frozen_set _ _ (of1)))))
  replace of2 := (show World.frozen? ((((w9.setCell ⟨ob, 0, none⟩ (.int .i64 me0)).setCell ⟨ob, 1, none⟩ (.int .i64 me1)).setCell ⟨ob, 2, none⟩ (.int .i64 mo0)).setCell ⟨ob, 3, none⟩ (.int .i64 mo1)) ⟨ob, 2, none⟩ = false from frozen_set _ _ (frozen_set _ _ (frozen_set _ _ (frozen_set _ _ (of2)))))
  replace of3 := (show World.frozen? ((((w9.setCell ⟨ob, 0, none⟩ (.int .i64 me0)).setCell ⟨ob, 1, none⟩ (.int .i64 me1)).setCell ⟨ob, 2, none⟩ (.int .i64 mo0)).setCell ⟨ob, 3, none⟩ (.int .i64 mo1)) ⟨ob, 3, none⟩ = false from frozen_set _ _ (frozen_set _ _ (frozen_set _ _ (frozen_set _ _ (of3)))))
  replace of4 := (show World.frozen? ((((w9.setCell ⟨ob, 0, none⟩ (.int .i64 me0)).setCell ⟨ob, 1, none⟩ (.int .i64 me1)).setCell ⟨ob, 2, none⟩ (.int .i64 mo0)).setCell ⟨ob, 3, none⟩ (.int .i64 mo1)) ⟨ob, 4, none⟩ = false from frozen_set _ _ (frozen_set _ _ (frozen_set _ _ (frozen_set _ _ (of4)))))
  replace of5 := (show World.frozen? ((((w9.setCell ⟨ob, 0, none⟩ (.int .i64 me0)).setCell ⟨ob, 1, none⟩ (.int .i64 me1)).setCell ⟨ob, 2, none⟩ (.int .i64 mo0)).setCell ⟨ob, 3, none⟩ (.int .i64 mo1)) ⟨ob, 5, none⟩ = false from frozen_set _ _ (frozen_set _ _ (frozen_set _ _ (frozen_set _ _ (of5)))))
  replace of6 := (show World.frozen? ((((w9.setCell ⟨ob, 0, none⟩ (.int .i64 me0)).setCell ⟨ob, 1, none⟩ (.int .i64 me1)).setCell ⟨ob, 2, none⟩ (.int .i64 mo0)).setCell ⟨ob, 3, none⟩ (.int .i64 mo1)) ⟨ob, 6, none⟩ = false from frozen_set _ _ (frozen_set _ _ (frozen_set _ _ (frozen_set _ _ (of6)))))
  replace of7 := (show World.frozen? ((((w9.setCell ⟨ob, 0, none⟩ (.int .i64 me0)).setCell ⟨ob, 1, none⟩ (.int .i64 me1)).setCell ⟨ob, 2, none⟩ (.int .i64 mo0)).setCell ⟨ob, 3, none⟩ (.int .i64 mo1)) ⟨ob, 7, none⟩ = false from frozen_set _ _ (frozen_set _ _ (frozen_set _ _ (frozen_set _ _ (of7)))))
  replace of8 := (show World.frozen? ((((w9.setCell ⟨ob, 0, none⟩ (.int .i64 me0)).setCell ⟨ob, 1, none⟩ (.int .i64 me1)).setCell ⟨ob, 2, none⟩ (.int .i64 mo0)).setCell ⟨ob, 3, none⟩ (.int .i64 mo1)) ⟨ob, 8, none⟩ = false from frozen_set _ _ (frozen_set _ _ (frozen_set _ _ (frozen_set _ _ (of8)))))
  replace of9 := (show World.frozen? ((((w9.setCell ⟨ob, 0, none⟩ (.int .i64 me0)).setCell ⟨ob, 1, none⟩ (.int .i64 me1)).setCell ⟨ob, 2, none⟩ (.int .i64 mo0)).setCell ⟨ob, 3, none⟩ (.int .i64 mo1)) ⟨ob, 9, none⟩ = false from frozen_set _ _ (frozen_set _ _ (frozen_set _ _ (frozen_set _ _ (of9)))))
  have hszQ : ((((w9.setCell ⟨ob, 0, none⟩ (.int .i64 me0)).setCell ⟨ob, 1, none⟩ (.int .i64 me1)).setCell ⟨ob, 2, none⟩ (.int .i64 mo0)).setCell ⟨ob, 3, none⟩ (.int .i64 mo1)).heap.size = w9.heap.size := by simp
  replace zo : ob < ((((w9.setCell ⟨ob, 0, none⟩ (.int .i64 me0)).setCell ⟨ob, 1, none⟩ (.int .i64 me1)).setCell ⟨ob, 2, none⟩ (.int .i64 mo0)).setCell ⟨ob, 3, none⟩ (.int .i64 mo1)).heap.size := by rw [hszQ]; exact zo
  replace x0 := cell_far (u := .int .i64 mo1) (q := ⟨ob, 3, none⟩) q2 (cell_far (u := .int .i64 mo0) (q := ⟨ob, 2, none⟩) q2 (cell_far (u := .int .i64 me1) (q := ⟨ob, 1, none⟩) q2 (cell_far (u := .int .i64 me0) (q := ⟨ob, 0, none⟩) q2 (x0))))
  replace x1 := cell_far (u := .int .i64 mo1) (q := ⟨ob, 3, none⟩) q2 (cell_far (u := .int .i64 mo0) (q := ⟨ob, 2, none⟩) q2 (cell_far (u := .int .i64 me1) (q := ⟨ob, 1, none⟩) q2 (cell_far (u := .int .i64 me0) (q := ⟨ob, 0, none⟩) q2 (x1))))
  replace x2 := cell_far (u := .int .i64 mo1) (q := ⟨ob, 3, none⟩) q2 (cell_far (u := .int .i64 mo0) (q := ⟨ob, 2, none⟩) q2 (cell_far (u := .int .i64 me1) (q := ⟨ob, 1, none⟩) q2 (cell_far (u := .int .i64 me0) (q := ⟨ob, 0, none⟩) q2 (x2))))
  replace x3 := cell_far (u := .int .i64 mo1) (q := ⟨ob, 3, none⟩) q2 (cell_far (u := .int .i64 mo0) (q := ⟨ob, 2, none⟩) q2 (cell_far (u := .int .i64 me1) (q := ⟨ob, 1, none⟩) q2 (cell_far (u := .int .i64 me0) (q := ⟨ob, 0, none⟩) q2 (x3))))
  replace zx := Nat.lt_of_lt_of_eq zx hszQ.symm
  clear hszQ k9
  generalize ((((w9.setCell ⟨ob, 0, none⟩ (.int .i64 me0)).setCell ⟨ob, 1, none⟩ (.int .i64 me1)).setCell ⟨ob, 2, none⟩ (.int .i64 mo0)).setCell ⟨ob, 3, none⟩ (.int .i64 mo1)) = wa at *
  go_wp2_with (fail)
  refine (A5.out _).mono ?_
  rintro e wb ⟨rfl, hbb⟩
  have kb := ka.trans (hbb.mono ka.size)
  clear A5
  obtain ⟨t0, t3⟩ := HBD.out
  have h4 : tg = 0 ∨ tg = 1 ∨ tg = 2 ∨ tg = 3 := by omega
  rcases h4 with rfl | rfl | rfl | rfl
  · have hx : exch 0 = 0 := rfl
    rw [hx]
    go_wp2_with (fail)
    go_ret
    exact ⟨rfl, (by repeat (first | assumption | exact Below.refl _ _ | refine Below.drew ?_ | (refine below_alloc _ ?_ ?_; focus (first | omega | (simp; done) | (simp; omega) | (simp at *; omega))) | (refine below_set _ ?_ ?_; focus (first | omega | (simp; done) | (simp; omega) | (simp at *; omega))) | refine below_drewN ?_ _ | (refine below_call (by assumption) ?_ ?_; focus (first | omega | (simp; done) | (simp; omega) | (simp at *; omega))) | (refine below_call' (by assumption) ?_ ?_; focus (first | omega | (simp; done) | (simp; omega) | (simp at *; omega)))))⟩
  · have hx : exch 1 = 2 := rfl
    rw [hx]
    go_wp2_with (fail)
    go_ret
    exact ⟨rfl, (by repeat (first | assumption | exact Below.refl _ _ | refine Below.drew ?_ | (refine below_alloc _ ?_ ?_; focus (first | omega | (simp; done) | (simp; omega) | (simp at *; omega))) | (refine below_set _ ?_ ?_; focus (first | omega | (simp; done) | (simp; omega) | (simp at *; omega))) | refine below_drewN ?_ _ | (refine below_call (by assumption) ?_ ?_; focus (first | omega | (simp; done) | (simp; omega) | (simp at *; omega))) | (refine below_call' (by assumption) ?_ ?_; focus (first | omega | (simp; done) | (simp; omega) | (simp at *; omega)))))⟩
  · have hx : exch 2 = 1 := rfl
    rw [hx]
    go_wp2_with (fail)
    go_ret
    exact ⟨rfl, (by repeat (first | assumption | exact Below.refl _ _ | refine Below.drew ?_ | (refine below_alloc _ ?_ ?_; focus (first | omega | (simp; done) | (simp; omega) | (simp at *; omega))) | (refine below_set _ ?_ ?_; focus (first | omega | (simp; done) | (simp; omega) | (simp at *; omega))) | refine below_drewN ?_ _ | (refine below_call (by assumption) ?_ ?_; focus (first | omega | (simp; done) | (simp; omega) | (simp at *; omega))) | (refine below_call' (by assumption) ?_ ?_; focus (first | omega | (simp; done) | (simp; omega) | (simp at *; omega)))))⟩
  · have hx : exch 3 = 3 := rfl
    rw [hx]
    go_wp2_with (fail)
    go_ret
    exact ⟨rfl, (by repeat (first | assumption | exact Below.refl _ _ | refine Below.drew ?_ | (refine below_alloc _ ?_ ?_; focus (first | omega | (simp; done) | (simp; omega) | (simp at *; omega))) | (refine below_set _ ?_ ?_; focus (first | omega | (simp; done) | (simp; omega) | (simp at *; omega))) | refine below_drewN ?_ _ | (refine below_call (by assumption) ?_ ?_; focus (first | omega | (simp; done) | (simp; omega) | (simp at *; omega))) | (refine below_call' (by assumption) ?_ ?_; focus (first | omega | (simp; done) | (simp; omega) | (simp at *; omega)))))⟩
end Go.Proofs.YtppghnbabnhnbaaDoor
