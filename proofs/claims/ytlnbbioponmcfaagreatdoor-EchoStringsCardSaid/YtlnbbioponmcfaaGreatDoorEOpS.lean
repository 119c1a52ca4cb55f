/-
  Arguments opened: rules and echoes with their bounds, a string; what the listed variables give (rows of strings).
-/
import Derived.Test.YtlnbbioponmcfaaGreatDoorEOpR
import Derived.Test.YtlnbbioponmcfaaGreatDoorEOpn
import Derived.Test.YtlnbbioponmcfaaGreatDoorERuS
import Derived.Shelf.Vars
import Derived.Stop.LaidErr
import Derived.HandedShaped
import Derived.Lay
import Derived.ChangeMaps5
namespace Go.Proofs.YtlnbbioponmcfaaGreatDoor
open Go.ChangeShapes Go.WideShapes Go.ChangeAt Go.RowKit
set_option linter.unusedVariables false
set_option linter.unusedSimpArgs false

section
variable {H : Type} {enc : TypeId × Value → H} {W : World} {r : Reach} {b0 base0 : Nat} {held : Bool} {v : Value} {d : DataW H} {p : List MemPlace}
set_option maxRecDepth 100000 in
theorem trod_modesR {fuel : Nat} {c0 c1 c2 c3 : Value} {x : DataW H × List MemPlace} (ht : DataW.trod enc Tryz.prog W base0 (fun _ => true) held fuel 25 [c0, c1, c2, c3] = some x) : ∃ z0 z1 : Gs, c0 = .int .i64 z0.re ∧ c1 = .int .i64 z0.im ∧ c2 = .int .i64 z1.re ∧ c3 = .int .i64 z1.im ∧ I64 z0.re ∧ I64 z0.im ∧ I64 z1.re ∧ I64 z1.im := by
  have k : Tryz.prog.cellsOf 23 = 2 := by kernel_rfl
  obtain ⟨xs, n, _, hx, hl, hlen, hg⟩ := DataW.trod_struct Tryz.underlying25 ht
  match xs, hlen with
  | [y0, y1], _ =>
    have h0 : DataW.trod enc Tryz.prog W base0 (fun _ => true) held n 23 [c0, c1] = some y0 := by simpa [Value.cells, k] using hg 0 _ rfl
    have h1 : DataW.trod enc Tryz.prog W base0 (fun _ => true) held n 23 [c2, c3] = some y1 := by simpa [Value.cells, k] using hg 1 _ rfl
    obtain ⟨a0, a1, rfl, rfl, r0, r1⟩ := trod_gsR h0
    obtain ⟨a2, a3, rfl, rfl, r2, r3⟩ := trod_gsR h1
    exact ⟨⟨a0, a1⟩, ⟨a2, a3⟩, rfl, rfl, rfl, rfl, r0, r1, r2, r3⟩
set_option maxRecDepth 100000 in
theorem open_rulesR (hv : Value.okWide Tryz.prog W r b0 27 v) (h : DataW.Trod enc Tryz.prog W base0 (fun _ => true) held 27 v d p) : ∃ x : Ru, v = ruv x ∧ ∀ y ∈ ruL x, I64 y := by
  obtain ⟨cs, rfl, hsz⟩ := okWide_struct Tryz.underlying27 hv
  have hC : Tryz.prog.cellsOf 27 = 10 := by kernel_rfl
  have hM : Tryz.prog.cellsOf 25 = 4 := by kernel_rfl
  have hI : Tryz.prog.cellsOf 3 = 1 := by kernel_rfl
  rw [hC] at hsz
  obtain ⟨c0, c1, c2, c3, c4, c5, c6, c7, c8, c9, rfl⟩ := arr10 hsz
  obtain ⟨fuel, hf⟩ := h
  have hf' : DataW.trod enc Tryz.prog W base0 (fun _ => true) held fuel 27 [c0, c1, c2, c3, c4, c5, c6, c7, c8, c9] = some (d, p) := hf
  obtain ⟨xs, n, _, hx, hl, hlen, hg⟩ := DataW.trod_struct Tryz.underlying27 hf'
  match xs, hlen with
  | [y0, y1, y2, y3, y4, y5, y6], _ =>
    have h0 : DataW.trod enc Tryz.prog W base0 (fun _ => true) held n 25 [c0, c1, c2, c3] = some y0 := by simpa [Value.cells, hM] using hg 0 _ rfl
    obtain ⟨m0, m1, rfl, rfl, rfl, rfl, g0, g1, g2, g3⟩ := trod_modesR h0
    have h1 : DataW.trod enc Tryz.prog W base0 (fun _ => true) held n 3 [c4] = some y1 := by simpa [Value.cells, hI] using hg 1 _ rfl
    obtain ⟨a1, e1, _, f1⟩ := DataW.trod_int Tryz.underlying3 h1
    simp only [List.cons.injEq, and_true] at e1
    subst e1
    have h2 : DataW.trod enc Tryz.prog W base0 (fun _ => true) held n 3 [c5] = some y2 := by simpa [Value.cells, hI] using hg 2 _ rfl
    obtain ⟨a2, e2, _, f2⟩ := DataW.trod_int Tryz.underlying3 h2
    simp only [List.cons.injEq, and_true] at e2
    subst e2
    have h3 : DataW.trod enc Tryz.prog W base0 (fun _ => true) held n 3 [c6] = some y3 := by simpa [Value.cells, hI] using hg 3 _ rfl
    obtain ⟨a3, e3, _, f3⟩ := DataW.trod_int Tryz.underlying3 h3
    simp only [List.cons.injEq, and_true] at e3
    subst e3
    have h4 : DataW.trod enc Tryz.prog W base0 (fun _ => true) held n 3 [c7] = some y4 := by simpa [Value.cells, hI] using hg 4 _ rfl
    obtain ⟨a4, e4, _, f4⟩ := DataW.trod_int Tryz.underlying3 h4
    simp only [List.cons.injEq, and_true] at e4
    subst e4
    have h5 : DataW.trod enc Tryz.prog W base0 (fun _ => true) held n 3 [c8] = some y5 := by simpa [Value.cells, hI] using hg 5 _ rfl
    obtain ⟨a5, e5, _, f5⟩ := DataW.trod_int Tryz.underlying3 h5
    simp only [List.cons.injEq, and_true] at e5
    subst e5
    have h6 : DataW.trod enc Tryz.prog W base0 (fun _ => true) held n 3 [c9] = some y6 := by simpa [Value.cells, hI] using hg 6 _ rfl
    obtain ⟨a6, e6, _, f6⟩ := DataW.trod_int Tryz.underlying3 h6
    simp only [List.cons.injEq, and_true] at e6
    subst e6
    refine ⟨⟨m0, m1, a1, a2, a3, a4, a5, a6⟩, rfl, fun y hy => ?_⟩
    simp only [ruL, List.mem_cons, List.not_mem_nil, or_false] at hy
    rcases hy with rfl | rfl | rfl | rfl | rfl | rfl | rfl | rfl | rfl | rfl
    · exact g0
    · exact g1
    · exact g2
    · exact g3
    · exact n64_wf f1
    · exact n64_wf f2
    · exact n64_wf f3
    · exact n64_wf f4
    · exact n64_wf f5
    · exact n64_wf f6
set_option maxRecDepth 100000 in
theorem trod_it {fuel : Nat} {c0 c1 c2 c3 c4 : Value} {x : DataW H × List MemPlace} (ht : DataW.trod enc Tryz.prog W base0 (fun _ => true) held fuel 58 [c0, c1, c2, c3, c4] = some x) : ∃ z : It, c0 = .int .i64 z.l ∧ c1 = .int .i64 z.p ∧ c2 = .int .i64 z.t ∧ c3 = .int .i64 z.lo ∧ c4 = .int .i64 z.hi ∧ OkIt z := by
  have k : Tryz.prog.cellsOf 3 = 1 := by kernel_rfl
  have kR : Tryz.prog.cellsOf 56 = 2 := by kernel_rfl
  obtain ⟨xs, n, _, hx, hl, hlen, hg⟩ := DataW.trod_struct Tryz.underlying58 ht
  match xs, hlen with
  | [y0, y1, y2, y3], _ =>
    have h0 : DataW.trod enc Tryz.prog W base0 (fun _ => true) held n 3 [c0] = some y0 := by simpa [Value.cells, k] using hg 0 _ rfl
    have h1 : DataW.trod enc Tryz.prog W base0 (fun _ => true) held n 3 [c1] = some y1 := by simpa [Value.cells, k] using hg 1 _ rfl
    have h2 : DataW.trod enc Tryz.prog W base0 (fun _ => true) held n 3 [c2] = some y2 := by simpa [Value.cells, k] using hg 2 _ rfl
    have h3 : DataW.trod enc Tryz.prog W base0 (fun _ => true) held n 56 [c3, c4] = some y3 := by simpa [Value.cells, kR] using hg 3 _ rfl
    obtain ⟨z0, e0, _, f0⟩ := DataW.trod_int Tryz.underlying3 h0
    obtain ⟨z1, e1, _, f1⟩ := DataW.trod_int Tryz.underlying3 h1
    obtain ⟨z2, e2, _, f2⟩ := DataW.trod_int Tryz.underlying3 h2
    obtain ⟨xs', n', _, hx', hl', hlen', hg'⟩ := DataW.trod_struct Tryz.underlying56 h3
    match xs', hlen' with
    | [u0, u1], _ =>
      have q0 : DataW.trod enc Tryz.prog W base0 (fun _ => true) held n' 3 [c3] = some u0 := by simpa [Value.cells, k] using hg' 0 _ rfl
      have q1 : DataW.trod enc Tryz.prog W base0 (fun _ => true) held n' 3 [c4] = some u1 := by simpa [Value.cells, k] using hg' 1 _ rfl
      obtain ⟨z3, e3, _, f3⟩ := DataW.trod_int Tryz.underlying3 q0
      obtain ⟨z4, e4, _, f4⟩ := DataW.trod_int Tryz.underlying3 q1
      simp only [List.cons.injEq, and_true] at e0 e1 e2 e3 e4
      exact ⟨⟨z0, z1, z2, z3, z4⟩, e0, e1, e2, e3, e4, n64_wf f0, n64_wf f1, n64_wf f2, n64_wf f3, n64_wf f4⟩
theorem len5 {cs : List Value} (h : cs.length = 5) : ∃ c0 c1 c2 c3 c4, cs = [c0, c1, c2, c3, c4] := by
  match cs, h with
  | [c0, c1, c2, c3, c4], _ => exact ⟨c0, c1, c2, c3, c4, rfl⟩
theorem open_items {fuel : Nat} {cs : List Value} {x : DataW H × List MemPlace} (h : DataW.trod enc Tryz.prog W base0 (fun _ => true) held fuel 51 cs = some x) :
    ∃ (A : Option Addr) (l : List It) (cap : Nat), cs = [.slice A l.length cap] ∧ l.length ≤ cap ∧ ItsAt W A l ∧ ∀ y ∈ l, OkIt y := by
  have hC : Tryz.prog.cellsOf 58 = 5 := by kernel_rfl
  rcases Go.Deep.open_slice Tryz.underlying51 h with ⟨rfl, _⟩ | ⟨a, len, cap, m, n, D, Pl, rfl, hb, hl, hm, hmm, hx, hi⟩
  · exact ⟨none, [], 0, rfl, Nat.le_refl _, RowsAt.nil, fun y hy => (by cases hy)⟩
  · simp only [if_true] at hmm
    rw [hC] at hi
    obtain ⟨l, hlen, hq⟩ := exists_list len (Q := fun i (y : It) => W.cell? (a.add (i * 5)) = some (.int .i64 y.l) ∧ W.cell? (a.add (i * 5 + 1)) = some (.int .i64 y.p) ∧ W.cell? (a.add (i * 5 + 2)) = some (.int .i64 y.t) ∧ W.cell? (a.add (i * 5 + 3)) = some (.int .i64 y.lo) ∧ W.cell? (a.add (i * 5 + 4)) = some (.int .i64 y.hi) ∧ OkIt y) fun i hil => by
      obtain ⟨cs', hc, ht⟩ := hi i (by omega)
      obtain ⟨_, hcl, hat⟩ := World.cells?_some hc
      obtain ⟨c0, c1, c2, c3, c4, rfl⟩ := len5 hcl
      obtain ⟨z, rfl, rfl, rfl, rfl, rfl, hok⟩ := trod_it ht
      refine ⟨z, ?_, ?_, ?_, ?_, ?_, hok⟩
      · have := hat 0 (by omega)
        simpa [Go.Deep.add_add] using this
      · have := hat 1 (by omega)
        simpa [Go.Deep.add_add] using this
      · have := hat 2 (by omega)
        simpa [Go.Deep.add_add] using this
      · have := hat 3 (by omega)
        simpa [Go.Deep.add_add] using this
      · have := hat 4 (by omega)
        simpa [Go.Deep.add_add] using this
    refine ⟨some a, l, cap, by rw [hlen], by omega, rows_of (by decide) fun i hil j hj => ?_, fun y hy => ?_⟩
    · match j, hj with
      | 0, _ => exact (hq i hil).1
      | 1, _ => exact (hq i hil).2.1
      | 2, _ => exact (hq i hil).2.2.1
      | 3, _ => exact (hq i hil).2.2.2.1
      | 4, _ => exact (hq i hil).2.2.2.2.1
    · obtain ⟨i, hi2, rfl⟩ := List.getElem_of_mem hy
      exact (hq i hi2).2.2.2.2.2
set_option maxRecDepth 100000 in
theorem open_itemsArg (hv : Value.okWide Tryz.prog W r b0 51 v) (h : DataW.Trod enc Tryz.prog W base0 (fun _ => true) held 51 v d p) :
    ∃ (A : Option Addr) (l : List It) (cap : Nat), v = .slice A l.length cap ∧ l.length ≤ cap ∧ ItsAt W A l ∧ ∀ y ∈ l, OkIt y := by
  obtain ⟨a, len, cap, rfl⟩ := okWide_slice Tryz.underlying51 hv
  obtain ⟨fuel, hf⟩ := h
  obtain ⟨A, l, cap', e, h1, h2, h3⟩ := open_items hf
  have e2 : Value.slice a len cap = .slice A l.length cap' := by simpa [Value.cells] using e
  exact ⟨A, l, cap', e2, h1, h2, h3⟩
end
/-- what the rows of strings list -/
def laidS : List (String × DataW Unit) := [("math/bits.deBruijn32tab", Rows.laid_math_bits_deBruijn32tab), ("math/bits.deBruijn64tab", Rows.laid_math_bits_deBruijn64tab), ("internal/strconv.uint64pow10", Rows.laid_internal_strconv_uint64pow10), ("unicode/utf8.acceptRanges", Rows.laid_unicode_utf8_acceptRanges), ("strconv.ErrRange", Rows.laid_strconv_ErrRange), ("strconv.ErrSyntax", Rows.laid_strconv_ErrSyntax), ("unicode/utf8.first", Rows.laid_unicode_utf8_first)]
theorem errStar : "*" ++ "errors.errorString" = "*errors.errorString" := by decide
theorem errRow (u : TypeId) (h : Tryz.prog.typeName? 3 u = some "*errors.errorString") : u = 198 :=
  typeName_ptr_named (nm := "errors.errorString") (by rw [errStar]; kernel_rfl) (by kernel_rfl) (by decide) u (by rw [errStar]; exact h)
theorem errTypeR : (Tryz.prog.globals[1]?).map (·.type) = some 124 := by kernel_rfl
theorem errTypeS : (Tryz.prog.globals[0]?).map (·.type) = some 124 := by kernel_rfl
theorem errCells : Tryz.prog.cellsOf 200 = 1 := by kernel_rfl
theorem strCells : Tryz.prog.cellsOf 9 = 1 := by kernel_rfl
theorem gBru : Tryz.prog.globalNamed "math/bits.deBruijn64tab" = some 7 := by kernel_rfl
theorem gPowV : (Tryz.prog.globals[5]?).map (·.type) = some 202 := by kernel_rfl
theorem evn_of {W : World} (h : laidMetH Tryz.prog laidS W) (hS : W.ShapedOpen Tryz.prog) : Evn W.heap.size W := by
  rw [MakeChecks.laidMetH_plain _ _ _ (by kernel_rfl)] at h
  have h3 := h.tail.tail
  have ht : Tab W := by
    obtain ⟨ps, ⟨g2, t2, cs2, f2, p2, q2, hg2, ht2, hv2, hd2, _, _⟩, _, _⟩ := h3
    obtain rfl := Option.some.inj (gPow2.symm.trans hg2)
    obtain rfl := Option.some.inj (gPowV.symm.trans ht2)
    rw [pow_data] at hd2
    unfold Tab Lib.TabIs
    rw [hv2, ← Lib.cells_of_tab Tryz.underlying202 Tryz.underlying181 (by kernel_rfl) (by kernel_rfl) hd2]
  have h5 := h3.tail.tail
  obtain ⟨a1, s1, hv1, _, _, _⟩ := laid_sentinel h5 gRng errTypeR Tryz.underlying124 errRow Tryz.underlying198 Tryz.underlying200 rfl rfl Tryz.underlying9 errCells strCells
  obtain ⟨a2, s2, hv2, _, _, _⟩ := laid_sentinel h5.tail gSyn errTypeS Tryz.underlying124 errRow Tryz.underlying198 Tryz.underlying200 rfl rfl Tryz.underlying9 errCells strCells
  have hM := Go.Proofs.cell_of_shapedOpen_int (zero := #[.int .i64 0]) (t := 3) (g := 4) hS lt_globals.1 (by kernel_rfl) rfl (by kernel_rfl) (by kernel_rfl) Tryz.underlying3
  have hz : 7 < W.heap.size := by
    obtain ⟨ps, ⟨g2, t2, cs2, f2, p2, q2, hg2, ht2, hv2, hd2, _, _⟩, _, _⟩ := h.tail
    obtain rfl := Option.some.inj (gBru.symm.trans hg2)
    unfold World.var? at hv2
    rw [gBru] at hv2
    simp only [Option.bind_some] at hv2
    rcases Nat.lt_or_ge 7 W.heap.size with h' | h'
    · exact h'
    · rw [Array.getElem?_eq_none h'] at hv2; cases hv2
  have hg : Tryz.prog.globals.size ≤ 7 + 1 := of_decide_eq_true (by kernel_rfl)
  exact ⟨ht, hM, ⟨_, _, hv2⟩, ⟨_, _, hv1⟩, by omega⟩
theorem door_metS (os : Os) (args : Array Value) : laidMetH Tryz.prog laidS ((World.laidAll Tryz.prog os laidS).forCall (fun _ _ => 0) ⟨#[], args, []⟩).memory := by
  rw [MakeChecks.laidMetH_plain _ _ _ (by kernel_rfl)]
  exact laidMet_laidAll _ (by kernel_rfl) (by kernel_rfl)
/-- a row with listed variables, the world's shape kept -/
theorem returns_laid_shaped {H : Type} {enc : TypeId × Value → H} {a : Assume} {C : Checked} {os : Os} {f : FuncId} {fn : Func} {s : ChangeSpec} {conds : List PathCond} {apart fresh handsOn again : Bool} {X : World → Array Value → Prop}
    (hX : ∀ (w w' : World) (args : Array Value), w.heap = w'.heap → X w args → X w' args)
    (own : ownKnob C.prog.godebug = none) (started : os.Started) (noInit : C.prog.inits.idxOf? f = none) (hfn : C.prog.funcs[f]? = some fn)
    (witness : ∃ (w : World) (tape : Tape) (i : Input), w.os = os ∧ (w.forCall tape i).Shaped C.prog ∧ i.vars = [] ∧ Input.okWide C.prog (w.forCall tape i) .any w.heap.size f i ∧
      ((s.pre enc C.prog fn conds apart (w.forCall tape i).memory i.args ∧ X (w.forCall tape i).memory i.args) ∧ sizedMet enc C.prog fn (OpenSpec.ofChange s) apart (w.forCall tape i).memory i.args) ∧ a.holds C.prog (lone (Frame.enter C.prog f i.args .normal) [] (w.forCall tape i)))
    (contract : ∀ (W : World) (base : Nat) (args : Array Value) (ds gs : List (DataW H)) (before : List MemPlace),
      (∀ (j : Nat) t v, fn.params[j]? = some t → args[j]? = some v → Value.okWide C.prog W .any base t v) →
      DataW.Whole enc C.prog fn.params.toList s.vars apart W args.toList ds gs before → X W args → W.ShapedOpen C.prog →
      Calls C.prog f args W fun e W' => ∃ v, e = .returned v ∧ s.post enc C.prog fn apart fresh handsOn again W args v W') :
    ReturnsInHanded a C os f .any (fun w args => (s.pre enc C.prog fn conds apart w args ∧ X w args) ∧ sizedMet enc C.prog fn (OpenSpec.ofChange s) apart w args) (s.post enc C.prog fn apart fresh handsOn again) := by
  refine returnsInHanded_of_calls own started noInit witness ?_
  intro w tape i _ hsh _ hok hpre hholds
  obtain ⟨_, _, _, fn', hfn', _, _, _, _, hval⟩ := hok
  obtain rfl : fn' = fn := Option.some.inj (hfn'.symm.trans hfn)
  obtain ⟨⟨⟨ds, gs, before, hw, hc⟩, hx⟩, hz⟩ := hpre
  have hw' := DataW.Whole.of_heap (w' := w.forCall tape i) (by rfl) hw
  refine (contract (w.forCall tape i) w.heap.size i.args ds gs before hval hw' (hX _ _ _ (by rfl) hx) hsh).mono fun e W' ⟨v, he, hp⟩ => ?_
  subst he
  exact ChangeSpec.post_blind hp
end Go.Proofs.YtlnbbioponmcfaaGreatDoor
