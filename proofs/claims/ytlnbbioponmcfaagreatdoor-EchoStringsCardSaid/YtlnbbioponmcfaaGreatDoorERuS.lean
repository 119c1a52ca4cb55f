/-
  Chapter 2: rules in words, and back.
-/
import Derived.Test.YtlnbbioponmcfaaGreatDoorStrG
import Derived.Test.YtlnbbioponmcfaaGreatDoorERul
namespace Go.Proofs.YtlnbbioponmcfaaGreatDoor
open Go.ChangeShapes Go.WideShapes Go.ChangeAt Go.RowKit
set_option linter.unusedVariables false
set_option linter.unusedSimpArgs false

def ruL (r : Ru) : List Int := [r.mo.re, r.mo.im, r.me.re, r.me.im, r.ra, r.no, r.po, r.ce, r.st, r.du]
def ruOf (l : List Int) : Ru := ⟨⟨l.getD 0 0, l.getD 1 0⟩, ⟨l.getD 2 0, l.getD 3 0⟩, l.getD 4 0, l.getD 5 0, l.getD 6 0, l.getD 7 0, l.getD 8 0, l.getD 9 0⟩
theorem ruOf_ruL (r : Ru) : ruOf (ruL r) = r := rfl
theorem ten {l : List Int} (h : l.length = 10) : ∃ a0 a1 a2 a3 a4 a5 a6 a7 a8 a9, l = [a0, a1, a2, a3, a4, a5, a6, a7, a8, a9] := by
  match l, h with
  | [a0, a1, a2, a3, a4, a5, a6, a7, a8, a9], _ => exact ⟨a0, a1, a2, a3, a4, a5, a6, a7, a8, a9, rfl⟩
/-- the pointers beside what they point to -/
def ptV (b : Nat) (vs : List Int) : List (Addr × Int) := vs.zipIdx.map fun x => (⟨b, x.2, none⟩, x.1)
theorem ptV_snd (b : Nat) (vs : List Int) : (ptV b vs).map (·.2) = vs := by
  unfold ptV
  rw [List.map_map]
  show vs.zipIdx.map (fun x => x.1) = vs
  exact List.zipIdx_map_fst 0 vs
theorem ptV_len (b : Nat) (vs : List Int) : (ptV b vs).length = vs.length := by simp [ptV]
theorem ptV_at {b : Nat} {vs : List Int} {k : Nat} {y : Addr × Int} (h : (ptV b vs)[k]? = some y) : ∃ hk : k < vs.length, y = (⟨b, k, none⟩, vs[k]) := by
  have hk : k < vs.length := by
    have := (List.getElem?_eq_some_iff.1 h).1
    rwa [ptV_len] at this
  refine ⟨hk, ?_⟩
  unfold ptV at h
  rw [List.getElem?_map, List.getElem?_zipIdx, List.getElem?_eq_getElem hk] at h
  simpa using h.symm
theorem PtAt.ptrs {w : World} {A : Option Addr} {b : Nat} {vs : List Int} (h : PtAt w A vs.length b) : PtrsAt w A (ptV b vs) := fun k y hk => by
  obtain ⟨hk2, rfl⟩ := ptV_at hk
  obtain ⟨ab, off, e, h1, h2, h3⟩ := h k hk2
  exact ⟨ab, off, e, h1, fun j hj => by obtain rfl : j = 0 := by omega
                                        simpa using h3⟩
theorem VsAt.pint {w : World} {b : Nat} {vs : List Int} (h : VsAt w b vs) (hs : ∀ x ∈ vs, I64 x) : ∀ y ∈ ptV b vs, PInt w y := fun y hy => by
  obtain ⟨k, hk, e⟩ := List.getElem_of_mem hy
  obtain ⟨hk2, rfl⟩ := ptV_at (List.getElem?_eq_some_iff.2 ⟨hk, e⟩)
  exact ⟨(h k hk2).1, hs _ (List.getElem_mem hk2), World.block_lt_of_cell? _ _ (h k hk2).1⟩
theorem words_at (A : Option Addr) (b : Nat) (vs : List Int) (cap : Nat) (w : World) (hl : vs.length ≤ 1000) (hs : ∀ x ∈ vs, I64 x) (hP : PtAt w A vs.length b) (hV : VsAt w b vs) (ht : Tab w) :
    Calls Tryz.prog 38 #[.slice A vs.length cap] w fun e w' => e = .returned (.string (wds vs)) ∧ Below w.heap.size w w' := by
  have h := words_any A (ptV b vs) cap w (by rw [ptV_len]; exact hl) (hV.pint hs) hP.ptrs ht
  rw [ptV_len, ptV_snd] at h
  exact h
set_option maxRecDepth 100000 in
set_option maxHeartbeats 4000000 in
theorem parts10_any (b : Nat) (v : Value) (w : World) (hz : b < w.heap.size) (i0 : w.cell? ⟨b, 0, none⟩ = some v) :
    Calls Tryz.prog 34 #[.pointer (some ⟨b, 0, none⟩)] w fun e w' => ∃ A', e = .returned (.slice A' 10 10) ∧ PtAt w' A' 10 b ∧ Below w.heap.size w w' := by
  go_enter Tryz.func34, Tryz.ntmps34
  go_wp2_with (fail)
  (refine region_extx 38 (by kernel_rfl) (by kernel_rfl) fun hx => ?_; simp only [List.take_succ_cons, List.take_zero, List.drop_succ_cons, List.drop_zero]; (repeat (any_goals (first | go_big_quiet_step (fail) | quiet_step (fail)))))
  (refine wpQuiet_nil ?_; clear hx; intro u; have hbw2 := ext_bel _ u; have hxw2 := ext_cell _ u; generalize ext _ u = w2 at *; clear u; have hsw2 := hbw2.size; (try simp at hsw2))
  go_wp2_with (fail)
  go_ret
  refine ⟨_, rfl, fun k hk => ⟨w2.heap.size, 0, rfl, by simp, by omega, ?_⟩, (hbw2.trans ((below_alloc _ (Nat.le_refl _) (Below.refl _ w2)).mono hsw2))⟩
  rcases k with _ | _ | _ | _ | _ | _ | _ | _ | _ | _ | k
  all_goals first | exact cell_new rfl rfl | omega
set_option maxRecDepth 100000 in
set_option maxHeartbeats 4000000 in
theorem parts5_any (b : Nat) (v : Value) (w : World) (hz : b < w.heap.size) (i0 : w.cell? ⟨b, 0, none⟩ = some v) :
    Calls Tryz.prog 50 #[.pointer (some ⟨b, 0, none⟩)] w fun e w' => ∃ A', e = .returned (.slice A' 5 5) ∧ PtAt w' A' 5 b ∧ Below w.heap.size w w' := by
  go_enter Tryz.func50, Tryz.ntmps50
  go_wp2_with (fail)
  (refine region_extx 17 (by kernel_rfl) (by kernel_rfl) fun hx => ?_; simp only [List.take_succ_cons, List.take_zero, List.drop_succ_cons, List.drop_zero]; (repeat (any_goals (first | go_big_quiet_step (fail) | quiet_step (fail)))))
  (refine wpQuiet_nil ?_; clear hx; intro u; have hbw2 := ext_bel _ u; have hxw2 := ext_cell _ u; generalize ext _ u = w2 at *; clear u; have hsw2 := hbw2.size; (try simp at hsw2))
  go_wp2_with (fail)
  go_ret
  refine ⟨_, rfl, fun k hk => ⟨w2.heap.size, 0, rfl, by simp, by omega, ?_⟩, (hbw2.trans ((below_alloc _ (Nat.le_refl _) (Below.refl _ w2)).mono hsw2))⟩
  rcases k with _ | _ | _ | _ | _ | k
  all_goals first | exact cell_new rfl rfl | omega
theorem vs10 {w : World} {b : Nat} {a0 a1 a2 a3 a4 a5 a6 a7 a8 a9 : Int} (h0 : w.cell? ⟨b, 0, none⟩ = some (.int .i64 a0)) (h1 : w.cell? ⟨b, 1, none⟩ = some (.int .i64 a1)) (h2 : w.cell? ⟨b, 2, none⟩ = some (.int .i64 a2)) (h3 : w.cell? ⟨b, 3, none⟩ = some (.int .i64 a3)) (h4 : w.cell? ⟨b, 4, none⟩ = some (.int .i64 a4)) (h5 : w.cell? ⟨b, 5, none⟩ = some (.int .i64 a5)) (h6 : w.cell? ⟨b, 6, none⟩ = some (.int .i64 a6)) (h7 : w.cell? ⟨b, 7, none⟩ = some (.int .i64 a7)) (h8 : w.cell? ⟨b, 8, none⟩ = some (.int .i64 a8)) (h9 : w.cell? ⟨b, 9, none⟩ = some (.int .i64 a9)) (hf : ∀ j, w.frozen? ⟨b, j, none⟩ = false) : VsAt w b [a0, a1, a2, a3, a4, a5, a6, a7, a8, a9] := fun k hk => by
  rcases k with _ | _ | _ | _ | _ | _ | _ | _ | _ | _ | k
  · exact ⟨h0, hf _⟩
  · exact ⟨h1, hf _⟩
  · exact ⟨h2, hf _⟩
  · exact ⟨h3, hf _⟩
  · exact ⟨h4, hf _⟩
  · exact ⟨h5, hf _⟩
  · exact ⟨h6, hf _⟩
  · exact ⟨h7, hf _⟩
  · exact ⟨h8, hf _⟩
  · exact ⟨h9, hf _⟩
  · simp at hk
    omega
set_option maxRecDepth 100000 in
set_option maxHeartbeats 4000000 in
theorem FormatRules_any (r : Ru) (w : World) (hs : ∀ x ∈ ruL r, I64 x) (ht : Tab w) :
    Calls Tryz.prog 8 #[ruv r] w fun e w' => e = .returned (.string (wds (ruL r))) ∧ Below w.heap.size w w' := by
  have HS := Lib.hid hs
  have HT := Lib.hid ht
  have HW := Lib.hid (fun A b cap W (hP : PtAt W A (ruL r).length b) (hV : VsAt W b (ruL r)) (ht : Tab W) => words_at A b (ruL r) cap W (show 10 ≤ 1000 by decide) HS.out hP hV ht)
  generalize wds (ruL r) = o at *
  clear hs ht
  obtain ⟨⟨a0, a1⟩, ⟨a2, a3⟩, a4, a5, a6, a7, a8, a9⟩ := r
  go_enter Tryz.func8, Tryz.ntmps8
  go_upto_region 1 with (fail)
  have hb1 : Below w.heap.size w (w.alloc (.cells #[.int .i64 a0, .int .i64 a1, .int .i64 a2, .int .i64 a3, .int .i64 a4, .int .i64 a5, .int .i64 a6, .int .i64 a7, .int .i64 a8, .int .i64 a9] 27)) := below_alloc _ (Nat.le_refl _) (Below.refl _ _)
  have x0 : (w.alloc (.cells #[.int .i64 a0, .int .i64 a1, .int .i64 a2, .int .i64 a3, .int .i64 a4, .int .i64 a5, .int .i64 a6, .int .i64 a7, .int .i64 a8, .int .i64 a9] 27)).cell? ⟨w.heap.size, 0, none⟩ = some (.int .i64 a0) := cell_new (by simp) rfl
  have xf0 : (w.alloc (.cells #[.int .i64 a0, .int .i64 a1, .int .i64 a2, .int .i64 a3, .int .i64 a4, .int .i64 a5, .int .i64 a6, .int .i64 a7, .int .i64 a8, .int .i64 a9] 27)).frozen? ⟨w.heap.size, 0, none⟩ = false := frozen_new (by simp)
  have x1 : (w.alloc (.cells #[.int .i64 a0, .int .i64 a1, .int .i64 a2, .int .i64 a3, .int .i64 a4, .int .i64 a5, .int .i64 a6, .int .i64 a7, .int .i64 a8, .int .i64 a9] 27)).cell? ⟨w.heap.size, 1, none⟩ = some (.int .i64 a1) := cell_new (by simp) rfl
  have xf1 : (w.alloc (.cells #[.int .i64 a0, .int .i64 a1, .int .i64 a2, .int .i64 a3, .int .i64 a4, .int .i64 a5, .int .i64 a6, .int .i64 a7, .int .i64 a8, .int .i64 a9] 27)).frozen? ⟨w.heap.size, 1, none⟩ = false := frozen_new (by simp)
  have x2 : (w.alloc (.cells #[.int .i64 a0, .int .i64 a1, .int .i64 a2, .int .i64 a3, .int .i64 a4, .int .i64 a5, .int .i64 a6, .int .i64 a7, .int .i64 a8, .int .i64 a9] 27)).cell? ⟨w.heap.size, 2, none⟩ = some (.int .i64 a2) := cell_new (by simp) rfl
  have xf2 : (w.alloc (.cells #[.int .i64 a0, .int .i64 a1, .int .i64 a2, .int .i64 a3, .int .i64 a4, .int .i64 a5, .int .i64 a6, .int .i64 a7, .int .i64 a8, .int .i64 a9] 27)).frozen? ⟨w.heap.size, 2, none⟩ = false := frozen_new (by simp)
  have x3 : (w.alloc (.cells #[.int .i64 a0, .int .i64 a1, .int .i64 a2, .int .i64 a3, .int .i64 a4, .int .i64 a5, .int .i64 a6, .int .i64 a7, .int .i64 a8, .int .i64 a9] 27)).cell? ⟨w.heap.size, 3, none⟩ = some (.int .i64 a3) := cell_new (by simp) rfl
  have xf3 : (w.alloc (.cells #[.int .i64 a0, .int .i64 a1, .int .i64 a2, .int .i64 a3, .int .i64 a4, .int .i64 a5, .int .i64 a6, .int .i64 a7, .int .i64 a8, .int .i64 a9] 27)).frozen? ⟨w.heap.size, 3, none⟩ = false := frozen_new (by simp)
  have x4 : (w.alloc (.cells #[.int .i64 a0, .int .i64 a1, .int .i64 a2, .int .i64 a3, .int .i64 a4, .int .i64 a5, .int .i64 a6, .int .i64 a7, .int .i64 a8, .int .i64 a9] 27)).cell? ⟨w.heap.size, 4, none⟩ = some (.int .i64 a4) := cell_new (by simp) rfl
  have xf4 : (w.alloc (.cells #[.int .i64 a0, .int .i64 a1, .int .i64 a2, .int .i64 a3, .int .i64 a4, .int .i64 a5, .int .i64 a6, .int .i64 a7, .int .i64 a8, .int .i64 a9] 27)).frozen? ⟨w.heap.size, 4, none⟩ = false := frozen_new (by simp)
  have x5 : (w.alloc (.cells #[.int .i64 a0, .int .i64 a1, .int .i64 a2, .int .i64 a3, .int .i64 a4, .int .i64 a5, .int .i64 a6, .int .i64 a7, .int .i64 a8, .int .i64 a9] 27)).cell? ⟨w.heap.size, 5, none⟩ = some (.int .i64 a5) := cell_new (by simp) rfl
  have xf5 : (w.alloc (.cells #[.int .i64 a0, .int .i64 a1, .int .i64 a2, .int .i64 a3, .int .i64 a4, .int .i64 a5, .int .i64 a6, .int .i64 a7, .int .i64 a8, .int .i64 a9] 27)).frozen? ⟨w.heap.size, 5, none⟩ = false := frozen_new (by simp)
  have x6 : (w.alloc (.cells #[.int .i64 a0, .int .i64 a1, .int .i64 a2, .int .i64 a3, .int .i64 a4, .int .i64 a5, .int .i64 a6, .int .i64 a7, .int .i64 a8, .int .i64 a9] 27)).cell? ⟨w.heap.size, 6, none⟩ = some (.int .i64 a6) := cell_new (by simp) rfl
  have xf6 : (w.alloc (.cells #[.int .i64 a0, .int .i64 a1, .int .i64 a2, .int .i64 a3, .int .i64 a4, .int .i64 a5, .int .i64 a6, .int .i64 a7, .int .i64 a8, .int .i64 a9] 27)).frozen? ⟨w.heap.size, 6, none⟩ = false := frozen_new (by simp)
  have x7 : (w.alloc (.cells #[.int .i64 a0, .int .i64 a1, .int .i64 a2, .int .i64 a3, .int .i64 a4, .int .i64 a5, .int .i64 a6, .int .i64 a7, .int .i64 a8, .int .i64 a9] 27)).cell? ⟨w.heap.size, 7, none⟩ = some (.int .i64 a7) := cell_new (by simp) rfl
  have xf7 : (w.alloc (.cells #[.int .i64 a0, .int .i64 a1, .int .i64 a2, .int .i64 a3, .int .i64 a4, .int .i64 a5, .int .i64 a6, .int .i64 a7, .int .i64 a8, .int .i64 a9] 27)).frozen? ⟨w.heap.size, 7, none⟩ = false := frozen_new (by simp)
  have x8 : (w.alloc (.cells #[.int .i64 a0, .int .i64 a1, .int .i64 a2, .int .i64 a3, .int .i64 a4, .int .i64 a5, .int .i64 a6, .int .i64 a7, .int .i64 a8, .int .i64 a9] 27)).cell? ⟨w.heap.size, 8, none⟩ = some (.int .i64 a8) := cell_new (by simp) rfl
  have xf8 : (w.alloc (.cells #[.int .i64 a0, .int .i64 a1, .int .i64 a2, .int .i64 a3, .int .i64 a4, .int .i64 a5, .int .i64 a6, .int .i64 a7, .int .i64 a8, .int .i64 a9] 27)).frozen? ⟨w.heap.size, 8, none⟩ = false := frozen_new (by simp)
  have x9 : (w.alloc (.cells #[.int .i64 a0, .int .i64 a1, .int .i64 a2, .int .i64 a3, .int .i64 a4, .int .i64 a5, .int .i64 a6, .int .i64 a7, .int .i64 a8, .int .i64 a9] 27)).cell? ⟨w.heap.size, 9, none⟩ = some (.int .i64 a9) := cell_new (by simp) rfl
  have xf9 : (w.alloc (.cells #[.int .i64 a0, .int .i64 a1, .int .i64 a2, .int .i64 a3, .int .i64 a4, .int .i64 a5, .int .i64 a6, .int .i64 a7, .int .i64 a8, .int .i64 a9] 27)).frozen? ⟨w.heap.size, 9, none⟩ = false := frozen_new (by simp)
  have xk : (w.alloc (.cells #[.int .i64 a0, .int .i64 a1, .int .i64 a2, .int .i64 a3, .int .i64 a4, .int .i64 a5, .int .i64 a6, .int .i64 a7, .int .i64 a8, .int .i64 a9] 27)).heap[w.heap.size]? = some (.cells #[.int .i64 a0, .int .i64 a1, .int .i64 a2, .int .i64 a3, .int .i64 a4, .int .i64 a5, .int .i64 a6, .int .i64 a7, .int .i64 a8, .int .i64 a9] 27) := blk_new (by simp)
  have zx : w.heap.size < (w.alloc (.cells #[.int .i64 a0, .int .i64 a1, .int .i64 a2, .int .i64 a3, .int .i64 a4, .int .i64 a5, .int .i64 a6, .int .i64 a7, .int .i64 a8, .int .i64 a9] 27)).heap.size := World.block_lt_of_cell? _ _ x0
  generalize (w.alloc (.cells #[.int .i64 a0, .int .i64 a1, .int .i64 a2, .int .i64 a3, .int .i64 a4, .int .i64 a5, .int .i64 a6, .int .i64 a7, .int .i64 a8, .int .i64 a9] 27)) = w1 at *
  have HV : Hid (VsAt w1 w.heap.size [a0, a1, a2, a3, a4, a5, a6, a7, a8, a9]) := Lib.hid (vs10 x0 x1 x2 x3 x4 x5 x6 x7 x8 x9 (fun j => blk_frozen xk))
  have HT1 := Lib.hid (HT.out.below hb1)
  have HP := Lib.hid (parts10_any w.heap.size _ w1 zx x0)
  clear x1 x2 x3 x4 x5 x6 x7 x8 x9 xf0 xf1 xf2 xf3 xf4 xf5 xf6 xf7 xf8 xf9 xk
  go_wp2_with (first
    | (go_at_call 34; refine HP.out.mono ?_; rintro e w2 ⟨A2, rfl, hP2, hb2⟩; have HV2 := Lib.hid (HV.out.below hb2); have HT2 := Lib.hid (HT1.out.below hb2); have hw2 : Below w.heap.size w w2 := hb1.trans (hb2.mono hb1.size); clear hb2 hb1 HV HT1 x0)
    | (go_at_call 38; refine (HW.out A2 w.heap.size 10 w2 hP2 HV2.out HT2.out).mono ?_; rintro e w3 ⟨rfl, hb3⟩; have hw3 : Below w.heap.size w w3 := hw2.trans (hb3.mono hw2.size)))
  go_ret
  exact ⟨rfl, hw3⟩
theorem ints_new {w : World} {b : Nat} {t : TypeId} {l : List Int} {cs : Array Value} (h : w.heap[b]? = some (.cells cs t)) (hc : ∀ (k : Nat) (x : Int), l[k]? = some x → cs[k]? = some (Value.int .i64 x)) : IntsAt w (some ⟨b, 0, none⟩) l := fun k x hk =>
  ⟨b, 0, rfl, (Array.getElem?_eq_some_iff.1 h).1, fun j hj => by
    obtain rfl : j = 0 := by omega
    have := blk_cell h (hc k x hk)
    simpa using this⟩
set_option maxRecDepth 100000 in
set_option maxHeartbeats 4000000 in
theorem RFormatRules_any (r : Ru) (w : World) (hs : ∀ x ∈ ruL r, I64 x) :
    Calls Tryz.prog 24 #[ruv r] w fun e w' => e = .returned (.string (wds (ruL r))) ∧ Below w.heap.size w w' := by
  have HS := Lib.hid hs
  have HW := Lib.hid (fun A cap W (hA : IntsAt W A (ruL r)) => Rnumbers_any A (ruL r) cap W (show 10 ≤ 1000 by decide) HS.out hA)
  generalize wds (ruL r) = o at *
  clear hs
  obtain ⟨⟨a0, a1⟩, ⟨a2, a3⟩, a4, a5, a6, a7, a8, a9⟩ := r
  go_enter Tryz.func24, Tryz.ntmps24
  go_upto_region 1 with (fail)
  have hb1 : Below w.heap.size w (w.alloc (.cells #[.int .i64 a0, .int .i64 a1, .int .i64 a2, .int .i64 a3, .int .i64 a4, .int .i64 a5, .int .i64 a6, .int .i64 a7, .int .i64 a8, .int .i64 a9] 27)) := below_alloc _ (Nat.le_refl _) (Below.refl _ _)
  have x0 : (w.alloc (.cells #[.int .i64 a0, .int .i64 a1, .int .i64 a2, .int .i64 a3, .int .i64 a4, .int .i64 a5, .int .i64 a6, .int .i64 a7, .int .i64 a8, .int .i64 a9] 27)).cell? ⟨w.heap.size, 0, none⟩ = some (.int .i64 a0) := cell_new (by simp) rfl
  have x1 : (w.alloc (.cells #[.int .i64 a0, .int .i64 a1, .int .i64 a2, .int .i64 a3, .int .i64 a4, .int .i64 a5, .int .i64 a6, .int .i64 a7, .int .i64 a8, .int .i64 a9] 27)).cell? ⟨w.heap.size, 1, none⟩ = some (.int .i64 a1) := cell_new (by simp) rfl
  have x2 : (w.alloc (.cells #[.int .i64 a0, .int .i64 a1, .int .i64 a2, .int .i64 a3, .int .i64 a4, .int .i64 a5, .int .i64 a6, .int .i64 a7, .int .i64 a8, .int .i64 a9] 27)).cell? ⟨w.heap.size, 2, none⟩ = some (.int .i64 a2) := cell_new (by simp) rfl
  have x3 : (w.alloc (.cells #[.int .i64 a0, .int .i64 a1, .int .i64 a2, .int .i64 a3, .int .i64 a4, .int .i64 a5, .int .i64 a6, .int .i64 a7, .int .i64 a8, .int .i64 a9] 27)).cell? ⟨w.heap.size, 3, none⟩ = some (.int .i64 a3) := cell_new (by simp) rfl
  have x4 : (w.alloc (.cells #[.int .i64 a0, .int .i64 a1, .int .i64 a2, .int .i64 a3, .int .i64 a4, .int .i64 a5, .int .i64 a6, .int .i64 a7, .int .i64 a8, .int .i64 a9] 27)).cell? ⟨w.heap.size, 4, none⟩ = some (.int .i64 a4) := cell_new (by simp) rfl
  have x5 : (w.alloc (.cells #[.int .i64 a0, .int .i64 a1, .int .i64 a2, .int .i64 a3, .int .i64 a4, .int .i64 a5, .int .i64 a6, .int .i64 a7, .int .i64 a8, .int .i64 a9] 27)).cell? ⟨w.heap.size, 5, none⟩ = some (.int .i64 a5) := cell_new (by simp) rfl
  have x6 : (w.alloc (.cells #[.int .i64 a0, .int .i64 a1, .int .i64 a2, .int .i64 a3, .int .i64 a4, .int .i64 a5, .int .i64 a6, .int .i64 a7, .int .i64 a8, .int .i64 a9] 27)).cell? ⟨w.heap.size, 6, none⟩ = some (.int .i64 a6) := cell_new (by simp) rfl
  have x7 : (w.alloc (.cells #[.int .i64 a0, .int .i64 a1, .int .i64 a2, .int .i64 a3, .int .i64 a4, .int .i64 a5, .int .i64 a6, .int .i64 a7, .int .i64 a8, .int .i64 a9] 27)).cell? ⟨w.heap.size, 7, none⟩ = some (.int .i64 a7) := cell_new (by simp) rfl
  have x8 : (w.alloc (.cells #[.int .i64 a0, .int .i64 a1, .int .i64 a2, .int .i64 a3, .int .i64 a4, .int .i64 a5, .int .i64 a6, .int .i64 a7, .int .i64 a8, .int .i64 a9] 27)).cell? ⟨w.heap.size, 8, none⟩ = some (.int .i64 a8) := cell_new (by simp) rfl
  have x9 : (w.alloc (.cells #[.int .i64 a0, .int .i64 a1, .int .i64 a2, .int .i64 a3, .int .i64 a4, .int .i64 a5, .int .i64 a6, .int .i64 a7, .int .i64 a8, .int .i64 a9] 27)).cell? ⟨w.heap.size, 9, none⟩ = some (.int .i64 a9) := cell_new (by simp) rfl
  have zx : w.heap.size < (w.alloc (.cells #[.int .i64 a0, .int .i64 a1, .int .i64 a2, .int .i64 a3, .int .i64 a4, .int .i64 a5, .int .i64 a6, .int .i64 a7, .int .i64 a8, .int .i64 a9] 27)).heap.size := World.block_lt_of_cell? _ _ x0
  generalize (w.alloc (.cells #[.int .i64 a0, .int .i64 a1, .int .i64 a2, .int .i64 a3, .int .i64 a4, .int .i64 a5, .int .i64 a6, .int .i64 a7, .int .i64 a8, .int .i64 a9] 27)) = w1 at *
  go_upto_region 2 with (fail)
  have hb2 : Below w1.heap.size w1 (w1.alloc (.cells #[.int .i64 a0, .int .i64 a1, .int .i64 a2, .int .i64 a3] 25)) := below_alloc _ (Nat.le_refl _) (Below.refl _ _)
  have m0 : (w1.alloc (.cells #[.int .i64 a0, .int .i64 a1, .int .i64 a2, .int .i64 a3] 25)).cell? ⟨w1.heap.size, 0, none⟩ = some (.int .i64 a0) := cell_new (by simp) rfl
  have m1 : (w1.alloc (.cells #[.int .i64 a0, .int .i64 a1, .int .i64 a2, .int .i64 a3] 25)).cell? ⟨w1.heap.size, 1, none⟩ = some (.int .i64 a1) := cell_new (by simp) rfl
  have m2 : (w1.alloc (.cells #[.int .i64 a0, .int .i64 a1, .int .i64 a2, .int .i64 a3] 25)).cell? ⟨w1.heap.size, 2, none⟩ = some (.int .i64 a2) := cell_new (by simp) rfl
  have m3 : (w1.alloc (.cells #[.int .i64 a0, .int .i64 a1, .int .i64 a2, .int .i64 a3] 25)).cell? ⟨w1.heap.size, 3, none⟩ = some (.int .i64 a3) := cell_new (by simp) rfl
  have zm : w1.heap.size < (w1.alloc (.cells #[.int .i64 a0, .int .i64 a1, .int .i64 a2, .int .i64 a3] 25)).heap.size := World.block_lt_of_cell? _ _ m0
  generalize (w1.alloc (.cells #[.int .i64 a0, .int .i64 a1, .int .i64 a2, .int .i64 a3] 25)) = w2 at *
  have h2 : Below w.heap.size w w2 := (hb1).trans ((hb2).mono (hb1).size)
  replace x0 := cell_below' hb2 x0
  replace x1 := cell_below' hb2 x1
  replace x2 := cell_below' hb2 x2
  replace x3 := cell_below' hb2 x3
  replace x4 := cell_below' hb2 x4
  replace x5 := cell_below' hb2 x5
  replace x6 := cell_below' hb2 x6
  replace x7 := cell_below' hb2 x7
  replace x8 := cell_below' hb2 x8
  replace x9 := cell_below' hb2 x9
  replace zx := Nat.lt_of_lt_of_le zx (hb2).size
  clear hb2 hb1
  go_wp2_with (go_at_call 58; refine (HW.out _ 10 _ (ints_new (blk_new rfl) (fun k x hk => by
    rcases k with _ | _ | _ | _ | _ | _ | _ | _ | _ | _ | k
    all_goals first | (cases hk; rfl) | (exfalso; have := (List.getElem?_eq_some_iff.1 hk).1; simp [ruL] at this; omega)))).mono ?_; rintro e w3 ⟨rfl, hb3⟩; have hw3 : Below w.heap.size w w3 := (below_alloc _ (by have := h2.size; omega) h2).trans (hb3.mono (by have := h2.size; simp; omega)))
  go_ret
  exact ⟨rfl, hw3⟩
/-- the rules of a string, or the error -/
def ruZ : Ru := ⟨⟨0, 0⟩, ⟨0, 0⟩, 0, 0, 0, 0, 0, 0⟩
def rusQ (s : ByteArray) : Ru × Int := match parsQ 10 10 s with
  | none => (ruZ, 7)
  | some l => if ruE (ruOf l) = 0 then (ruOf l, 0) else (ruZ, ruE (ruOf l))
end Go.Proofs.YtlnbbioponmcfaaGreatDoor
