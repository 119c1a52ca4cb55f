/-
  Chapter 8: CopyRules; the reference's LevelFrom, Openings; OpeningsBound.
-/
import Derived.Test.YtcfbnmcdncndpaaWSam
import Derived.Deep.RegionHeld3
namespace Go.Proofs.Ytcfbnmcdncndpaa
open Go.ChangeShapes Go.WideShapes Go.ChangeAt Go.RowKit
set_option linter.unusedVariables false
set_option linter.unusedSimpArgs false

theorem own_cap {w : World} {B : Nat} {e : TypeId} {size : Nat} {A : Option Addr} {m c n : Nat} {xs : List Value} (h : w.ownsRow B e size (.slice A m c) n xs) : n ≤ c := by
  obtain ⟨h1, h2⟩ := h
  rcases h2 with ⟨hv, hn, hx⟩ | ⟨g, cap, cur, hv, hg, hh, hle, r⟩
  · omega
  · injection hv with h3 h4 h5
    omega
abbrev rulV (nm : ByteArray) (A : Option Addr) (u : List Int) (ca : Nat) (B : Option Addr) (d : List Int) (cb : Nat) (hold : Int) : Value := .agg #[.string nm, .slice A u.length ca, .slice B d.length cb, .int .i64 hold]
def RulCopied (nm : ByteArray) (u d : List Int) (hold : Int) (w : World) (e : Ending) (w' : World) : Prop :=
  ∃ A' ca' B' cb', e = .returned (rulV nm A' u ca' B' d cb' hold) ∧ IntsAt w' A' u ∧ IntsAt w' B' d ∧ d.length ≤ cb' ∧ Below w.heap.size w w'
set_option maxRecDepth 100000 in
set_option maxHeartbeats 4000000 in
theorem CopyRules_any (nm : ByteArray) (A : Option Addr) (u : List Int) (ca : Nat) (B : Option Addr) (d : List Int) (cb : Nat) (hold : Int) (w : World) (hu : u.length ≤ 1000000) (hd : d.length ≤ 1000000) (hA : IntsAt w A u) (hB : IntsAt w B d) :
    Calls Try.prog 18 #[.agg #[.string nm, .slice A u.length ca, .slice B d.length cb, .int .i64 hold]] w (RulCopied nm u d hold w) := by
  go_enter Try.func18, Try.ntmps18
  go_wp2_with (fail)
  have hb0 : Below w.heap.size w ((w.alloc (.cells #[.string nm, .slice A u.length ca, .slice B d.length cb, .int .i64 hold] 24)).alloc (.cells #[.string ⟨#[]⟩, .slice none 0 0, .slice none 0 0, .int .i64 0] 24)) := (by repeat (first | assumption | exact Below.refl _ _ | refine Below.drew ?_ | (refine below_alloc _ ?_ ?_; focus (first | omega | (simp; done) | (simp; omega) | (simp at *; omega))) | (refine below_set _ ?_ ?_; focus (first | omega | (simp; done) | (simp; omega) | (simp at *; omega))) | refine below_drewN ?_ _ | (refine below_call (by assumption) ?_ ?_; focus (first | omega | (simp; done) | (simp; omega) | (simp at *; omega))) | (refine below_call' (by assumption) ?_ ?_; focus (first | omega | (simp; done) | (simp; omega) | (simp at *; omega)))))
  have hs0 : ((w.alloc (.cells #[.string nm, .slice A u.length ca, .slice B d.length cb, .int .i64 hold] 24)).alloc (.cells #[.string ⟨#[]⟩, .slice none 0 0, .slice none 0 0, .int .i64 0] 24)).heap.size = w.heap.size + 2 := by simp
  have x0 : ((w.alloc (.cells #[.string nm, .slice A u.length ca, .slice B d.length cb, .int .i64 hold] 24)).alloc (.cells #[.string ⟨#[]⟩, .slice none 0 0, .slice none 0 0, .int .i64 0] 24)).cell? ⟨w.heap.size, 0, none⟩ = some (.string nm) := (by repeat (first | assumption | (refine cell_new ?_ rfl; focus (simp; done)) | refine cell_drew ?_ | refine cell_alloc _ ?_ | refine cell_drewN _ ?_ | (refine cell_far ?_ ?_; focus (first | omega | (simp; omega) | (simp; done))) | refine cell_below' (by assumption) ?_))
  have x1 : ((w.alloc (.cells #[.string nm, .slice A u.length ca, .slice B d.length cb, .int .i64 hold] 24)).alloc (.cells #[.string ⟨#[]⟩, .slice none 0 0, .slice none 0 0, .int .i64 0] 24)).cell? ⟨w.heap.size, 1, none⟩ = some (.slice A u.length ca) := (by repeat (first | assumption | (refine cell_new ?_ rfl; focus (simp; done)) | refine cell_drew ?_ | refine cell_alloc _ ?_ | refine cell_drewN _ ?_ | (refine cell_far ?_ ?_; focus (first | omega | (simp; omega) | (simp; done))) | refine cell_below' (by assumption) ?_))
  have x2 : ((w.alloc (.cells #[.string nm, .slice A u.length ca, .slice B d.length cb, .int .i64 hold] 24)).alloc (.cells #[.string ⟨#[]⟩, .slice none 0 0, .slice none 0 0, .int .i64 0] 24)).cell? ⟨w.heap.size, 2, none⟩ = some (.slice B d.length cb) := (by repeat (first | assumption | (refine cell_new ?_ rfl; focus (simp; done)) | refine cell_drew ?_ | refine cell_alloc _ ?_ | refine cell_drewN _ ?_ | (refine cell_far ?_ ?_; focus (first | omega | (simp; omega) | (simp; done))) | refine cell_below' (by assumption) ?_))
  have x3 : ((w.alloc (.cells #[.string nm, .slice A u.length ca, .slice B d.length cb, .int .i64 hold] 24)).alloc (.cells #[.string ⟨#[]⟩, .slice none 0 0, .slice none 0 0, .int .i64 0] 24)).cell? ⟨w.heap.size, 3, none⟩ = some (.int .i64 hold) := (by repeat (first | assumption | (refine cell_new ?_ rfl; focus (simp; done)) | refine cell_drew ?_ | refine cell_alloc _ ?_ | refine cell_drewN _ ?_ | (refine cell_far ?_ ?_; focus (first | omega | (simp; omega) | (simp; done))) | refine cell_below' (by assumption) ?_))
  have y : ∀ j, j < 4 → ((w.alloc (.cells #[.string nm, .slice A u.length ca, .slice B d.length cb, .int .i64 hold] 24)).alloc (.cells #[.string ⟨#[]⟩, .slice none 0 0, .slice none 0 0, .int .i64 0] 24)).frozen? ⟨w.heap.size, j, none⟩ = false := fun j _ => (by repeat (first | assumption | (refine frozen_new ?_; focus (simp; done)) | refine frozen_drew ?_ | (refine frozen_alloc _ ?_ ?_; focus (first | (simp; done) | (simp; omega))) | refine frozen_drewN _ ?_ | refine frozen_set _ _ ?_ | (refine frozen_below (by assumption) ?_ ?_; focus (first | (simp; done) | (simp; omega)))))
  have z : ((w.alloc (.cells #[.string nm, .slice A u.length ca, .slice B d.length cb, .int .i64 hold] 24)).alloc (.cells #[.string ⟨#[]⟩, .slice none 0 0, .slice none 0 0, .int .i64 0] 24)).heap[w.heap.size + 1]? = some (.cells #[.string ⟨#[]⟩, .slice none 0 0, .slice none 0 0, .int .i64 0] 24) := (by repeat (first | assumption | (refine blk_new ?_; focus (simp; done)) | refine blk_drew ?_ | refine blk_alloc _ ?_ | refine blk_drewN _ ?_ | (refine blk_far _ ?_ ?_; focus (first | omega | (simp; omega) | (simp; done))) | refine blk_below' (by assumption) ?_))
  generalize ((w.alloc (.cells #[.string nm, .slice A u.length ca, .slice B d.length cb, .int .i64 hold] 24)).alloc (.cells #[.string ⟨#[]⟩, .slice none 0 0, .slice none 0 0, .int .i64 0] 24)) = w0 at *
  have HA0 := Lib.hid (hA.below hb0)
  have HB0 := Lib.hid (hB.below hb0)
  have HCA := Lib.hid (fun W (hW : IntsAt W A u) => CopyInts_any A u ca W hu hW)
  have HCB := Lib.hid (fun W (hW : IntsAt W B d) => CopyInts_any B d cb W hd hW)
  clear hA hB
  have y1 := y 1 (by omega)
  have y2 := y 2 (by omega)
  have zw : w.heap.size < w0.heap.size := by omega
  go_region_law (first | (go_simp; go_at_call 36; (with_reducible refine (HCA.out _ ?_).mono ?_); (focus (exact RowsAt.below HA0.out (by repeat (first | assumption | exact Below.refl _ _ | refine Below.drew ?_ | (refine below_alloc _ ?_ ?_; focus (first | omega | (simp; done) | (simp; omega) | (simp at *; omega))) | (refine below_set _ ?_ ?_; focus (first | omega | (simp; done) | (simp; omega) | (simp at *; omega))) | refine below_drewN ?_ _ | (refine below_call (by assumption) ?_ ?_; focus (first | omega | (simp; done) | (simp; omega) | (simp at *; omega))) | (refine below_call' (by assumption) ?_ ?_; focus (first | omega | (simp; done) | (simp; omega) | (simp at *; omega))))))); rintro e w1 ⟨A1, c1, rfl, own1, hb1⟩; have x21 := cell_below' hb1 (cell_drew x2)) | (go_simp; go_at_call 36; (with_reducible refine (HCB.out _ ?_).mono ?_); (focus (exact RowsAt.below HB0.out (by repeat (first | assumption | exact Below.refl _ _ | refine Below.drew ?_ | (refine below_alloc _ ?_ ?_; focus (first | omega | (simp; done) | (simp; omega) | (simp at *; omega))) | (refine below_set _ ?_ ?_; focus (first | omega | (simp; done) | (simp; omega) | (simp at *; omega))) | refine below_drewN ?_ _ | (refine below_call (by assumption) ?_ ?_; focus (first | omega | (simp; done) | (simp; omega) | (simp at *; omega))) | (refine below_call' (by assumption) ?_ ?_; focus (first | omega | (simp; done) | (simp; omega) | (simp at *; omega))))))); rintro e w2 ⟨A2, c2, rfl, own2, hb2⟩; have x22 := cell_below' hb2 x21; have x12 := cell_below' hb2 (cell_below' hb1 (cell_drew x1)); have y12 := frozen_below hb2 (Nat.lt_of_lt_of_le zw hb1.size) (frozen_below hb1 zw (frozen_drew y1)); have y22 := frozen_below hb2 (Nat.lt_of_lt_of_le zw hb1.size) (frozen_below hb1 zw (frozen_drew y2))))
  all_goals
    have hb01 : Below w.heap.size w w1 := (hb0.drew).trans (hb1.mono (by show w.heap.size ≤ w0.heap.size; omega))
    have hz1 := hb1.size
    have hz1' : w0.heap.size ≤ w1.heap.size := hz1
    have hz2 := hb2.size
    have hb02 : Below w.heap.size w w2 := hb01.trans (hb2.mono (by omega))
    have b1 : w2.heap[w.heap.size + 1]? = some (.cells #[.string ⟨#[]⟩, .slice none 0 0, .slice none 0 0, .int .i64 0] 24) := blk_below' hb2 (blk_below' hb1 (blk_drew z))
    have k0 : ((w2.setCell ⟨w.heap.size, 1, none⟩ (.slice A1 u.length c1)).setCell ⟨w.heap.size, 2, none⟩ (.slice A2 d.length c2)).cell? ⟨w.heap.size, 0, none⟩ = some (.string nm) := cell_next (by decide) (cell_next (by decide) (cell_below' hb2 (cell_below' hb1 (cell_drew x0))))
    have k1 : ((w2.setCell ⟨w.heap.size, 1, none⟩ (.slice A1 u.length c1)).setCell ⟨w.heap.size, 2, none⟩ (.slice A2 d.length c2)).cell? ⟨w.heap.size, 1, none⟩ = some (.slice A1 u.length c1) := cell_next (by decide) (cell_same x12)
    have k2 : ((w2.setCell ⟨w.heap.size, 1, none⟩ (.slice A1 u.length c1)).setCell ⟨w.heap.size, 2, none⟩ (.slice A2 d.length c2)).cell? ⟨w.heap.size, 2, none⟩ = some (.slice A2 d.length c2) := cell_same (cell_next (by decide) x22)
    have k3 : ((w2.setCell ⟨w.heap.size, 1, none⟩ (.slice A1 u.length c1)).setCell ⟨w.heap.size, 2, none⟩ (.slice A2 d.length c2)).cell? ⟨w.heap.size, 3, none⟩ = some (.int .i64 hold) := cell_next (by decide) (cell_next (by decide) (cell_below' hb2 (cell_below' hb1 (cell_drew x3))))
    have b2 : ((w2.setCell ⟨w.heap.size, 1, none⟩ (.slice A1 u.length c1)).setCell ⟨w.heap.size, 2, none⟩ (.slice A2 d.length c2)).heap[w.heap.size + 1]? = some (.cells #[.string ⟨#[]⟩, .slice none 0 0, .slice none 0 0, .int .i64 0] 24) := blk_far _ (by simp) (blk_far _ (by simp) b1)
    have n0 := blk_cell (j := 0) b2 rfl
    have n1 := blk_cell (j := 1) b2 rfl
    have n2 := blk_cell (j := 2) b2 rfl
    have n3 := blk_cell (j := 3) b2 rfl
    have m0 := blk_frozen (j := 0) b2
    have m1 := blk_frozen (j := 1) b2
    have m2 := blk_frozen (j := 2) b2
    have m3 := blk_frozen (j := 3) b2
    have hbV : Below w.heap.size w ((w2.setCell ⟨w.heap.size, 1, none⟩ (.slice A1 u.length c1)).setCell ⟨w.heap.size, 2, none⟩ (.slice A2 d.length c2)) := below_set _ (Nat.le_refl _) (below_set _ (Nat.le_refl _) hb02)
    have ra : IntsAt w2 A1 u := RowsAt.below (rowsAt_of_own (f := intC) own1 rfl (by decide)) hb2
    have rb : IntsAt w2 A2 d := rowsAt_of_own (f := intC) own2 rfl (by decide)
    have ow1 := own_blk (w' := ((w2.setCell ⟨w.heap.size, 1, none⟩ (.slice A1 u.length c1)).setCell ⟨w.heap.size, 2, none⟩ (.slice A2 d.length c2))) (own_below own1 hb2) (fun g o hg h _ => blk_far _ (by show g ≠ w.heap.size; have : w0.heap.size ≤ g := hg; omega) (blk_far _ (by show g ≠ w.heap.size; have : w0.heap.size ≤ g := hg; omega) h))
    have ow2 := own_blk (w' := ((w2.setCell ⟨w.heap.size, 1, none⟩ (.slice A1 u.length c1)).setCell ⟨w.heap.size, 2, none⟩ (.slice A2 d.length c2))) own2 (fun g o hg h _ => blk_far _ (by show g ≠ w.heap.size; omega) (blk_far _ (by show g ≠ w.heap.size; omega) h))
    have hcp := own_cap own2
    have hst := set4 (v0 := .string nm) (v1 := .slice A1 u.length c1) (v2 := .slice A2 d.length c2) (v3 := .int .i64 hold) n0 n1 n2 n3
    have hsz : w.heap.size + 1 < ((w2.setCell ⟨w.heap.size, 1, none⟩ (.slice A1 u.length c1)).setCell ⟨w.heap.size, 2, none⟩ (.slice A2 d.length c2)).heap.size := by simp; omega
    generalize ((w2.setCell ⟨w.heap.size, 1, none⟩ (.slice A1 u.length c1)).setCell ⟨w.heap.size, 2, none⟩ (.slice A2 d.length c2)) = v at *
    clear x12 x21 x22 y12 y22 x0 x1 x2 x3 b1 z
    go_wp2_with (fail)
    obtain ⟨s0, s1, s2, s3⟩ := hst
    have hbf : Below w.heap.size w ((((v.setCell ⟨w.heap.size + 1, 0, none⟩ (.string nm)).setCell ⟨w.heap.size + 1, 1, none⟩ (.slice A1 u.length c1)).setCell ⟨w.heap.size + 1, 2, none⟩ (.slice A2 d.length c2)).setCell ⟨w.heap.size + 1, 3, none⟩ (.int .i64 hold)) := below_set _ (by simp) (below_set _ (by simp) (below_set _ (by simp) (below_set _ (by simp) hbV)))
    have f1 := own_blk (w' := ((((v.setCell ⟨w.heap.size + 1, 0, none⟩ (.string nm)).setCell ⟨w.heap.size + 1, 1, none⟩ (.slice A1 u.length c1)).setCell ⟨w.heap.size + 1, 2, none⟩ (.slice A2 d.length c2)).setCell ⟨w.heap.size + 1, 3, none⟩ (.int .i64 hold))) ow1 (fun g o hg h _ => have h1 : g ≠ w.heap.size + 1 := (by have : w0.heap.size ≤ g := hg; omega); blk_far _ h1 (blk_far _ h1 (blk_far _ h1 (blk_far _ h1 h))))
    have f2 := own_blk (w' := ((((v.setCell ⟨w.heap.size + 1, 0, none⟩ (.string nm)).setCell ⟨w.heap.size + 1, 1, none⟩ (.slice A1 u.length c1)).setCell ⟨w.heap.size + 1, 2, none⟩ (.slice A2 d.length c2)).setCell ⟨w.heap.size + 1, 3, none⟩ (.int .i64 hold))) ow2 (fun g o hg h _ => have h1 : g ≠ w.heap.size + 1 := (by omega); blk_far _ h1 (blk_far _ h1 (blk_far _ h1 (blk_far _ h1 h))))
    generalize ((((v.setCell ⟨w.heap.size + 1, 0, none⟩ (.string nm)).setCell ⟨w.heap.size + 1, 1, none⟩ (.slice A1 u.length c1)).setCell ⟨w.heap.size + 1, 2, none⟩ (.slice A2 d.length c2)).setCell ⟨w.heap.size + 1, 3, none⟩ (.int .i64 hold)) = W9 at *
    refine bodyPost_ret (v := .agg #[.string nm, .slice A1 u.length c1, .slice A2 d.length c2, .int .i64 hold]) (by simp [results, Try.results18, go_sem, s0, s1, s2, s3]) rfl ?_
    exact ⟨A1, c1, A2, c2, rfl, rowsAt_of_own (f := intC) f1 rfl (by decide), rowsAt_of_own (f := intC) f2 rfl (by decide), hcp, hbf⟩
end Go.Proofs.Ytcfbnmcdncndpaa
