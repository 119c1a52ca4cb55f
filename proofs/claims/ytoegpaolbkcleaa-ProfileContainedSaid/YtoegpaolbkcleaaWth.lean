/-
  A profile with a further slab.
-/
import Derived.Test.YtoegpaolbkcleaaAgW
import Derived.Test.YtoegpaolbkcleaaFitP
namespace Go.Proofs.Ytoegpaolbkcleaa
open Go.ChangeShapes Go.WideShapes Go.ChangeAt Go.RowKit
set_option linter.unusedVariables false
set_option linter.unusedSimpArgs false

def WthPost (base : Int) (l : List Slb) (n : Nat) (f th : Int) (w : World) (e : Ending) (w' : World) : Prop :=
  ∃ A' c', e = .returned (.agg #[.int .i64 base, .slice A' (n + 1) c']) ∧ w'.ownsRow w.heap.size 45 2 (.slice A' (n + 1) c') (n + 1) (cellsOf 2 slbC (l ++ [⟨f * f, th⟩])) ∧ Below w.heap.size w w'
theorem own_set_ne {w : World} {base : Nat} {e : TypeId} {size : Nat} {v : Value} {n : Nat} {xs : List Value} (h : w.ownsRow base e size v n xs) {a : Addr} (ha : some a.block ≠ v.ownBlock) (u : Value) : (w.setCell a u).ownsRow base e size v n xs := by
  obtain ⟨h1, h2⟩ := h
  refine ⟨h1, ?_⟩
  rcases h2 with h2 | ⟨g, cap, cur, hv, hg, hh, r⟩
  · exact Or.inl h2
  · subst hv
    have hne : g ≠ a.block := fun e => ha (by rw [← e]; rfl)
    exact Or.inr ⟨g, cap, cur, rfl, hg, by rw [Go.RowKit.Below.heap_setCell _ _ _ _ hne]; exact hh, r⟩
set_option maxRecDepth 100000 in
set_option maxHeartbeats 2000000 in
theorem with_any (base : Int) (A : Option Addr) (l : List Slb) (n cap : Nat) (f th : Int) (w : World) (hn : l.length = n) (hl : l.length ≤ 100) (f0 : 0 ≤ f) (f1 : f ≤ 3000) (hA : SlabsAt w A l) :
    Calls Try.prog 86 #[.agg #[.int .i64 base, .slice A n cap], .int .i64 f, .int .i64 th] w (WthPost base l n f th w) := by
  have hq := sq_bd f f0 f1
  obtain ⟨hq0, hq1⟩ := hq
  have hcp : ∀ W, SlabsAt W A l → Calls Try.prog 17 #[.agg #[.int .i64 base, .slice A n cap]] W fun e w' => ∃ A' c', e = .returned (.agg #[.int .i64 base, .slice A' n c']) ∧ w'.ownsRow W.heap.size 45 2 (.slice A' n c') n (cellsOf 2 slbC l) ∧ Below W.heap.size W w' := fun W hW => by
    have h := Copy_any base A l cap W hl hW
    unfold CopyPost at h
    rwa [hn] at h
  have HCP := Lib.hid hcp
  have hn100 : n ≤ 100 := by omega
  clear hcp
  go_enter Try.func86, Try.ntmps86
  go_wp2_with (fail)
  refine (HCP.out _ (hA.below (by repeat (first | assumption | exact Below.refl _ _ | refine Below.drew ?_ | (refine below_alloc _ ?_ ?_; focus (first | omega | (simp; done) | (simp; omega) | (simp at *; omega))) | (refine below_set _ ?_ ?_; focus (first | omega | (simp; done) | (simp; omega) | (simp at *; omega))) | refine below_drewN ?_ _ | (refine below_call (by assumption) ?_ ?_; focus (first | omega | (simp; done) | (simp; omega) | (simp at *; omega))) | (refine below_call' (by assumption) ?_ ?_; focus (first | omega | (simp; done) | (simp; omega) | (simp at *; omega))))))).mono ?_
  rintro e w1 ⟨A1, c1, rfl, own1, hb1⟩
  have hz1 : w.heap.size + 1 < w1.heap.size := by have := hb1.size; simp at this; omega
  have x0 : w1.cell? ⟨w.heap.size + 1, 0, none⟩ = some (.int .i64 0) := cell_below' hb1 (by repeat (first | assumption | (refine cell_new ?_ rfl; focus (simp; done)) | refine cell_drew ?_ | refine cell_alloc _ ?_ | refine cell_drewN _ ?_ | (refine cell_far ?_ ?_; focus (first | omega | (simp; omega) | (simp; done))) | refine cell_below' (by assumption) ?_))
  have x1 : w1.cell? ⟨w.heap.size + 1, 1, none⟩ = some (.slice none 0 0) := cell_below' hb1 (by repeat (first | assumption | (refine cell_new ?_ rfl; focus (simp; done)) | refine cell_drew ?_ | refine cell_alloc _ ?_ | refine cell_drewN _ ?_ | (refine cell_far ?_ ?_; focus (first | omega | (simp; omega) | (simp; done))) | refine cell_below' (by assumption) ?_))
  have y0 : w1.frozen? ⟨w.heap.size + 1, 0, none⟩ = false := frozen_below hb1 (by simp) (by repeat (first | assumption | (refine frozen_new ?_; focus (simp; done)) | refine frozen_drew ?_ | (refine frozen_alloc _ ?_ ?_; focus (first | (simp; done) | (simp; omega))) | refine frozen_drewN _ ?_ | refine frozen_set _ _ ?_ | (refine frozen_below (by assumption) ?_ ?_; focus (first | (simp; done) | (simp; omega)))))
  have y1 : w1.frozen? ⟨w.heap.size + 1, 1, none⟩ = false := frozen_below hb1 (by simp) (by repeat (first | assumption | (refine frozen_new ?_; focus (simp; done)) | refine frozen_drew ?_ | (refine frozen_alloc _ ?_ ?_; focus (first | (simp; done) | (simp; omega))) | refine frozen_drewN _ ?_ | refine frozen_set _ _ ?_ | (refine frozen_below (by assumption) ?_ ?_; focus (first | (simp; done) | (simp; omega)))))
  have hbw1 : Below w.heap.size w w1 := (by repeat (first | assumption | exact Below.refl _ _ | refine Below.drew ?_ | (refine below_alloc _ ?_ ?_; focus (first | omega | (simp; done) | (simp; omega) | (simp at *; omega))) | (refine below_set _ ?_ ?_; focus (first | omega | (simp; done) | (simp; omega) | (simp at *; omega))) | refine below_drewN ?_ _ | (refine below_call (by assumption) ?_ ?_; focus (first | omega | (simp; done) | (simp; omega) | (simp at *; omega))) | (refine below_call' (by assumption) ?_ ?_; focus (first | omega | (simp; done) | (simp; omega) | (simp at *; omega)))))
  have own2 := own_mono own1 (show w.heap.size + 2 ≤ _ by simp)
  have hlt2 := own2.lt
  have hn1' : some (w.heap.size + 1) ≠ Value.ownBlock (.slice A1 n c1) := fun e => by have := hlt2 _ e.symm; omega
  have hn2' : some w1.heap.size ≠ Value.ownBlock (.slice A1 n c1) := fun e => by have := hlt2 _ e.symm; omega
  clear hb1 own1 hlt2
  go_wp2_with (at_builtin; refine wpList_appSlab _ rfl (.tmp 11) (.tmp 17) rfl (w.heap.size + 2) A1 n c1 (cellsOf 2 slbC l) rfl ((own2.alloc _).alloc _) (some ⟨w1.heap.size + 1, 0, none⟩) 1 1 (cellsOf 2 slbC [⟨f * f, th⟩]) rfl rfl (fun e => by cases e) (fun ad e => by cases e; exact RowsAt.news (rows_blk (blk_new (by simp)) rfl) (by decide)) (cellsOf_one slbC_one (by decide) _) (by omega) (by (first | omega | (simp; done) | (simp; omega) | (simp at *; omega))) ?_; intro A4 c5 w5 hown5 hg halt; rw [← cellsOf_append] at hown5; have hz5 := hg.size; simp at hz5; have hb5 : Below w.heap.size w w5 := below_own (below_alloc _ (by (first | omega | (simp; done) | (simp; omega) | (simp at *; omega))) (below_alloc _ (by (first | omega | (simp; done) | (simp; omega) | (simp at *; omega))) hbw1)) hg ((own2.alloc _).alloc _) (by omega) (by (first | omega | (simp; done) | (simp; omega) | (simp at *; omega))); have u0 := cell_grown hg (cell_alloc _ (cell_alloc _ x0)) hn1'; have u1 := cell_grown hg (cell_alloc _ (cell_alloc _ x1)) hn1'; have uy0 := frozen_grown hg (frozen_alloc _ (by (first | omega | (simp; done) | (simp; omega) | (simp at *; omega))) (frozen_alloc _ (by (first | omega | (simp; done) | (simp; omega) | (simp at *; omega))) y0)) (by (first | omega | (simp; done) | (simp; omega) | (simp at *; omega))) hn1'; have uy1 := frozen_grown hg (frozen_alloc _ (by (first | omega | (simp; done) | (simp; omega) | (simp at *; omega))) (frozen_alloc _ (by (first | omega | (simp; done) | (simp; omega) | (simp at *; omega))) y1)) (by (first | omega | (simp; done) | (simp; omega) | (simp at *; omega))) hn1'; have t0 : World.cell? w5 ⟨w1.heap.size, 0, none⟩ = some (.int .i64 base) := cell_grown hg (cell_alloc _ (cell_new rfl rfl)) hn2'; have t1 : World.cell? w5 ⟨w1.heap.size, 1, none⟩ = some (.slice A1 n c1) := cell_grown hg (cell_alloc _ (cell_new rfl rfl)) hn2'; have ty0 : World.frozen? w5 ⟨w1.heap.size, 0, none⟩ = false := frozen_grown hg (frozen_alloc _ (by (first | omega | (simp; done) | (simp; omega) | (simp at *; omega))) (frozen_new rfl)) (by (first | omega | (simp; done) | (simp; omega) | (simp at *; omega))) hn2'; have ty1 : World.frozen? w5 ⟨w1.heap.size, 1, none⟩ = false := frozen_grown hg (frozen_alloc _ (by (first | omega | (simp; done) | (simp; omega) | (simp at *; omega))) (frozen_new rfl)) (by (first | omega | (simp; done) | (simp; omega) | (simp at *; omega))) hn2'; have hz6 : w1.heap.size < w5.heap.size := (by omega); have hz7 : w.heap.size + 1 < w5.heap.size := (by omega); have hne1 : ¬ w1.heap.size = w.heap.size + 1 := (by omega); have hne2 : ¬ w.heap.size + 1 = w1.heap.size := (by omega); have hno : some w1.heap.size ≠ Value.ownBlock (.slice A4 (n + 1) c5) := (fun e => halt.elim (fun h => hn2' (e.trans h)) (fun h => by have := e.trans h; simp at this; omega)); clear hg halt own2 hn1' hn2')
  refine bodyPost_ret (v := .agg #[.int .i64 base, .slice A4 (n + 1) c5]) (by simp [results, Try.results86, go_sem, u0, u1, hz7]) rfl ⟨A4, c5, rfl, ?_, (by repeat (first | assumption | exact Below.refl _ _ | refine Below.drew ?_ | (refine below_alloc _ ?_ ?_; focus (first | omega | (simp; done) | (simp; omega) | (simp at *; omega))) | (refine below_set _ ?_ ?_; focus (first | omega | (simp; done) | (simp; omega) | (simp at *; omega))) | refine below_drewN ?_ _ | (refine below_call (by assumption) ?_ ?_; focus (first | omega | (simp; done) | (simp; omega) | (simp at *; omega))) | (refine below_call' (by assumption) ?_ ?_; focus (first | omega | (simp; done) | (simp; omega) | (simp at *; omega)))))⟩
  exact own_mono (ownsRow_setCell_below (ownsRow_setCell_below (own_set_ne hown5 hno _) (by simp) _) (by simp) _) (by omega)
end Go.Proofs.Ytoegpaolbkcleaa
