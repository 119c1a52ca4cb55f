/-
  Chapter 8: open, LevelFrom, OpeningsBound.
-/
import Derived.Test.YtcfbnmcdncndpaaWChk
namespace Go.Proofs.Ytcfbnmcdncndpaa
open Go.ChangeShapes Go.WideShapes Go.ChangeAt Go.RowKit
set_option linter.unusedVariables false
set_option linter.unusedSimpArgs false

theorem first2 (x y : Int) (b : Nat) (w : World) (hb : b < w.heap.size) (h0 : w.cell? ⟨b, 0, none⟩ = some (.int .i64 x)) (h1 : w.cell? ⟨b, 1, none⟩ = some (.int .i64 y)) :
    Calls Try.prog 84 #[.slice (some ⟨b, 0, none⟩) 2 2] w fun e w' => e = .returned (.int .i64 (firstE [x, y])) ∧ w = w' :=
  first_any _ [x, y] 2 w (by simp) (rows_lit _ hb fun k x hk => by
    match k with
    | 0 => simp at hk; subst hk; exact h0
    | 1 => simp at hk; subst hk; exact h1
    | k + 2 => simp at hk)
def chkRE (s : ByteArray) (u d : List Int) (hold : Int) : Int := (chkR s u d hold).2
set_option maxHeartbeats 1000000 in
theorem open_any (s : ByteArray) (A : Option Addr) (u : List Int) (ca : Nat) (B : Option Addr) (d : List Int) (cb : Nat) (hold : Int) (w : World) (hs : s.size ≤ 1000) (hu : u.length ≤ 100) (hd : d.length ≤ 100) (hA : IntsAt w A u) (hB : IntsAt w B d) :
    Calls Try.prog 89 #[.agg #[.string s, .slice A u.length ca, .slice B d.length cb, .int .i64 hold]] w fun e w' => e = .returned (.tuple #[.agg #[.string s, .slice A u.length ca, .slice B d.length cb, .int .i64 hold], .int .i64 (chkRE s u d hold)]) ∧ Below w.heap.size w w' := by
  go_enter Try.func89, Try.ntmps89
  go_wp2_with (fail)
  refine (CheckRules_any s A u ca B d cb hold _ hs hu hd (hA.below (by repeat (first | assumption | exact Below.refl _ _ | refine Below.drew ?_ | (refine below_alloc _ ?_ ?_; focus (first | omega | (simp; done) | (simp; omega) | (simp at *; omega))) | (refine below_set _ ?_ ?_; focus (first | omega | (simp; done) | (simp; omega) | (simp at *; omega))) | refine below_drewN ?_ _ | (refine below_call (by assumption) ?_ ?_; focus (first | omega | (simp; done) | (simp; omega) | (simp at *; omega))) | (refine below_call' (by assumption) ?_ ?_; focus (first | omega | (simp; done) | (simp; omega) | (simp at *; omega)))))) (hB.below (by repeat (first | assumption | exact Below.refl _ _ | refine Below.drew ?_ | (refine below_alloc _ ?_ ?_; focus (first | omega | (simp; done) | (simp; omega) | (simp at *; omega))) | (refine below_set _ ?_ ?_; focus (first | omega | (simp; done) | (simp; omega) | (simp at *; omega))) | refine below_drewN ?_ _ | (refine below_call (by assumption) ?_ ?_; focus (first | omega | (simp; done) | (simp; omega) | (simp at *; omega))) | (refine below_call' (by assumption) ?_ ?_; focus (first | omega | (simp; done) | (simp; omega) | (simp at *; omega))))))).mono ?_
  rintro e w1 ⟨rfl, hb1⟩
  have x0 : w1.cell? ⟨w.heap.size, 0, none⟩ = some (.string s) := cell_below' hb1 (cell_alloc _ (cell_new rfl rfl))
  have x1 : w1.cell? ⟨w.heap.size, 1, none⟩ = some (.slice A u.length ca) := cell_below' hb1 (cell_alloc _ (cell_new rfl rfl))
  have x2 : w1.cell? ⟨w.heap.size, 2, none⟩ = some (.slice B d.length cb) := cell_below' hb1 (cell_alloc _ (cell_new rfl rfl))
  have x3 : w1.cell? ⟨w.heap.size, 3, none⟩ = some (.int .i64 hold) := cell_below' hb1 (cell_alloc _ (cell_new rfl rfl))
  have y0 : w1.cell? ⟨w.heap.size + 1, 0, none⟩ = some (.string ⟨#[]⟩) := cell_below' hb1 (cell_new (by simp) rfl)
  have f0 : w1.frozen? ⟨w.heap.size + 1, 0, none⟩ = false := frozen_below hb1 (by simp) (frozen_new (by simp))
  have y1 : w1.cell? ⟨w.heap.size + 1, 1, none⟩ = some (.slice none 0 0) := cell_below' hb1 (cell_new (by simp) rfl)
  have f1 : w1.frozen? ⟨w.heap.size + 1, 1, none⟩ = false := frozen_below hb1 (by simp) (frozen_new (by simp))
  have y2 : w1.cell? ⟨w.heap.size + 1, 2, none⟩ = some (.slice none 0 0) := cell_below' hb1 (cell_new (by simp) rfl)
  have f2 : w1.frozen? ⟨w.heap.size + 1, 2, none⟩ = false := frozen_below hb1 (by simp) (frozen_new (by simp))
  have y3 : w1.cell? ⟨w.heap.size + 1, 3, none⟩ = some (.int .i64 0) := cell_below' hb1 (cell_new (by simp) rfl)
  have f3 : w1.frozen? ⟨w.heap.size + 1, 3, none⟩ = false := frozen_below hb1 (by simp) (frozen_new (by simp))
  have hz := hb1.size
  simp at hz
  have z0 : w.heap.size < w1.heap.size := by omega
  have z1 : w.heap.size + 1 < w1.heap.size := by omega
  have hbw : Below w.heap.size w w1 := (by repeat (first | assumption | exact Below.refl _ _ | refine Below.drew ?_ | (refine below_alloc _ ?_ ?_; focus (first | omega | (simp; done) | (simp; omega) | (simp at *; omega))) | (refine below_set _ ?_ ?_; focus (first | omega | (simp; done) | (simp; omega) | (simp at *; omega))) | refine below_drewN ?_ _ | (refine below_call (by assumption) ?_ ?_; focus (first | omega | (simp; done) | (simp; omega) | (simp at *; omega))) | (refine below_call' (by assumption) ?_ ?_; focus (first | omega | (simp; done) | (simp; omega) | (simp at *; omega)))))
  clear hb1 hz
  have hE : chkRE s u d hold = (chkR s u d hold).2 := rfl
  rw [← hE]
  clear hE
  generalize hQ : chkRE s u d hold = E
  have HQ := Lib.hid hQ
  clear hQ
  generalize (chkR s u d hold).1 = I at *
  go_wp2_with (fail)
  refine bodyPost_ret (v := .tuple #[.agg #[.string s, .slice A u.length ca, .slice B d.length cb, .int .i64 hold], .int .i64 E]) (by simp [results, Try.results89, go_sem, y0, y1, y2, y3, z1]) rfl ?_
  exact ⟨by rw [HQ.out], (by repeat (first | assumption | exact Below.refl _ _ | refine Below.drew ?_ | (refine below_alloc _ ?_ ?_; focus (first | omega | (simp; done) | (simp; omega) | (simp at *; omega))) | (refine below_set _ ?_ ?_; focus (first | omega | (simp; done) | (simp; omega) | (simp at *; omega))) | refine below_drewN ?_ _ | (refine below_call (by assumption) ?_ ?_; focus (first | omega | (simp; done) | (simp; omega) | (simp at *; omega))) | (refine below_call' (by assumption) ?_ ?_; focus (first | omega | (simp; done) | (simp; omega) | (simp at *; omega)))))⟩
theorem chkR_ok {s : ByteArray} {u d : List Int} {hold : Int} (h : chkRE s u d hold = 0) : 0 < u.length ∧ d.length = u.length ∧ u.length ≤ 4 := by
  unfold chkRE chkR at h
  by_cases hE : rulE0 s u.length d.length = 0
  · obtain ⟨-, a, b, c⟩ := rulE0_zero hE
    exact ⟨a, b, c⟩
  · rw [if_pos hE] at h; exact absurd h hE
set_option maxHeartbeats 1000000 in
theorem LevelFrom_any (s : ByteArray) (A : Option Addr) (u : List Int) (ca : Nat) (B : Option Addr) (d : List Int) (cb : Nat) (hold v : Int) (w : World) (hs : s.size ≤ 1000) (hu : u.length ≤ 100) (hd : d.length ≤ 100) (hA : IntsAt w A u) (hB : IntsAt w B d) :
    Calls Try.prog 19 #[.agg #[.string s, .slice A u.length ca, .slice B d.length cb, .int .i64 hold], .int .i64 v] w fun e w' => e = .returned (.tuple #[.int .i64 (if firstE [chkRE s u d hold, unl (withinB v (-1000000) 1000000) 2] = 0 then reach u v else 0), .int .i64 (firstE [chkRE s u d hold, unl (withinB v (-1000000) 1000000) 2])]) ∧ Below w.heap.size w w' := by
  by_cases hF : firstE [chkRE s u d hold, unl (withinB v (-1000000) 1000000) 2] = 0
  · rw [if_pos hF, hF]
    have HF := Lib.hid hF
    clear hF
    go_enter Try.func19, Try.ntmps19
    go_wp2_with (fail)
    refine (open_any s A u ca B d cb hold _ hs hu hd (hA.below (by repeat (first | assumption | exact Below.refl _ _ | refine Below.drew ?_ | (refine below_alloc _ ?_ ?_; focus (first | omega | (simp; done) | (simp; omega) | (simp at *; omega))) | (refine below_set _ ?_ ?_; focus (first | omega | (simp; done) | (simp; omega) | (simp at *; omega))) | refine below_drewN ?_ _ | (refine below_call (by assumption) ?_ ?_; focus (first | omega | (simp; done) | (simp; omega) | (simp at *; omega))) | (refine below_call' (by assumption) ?_ ?_; focus (first | omega | (simp; done) | (simp; omega) | (simp at *; omega)))))) (hB.below (by repeat (first | assumption | exact Below.refl _ _ | refine Below.drew ?_ | (refine below_alloc _ ?_ ?_; focus (first | omega | (simp; done) | (simp; omega) | (simp at *; omega))) | (refine below_set _ ?_ ?_; focus (first | omega | (simp; done) | (simp; omega) | (simp at *; omega))) | refine below_drewN ?_ _ | (refine below_call (by assumption) ?_ ?_; focus (first | omega | (simp; done) | (simp; omega) | (simp at *; omega))) | (refine below_call' (by assumption) ?_ ?_; focus (first | omega | (simp; done) | (simp; omega) | (simp at *; omega))))))).mono ?_
    rintro e w1 ⟨rfl, hb1⟩
    have hz := hb1.size
    simp at hz
    have z0 : w.heap.size < w1.heap.size := by omega
    have hbw : Below w.heap.size w w1 := (by repeat (first | assumption | exact Below.refl _ _ | refine Below.drew ?_ | (refine below_alloc _ ?_ ?_; focus (first | omega | (simp; done) | (simp; omega) | (simp at *; omega))) | (refine below_set _ ?_ ?_; focus (first | omega | (simp; done) | (simp; omega) | (simp at *; omega))) | refine below_drewN ?_ _ | (refine below_call (by assumption) ?_ ?_; focus (first | omega | (simp; done) | (simp; omega) | (simp at *; omega))) | (refine below_call' (by assumption) ?_ ?_; focus (first | omega | (simp; done) | (simp; omega) | (simp at *; omega)))))
    have hA1 := hA.below hbw
    clear hb1 hz hA hB
    go_wp2_with (first | (go_at_call 90; refine (valueErr_any _ _).mono ?_; rintro e w' ⟨rfl, rfl⟩) | (go_at_call 84; refine (first2 _ _ _ _ (by simp) (cell_new (by simp) rfl) (cell_new (by simp) rfl)).mono ?_; rintro e w' ⟨rfl, rfl⟩; rw [HF.out]))
    refine (reached_any A u ca v _ hu (hA1.below (by repeat (first | assumption | exact Below.refl _ _ | refine Below.drew ?_ | (refine below_alloc _ ?_ ?_; focus (first | omega | (simp; done) | (simp; omega) | (simp at *; omega))) | (refine below_set _ ?_ ?_; focus (first | omega | (simp; done) | (simp; omega) | (simp at *; omega))) | refine below_drewN ?_ _ | (refine below_call (by assumption) ?_ ?_; focus (first | omega | (simp; done) | (simp; omega) | (simp at *; omega))) | (refine below_call' (by assumption) ?_ ?_; focus (first | omega | (simp; done) | (simp; omega) | (simp at *; omega))))))).mono ?_
    rintro e w2 ⟨rfl, hb2⟩
    go_wp2_with (fail)
    go_ret2
    exact ⟨rfl, (by repeat (first | assumption | exact Below.refl _ _ | refine Below.drew ?_ | (refine below_alloc _ ?_ ?_; focus (first | omega | (simp; done) | (simp; omega) | (simp at *; omega))) | (refine below_set _ ?_ ?_; focus (first | omega | (simp; done) | (simp; omega) | (simp at *; omega))) | refine below_drewN ?_ _ | (refine below_call (by assumption) ?_ ?_; focus (first | omega | (simp; done) | (simp; omega) | (simp at *; omega))) | (refine below_call' (by assumption) ?_ ?_; focus (first | omega | (simp; done) | (simp; omega) | (simp at *; omega)))))⟩
  · rw [if_neg hF]
    have hF1 : (firstE [chkRE s u d hold, unl (withinB v (-1000000) 1000000) 2] == 0) = false := by simpa using hF
    have hF2 : (firstE [chkRE s u d hold, unl (withinB v (-1000000) 1000000) 2] != 0) = true := by simpa using hF
    generalize hQ : firstE [chkRE s u d hold, unl (withinB v (-1000000) 1000000) 2] = F at *
    have HF := Lib.hid hQ
    clear hF hQ
    go_enter Try.func19, Try.ntmps19
    go_wp2_with (fail)
    refine (open_any s A u ca B d cb hold _ hs hu hd (hA.below (by repeat (first | assumption | exact Below.refl _ _ | refine Below.drew ?_ | (refine below_alloc _ ?_ ?_; focus (first | omega | (simp; done) | (simp; omega) | (simp at *; omega))) | (refine below_set _ ?_ ?_; focus (first | omega | (simp; done) | (simp; omega) | (simp at *; omega))) | refine below_drewN ?_ _ | (refine below_call (by assumption) ?_ ?_; focus (first | omega | (simp; done) | (simp; omega) | (simp at *; omega))) | (refine below_call' (by assumption) ?_ ?_; focus (first | omega | (simp; done) | (simp; omega) | (simp at *; omega)))))) (hB.below (by repeat (first | assumption | exact Below.refl _ _ | refine Below.drew ?_ | (refine below_alloc _ ?_ ?_; focus (first | omega | (simp; done) | (simp; omega) | (simp at *; omega))) | (refine below_set _ ?_ ?_; focus (first | omega | (simp; done) | (simp; omega) | (simp at *; omega))) | refine below_drewN ?_ _ | (refine below_call (by assumption) ?_ ?_; focus (first | omega | (simp; done) | (simp; omega) | (simp at *; omega))) | (refine below_call' (by assumption) ?_ ?_; focus (first | omega | (simp; done) | (simp; omega) | (simp at *; omega))))))).mono ?_
    rintro e w1 ⟨rfl, hb1⟩
    have hz := hb1.size
    simp at hz
    have z0 : w.heap.size < w1.heap.size := by omega
    have hbw : Below w.heap.size w w1 := (by repeat (first | assumption | exact Below.refl _ _ | refine Below.drew ?_ | (refine below_alloc _ ?_ ?_; focus (first | omega | (simp; done) | (simp; omega) | (simp at *; omega))) | (refine below_set _ ?_ ?_; focus (first | omega | (simp; done) | (simp; omega) | (simp at *; omega))) | refine below_drewN ?_ _ | (refine below_call (by assumption) ?_ ?_; focus (first | omega | (simp; done) | (simp; omega) | (simp at *; omega))) | (refine below_call' (by assumption) ?_ ?_; focus (first | omega | (simp; done) | (simp; omega) | (simp at *; omega)))))
    have hA1 := hA.below hbw
    clear hb1 hz hA hB
    go_wp2_with (first | (go_at_call 90; refine (valueErr_any _ _).mono ?_; rintro e w' ⟨rfl, rfl⟩) | (go_at_call 84; refine (first2 _ _ _ _ (by simp) (cell_new (by simp) rfl) (cell_new (by simp) rfl)).mono ?_; rintro e w' ⟨rfl, rfl⟩; rw [HF.out]))
    go_ret2
    exact ⟨rfl, (by repeat (first | assumption | exact Below.refl _ _ | refine Below.drew ?_ | (refine below_alloc _ ?_ ?_; focus (first | omega | (simp; done) | (simp; omega) | (simp at *; omega))) | (refine below_set _ ?_ ?_; focus (first | omega | (simp; done) | (simp; omega) | (simp at *; omega))) | refine below_drewN ?_ _ | (refine below_call (by assumption) ?_ ?_; focus (first | omega | (simp; done) | (simp; omega) | (simp at *; omega))) | (refine below_call' (by assumption) ?_ ?_; focus (first | omega | (simp; done) | (simp; omega) | (simp at *; omega)))))⟩
end Go.Proofs.Ytcfbnmcdncndpaa
