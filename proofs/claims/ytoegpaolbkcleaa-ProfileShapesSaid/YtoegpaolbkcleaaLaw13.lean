/-
  The walk of ProfileShapes.
-/
import Derived.Test.YtoegpaolbkcleaaLay
import Derived.Test.YtoegpaolbkcleaaRJn
import Derived.Test.YtoegpaolbkcleaaAwk
import Derived.Deep.RegionHeld3
namespace Go.Proofs.Ytoegpaolbkcleaa
open Go.ChangeShapes Go.WideShapes Go.ChangeAt Go.RowKit
set_option linter.unusedVariables false
set_option linter.unusedSimpArgs false

theorem lays_len (l : List Slb) : (lays l).length ≤ l.length := by
  rw [← lays_eq]
  exact layR_len l l.length
theorem jnStep_len' (out : List Slb) (x : Slb) : (jnStep out x).length ≤ out.length + 1 := by
  unfold jnStep
  split
  · omega
  · rcases snoc_cases out with rfl | ⟨i, y, rfl⟩
    · simp [jnAdd_nil]
    · rw [jnAdd_snoc]
      split <;> simp
theorem jnGo_len2 : ∀ (r out : List Slb), (jnGo r out).length ≤ out.length + r.length
  | [], out => by simp [jnGo]
  | x :: r, out => by
    have h1 := jnStep_len' out x
    have h2 := jnGo_len2 r (jnStep out x)
    simp only [jnGo, List.length_cons]
    omega
theorem jnGo_len' (l : List Slb) : (jnd l).length ≤ l.length + 1 := by
  have := jnGo_len2 l []
  simp only [List.length_nil, Nat.zero_add] at this
  unfold jnd
  split
  · simp; omega
  · omega
set_option maxRecDepth 100000 in
set_option maxHeartbeats 4000000 in
theorem ProfileShapes_any (base : Int) (A : Option Addr) (l : List Slb) (cap : Nat) (w : World) (hcap : l.length ≤ cap) (hA : SlabsAt w A l) :
    Calls Try.prog 13 #[.agg #[.int .i64 base, .slice A l.length cap]] w fun e w' => e = .returned (.bool true) ∧ Below w.heap.size w w' := by
  go_enter Try.func13, Try.ntmps13
  go_wp2_with (fail)
  refine (awake_any _).mono ?_
  rintro e w1 ⟨rfl, hb1⟩
  have hz1 : w.heap.size < w1.heap.size := by have := hb1.size; simp at this; omega
  have a0 : w1.cell? ⟨w.heap.size, 0, none⟩ = some (.int .i64 base) := cell_below' hb1 (by repeat (first | assumption | (refine cell_new ?_ rfl; focus (simp; done)) | refine cell_drew ?_ | refine cell_alloc _ ?_ | refine cell_drewN _ ?_ | (refine cell_far ?_ ?_; focus (first | omega | (simp; omega) | (simp; done))) | refine cell_below' (by assumption) ?_))
  have a1 : w1.cell? ⟨w.heap.size, 1, none⟩ = some (.slice A l.length cap) := cell_below' hb1 (by repeat (first | assumption | (refine cell_new ?_ rfl; focus (simp; done)) | refine cell_drew ?_ | refine cell_alloc _ ?_ | refine cell_drewN _ ?_ | (refine cell_far ?_ ?_; focus (first | omega | (simp; omega) | (simp; done))) | refine cell_below' (by assumption) ?_))
  have hbw1 : Below w.heap.size w w1 := (by repeat (first | assumption | exact Below.refl _ _ | refine Below.drew ?_ | (refine below_alloc _ ?_ ?_; focus (first | omega | (simp; done) | (simp; omega) | (simp at *; omega))) | (refine below_set _ ?_ ?_; focus (first | omega | (simp; done) | (simp; omega) | (simp at *; omega))) | refine below_drewN ?_ _ | (refine below_call (by assumption) ?_ ?_; focus (first | omega | (simp; done) | (simp; omega) | (simp at *; omega))) | (refine below_call' (by assumption) ?_ ?_; focus (first | omega | (simp; done) | (simp; omega) | (simp at *; omega)))))
  clear hb1
  go_wp2_with (fail)
  refine (Few_any base A l.length cap _).mono ?_
  rintro e w2 ⟨rfl, hb2⟩
  have hz2 : w.heap.size < w2.heap.size := by have := hb2.size; (try simp at this); omega
  replace a0 := cell_below' hb2 a0
  replace a1 := cell_below' hb2 a1
  have hbw2 : Below w.heap.size w w2 := (by repeat (first | assumption | exact Below.refl _ _ | refine Below.drew ?_ | (refine below_alloc _ ?_ ?_; focus (first | omega | (simp; done) | (simp; omega) | (simp at *; omega))) | (refine below_set _ ?_ ?_; focus (first | omega | (simp; done) | (simp; omega) | (simp at *; omega))) | refine below_drewN ?_ _ | (refine below_call (by assumption) ?_ ?_; focus (first | omega | (simp; done) | (simp; omega) | (simp at *; omega))) | (refine below_call' (by assumption) ?_ ?_; focus (first | omega | (simp; done) | (simp; omega) | (simp at *; omega)))))
  have hA2 := hA.below hbw2
  clear hb2 hbw1 hz1 
  by_cases hf : (l.length : Int) ≤ 14
  rotate_left 1
  · have hfd : decide ((l.length : Int) ≤ 14) = false := by simpa using hf
    go_wp2
    go_ret
    exact ⟨rfl, (by repeat (first | assumption | exact Below.refl _ _ | refine Below.drew ?_ | (refine below_alloc _ ?_ ?_; focus (first | omega | (simp; done) | (simp; omega) | (simp at *; omega))) | (refine below_set _ ?_ ?_; focus (first | omega | (simp; done) | (simp; omega) | (simp at *; omega))) | refine below_drewN ?_ _ | (refine below_call (by assumption) ?_ ?_; focus (first | omega | (simp; done) | (simp; omega) | (simp at *; omega))) | (refine below_call' (by assumption) ?_ ?_; focus (first | omega | (simp; done) | (simp; omega) | (simp at *; omega)))))⟩
  have hl : l.length ≤ 100 := by omega
  go_wp2_with (fail)
  refine (Copy_any base A l cap _ hl (hA.below (by repeat (first | assumption | exact Below.refl _ _ | refine Below.drew ?_ | (refine below_alloc _ ?_ ?_; focus (first | omega | (simp; done) | (simp; omega) | (simp at *; omega))) | (refine below_set _ ?_ ?_; focus (first | omega | (simp; done) | (simp; omega) | (simp at *; omega))) | refine below_drewN ?_ _ | (refine below_call (by assumption) ?_ ?_; focus (first | omega | (simp; done) | (simp; omega) | (simp at *; omega))) | (refine below_call' (by assumption) ?_ ?_; focus (first | omega | (simp; done) | (simp; omega) | (simp at *; omega))))))).mono ?_
  rintro e w3 ⟨A3, c3, rfl, own3, hb3⟩
  have hS3 : SlabsAt w3 A3 l := rowsAt_of_own own3 rfl (by decide)
  have hc3 := own_cap' own3
  have hz3 : w.heap.size < w3.heap.size := by have := hb3.size; (try simp at this); omega
  replace a0 := cell_below' hb3 a0
  replace a1 := cell_below' hb3 a1
  have hbw3 : Below w.heap.size w w3 := (by repeat (first | assumption | exact Below.refl _ _ | refine Below.drew ?_ | (refine below_alloc _ ?_ ?_; focus (first | omega | (simp; done) | (simp; omega) | (simp at *; omega))) | (refine below_set _ ?_ ?_; focus (first | omega | (simp; done) | (simp; omega) | (simp at *; omega))) | refine below_drewN ?_ _ | (refine below_call (by assumption) ?_ ?_; focus (first | omega | (simp; done) | (simp; omega) | (simp at *; omega))) | (refine below_call' (by assumption) ?_ ?_; focus (first | omega | (simp; done) | (simp; omega) | (simp at *; omega)))))
  have hA3 := hA.below hbw3
  clear hb3 hbw2 hz2 hA2 own3
  go_wp2_with (fail)
  refine (LayersOf_any base A3 l c3 _ hl hS3).mono ?_
  rintro e w4 ⟨AL, cL, rfl, ownL, hb4⟩
  have hIL : IntsAt w4 AL (layV base l) := rowsAt_of_own ownL rfl (by decide)
  have hz4 : w.heap.size < w4.heap.size := by have := hb4.size; (try simp at this); omega
  replace a0 := cell_below' hb4 a0
  replace a1 := cell_below' hb4 a1
  have hbw4 : Below w.heap.size w w4 := (by repeat (first | assumption | exact Below.refl _ _ | refine Below.drew ?_ | (refine below_alloc _ ?_ ?_; focus (first | omega | (simp; done) | (simp; omega) | (simp at *; omega))) | (refine below_set _ ?_ ?_; focus (first | omega | (simp; done) | (simp; omega) | (simp at *; omega))) | refine below_drewN ?_ _ | (refine below_call (by assumption) ?_ ?_; focus (first | omega | (simp; done) | (simp; omega) | (simp at *; omega))) | (refine below_call' (by assumption) ?_ ?_; focus (first | omega | (simp; done) | (simp; omega) | (simp at *; omega)))))
  have hA4 := hA.below hbw4
  clear hb4 hbw3 hz3 hA3 hS3 ownL
  go_wp2_with (fail)
  refine (Copy_any base A l cap _ hl (hA.below (by repeat (first | assumption | exact Below.refl _ _ | refine Below.drew ?_ | (refine below_alloc _ ?_ ?_; focus (first | omega | (simp; done) | (simp; omega) | (simp at *; omega))) | (refine below_set _ ?_ ?_; focus (first | omega | (simp; done) | (simp; omega) | (simp at *; omega))) | refine below_drewN ?_ _ | (refine below_call (by assumption) ?_ ?_; focus (first | omega | (simp; done) | (simp; omega) | (simp at *; omega))) | (refine below_call' (by assumption) ?_ ?_; focus (first | omega | (simp; done) | (simp; omega) | (simp at *; omega))))))).mono ?_
  rintro e w5 ⟨A5, c5, rfl, own5, hb5⟩
  have hS5 : SlabsAt w5 A5 l := rowsAt_of_own own5 rfl (by decide)
  have hc5 := own_cap' own5
  have hz5 : w.heap.size < w5.heap.size := by have := hb5.size; (try simp at this); omega
  replace a0 := cell_below' hb5 a0
  replace a1 := cell_below' hb5 a1
  have hbw5 : Below w.heap.size w w5 := (by repeat (first | assumption | exact Below.refl _ _ | refine Below.drew ?_ | (refine below_alloc _ ?_ ?_; focus (first | omega | (simp; done) | (simp; omega) | (simp at *; omega))) | (refine below_set _ ?_ ?_; focus (first | omega | (simp; done) | (simp; omega) | (simp at *; omega))) | refine below_drewN ?_ _ | (refine below_call (by assumption) ?_ ?_; focus (first | omega | (simp; done) | (simp; omega) | (simp at *; omega))) | (refine below_call' (by assumption) ?_ ?_; focus (first | omega | (simp; done) | (simp; omega) | (simp at *; omega)))))
  have hA5 := hA.below hbw5
  replace hIL := RowsAt.below hIL hb5
  clear hb5 hbw4 hz4 hA4 own5
  go_wp2_with (fail)
  refine (Joined_any base A5 l c5 _ hl hc5 hS5).mono ?_
  rintro e w6 ⟨AJ, cJ, rfl, ownJ, hb6⟩
  have hSJ : SlabsAt w6 AJ (jndV base l) := rowsAt_of_own ownJ rfl (by decide)
  replace hIL := RowsAt.below hIL hb6
  have hz6 : w.heap.size < w6.heap.size := by have := hb6.size; (try simp at this); omega
  replace a0 := cell_below' hb6 a0
  replace a1 := cell_below' hb6 a1
  have hbw6 : Below w.heap.size w w6 := (by repeat (first | assumption | exact Below.refl _ _ | refine Below.drew ?_ | (refine below_alloc _ ?_ ?_; focus (first | omega | (simp; done) | (simp; omega) | (simp at *; omega))) | (refine below_set _ ?_ ?_; focus (first | omega | (simp; done) | (simp; omega) | (simp at *; omega))) | refine below_drewN ?_ _ | (refine below_call (by assumption) ?_ ?_; focus (first | omega | (simp; done) | (simp; omega) | (simp at *; omega))) | (refine below_call' (by assumption) ?_ ?_; focus (first | omega | (simp; done) | (simp; omega) | (simp at *; omega)))))
  have hA6 := hA.below hbw6
  clear hb6 hbw5 hz5 hA5 hS5 ownJ
  go_wp2_with (fail)
  have jw0 : (w6.alloc (.cells #[.int .i64 (jndB base l), .slice AJ (jndV base l).length cJ] 24)).cell? ⟨w6.heap.size, 0, none⟩ = some (.int .i64 (jndB base l)) := (by repeat (first | assumption | (refine cell_new ?_ rfl; focus (simp; done)) | refine cell_drew ?_ | refine cell_alloc _ ?_ | refine cell_drewN _ ?_ | (refine cell_far ?_ ?_; focus (first | omega | (simp; omega) | (simp; done))) | refine cell_below' (by assumption) ?_))
  have jw1 : (w6.alloc (.cells #[.int .i64 (jndB base l), .slice AJ (jndV base l).length cJ] 24)).cell? ⟨w6.heap.size, 1, none⟩ = some (.slice AJ (jndV base l).length cJ) := (by repeat (first | assumption | (refine cell_new ?_ rfl; focus (simp; done)) | refine cell_drew ?_ | refine cell_alloc _ ?_ | refine cell_drewN _ ?_ | (refine cell_far ?_ ?_; focus (first | omega | (simp; omega) | (simp; done))) | refine cell_below' (by assumption) ?_))
  refine (Copy_any base A l cap _ hl (hA.below (by repeat (first | assumption | exact Below.refl _ _ | refine Below.drew ?_ | (refine below_alloc _ ?_ ?_; focus (first | omega | (simp; done) | (simp; omega) | (simp at *; omega))) | (refine below_set _ ?_ ?_; focus (first | omega | (simp; done) | (simp; omega) | (simp at *; omega))) | refine below_drewN ?_ _ | (refine below_call (by assumption) ?_ ?_; focus (first | omega | (simp; done) | (simp; omega) | (simp at *; omega))) | (refine below_call' (by assumption) ?_ ?_; focus (first | omega | (simp; done) | (simp; omega) | (simp at *; omega))))))).mono ?_
  rintro e w7 ⟨A7, c7, rfl, own7, hb7⟩
  have hS7 : SlabsAt w7 A7 l := rowsAt_of_own own7 rfl (by decide)
  have hc7 := own_cap' own7
  have hz7 : w.heap.size < w7.heap.size := by have := hb7.size; (try simp at this); omega
  replace a0 := cell_below' hb7 (cell_alloc _ a0)
  replace a1 := cell_below' hb7 (cell_alloc _ a1)
  have hbw7 : Below w.heap.size w w7 := (by repeat (first | assumption | exact Below.refl _ _ | refine Below.drew ?_ | (refine below_alloc _ ?_ ?_; focus (first | omega | (simp; done) | (simp; omega) | (simp at *; omega))) | (refine below_set _ ?_ ?_; focus (first | omega | (simp; done) | (simp; omega) | (simp at *; omega))) | refine below_drewN ?_ _ | (refine below_call (by assumption) ?_ ?_; focus (first | omega | (simp; done) | (simp; omega) | (simp at *; omega))) | (refine below_call' (by assumption) ?_ ?_; focus (first | omega | (simp; done) | (simp; omega) | (simp at *; omega)))))
  have hA7 := hA.below hbw7
  have j0 := cell_below' hb7 jw0
  have j1 := cell_below' hb7 jw1
  have hj7 : w6.heap.size < w7.heap.size := by have := hb7.size; simp at this; omega
  have hjz : w.heap.size < w6.heap.size := hz6
  have hbj : Below w6.heap.size w6 w7 := (below_alloc _ (Nat.le_refl _) (Below.refl _ _)).trans (hb7.mono (by simp))
  replace hIL := RowsAt.below hIL hbj
  replace hSJ := RowsAt.below hSJ hbj
  clear jw0 jw1 hbj
  clear hb7 hbw6 hz6 hA6 own7
  generalize w6.heap.size = jb at *
  go_wp2_with (fail)
  refine (IsRising_any base A7 l c7 _ hl hc7 hS7).mono ?_
  rintro e w8 ⟨rfl, hb8⟩
  replace hIL := RowsAt.below hIL hb8
  replace hSJ := RowsAt.below hSJ hb8
  have hj8 : jb < w8.heap.size := by have := hb8.size; omega
  have hz8 : w.heap.size < w8.heap.size := by have := hb8.size; (try simp at this); omega
  replace a0 := cell_below' hb8 a0
  replace a1 := cell_below' hb8 a1
  replace j0 := cell_below' hb8 j0
  replace j1 := cell_below' hb8 j1
  have hbw8 : Below w.heap.size w w8 := (by repeat (first | assumption | exact Below.refl _ _ | refine Below.drew ?_ | (refine below_alloc _ ?_ ?_; focus (first | omega | (simp; done) | (simp; omega) | (simp at *; omega))) | (refine below_set _ ?_ ?_; focus (first | omega | (simp; done) | (simp; omega) | (simp at *; omega))) | refine below_drewN ?_ _ | (refine below_call (by assumption) ?_ ?_; focus (first | omega | (simp; done) | (simp; omega) | (simp at *; omega))) | (refine below_call' (by assumption) ?_ ?_; focus (first | omega | (simp; done) | (simp; omega) | (simp at *; omega)))))
  have hA8 := hA.below hbw8
  clear hb8 hbw7 hz7 hA7 hS7 hj7
  go_wp2_with (fail)
  refine (ProfileErr_any base A l cap _ hl hA8).mono ?_
  rintro e w9 ⟨rfl, hb9⟩
  replace hIL := RowsAt.below hIL hb9
  replace hSJ := RowsAt.below hSJ hb9
  have hj9 : jb < w9.heap.size := by have := hb9.size; omega
  have hz9 : w.heap.size < w9.heap.size := by have := hb9.size; (try simp at this); omega
  replace a0 := cell_below' hb9 a0
  replace a1 := cell_below' hb9 a1
  replace j0 := cell_below' hb9 j0
  replace j1 := cell_below' hb9 j1
  have hbw9 : Below w.heap.size w w9 := (by repeat (first | assumption | exact Below.refl _ _ | refine Below.drew ?_ | (refine below_alloc _ ?_ ?_; focus (first | omega | (simp; done) | (simp; omega) | (simp at *; omega))) | (refine below_set _ ?_ ?_; focus (first | omega | (simp; done) | (simp; omega) | (simp at *; omega))) | refine below_drewN ?_ _ | (refine below_call (by assumption) ?_ ?_; focus (first | omega | (simp; done) | (simp; omega) | (simp at *; omega))) | (refine below_call' (by assumption) ?_ ?_; focus (first | omega | (simp; done) | (simp; omega) | (simp at *; omega)))))
  have hA9 := hA.below hbw9
  clear hb9 hbw8 hz8 hA8 hj8
  have v1 : layV base l = if chkE base l = 0 then lays l else [] := rfl
  have v2 : jndV base l = if chkE base l = 0 then jnd l else [] := rfl
  have v3 : jndB base l = if chkE base l = 0 then base else 0 := rfl
  have v4 : risV base l = if chkE base l = 0 then ris l else false := rfl
  by_cases h0 : chkE base l = 0
  rotate_left 1
  · rw [if_neg h0] at v1 v2 v3 v4
    rw [v1] at hIL
    rw [v2] at hSJ j1
    rw [v3] at j0
    rw [v1, v2, v3, v4]
    have hsm : ∀ W, Calls Try.prog 45 #[.agg #[.int .i64 0, .slice AJ 0 cJ], .agg #[.int .i64 0, .slice none 0 0]] W fun e w' => e = .returned (.bool true) ∧ Below W.heap.size W w' := fun W => Same_refl AJ none [] cJ 0 0 W (by simp) (fun k x h => by simp at h) (fun k x h => by simp at h)
    have HSM := Lib.hid hsm
    have h0' : (chkE base l == 0) = false := by simpa using h0
    have h0'' : (chkE base l != 0) = true := by simpa using h0
    clear hsm v1 v2 v3 v4 h0
    simp only [List.length_nil] at j1 ⊢
    go_wp2_with (go_at_call 45; refine (HSM.out _).mono ?_; rintro e w10 ⟨rfl, hb10⟩)
    go_ret
    exact ⟨rfl, (by repeat (first | assumption | exact Below.refl _ _ | refine Below.drew ?_ | (refine below_alloc _ ?_ ?_; focus (first | omega | (simp; done) | (simp; omega) | (simp at *; omega))) | (refine below_set _ ?_ ?_; focus (first | omega | (simp; done) | (simp; omega) | (simp at *; omega))) | refine below_drewN ?_ _ | (refine below_call (by assumption) ?_ ?_; focus (first | omega | (simp; done) | (simp; omega) | (simp at *; omega))) | (refine below_call' (by assumption) ?_ ?_; focus (first | omega | (simp; done) | (simp; omega) | (simp at *; omega)))))⟩
  rw [if_pos h0] at v1 v2 v3 v4
  rw [v1] at hIL
  rw [v2] at hSJ j1
  rw [v3] at j0
  rw [v1, v2, v3, v4, h0]
  have HO := Lib.hid (ok_of_chk h0)
  have hn0 := HO.out.n0
  have hl1 := lays_len l
  have hl2 : (jnd l).length ≤ 100 := by
    have := jnGo_len' l
    omega
  clear v1 v2 v3 v4 h0
  have hry := fun W hW => RLayers_any base A l cap W HO.out hW
  have hrj := fun W hW => RJoined_any base A l cap W HO.out hW
  have hri := fun W hW => RIsRising_any base A l cap W hn0 hl hW
  unfold RLayPost at hry
  unfold RJndPost at hrj
  have HIN := Lib.hid (fun W B cb (h1 : IntsAt W AL (lays l)) (h2 : IntsAt W B (lays l)) => Ints_refl AL B (lays l) cL cb W (by omega) h1 h2)
  have HSA := Lib.hid (fun W B cb (h1 : SlabsAt W AJ (jnd l)) (h2 : SlabsAt W B (jnd l)) => Same_refl AJ B (jnd l) cJ cb base W hl2 h1 h2)
  have HRY := Lib.hid hry
  have HRJ := Lib.hid hrj
  have HRI := Lib.hid hri
  clear hry hrj hri hl1 hl2
  generalize lays l = L at *
  generalize jnd l = J at *
  generalize ris l = ri at *
  go_wp2_with (fail)
  go_region_held3 (fun w' => w'.cell? ⟨w.heap.size, 0, none⟩ = some (.int .i64 base) ∧ w'.cell? ⟨w.heap.size, 1, none⟩ = some (.slice A l.length cap) ∧ w'.cell? ⟨jb, 0, none⟩ = some (.int .i64 base) ∧ w'.cell? ⟨jb, 1, none⟩ = some (.slice AJ J.length cJ))
    ((((try go_split_ands); (repeat' (apply And.intro)) <;> (repeat (first | (with_reducible assumption) | (with_reducible refine cell_drew ?_) | (with_reducible refine cell_alloc _ ?_) | (with_reducible refine cell_below' (by with_reducible assumption) ?_) | (with_reducible refine cell_far ?_ ?_; focus (first | omega | (simp; omega) | (simp; done))))))))
    (first
      | (go_at_call 62; ((with_reducible refine (HRY.out _ ?_).mono ?_); (focus (exact RowsAt.below hA9 (by repeat (first | assumption | exact Below.refl _ _ | refine Below.drew ?_ | (refine below_alloc _ ?_ ?_; focus (first | omega | (simp; done) | (simp; omega) | (simp at *; omega))) | (refine below_set _ ?_ ?_; focus (first | omega | (simp; done) | (simp; omega) | (simp at *; omega))) | refine below_drewN ?_ _ | (refine below_call (by assumption) ?_ ?_; focus (first | omega | (simp; done) | (simp; omega) | (simp at *; omega))) | (refine below_call' (by assumption) ?_ ?_; focus (first | omega | (simp; done) | (simp; omega) | (simp at *; omega))))))); (rintro e y1 ⟨B1, d1, rfl, own1, hc1⟩)))
      | (go_at_call 61; ((with_reducible refine (HIN.out _ B1 d1 ?_ ?_).mono ?_); (focus (exact RowsAt.below hIL (by repeat (first | assumption | exact Below.refl _ _ | refine Below.drew ?_ | (refine below_alloc _ ?_ ?_; focus (first | omega | (simp; done) | (simp; omega) | (simp at *; omega))) | (refine below_set _ ?_ ?_; focus (first | omega | (simp; done) | (simp; omega) | (simp at *; omega))) | refine below_drewN ?_ _ | (refine below_call (by assumption) ?_ ?_; focus (first | omega | (simp; done) | (simp; omega) | (simp at *; omega))) | (refine below_call' (by assumption) ?_ ?_; focus (first | omega | (simp; done) | (simp; omega) | (simp at *; omega))))))); (focus (exact rowsAt_of_own own1 rfl (by decide))); (rintro e y2 ⟨rfl, hc2⟩)))
      | (go_at_call 63; ((with_reducible refine (HRJ.out _ ?_).mono ?_); (focus (exact RowsAt.below hA9 (by repeat (first | assumption | exact Below.refl _ _ | refine Below.drew ?_ | (refine below_alloc _ ?_ ?_; focus (first | omega | (simp; done) | (simp; omega) | (simp at *; omega))) | (refine below_set _ ?_ ?_; focus (first | omega | (simp; done) | (simp; omega) | (simp at *; omega))) | refine below_drewN ?_ _ | (refine below_call (by assumption) ?_ ?_; focus (first | omega | (simp; done) | (simp; omega) | (simp at *; omega))) | (refine below_call' (by assumption) ?_ ?_; focus (first | omega | (simp; done) | (simp; omega) | (simp at *; omega))))))); (rintro e y3 ⟨B3, d3, rfl, own3, hc3⟩)))
      | (go_at_call 45; ((with_reducible refine (HSA.out _ B3 d3 ?_ ?_).mono ?_); (focus (exact RowsAt.below hSJ (by repeat (first | assumption | exact Below.refl _ _ | refine Below.drew ?_ | (refine below_alloc _ ?_ ?_; focus (first | omega | (simp; done) | (simp; omega) | (simp at *; omega))) | (refine below_set _ ?_ ?_; focus (first | omega | (simp; done) | (simp; omega) | (simp at *; omega))) | refine below_drewN ?_ _ | (refine below_call (by assumption) ?_ ?_; focus (first | omega | (simp; done) | (simp; omega) | (simp at *; omega))) | (refine below_call' (by assumption) ?_ ?_; focus (first | omega | (simp; done) | (simp; omega) | (simp at *; omega))))))); (focus (exact rowsAt_of_own own3 rfl (by decide))); (rintro e y4 ⟨rfl, hc4⟩)))
      | (go_at_call 64; ((with_reducible refine (HRI.out _ ?_).mono ?_); (focus (exact RowsAt.below hA9 (by repeat (first | assumption | exact Below.refl _ _ | refine Below.drew ?_ | (refine below_alloc _ ?_ ?_; focus (first | omega | (simp; done) | (simp; omega) | (simp at *; omega))) | (refine below_set _ ?_ ?_; focus (first | omega | (simp; done) | (simp; omega) | (simp at *; omega))) | refine below_drewN ?_ _ | (refine below_call (by assumption) ?_ ?_; focus (first | omega | (simp; done) | (simp; omega) | (simp at *; omega))) | (refine below_call' (by assumption) ?_ ?_; focus (first | omega | (simp; done) | (simp; omega) | (simp at *; omega))))))); (rintro e y5 ⟨rfl, hc5⟩))))
  have hend : Below w.heap.size w y5 := (by repeat (first | assumption | exact Below.refl _ _ | refine Below.drew ?_ | (refine below_alloc _ ?_ ?_; focus (first | omega | (simp; done) | (simp; omega) | (simp at *; omega))) | (refine below_set _ ?_ ?_; focus (first | omega | (simp; done) | (simp; omega) | (simp at *; omega))) | refine below_drewN ?_ _ | (refine below_call (by assumption) ?_ ?_; focus (first | omega | (simp; done) | (simp; omega) | (simp at *; omega))) | (refine below_call' (by assumption) ?_ ?_; focus (first | omega | (simp; done) | (simp; omega) | (simp at *; omega)))))
  go_wp2
  go_ret
  exact ⟨rfl, hend⟩
end Go.Proofs.Ytoegpaolbkcleaa
