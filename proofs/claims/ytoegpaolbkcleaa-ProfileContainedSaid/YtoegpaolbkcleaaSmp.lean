/-
  Sampled: the profile and the trace of a sample.
-/
import Derived.Test.YtoegpaolbkcleaaSmP
import Derived.Test.YtoegpaolbkcleaaRFt
import Derived.Deep.DeepCutAuto
import Derived.Deep.CutBlock
namespace Go.Proofs.Ytoegpaolbkcleaa
open Go.ChangeShapes Go.WideShapes Go.ChangeAt Go.RowKit
set_option linter.unusedVariables false
set_option linter.unusedSimpArgs false

def smT (fs : List Int) : List Pt := fs.map fun f => (⟨f, 0, 0⟩ : Pt)
theorem smT_take {fs : List Int} {k : Nat} (h : k < fs.length) : (smT fs).take (k + 1) = (smT fs).take k ++ [⟨fs[k], 0, 0⟩] := by
  have hl : k < (smT fs).length := by unfold smT; rw [List.length_map]; exact h
  have e : (smT fs)[k] = ⟨fs[k], 0, 0⟩ := by simp [smT]
  rw [take_snoc _ _ hl, e]
def SmpPost (fs ths wds : List Int) (base after width sq : Int) (w : World) (e : Ending) (w' : World) : Prop :=
  ∃ b0 S' n' c' T' m' d' a' wd' ok, e = .returned (.tuple #[.agg #[.int .i64 b0, .slice S' n' c'], .agg #[.slice T' m' d', .int .i64 a', .int .i64 wd'], .bool ok]) ∧ Below w.heap.size w w' ∧
    (ok = true → Smp fs ths wds base after width sq ∧ b0 = base ∧ n' = fs.length ∧ m' = fs.length ∧ a' = after ∧ wd' = width ∧ w'.ownsRow w.heap.size 45 2 (.slice S' n' c') n' (cellsOf 2 slbC (smS fs ths)) ∧ w'.ownsRow w.heap.size 75 3 (.slice T' m' d') m' (cellsOf 3 ptC (smT fs)) ∧ Value.ownBlock (.slice S' n' c') ≠ Value.ownBlock (.slice T' m' d'))

/-- the first points of a sample are right -/
structure SmK (fs ths wds : List Int) (k : Nat) : Prop where
  fr : ∀ i (h : i < fs.length), i < k → 1 ≤ fs[i] ∧ fs[i] ≤ 3000
  inc : ∀ i (h : i + 1 < fs.length), i + 1 < k → fs[i] < fs[i + 1]
  th : ∀ i (h : i < ths.length), i < k → 0 ≤ ths[i] ∧ ths[i] ≤ 500
  wd : ∀ i (h : i < wds.length), i < k → 0 ≤ wds[i] ∧ wds[i] ≤ 1000
theorem SmK.zero (fs ths wds : List Int) : SmK fs ths wds 0 := ⟨fun _ _ h => absurd h (Nat.not_lt_zero _), fun _ _ h => absurd h (Nat.not_lt_zero _), fun _ _ h => absurd h (Nat.not_lt_zero _), fun _ _ h => absurd h (Nat.not_lt_zero _)⟩
theorem SmK.succ {fs ths wds : List Int} {k : Nat} (h : SmK fs ths wds k) (hk : k < fs.length) (hk2 : k < ths.length) (hk3 : k < wds.length) (h1 : 1 ≤ fs[k] ∧ fs[k] ≤ 3000) (h2 : 0 < k → lastOf fs k < fs[k]) (h3 : 0 ≤ ths[k] ∧ ths[k] ≤ 500) (h4 : 0 ≤ wds[k] ∧ wds[k] ≤ 1000) : SmK fs ths wds (k + 1) := by
  refine ⟨fun i hi hik => ?_, fun i hi hik => ?_, fun i hi hik => ?_, fun i hi hik => ?_⟩
  · by_cases e : i = k
    · subst e; exact h1
    · exact h.fr i hi (by omega)
  · by_cases e : i + 1 = k
    · subst e
      have := h2 (by omega)
      rw [lastOf_succ (by omega)] at this
      exact this
    · exact h.inc i hi (by omega)
  · by_cases e : i = k
    · subst e; exact h3
    · exact h.th i hi (by omega)
  · by_cases e : i = k
    · subst e; exact h4
    · exact h.wd i hi (by omega)

set_option maxRecDepth 100000 in
set_option maxHeartbeats 4000000 in
theorem Sampled_any (A : Option Addr) (fs : List Int) (ca : Nat) (B : Option Addr) (ths : List Int) (cb : Nat) (C : Option Addr) (wds : List Int) (cc : Nat) (base after width sq : Int) (w : World) (hA : IntsAt w A fs) (hB : IntsAt w B ths) (hC : IntsAt w C wds) :
    Calls Try.prog 36 #[.agg #[.slice A fs.length ca, .slice B ths.length cb, .slice C wds.length cc, .int .i64 base, .int .i64 after, .int .i64 width, .int .i64 sq]] w (SmpPost fs ths wds base after width sq w) := by
  go_enter Try.func36, Try.ntmps36
  go_upto_region 2 with (fail)
  have X0 : (((w.alloc (.cells #[.slice A fs.length ca, .slice B ths.length cb, .slice C wds.length cc, .int .i64 base, .int .i64 after, .int .i64 width, .int .i64 sq] 71)).alloc (.cells #[.int .i64 0, .slice none 0 0] 24)).alloc (.cells #[.slice none 0 0, .int .i64 0, .int .i64 0] 53)).cell? ⟨w.heap.size, 0, none⟩ = some (.slice A fs.length ca) := cell_alloc _ (cell_alloc _ (cell_new rfl rfl))
  have X1 : (((w.alloc (.cells #[.slice A fs.length ca, .slice B ths.length cb, .slice C wds.length cc, .int .i64 base, .int .i64 after, .int .i64 width, .int .i64 sq] 71)).alloc (.cells #[.int .i64 0, .slice none 0 0] 24)).alloc (.cells #[.slice none 0 0, .int .i64 0, .int .i64 0] 53)).cell? ⟨w.heap.size, 1, none⟩ = some (.slice B ths.length cb) := cell_alloc _ (cell_alloc _ (cell_new rfl rfl))
  have X2 : (((w.alloc (.cells #[.slice A fs.length ca, .slice B ths.length cb, .slice C wds.length cc, .int .i64 base, .int .i64 after, .int .i64 width, .int .i64 sq] 71)).alloc (.cells #[.int .i64 0, .slice none 0 0] 24)).alloc (.cells #[.slice none 0 0, .int .i64 0, .int .i64 0] 53)).cell? ⟨w.heap.size, 2, none⟩ = some (.slice C wds.length cc) := cell_alloc _ (cell_alloc _ (cell_new rfl rfl))
  have X3 : (((w.alloc (.cells #[.slice A fs.length ca, .slice B ths.length cb, .slice C wds.length cc, .int .i64 base, .int .i64 after, .int .i64 width, .int .i64 sq] 71)).alloc (.cells #[.int .i64 0, .slice none 0 0] 24)).alloc (.cells #[.slice none 0 0, .int .i64 0, .int .i64 0] 53)).cell? ⟨w.heap.size, 3, none⟩ = some (.int .i64 base) := cell_alloc _ (cell_alloc _ (cell_new rfl rfl))
  have X4 : (((w.alloc (.cells #[.slice A fs.length ca, .slice B ths.length cb, .slice C wds.length cc, .int .i64 base, .int .i64 after, .int .i64 width, .int .i64 sq] 71)).alloc (.cells #[.int .i64 0, .slice none 0 0] 24)).alloc (.cells #[.slice none 0 0, .int .i64 0, .int .i64 0] 53)).cell? ⟨w.heap.size, 4, none⟩ = some (.int .i64 after) := cell_alloc _ (cell_alloc _ (cell_new rfl rfl))
  have X5 : (((w.alloc (.cells #[.slice A fs.length ca, .slice B ths.length cb, .slice C wds.length cc, .int .i64 base, .int .i64 after, .int .i64 width, .int .i64 sq] 71)).alloc (.cells #[.int .i64 0, .slice none 0 0] 24)).alloc (.cells #[.slice none 0 0, .int .i64 0, .int .i64 0] 53)).cell? ⟨w.heap.size, 5, none⟩ = some (.int .i64 width) := cell_alloc _ (cell_alloc _ (cell_new rfl rfl))
  have X6 : (((w.alloc (.cells #[.slice A fs.length ca, .slice B ths.length cb, .slice C wds.length cc, .int .i64 base, .int .i64 after, .int .i64 width, .int .i64 sq] 71)).alloc (.cells #[.int .i64 0, .slice none 0 0] 24)).alloc (.cells #[.slice none 0 0, .int .i64 0, .int .i64 0] 53)).cell? ⟨w.heap.size, 6, none⟩ = some (.int .i64 sq) := cell_alloc _ (cell_alloc _ (cell_new rfl rfl))
  have R0 : (((w.alloc (.cells #[.slice A fs.length ca, .slice B ths.length cb, .slice C wds.length cc, .int .i64 base, .int .i64 after, .int .i64 width, .int .i64 sq] 71)).alloc (.cells #[.int .i64 0, .slice none 0 0] 24)).alloc (.cells #[.slice none 0 0, .int .i64 0, .int .i64 0] 53)).cell? ⟨w.heap.size + 1, 0, none⟩ = some (.int .i64 0) := cell_alloc _ (cell_new (by simp) rfl)
  have RF0 : (((w.alloc (.cells #[.slice A fs.length ca, .slice B ths.length cb, .slice C wds.length cc, .int .i64 base, .int .i64 after, .int .i64 width, .int .i64 sq] 71)).alloc (.cells #[.int .i64 0, .slice none 0 0] 24)).alloc (.cells #[.slice none 0 0, .int .i64 0, .int .i64 0] 53)).frozen? ⟨w.heap.size + 1, 0, none⟩ = false := frozen_alloc _ (by simp) (frozen_new (by simp))
  have R1 : (((w.alloc (.cells #[.slice A fs.length ca, .slice B ths.length cb, .slice C wds.length cc, .int .i64 base, .int .i64 after, .int .i64 width, .int .i64 sq] 71)).alloc (.cells #[.int .i64 0, .slice none 0 0] 24)).alloc (.cells #[.slice none 0 0, .int .i64 0, .int .i64 0] 53)).cell? ⟨w.heap.size + 1, 1, none⟩ = some (.slice none 0 0) := cell_alloc _ (cell_new (by simp) rfl)
  have RF1 : (((w.alloc (.cells #[.slice A fs.length ca, .slice B ths.length cb, .slice C wds.length cc, .int .i64 base, .int .i64 after, .int .i64 width, .int .i64 sq] 71)).alloc (.cells #[.int .i64 0, .slice none 0 0] 24)).alloc (.cells #[.slice none 0 0, .int .i64 0, .int .i64 0] 53)).frozen? ⟨w.heap.size + 1, 1, none⟩ = false := frozen_alloc _ (by simp) (frozen_new (by simp))
  have Q0 : (((w.alloc (.cells #[.slice A fs.length ca, .slice B ths.length cb, .slice C wds.length cc, .int .i64 base, .int .i64 after, .int .i64 width, .int .i64 sq] 71)).alloc (.cells #[.int .i64 0, .slice none 0 0] 24)).alloc (.cells #[.slice none 0 0, .int .i64 0, .int .i64 0] 53)).cell? ⟨w.heap.size + 1 + 1, 0, none⟩ = some (.slice none 0 0) := cell_new (by simp) rfl
  have QF0 : (((w.alloc (.cells #[.slice A fs.length ca, .slice B ths.length cb, .slice C wds.length cc, .int .i64 base, .int .i64 after, .int .i64 width, .int .i64 sq] 71)).alloc (.cells #[.int .i64 0, .slice none 0 0] 24)).alloc (.cells #[.slice none 0 0, .int .i64 0, .int .i64 0] 53)).frozen? ⟨w.heap.size + 1 + 1, 0, none⟩ = false := frozen_new (by simp)
  have Q1 : (((w.alloc (.cells #[.slice A fs.length ca, .slice B ths.length cb, .slice C wds.length cc, .int .i64 base, .int .i64 after, .int .i64 width, .int .i64 sq] 71)).alloc (.cells #[.int .i64 0, .slice none 0 0] 24)).alloc (.cells #[.slice none 0 0, .int .i64 0, .int .i64 0] 53)).cell? ⟨w.heap.size + 1 + 1, 1, none⟩ = some (.int .i64 0) := cell_new (by simp) rfl
  have QF1 : (((w.alloc (.cells #[.slice A fs.length ca, .slice B ths.length cb, .slice C wds.length cc, .int .i64 base, .int .i64 after, .int .i64 width, .int .i64 sq] 71)).alloc (.cells #[.int .i64 0, .slice none 0 0] 24)).alloc (.cells #[.slice none 0 0, .int .i64 0, .int .i64 0] 53)).frozen? ⟨w.heap.size + 1 + 1, 1, none⟩ = false := frozen_new (by simp)
  have Q2 : (((w.alloc (.cells #[.slice A fs.length ca, .slice B ths.length cb, .slice C wds.length cc, .int .i64 base, .int .i64 after, .int .i64 width, .int .i64 sq] 71)).alloc (.cells #[.int .i64 0, .slice none 0 0] 24)).alloc (.cells #[.slice none 0 0, .int .i64 0, .int .i64 0] 53)).cell? ⟨w.heap.size + 1 + 1, 2, none⟩ = some (.int .i64 0) := cell_new (by simp) rfl
  have QF2 : (((w.alloc (.cells #[.slice A fs.length ca, .slice B ths.length cb, .slice C wds.length cc, .int .i64 base, .int .i64 after, .int .i64 width, .int .i64 sq] 71)).alloc (.cells #[.int .i64 0, .slice none 0 0] 24)).alloc (.cells #[.slice none 0 0, .int .i64 0, .int .i64 0] 53)).frozen? ⟨w.heap.size + 1 + 1, 2, none⟩ = false := frozen_new (by simp)
  have hv : (((w.alloc (.cells #[.slice A fs.length ca, .slice B ths.length cb, .slice C wds.length cc, .int .i64 base, .int .i64 after, .int .i64 width, .int .i64 sq] 71)).alloc (.cells #[.int .i64 0, .slice none 0 0] 24)).alloc (.cells #[.slice none 0 0, .int .i64 0, .int .i64 0] 53)).heap.size = w.heap.size + 1 + 1 + 1 := by simp
  have hbw1 : Below w.heap.size w (((w.alloc (.cells #[.slice A fs.length ca, .slice B ths.length cb, .slice C wds.length cc, .int .i64 base, .int .i64 after, .int .i64 width, .int .i64 sq] 71)).alloc (.cells #[.int .i64 0, .slice none 0 0] 24)).alloc (.cells #[.slice none 0 0, .int .i64 0, .int .i64 0] 53)) := (by repeat (first | assumption | exact Below.refl _ _ | refine Below.drew ?_ | (refine below_alloc _ ?_ ?_; focus (first | omega | (simp; done) | (simp; omega) | (simp at *; omega))) | (refine below_set _ ?_ ?_; focus (first | omega | (simp; done) | (simp; omega) | (simp at *; omega))) | refine below_drewN ?_ _ | (refine below_call (by assumption) ?_ ?_; focus (first | omega | (simp; done) | (simp; omega) | (simp at *; omega))) | (refine below_call' (by assumption) ?_ ?_; focus (first | omega | (simp; done) | (simp; omega) | (simp at *; omega)))))
  generalize (((w.alloc (.cells #[.slice A fs.length ca, .slice B ths.length cb, .slice C wds.length cc, .int .i64 base, .int .i64 after, .int .i64 width, .int .i64 sq] 71)).alloc (.cells #[.int .i64 0, .slice none 0 0] 24)).alloc (.cells #[.slice none 0 0, .int .i64 0, .int .i64 0] 53)) = v1 at *
  have zs0 : w.heap.size < v1.heap.size := by omega
  have zs1 : w.heap.size + 1 < v1.heap.size := by omega
  have zs2 : w.heap.size + 1 + 1 < v1.heap.size := by omega
  have AV := hA.below hbw1
  have BV := hB.below hbw1
  have CV := hC.below hbw1
  have HV := Lib.hid hv
  have HAB := Lib.hid (show ∀ b o, A = some ⟨b, o, none⟩ → 0 < fs.length → b < w.heap.size from fun b o e hn => by
    obtain ⟨b', o', e', hb, _⟩ := IntsAt.at_ hA hn
    rw [e] at e'
    injection e' with e'
    injection e' with e1 e2
    omega)
  clear hA hB hC hv
  go_cut [52] from 10 to 52 (fun s wx => ∃ bv : Bool, s = .bool bv ∧ (bv = false → fs.length ≠ 0 ∧ fs.length ≤ 8 ∧ ths.length = fs.length ∧ wds.length = fs.length ∧ (0 ≤ base ∧ base ≤ 500) ∧ (0 ≤ after ∧ after ≤ (fs.length : Int) - 1) ∧ (0 ≤ width ∧ width ≤ 500)) ∧ v1 = wx)
  case first =>
    clear R0 R1 RF0 RF1 Q0 Q1 Q2 QF0 QF1
    by_cases hn0 : fs.length = 0
    · have hz : ((fs.length : Int) == 0) = true := by rw [hn0]; rfl
      clear hn0
      go_wp2_with (fail)
      go_meet
      exact ⟨true, rfl, (fun h => by cases h), rfl⟩
    have hz : ((fs.length : Int) == 0) = false := by simp; exact fun e => hn0 (by simp [e])
    by_cases hn1 : (fs.length : Int) ≤ 8
    rotate_left 1
    · have hgt : decide (8 < (fs.length : Int)) = true := by simp; omega
      clear hn1 hn0
      go_wp2_with (fail)
      go_meet
      exact ⟨true, rfl, (fun h => by cases h), rfl⟩
    have hgt : decide (8 < (fs.length : Int)) = false := by simp; omega
    have HN0 := Lib.hid hn0
    have HN1 := Lib.hid hn1
    clear hn0
    by_cases hnt : ths.length = fs.length
    rotate_left 1
    · have hdt : ((ths.length : Int) != (fs.length : Int)) = true := by simp; omega
      clear hnt
      go_wp2_with (fail)
      go_meet
      exact ⟨true, rfl, (fun h => by cases h), rfl⟩
    have hdt : ((ths.length : Int) != (fs.length : Int)) = false := by simp; omega
    have HNT := Lib.hid hnt
    clear hnt
    by_cases hnw : wds.length = fs.length
    rotate_left 1
    · have hdw : ((wds.length : Int) != (fs.length : Int)) = true := by simp; omega
      clear hnw
      go_wp2_with (fail)
      go_meet
      exact ⟨true, rfl, (fun h => by cases h), rfl⟩
    have hdw : ((wds.length : Int) != (fs.length : Int)) = false := by simp; omega
    have HNW := Lib.hid hnw
    clear hnw
    cases hb : withinB base 0 500
    · have HWb := Lib.hid hb
      clear hb
      go_wp2_with (go_at_call 23; refine (Within_any _ _ _ _).mono ?_; rintro e w' ⟨rfl, rfl⟩; first | rw [HWb.out])
      go_meet
      exact ⟨true, rfl, (fun h => by cases h), rfl⟩
    have HWb := Lib.hid hb
    have HB1 := Lib.hid (withinB_true.1 hb)
    clear hb
    cases ha : withinB after 0 ((fs.length : Int) - 1)
    · have HWa := Lib.hid ha
      clear ha
      go_wp2_with (go_at_call 23; refine (Within_any _ _ _ _).mono ?_; rintro e w' ⟨rfl, rfl⟩; first | rw [HWb.out] | rw [HWa.out])
      go_meet
      exact ⟨true, rfl, (fun h => by cases h), rfl⟩
    have HWa := Lib.hid ha
    have HA1 := Lib.hid (withinB_true.1 ha)
    clear ha
    cases hw : withinB width 0 500
    · have HWw := Lib.hid hw
      clear hw
      go_wp2_with (go_at_call 23; refine (Within_any _ _ _ _).mono ?_; rintro e w' ⟨rfl, rfl⟩; first | rw [HWb.out] | rw [HWa.out] | rw [HWw.out])
      go_meet
      exact ⟨true, rfl, (fun h => by cases h), rfl⟩
    have HWw := Lib.hid hw
    have HW1 := Lib.hid (withinB_true.1 hw)
    clear hw
    go_wp2_with (go_at_call 23; refine (Within_any _ _ _ _).mono ?_; rintro e w' ⟨rfl, rfl⟩; first | rw [HWb.out] | rw [HWa.out] | rw [HWw.out])
    go_meet
    exact ⟨false, rfl, fun _ => ⟨HN0.out, by have := HN1.out; omega, HNT.out, HNW.out, HB1.out, HA1.out, HW1.out⟩, rfl⟩
  case rest =>
  obtain ⟨bv, rfl, hall, rfl⟩ := hcut
  cases bv
  rotate_left 1
  · clear hall
    go_wp2_with (fail)
    refine bodyPost_ret (v := .tuple #[.agg #[.int .i64 0, .slice none 0 0], .agg #[.slice none 0 0, .int .i64 0, .int .i64 0], .bool false]) (by simp [results, Try.results36, go_sem, R0, R1, Q0, Q1, Q2, zs1, zs2]) rfl ?_
    exact ⟨0, none, 0, 0, none, 0, 0, 0, 0, false, rfl, (by repeat (first | assumption | exact Below.refl _ _ | refine Below.drew ?_ | (refine below_alloc _ ?_ ?_; focus (first | omega | (simp; done) | (simp; omega) | (simp at *; omega))) | (refine below_set _ ?_ ?_; focus (first | omega | (simp; done) | (simp; omega) | (simp at *; omega))) | refine below_drewN ?_ _ | (refine below_call (by assumption) ?_ ?_; focus (first | omega | (simp; done) | (simp; omega) | (simp at *; omega))) | (refine below_call' (by assumption) ?_ ?_; focus (first | omega | (simp; done) | (simp; omega) | (simp at *; omega))))), fun h => by cases h⟩
  obtain ⟨hn0, hn1, hnt, hnw, hb', ha', hw'⟩ := hall rfl
  clear hall
  have HB1 := Lib.hid hb'
  have HA1 := Lib.hid ha'
  have HW1 := Lib.hid hw'
  have HNT := Lib.hid hnt
  have HNW := Lib.hid hnw
  rw [hnt] at X1
  rw [hnw] at X2
  clear hb' ha' hw' hnt hnw
  go_upto_region 4 with (fail)
  apply cut2_
  · intro key
    go_region_held3 (fun w' => w'.cell? ⟨w.heap.size, 3, none⟩ = some (.int .i64 base) ∧ w'.cell? ⟨w.heap.size, 4, none⟩ = some (.int .i64 after) ∧ w'.cell? ⟨w.heap.size, 5, none⟩ = some (.int .i64 width))
      ((((try go_split_ands); (repeat' (apply And.intro)) <;> (repeat (first | (with_reducible assumption) | (with_reducible refine cell_drew ?_) | (with_reducible refine cell_alloc _ ?_) | (with_reducible refine cell_below' (by with_reducible assumption) ?_) | (with_reducible refine cell_far ?_ ?_; focus (first | omega | (simp; omega) | (simp; done))))))))
      (fail)
    all_goals first
      | (have F0 : Below v1.heap.size v1 ((v1.alloc (.cells #[.int .i64 base, .slice none 0 0] 24)).alloc (.cells #[.slice none 0 0, .int .i64 after, .int .i64 width] 53)).drew := (by repeat (first | assumption | exact Below.refl _ _ | refine Below.drew ?_ | (refine below_alloc _ ?_ ?_; focus (first | omega | (simp; done) | (simp; omega) | (simp at *; omega))) | (refine below_set _ ?_ ?_; focus (first | omega | (simp; done) | (simp; omega) | (simp at *; omega))) | refine below_drewN ?_ _ | (refine below_call (by assumption) ?_ ?_; focus (first | omega | (simp; done) | (simp; omega) | (simp at *; omega))) | (refine below_call' (by assumption) ?_ ?_; focus (first | omega | (simp; done) | (simp; omega) | (simp at *; omega))))); have F : w.heap.size + 1 + 1 < v1.heap.size ∧ w.heap.size + 1 + 1 < (v1.heap.size + 1) ∧ v1.heap.size ≠ (v1.heap.size + 1) ∧ v1.heap.size < ((v1.alloc (.cells #[.int .i64 base, .slice none 0 0] 24)).alloc (.cells #[.slice none 0 0, .int .i64 after, .int .i64 width] 53)).drew.heap.size ∧ (v1.heap.size + 1) < ((v1.alloc (.cells #[.int .i64 base, .slice none 0 0] 24)).alloc (.cells #[.slice none 0 0, .int .i64 after, .int .i64 width] 53)).drew.heap.size ∧ ((v1.alloc (.cells #[.int .i64 base, .slice none 0 0] 24)).alloc (.cells #[.slice none 0 0, .int .i64 after, .int .i64 width] 53)).drew.cell? ⟨v1.heap.size, 0, none⟩ = some (.int .i64 base) ∧ ((v1.alloc (.cells #[.int .i64 base, .slice none 0 0] 24)).alloc (.cells #[.slice none 0 0, .int .i64 after, .int .i64 width] 53)).drew.cell? ⟨v1.heap.size, 1, none⟩ = some (.slice none 0 0) ∧ ((v1.alloc (.cells #[.int .i64 base, .slice none 0 0] 24)).alloc (.cells #[.slice none 0 0, .int .i64 after, .int .i64 width] 53)).drew.frozen? ⟨v1.heap.size, 1, none⟩ = false ∧ ((v1.alloc (.cells #[.int .i64 base, .slice none 0 0] 24)).alloc (.cells #[.slice none 0 0, .int .i64 after, .int .i64 width] 53)).drew.cell? ⟨(v1.heap.size + 1), 0, none⟩ = some (.slice none 0 0) ∧ ((v1.alloc (.cells #[.int .i64 base, .slice none 0 0] 24)).alloc (.cells #[.slice none 0 0, .int .i64 after, .int .i64 width] 53)).drew.cell? ⟨(v1.heap.size + 1), 1, none⟩ = some (.int .i64 after) ∧ ((v1.alloc (.cells #[.int .i64 base, .slice none 0 0] 24)).alloc (.cells #[.slice none 0 0, .int .i64 after, .int .i64 width] 53)).drew.cell? ⟨(v1.heap.size + 1), 2, none⟩ = some (.int .i64 width) ∧ ((v1.alloc (.cells #[.int .i64 base, .slice none 0 0] 24)).alloc (.cells #[.slice none 0 0, .int .i64 after, .int .i64 width] 53)).drew.frozen? ⟨(v1.heap.size + 1), 0, none⟩ = false := ⟨by omega, by omega, by omega, by (first | (simp [World.drew]; done) | (simp [World.drew]; omega)), by (first | (simp [World.drew]; done) | (simp [World.drew]; omega)), cell_drew (cell_alloc _ (cell_new rfl rfl)), cell_drew (cell_alloc _ (cell_new rfl rfl)), frozen_drew (frozen_alloc _ (by simp) (frozen_new rfl)), cell_drew (cell_new (by simp) rfl), cell_drew (cell_new (by simp) rfl), cell_drew (cell_new (by simp) rfl), frozen_drew (frozen_new (by simp))⟩; generalize ((v1.alloc (.cells #[.int .i64 base, .slice none 0 0] 24)).alloc (.cells #[.slice none 0 0, .int .i64 after, .int .i64 width] 53)).drew = v2 at F F0 ⊢; generalize v1.heap.size + 1 = hb at F ⊢; generalize v1.heap.size = lb at F ⊢; revert F; revert F0; revert v2; revert hb; revert lb; exact key ())
      | (have F0 : Below v1.heap.size v1 ((v1.alloc (.cells #[.slice none 0 0, .int .i64 after, .int .i64 width] 53)).alloc (.cells #[.int .i64 base, .slice none 0 0] 24)).drew := (by repeat (first | assumption | exact Below.refl _ _ | refine Below.drew ?_ | (refine below_alloc _ ?_ ?_; focus (first | omega | (simp; done) | (simp; omega) | (simp at *; omega))) | (refine below_set _ ?_ ?_; focus (first | omega | (simp; done) | (simp; omega) | (simp at *; omega))) | refine below_drewN ?_ _ | (refine below_call (by assumption) ?_ ?_; focus (first | omega | (simp; done) | (simp; omega) | (simp at *; omega))) | (refine below_call' (by assumption) ?_ ?_; focus (first | omega | (simp; done) | (simp; omega) | (simp at *; omega))))); have F : w.heap.size + 1 + 1 < (v1.heap.size + 1) ∧ w.heap.size + 1 + 1 < v1.heap.size ∧ (v1.heap.size + 1) ≠ v1.heap.size ∧ (v1.heap.size + 1) < ((v1.alloc (.cells #[.slice none 0 0, .int .i64 after, .int .i64 width] 53)).alloc (.cells #[.int .i64 base, .slice none 0 0] 24)).drew.heap.size ∧ v1.heap.size < ((v1.alloc (.cells #[.slice none 0 0, .int .i64 after, .int .i64 width] 53)).alloc (.cells #[.int .i64 base, .slice none 0 0] 24)).drew.heap.size ∧ ((v1.alloc (.cells #[.slice none 0 0, .int .i64 after, .int .i64 width] 53)).alloc (.cells #[.int .i64 base, .slice none 0 0] 24)).drew.cell? ⟨(v1.heap.size + 1), 0, none⟩ = some (.int .i64 base) ∧ ((v1.alloc (.cells #[.slice none 0 0, .int .i64 after, .int .i64 width] 53)).alloc (.cells #[.int .i64 base, .slice none 0 0] 24)).drew.cell? ⟨(v1.heap.size + 1), 1, none⟩ = some (.slice none 0 0) ∧ ((v1.alloc (.cells #[.slice none 0 0, .int .i64 after, .int .i64 width] 53)).alloc (.cells #[.int .i64 base, .slice none 0 0] 24)).drew.frozen? ⟨(v1.heap.size + 1), 1, none⟩ = false ∧ ((v1.alloc (.cells #[.slice none 0 0, .int .i64 after, .int .i64 width] 53)).alloc (.cells #[.int .i64 base, .slice none 0 0] 24)).drew.cell? ⟨v1.heap.size, 0, none⟩ = some (.slice none 0 0) ∧ ((v1.alloc (.cells #[.slice none 0 0, .int .i64 after, .int .i64 width] 53)).alloc (.cells #[.int .i64 base, .slice none 0 0] 24)).drew.cell? ⟨v1.heap.size, 1, none⟩ = some (.int .i64 after) ∧ ((v1.alloc (.cells #[.slice none 0 0, .int .i64 after, .int .i64 width] 53)).alloc (.cells #[.int .i64 base, .slice none 0 0] 24)).drew.cell? ⟨v1.heap.size, 2, none⟩ = some (.int .i64 width) ∧ ((v1.alloc (.cells #[.slice none 0 0, .int .i64 after, .int .i64 width] 53)).alloc (.cells #[.int .i64 base, .slice none 0 0] 24)).drew.frozen? ⟨v1.heap.size, 0, none⟩ = false := ⟨by omega, by omega, by omega, by (first | (simp [World.drew]; done) | (simp [World.drew]; omega)), by (first | (simp [World.drew]; done) | (simp [World.drew]; omega)), cell_drew (cell_new (by simp) rfl), cell_drew (cell_new (by simp) rfl), frozen_drew (frozen_new (by simp)), cell_drew (cell_alloc _ (cell_new rfl rfl)), cell_drew (cell_alloc _ (cell_new rfl rfl)), cell_drew (cell_alloc _ (cell_new rfl rfl)), frozen_drew (frozen_alloc _ (by simp) (frozen_new rfl))⟩; generalize ((v1.alloc (.cells #[.slice none 0 0, .int .i64 after, .int .i64 width] 53)).alloc (.cells #[.int .i64 base, .slice none 0 0] 24)).drew = v2 at F F0 ⊢; generalize v1.heap.size + 1 = hb at F ⊢; generalize v1.heap.size = lb at F ⊢; revert F; revert F0; revert v2; revert lb; revert hb; exact key ())
  · intro pb tb v2 F0 F
    obtain ⟨zp, zt, hpt, zpv, ztv, P0, P1, PF, T0, T1, T2, TF⟩ := F
    have zp3 : v1.heap.size ≤ pb := by have := HV.out; omega
    have zt3 : v1.heap.size ≤ tb := by have := HV.out; omega
    clear zp zt
    have zvv := F0.size
    go_wp2_with (fail)
    go_loopw [8] (fun i wr => ∃ (k : Nat) (A' B' : Option Addr) (c' d' : Nat), k ≤ fs.length ∧ i = .int .i64 k ∧ wr.cell? ⟨pb, 0, none⟩ = some (.int .i64 base) ∧ wr.cell? ⟨pb, 1, none⟩ = some (.slice A' k c') ∧ wr.frozen? ⟨pb, 1, none⟩ = false ∧ wr.cell? ⟨tb, 0, none⟩ = some (.slice B' k d') ∧ wr.cell? ⟨tb, 1, none⟩ = some (.int .i64 after) ∧ wr.cell? ⟨tb, 2, none⟩ = some (.int .i64 width) ∧ wr.frozen? ⟨tb, 0, none⟩ = false ∧ wr.ownsRow v2.heap.size 45 2 (.slice A' k c') k (cellsOf 2 slbC ((smS fs ths).take k)) ∧ wr.ownsRow v2.heap.size 75 3 (.slice B' k d') k (cellsOf 3 ptC ((smT fs).take k)) ∧ (∀ g, Value.ownBlock (.slice A' k c') = some g → Value.ownBlock (.slice B' k d') ≠ some g) ∧ Below v1.heap.size v1 wr ∧ v2.heap.size ≤ wr.heap.size ∧ SmK fs ths wds k) (fun i _ => fs.length - (intOf i).toNat)
    case atStart => exact ⟨0, none, none, 0, 0, Nat.zero_le _, rfl, P0, P1, PF, T0, T1, T2, TF, World.ownsRow_nil _ _ _ _, World.ownsRow_nil _ _ _ _, fun g e => by simp [Value.ownBlock] at e, F0, Nat.le_refl _, SmK.zero _ _ _⟩
    case round =>
      obtain ⟨k, A', B', c', d', hk, rfl, p0, p1, pf, t0, t1, t2, tf, hown, hown2, hne, hbw, hsz, hok⟩ := hrel
      have HOK := Lib.hid hok
      clear hok P0 P1 PF T0 T1 T2 TF
      have x0 := cell_below' hbw X0
      have x1 := cell_below' hbw X1
      have x2 := cell_below' hbw X2
      have x3 := cell_below' hbw X3
      have x4 := cell_below' hbw X4
      have x5 := cell_below' hbw X5
      have x6 := cell_below' hbw X6
      have r0 := cell_below' hbw R0
      have rf0 := frozen_below hbw (show _ from zs1) RF0
      have r1 := cell_below' hbw R1
      have rf1 := frozen_below hbw (show _ from zs1) RF1
      have q0 := cell_below' hbw Q0
      have qf0 := frozen_below hbw (show _ from zs2) QF0
      have q1 := cell_below' hbw Q1
      have qf1 := frozen_below hbw (show _ from zs2) QF1
      have q2 := cell_below' hbw Q2
      have qf2 := frozen_below hbw (show _ from zs2) QF2
      have hA1 := RowsAt.below AV hbw
      have hB1 := RowsAt.below BV hbw
      have hC1 := RowsAt.below CV hbw
      have zr0 : w.heap.size < wr.heap.size := by omega
      have zr1 : w.heap.size + 1 < wr.heap.size := by omega
      have zr2 : w.heap.size + 1 + 1 < wr.heap.size := by omega
      have zrp : pb < wr.heap.size := by omega
      have zrt : tb < wr.heap.size := by omega
      by_cases hlt : k < fs.length
      · have hnt := HNT.out
        have hnw := HNW.out
        obtain ⟨bb, oo, rfl, hbb, e0⟩ := IntsAt.at_ hA1 hlt
        obtain ⟨bb2, oo2, rfl, hbb2, e1⟩ := IntsAt.at_ hB1 (show k < ths.length by omega)
        obtain ⟨bb3, oo3, rfl, hbb3, e2⟩ := IntsAt.at_ hC1 (show k < wds.length by omega)
        have hrow : (smS fs ths).take (k + 1) = (smS fs ths).take k ++ [⟨fs[k] * fs[k], ths[k]⟩] := by
          have hl : k < (smS fs ths).length := by unfold smS; rw [List.length_zipWith]; omega
          rw [take_snoc _ _ hl, smS_get fs ths hl hlt (by omega)]
        have hrow2 := smT_take hlt
        have hprev : ∀ k', k = k' + 1 → wr.cell? ⟨bb, oo + k', none⟩ = some (.int .i64 (lastOf fs k)) := fun k' e => by
          subst e
          obtain ⟨b2, o2, h2, _, h3⟩ := IntsAt.at_ hA1 (show k' < fs.length by omega)
          injection h2 with h2
          injection h2 with h21 h22
          subst h21 h22
          rw [lastOf_succ (by omega)]
          exact h3
        have hk2' : k < ths.length := by omega
        have hk3' : k < wds.length := by omega
        have hnext := SmK.succ HOK.out hlt hk2' hk3'
        have HNEXT := Lib.hid hnext
        have HROW := Lib.hid hrow
        have HROW2 := Lib.hid hrow2
        have HPREV := Lib.hid hprev
        clear hnext hrow hrow2 hprev
        generalize fs[k] = f at *
        generalize ths[k] = th at *
        generalize wds[k] = wd at *
        generalize lastOf fs k = last at *
        have HK2 := Lib.hid hk2'
        have HK3 := Lib.hid hk3'
        clear hnt hnw
        go_upto_region 9 with (fail)
        go_cut [107] from 63 to 107 (fun s wx => ∃ bv : Bool, s = .bool bv ∧ (bv = false → (1 ≤ f ∧ f ≤ 3000) ∧ (0 < k → last < f) ∧ (0 ≤ th ∧ th ≤ 500) ∧ (0 ≤ wd ∧ wd ≤ 1000)) ∧ wr = wx)
        case first =>
          cases hf : withinB f 1 3000
          · have hu : unl (withinB f 1 3000) 2 = 2 := by rw [hf]; rfl
            have HU := Lib.hid hu
            clear hu hf HPREV
            go_wp2_with (go_at_call 20; refine (FrequencyErr_any _ _).mono ?_; rintro e w' ⟨rfl, rfl⟩; rw [HU.out])
            go_meet
            exact ⟨true, rfl, (fun h => by cases h), rfl⟩
          have hu : unl (withinB f 1 3000) 2 = 0 := by rw [hf]; rfl
          have HU := Lib.hid hu
          have HF1 := Lib.hid (withinB_true.1 hf)
          clear hu hf
          by_cases hbad : 0 < k ∧ f ≤ last
          · obtain ⟨hk0, hfl⟩ := hbad
            have hpc := HPREV.out (k - 1) (by omega)
            have hkp : decide (0 < (k : Int)) = true := by simpa using hk0
            have hkn : ((k : Int) - 1).toNat = k - 1 := by omega
            have hk1 : (1 : Int) ≤ (k : Int) := by omega
            clear HPREV
            go_wp2_with (go_at_call 20; refine (FrequencyErr_any _ _).mono ?_; rintro e w' ⟨rfl, rfl⟩; rw [HU.out])
            go_meet
            exact ⟨true, rfl, (fun h => by cases h), rfl⟩
          have hlst : 0 < k → last < f := fun h => by omega
          have HLST := Lib.hid hlst
          clear hlst hbad
          cases ht : withinB th 0 500
          · have HWt := Lib.hid ht
            clear ht
            by_cases hk0 : 0 < k
            · have hpc := HPREV.out (k - 1) (by omega)
              have hkp : decide (0 < (k : Int)) = true := by simpa using hk0
              have hkn : ((k : Int) - 1).toNat = k - 1 := by omega
              have hk1 : (1 : Int) ≤ (k : Int) := by omega
              have hfl : decide (f ≤ last) = false := by have := HLST.out hk0; simpa using this
              go_wp2_with (first | (go_at_call 20; refine (FrequencyErr_any _ _).mono ?_; rintro e w' ⟨rfl, rfl⟩; rw [HU.out]) | (go_at_call 23; refine (Within_any _ _ _ _).mono ?_; rintro e w' ⟨rfl, rfl⟩; first | rw [HWt.out]))
              go_meet
              exact ⟨true, rfl, (fun h => by cases h), rfl⟩
            · have hkp : decide (0 < (k : Int)) = false := by simp; omega
              go_wp2_with (first | (go_at_call 20; refine (FrequencyErr_any _ _).mono ?_; rintro e w' ⟨rfl, rfl⟩; rw [HU.out]) | (go_at_call 23; refine (Within_any _ _ _ _).mono ?_; rintro e w' ⟨rfl, rfl⟩; first | rw [HWt.out]))
              go_meet
              exact ⟨true, rfl, (fun h => by cases h), rfl⟩
          have HWt := Lib.hid ht
          have HTB := Lib.hid (withinB_true.1 ht)
          clear ht
          cases hd : withinB wd 0 1000
          · have HWd := Lib.hid hd
            clear hd
            by_cases hk0 : 0 < k
            · have hpc := HPREV.out (k - 1) (by omega)
              have hkp : decide (0 < (k : Int)) = true := by simpa using hk0
              have hkn : ((k : Int) - 1).toNat = k - 1 := by omega
              have hk1 : (1 : Int) ≤ (k : Int) := by omega
              have hfl : decide (f ≤ last) = false := by have := HLST.out hk0; simpa using this
              go_wp2_with (first | (go_at_call 20; refine (FrequencyErr_any _ _).mono ?_; rintro e w' ⟨rfl, rfl⟩; rw [HU.out]) | (go_at_call 23; refine (Within_any _ _ _ _).mono ?_; rintro e w' ⟨rfl, rfl⟩; first | rw [HWt.out] | rw [HWd.out]))
              go_meet
              exact ⟨true, rfl, (fun h => by cases h), rfl⟩
            · have hkp : decide (0 < (k : Int)) = false := by simp; omega
              go_wp2_with (first | (go_at_call 20; refine (FrequencyErr_any _ _).mono ?_; rintro e w' ⟨rfl, rfl⟩; rw [HU.out]) | (go_at_call 23; refine (Within_any _ _ _ _).mono ?_; rintro e w' ⟨rfl, rfl⟩; first | rw [HWt.out] | rw [HWd.out]))
              go_meet
              exact ⟨true, rfl, (fun h => by cases h), rfl⟩
          have HWd := Lib.hid hd
          have HDB := Lib.hid (withinB_true.1 hd)
          clear hd
          by_cases hk0 : 0 < k
          · have hpc := HPREV.out (k - 1) (by omega)
            have hkp : decide (0 < (k : Int)) = true := by simpa using hk0
            have hkn : ((k : Int) - 1).toNat = k - 1 := by omega
            have hk1 : (1 : Int) ≤ (k : Int) := by omega
            have hfl : decide (f ≤ last) = false := by have := HLST.out hk0; simpa using this
            go_wp2_with (first | (go_at_call 20; refine (FrequencyErr_any _ _).mono ?_; rintro e w' ⟨rfl, rfl⟩; rw [HU.out]) | (go_at_call 23; refine (Within_any _ _ _ _).mono ?_; rintro e w' ⟨rfl, rfl⟩; first | rw [HWt.out] | rw [HWd.out]))
            go_meet
            exact ⟨false, rfl, fun _ => ⟨HF1.out, HLST.out, HTB.out, HDB.out⟩, rfl⟩
          · have hkp : decide (0 < (k : Int)) = false := by simp; omega
            go_wp2_with (first | (go_at_call 20; refine (FrequencyErr_any _ _).mono ?_; rintro e w' ⟨rfl, rfl⟩; rw [HU.out]) | (go_at_call 23; refine (Within_any _ _ _ _).mono ?_; rintro e w' ⟨rfl, rfl⟩; first | rw [HWt.out] | rw [HWd.out]))
            go_meet
            exact ⟨false, rfl, fun _ => ⟨HF1.out, HLST.out, HTB.out, HDB.out⟩, rfl⟩
        case rest =>
        obtain ⟨bv, rfl, hall, rfl⟩ := hcut
        clear HPREV
        cases bv
        rotate_left 1
        · clear hall
          go_wp2_with (fail)
          refine bodyPost_ret (v := .tuple #[.agg #[.int .i64 0, .slice none 0 0], .agg #[.slice none 0 0, .int .i64 0, .int .i64 0], .bool false]) (by simp [results, Try.results36, go_sem, r0, r1, q0, q1, q2, zr1, zr2]) rfl ?_
          exact ⟨0, none, 0, 0, none, 0, 0, 0, 0, false, rfl, (by repeat (first | assumption | exact Below.refl _ _ | refine Below.drew ?_ | (refine below_alloc _ ?_ ?_; focus (first | omega | (simp; done) | (simp; omega) | (simp at *; omega))) | (refine below_set _ ?_ ?_; focus (first | omega | (simp; done) | (simp; omega) | (simp at *; omega))) | refine below_drewN ?_ _ | (refine below_call (by assumption) ?_ ?_; focus (first | omega | (simp; done) | (simp; omega) | (simp at *; omega))) | (refine below_call' (by assumption) ?_ ?_; focus (first | omega | (simp; done) | (simp; omega) | (simp at *; omega))))), fun h => by cases h⟩
        obtain ⟨hf01, hlst, htb, hdb⟩ := hall rfl
        have hnx := HNEXT.out hf01 hlst htb hdb
        have HNX := Lib.hid hnx
        obtain ⟨f0, f1⟩ := hf01
        have hq := sq_bd f (by omega) f1
        obtain ⟨q0', q1'⟩ := hq
        clear hnx HNEXT hlst htb hdb hall
        go_upto_region 11 with (fail)
        (refine region_alloc (T := ?_) (obj := (.cells #[.int .i64 (f * f), .int .i64 th] 45)) (val := (fun nb => .slice (some ⟨nb, 0, none⟩) 1 1)) 11 121 (by kernel_rfl) (by kernel_rfl) rfl rfl rfl (Nat.le_of_ble_eq_true rfl) ?_ ?_ ?_; rotate_left 1)
        focus (intro W0 hB0 hx; simp only [List.take_succ_cons, List.take_zero]; (repeat (any_goals (first | go_big_quiet_step (fail) | quiet_step (fail)))); refine wpQuiet_nil ?_; exact rfl)
        focus (intro W; go_simp; done)
        (intro W0 w2 hB0 hB1; obtain ⟨hbw2, hnw2, hsw2, hkw2⟩ := alloc_out hB0 hB1; clear hB0 hB1; simp only [List.drop_succ_cons, List.drop_zero]; generalize W0.heap.size = nb at *; clear W0)
        have hrw : SlabsAt w2 (some ⟨nb, 0, none⟩) [⟨f * f, th⟩] := rows_blk hkw2 rfl
        have hzw2 := hbw2.size
        have hb2v : Below v1.heap.size v1 w2 := hbw.trans (hbw2.mono (by omega))
        have hn1' : some pb ≠ Value.ownBlock (.slice A' k c') := fun e => by have := hown.lt _ e.symm; omega
        have hn2' : some tb ≠ Value.ownBlock (.slice A' k c') := fun e => by have := hown.lt _ e.symm; omega
        have hn3' : some pb ≠ Value.ownBlock (.slice B' k d') := fun e => by have := hown2.lt _ e.symm; omega
        have hn4' : some tb ≠ Value.ownBlock (.slice B' k d') := fun e => by have := hown2.lt _ e.symm; omega
        replace p0 := cell_below' hbw2 p0
        replace p1 := cell_below' hbw2 p1
        replace t0 := cell_below' hbw2 t0
        replace t1 := cell_below' hbw2 t1
        replace t2 := cell_below' hbw2 t2
        replace pf := frozen_below hbw2 (show _ from zrp) pf
        replace tf := frozen_below hbw2 (show _ from zrt) tf
        replace hown := own_below hown hbw2
        replace hown2 := own_below hown2 hbw2
        clear e0 e1 e2
        refine wpList_appSlab w2 rfl (.tmp 111) (.tmp 121) rfl v2.heap.size A' k c' (cellsOf 2 slbC ((smS fs ths).take k)) rfl hown (some ⟨nb, 0, none⟩) 1 1 (cellsOf 2 slbC [⟨f * f, th⟩]) rfl rfl (fun e => by cases e) (fun ad e => by cases e; exact RowsAt.news hrw (by decide)) (cellsOf_one slbC_one (by decide) _) (by omega) (by omega) ?_
        intro A4 c5 w3 hown3 hg halt
        rw [← cellsOf_append, ← HROW.out] at hown3
        have hown4 := hown2.kept hg (by
          cases hB : Value.ownBlock (.slice B' k d') with
          | none => exact .inl rfl
          | some g => exact .inr fun e => hne g e.symm hB)
        have hne3 : ∀ g, Value.ownBlock (.slice A4 (k + 1) c5) = some g → Value.ownBlock (.slice B' k d') ≠ some g := fun g e e2 => by
          rcases halt with h | h
          · exact hne g (h ▸ e) e2
          · have h1 := hown2.lt g e2
            rw [h] at e
            injection e with e
            omega
        have hz3 := hg.size
        have hb3v : Below v1.heap.size v1 w3 := below_own hb2v hg hown (by omega) (by omega)
        replace p0 := cell_grown hg p0 hn1'
        replace p1 := cell_grown hg p1 hn1'
        replace t0 := cell_grown hg t0 hn2'
        replace t1 := cell_grown hg t1 hn2'
        replace t2 := cell_grown hg t2 hn2'
        replace pf := frozen_grown hg pf (by show pb < _; omega) hn1'
        replace tf := frozen_grown hg tf (by show tb < _; omega) hn2'
        clear hg halt hown hown2 hn1' hn2' hrw hkw2 hne hbw2
        have u0 : (w3.setCell ⟨pb, 1, none⟩ (.slice A4 (k + 1) c5)).cell? ⟨pb, 0, none⟩ = some (.int .i64 base) := (World.cell?_setCell_other _ _ _ _ (by simp)).trans p0
        have u1 : (w3.setCell ⟨pb, 1, none⟩ (.slice A4 (k + 1) c5)).cell? ⟨pb, 1, none⟩ = some (.slice A4 (k + 1) c5) := cell_same p1
        have u2 : (w3.setCell ⟨pb, 1, none⟩ (.slice A4 (k + 1) c5)).frozen? ⟨pb, 1, none⟩ = false := frozen_set _ _ pf
        have y0 : (w3.setCell ⟨pb, 1, none⟩ (.slice A4 (k + 1) c5)).cell? ⟨tb, 0, none⟩ = some (.slice B' k d') := (World.cell?_setCell_other _ _ _ _ (by first | (simp; done) | (simp; omega))).trans t0
        have y1 : (w3.setCell ⟨pb, 1, none⟩ (.slice A4 (k + 1) c5)).cell? ⟨tb, 1, none⟩ = some (.int .i64 after) := (World.cell?_setCell_other _ _ _ _ (by first | (simp; done) | (simp; omega))).trans t1
        have y2 : (w3.setCell ⟨pb, 1, none⟩ (.slice A4 (k + 1) c5)).cell? ⟨tb, 2, none⟩ = some (.int .i64 width) := (World.cell?_setCell_other _ _ _ _ (by first | (simp; done) | (simp; omega))).trans t2
        have y3 : (w3.setCell ⟨pb, 1, none⟩ (.slice A4 (k + 1) c5)).frozen? ⟨tb, 0, none⟩ = false := frozen_set _ _ tf
        have hown5 := ownsRow_setCell_below hown3 (a := ⟨pb, 1, none⟩) (by show pb < _; omega) (.slice A4 (k + 1) c5)
        have hown6 := ownsRow_setCell_below hown4 (a := ⟨pb, 1, none⟩) (by show pb < _; omega) (.slice A4 (k + 1) c5)
        have hb4v : Below v1.heap.size v1 (w3.setCell ⟨pb, 1, none⟩ (.slice A4 (k + 1) c5)) := below_set _ (by show _ ≤ pb; omega) hb3v
        have hz4 : (w3.setCell ⟨pb, 1, none⟩ (.slice A4 (k + 1) c5)).heap.size = w3.heap.size := by simp
        go_upto_region 12 with (fail)
        generalize w3.setCell ⟨pb, 1, none⟩ (.slice A4 (k + 1) c5) = w4 at *
        have zv4 : v2.heap.size ≤ w4.heap.size := by omega
        have HZ4 := Lib.hid hz4
        clear hz4
        go_wp2_with (at_builtin; (
          refine wpList_appPoint _ rfl (.tmp 125) (.tmp 128) rfl v2.heap.size B' k d' (cellsOf 3 ptC ((smT fs).take k)) rfl (hown6.alloc _) (some ⟨w4.heap.size, 0, none⟩) 1 1 (cellsOf 3 ptC [⟨f, 0, 0⟩]) rfl rfl (fun e => by cases e) (fun ad e => by cases e; exact RowsAt.news (rows_blk (blk_new (by simp)) rfl) (by decide)) (cellsOf_one ptC_one (by decide) _) (by omega) (by simp; omega) ?_
          intro B4 d5 w5 hown7 hg halt
          have hz4 := HZ4.out
          rw [← cellsOf_append, ← HROW2.out] at hown7
          have hw6 := (hown6.alloc (.cells #[.int .i64 f, .int .i64 0, .int .i64 0] 75))
          have hown8 := (hown5.alloc (.cells #[.int .i64 f, .int .i64 0, .int .i64 0] 75)).kept hg (by
            cases hB : Value.ownBlock (.slice A4 (k + 1) c5) with
            | none => exact .inl rfl
            | some g => exact .inr fun e => hne3 g hB e.symm)
          have hne4 : ∀ g, Value.ownBlock (.slice A4 (k + 1) c5) = some g → Value.ownBlock (.slice B4 (k + 1) d5) ≠ some g := fun g e e2 => by
            rcases halt with h | h
            · exact hne3 g e (h ▸ e2)
            · have h1 := hown5.lt g e
              rw [h] at e2
              injection e2 with e2
              simp at e2
              omega
          have hz5 := hg.size
          simp at hz5
          have hb5v : Below v1.heap.size v1 w5 := below_own (below_alloc _ (by (first | omega | (simp; done) | (simp; omega) | (simp at *; omega))) hb4v) hg hw6 (by omega) (by simp; omega)
          replace u0 := cell_grown hg (cell_alloc _ u0) hn3'
          replace u1 := cell_grown hg (cell_alloc _ u1) hn3'
          replace u2 := frozen_grown hg (frozen_alloc _ (by show pb < _; omega) u2) (by simp; omega) hn3'
          replace y0 := cell_grown hg (cell_alloc _ y0) hn4'
          replace y1 := cell_grown hg (cell_alloc _ y1) hn4'
          replace y2 := cell_grown hg (cell_alloc _ y2) hn4'
          replace y3 := frozen_grown hg (frozen_alloc _ (by show tb < _; omega) y3) (by simp; omega) hn4'
          clear hg halt hown5 hown6 hn3' hn4' hw6 hne3 hown3 hown4
          clear hz4))
        exact ⟨⟨k + 1, A4, B4, c5, d5, by omega, by go_num, (World.cell?_setCell_other _ _ _ _ (by first | (simp; done) | (simp; omega))).trans u0, (World.cell?_setCell_other _ _ _ _ (by first | (simp; done) | (simp; omega))).trans u1, frozen_set _ _ u2, cell_same y0, (World.cell?_setCell_other _ _ _ _ (by simp)).trans y1, (World.cell?_setCell_other _ _ _ _ (by simp)).trans y2, frozen_set _ _ y3, ownsRow_setCell_below hown8 (by show tb < _; omega) _, ownsRow_setCell_below hown7 (by show tb < _; omega) _, hne4, below_set _ (by show _ ≤ tb; omega) hb5v, by simp; omega, HNX.out⟩, by simp [intOf]; omega⟩
      · obtain rfl : k = fs.length := by omega
        obtain ⟨a0', a1'⟩ := HA1.out
        obtain ⟨an, rfl⟩ := Int.eq_ofNat_of_zero_le a0'
        have han : an < fs.length := by omega
        obtain ⟨bb, oo, hAe, hbb, e0⟩ := IntsAt.at_ hA1 han
        have hbA := HAB.out bb oo hAe (by omega)
        subst hAe
        have hfr := HOK.out.fr an han han
        have hq := sq_bd fs[an] (by omega) hfr.2
        obtain ⟨q0', q1'⟩ := hq
        have hsq : withinB sq 0 (fs[an] * fs[an] - 1) = true → sq < fs[an] * fs[an] ∧ 0 ≤ sq := fun h => by have := withinB_true.1 h; omega
        have HSQ := Lib.hid hsq
        have hS1 : fs[an]? = some fs[an] := List.getElem?_eq_getElem han
        clear hsq hfr
        generalize fs[an] = fa at *
        have HS1 := Lib.hid hS1
        clear hS1
        generalize hvb : withinB sq 0 (fa * fa - 1) = vb at *
        have HVB := Lib.hid hvb
        clear hvb
        have hwr1 : IntKind.i64.wrap (fa * fa) = fa * fa := by simp [IntKind.wrap, IntKind.bits, IntKind.signed]; omega
        have hwr2 : IntKind.i64.wrap (fa * fa - 1) = fa * fa - 1 := by simp [IntKind.wrap, IntKind.bits, IntKind.signed]; omega
        go_upto_region 13 with (fail)
        go_region_held3 (fun w' => w'.cell? ⟨w.heap.size, 0, none⟩ = some (.slice (some ⟨bb, oo, none⟩) fs.length ca) ∧ w'.cell? ⟨w.heap.size, 4, none⟩ = some (.int .i64 an) ∧ w'.cell? ⟨w.heap.size, 6, none⟩ = some (.int .i64 sq) ∧ w'.cell? ⟨bb, oo + an, none⟩ = some (.int .i64 fa) ∧ w'.cell? ⟨pb, 0, none⟩ = some (.int .i64 base) ∧ w'.cell? ⟨pb, 1, none⟩ = some (.slice A' fs.length c') ∧ w'.cell? ⟨tb, 0, none⟩ = some (.slice B' fs.length d') ∧ w'.cell? ⟨tb, 1, none⟩ = some (.int .i64 an) ∧ w'.cell? ⟨tb, 2, none⟩ = some (.int .i64 width))
          ((((try go_split_ands); (repeat' (apply And.intro)) <;> (repeat (first | (with_reducible assumption) | (with_reducible refine cell_drew ?_) | (with_reducible refine cell_alloc _ ?_) | (with_reducible refine cell_below' (by with_reducible assumption) ?_) | (with_reducible refine cell_far ?_ ?_; focus (first | omega | (simp; omega) | (simp; done))))))))
          ((go_at_call 23; refine (Within_any _ _ _ _).mono ?_; rintro e w' ⟨rfl, rfl⟩; first | rw [HVB.out] | rw [hwr1, hwr2, HVB.out]))
        have hww : Below w.heap.size w wr := hbw1.trans (hbw.mono (by omega))
        have hn0' : 0 < fs.length := by omega
        have e1 : (smS fs ths).take fs.length = smS fs ths := List.take_of_length_le (by unfold smS; rw [List.length_zipWith]; omega)
        have e2 : (smT fs).take fs.length = smT fs := List.take_of_length_le (by unfold smT; rw [List.length_map]; omega)
        rw [e1] at hown
        rw [e2] at hown2
        have hne2 : Value.ownBlock (.slice A' fs.length c') ≠ Value.ownBlock (.slice B' fs.length d') := fun e => by
          obtain ⟨g, cg, hv, _⟩ := hown.form hn0'
          have h1 : Value.ownBlock (.slice A' fs.length c') = some g := by rw [hv]; rfl
          exact hne g h1 (e.symm.trans h1)
        have hsmp : vb = true → Smp fs ths wds base an width sq := fun hvb => by
          have hs := HSQ.out hvb
          have hK := HOK.out
          exact ⟨hn0', hn1, HNT.out, HNW.out, HB1.out.1, HB1.out.2, HA1.out.1, by omega, HW1.out.1, HW1.out.2, fun i h => hK.fr i h h, fun i h => hK.inc i h h, fun i h => hK.th i h (by have := HNT.out; omega), fun i h => hK.wd i h (by have := HNW.out; omega), hs.2, fun h => by rw [Option.some.inj ((List.getElem?_eq_getElem h).symm.trans HS1.out)]; exact hs.1⟩
        have hw2 : w.heap.size + 1 + 1 < v2.heap.size := by omega
        have HSMP := Lib.hid hsmp
        clear hsmp e1 e2 hne
        have hdr : ∀ (u : World) (a : Addr), u.drew.cell? a = u.cell? a := fun _ _ => rfl
        have hdz : ∀ u : World, u.drew.heap = u.heap := fun _ => rfl
        go_wp2_with (fail)
        refine bodyPost_ret (v := .tuple #[.agg #[.int .i64 base, .slice A' fs.length c'], .agg #[.slice B' fs.length d', .int .i64 an, .int .i64 width], .bool vb]) (by simp [results, Try.results36, go_sem, hdr, hdz, r0, r1, q0, q1, q2, zr1, zr2]) rfl ?_
        exact ⟨base, A', fs.length, c', B', fs.length, d', an, width, vb, rfl, (by repeat (first | assumption | exact Below.refl _ _ | refine Below.drew ?_ | (refine below_alloc _ ?_ ?_; focus (first | omega | (simp; done) | (simp; omega) | (simp at *; omega))) | (refine below_set _ ?_ ?_; focus (first | omega | (simp; done) | (simp; omega) | (simp at *; omega))) | refine below_drewN ?_ _ | (refine below_call (by assumption) ?_ ?_; focus (first | omega | (simp; done) | (simp; omega) | (simp at *; omega))) | (refine below_call' (by assumption) ?_ ?_; focus (first | omega | (simp; done) | (simp; omega) | (simp at *; omega))))), fun h => ⟨HSMP.out h, rfl, rfl, rfl, rfl, rfl, own_mono (own_below (ownsRow_setCell_below (ownsRow_setCell_below (ownsRow_setCell_below (ownsRow_setCell_below (ownsRow_setCell_below (hown) (by first | (show w.heap.size + 1 < _; omega) | (show w.heap.size + 1 + 1 < _; omega)) _) (by first | (show w.heap.size + 1 < _; omega) | (show w.heap.size + 1 + 1 < _; omega)) _) (by first | (show w.heap.size + 1 < _; omega) | (show w.heap.size + 1 + 1 < _; omega)) _) (by first | (show w.heap.size + 1 < _; omega) | (show w.heap.size + 1 + 1 < _; omega)) _) (by first | (show w.heap.size + 1 < _; omega) | (show w.heap.size + 1 + 1 < _; omega)) _) (Below.drew (Below.refl _ _))) (by omega), own_mono (own_below (ownsRow_setCell_below (ownsRow_setCell_below (ownsRow_setCell_below (ownsRow_setCell_below (ownsRow_setCell_below (hown2) (by first | (show w.heap.size + 1 < _; omega) | (show w.heap.size + 1 + 1 < _; omega)) _) (by first | (show w.heap.size + 1 < _; omega) | (show w.heap.size + 1 + 1 < _; omega)) _) (by first | (show w.heap.size + 1 < _; omega) | (show w.heap.size + 1 + 1 < _; omega)) _) (by first | (show w.heap.size + 1 < _; omega) | (show w.heap.size + 1 + 1 < _; omega)) _) (by first | (show w.heap.size + 1 < _; omega) | (show w.heap.size + 1 + 1 < _; omega)) _) (Below.drew (Below.refl _ _))) (by omega), hne2⟩⟩

end Go.Proofs.Ytoegpaolbkcleaa
