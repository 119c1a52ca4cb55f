/-
  ProfileMetric: the statement.
-/
import Derived.Test.YtoegpaolbkcleaaRows
import Derived.Test.YtoegpaolbkcleaaLaw12
import Derived.Test.YtoegpaolbkcleaaOpn
namespace Go.Proofs.Ytoegpaolbkcleaa
open Go.ChangeShapes Go.WideShapes Go.ChangeAt Go.RowKit
set_option linter.unusedVariables false

set_option maxRecDepth 100000 in
theorem metric_lifted (os : Os) (started : os.Started) (H : Type) (enc : TypeId × Value → H) :
    ReturnsInHanded {} Try.checked os 12 .any (Rows.profileMetricSpec.pre6 enc Try.prog Try.f12 Rows.profileMetricRow.domain false) (Rows.profileMetricSpec.post enc Try.prog Try.f12 false true false false) := by
  refine returnsInHanded_of_change (C := Try.checked) own_ started (by kernel_rfl) Try.func12
    (ChangeSpec.witness6 (enc := enc) (C := Try.checked) false ⟨#[], #[.agg #[.int .i64 0, .slice none 0 0], .agg #[.int .i64 0, .slice none 0 0], .agg #[.int .i64 0, .slice none 0 0]], []⟩ 8 (by kernel_rfl) (by kernel_rfl) (by kernel_rfl) (by kernel_rfl)) ?_
  intro W base args ds gs before hval0 hW hcnd _
  have hval : ∀ (j : Nat) t v, Try.f12.params[j]? = some t → args[j]? = some v → Value.okWide Try.prog W .any base t v := hval0
  have hW' := hW
  obtain ⟨p, q, hA0, hV, rfl, hfz, hnd⟩ := hW
  have hA : DataW.TrodAll enc Try.prog W 0 (fun _ => true) true Try.f12.params.toList args.toList ds p := hA0
  rw [Try.params12] at hA hval
  obtain ⟨v0, v1, v2, d0, d1, d2, p0, p1, p2, rfl, rfl, rfl, h0, h1, h2⟩ := trodAll_three hA
  obtain ⟨rfl, rfl⟩ := trodVars_none hV
  obtain ⟨bs, A, l, cap, rfl, hcap, hS⟩ := open_sky (hval 0 _ v0 rfl rfl) h0
  obtain ⟨bs2, A2, l2, cap2, rfl, hcap2, hS2⟩ := open_sky (hval 1 _ v1 rfl rfl) h1
  obtain ⟨bs3, A3, l3, cap3, rfl, hcap3, hS3⟩ := open_sky (hval 2 _ v2 rfl rfl) h2
  clear hA0 hval0
  refine (ProfileMetric_any bs A l cap bs2 A2 l2 cap2 bs3 A3 l3 cap3 W hS hS2 hS3).mono fun e W' ⟨he, hb⟩ => ?_
  subst he
  refine ⟨_, rfl, _, _, _, [], _, [], hW', trodAll_mk1 (shut_bool Try.underlying4 _), trodAll_mk3 (Below.trod laidOut_ (by kernel_rfl) (of_decide_eq_true (by kernel_rfl)) h0 hb fun x hx => by exact hW'.lt x (by simp [hx])) (Below.trod laidOut_ (by kernel_rfl) (of_decide_eq_true (by kernel_rfl)) h1 hb fun x hx => by exact hW'.lt x (by simp [hx])) (Below.trod laidOut_ (by kernel_rfl) (of_decide_eq_true (by kernel_rfl)) h2 hb fun x hx => by exact hW'.lt x (by simp [hx])), rfl, hb.frame _, fun h => by cases h⟩

/-- the statement -/
theorem profileMetric : Rows.ProfileMetricSaid :=
  OpenClaim.holds_of_wide 12 Try.f12 rfl rfl rfl rfl rfl rfl rfl ⟨rfl, rfl, rfl, rfl, rfl⟩ rfl rfl rfl rfl rfl (by kernel_rfl) Try.func12 (by kernel_rfl)
    (of_decide_eq_true (by kernel_rfl)) (by unfold Func.isWrapper; first | (rw [if_pos (by decide +kernel)]; kernel_rfl) | (rw [if_neg (by decide +kernel)]; exact ⟨rfl, rfl⟩))
    (fun os started H enc _ => metric_lifted os started H enc)
end Go.Proofs.Ytoegpaolbkcleaa
