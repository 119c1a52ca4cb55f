/-
  WarnRuns: the statement.
-/
import Derived.Test.YtcfbnmcdncndpaaRows
import Derived.Test.YtcfbnmcdncndpaaLw04
import Derived.Test.YtcfbnmcdncndpaaWOpM
namespace Go.Proofs.Ytcfbnmcdncndpaa
open Go.ChangeShapes Go.WideShapes Go.ChangeAt Go.RowKit
set_option linter.unusedVariables false

set_option maxRecDepth 100000 in
theorem warnRuns_lifted (os : Os) (started : os.Started) (H : Type) (enc : TypeId × Value → H) :
    ReturnsInHanded {} Try.checked os 4 .any (Rows.warnRunsSpec.pre6 enc Try.prog Try.f4 Rows.warnRunsRow.domain false) (Rows.warnRunsSpec.post enc Try.prog Try.f4 false true false false) := by
  refine returnsInHanded_of_change (C := Try.checked) own_ started (by kernel_rfl) Try.func4
    (ChangeSpec.witness6 (enc := enc) (C := Try.checked) false ⟨#[], #[.agg #[.slice none 0 0, .slice none 0 0, .slice none 0 0], .slice none 0 0], []⟩ 8 (by kernel_rfl) (by kernel_rfl) (by kernel_rfl) (by kernel_rfl)) ?_
  intro W base args ds gs before hval0 hW hcnd _
  have hval : ∀ (j : Nat) t v, Try.f4.params[j]? = some t → args[j]? = some v → Value.okWide Try.prog W .any base t v := hval0
  have hW' := hW
  obtain ⟨p, q, hA0, hV, rfl, hfz, hnd⟩ := hW
  have hA : DataW.TrodAll enc Try.prog W 0 (fun _ => true) true Try.f4.params.toList args.toList ds p := hA0
  rw [Try.params4] at hA hval
  obtain ⟨v0, v1, d0, d1, p0, p1, rfl, rfl, rfl, h0, h1⟩ := trodAll_two hA
  obtain ⟨rfl, rfl⟩ := trodVars_none hV
  obtain ⟨A1, c1, A2, c2, A3, c3, L, rfl, hc1, hc2, hc3, hR⟩ := open_link (hval 0 _ v0 rfl rfl) h0
  obtain ⟨M1, ms1, cm1, rfl, hcm1, hM1⟩ := open_moves (hval 1 _ v1 rfl rfl) h1
  clear hA0 hval0
  refine (WarnRuns_any A1 c1 A2 c2 A3 c3 L M1 ms1 cm1 W hR hM1).mono fun e W' ⟨he, hb⟩ => ?_
  subst he
  exact ⟨_, rfl, _, _, _, [], _, [], hW', trodAll_mk1 (shut_bool Try.underlying4 _), trodAll_mk2 (Below.trod laidOut_ (by kernel_rfl) (of_decide_eq_true (by kernel_rfl)) h0 hb fun x hx => by first | exact hW'.lt x (by simp [hx]) | (simpa using hW'.lt x (by simpa using hx))) (Below.trod laidOut_ (by kernel_rfl) (of_decide_eq_true (by kernel_rfl)) h1 hb fun x hx => by first | exact hW'.lt x (by simp [hx]) | (simpa using hW'.lt x (by simpa using hx))), rfl, hb.frame _, fun h => by cases h⟩

/-- the statement -/
theorem warnRuns : Rows.WarnRunsSaid :=
  OpenClaim.holds_of_wide 4 Try.f4 rfl rfl rfl rfl rfl rfl rfl ⟨rfl, rfl, rfl, rfl, rfl⟩ rfl rfl rfl rfl rfl (by kernel_rfl) Try.func4 (by kernel_rfl)
    (of_decide_eq_true (by kernel_rfl)) (by unfold Func.isWrapper; first | (rw [if_pos (by decide +kernel)]; kernel_rfl) | (rw [if_neg (by decide +kernel)]; exact ⟨rfl, rfl⟩))
    (fun os started H enc _ => warnRuns_lifted os started H enc)
end Go.Proofs.Ytcfbnmcdncndpaa
