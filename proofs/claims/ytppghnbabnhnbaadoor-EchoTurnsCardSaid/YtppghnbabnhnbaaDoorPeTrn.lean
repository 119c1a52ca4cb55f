/-
  EchoTurns: the statement, and its card.
-/
import Derived.Test.YtppghnbabnhnbaaDoorEOpn
import Derived.Test.YtppghnbabnhnbaaDoorCards
import Derived.Test.YtppghnbabnhnbaaDoorTie
import Derived.Test.YtppghnbabnhnbaaDoorETuW
import Derived.Test.YtppghnbabnhnbaaDoorEOpT2
namespace Go.Proofs.YtppghnbabnhnbaaDoor
open Go.ChangeShapes Go.WideShapes Go.ChangeAt Go.RowKit
set_option linter.unusedVariables false

set_option maxRecDepth 100000 in
theorem echoTurns_lifted (os : Os) (started : os.Started) (H : Type) (enc : TypeId × Value → H) :
    ReturnsInHanded {} Tryd.checked os 6 .any (fun w args => (Rows.echoTurnsSpec.pre enc Tryd.prog Tryd.f6 [] false w args ∧ laidMetH Tryd.prog laidL w) ∧ sizedMet enc Tryd.prog Tryd.f6 (OpenSpec.ofChange Rows.echoTurnsSpec) false w args) (Rows.echoTurnsSpec.post enc Tryd.prog Tryd.f6 false true false false) := by
  refine returnsInHanded_of_change_and (C := Tryd.checked) (X := fun w _ => laidMetH Tryd.prog laidL w) (fun _ _ _ hh h => h.of_heap hh) own_ started (by kernel_rfl) Tryd.func6
    (ChangeSpec.witness_shaped (enc := enc) (C := Tryd.checked) (os := os) (X := fun w _ => laidMetH Tryd.prog laidL w) false (World.doorLaid Tryd.prog 24 os) #[.slice none 0 0, .agg #[.int .i64 0, .int .i64 0], .agg #[.int .i64 0, .int .i64 0]] 8 rfl (World.shaped_of_RefB (by kernel_rfl) (by kernel_rfl)) (by kernel_rfl) (by kernel_rfl) (by kernel_rfl) (door_met os _)) ?_
  intro W base args ds gs before hval0 hW _ _ hL _
  have hval : ∀ (j : Nat) t v, Tryd.f6.params[j]? = some t → args[j]? = some v → Value.okWide Tryd.prog W .any base t v := hval0
  have hW' := hW
  obtain ⟨p, q, hA0, hV, rfl, hfz, hnd⟩ := hW
  have hA : DataW.TrodAll enc Tryd.prog W 0 (fun _ => true) true Tryd.f6.params.toList args.toList ds p := hA0
  rw [Tryd.params6] at hA hval
  obtain ⟨v0, v1, v2, d0, d1, d2, p0, p1, p2, rfl, rfl, rfl, h0, h1, h2⟩ := trodAll_three hA
  obtain ⟨rfl, rfl⟩ := trodVars_none hV
  obtain ⟨G0, gs0, cg0, rfl, hcg0, hG0⟩ := open_gaussesArg (hval 0 _ v0 rfl rfl) h0
  obtain ⟨g1, rfl⟩ := open_gaussArg (hval 1 _ v1 rfl rfl) h1
  obtain ⟨ta2, tb2, rfl⟩ := open_twoArg (hval 2 _ v2 rfl rfl) h2
  clear hA0 hval0
  refine (EchoTurns_any G0 gs0 cg0 g1 ta2 tb2 W (tab_of hL) hG0).mono fun e W' ⟨he, hb⟩ => ?_
  subst he
  exact ⟨_, rfl, _, _, _, [], _, [], hW', trodAll_mk1 (shut_bool Tryd.underlying4 _), trodAll_mk3 (Below.trod laidOut_ (by kernel_rfl) (of_decide_eq_true (by kernel_rfl)) h0 hb fun x hx => by first | exact hW'.lt x (by simp [hx]) | (simpa using hW'.lt x (by simpa using hx))) (Below.trod laidOut_ (by kernel_rfl) (of_decide_eq_true (by kernel_rfl)) h1 hb fun x hx => by first | exact hW'.lt x (by simp [hx]) | (simpa using hW'.lt x (by simpa using hx))) (Below.trod laidOut_ (by kernel_rfl) (of_decide_eq_true (by kernel_rfl)) h2 hb fun x hx => by first | exact hW'.lt x (by simp [hx]) | (simpa using hW'.lt x (by simpa using hx))), rfl, hb.frame _, fun h => by cases h⟩

/-- the row -/
theorem echoTurns_row : Rows.EchoTurnsSaid :=
  OpenClaim.holds_of_wide 6 Tryd.f6 rfl rfl rfl rfl rfl rfl rfl ⟨rfl, rfl, rfl, rfl, rfl⟩ rfl rfl rfl rfl rfl (by kernel_rfl) Tryd.func6 (by kernel_rfl)
    (of_decide_eq_true (by kernel_rfl)) (by unfold Func.isWrapper; first | (rw [if_pos (by decide +kernel)]; kernel_rfl) | (rw [if_neg (by decide +kernel)]; exact ⟨rfl, rfl⟩))
    (fun os started H enc _ => echoTurns_lifted os started H enc)

/-- the card -/
theorem turns_card : Rows.EchoTurnsCardSaid :=
  Claim7.holds_tied_plain_at .later [] [.data, .data, .data] true Rows.echoTurnsCard.stood.harness false
    echoTurns_row (fun _ h => by cases h) (by kernel_rfl) (fun _ h => by cases h) echoTurns_row_tie rfl ⟨rfl, rfl⟩ (by kernel_rfl) rfl
    (fun f fn hf hfn => by
      obtain rfl : f = 6 := Option.some.inj ((show Tryd.prog.funcNamed Rows.echoTurnsRow.func = some 6 by kernel_rfl).symm.trans hf) |>.symm
      obtain rfl : fn = Tryd.f6 := (Option.some.inj (Tryd.func6.symm.trans hfn)).symm
      exact ⟨by kernel_rfl, fun j t ht => by
        rw [Tryd.params6] at ht
        have hm : t ∈ [69, 24, 70] := by simpa using Array.mem_of_getElem? ht
        have hall : ([69, 24, 70].all fun u => !Tryd.prog.wantsStandIn u) = true := by kernel_rfl
        exact (show Tryd.prog.wantsStandIn t = false by simpa using List.all_eq_true.1 hall t hm)⟩)
    (by kernel_rfl)
end Go.Proofs.YtppghnbabnhnbaaDoor
