/-
  Chapter 2: the divisor of any numbers of 64 bits.
-/
import Derived.Test.YtlnbbioponmcfaaDoorESeq
namespace Go.Proofs.YtlnbbioponmcfaaDoor
open Go.ChangeShapes Go.WideShapes Go.ChangeAt Go.RowKit
set_option linter.unusedVariables false
set_option linter.unusedSimpArgs false

/-- a number of 64 bits -/
def N64 (n : Int) : Prop := -9223372036854775808 ≤ n ∧ n ≤ 9223372036854775807
theorem n64_wf {n : Int} (h : (Lit.int .i64 n).wf = true) : N64 n := by
  have e1 : IntKind.min .i64 = -9223372036854775808 := rfl
  have e2 : IntKind.max .i64 = 9223372036854775807 := rfl
  simp only [Lit.wf, e1, e2, Bool.and_eq_true, decide_eq_true_eq] at h
  exact h
structure SplR (s : Spl) : Prop where
  o0 : N64 s.o.re
  o1 : N64 s.o.im
  e0 : N64 s.e.re
  e1 : N64 s.e.im
  d : N64 s.d
theorem tmod_n64 (p q : Int) (hq : N64 q) (h0 : q ≠ 0) : N64 (p.tmod q) := by
  have := tmod_lt p q h0
  obtain ⟨a, b⟩ := hq
  constructor <;> omega
set_option maxHeartbeats 2000000 in
theorem divisor_some (A : Option Addr) (l : List Int) (cap : Nat) (w : World) (hl : l.length ≤ 100) (hb : ∀ x ∈ l, N64 x) (hA : IntsAt w A l) :
    Calls Tryd.prog 63 #[.slice A l.length cap] w fun e w' => ∃ n : Int, e = .returned (.int .i64 n) ∧ Below w.heap.size w w' := by
  have HB := Lib.hid hb
  clear hb
  go_enter Tryd.func63, Tryd.ntmps63
  go_wp2_with (fail)
  go_loopw [3, 8] (fun a i wr => ∃ (k : Nat) (x : Int), k ≤ l.length ∧ i = .int .i64 k ∧ a = .int .i64 x ∧ N64 x ∧ Below w.heap.size w wr) (fun _ i _ => l.length - (intOf i).toNat)
  case atStart => exact ⟨0, 0, Nat.zero_le _, rfl, rfl, ⟨by decide, by decide⟩, Below.refl _ _⟩
  case round =>
    obtain ⟨k, x, hk, rfl, rfl, hx, hbr⟩ := hrel
    obtain ⟨wo, rfl⟩ : ∃ wo : World, wo = wr := ⟨_, rfl⟩
    have HX := Lib.hid hx
    clear hx
    by_cases hlt : k < l.length
    · have HY := Lib.hid (HB.out _ (List.getElem_mem hlt))
      obtain ⟨b1, o1, rfl, hb1, c0⟩ := IntsAt.at_ (RowsAt.below hA hbr) hlt
      generalize l[k] = y at *
      have hk1 : (k : Int) < (l.length : Int) := by omega
      go_wp2_with (fail)
      go_loopw [3, 5] (fun a b wx => ∃ (p q : Int), a = .int .i64 p ∧ b = .int .i64 q ∧ N64 p ∧ N64 q ∧ Below w.heap.size w wx) (fun _ b _ => (intOf b).natAbs)
      case atStart => exact ⟨x, y, rfl, rfl, HX.out, HY.out, hbr⟩
      case round =>
        obtain ⟨p, q, rfl, rfl, hp, hq64, hbx⟩ := hrel
        by_cases hq : q = 0
        · subst hq
          go_wp2_with (fail)
          exact ⟨⟨k + 1, p, by omega, by go_num, rfl, hp, hbx⟩, by simp [intOf]; omega⟩
        · have hqn : (q != 0) = true := by simpa using hq
          have hqn2 : (q == 0) = false := by simpa using hq
          have hlt2 := tmod_lt p q hq
          have ht := tmod_n64 p q hq64 hq
          have HL := Lib.hid hlt2
          have HT := Lib.hid ht
          obtain ⟨ht0, ht1⟩ := ht
          obtain ⟨hp0, hp1⟩ := hp
          obtain ⟨hq0, hq1⟩ := hq64
          clear hlt2
          go_wp2_with (fail)
          go_region
          all_goals
            go_wp2_with (fail)
            go_roundw
            case rel => exact ⟨q, p.tmod q, rfl, rfl, ⟨hq0, hq1⟩, HT.out, (by repeat (first | assumption | exact Below.refl _ _ | refine Below.drew ?_ | (refine below_alloc _ ?_ ?_; focus (first | omega | (simp; done) | (simp; omega) | (simp at *; omega))) | (refine below_set _ ?_ ?_; focus (first | omega | (simp; done) | (simp; omega) | (simp at *; omega))) | refine below_drewN ?_ _ | (refine below_call (by assumption) ?_ ?_; focus (first | omega | (simp; done) | (simp; omega) | (simp at *; omega))) | (refine below_call' (by assumption) ?_ ?_; focus (first | omega | (simp; done) | (simp; omega) | (simp at *; omega)))))⟩
            case measure => simp only [intOf]; exact HL.out
    · have hkl : l.length ≤ k := by omega
      generalize hm : IntKind.i64.wrap (-x) = m
      by_cases hx : x < m
      · go_wp2_with (fail)
        all_goals
          go_ret
          first | exact ⟨m, rfl, hbr⟩ | exact ⟨x, rfl, hbr⟩ | exact ⟨⟨x, rfl⟩, hbr⟩ | exact ⟨⟨m, rfl⟩, hbr⟩
      · go_wp2_with (fail)
        all_goals
          go_ret
          first | exact ⟨m, rfl, hbr⟩ | exact ⟨x, rfl, hbr⟩ | exact ⟨⟨x, rfl⟩, hbr⟩ | exact ⟨⟨m, rfl⟩, hbr⟩
/-- the divisor of any numbers: some number; the greatest common divisor if they are small -/
theorem divisor_wild (A : Option Addr) (l : List Int) (cap : Nat) (w : World) (hl : l.length ≤ 100) (hb : ∀ x ∈ l, N64 x) (hA : IntsAt w A l) :
    Calls Tryd.prog 63 #[.slice A l.length cap] w fun e w' => ∃ n : Int, e = .returned (.int .i64 n) ∧ ((∀ x ∈ l, -1000000000000 ≤ x ∧ x ≤ 1000000000000) → n = (gcdL l 0 : Nat)) ∧ Below w.heap.size w w' := by
  by_cases h : ∀ x ∈ l, -1000000000000 ≤ x ∧ x ≤ 1000000000000
  · refine (divisor_any A l cap w hl h hA).mono fun e w' ⟨h1, h2⟩ => ⟨_, h1, fun _ => rfl, h2⟩
  · refine (divisor_some A l cap w hl hb hA).mono fun e w' ⟨n, h1, h2⟩ => ⟨n, h1, fun q => absurd q h, h2⟩
end Go.Proofs.YtlnbbioponmcfaaDoor
