/-
  Chapter 8: how many thresholds are reached by a value.
-/
import Derived.Test.YtcfbnmcdncndpaaWLeaf
import Derived.Deep.DeepCutAuto
namespace Go.Proofs.Ytcfbnmcdncndpaa
open Go.ChangeShapes Go.WideShapes Go.ChangeAt Go.RowKit
set_option linter.unusedVariables false
set_option linter.unusedSimpArgs false

abbrev IntsAt := RowsAt 1 (fun (x : Int) _ => Value.int .i64 x)
theorem IntsAt.at_ {w : World} {A : Option Addr} {l : List Int} (h : IntsAt w A l) {k : Nat} (hk : k < l.length) :
    ∃ b off, A = some ⟨b, off, none⟩ ∧ b < w.heap.size ∧ w.cell? ⟨b, off + k, none⟩ = some (.int .i64 l[k]) := by
  obtain ⟨b, off, e, hb, hc⟩ := h k l[k] (List.getElem?_eq_getElem hk)
  exact ⟨b, off, e, hb, by have := hc 0 (by omega); simpa using this⟩
/-- the first place of a greater one -/
def upIdx (v : Int) : List Int → Int → Int
  | [], _ => -1
  | x :: r, k => if v < x then k else upIdx v r (k + 1)
def reach (l : List Int) (v : Int) : Int := if upIdx v l 0 < 0 then (l.length : Int) else upIdx v l 0
theorem reach1_any (b : Nat) (t v : Int) (w : World) (h : w.cell? ⟨b, 0, none⟩ = some (.int .i64 v)) :
    Calls Try.prog 117 #[.int .i64 t, .pointer (some ⟨b, 0, none⟩)] w fun e w' => e = .returned (.bool (decide (v < t))) ∧ w = w' := by
  go_enter Try.func117, Try.ntmps117
  go_wp2
  go_ret
  exact ⟨rfl, rfl⟩
theorem upIdx_bd (v : Int) : ∀ (l : List Int) (k : Int), 0 ≤ k → upIdx v l k = -1 ∨ (k ≤ upIdx v l k ∧ upIdx v l k < k + l.length)
  | [], k, _ => .inl rfl
  | x :: r, k, h => by
    unfold upIdx
    split
    · right; simp; omega
    · rcases upIdx_bd v r (k + 1) (by omega) with h1 | h1
      · exact .inl h1
      · right; simp; omega
theorem IndexUp_any (A : Option Addr) (l : List Int) (cap b : Nat) (v : Int) (w : World) (hl : l.length ≤ 100) (hA : IntsAt w A l) (hv : w.cell? ⟨b, 0, none⟩ = some (.int .i64 v)) :
    Calls Try.prog 116 #[.slice A l.length cap, .func (.func 117) #[] #[.pointer (some ⟨b, 0, none⟩)]] w fun e w' => e = .returned (.int .i64 (upIdx v l 0)) ∧ w = w' := by
  go_enter Try.func116, Try.ntmps116
  go_wp2
  go_loop [8] (fun i => ∃ k : Nat, k ≤ l.length ∧ i = .int .i64 k ∧ upIdx v l 0 = upIdx v (l.drop k) k) (fun i => l.length - (intOf i).toNat)
  case atStart => exact ⟨0, Nat.zero_le _, rfl, rfl⟩
  case round =>
    obtain ⟨k, hk, rfl, he⟩ := hrel
    have H := Lib.hid he
    clear he
    by_cases hlt : k < l.length
    · have hd : l.drop k = l[k] :: l.drop (k + 1) := List.drop_eq_getElem_cons hlt
      rw [hd] at H
      clear hd
      obtain ⟨bb, off, rfl, hb, h1⟩ := IntsAt.at_ hA hlt
      generalize l[k] = x at *
      by_cases hx : v < x
      · have hx' : decide (v < x) = true := by simpa using hx
        have HX := Lib.hid hx
        clear hx
        go_wp2_with (go_at_call 117; refine (reach1_any b x v _ hv).mono ?_; rintro e w' ⟨rfl, rfl⟩; rw [hx'])
        go_ret
        exact ⟨ret_int (by rw [H.out]; simp [upIdx, HX.out]), rfl⟩
      · have hx' : decide (v < x) = false := by simpa using hx
        have HX := Lib.hid hx
        clear hx
        go_wp2_with (go_at_call 117; refine (reach1_any b x v _ hv).mono ?_; rintro e w' ⟨rfl, rfl⟩; rw [hx'])
        go_round
        case rel => exact ⟨k + 1, by omega, by go_num, by rw [H.out, upIdx, if_neg (Int.not_lt.2 HX.out)]; rfl⟩
        case measure => simp [intOf]; omega
    · have e : l.drop k = [] := List.drop_eq_nil_of_le (by omega)
      rw [e] at H
      clear e
      go_wp2
      go_ret
      exact ⟨ret_int (by rw [H.out]; rfl), rfl⟩
theorem reached_any (A : Option Addr) (l : List Int) (cap : Nat) (v : Int) (w : World) (hl : l.length ≤ 100) (hA : IntsAt w A l) :
    Calls Try.prog 91 #[.slice A l.length cap, .int .i64 v] w fun e w' => e = .returned (.int .i64 (reach l v)) ∧ Below w.heap.size w w' := by
  have hr : reach l v = if upIdx v l 0 < 0 then (l.length : Int) else upIdx v l 0 := rfl
  have hbd := upIdx_bd v l 0 (by omega)
  have HR := Lib.hid hr
  clear hr
  have hc : (w.alloc (.cells #[.int .i64 v] 3)).cell? ⟨w.heap.size, 0, none⟩ = some (.int .i64 v) := cell_new rfl rfl
  have HC := Lib.hid hc
  clear hc
  have hA1 : IntsAt (w.alloc (.cells #[.int .i64 v] 3)) A l := hA.below (by repeat (first | assumption | exact Below.refl _ _ | refine Below.drew ?_ | (refine below_alloc _ ?_ ?_; focus (first | omega | (simp; done) | (simp; omega) | (simp at *; omega))) | (refine below_set _ ?_ ?_; focus (first | omega | (simp; done) | (simp; omega) | (simp at *; omega))) | refine below_drewN ?_ _ | (refine below_call (by assumption) ?_ ?_; focus (first | omega | (simp; done) | (simp; omega) | (simp at *; omega))) | (refine below_call' (by assumption) ?_ ?_; focus (first | omega | (simp; done) | (simp; omega) | (simp at *; omega)))))
  by_cases hn : upIdx v l 0 < 0
  · go_enter Try.func91, Try.ntmps91
    go_wp2_with (fail)
    refine (IndexUp_any A l cap _ v _ hl hA1 HC.out).mono ?_
    rintro e w' ⟨rfl, rfl⟩
    rw [if_pos hn] at HR
    clear hbd
    generalize upIdx v l 0 = n at *
    go_wp2_with (fail)
    go_ret
    exact ⟨ret_int HR.out.symm, (by repeat (first | assumption | exact Below.refl _ _ | refine Below.drew ?_ | (refine below_alloc _ ?_ ?_; focus (first | omega | (simp; done) | (simp; omega) | (simp at *; omega))) | (refine below_set _ ?_ ?_; focus (first | omega | (simp; done) | (simp; omega) | (simp at *; omega))) | refine below_drewN ?_ _ | (refine below_call (by assumption) ?_ ?_; focus (first | omega | (simp; done) | (simp; omega) | (simp at *; omega))) | (refine below_call' (by assumption) ?_ ?_; focus (first | omega | (simp; done) | (simp; omega) | (simp at *; omega)))))⟩
  · go_enter Try.func91, Try.ntmps91
    go_wp2_with (fail)
    refine (IndexUp_any A l cap _ v _ hl hA1 HC.out).mono ?_
    rintro e w' ⟨rfl, rfl⟩
    rw [if_neg (by omega)] at HR
    clear hbd
    generalize upIdx v l 0 = n at *
    go_wp2_with (fail)
    go_ret
    exact ⟨ret_int HR.out.symm, (by repeat (first | assumption | exact Below.refl _ _ | refine Below.drew ?_ | (refine below_alloc _ ?_ ?_; focus (first | omega | (simp; done) | (simp; omega) | (simp at *; omega))) | (refine below_set _ ?_ ?_; focus (first | omega | (simp; done) | (simp; omega) | (simp at *; omega))) | refine below_drewN ?_ _ | (refine below_call (by assumption) ?_ ?_; focus (first | omega | (simp; done) | (simp; omega) | (simp at *; omega))) | (refine below_call' (by assumption) ?_ ?_; focus (first | omega | (simp; done) | (simp; omega) | (simp at *; omega)))))⟩
end Go.Proofs.Ytcfbnmcdncndpaa
