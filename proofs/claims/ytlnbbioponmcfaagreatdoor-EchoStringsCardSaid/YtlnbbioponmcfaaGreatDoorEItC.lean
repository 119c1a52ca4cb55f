/-
  Chapter 2: echoes copied and compared.
-/
import Derived.Test.YtlnbbioponmcfaaGreatDoorEEch
namespace Go.Proofs.YtlnbbioponmcfaaGreatDoor
open Go.ChangeShapes Go.WideShapes Go.ChangeAt Go.RowKit
set_option linter.unusedVariables false
set_option linter.unusedSimpArgs false

def CopyItPost (l : List It) (w : World) (e : Ending) (w' : World) : Prop :=
  ∃ A' c', e = .returned (.slice A' l.length c') ∧ w'.ownsRow w.heap.size 58 5 (.slice A' l.length c') l.length (cellsOf 5 itC l) ∧ Below w.heap.size w w'
theorem CopyItPost.rows {l : List It} {w : World} {e : Ending} {w' : World} (h : CopyItPost l w e w') : ∃ A' c', e = .returned (.slice A' l.length c') ∧ ItsAt w' A' l ∧ Below w.heap.size w w' := by
  obtain ⟨A', c', e, o, b⟩ := h
  exact ⟨A', c', e, rowsAt_of_own o rfl (by decide), b⟩
set_option maxHeartbeats 1000000 in
theorem CopyIt_any (B : Option Addr) (l : List It) (cap : Nat) (w : World) (hl : l.length ≤ 1000) (hB : ItsAt w B l) :
    Calls Tryz.prog 19 #[.slice B l.length cap] w (CopyItPost l w) := by
  obtain ⟨i0, hi0, hz0, hz1, hz2⟩ := infoIt_
  go_enter Tryz.func19, Tryz.ntmps19
  go_wp2_with (at_builtin; (refine wpList_append_rows _ rfl (.tmp 3) (.tmp 4) 51 rfl w.heap.size 58 i0 (.agg #[.int .i64 0, .int .i64 0, .int .i64 0, .int .i64 0, .int .i64 0]) 5 40 Tryz.underlying51 hi0 hz0 hz1 hz2 rfl (by decide) (some ⟨w.heap.size, 0, none⟩) 0 0 [] rfl (own_empty (Nat.le_refl _) (heap_alloc_new _ _)) B l.length cap (cellsOf 5 itC l) rfl (cellsOf_length l) (fun e => by subst e; exact RowsAt.nil_len hB) (fun ad e => by subst e; exact RowsAt.news (RowsAt.below hB (by repeat (first | assumption | exact Below.refl _ _ | refine Below.drew ?_ | (refine below_alloc _ ?_ ?_; focus (first | omega | (simp; done) | (simp; omega) | (simp at *; omega))) | (refine below_set _ ?_ ?_; focus (first | omega | (simp; done) | (simp; omega) | (simp at *; omega))) | refine below_drewN ?_ _ | (refine below_call (by assumption) ?_ ?_; focus (first | omega | (simp; done) | (simp; omega) | (simp at *; omega))) | (refine below_call' (by assumption) ?_ ?_; focus (first | omega | (simp; done) | (simp; omega) | (simp at *; omega)))))) (by decide)) memOneIt (by unfold maxLen; omega) (by omega) (by simp) ?_; intro A' c' w1 hown hg _; rw [Nat.zero_add, List.nil_append] at hown; (try rw [Nat.zero_add]); have hb1 : Below w.heap.size w w1 := grown_below hg (by omega) (by omega) (by repeat (first | assumption | exact Below.refl _ _ | refine Below.drew ?_ | (refine below_alloc _ ?_ ?_; focus (first | omega | (simp; done) | (simp; omega) | (simp at *; omega))) | (refine below_set _ ?_ ?_; focus (first | omega | (simp; done) | (simp; omega) | (simp at *; omega))) | refine below_drewN ?_ _ | (refine below_call (by assumption) ?_ ?_; focus (first | omega | (simp; done) | (simp; omega) | (simp at *; omega))) | (refine below_call' (by assumption) ?_ ?_; focus (first | omega | (simp; done) | (simp; omega) | (simp at *; omega))))); clear hg))
  go_ret
  exact ⟨A', c', rfl, hown, hb1⟩
theorem neIt (a : It) (w : World) : (binOp .neq 58 (.agg #[.int .i64 a.l, .int .i64 a.p, .int .i64 a.t, .int .i64 a.lo, .int .i64 a.hi]) (.agg #[.int .i64 a.l, .int .i64 a.p, .int .i64 a.t, .int .i64 a.lo, .int .i64 a.hi])).run Tryz.prog w = .ok (.bool false) w := by
  go_simp
set_option maxHeartbeats 1000000 in
theorem SameEchoes_refl (A B : Option Addr) (l : List It) (ca cb : Nat) (w : World) (hl : l.length ≤ 1000) (hA : ItsAt w A l) (hB : ItsAt w B l) :
    Calls Tryz.prog 20 #[.slice A l.length ca, .slice B l.length cb] w fun e w' => e = .returned (.bool true) ∧ Below w.heap.size w w' := by
  go_enter Tryz.func20, Tryz.ntmps20
  go_wp2
  go_loopw [5] (fun i wr => ∃ k : Nat, k ≤ l.length ∧ i = .int .i64 k ∧ Below w.heap.size w wr) (fun i _ => l.length - (intOf i).toNat)
  case atStart => exact ⟨0, Nat.zero_le _, rfl, Below.refl _ _⟩
  case round =>
    obtain ⟨k, hk, rfl, hbw⟩ := hrel
    have hAr := RowsAt.below hA hbw
    have hBr := RowsAt.below hB hbw
    by_cases hlt : k < l.length
    · obtain ⟨b1, o1, rfl, hb1, c0, c1, c2, c3, c4⟩ := ItsAt.at_ hAr hlt
      obtain ⟨b2, o2, rfl, hb2, d0, d1, d2, d3, d4⟩ := ItsAt.at_ hBr hlt
      generalize l[k] = p at *
      go_wp2
      go_quiet (fail)
      go_wp2
      go_roundw
      case rel => exact ⟨k + 1, by omega, by go_num, (by repeat (first | assumption | exact Below.refl _ _ | refine Below.drew ?_ | (refine below_alloc _ ?_ ?_; focus (first | omega | (simp; done) | (simp; omega) | (simp at *; omega))) | (refine below_set _ ?_ ?_; focus (first | omega | (simp; done) | (simp; omega) | (simp at *; omega))) | refine below_drewN ?_ _ | (refine below_call (by assumption) ?_ ?_; focus (first | omega | (simp; done) | (simp; omega) | (simp at *; omega))) | (refine below_call' (by assumption) ?_ ?_; focus (first | omega | (simp; done) | (simp; omega) | (simp at *; omega)))))⟩
      case measure => simp [intOf]; omega
    · go_wp2
      go_ret
      exact ⟨rfl, (by repeat (first | assumption | exact Below.refl _ _ | refine Below.drew ?_ | (refine below_alloc _ ?_ ?_; focus (first | omega | (simp; done) | (simp; omega) | (simp at *; omega))) | (refine below_set _ ?_ ?_; focus (first | omega | (simp; done) | (simp; omega) | (simp at *; omega))) | refine below_drewN ?_ _ | (refine below_call (by assumption) ?_ ?_; focus (first | omega | (simp; done) | (simp; omega) | (simp at *; omega))) | (refine below_call' (by assumption) ?_ ?_; focus (first | omega | (simp; done) | (simp; omega) | (simp at *; omega)))))⟩
end Go.Proofs.YtlnbbioponmcfaaGreatDoor
