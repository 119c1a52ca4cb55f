/-
  Chapter 8: the error of a message; copies of messages; messages that are the same; the first of a name.
-/
import Derived.Test.YtcfbnmcdncndpaaWRcv
import Derived.Test.YtcfbnmcdncndpaaWLev
import Derived.WalkSpells
namespace Go.Proofs.Ytcfbnmcdncndpaa
open Go.ChangeShapes Go.WideShapes Go.ChangeAt Go.RowKit
set_option linter.unusedVariables false
set_option linter.unusedSimpArgs false

def msgE (m : Msg) : Int := firstE [unl (isNm m.s) 4, unl (withinB m.v 1 1000000 && withinB m.l 0 4) 2]
theorem messageErr_any (m : Msg) (w : World) (hs : m.s.size ≤ 1000) :
    Calls Try.prog 104 #[.agg #[.string m.s, .int .i64 m.v, .int .i64 m.l]] w fun e w' => e = .returned (.int .i64 (msgE m)) ∧ Below w.heap.size w w' := by
  have he : msgE m = firstE [unl (isNm m.s) 4, unl (withinB m.v 1 1000000 && withinB m.l 0 4) 2] := rfl
  have HN := Lib.hid (fun W => nameErr_any m.s W hs)
  cases h1 : withinB m.v 1 1000000
  all_goals
    rw [h1] at he
    have HE := Lib.hid he
    have H1 := Lib.hid h1
    clear he h1 hs
    go_enter Try.func104, Try.ntmps104
    go_wp2_with (first | (go_at_call 88; with_reducible refine (within_any m.v 1 1000000 _).mono ?_; rintro e w' ⟨rfl, rfl⟩; rw [H1.out]) | (go_at_call 88; refine (within_any m.l 0 4 _).mono ?_; rintro e w' ⟨rfl, rfl⟩))
    refine (HN.out _).mono ?_
    rintro e w1 ⟨rfl, hb1⟩
    have hbw : Below w.heap.size w w1 := (by repeat (first | assumption | exact Below.refl _ _ | refine Below.drew ?_ | (refine below_alloc _ ?_ ?_; focus (first | omega | (simp; done) | (simp; omega) | (simp at *; omega))) | (refine below_set _ ?_ ?_; focus (first | omega | (simp; done) | (simp; omega) | (simp at *; omega))) | refine below_drewN ?_ _ | (refine below_call (by assumption) ?_ ?_; focus (first | omega | (simp; done) | (simp; omega) | (simp at *; omega))) | (refine below_call' (by assumption) ?_ ?_; focus (first | omega | (simp; done) | (simp; omega) | (simp at *; omega)))))
    clear hb1
    go_wp2_with (first | (go_at_call 86; refine (unless_any _ _ _).mono ?_; rintro e w' ⟨rfl, rfl⟩) | (go_at_call 84; refine (first2 _ _ _ _ (by simp) (cell_new (by simp) rfl) (cell_new (by simp) rfl)).mono ?_; rintro e w' ⟨rfl, rfl⟩))
    go_ret
    exact ⟨by rw [HE.out]; rfl, (by repeat (first | assumption | exact Below.refl _ _ | refine Below.drew ?_ | (refine below_alloc _ ?_ ?_; focus (first | omega | (simp; done) | (simp; omega) | (simp at *; omega))) | (refine below_set _ ?_ ?_; focus (first | omega | (simp; done) | (simp; omega) | (simp at *; omega))) | refine below_drewN ?_ _ | (refine below_call (by assumption) ?_ ?_; focus (first | omega | (simp; done) | (simp; omega) | (simp at *; omega))) | (refine below_call' (by assumption) ?_ ?_; focus (first | omega | (simp; done) | (simp; omega) | (simp at *; omega)))))⟩
theorem MessageErr_any (m : Msg) (w : World) :
    Calls Try.prog 53 #[.agg #[.string m.s, .int .i64 m.v, .int .i64 m.l]] w fun e w' => e = .returned (.int .i64 (msgE m)) ∧ Below w.heap.size w w' := by
  have he : msgE m = firstE [unl (isNm m.s) 4, unl (withinB m.v 1 1000000 && withinB m.l 0 4) 2] := rfl
  cases h0 : isNm m.s <;> cases h1 : withinB m.v 1 1000000 <;> cases h2 : withinB m.l 0 4
  all_goals
    rw [h0, h1, h2] at he
    have HE := Lib.hid he
    have H0 := Lib.hid h0
    have H1 := Lib.hid h1
    have H2 := Lib.hid h2
    clear he h0 h1 h2
    go_enter Try.func53, Try.ntmps53
    go_wp2_with (first | (go_at_call 92; refine (IsName_any _ _).mono ?_; rintro e w' ⟨rfl, rfl⟩; rw [H0.out]) | (go_at_call 22; with_reducible refine (Within_any m.v 1 1000000 _).mono ?_; rintro e w' ⟨rfl, rfl⟩; rw [H1.out]) | (go_at_call 22; refine (Within_any m.l 0 4 _).mono ?_; rintro e w' ⟨rfl, rfl⟩; rw [H2.out]))
    go_ret
    exact ⟨by rw [HE.out]; rfl, (by repeat (first | assumption | exact Below.refl _ _ | refine Below.drew ?_ | (refine below_alloc _ ?_ ?_; focus (first | omega | (simp; done) | (simp; omega) | (simp at *; omega))) | (refine below_set _ ?_ ?_; focus (first | omega | (simp; done) | (simp; omega) | (simp at *; omega))) | refine below_drewN ?_ _ | (refine below_call (by assumption) ?_ ?_; focus (first | omega | (simp; done) | (simp; omega) | (simp at *; omega))) | (refine below_call' (by assumption) ?_ ?_; focus (first | omega | (simp; done) | (simp; omega) | (simp at *; omega)))))⟩
def CopyMPost (l : List Msg) (w : World) (e : Ending) (w' : World) : Prop :=
  ∃ A' c', e = .returned (.slice A' l.length c') ∧ w'.ownsRow w.heap.size 45 3 (.slice A' l.length c') l.length (cellsOf 3 msgC l) ∧ Below w.heap.size w w'
set_option maxHeartbeats 1000000 in
theorem CopyMessages_any (B : Option Addr) (l : List Msg) (cap : Nat) (w : World) (hl : l.length ≤ 300) (hB : MsgsAt w B l) :
    Calls Try.prog 56 #[.slice B l.length cap] w (CopyMPost l w) := by
  obtain ⟨i0, hi0, hz0, hz1, hz2⟩ := infoMsg_
  go_enter Try.func56, Try.ntmps56
  go_wp2_with (at_builtin; (refine wpList_append_rows _ rfl (.tmp 3) (.tmp 4) 38 rfl w.heap.size 45 i0 (.agg #[.string ⟨#[]⟩, .int .i64 0, .int .i64 0]) 3 32 Try.underlying38 hi0 hz0 hz1 hz2 rfl (by decide) (some ⟨w.heap.size, 0, none⟩) 0 0 [] rfl (own_empty (Nat.le_refl _) (heap_alloc_new _ _)) B l.length cap (cellsOf 3 msgC l) rfl (cellsM_len l) (fun e => by subst e; exact RowsAt.nil_len hB) (fun ad e => by subst e; exact RowsAt.news (RowsAt.below hB (by repeat (first | assumption | exact Below.refl _ _ | refine Below.drew ?_ | (refine below_alloc _ ?_ ?_; focus (first | omega | (simp; done) | (simp; omega) | (simp at *; omega))) | (refine below_set _ ?_ ?_; focus (first | omega | (simp; done) | (simp; omega) | (simp at *; omega))) | refine below_drewN ?_ _ | (refine below_call (by assumption) ?_ ?_; focus (first | omega | (simp; done) | (simp; omega) | (simp at *; omega))) | (refine below_call' (by assumption) ?_ ?_; focus (first | omega | (simp; done) | (simp; omega) | (simp at *; omega)))))) (by decide)) mem_one (by unfold maxLen; omega) (by omega) (by simp) ?_; intro A' c' w1 hown hg _; rw [Nat.zero_add, List.nil_append] at hown; (try rw [Nat.zero_add]); have hb1 : Below w.heap.size w w1 := grown_below hg (by omega) (by omega) (by repeat (first | assumption | exact Below.refl _ _ | refine Below.drew ?_ | (refine below_alloc _ ?_ ?_; focus (first | omega | (simp; done) | (simp; omega) | (simp at *; omega))) | (refine below_set _ ?_ ?_; focus (first | omega | (simp; done) | (simp; omega) | (simp at *; omega))) | refine below_drewN ?_ _ | (refine below_call (by assumption) ?_ ?_; focus (first | omega | (simp; done) | (simp; omega) | (simp at *; omega))) | (refine below_call' (by assumption) ?_ ?_; focus (first | omega | (simp; done) | (simp; omega) | (simp at *; omega))))); clear hg))
  go_ret
  exact ⟨A', c', rfl, hown, hb1⟩
set_option maxHeartbeats 1000000 in
theorem CloneM_any (B : Option Addr) (l : List Msg) (cap : Nat) (w : World) (hl : l.length ≤ 300) (hB : MsgsAt w B l) :
    Calls Try.prog 128 #[.slice B l.length cap] w (CopyMPost l w) := by
  obtain ⟨i0, hi0, hz0, hz1, hz2⟩ := infoMsg_
  have q : ∀ (w : World) (a : Option Addr) (n c n' c' : Nat), (binOp .eql 38 (.slice a n c) (.slice none n' c')).run Try.prog w = .ok (.bool a.isNone) w := fun w a n c n' c' => Lib.run_eql_slice_nil w _ _ a n c n' c' Try.underlying38
  cases B with
  | none =>
    have h0 := RowsAt.nil_len hB
    obtain rfl : l = [] := List.eq_nil_of_length_eq_zero h0
    go_enter Try.func128, Try.ntmps128
    go_wp2
    go_ret
    exact ⟨none, 0, rfl, World.ownsRow_nil _ _ _ _, (by repeat (first | assumption | exact Below.refl _ _ | refine Below.drew ?_ | (refine below_alloc _ ?_ ?_; focus (first | omega | (simp; done) | (simp; omega) | (simp at *; omega))) | (refine below_set _ ?_ ?_; focus (first | omega | (simp; done) | (simp; omega) | (simp at *; omega))) | refine below_drewN ?_ _ | (refine below_call (by assumption) ?_ ?_; focus (first | omega | (simp; done) | (simp; omega) | (simp at *; omega))) | (refine below_call' (by assumption) ?_ ?_; focus (first | omega | (simp; done) | (simp; omega) | (simp at *; omega)))))⟩
  | some b =>
    go_enter Try.func128, Try.ntmps128
    go_wp2_with (at_builtin; (refine wpList_append_rows _ rfl (.tmp 5) (.tmp 6) 38 rfl w.heap.size 45 i0 (.agg #[.string ⟨#[]⟩, .int .i64 0, .int .i64 0]) 3 32 Try.underlying38 hi0 hz0 hz1 hz2 rfl (by decide) (some ⟨w.heap.size, 0, none⟩) 0 0 [] rfl (own_empty (Nat.le_refl _) (heap_alloc_new _ _)) (some b) l.length cap (cellsOf 3 msgC l) rfl (cellsM_len l) (fun e => by cases e) (fun ad e => by cases e; exact RowsAt.news (RowsAt.below hB (by repeat (first | assumption | exact Below.refl _ _ | refine Below.drew ?_ | (refine below_alloc _ ?_ ?_; focus (first | omega | (simp; done) | (simp; omega) | (simp at *; omega))) | (refine below_set _ ?_ ?_; focus (first | omega | (simp; done) | (simp; omega) | (simp at *; omega))) | refine below_drewN ?_ _ | (refine below_call (by assumption) ?_ ?_; focus (first | omega | (simp; done) | (simp; omega) | (simp at *; omega))) | (refine below_call' (by assumption) ?_ ?_; focus (first | omega | (simp; done) | (simp; omega) | (simp at *; omega)))))) (by decide)) mem_one (by unfold maxLen; omega) (by omega) (by simp) ?_; intro A' c' w1 hown hg _; rw [Nat.zero_add, List.nil_append] at hown; (try rw [Nat.zero_add]); have hb1 : Below w.heap.size w w1 := grown_below hg (by omega) (by omega) (by repeat (first | assumption | exact Below.refl _ _ | refine Below.drew ?_ | (refine below_alloc _ ?_ ?_; focus (first | omega | (simp; done) | (simp; omega) | (simp at *; omega))) | (refine below_set _ ?_ ?_; focus (first | omega | (simp; done) | (simp; omega) | (simp at *; omega))) | refine below_drewN ?_ _ | (refine below_call (by assumption) ?_ ?_; focus (first | omega | (simp; done) | (simp; omega) | (simp at *; omega))) | (refine below_call' (by assumption) ?_ ?_; focus (first | omega | (simp; done) | (simp; omega) | (simp at *; omega))))); clear hg))
    go_ret
    exact ⟨A', c', rfl, hown, hb1⟩
set_option maxHeartbeats 1000000 in
theorem SameM_refl (A B : Option Addr) (l : List Msg) (ca cb : Nat) (w : World) (hl : l.length ≤ 300) (hA : MsgsAt w A l) (hB : MsgsAt w B l) :
    Calls Try.prog 57 #[.slice A l.length ca, .slice B l.length cb] w fun e w' => e = .returned (.bool true) ∧ Below w.heap.size w w' := by
  go_enter Try.func57, Try.ntmps57
  go_wp2
  go_loopw [5] (fun i wr => ∃ k : Nat, k ≤ l.length ∧ i = .int .i64 k ∧ Below w.heap.size w wr) (fun i _ => l.length - (intOf i).toNat)
  case atStart => exact ⟨0, Nat.zero_le _, rfl, Below.refl _ _⟩
  case round =>
    obtain ⟨k, hk, rfl, hbw⟩ := hrel
    have hAr := hA.below hbw
    have hBr := hB.below hbw
    by_cases hlt : k < l.length
    · obtain ⟨b1, o1, rfl, hb1, c0, c1, c2⟩ := MsgsAt.at_ hAr hlt
      obtain ⟨b2, o2, rfl, hb2, d0, d1, d2⟩ := MsgsAt.at_ hBr hlt
      generalize l[k] = p at *
      go_wp2
      go_quiet (fail)
      go_wp2
      go_roundw
      case rel => exact ⟨k + 1, by omega, by go_num, (by repeat (first | assumption | exact Below.refl _ _ | refine Below.drew ?_ | (refine below_alloc _ ?_ ?_; focus (first | omega | (simp; done) | (simp; omega) | (simp at *; omega))) | (refine below_set _ ?_ ?_; focus (first | omega | (simp; done) | (simp; omega) | (simp at *; omega))) | refine below_drewN ?_ _ | (refine below_call (by assumption) ?_ ?_; focus (first | omega | (simp; done) | (simp; omega) | (simp at *; omega))) | (refine below_call' (by assumption) ?_ ?_; focus (first | omega | (simp; done) | (simp; omega) | (simp at *; omega)))))⟩
      case measure => simp [intOf]; omega
    · go_wp2
      go_ret
      exact ⟨rfl, (by repeat (first | assumption | exact Below.refl _ _ | refine Below.drew ?_ | (refine below_alloc _ ?_ ?_; focus (first | omega | (simp; done) | (simp; omega) | (simp at *; omega))) | (refine below_set _ ?_ ?_; focus (first | omega | (simp; done) | (simp; omega) | (simp at *; omega))) | refine below_drewN ?_ _ | (refine below_call (by assumption) ?_ ?_; focus (first | omega | (simp; done) | (simp; omega) | (simp at *; omega))) | (refine below_call' (by assumption) ?_ ?_; focus (first | omega | (simp; done) | (simp; omega) | (simp at *; omega)))))⟩
theorem Find_any (A : Option Addr) (l : List Msg) (cap : Nat) (s : ByteArray) (w : World) (hl : l.length ≤ 300) (hA : MsgsAt w A l) :
    Calls Try.prog 33 #[.slice A l.length cap, .string s] w fun e w' => e = .returned (.int .i64 (findM s l 0)) ∧ w = w' := by
  go_enter Try.func33, Try.ntmps33
  go_wp2
  go_loop [5] (fun i => ∃ k : Nat, k ≤ l.length ∧ i = .int .i64 k ∧ findM s l 0 = findM s (l.drop k) k) (fun i => l.length - (intOf i).toNat)
  case atStart => exact ⟨0, Nat.zero_le _, rfl, rfl⟩
  case round =>
    obtain ⟨k, hk, rfl, he⟩ := hrel
    by_cases hlt : k < l.length
    · obtain ⟨b1, o1, rfl, hb1, c0, c1, c2⟩ := MsgsAt.at_ hA hlt
      have hd : l.drop k = l[k] :: l.drop (k + 1) := List.drop_eq_getElem_cons hlt
      rw [hd] at he
      generalize l[k] = x at *
      by_cases hx : x.s = s
      · have hb : (x.s.toList == s.toList) = true := by rw [hx]; simp
        rw [findM, if_pos hx] at he
        have HE := Lib.hid he
        clear he hx hd
        go_wp2
        go_ret
        exact ⟨ret_int HE.out.symm, rfl⟩
      · have hb : (x.s.toList == s.toList) = false := by
          simp only [beq_eq_false_iff_ne]; exact fun e => hx (toList_inj e)
        rw [findM, if_neg hx] at he
        have HE := Lib.hid he
        clear he hx hd
        go_wp2
        go_round
        case rel => exact ⟨k + 1, by omega, by go_num, HE.out⟩
        case measure => simp [intOf]; omega
    · have hd : l.drop k = [] := List.drop_eq_nil_of_le (by omega)
      rw [hd] at he
      have HE := Lib.hid he
      clear he hd
      go_wp2
      go_ret
      exact ⟨ret_int HE.out.symm, rfl⟩
end Go.Proofs.Ytcfbnmcdncndpaa
