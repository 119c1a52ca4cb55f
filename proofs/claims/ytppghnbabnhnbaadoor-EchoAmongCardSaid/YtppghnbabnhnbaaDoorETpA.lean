/-
  Chapter 2: membership; the examples of the top statement.
-/
import Derived.Test.YtppghnbabnhnbaaDoorEAwk
namespace Go.Proofs.YtppghnbabnhnbaaDoor
open Go.ChangeShapes Go.WideShapes Go.ChangeAt Go.RowKit
set_option linter.unusedVariables false
set_option linter.unusedSimpArgs false

set_option maxHeartbeats 1000000 in
theorem Has_any (A : Option Addr) (l : List Int) (n : Int) (ca : Nat) (w : World) (hl : l.length ≤ 1000) (hA : IntsAt w A l) :
    Calls Tryd.prog 26 #[.slice A l.length ca, .int .i64 n] w fun e w' => e = .returned (.bool (l.any (· == n))) ∧ Below w.heap.size w w' := by
  go_enter Tryd.func26, Tryd.ntmps26
  go_wp2_with (fail)
  go_loopw [5] (fun i wr => ∃ k : Nat, k ≤ l.length ∧ i = .int .i64 k ∧ l.any (· == n) = (l.drop k).any (· == n) ∧ Below w.heap.size w wr) (fun i _ => l.length - (intOf i).toNat)
  case atStart => exact ⟨0, Nat.zero_le _, rfl, rfl, Below.refl _ _⟩
  case round =>
    obtain ⟨k, hk, rfl, he, hbr⟩ := hrel
    have H := Lib.hid he
    have hAr := RowsAt.below hA hbr
    clear he
    by_cases hlt : k < l.length
    · have hd : l.drop k = l[k] :: l.drop (k + 1) := List.drop_eq_getElem_cons hlt
      rw [hd, List.any_cons] at H
      clear hd
      obtain ⟨b1, o1, rfl, hb1, c0⟩ := IntsAt.at_ hAr hlt
      generalize l[k] = y at *
      have hk1 : (k : Int) < (l.length : Int) := by omega
      cases hx : (y == n)
      · rw [hx, Bool.false_or] at H
        go_wp2_with (fail)
        exact ⟨⟨k + 1, by omega, by go_num, H.out, hbr⟩, by simp [intOf]; omega⟩
      · rw [hx, Bool.true_or] at H
        go_wp2_with (fail)
        go_ret
        exact ⟨ret_bool (by rw [H.out]), hbr⟩
    · have e : l.drop k = [] := List.drop_eq_nil_of_le (by omega)
      rw [e] at H
      clear e
      go_wp2_with (fail)
      go_ret
      exact ⟨ret_bool (by rw [H.out]; rfl), hbr⟩
theorem any_mem {l : List Int} {n : Int} (h : n ∈ l) : l.any (· == n) = true := by
  rw [List.any_eq_true]
  exact ⟨n, h, by simp⟩
set_option maxRecDepth 100000 in
set_option maxHeartbeats 4000000 in
theorem echoShown_any (w : World) (ht : Tab w) : Calls Tryd.prog 16 #[] w fun e w' => e = .returned (.bool true) ∧ Below w.heap.size w w' := by
  have HT := Lib.hid ht
  clear ht
  have HK1 := Lib.hid (fun A W (h : RdsAt W A [rd1, rd2]) => Candidates_any A [rd1, rd2] 2 W (by simp) h)
  have HK4 := Lib.hid (fun A B W (h : GsAt W A fr0) (h' : GsAt W B fr1) => EchoesOf_any rul0 A fr0 4 B fr1 4 W (by simp [fr0]) (by simp [fr1]) h h')
  have HK6 := Lib.hid (fun A c W (h : ItsAt W A [it0]) (t : Tab W) => FormatEchoes_any A [it0] c W (by simp) (fun x hx => by simp at hx; subst hx; exact ⟨by constructor <;> decide, by constructor <;> decide, by constructor <;> decide, by constructor <;> decide, by constructor <;> decide⟩) h t)
  have HK7 := Lib.hid (fun A ca B cb W (h : IntsAt W A [9]) (h' : IntsAt W B [9]) => Ints_refl A B [9] ca cb W (by simp) h h')
  rw [k1] at HK1
  rw [k4] at HK4
  rw [k6] at HK6
  go_enter Tryd.func16, Tryd.ntmps16
  go_wp2_with (go_at_call 82; refine (Readings_any w).mono ?_; rintro e1 w1 ⟨b1, rfl, hr1, hb1⟩)
  refine (HK1.out _ _ hr1).mono ?_
  rintro e1 w2 ⟨A1, c1, rfl, hi1, hb2⟩
  have h2 : Below w.heap.size w w2 := hb1.trans (hb2.mono hb1.size)
  clear hb1 hb2 hr1
  go_wp2_with (fail)
  refine (Rules_any w2).mono ?_
  rintro e1 w3 ⟨rfl, hb3⟩
  have h3 := h2.trans (hb3.mono h2.size)
  have hi3 := RowsAt.below hi1 hb3
  clear hb3 h2 hi1
  go_wp2_with (fail)
  refine (Frame_any w3).mono ?_
  rintro e1 w4 ⟨A2, A3, rfl, hf, hg, hb4⟩
  have hi4 := RowsAt.below hi3 hb4
  have h4 := h3.trans (hb4.mono h3.size)
  clear hi3 h3 hb4
  go_wp2_with (fail)
  refine (HK4.out _ _ w4 hf hg).mono ?_
  rintro e1 w5 ⟨A4, c4, rfl, ht4, hb5⟩
  have hi5 := RowsAt.below hi4 hb5
  have h5 := h4.trans (hb5.mono h4.size)
  clear hi4 hf hg h4 hb5
  go_wp2_with (fail)
  have hby : Below w5.heap.size w5 (w5.alloc (.cells #[.int .i64 9] 3)) := below_alloc _ (Nat.le_refl _) (Below.refl _ _)
  have hie := RowsAt.below hi5 hby
  have ht7 := RowsAt.below ht4 hby
  have h9 : IntsAt (w5.alloc (.cells #[.int .i64 9] 3)) (some ⟨w5.heap.size, 0, none⟩) [9] := rows_block (blk_new rfl) rfl
  refine (HK7.out _ _ _ _ _ hie h9).mono ?_
  clear hi5 ht4
  generalize (w5.alloc (.cells #[.int .i64 9] 3)) = w6 at *
  have h6 := h5.trans (hby.mono h5.size)
  rintro e1 w7 ⟨rfl, hb7⟩
  have ht8 := RowsAt.below ht7 hb7
  have h7 := h6.trans (hb7.mono h6.size)
  clear hie ht7 h9 h6 hb7 h5 hby
  have HT2 := Lib.hid (HT.out.below h7)
  go_wp2_with (fail)
  refine (HK6.out _ _ _ ht8 HT2.out).mono ?_
  rintro e1 w8 ⟨rfl, hb8⟩
  have h8 := h7.trans (hb8.mono h7.size)
  go_wp2_with (fail)
  go_ret
  exact ⟨rfl, h8⟩
end Go.Proofs.YtppghnbabnhnbaaDoor
