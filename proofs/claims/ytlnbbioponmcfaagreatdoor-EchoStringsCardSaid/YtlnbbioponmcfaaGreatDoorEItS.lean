/-
  Chapter 2: the reference's echoes out of words (ParseEchoes).
-/
import Derived.Test.YtlnbbioponmcfaaGreatDoorEItR
namespace Go.Proofs.YtlnbbioponmcfaaGreatDoor
open Go.ChangeShapes Go.WideShapes Go.ChangeAt Go.RowKit
set_option linter.unusedVariables false
set_option linter.unusedSimpArgs false

set_option maxRecDepth 100000 in
set_option maxHeartbeats 8000000 in
theorem RParseEchoes_any (s : ByteArray) (w : World) (hs : s.size ≤ 10000) :
    Calls Tryz.prog 23 #[.string s] w fun e w' => ∃ (A : Option Addr) (c : Nat), e = .returned (.tuple #[.slice A (itsQ s).1.length c, .int .i64 (itsQ s).2]) ∧ ItsAt w' A (itsQ s).1 ∧ Below w.heap.size w w' := by
  have hq : itsQ s = if s.toList = [45] then ([], 0) else match itsP (cutB 44 s) with
    | none => ([], 7)
    | some l => if itsE (-1) l = 0 then (l, 0) else ([], itsE (-1) l) := rfl
  obtain ⟨Q, hQ⟩ : ∃ Q, Q = itsQ s := ⟨_, rfl⟩
  rw [← hQ] at hq ⊢
  have e60 : decide ((60000 : Int) < (s.size : Int)) = false := decide_eq_false (by omega)
  have e61 : decide (60000 < s.size) = false := decide_eq_false (by omega)
  have HQ := Lib.hid hq
  clear hQ hq
  have h45 : (⟨#[45]⟩ : ByteArray).toList = [45] := by rw [ByteArray.toList_eq]
  have H45 := Lib.hid h45
  clear h45
  by_cases hd : s.toList = [45]
  · have HQ2 := Lib.hid (HQ.out.trans (if_pos hd))
    have e1 : (s.toList == [45]) = true := by simpa using hd
    have e2 : (s.toList == (⟨#[45]⟩ : ByteArray).toList) = true := by rw [hd, H45.out]; rfl
    clear hd HQ
    go_enter Tryz.func23, Tryz.ntmps23
    go_wp2_with (fail)
    go_ret2
    rw [HQ2.out]
    exact ⟨none, 0, rfl, RowsAt.nil, Below.refl _ _⟩
  have HQ3 := Lib.hid (HQ.out.trans (if_neg hd))
  have e1 : (s.toList == [45]) = false := by simpa using hd
  have e2 : (s.toList == (⟨#[45]⟩ : ByteArray).toList) = false := by rw [H45.out]; exact e1
  obtain ⟨if0, hi0, hz0, hz1, hz2⟩ := infoIt_
  have HI := Lib.hid hi0
  have HZ0 := Lib.hid hz0
  have HZ1 := Lib.hid hz1
  have HZ2 := Lib.hid hz2
  obtain ⟨hl1, hl2⟩ := cutB_small 44 s
  have HC := Lib.hid (Cut_any s 44 44 w rfl (by omega))
  obtain ⟨xs, hxs⟩ : ∃ xs, xs = cutB 44 s := ⟨_, rfl⟩
  rw [← hxs] at HC hl1 hl2 HQ3
  have HL2 := Lib.hid hl2
  have hxl : xs.length ≤ 10001 := by omega
  have hxlI : (xs.length : Int) ≤ 10001 := by omega
  clear hd HQ hi0 hz0 hz1 hz2 hxs hl1 hl2
  go_enter Tryz.func23, Tryz.ntmps23
  go_wp2_with (go_at_call 57; refine HC.out.mono ?_; rintro e w1 ⟨A1, c1, rfl, own1, hb1⟩)
  have hS1 : StrsAt w1 A1 xs := rowsAt_of_own own1 rfl (by decide)
  clear HC own1
  go_loopw [5, 6] (fun o i wr => ∃ (k : Nat) (its : List It) (A' : Option Addr) (c' : Nat), k ≤ xs.length ∧ i = .int .i64 k ∧ o = .slice A' its.length c' ∧ itsP (xs.take k) = some its ∧ its.length = k ∧ wr.ownsRow w1.heap.size 58 5 (.slice A' its.length c') its.length (cellsOf 5 itC its) ∧ Below w1.heap.size w1 wr) (fun _ i _ => xs.length - (intOf i).toNat)
  case atStart => exact ⟨0, [], none, 0, Nat.zero_le _, rfl, rfl, rfl, rfl, World.ownsRow_nil _ _ _ _, Below.refl _ _⟩
  case round =>
    obtain ⟨k, its, A', c', hk, rfl, rfl, hp, hvl, own, hbr⟩ := hrel
    obtain ⟨wo, rfl⟩ : ∃ wo : World, wo = wr := ⟨_, rfl⟩
    have AR := RowsAt.below hS1 hbr
    have HP := Lib.hid hp
    have OWN := Lib.hid own
    have HVL := Lib.hid hvl
    have hbw : Below w.heap.size w wo := hb1.trans (hbr.mono hb1.size)
    have hbz : w1.heap.size ≤ wo.heap.size := hbr.size
    clear hp own hvl
    by_cases hlt : k < xs.length
    · have hsx : xs.take (k + 1) = xs.take k ++ [xs[k]] := List.take_succ_eq_append_getElem hlt
      obtain ⟨b, off, rfl, hb, c0⟩ := strs_at AR hlt
      have HNO := Lib.hid (itsP_none (List.getElem_mem hlt))
      have HSN := Lib.hid (fun (l : List Int) (h : parsQ 5 10 (xs[k]'hlt) = some l) => itsP_snoc HP.out h)
      rw [← hsx] at HSN
      have HPR := Lib.hid (fun W => Rparse_any (xs[k]'hlt) 5 W (by decide) (Nat.le_trans (HL2.out _ (List.getElem_mem hlt)) (by omega)))
      have HPL := Lib.hid (fun (l : List Int) (h : parsQ 5 10 (xs[k]'hlt) = some l) => parsQ_len h)
      have hkI : (k : Int) < (xs.length : Int) := by omega
      have hil : its.length ≤ 10001 := by have := HVL.out; omega
      clear hsx
      generalize hpq : parsQ 5 10 (xs[k]'hlt) = pq at *
      clear hpq
      generalize xs[k] = x at *
      cases pq with
      | none =>
        have hq4 := HQ3.out
        rw [HNO.out rfl] at hq4
        have HQ4 := Lib.hid (show Q = ([], 7) from hq4)
        have HP0 : Hid (∀ W, Calls Tryz.prog 56 #[.string x, .int .i64 5] W fun e w' => ∃ A c, e = .returned (.tuple #[.slice A 0 c, .bool false]) ∧ Below W.heap.size W w') := Lib.hid (fun W => (HPR.out W).mono (by rintro e w' ⟨A, c, rfl, _, hb⟩; exact ⟨A, c, rfl, hb⟩))
        clear HNO HSN HPR HPL hq4 OWN
        go_wp2_with (go_at_call 56; refine (HP0.out _).mono ?_; rintro e w2 ⟨A2, c2, rfl, hb2⟩)
        go_ret2
        rw [HQ4.out]
        exact ⟨none, 0, rfl, RowsAt.nil, hbw.trans (hb2.mono hbw.size)⟩
      | some l =>
        obtain ⟨a0, a1, a2, a3, a4, rfl⟩ := five (HPL.out l rfl)
        have HP1 : Hid (∀ W, Calls Tryz.prog 56 #[.string x, .int .i64 5] W fun e w' => ∃ A c, e = .returned (.tuple #[.slice A 5 c, .bool true]) ∧ IntsAt w' A [a0, a1, a2, a3, a4] ∧ Below W.heap.size W w') := Lib.hid (fun W => (HPR.out W).mono (by rintro e w' ⟨A, c, rfl, hi, hb⟩; exact ⟨A, c, rfl, hi, hb⟩))
        have HSN2 := Lib.hid (HSN.out _ rfl)
        clear HNO HSN HPR HPL HP
        go_upto_region 13 with (go_at_call 56; refine (HP1.out _).mono ?_; rintro e w2 ⟨A2, c2, rfl, hi2, hb2⟩)
        obtain ⟨d, o, rfl, hdz, i0⟩ := IntsAt.at_ hi2 (k := 0) (show 0 < 5 by decide)
        obtain ⟨_, _, q1, _, i1⟩ := IntsAt.at_ hi2 (k := 1) (show 1 < 5 by decide)
        obtain ⟨_, _, q2, _, i2⟩ := IntsAt.at_ hi2 (k := 2) (show 2 < 5 by decide)
        obtain ⟨_, _, q3, _, i3⟩ := IntsAt.at_ hi2 (k := 3) (show 3 < 5 by decide)
        obtain ⟨_, _, q4, _, i4⟩ := IntsAt.at_ hi2 (k := 4) (show 4 < 5 by decide)
        cases q1
        cases q2
        cases q3
        cases q4
        simp only [List.getElem_cons_zero, List.getElem_cons_succ, Nat.add_zero] at i0 i1 i2 i3 i4
        have OWN2 := Lib.hid (own_below OWN.out hb2)
        have hb12 : Below w1.heap.size w1 w2 := hbr.trans (hb2.mono hbr.size)
        clear hi2 OWN AR c0 hb2 hbr hbw HP1
        (refine region_alloc (T := ?_) (obj := (.cells #[.int .i64 a0, .int .i64 a1, .int .i64 a2, .int .i64 a3, .int .i64 a4] 58)) (val := (fun nb => .slice (some ⟨nb, 0, none⟩) 1 1)) 18 51 (by kernel_rfl) (by kernel_rfl) rfl rfl rfl (Nat.le_of_ble_eq_true rfl) ?_ ?_ ?_; rotate_left 1)
        focus (intro W0 hB0 hx; simp only [List.take_succ_cons, List.take_zero]; (repeat (any_goals (first | go_big_quiet_step (fail) | quiet_step (fail)))); refine wpQuiet_nil ?_; exact rfl)
        focus (intro W; go_simp; done)
        (intro W0 w3 hB0 hB1; obtain ⟨hbw3, hnw3, hsw3, hkw3⟩ := alloc_out hB0 hB1; clear hB0 hB1; simp only [List.drop_succ_cons, List.drop_zero]; generalize W0.heap.size = nb at *; clear W0)
        have OWN3 := Lib.hid (own_below OWN2.out hbw3)
        have hb13 : Below w1.heap.size w1 w3 := hb12.trans (hbw3.mono hb12.size)
        have hz13 : w1.heap.size ≤ w3.heap.size := hb13.size
        have HN := Lib.hid (newsIt (x := ⟨a0, a1, a2, a3, a4⟩) hkw3)
        clear hnw3 hkw3 hsw3 hbw3 OWN2 hb12 i0 i1 i2 i3 i4
        go_wp2_with (at_builtin; (refine wpList_append_rows _ rfl (.tmp 33) (.tmp 51) 51 rfl w1.heap.size 58 if0 (.agg #[.int .i64 0, .int .i64 0, .int .i64 0, .int .i64 0, .int .i64 0]) 5 40 Tryz.underlying51 HI.out HZ0.out HZ1.out HZ2.out rfl (by decide) A' its.length c' (cellsOf 5 itC its) rfl OWN3.out (some ⟨nb, 0, none⟩) 1 1 [.int .i64 a0, .int .i64 a1, .int .i64 a2, .int .i64 a3, .int .i64 a4] rfl rfl (fun h => by cases h) (fun ad h => by cases h; exact HN.out) (fun u hu => by simp at hu; rcases hu with rfl | rfl | rfl | rfl | rfl <;> rfl) (by unfold maxLen; omega) (by omega) (by omega) ?_; intro A2' c2' w4 h1 h2 h3))
        have hL : (its ++ [itOf [a0, a1, a2, a3, a4]]).length = its.length + 1 := by simp
        have h4 : w4.ownsRow w1.heap.size 58 5 (.slice A2' (its ++ [itOf [a0, a1, a2, a3, a4]]).length c2') (its ++ [itOf [a0, a1, a2, a3, a4]]).length (cellsOf 5 itC (its ++ [itOf [a0, a1, a2, a3, a4]])) := by rw [hL, cellsOf_append]; exact h1
        have h5 : Below w1.heap.size w1 w4 := below_own hb13 h2 OWN3.out (Nat.le_refl _) (by omega)
        have HL := Lib.hid hL
        clear h1 h2 h3 hL OWN3
        go_wp2_with (fail)
        exact ⟨⟨k + 1, its ++ [itOf [a0, a1, a2, a3, a4]], A2', c2', by omega, by go_num, by rw [HL.out], HSN2.out, by rw [HL.out, HVL.out], h4, h5⟩, by simp [intOf]; omega⟩
    · obtain rfl : xs.length = k := by omega
      have hq4 := HQ3.out
      have hp2 := HP.out
      rw [List.take_length] at hp2
      rw [hp2] at hq4
      have hq5 : Q = if itsE (-1) its = 0 then (its, 0) else ([], itsE (-1) its) := hq4
      have HI9 : Hid (ItsAt wo A' its) := Lib.hid (rowsAt_of_own OWN.out rfl (by decide))
      have hil : its.length ≤ 100000 := by have := HVL.out; omega
      have HEE := Lib.hid (EchoesErr_any A' its c' wo hil HI9.out)
      generalize itsE (-1) its = E at *
      have HQ4 := Lib.hid hq5
      clear hq4 hq5 hp2 OWN HP
      by_cases hE : E = 0
      · subst hE
        have HQ5 := Lib.hid (HQ4.out.trans (if_pos rfl))
        go_wp2_with (go_at_call 26; refine HEE.out.mono ?_; rintro e w2 ⟨rfl, hb2⟩)
        go_ret2
        rw [HQ5.out]
        exact ⟨A', c', rfl, RowsAt.below HI9.out hb2, hbw.trans (hb2.mono hbw.size)⟩
      · have HQ5 := Lib.hid (HQ4.out.trans (if_neg hE))
        have e9 : (E != 0) = true := by simpa using hE
        clear hE
        go_wp2_with (go_at_call 26; refine HEE.out.mono ?_; rintro e w2 ⟨rfl, hb2⟩)
        go_ret2
        rw [HQ5.out]
        exact ⟨none, 0, rfl, RowsAt.nil, hbw.trans (hb2.mono hbw.size)⟩
end Go.Proofs.YtlnbbioponmcfaaGreatDoor
