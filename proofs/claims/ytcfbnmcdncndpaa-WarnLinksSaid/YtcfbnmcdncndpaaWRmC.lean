/-
  Chapter 8: the reference's store that has received messages, once more: the result is the caller's own.
  Chapter 8: the reference's Moved: lose (printed by mk_rmv.py).
  Chapter 8: the reference's Moved: copy (printed by mk_rmv.py).
  Chapter 8: the reference's Moved: take, a message (printed by mk_rmv.py).
-/
import Derived.Test.YtcfbnmcdncndpaaWRrc
import Derived.Test.YtcfbnmcdncndpaaWRmB
namespace Go.Proofs.Ytcfbnmcdncndpaa
section
open Go.ChangeShapes Go.WideShapes Go.ChangeAt Go.RowKit
set_option linter.unusedVariables false
set_option linter.unusedSimpArgs false

def StoreO (q : List Msg × Int) (w : World) (e : Ending) (w' : World) : Prop := ∃ A' c', e = .returned (.tuple #[.slice A' q.1.length c', .int .i64 q.2]) ∧ w'.ownsRow w.heap.size 45 3 (.slice A' q.1.length c') q.1.length (cellsOf 3 msgC q.1) ∧ Below w.heap.size w w'
set_option maxRecDepth 100000 in
set_option maxHeartbeats 4000000 in
theorem RReceived_own (A : Option Addr) (l : List Msg) (cap : Nat) (m : Msg) (w : World) (hl : l.length ≤ 30) (hS : Srt l) (hA : MsgsAt w A l) :
    Calls Try.prog 66 #[.slice A l.length cap, .agg #[.string m.s, .int .i64 m.v, .int .i64 m.l]] w (StoreO (rcv l m) w) := by
  obtain ⟨i0, hi0, hz0, hz1, hz2⟩ := infoMsg_
  have hst : stepE l m = if msgE m = 0 then (recvM l m).2 else msgE m := rfl
  have hrc : rcv l m = if stepE l m = 0 then ((recvM l m).1, 0) else ([], stepE l m) := rfl
  have HI := Lib.hid hi0
  have HZ0 := Lib.hid hz0
  have HZ1 := Lib.hid hz1
  have HZ2 := Lib.hid hz2
  clear hi0 hz0 hz1 hz2
  go_enter Try.func66, Try.ntmps66
  have HST := Lib.hid hst
  have HRC := Lib.hid hrc
  clear hst hrc
  go_wp2_with (fail)
  refine (MessageErr_any m _).mono ?_
  rintro e w1 ⟨rfl, hb1⟩
  have x0 : w1.cell? ⟨w.heap.size, 0, none⟩ = some (.string m.s) := cell_below' hb1 (by repeat (first | assumption | (refine cell_new ?_ rfl; focus (simp; done)) | refine cell_drew ?_ | refine cell_alloc _ ?_ | refine cell_drewN _ ?_ | (refine cell_far ?_ ?_; focus (first | omega | (simp; omega) | (simp; done))) | refine cell_below' (by assumption) ?_))
  have x1 : w1.cell? ⟨w.heap.size, 1, none⟩ = some (.int .i64 m.v) := cell_below' hb1 (by repeat (first | assumption | (refine cell_new ?_ rfl; focus (simp; done)) | refine cell_drew ?_ | refine cell_alloc _ ?_ | refine cell_drewN _ ?_ | (refine cell_far ?_ ?_; focus (first | omega | (simp; omega) | (simp; done))) | refine cell_below' (by assumption) ?_))
  have x2 : w1.cell? ⟨w.heap.size, 2, none⟩ = some (.int .i64 m.l) := cell_below' hb1 (by repeat (first | assumption | (refine cell_new ?_ rfl; focus (simp; done)) | refine cell_drew ?_ | refine cell_alloc _ ?_ | refine cell_drewN _ ?_ | (refine cell_far ?_ ?_; focus (first | omega | (simp; omega) | (simp; done))) | refine cell_below' (by assumption) ?_))
  have z1 : w.heap.size < w1.heap.size := by have := hb1.size; simp at this; omega
  have hbw1 : Below w.heap.size w w1 := (by repeat (first | assumption | exact Below.refl _ _ | refine Below.drew ?_ | (refine below_alloc _ ?_ ?_; focus (first | omega | (simp; done) | (simp; omega) | (simp at *; omega))) | (refine below_set _ ?_ ?_; focus (first | omega | (simp; done) | (simp; omega) | (simp at *; omega))) | refine below_drewN ?_ _ | (refine below_call (by assumption) ?_ ?_; focus (first | omega | (simp; done) | (simp; omega) | (simp at *; omega))) | (refine below_call' (by assumption) ?_ ?_; focus (first | omega | (simp; done) | (simp; omega) | (simp at *; omega)))))
  have hA1 := RowsAt.below hA hbw1
  clear hb1 hA
  by_cases hm : msgE m = 0
  rotate_left 1
  · have h2 := HST.out
    rw [if_neg hm] at h2
    have h3 := HRC.out
    rw [h2, if_neg hm] at h3
    have H3 := Lib.hid h3
    have hE1 : (msgE m == 0) = false := by simpa using hm
    have hE2 : (msgE m != 0) = true := by simpa using hm
    clear h2 h3 hm HST HRC
    generalize msgE m = E at *
    go_wp2_with (fail)
    go_ret2
    rw [H3.out]
    exact ⟨none, 0, rfl, World.ownsRow_nil _ _ _ _, hbw1⟩
  have h2 := HST.out
  rw [if_pos hm] at h2
  have h3 := HRC.out
  rw [h2] at h3
  have H3 := Lib.hid h3
  rw [hm]
  clear h2 h3 hm HST HRC
  have hf := find_eq (s := m.s) hS
  have hpl := posM_le l m.s
  have hl1 : (l.length : Int) ≤ 30 := by omega
  cases hh : hasM l m.s
  · have hsp := pos_spec (s := m.s) hS
    have hnone : ∀ x ∈ l, x.s ≠ m.s := fun x hx he => by rw [(has_iff hS).2 ⟨x, hx, he⟩] at hh; cases hh
    rw [hh] at hf
    have hf1 : findM m.s l 0 = -1 := hf
    have hr := recv_new hh
    have HF := Lib.hid hf1
    have SP := Lib.hid hsp
    have NO := Lib.hid hnone
    have HR := Lib.hid hr
    clear hf hf1 hsp hnone hr hh
    by_cases hlen : l.length = 30
    · have h4 : rcv l m = ([], 16) := by rw [H3.out, HR.out.trans (if_pos (by omega)), if_neg (show ¬ ((16 : Int) = 0) by decide)]
      have H4 := Lib.hid h4
      have hle : ((l.length : Int) == 30) = true := by simp; omega
      clear h4 H3 HR hlen
      go_wp2_with (go_at_call 33; refine (Find_any A l cap m.s _ (by omega) hA1).mono ?_; rintro e w' ⟨rfl, rfl⟩; rw [HF.out])
      go_ret2
      rw [H4.out]
      exact ⟨none, 0, rfl, World.ownsRow_nil _ _ _ _, hbw1⟩
    have h4 : rcv l m = (l.take (posM l m.s) ++ m :: l.drop (posM l m.s), 0) := by rw [H3.out, HR.out.trans (if_neg (by omega)), if_pos (by rfl)]
    have H4 : Hid (rcv l m = (l.take (posM l m.s) ++ m :: l.drop (posM l m.s), 0)) := Lib.hid h4
    have hle : ((l.length : Int) == 30) = false := by simp; omega
    clear h4 H3 HR hlen
    generalize posM l m.s = p at *
    go_wp2_with (go_at_call 33; refine (Find_any A l cap m.s _ (by omega) hA1).mono ?_; rintro e w' ⟨rfl, rfl⟩; rw [HF.out])
    go_loopw [9, 10, 11] (fun o pu i wr => ∃ (k : Nat) (A' : Option Addr) (c' : Nat) (pb : Bool), k ≤ l.length ∧ i = .int .i64 k ∧ o = .slice A' (insS l m p k).length c' ∧ pu = .bool pb ∧ (pb = true ↔ p < k) ∧ wr.ownsRow w1.heap.size 45 3 (.slice A' (insS l m p k).length c') (insS l m p k).length (cellsOf 3 msgC (insS l m p k)) ∧ Below w1.heap.size w1 wr) (fun _ _ i _ => l.length - (intOf i).toNat)
    case atStart => exact ⟨0, none, 0, false, Nat.zero_le _, rfl, rfl, rfl, by simp, World.ownsRow_nil _ _ _ _, Below.refl _ _⟩
    case round =>
      obtain ⟨k, A', c', pb, hk, rfl, rfl, rfl, hpb, own, hbr⟩ := hrel
      have AR := RowsAt.below hA1 hbr
      have hbw : Below w.heap.size w wr := hbw1.trans (hbr.mono (by omega))
      have zr : w.heap.size < wr.heap.size := by have := hbr.size; omega
      have zr1 : w1.heap.size ≤ wr.heap.size := hbr.size
      replace x0 := cell_below' hbr x0
      replace x1 := cell_below' hbr x1
      replace x2 := cell_below' hbr x2
      have hil := insS_len (m := m) hk hpl
      have OWN := Lib.hid own
      have HPB := Lib.hid hpb
      clear own hpb
      by_cases hlt : k < l.length
      · obtain ⟨b1, o1, rfl, hb1, c0, c1, c2⟩ := MsgsAt.at_ AR hlt
        have hk1 : (k : Int) < (l.length : Int) := by omega
        have hgx := List.getElem?_eq_getElem hlt
        by_cases hkp : k < p
        · have hlsx : Op.bytesLess m.s.toList l[k].s.toList = false := blt_asym (SP.out.1 k _ hgx hkp)
          obtain rfl : pb = false := by
            cases pb
            · rfl
            · have := HPB.out.1 rfl; omega
          have HIN := Lib.hid (insS_lt (m := m) hlt hkp)
          have HKP := Lib.hid hkp
          clear HPB hgx hkp
          generalize l[k] = x at *
          generalize insS l m p k = out at *
          go_wp2_with (fail)
          go_quiet (fail)
          have hbq : Below w1.heap.size w1 (wr.drewN nq) := (by repeat (first | assumption | exact Below.refl _ _ | refine Below.drew ?_ | (refine below_alloc _ ?_ ?_; focus (first | omega | (simp; done) | (simp; omega) | (simp at *; omega))) | (refine below_set _ ?_ ?_; focus (first | omega | (simp; done) | (simp; omega) | (simp at *; omega))) | refine below_drewN ?_ _ | (refine below_call (by assumption) ?_ ?_; focus (first | omega | (simp; done) | (simp; omega) | (simp at *; omega))) | (refine below_call' (by assumption) ?_ ?_; focus (first | omega | (simp; done) | (simp; omega) | (simp at *; omega)))))
          have OWQ : Hid ((wr.drewN nq).ownsRow w1.heap.size 45 3 (.slice A' out.length c') out.length (cellsOf 3 msgC out)) := OWN
          replace c0 := cell_drewN nq c0
          replace c1 := cell_drewN nq c1
          replace c2 := cell_drewN nq c2
          replace zr1 : w1.heap.size ≤ (wr.drewN nq).heap.size := zr1
          clear OWN hbr x0 x1 x2 AR hb1
          generalize wr.drewN nq = wq at *
          go_wp2_with (at_builtin; (refine wpList_append_rows _ rfl (.tmp 81) (.tmp 86) 38 rfl w1.heap.size 45 i0 (.agg #[.string ⟨#[]⟩, .int .i64 0, .int .i64 0]) 3 32 Try.underlying38 HI.out HZ0.out HZ1.out HZ2.out rfl (by decide) A' (List.length out) c' (cellsOf 3 msgC out) rfl (World.ownsRow.alloc OWQ.out _) (some ⟨_, 0, none⟩) 1 1 [.string (Msg.s x), .int .i64 (Msg.v x), .int .i64 (Msg.l x)] rfl rfl (fun h => by cases h) (fun ad h => by cases h; exact news3 (blk_new rfl)) (mem3 x) (by unfold maxLen; omega) (by omega) (by simp; omega) ?_; intro A2 c2 w3 h1 h2 h3))
          obtain ⟨h4, h5⟩ := app_end hbq OWQ.out h1 h2
          rw [HIN.out] at h4
          have HL : Hid (out.length + 1 = (insS l m p (k + 1)).length) := Lib.hid (by rw [← HIN.out]; simp)
          clear h1 h2 h3
          go_wp2_with (fail)
          exact ⟨⟨k + 1, A2, c2, false, by omega, by go_num, by rw [HL.out], rfl, by have := HKP.out; simp; omega, h4, h5⟩, by simp [intOf]; omega⟩
        · by_cases hkq : k = p
          · subst hkq
            have hlsx : Op.bytesLess m.s.toList l[k].s.toList = true := by
              have h5 := SP.out.2 k _ hgx (Nat.le_refl _)
              have h6 := NO.out _ (List.getElem_mem hlt)
              cases h7 : blt m.s l[k].s
              · exact absurd (blt_tri h5 h7) h6
              · exact h7
            obtain rfl : pb = false := by
              cases pb
              · rfl
              · have := HPB.out.1 rfl; omega
            have HIN := Lib.hid (insS_eq (m := m) hlt)
            clear HPB hgx hkp SP NO
            generalize l[k] = x at *
            generalize insS l m k k = out at *
            go_wp2_with (fail)
            go_quiet (fail)
            have hbq : Below w1.heap.size w1 (wr.drewN nq) := (by repeat (first | assumption | exact Below.refl _ _ | refine Below.drew ?_ | (refine below_alloc _ ?_ ?_; focus (first | omega | (simp; done) | (simp; omega) | (simp at *; omega))) | (refine below_set _ ?_ ?_; focus (first | omega | (simp; done) | (simp; omega) | (simp at *; omega))) | refine below_drewN ?_ _ | (refine below_call (by assumption) ?_ ?_; focus (first | omega | (simp; done) | (simp; omega) | (simp at *; omega))) | (refine below_call' (by assumption) ?_ ?_; focus (first | omega | (simp; done) | (simp; omega) | (simp at *; omega)))))
            have OWQ : Hid ((wr.drewN nq).ownsRow w1.heap.size 45 3 (.slice A' out.length c') out.length (cellsOf 3 msgC out)) := OWN
            have AQ : MsgsAt (wr.drewN nq) (some ⟨b1, o1, none⟩) l := AR
            replace x0 := cell_drewN nq x0
            replace x1 := cell_drewN nq x1
            replace x2 := cell_drewN nq x2
            replace c0 := cell_drewN nq c0
            replace c1 := cell_drewN nq c1
            replace c2 := cell_drewN nq c2
            replace zr : w.heap.size < (wr.drewN nq).heap.size := zr
            replace zr1 : w1.heap.size ≤ (wr.drewN nq).heap.size := zr1
            replace hb1 : b1 < (wr.drewN nq).heap.size := hb1
            clear OWN hbr AR
            generalize wr.drewN nq = wq at *
            have hbb : b1 < w1.heap.size := by
              obtain ⟨b9, o9, e9, h9, _⟩ := MsgsAt.at_ hA1 hlt
              injection e9 with e9
              injection e9 with e9 _
              omega
            have hne1 : some b1 ≠ Value.ownBlock (.slice A' out.length c') := fun e => by have := (OWQ.out.lt b1 e.symm).1; omega
            go_wp2_with (first | ((at_builtin; (refine wpList_append_rows _ rfl (.tmp 77) (.tmp 79) 38 rfl w1.heap.size 45 i0 (.agg #[.string ⟨#[]⟩, .int .i64 0, .int .i64 0]) 3 32 Try.underlying38 HI.out HZ0.out HZ1.out HZ2.out rfl (by decide) A' (List.length out) c' (cellsOf 3 msgC out) rfl (World.ownsRow.alloc OWQ.out _) (some ⟨_, 0, none⟩) 1 1 [.string (Msg.s m), .int .i64 (Msg.v m), .int .i64 (Msg.l m)] rfl rfl (fun h => by cases h) (fun ad h => by cases h; exact news3 (blk_new rfl)) (mem3 m) (by unfold maxLen; omega) (by omega) (by simp; omega) ?_; intro A2 c2' w3 h1 h2 h3)); obtain ⟨h4, h5⟩ := app_end hbq OWQ.out h1 h2; have hL : (out ++ [m]).length = out.length + 1 := (by simp); replace c0 := cell_grown h2 (cell_alloc _ c0) hne1; replace c1 := cell_grown h2 (cell_alloc _ c1) hne1; replace c2 := cell_grown h2 (cell_alloc _ c2) hne1; rw [← hL]; have OW4 := Lib.hid h4; have HL4 := Lib.hid hL; have z4 := h5.size; clear h1 h2 h3 h4 hL hne1 x0 x1 x2 OWQ hbq; generalize hout : out ++ [m] = out2 at *; have hil2 : out2.length ≤ k + 2 := (by rw [← hout]; simp; omega); clear hout) | (at_builtin; (refine wpList_append_rows _ rfl (.tmp 81) (.tmp 86) 38 rfl w1.heap.size 45 i0 (.agg #[.string ⟨#[]⟩, .int .i64 0, .int .i64 0]) 3 32 Try.underlying38 HI.out HZ0.out HZ1.out HZ2.out rfl (by decide) A2 (List.length out2) c2' (cellsOf 3 msgC out2) rfl (World.ownsRow.alloc OW4.out _) (some ⟨_, 0, none⟩) 1 1 [.string (Msg.s x), .int .i64 (Msg.v x), .int .i64 (Msg.l x)] rfl rfl (fun h => by cases h) (fun ad h => by cases h; exact news3 (blk_new rfl)) (mem3 x) (by unfold maxLen; omega) (by omega) (by simp; omega) ?_; intro A3 c3 w3 h1 h2 h3)))
            obtain ⟨h6, h7⟩ := app_end h5 OW4.out h1 h2
            rw [HIN.out] at h6
            have HL : Hid (out2.length + 1 = (insS l m k (k + 1)).length) := Lib.hid (by rw [← HIN.out]; simp)
            clear h1 h2 h3
            go_wp2_with (fail)
            exact ⟨⟨k + 1, A3, c3, true, by omega, by go_num, by rw [HL.out], rfl, by simp, h6, h7⟩, by simp [intOf]; omega⟩
          · obtain rfl : pb = true := HPB.out.2 (by omega)
            have HIN := Lib.hid (insS_gt (m := m) (p := p) hlt (by omega))
            have HKP := Lib.hid (show p < k by omega)
            clear HPB hgx hkp hkq
            generalize l[k] = x at *
            generalize insS l m p k = out at *
            go_wp2_with (fail)
            go_quiet (fail)
            have hbq : Below w1.heap.size w1 (wr.drewN nq) := (by repeat (first | assumption | exact Below.refl _ _ | refine Below.drew ?_ | (refine below_alloc _ ?_ ?_; focus (first | omega | (simp; done) | (simp; omega) | (simp at *; omega))) | (refine below_set _ ?_ ?_; focus (first | omega | (simp; done) | (simp; omega) | (simp at *; omega))) | refine below_drewN ?_ _ | (refine below_call (by assumption) ?_ ?_; focus (first | omega | (simp; done) | (simp; omega) | (simp at *; omega))) | (refine below_call' (by assumption) ?_ ?_; focus (first | omega | (simp; done) | (simp; omega) | (simp at *; omega)))))
            have OWQ : Hid ((wr.drewN nq).ownsRow w1.heap.size 45 3 (.slice A' out.length c') out.length (cellsOf 3 msgC out)) := OWN
            replace c0 := cell_drewN nq c0
            replace c1 := cell_drewN nq c1
            replace c2 := cell_drewN nq c2
            replace zr1 : w1.heap.size ≤ (wr.drewN nq).heap.size := zr1
            clear OWN hbr x0 x1 x2 AR hb1
            generalize wr.drewN nq = wq at *
            go_wp2_with (at_builtin; (refine wpList_append_rows _ rfl (.tmp 81) (.tmp 86) 38 rfl w1.heap.size 45 i0 (.agg #[.string ⟨#[]⟩, .int .i64 0, .int .i64 0]) 3 32 Try.underlying38 HI.out HZ0.out HZ1.out HZ2.out rfl (by decide) A' (List.length out) c' (cellsOf 3 msgC out) rfl (World.ownsRow.alloc OWQ.out _) (some ⟨_, 0, none⟩) 1 1 [.string (Msg.s x), .int .i64 (Msg.v x), .int .i64 (Msg.l x)] rfl rfl (fun h => by cases h) (fun ad h => by cases h; exact news3 (blk_new rfl)) (mem3 x) (by unfold maxLen; omega) (by omega) (by simp; omega) ?_; intro A2 c2 w3 h1 h2 h3))
            obtain ⟨h4, h5⟩ := app_end hbq OWQ.out h1 h2
            rw [HIN.out] at h4
            have HL : Hid (out.length + 1 = (insS l m p (k + 1)).length) := Lib.hid (by rw [← HIN.out]; simp)
            clear h1 h2 h3
            go_wp2_with (fail)
            exact ⟨⟨k + 1, A2, c2, true, by omega, by go_num, by rw [HL.out], rfl, by have := HKP.out; simp; omega, h4, h5⟩, by simp [intOf]; omega⟩
      · obtain rfl : k = l.length := by omega
        by_cases hpe : p = l.length
        · subst hpe
          obtain rfl : pb = false := by
            cases pb
            · rfl
            · have := HPB.out.1 rfl; omega
          have HIN := Lib.hid (insS_end' (l := l) (m := m))
          clear HPB AR
          generalize insS l m l.length l.length = out at *
          go_wp2_with (at_builtin; (refine wpList_append_rows _ rfl (.tmp 90) (.tmp 92) 38 rfl w1.heap.size 45 i0 (.agg #[.string ⟨#[]⟩, .int .i64 0, .int .i64 0]) 3 32 Try.underlying38 HI.out HZ0.out HZ1.out HZ2.out rfl (by decide) A' (List.length out) c' (cellsOf 3 msgC out) rfl (World.ownsRow.alloc OWN.out _) (some ⟨_, 0, none⟩) 1 1 [.string (Msg.s m), .int .i64 (Msg.v m), .int .i64 (Msg.l m)] rfl rfl (fun h => by cases h) (fun ad h => by cases h; exact news3 (blk_new rfl)) (mem3 m) (by unfold maxLen; omega) (by omega) (by simp; omega) ?_; intro A2 c2 w3 h1 h2 h3))
          obtain ⟨h4, h5⟩ := app_end hbr OWN.out h1 h2
          rw [HIN.out] at h4
          have HL : Hid (out.length + 1 = (l.take l.length ++ m :: l.drop l.length).length) := Lib.hid (by rw [← HIN.out]; simp)
          have hA4 : w3.ownsRow w.heap.size 45 3 (.slice A2 (l.take l.length ++ m :: l.drop l.length).length c2) (l.take l.length ++ m :: l.drop l.length).length (cellsOf 3 msgC (l.take l.length ++ m :: l.drop l.length)) := own_mono h4 (Nat.le_of_lt z1)
          clear h1 h2 h3 h4
          go_wp2_with (fail)
          go_ret2
          rw [H4.out]
          exact ⟨A2, c2, by rw [HL.out] <;> rfl, hA4, hbw1.trans (h5.mono (by omega))⟩
        · obtain rfl : pb = true := HPB.out.2 (by omega)
          have HIN := Lib.hid (insS_end (l := l) (m := m) (p := p) (by omega))
          have hA4 : wr.ownsRow w.heap.size 45 3 (.slice A' (l.take p ++ m :: l.drop p).length c') (l.take p ++ m :: l.drop p).length (cellsOf 3 msgC (l.take p ++ m :: l.drop p)) := by rw [← HIN.out]; exact own_mono OWN.out (Nat.le_of_lt z1)
          have HL : Hid ((insS l m p l.length).length = (l.take p ++ m :: l.drop p).length) := Lib.hid (by rw [HIN.out])
          clear HPB AR OWN hpe
          generalize insS l m p l.length = out at *
          go_wp2_with (fail)
          go_ret2
          rw [H4.out]
          exact ⟨A', c', by rw [HL.out] <;> rfl, hA4, hbw⟩
  · obtain ⟨o, ho, he⟩ := has_true hh
    have hpl2 : posM l m.s < l.length := (List.getElem?_eq_some_iff.1 ho).1
    rw [if_pos hh] at hf
    have HF := Lib.hid hf
    have hr := recv_has hh ho
    have HR := Lib.hid hr
    obtain ⟨b1, o1, rfl, hb1, c0, c1, c2⟩ := MsgsAt.at_ hA1 hpl2
    rw [List.getElem?_eq_getElem hpl2] at ho
    rw [Option.some.inj ho] at c0 c1 c2
    have hp1 : ((posM l m.s : Nat) : Int) < (l.length : Int) := by omega
    have hset := cells_set3 l (posM l m.s) m
    have hslen : (l.set (posM l m.s) m).length = l.length := List.length_set
    have SET := Lib.hid hset
    have SLEN := Lib.hid hslen
    clear hf hr hh ho he hset hslen
    generalize posM l m.s = p at *
    have HCP := Lib.hid (fun W => fun hW : MsgsAt W (some ⟨b1, o1, none⟩) l => CopyMessages_any (some ⟨b1, o1, none⟩) l cap W (by omega) hW)
    by_cases hcl : m.v = o.v ∧ m.l ≠ o.l
    · have hv : ¬ o.v < m.v := by omega
      have h4 : rcv l m = ([], 13) := by rw [H3.out, (HR.out.trans (if_neg hv)).trans (if_pos hcl), if_neg (show ¬ ((13 : Int) = 0) by decide)]
      have H4 := Lib.hid h4
      have e1 : (o.v == m.v) = true := by simp [hcl.1]
      have e2 : (o.l == m.l) = false := by simp; exact fun e => hcl.2 e.symm
      have e3 : (o.l != m.l) = true := by rw [bne, e2]; rfl
      clear h4 hv hcl H3 HR
      go_wp2_with (go_at_call 33; refine (Find_any (some ⟨b1, o1, none⟩) l cap m.s _ (by omega) hA1).mono ?_; rintro e w' ⟨rfl, rfl⟩; rw [HF.out])
      go_quiet (fail)
      go_wp2_with (fail)
      go_ret2
      rw [H4.out]
      exact ⟨none, 0, rfl, World.ownsRow_nil _ _ _ _, (by repeat (first | assumption | exact Below.refl _ _ | refine Below.drew ?_ | (refine below_alloc _ ?_ ?_; focus (first | omega | (simp; done) | (simp; omega) | (simp at *; omega))) | (refine below_set _ ?_ ?_; focus (first | omega | (simp; done) | (simp; omega) | (simp at *; omega))) | refine below_drewN ?_ _ | (refine below_call (by assumption) ?_ ?_; focus (first | omega | (simp; done) | (simp; omega) | (simp at *; omega))) | (refine below_call' (by assumption) ?_ ?_; focus (first | omega | (simp; done) | (simp; omega) | (simp at *; omega)))))⟩
    · have hq : ∀ (e1 : (o.v == m.v) = true), (o.l == m.l) = true := fun e1 => by
        simp at e1 ⊢
        apply Classical.byContradiction
        intro e2
        exact hcl ⟨e1.symm, fun e => e2 e.symm⟩
      by_cases hv : o.v < m.v
      · have h4 : rcv l m = (l.set p m, 0) := by rw [H3.out, HR.out.trans (if_pos hv), if_pos (by rfl)]
        have H4 := Lib.hid h4
        have e1 : (o.v == m.v) = false := by simp; omega
        clear h4 hcl hq H3 HR
        go_wp2_with (go_at_call 33; refine (Find_any (some ⟨b1, o1, none⟩) l cap m.s _ (by omega) hA1).mono ?_; rintro e w' ⟨rfl, rfl⟩; rw [HF.out])
        go_quiet (fail)
        go_wp2_with (fail)
        refine (HCP.out _ (RowsAt.below hA1 (by repeat (first | assumption | exact Below.refl _ _ | refine Below.drew ?_ | (refine below_alloc _ ?_ ?_; focus (first | omega | (simp; done) | (simp; omega) | (simp at *; omega))) | (refine below_set _ ?_ ?_; focus (first | omega | (simp; done) | (simp; omega) | (simp at *; omega))) | refine below_drewN ?_ _ | (refine below_call (by assumption) ?_ ?_; focus (first | omega | (simp; done) | (simp; omega) | (simp at *; omega))) | (refine below_call' (by assumption) ?_ ?_; focus (first | omega | (simp; done) | (simp; omega) | (simp at *; omega))))))).mono ?_
        rintro e w3 ⟨A3, c3, rfl, own3, hb3⟩
        have hb13 : Below w1.heap.size w1 w3 := (by repeat (first | assumption | exact Below.refl _ _ | refine Below.drew ?_ | (refine below_alloc _ ?_ ?_; focus (first | omega | (simp; done) | (simp; omega) | (simp at *; omega))) | (refine below_set _ ?_ ?_; focus (first | omega | (simp; done) | (simp; omega) | (simp at *; omega))) | refine below_drewN ?_ _ | (refine below_call (by assumption) ?_ ?_; focus (first | omega | (simp; done) | (simp; omega) | (simp at *; omega))) | (refine below_call' (by assumption) ?_ ?_; focus (first | omega | (simp; done) | (simp; omega) | (simp at *; omega)))))
        replace x0 := cell_below' hb13 x0
        replace x1 := cell_below' hb13 x1
        replace x2 := cell_below' hb13 x2
        replace c0 := cell_below' hb13 c0
        replace c1 := cell_below' hb13 c1
        replace c2 := cell_below' hb13 c2
        have hbw3 : Below w.heap.size w w3 := hbw1.trans (hb13.mono (by omega))
        have z3 : w.heap.size < w3.heap.size := by have := hb13.size; omega
        have z31 := hb13.size
        have own3' : w3.ownsRow w1.heap.size 45 3 (.slice A3 l.length c3) l.length (cellsOf 3 msgC l) := own3
        have OWN3 := Lib.hid own3'
        clear hb3 hb13 own3 own3'
        go_wp2_with (fail)
        go_quiet (fail)
        replace x0 := cell_drewN nq x0
        replace x1 := cell_drewN nq x1
        replace x2 := cell_drewN nq x2
        have OWN4 : Hid ((w3.drewN nq).ownsRow w1.heap.size 45 3 (.slice A3 l.length c3) l.length (cellsOf 3 msgC l)) := OWN3
        replace z3 : w.heap.size < (w3.drewN nq).heap.size := z3
        replace z31 : w1.heap.size ≤ (w3.drewN nq).heap.size := z31
        replace hbw3 : Below w.heap.size w (w3.drewN nq) := (by repeat (first | assumption | exact Below.refl _ _ | refine Below.drew ?_ | (refine below_alloc _ ?_ ?_; focus (first | omega | (simp; done) | (simp; omega) | (simp at *; omega))) | (refine below_set _ ?_ ?_; focus (first | omega | (simp; done) | (simp; omega) | (simp at *; omega))) | refine below_drewN ?_ _ | (refine below_call (by assumption) ?_ ?_; focus (first | omega | (simp; done) | (simp; omega) | (simp at *; omega))) | (refine below_call' (by assumption) ?_ ?_; focus (first | omega | (simp; done) | (simp; omega) | (simp at *; omega)))))
        clear OWN3 c0 c1 c2
        generalize w3.drewN nq = w4 at *
        obtain ⟨g, cur, rfl, hBg, hg, hnc, hcm, hcs, htk⟩ := own_open OWN4.out (by omega)
        obtain ⟨b', off, he', hb', c0, c1, c2⟩ := MsgsAt.at_ (rowsAt_of_own OWN4.out rfl (by decide)) hpl2
        injection he' with he'
        injection he' with e1 e2
        subst e1 e2
        simp only [Nat.zero_add] at c0 c1 c2
        have f0 : w4.frozen? ⟨g, p * 3, none⟩ = false := blk_frozen hg
        have f1 : w4.frozen? ⟨g, p * 3 + 1, none⟩ = false := blk_frozen hg
        have f2 : w4.frozen? ⟨g, p * 3 + 2, none⟩ = false := blk_frozen hg
        have hcm' : (c3 : Int) ≤ 9223372036854775807 := by unfold maxLen at hcm; omega
        have s0 := OWN4.out.stored (p * 3) (.string m.s)
        have s1 := s0.1.stored (p * 3 + 1) (.int .i64 m.v)
        have s2 := s1.1.stored (p * 3 + 2) (.int .i64 m.l)
        have hown : (((w4.setCell ⟨g, p * 3, none⟩ (.string m.s)).setCell ⟨g, p * 3 + 1, none⟩ (.int .i64 m.v)).setCell ⟨g, p * 3 + 2, none⟩ (.int .i64 m.l)).ownsRow w1.heap.size 45 3 (.slice (some ⟨g, 0, none⟩) (l.set p m).length c3) (l.set p m).length (cellsOf 3 msgC (l.set p m)) := by
          rw [SLEN.out, ← SET.out]; exact s2.1
        have hAf := own_mono hown (Nat.le_of_lt z1)
        have hbf : Below w.heap.size w (((w4.setCell ⟨g, p * 3, none⟩ (.string m.s)).setCell ⟨g, p * 3 + 1, none⟩ (.int .i64 m.v)).setCell ⟨g, p * 3 + 2, none⟩ (.int .i64 m.l)) := below_set _ (by simp; omega) (below_set _ (by simp; omega) (below_set _ (by simp; omega) hbw3))
        clear s0 s1 s2 hown hg htk hcs hb' hcm
        go_wp2_with (fail)
        go_ret2
        rw [H4.out]
        exact ⟨some ⟨g, 0, none⟩, c3, by rw [SLEN.out] <;> rfl, hAf, hbf⟩
      · have h4 : rcv l m = (l, 0) := by rw [H3.out, (HR.out.trans (if_neg hv)).trans (if_neg hcl), if_pos (by rfl)]
        have H4 := Lib.hid h4
        have hvd : decide (o.v < m.v) = false := by simpa using hv
        clear h4 hv hcl H3 HR
        cases e1 : (o.v == m.v)
        · clear hq
          go_wp2_with (go_at_call 33; refine (Find_any (some ⟨b1, o1, none⟩) l cap m.s _ (by omega) hA1).mono ?_; rintro e w' ⟨rfl, rfl⟩; rw [HF.out])
          go_quiet (fail)
          go_wp2_with (fail)
          refine (HCP.out _ (RowsAt.below hA1 (by repeat (first | assumption | exact Below.refl _ _ | refine Below.drew ?_ | (refine below_alloc _ ?_ ?_; focus (first | omega | (simp; done) | (simp; omega) | (simp at *; omega))) | (refine below_set _ ?_ ?_; focus (first | omega | (simp; done) | (simp; omega) | (simp at *; omega))) | refine below_drewN ?_ _ | (refine below_call (by assumption) ?_ ?_; focus (first | omega | (simp; done) | (simp; omega) | (simp at *; omega))) | (refine below_call' (by assumption) ?_ ?_; focus (first | omega | (simp; done) | (simp; omega) | (simp at *; omega))))))).mono ?_
          rintro e w3 ⟨A3, c3, rfl, own3, hb3⟩
          have hb13 : Below w1.heap.size w1 w3 := (by repeat (first | assumption | exact Below.refl _ _ | refine Below.drew ?_ | (refine below_alloc _ ?_ ?_; focus (first | omega | (simp; done) | (simp; omega) | (simp at *; omega))) | (refine below_set _ ?_ ?_; focus (first | omega | (simp; done) | (simp; omega) | (simp at *; omega))) | refine below_drewN ?_ _ | (refine below_call (by assumption) ?_ ?_; focus (first | omega | (simp; done) | (simp; omega) | (simp at *; omega))) | (refine below_call' (by assumption) ?_ ?_; focus (first | omega | (simp; done) | (simp; omega) | (simp at *; omega)))))
          replace x0 := cell_below' hb13 x0
          replace x1 := cell_below' hb13 x1
          replace x2 := cell_below' hb13 x2
          replace c0 := cell_below' hb13 c0
          replace c1 := cell_below' hb13 c1
          replace c2 := cell_below' hb13 c2
          have hbw3 : Below w.heap.size w w3 := hbw1.trans (hb13.mono (by omega))
          have hA3 : w3.ownsRow w1.heap.size 45 3 (.slice A3 l.length c3) l.length (cellsOf 3 msgC l) := own3
          clear hb3 hb13 own3
          go_wp2_with (fail)
          go_quiet (fail)
          go_wp2_with (fail)
          go_ret2
          rw [H4.out]
          exact ⟨A3, c3, rfl, own_below (own_mono hA3 (Nat.le_of_lt z1)) (by repeat (first | assumption | exact Below.refl _ _ | refine Below.drew ?_ | (refine below_alloc _ ?_ ?_; focus (first | omega | (simp; done) | (simp; omega) | (simp at *; omega))) | (refine below_set _ ?_ ?_; focus (first | omega | (simp; done) | (simp; omega) | (simp at *; omega))) | refine below_drewN ?_ _ | (refine below_call (by assumption) ?_ ?_; focus (first | omega | (simp; done) | (simp; omega) | (simp at *; omega))) | (refine below_call' (by assumption) ?_ ?_; focus (first | omega | (simp; done) | (simp; omega) | (simp at *; omega))))), (by repeat (first | assumption | exact Below.refl _ _ | refine Below.drew ?_ | (refine below_alloc _ ?_ ?_; focus (first | omega | (simp; done) | (simp; omega) | (simp at *; omega))) | (refine below_set _ ?_ ?_; focus (first | omega | (simp; done) | (simp; omega) | (simp at *; omega))) | refine below_drewN ?_ _ | (refine below_call (by assumption) ?_ ?_; focus (first | omega | (simp; done) | (simp; omega) | (simp at *; omega))) | (refine below_call' (by assumption) ?_ ?_; focus (first | omega | (simp; done) | (simp; omega) | (simp at *; omega)))))⟩
        · have e2 := hq e1
          have e3 : (o.l != m.l) = false := by rw [bne, e2]; rfl
          clear hq
          go_wp2_with (go_at_call 33; refine (Find_any (some ⟨b1, o1, none⟩) l cap m.s _ (by omega) hA1).mono ?_; rintro e w' ⟨rfl, rfl⟩; rw [HF.out])
          go_quiet (fail)
          go_wp2_with (fail)
          refine (HCP.out _ (RowsAt.below hA1 (by repeat (first | assumption | exact Below.refl _ _ | refine Below.drew ?_ | (refine below_alloc _ ?_ ?_; focus (first | omega | (simp; done) | (simp; omega) | (simp at *; omega))) | (refine below_set _ ?_ ?_; focus (first | omega | (simp; done) | (simp; omega) | (simp at *; omega))) | refine below_drewN ?_ _ | (refine below_call (by assumption) ?_ ?_; focus (first | omega | (simp; done) | (simp; omega) | (simp at *; omega))) | (refine below_call' (by assumption) ?_ ?_; focus (first | omega | (simp; done) | (simp; omega) | (simp at *; omega))))))).mono ?_
          rintro e w3 ⟨A3, c3, rfl, own3, hb3⟩
          have hb13 : Below w1.heap.size w1 w3 := (by repeat (first | assumption | exact Below.refl _ _ | refine Below.drew ?_ | (refine below_alloc _ ?_ ?_; focus (first | omega | (simp; done) | (simp; omega) | (simp at *; omega))) | (refine below_set _ ?_ ?_; focus (first | omega | (simp; done) | (simp; omega) | (simp at *; omega))) | refine below_drewN ?_ _ | (refine below_call (by assumption) ?_ ?_; focus (first | omega | (simp; done) | (simp; omega) | (simp at *; omega))) | (refine below_call' (by assumption) ?_ ?_; focus (first | omega | (simp; done) | (simp; omega) | (simp at *; omega)))))
          replace x0 := cell_below' hb13 x0
          replace x1 := cell_below' hb13 x1
          replace x2 := cell_below' hb13 x2
          replace c0 := cell_below' hb13 c0
          replace c1 := cell_below' hb13 c1
          replace c2 := cell_below' hb13 c2
          have hbw3 : Below w.heap.size w w3 := hbw1.trans (hb13.mono (by omega))
          have hA3 : w3.ownsRow w1.heap.size 45 3 (.slice A3 l.length c3) l.length (cellsOf 3 msgC l) := own3
          clear hb3 hb13 own3
          go_wp2_with (fail)
          go_quiet (fail)
          go_wp2_with (fail)
          go_ret2
          rw [H4.out]
          exact ⟨A3, c3, rfl, own_below (own_mono hA3 (Nat.le_of_lt z1)) (by repeat (first | assumption | exact Below.refl _ _ | refine Below.drew ?_ | (refine below_alloc _ ?_ ?_; focus (first | omega | (simp; done) | (simp; omega) | (simp at *; omega))) | (refine below_set _ ?_ ?_; focus (first | omega | (simp; done) | (simp; omega) | (simp at *; omega))) | refine below_drewN ?_ _ | (refine below_call (by assumption) ?_ ?_; focus (first | omega | (simp; done) | (simp; omega) | (simp at *; omega))) | (refine below_call' (by assumption) ?_ ?_; focus (first | omega | (simp; done) | (simp; omega) | (simp at *; omega))))), (by repeat (first | assumption | exact Below.refl _ _ | refine Below.drew ?_ | (refine below_alloc _ ?_ ?_; focus (first | omega | (simp; done) | (simp; omega) | (simp at *; omega))) | (refine below_set _ ?_ ?_; focus (first | omega | (simp; done) | (simp; omega) | (simp at *; omega))) | refine below_drewN ?_ _ | (refine below_call (by assumption) ?_ ?_; focus (first | omega | (simp; done) | (simp; omega) | (simp at *; omega))) | (refine below_call' (by assumption) ?_ ?_; focus (first | omega | (simp; done) | (simp; omega) | (simp at *; omega)))))⟩
end
section
open Go.ChangeShapes Go.WideShapes Go.ChangeAt Go.RowKit
set_option linter.unusedVariables false
set_option linter.unusedSimpArgs false

set_option maxRecDepth 100000 in
set_option maxHeartbeats 4000000 in
theorem RMovedL_any (A1 : Option Addr) (c1 : Nat) (A2 : Option Addr) (c2 : Nat) (A3 : Option Addr) (c3 : Nat) (L : Lnk) (j : Nat) (m : Msg) (w : World) (hR : LnkR A1 A2 A3 L w) (hok : OkL L) (hz : isZ m = true) (hj0 : j < L.wire.length) :
    Calls Try.prog 49 #[LnkV A1 c1 A2 c2 A3 c3 L, .agg #[.int .i64 2, .int .i64 (j : Int), .string m.s, .int .i64 m.v, .int .i64 m.l]] w (LnkE2 (rmv L ⟨2, (j : Int), m⟩) w) := by
  obtain ⟨x, z, y⟩ := L
  have hR0 : MsgsAt w A1 x ∧ MsgsAt w A2 y ∧ PktsAt w A3 z := ⟨hR.r1, hR.r2, hR.r3⟩
  have HC := Lib.hid (fun W (h : LnkR A1 A2 A3 ⟨x, z, y⟩ W) => CopyLink_own A1 c1 A2 c2 A3 c3 ⟨x, z, y⟩ W (by have := hok.l1; omega) (by have := hok.l2; omega) (by have := hok.l3; omega) h)
  have l1 : x.length ≤ 30 := hok.l1
  have l2 : y.length ≤ 30 := hok.l2
  have l3 : z.length ≤ 60 := hok.l3
  have HOK := Lib.hid hok
  have HRM : Hid (rmv ⟨x, z, y⟩ ⟨2, (j : Int), m⟩ = rmv ⟨x, z, y⟩ ⟨2, (j : Int), m⟩) := Lib.hid rfl
  clear hok hR0
  have hj : j < z.length := hj0
  simp only [LnkV]
  go_enter Try.func49, Try.ntmps49
  go_wp2_with (fail)
  have hb0 : Below w.heap.size w (((w.alloc (.cells #[.slice A1 x.length c1, .slice A3 z.length c3, .slice A2 y.length c2] 41)).alloc (.cells #[.int .i64 2, .int .i64 (j : Int), .string m.s, .int .i64 m.v, .int .i64 m.l] 47)).alloc (.cells #[.slice none 0 0, .slice none 0 0, .slice none 0 0] 41)) := below_alloc _ (Nat.le_refl _) (below_alloc _ (Nat.le_refl _) (below_alloc _ (Nat.le_refl _) (Below.refl _ _)))
  have p0 : (((w.alloc (.cells #[.slice A1 x.length c1, .slice A3 z.length c3, .slice A2 y.length c2] 41)).alloc (.cells #[.int .i64 2, .int .i64 (j : Int), .string m.s, .int .i64 m.v, .int .i64 m.l] 47)).alloc (.cells #[.slice none 0 0, .slice none 0 0, .slice none 0 0] 41)).cell? ⟨w.heap.size, 0, none⟩ = some (.slice A1 x.length c1) := cell_alloc _ (cell_alloc _ (cell_new (by simp) rfl))
  have p1 : (((w.alloc (.cells #[.slice A1 x.length c1, .slice A3 z.length c3, .slice A2 y.length c2] 41)).alloc (.cells #[.int .i64 2, .int .i64 (j : Int), .string m.s, .int .i64 m.v, .int .i64 m.l] 47)).alloc (.cells #[.slice none 0 0, .slice none 0 0, .slice none 0 0] 41)).cell? ⟨w.heap.size, 1, none⟩ = some (.slice A3 z.length c3) := cell_alloc _ (cell_alloc _ (cell_new (by simp) rfl))
  have p2 : (((w.alloc (.cells #[.slice A1 x.length c1, .slice A3 z.length c3, .slice A2 y.length c2] 41)).alloc (.cells #[.int .i64 2, .int .i64 (j : Int), .string m.s, .int .i64 m.v, .int .i64 m.l] 47)).alloc (.cells #[.slice none 0 0, .slice none 0 0, .slice none 0 0] 41)).cell? ⟨w.heap.size, 2, none⟩ = some (.slice A2 y.length c2) := cell_alloc _ (cell_alloc _ (cell_new (by simp) rfl))
  have pk : (((w.alloc (.cells #[.slice A1 x.length c1, .slice A3 z.length c3, .slice A2 y.length c2] 41)).alloc (.cells #[.int .i64 2, .int .i64 (j : Int), .string m.s, .int .i64 m.v, .int .i64 m.l] 47)).alloc (.cells #[.slice none 0 0, .slice none 0 0, .slice none 0 0] 41)).heap[w.heap.size]? = some (.cells #[.slice A1 x.length c1, .slice A3 z.length c3, .slice A2 y.length c2] 41) := blk_alloc _ (blk_alloc _ (blk_new (by simp)))
  have zp : w.heap.size < (((w.alloc (.cells #[.slice A1 x.length c1, .slice A3 z.length c3, .slice A2 y.length c2] 41)).alloc (.cells #[.int .i64 2, .int .i64 (j : Int), .string m.s, .int .i64 m.v, .int .i64 m.l] 47)).alloc (.cells #[.slice none 0 0, .slice none 0 0, .slice none 0 0] 41)).heap.size := World.block_lt_of_cell? _ _ p0
  have q0 : (((w.alloc (.cells #[.slice A1 x.length c1, .slice A3 z.length c3, .slice A2 y.length c2] 41)).alloc (.cells #[.int .i64 2, .int .i64 (j : Int), .string m.s, .int .i64 m.v, .int .i64 m.l] 47)).alloc (.cells #[.slice none 0 0, .slice none 0 0, .slice none 0 0] 41)).cell? ⟨w.heap.size + 1, 0, none⟩ = some (.int .i64 2) := cell_alloc _ (cell_new (by simp) rfl)
  have q1 : (((w.alloc (.cells #[.slice A1 x.length c1, .slice A3 z.length c3, .slice A2 y.length c2] 41)).alloc (.cells #[.int .i64 2, .int .i64 (j : Int), .string m.s, .int .i64 m.v, .int .i64 m.l] 47)).alloc (.cells #[.slice none 0 0, .slice none 0 0, .slice none 0 0] 41)).cell? ⟨w.heap.size + 1, 1, none⟩ = some (.int .i64 (j : Int)) := cell_alloc _ (cell_new (by simp) rfl)
  have q2 : (((w.alloc (.cells #[.slice A1 x.length c1, .slice A3 z.length c3, .slice A2 y.length c2] 41)).alloc (.cells #[.int .i64 2, .int .i64 (j : Int), .string m.s, .int .i64 m.v, .int .i64 m.l] 47)).alloc (.cells #[.slice none 0 0, .slice none 0 0, .slice none 0 0] 41)).cell? ⟨w.heap.size + 1, 2, none⟩ = some (.string m.s) := cell_alloc _ (cell_new (by simp) rfl)
  have q3 : (((w.alloc (.cells #[.slice A1 x.length c1, .slice A3 z.length c3, .slice A2 y.length c2] 41)).alloc (.cells #[.int .i64 2, .int .i64 (j : Int), .string m.s, .int .i64 m.v, .int .i64 m.l] 47)).alloc (.cells #[.slice none 0 0, .slice none 0 0, .slice none 0 0] 41)).cell? ⟨w.heap.size + 1, 3, none⟩ = some (.int .i64 m.v) := cell_alloc _ (cell_new (by simp) rfl)
  have q4 : (((w.alloc (.cells #[.slice A1 x.length c1, .slice A3 z.length c3, .slice A2 y.length c2] 41)).alloc (.cells #[.int .i64 2, .int .i64 (j : Int), .string m.s, .int .i64 m.v, .int .i64 m.l] 47)).alloc (.cells #[.slice none 0 0, .slice none 0 0, .slice none 0 0] 41)).cell? ⟨w.heap.size + 1, 4, none⟩ = some (.int .i64 m.l) := cell_alloc _ (cell_new (by simp) rfl)
  have qk : (((w.alloc (.cells #[.slice A1 x.length c1, .slice A3 z.length c3, .slice A2 y.length c2] 41)).alloc (.cells #[.int .i64 2, .int .i64 (j : Int), .string m.s, .int .i64 m.v, .int .i64 m.l] 47)).alloc (.cells #[.slice none 0 0, .slice none 0 0, .slice none 0 0] 41)).heap[w.heap.size + 1]? = some (.cells #[.int .i64 2, .int .i64 (j : Int), .string m.s, .int .i64 m.v, .int .i64 m.l] 47) := blk_alloc _ (blk_new (by simp))
  have zq : w.heap.size + 1 < (((w.alloc (.cells #[.slice A1 x.length c1, .slice A3 z.length c3, .slice A2 y.length c2] 41)).alloc (.cells #[.int .i64 2, .int .i64 (j : Int), .string m.s, .int .i64 m.v, .int .i64 m.l] 47)).alloc (.cells #[.slice none 0 0, .slice none 0 0, .slice none 0 0] 41)).heap.size := World.block_lt_of_cell? _ _ q0
  have s0 : (((w.alloc (.cells #[.slice A1 x.length c1, .slice A3 z.length c3, .slice A2 y.length c2] 41)).alloc (.cells #[.int .i64 2, .int .i64 (j : Int), .string m.s, .int .i64 m.v, .int .i64 m.l] 47)).alloc (.cells #[.slice none 0 0, .slice none 0 0, .slice none 0 0] 41)).cell? ⟨w.heap.size + 1 + 1, 0, none⟩ = some (.slice none 0 0) := cell_new (by simp) rfl
  have s1 : (((w.alloc (.cells #[.slice A1 x.length c1, .slice A3 z.length c3, .slice A2 y.length c2] 41)).alloc (.cells #[.int .i64 2, .int .i64 (j : Int), .string m.s, .int .i64 m.v, .int .i64 m.l] 47)).alloc (.cells #[.slice none 0 0, .slice none 0 0, .slice none 0 0] 41)).cell? ⟨w.heap.size + 1 + 1, 1, none⟩ = some (.slice none 0 0) := cell_new (by simp) rfl
  have s2 : (((w.alloc (.cells #[.slice A1 x.length c1, .slice A3 z.length c3, .slice A2 y.length c2] 41)).alloc (.cells #[.int .i64 2, .int .i64 (j : Int), .string m.s, .int .i64 m.v, .int .i64 m.l] 47)).alloc (.cells #[.slice none 0 0, .slice none 0 0, .slice none 0 0] 41)).cell? ⟨w.heap.size + 1 + 1, 2, none⟩ = some (.slice none 0 0) := cell_new (by simp) rfl
  have sk : (((w.alloc (.cells #[.slice A1 x.length c1, .slice A3 z.length c3, .slice A2 y.length c2] 41)).alloc (.cells #[.int .i64 2, .int .i64 (j : Int), .string m.s, .int .i64 m.v, .int .i64 m.l] 47)).alloc (.cells #[.slice none 0 0, .slice none 0 0, .slice none 0 0] 41)).heap[w.heap.size + 1 + 1]? = some (.cells #[.slice none 0 0, .slice none 0 0, .slice none 0 0] 41) := blk_new (by simp)
  have zs : w.heap.size + 1 + 1 < (((w.alloc (.cells #[.slice A1 x.length c1, .slice A3 z.length c3, .slice A2 y.length c2] 41)).alloc (.cells #[.int .i64 2, .int .i64 (j : Int), .string m.s, .int .i64 m.v, .int .i64 m.l] 47)).alloc (.cells #[.slice none 0 0, .slice none 0 0, .slice none 0 0] 41)).heap.size := World.block_lt_of_cell? _ _ s0
  generalize (((w.alloc (.cells #[.slice A1 x.length c1, .slice A3 z.length c3, .slice A2 y.length c2] 41)).alloc (.cells #[.int .i64 2, .int .i64 (j : Int), .string m.s, .int .i64 m.v, .int .i64 m.l] 47)).alloc (.cells #[.slice none 0 0, .slice none 0 0, .slice none 0 0] 41)) = w0 at *
  refine (HC.out _ (hR.below hb0)).mono ?_
  rintro e w1 ⟨B1, d1, B2, d2, B3, d3, rfl, own, hb1, zw1⟩
  clear HC hR
  have hak := blk_below' hb1 pk
  have hbk := blk_below' hb1 qk
  have hck := blk_below' hb1 sk
  have zz := hb1.size
  have hbw1 : Below w.heap.size w w1 := hb0.trans (hb1.mono hb0.size)
  clear pk qk sk p0 p1 p2 q0 q1 q2 q3 q4 s0 s1 s2 hb0 hb1
  have p0 := blk_cell hak (j := 0) rfl
  have p1 := blk_cell hak (j := 1) rfl
  have p2 := blk_cell hak (j := 2) rfl
  have pf0 := blk_frozen (j := 0) hak
  have pf1 := blk_frozen (j := 1) hak
  have pf2 := blk_frozen (j := 2) hak
  have zx : w.heap.size + 2 < w1.heap.size := Nat.lt_of_lt_of_le zs zz
  go_upto_region 2 with (fail)
  have pk := blk_set3 (v0 := .slice B1 x.length d1) (v1 := .slice B3 z.length d3) (v2 := .slice B2 y.length d2) hak
  have qk := blk_far3 (b := w.heap.size) (v0 := .slice B1 x.length d1) (v1 := .slice B3 z.length d3) (v2 := .slice B2 y.length d2) (by omega) hbk
  have sk := blk_far3 (b := w.heap.size) (v0 := .slice B1 x.length d1) (v1 := .slice B3 z.length d3) (v2 := .slice B2 y.length d2) (by omega) hck
  have own2 := ((own.set (j := 0) (a := w.heap.size) (by omega) (.slice B1 x.length d1)).set (j := 1) (a := w.heap.size) (by omega) (.slice B3 z.length d3)).set (j := 2) (a := w.heap.size) (by omega) (.slice B2 y.length d2)
  have zB2 : w0.heap.size + 2 ≤ (((w1.setCell ⟨w.heap.size, 0, none⟩ (.slice B1 x.length d1)).setCell ⟨w.heap.size, 1, none⟩ (.slice B3 z.length d3)).setCell ⟨w.heap.size, 2, none⟩ (.slice B2 y.length d2)).heap.size := by simp; omega
  have hbw : Below w.heap.size w (((w1.setCell ⟨w.heap.size, 0, none⟩ (.slice B1 x.length d1)).setCell ⟨w.heap.size, 1, none⟩ (.slice B3 z.length d3)).setCell ⟨w.heap.size, 2, none⟩ (.slice B2 y.length d2)) := below_set _ (by simp) (below_set _ (by simp) (below_set _ (by simp) hbw1))
  have zx2 : w.heap.size + 2 < (((w1.setCell ⟨w.heap.size, 0, none⟩ (.slice B1 x.length d1)).setCell ⟨w.heap.size, 1, none⟩ (.slice B3 z.length d3)).setCell ⟨w.heap.size, 2, none⟩ (.slice B2 y.length d2)).heap.size := by simp; omega
  clear hak hbk hck p0 p1 p2 pf0 pf1 pf2 own hbw1 zx zz zw1
  generalize (((w1.setCell ⟨w.heap.size, 0, none⟩ (.slice B1 x.length d1)).setCell ⟨w.heap.size, 1, none⟩ (.slice B3 z.length d3)).setCell ⟨w.heap.size, 2, none⟩ (.slice B2 y.length d2)) = w2 at *
  have OWN := Lib.hid own2
  have zB : w.heap.size + 2 < w0.heap.size := zs
  have za2 : w.heap.size < w2.heap.size := by omega
  have zpB : w.heap.size < w0.heap.size + 2 := by omega
  have zqB : w.heap.size + 1 < w0.heap.size + 2 := by omega
  have zsB : w.heap.size + 1 + 1 < w0.heap.size + 2 := by omega
  have zb2 : w.heap.size + 1 < w2.heap.size := by omega
  clear own2 zp zq zs w1
  have p0 : w2.cell? ⟨w.heap.size, 0, none⟩ = some (.slice B1 x.length d1) := blk_cell pk (j := 0) rfl
  have pf0 := blk_frozen (j := 0) pk
  have p1 : w2.cell? ⟨w.heap.size, 1, none⟩ = some (.slice B3 z.length d3) := blk_cell pk (j := 1) rfl
  have pf1 := blk_frozen (j := 1) pk
  have p2 : w2.cell? ⟨w.heap.size, 2, none⟩ = some (.slice B2 y.length d2) := blk_cell pk (j := 2) rfl
  have pf2 := blk_frozen (j := 2) pk
  have q0 : w2.cell? ⟨w.heap.size + 1, 0, none⟩ = some (.int .i64 2) := blk_cell qk (j := 0) rfl
  have q1 : w2.cell? ⟨w.heap.size + 1, 1, none⟩ = some (.int .i64 (j : Int)) := blk_cell qk (j := 1) rfl
  have q2 : w2.cell? ⟨w.heap.size + 1, 2, none⟩ = some (.string m.s) := blk_cell qk (j := 2) rfl
  have q3 : w2.cell? ⟨w.heap.size + 1, 3, none⟩ = some (.int .i64 m.v) := blk_cell qk (j := 3) rfl
  have q4 : w2.cell? ⟨w.heap.size + 1, 4, none⟩ = some (.int .i64 m.l) := blk_cell qk (j := 4) rfl
  have s0 : w2.cell? ⟨w.heap.size + 1 + 1, 0, none⟩ = some (.slice none 0 0) := blk_cell sk (j := 0) rfl
  have sf0 := blk_frozen (j := 0) sk
  have s1 : w2.cell? ⟨w.heap.size + 1 + 1, 1, none⟩ = some (.slice none 0 0) := blk_cell sk (j := 1) rfl
  have sf1 := blk_frozen (j := 1) sk
  have s2 : w2.cell? ⟨w.heap.size + 1 + 1, 2, none⟩ = some (.slice none 0 0) := blk_cell sk (j := 2) rfl
  have sf2 := blk_frozen (j := 2) sk
  have zB20 := zB2
  have HQ := Lib.hid (rmv_lose x z y j m hj hz)
  have hj1 : (j : Int) < (z.length : Int) := by omega
  have HW := Lib.hid (withinB_true.2 ⟨by omega, by omega⟩ : withinB (j : Int) 0 ((z.length : Int) - 1) = true)
  have iw : IntKind.i64.wrap ((z.length : Int) - 1) = (z.length : Int) - 1 := IntWalk.i64_in _ (by omega)
  have heq := neqZ m
  rw [hz] at heq
  obtain ⟨b1, o1, rfl, hb1, e0, e1, e2, e3⟩ := PktsAt.at_ OWN.out.reads.r3 hj
  clear HRM
  generalize z[j] = o at *
  go_upto_region 19 with (go_at_call 22; refine (Within_any _ _ _ _).mono ?_; rintro e w' ⟨rfl, rfl⟩; (first | rw [show withinB 2 0 4 = true from rfl] | rw [HW.out]))
  have rk : (w2.alloc (.cells #[.string o.m.s, .int .i64 o.m.v, .int .i64 o.m.l, .bool o.a] 150)).heap[w2.heap.size]? = some (.cells #[.string o.m.s, .int .i64 o.m.v, .int .i64 o.m.l, .bool o.a] 150) := blk_new rfl
  have hb3 : Below w2.heap.size w2 (w2.alloc (.cells #[.string o.m.s, .int .i64 o.m.v, .int .i64 o.m.l, .bool o.a] 150)) := below_alloc _ (Nat.le_refl _) (Below.refl _ _)
  have zr : w2.heap.size < (w2.alloc (.cells #[.string o.m.s, .int .i64 o.m.v, .int .i64 o.m.l, .bool o.a] 150)).heap.size := by simp
  generalize (w2.alloc (.cells #[.string o.m.s, .int .i64 o.m.v, .int .i64 o.m.l, .bool o.a] 150)) = w3 at *
  clear p0 p1 p2 pf0 pf1 pf2 q0 q1 q2 q3 q4 s0 s1 s2 sf0 sf1 sf2
  replace pk := blk_below' hb3 pk
  replace qk := blk_below' hb3 qk
  replace sk := blk_below' hb3 sk
  replace hbw := hbw.trans (hb3.mono (by omega))
  replace zx2 := Nat.lt_of_lt_of_le zx2 hb3.size
  replace za2 := Nat.lt_of_lt_of_le za2 hb3.size
  replace zB2 := Nat.le_trans zB2 hb3.size
  replace zb2 := Nat.lt_of_lt_of_le zb2 hb3.size
  replace OWN := Lib.hid (OWN.out.below hb3)
  have p0 : w3.cell? ⟨w.heap.size, 0, none⟩ = some (.slice B1 x.length d1) := blk_cell pk (j := 0) rfl
  have pf0 := blk_frozen (j := 0) pk
  have p1 : w3.cell? ⟨w.heap.size, 1, none⟩ = some (.slice (some ⟨b1, o1, none⟩) z.length d3) := blk_cell pk (j := 1) rfl
  have pf1 := blk_frozen (j := 1) pk
  have p2 : w3.cell? ⟨w.heap.size, 2, none⟩ = some (.slice B2 y.length d2) := blk_cell pk (j := 2) rfl
  have pf2 := blk_frozen (j := 2) pk
  have q0 : w3.cell? ⟨w.heap.size + 1, 0, none⟩ = some (.int .i64 2) := blk_cell qk (j := 0) rfl
  have q1 : w3.cell? ⟨w.heap.size + 1, 1, none⟩ = some (.int .i64 (j : Int)) := blk_cell qk (j := 1) rfl
  have q2 : w3.cell? ⟨w.heap.size + 1, 2, none⟩ = some (.string m.s) := blk_cell qk (j := 2) rfl
  have q3 : w3.cell? ⟨w.heap.size + 1, 3, none⟩ = some (.int .i64 m.v) := blk_cell qk (j := 3) rfl
  have q4 : w3.cell? ⟨w.heap.size + 1, 4, none⟩ = some (.int .i64 m.l) := blk_cell qk (j := 4) rfl
  have s0 : w3.cell? ⟨w.heap.size + 1 + 1, 0, none⟩ = some (.slice none 0 0) := blk_cell sk (j := 0) rfl
  have sf0 := blk_frozen (j := 0) sk
  have s1 : w3.cell? ⟨w.heap.size + 1 + 1, 1, none⟩ = some (.slice none 0 0) := blk_cell sk (j := 1) rfl
  have sf1 := blk_frozen (j := 1) sk
  have s2 : w3.cell? ⟨w.heap.size + 1 + 1, 2, none⟩ = some (.slice none 0 0) := blk_cell sk (j := 2) rfl
  have sf2 := blk_frozen (j := 2) sk
  have r0 : w3.cell? ⟨w2.heap.size, 0, none⟩ = some (.string o.m.s) := blk_cell rk rfl
  have r1 : w3.cell? ⟨w2.heap.size, 1, none⟩ = some (.int .i64 o.m.v) := blk_cell rk rfl
  have r2 : w3.cell? ⟨w2.heap.size, 2, none⟩ = some (.int .i64 o.m.l) := blk_cell rk rfl
  have r3 : w3.cell? ⟨w2.heap.size, 3, none⟩ = some (.bool o.a) := blk_cell rk rfl
  have HB2 := Lib.hid (show w0.heap.size + 2 ≤ w2.heap.size by first | assumption | exact zB20)
  clear hb3 e0 e1 e2 e3 hb1
  have HWO := Lib.hid (fun W (h : PktsAt W (some ⟨b1, o1, none⟩) z) => without_any (some ⟨b1, o1, none⟩) z d3 j W (by omega) hj h)
  go_upto_region 35 with (go_at_call 103; (with_reducible refine (HWO.out _ ?_).mono ?_); (focus (exact OWN.out.reads.r3)); rintro e w4 ⟨A5, d5, rfl, own5, hb4⟩; have p14 := cell_below' hb4 p1; have pf14 := frozen_below hb4 za2 pf1)
  clear p14 pf14
  clear p0 p1 p2 pf0 pf1 pf2 q0 q1 q2 q3 q4 s0 s1 s2 sf0 sf1 sf2
  replace pk := blk_below' hb4 pk
  replace qk := blk_below' hb4 qk
  replace sk := blk_below' hb4 sk
  replace hbw := hbw.trans (hb4.mono (by omega))
  replace zx2 := Nat.lt_of_lt_of_le zx2 hb4.size
  replace za2 := Nat.lt_of_lt_of_le za2 hb4.size
  replace zB2 := Nat.le_trans zB2 hb4.size
  replace zb2 := Nat.lt_of_lt_of_le zb2 hb4.size
  replace OWN := Lib.hid (OWN.out.below hb4)
  have p0 : w4.cell? ⟨w.heap.size, 0, none⟩ = some (.slice B1 x.length d1) := blk_cell pk (j := 0) rfl
  have pf0 := blk_frozen (j := 0) pk
  have p1 : w4.cell? ⟨w.heap.size, 1, none⟩ = some (.slice (some ⟨b1, o1, none⟩) z.length d3) := blk_cell pk (j := 1) rfl
  have pf1 := blk_frozen (j := 1) pk
  have p2 : w4.cell? ⟨w.heap.size, 2, none⟩ = some (.slice B2 y.length d2) := blk_cell pk (j := 2) rfl
  have pf2 := blk_frozen (j := 2) pk
  have q0 : w4.cell? ⟨w.heap.size + 1, 0, none⟩ = some (.int .i64 2) := blk_cell qk (j := 0) rfl
  have q1 : w4.cell? ⟨w.heap.size + 1, 1, none⟩ = some (.int .i64 (j : Int)) := blk_cell qk (j := 1) rfl
  have q2 : w4.cell? ⟨w.heap.size + 1, 2, none⟩ = some (.string m.s) := blk_cell qk (j := 2) rfl
  have q3 : w4.cell? ⟨w.heap.size + 1, 3, none⟩ = some (.int .i64 m.v) := blk_cell qk (j := 3) rfl
  have q4 : w4.cell? ⟨w.heap.size + 1, 4, none⟩ = some (.int .i64 m.l) := blk_cell qk (j := 4) rfl
  have s0 : w4.cell? ⟨w.heap.size + 1 + 1, 0, none⟩ = some (.slice none 0 0) := blk_cell sk (j := 0) rfl
  have sf0 := blk_frozen (j := 0) sk
  have s1 : w4.cell? ⟨w.heap.size + 1 + 1, 1, none⟩ = some (.slice none 0 0) := blk_cell sk (j := 1) rfl
  have sf1 := blk_frozen (j := 1) sk
  have s2 : w4.cell? ⟨w.heap.size + 1 + 1, 2, none⟩ = some (.slice none 0 0) := blk_cell sk (j := 2) rfl
  have sf2 := blk_frozen (j := 2) sk
  have hL : LnkR B1 B2 A5 ⟨x, delL z j, y⟩ w4 := ⟨OWN.out.reads.r1, OWN.out.reads.r2, rowsAt_of_own own5 rfl (by decide)⟩
  have HLE := Lib.hid (delL_le z j)
  clear own5 hb4 HWO OWN rk r0 r1 r2 r3 zr
  generalize delL z j = z' at *
  have pk' : (w4.setCell ⟨w.heap.size, 1, none⟩ (.slice A5 z'.length d5)).heap[w.heap.size]? = some (.cells #[.slice B1 x.length d1, .slice A5 z'.length d5, .slice B2 y.length d2] 41) := heap_set pk
  have qk' := blk_far (p := ⟨w.heap.size, 1, none⟩) (.slice A5 z'.length d5) (by show _ ≠ w.heap.size; omega) qk
  have sk' := blk_far (p := ⟨w.heap.size, 1, none⟩) (.slice A5 z'.length d5) (by show _ ≠ w.heap.size; omega) sk
  have hbw' : Below w.heap.size w (w4.setCell ⟨w.heap.size, 1, none⟩ (.slice A5 z'.length d5)) := below_set _ (by simp) hbw
  have zx' : w.heap.size + 2 < (w4.setCell ⟨w.heap.size, 1, none⟩ (.slice A5 z'.length d5)).heap.size := by simp; omega
  have zy' : w0.heap.size + 2 ≤ (w4.setCell ⟨w.heap.size, 1, none⟩ (.slice A5 z'.length d5)).heap.size := by simp; omega
  have hL2 := lnk_far1 (j := 1) (v := .slice A5 z'.length d5) hL pk
  clear pk qk sk hbw zx2 za2 zb2 zB2 p0 p1 p2 pf0 pf1 pf2 q0 q1 q2 q3 q4 s0 s1 s2 sf0 sf1 sf2
  generalize (w4.setCell ⟨w.heap.size, 1, none⟩ (.slice A5 z'.length d5)) = w5 at *
  have pk := pk'
  have qk := qk'
  have sk := sk'
  have hbw := hbw'
  have zx2 := zx'
  have zB2 := zy'
  have za2 : w.heap.size < w5.heap.size := by omega
  have zb2 : w.heap.size + 1 < w5.heap.size := by omega
  clear pk' qk' sk' hbw' zx' zy'
  have p0 : w5.cell? ⟨w.heap.size, 0, none⟩ = some (.slice B1 x.length d1) := blk_cell pk (j := 0) rfl
  have pf0 := blk_frozen (j := 0) pk
  have p1 : w5.cell? ⟨w.heap.size, 1, none⟩ = some (.slice A5 z'.length d5) := blk_cell pk (j := 1) rfl
  have pf1 := blk_frozen (j := 1) pk
  have p2 : w5.cell? ⟨w.heap.size, 2, none⟩ = some (.slice B2 y.length d2) := blk_cell pk (j := 2) rfl
  have pf2 := blk_frozen (j := 2) pk
  have q0 : w5.cell? ⟨w.heap.size + 1, 0, none⟩ = some (.int .i64 2) := blk_cell qk (j := 0) rfl
  have q1 : w5.cell? ⟨w.heap.size + 1, 1, none⟩ = some (.int .i64 (j : Int)) := blk_cell qk (j := 1) rfl
  have q2 : w5.cell? ⟨w.heap.size + 1, 2, none⟩ = some (.string m.s) := blk_cell qk (j := 2) rfl
  have q3 : w5.cell? ⟨w.heap.size + 1, 3, none⟩ = some (.int .i64 m.v) := blk_cell qk (j := 3) rfl
  have q4 : w5.cell? ⟨w.heap.size + 1, 4, none⟩ = some (.int .i64 m.l) := blk_cell qk (j := 4) rfl
  have s0 : w5.cell? ⟨w.heap.size + 1 + 1, 0, none⟩ = some (.slice none 0 0) := blk_cell sk (j := 0) rfl
  have sf0 := blk_frozen (j := 0) sk
  have s1 : w5.cell? ⟨w.heap.size + 1 + 1, 1, none⟩ = some (.slice none 0 0) := blk_cell sk (j := 1) rfl
  have sf1 := blk_frozen (j := 1) sk
  have s2 : w5.cell? ⟨w.heap.size + 1 + 1, 2, none⟩ = some (.slice none 0 0) := blk_cell sk (j := 2) rfl
  have sf2 := blk_frozen (j := 2) sk
  clear hL
  have hg6 : ¬ ((60 : Int) < (z'.length : Int)) := by have := HLE.out; omega
  clear HLE
  go_wp2_with (fail)
  have hLF := lnk_farB (v0 := .slice B1 x.length d1) (v1 := .slice A5 z'.length d5) (v2 := .slice B2 y.length d2) hL2 sk
  refine bodyPost_ret (v := .tuple #[.agg #[.slice B1 x.length d1, .slice A5 z'.length d5, .slice B2 y.length d2], .int .i64 0]) (by simp [results, Try.results49, go_sem, s0, s1, s2, zx2]) rfl ?_
  rw [HQ.out]
  exact ⟨B1, d1, B2, d2, A5, d5, rfl, hLF, below_set _ (by simp; omega) (below_set _ (by simp; omega) (below_set _ (by simp; omega) hbw))⟩
end
section
open Go.ChangeShapes Go.WideShapes Go.ChangeAt Go.RowKit
set_option linter.unusedVariables false
set_option linter.unusedSimpArgs false

set_option maxRecDepth 100000 in
set_option maxHeartbeats 4000000 in
theorem RMovedC_any (A1 : Option Addr) (c1 : Nat) (A2 : Option Addr) (c2 : Nat) (A3 : Option Addr) (c3 : Nat) (L : Lnk) (j : Nat) (m : Msg) (w : World) (hR : LnkR A1 A2 A3 L w) (hok : OkL L) (hz : isZ m = true) (hj0 : j < L.wire.length) :
    Calls Try.prog 49 #[LnkV A1 c1 A2 c2 A3 c3 L, .agg #[.int .i64 3, .int .i64 (j : Int), .string m.s, .int .i64 m.v, .int .i64 m.l]] w (LnkE2 (rmv L ⟨3, (j : Int), m⟩) w) := by
  obtain ⟨x, z, y⟩ := L
  have hR0 : MsgsAt w A1 x ∧ MsgsAt w A2 y ∧ PktsAt w A3 z := ⟨hR.r1, hR.r2, hR.r3⟩
  have HC := Lib.hid (fun W (h : LnkR A1 A2 A3 ⟨x, z, y⟩ W) => CopyLink_own A1 c1 A2 c2 A3 c3 ⟨x, z, y⟩ W (by have := hok.l1; omega) (by have := hok.l2; omega) (by have := hok.l3; omega) h)
  have l1 : x.length ≤ 30 := hok.l1
  have l2 : y.length ≤ 30 := hok.l2
  have l3 : z.length ≤ 60 := hok.l3
  have HOK := Lib.hid hok
  have HRM : Hid (rmv ⟨x, z, y⟩ ⟨3, (j : Int), m⟩ = rmv ⟨x, z, y⟩ ⟨3, (j : Int), m⟩) := Lib.hid rfl
  clear hok hR0
  have hj : j < z.length := hj0
  simp only [LnkV]
  go_enter Try.func49, Try.ntmps49
  go_wp2_with (fail)
  have hb0 : Below w.heap.size w (((w.alloc (.cells #[.slice A1 x.length c1, .slice A3 z.length c3, .slice A2 y.length c2] 41)).alloc (.cells #[.int .i64 3, .int .i64 (j : Int), .string m.s, .int .i64 m.v, .int .i64 m.l] 47)).alloc (.cells #[.slice none 0 0, .slice none 0 0, .slice none 0 0] 41)) := below_alloc _ (Nat.le_refl _) (below_alloc _ (Nat.le_refl _) (below_alloc _ (Nat.le_refl _) (Below.refl _ _)))
  have p0 : (((w.alloc (.cells #[.slice A1 x.length c1, .slice A3 z.length c3, .slice A2 y.length c2] 41)).alloc (.cells #[.int .i64 3, .int .i64 (j : Int), .string m.s, .int .i64 m.v, .int .i64 m.l] 47)).alloc (.cells #[.slice none 0 0, .slice none 0 0, .slice none 0 0] 41)).cell? ⟨w.heap.size, 0, none⟩ = some (.slice A1 x.length c1) := cell_alloc _ (cell_alloc _ (cell_new (by simp) rfl))
  have p1 : (((w.alloc (.cells #[.slice A1 x.length c1, .slice A3 z.length c3, .slice A2 y.length c2] 41)).alloc (.cells #[.int .i64 3, .int .i64 (j : Int), .string m.s, .int .i64 m.v, .int .i64 m.l] 47)).alloc (.cells #[.slice none 0 0, .slice none 0 0, .slice none 0 0] 41)).cell? ⟨w.heap.size, 1, none⟩ = some (.slice A3 z.length c3) := cell_alloc _ (cell_alloc _ (cell_new (by simp) rfl))
  have p2 : (((w.alloc (.cells #[.slice A1 x.length c1, .slice A3 z.length c3, .slice A2 y.length c2] 41)).alloc (.cells #[.int .i64 3, .int .i64 (j : Int), .string m.s, .int .i64 m.v, .int .i64 m.l] 47)).alloc (.cells #[.slice none 0 0, .slice none 0 0, .slice none 0 0] 41)).cell? ⟨w.heap.size, 2, none⟩ = some (.slice A2 y.length c2) := cell_alloc _ (cell_alloc _ (cell_new (by simp) rfl))
  have pk : (((w.alloc (.cells #[.slice A1 x.length c1, .slice A3 z.length c3, .slice A2 y.length c2] 41)).alloc (.cells #[.int .i64 3, .int .i64 (j : Int), .string m.s, .int .i64 m.v, .int .i64 m.l] 47)).alloc (.cells #[.slice none 0 0, .slice none 0 0, .slice none 0 0] 41)).heap[w.heap.size]? = some (.cells #[.slice A1 x.length c1, .slice A3 z.length c3, .slice A2 y.length c2] 41) := blk_alloc _ (blk_alloc _ (blk_new (by simp)))
  have zp : w.heap.size < (((w.alloc (.cells #[.slice A1 x.length c1, .slice A3 z.length c3, .slice A2 y.length c2] 41)).alloc (.cells #[.int .i64 3, .int .i64 (j : Int), .string m.s, .int .i64 m.v, .int .i64 m.l] 47)).alloc (.cells #[.slice none 0 0, .slice none 0 0, .slice none 0 0] 41)).heap.size := World.block_lt_of_cell? _ _ p0
  have q0 : (((w.alloc (.cells #[.slice A1 x.length c1, .slice A3 z.length c3, .slice A2 y.length c2] 41)).alloc (.cells #[.int .i64 3, .int .i64 (j : Int), .string m.s, .int .i64 m.v, .int .i64 m.l] 47)).alloc (.cells #[.slice none 0 0, .slice none 0 0, .slice none 0 0] 41)).cell? ⟨w.heap.size + 1, 0, none⟩ = some (.int .i64 3) := cell_alloc _ (cell_new (by simp) rfl)
  have q1 : (((w.alloc (.cells #[.slice A1 x.length c1, .slice A3 z.length c3, .slice A2 y.length c2] 41)).alloc (.cells #[.int .i64 3, .int .i64 (j : Int), .string m.s, .int .i64 m.v, .int .i64 m.l] 47)).alloc (.cells #[.slice none 0 0, .slice none 0 0, .slice none 0 0] 41)).cell? ⟨w.heap.size + 1, 1, none⟩ = some (.int .i64 (j : Int)) := cell_alloc _ (cell_new (by simp) rfl)
  have q2 : (((w.alloc (.cells #[.slice A1 x.length c1, .slice A3 z.length c3, .slice A2 y.length c2] 41)).alloc (.cells #[.int .i64 3, .int .i64 (j : Int), .string m.s, .int .i64 m.v, .int .i64 m.l] 47)).alloc (.cells #[.slice none 0 0, .slice none 0 0, .slice none 0 0] 41)).cell? ⟨w.heap.size + 1, 2, none⟩ = some (.string m.s) := cell_alloc _ (cell_new (by simp) rfl)
  have q3 : (((w.alloc (.cells #[.slice A1 x.length c1, .slice A3 z.length c3, .slice A2 y.length c2] 41)).alloc (.cells #[.int .i64 3, .int .i64 (j : Int), .string m.s, .int .i64 m.v, .int .i64 m.l] 47)).alloc (.cells #[.slice none 0 0, .slice none 0 0, .slice none 0 0] 41)).cell? ⟨w.heap.size + 1, 3, none⟩ = some (.int .i64 m.v) := cell_alloc _ (cell_new (by simp) rfl)
  have q4 : (((w.alloc (.cells #[.slice A1 x.length c1, .slice A3 z.length c3, .slice A2 y.length c2] 41)).alloc (.cells #[.int .i64 3, .int .i64 (j : Int), .string m.s, .int .i64 m.v, .int .i64 m.l] 47)).alloc (.cells #[.slice none 0 0, .slice none 0 0, .slice none 0 0] 41)).cell? ⟨w.heap.size + 1, 4, none⟩ = some (.int .i64 m.l) := cell_alloc _ (cell_new (by simp) rfl)
  have qk : (((w.alloc (.cells #[.slice A1 x.length c1, .slice A3 z.length c3, .slice A2 y.length c2] 41)).alloc (.cells #[.int .i64 3, .int .i64 (j : Int), .string m.s, .int .i64 m.v, .int .i64 m.l] 47)).alloc (.cells #[.slice none 0 0, .slice none 0 0, .slice none 0 0] 41)).heap[w.heap.size + 1]? = some (.cells #[.int .i64 3, .int .i64 (j : Int), .string m.s, .int .i64 m.v, .int .i64 m.l] 47) := blk_alloc _ (blk_new (by simp))
  have zq : w.heap.size + 1 < (((w.alloc (.cells #[.slice A1 x.length c1, .slice A3 z.length c3, .slice A2 y.length c2] 41)).alloc (.cells #[.int .i64 3, .int .i64 (j : Int), .string m.s, .int .i64 m.v, .int .i64 m.l] 47)).alloc (.cells #[.slice none 0 0, .slice none 0 0, .slice none 0 0] 41)).heap.size := World.block_lt_of_cell? _ _ q0
  have s0 : (((w.alloc (.cells #[.slice A1 x.length c1, .slice A3 z.length c3, .slice A2 y.length c2] 41)).alloc (.cells #[.int .i64 3, .int .i64 (j : Int), .string m.s, .int .i64 m.v, .int .i64 m.l] 47)).alloc (.cells #[.slice none 0 0, .slice none 0 0, .slice none 0 0] 41)).cell? ⟨w.heap.size + 1 + 1, 0, none⟩ = some (.slice none 0 0) := cell_new (by simp) rfl
  have s1 : (((w.alloc (.cells #[.slice A1 x.length c1, .slice A3 z.length c3, .slice A2 y.length c2] 41)).alloc (.cells #[.int .i64 3, .int .i64 (j : Int), .string m.s, .int .i64 m.v, .int .i64 m.l] 47)).alloc (.cells #[.slice none 0 0, .slice none 0 0, .slice none 0 0] 41)).cell? ⟨w.heap.size + 1 + 1, 1, none⟩ = some (.slice none 0 0) := cell_new (by simp) rfl
  have s2 : (((w.alloc (.cells #[.slice A1 x.length c1, .slice A3 z.length c3, .slice A2 y.length c2] 41)).alloc (.cells #[.int .i64 3, .int .i64 (j : Int), .string m.s, .int .i64 m.v, .int .i64 m.l] 47)).alloc (.cells #[.slice none 0 0, .slice none 0 0, .slice none 0 0] 41)).cell? ⟨w.heap.size + 1 + 1, 2, none⟩ = some (.slice none 0 0) := cell_new (by simp) rfl
  have sk : (((w.alloc (.cells #[.slice A1 x.length c1, .slice A3 z.length c3, .slice A2 y.length c2] 41)).alloc (.cells #[.int .i64 3, .int .i64 (j : Int), .string m.s, .int .i64 m.v, .int .i64 m.l] 47)).alloc (.cells #[.slice none 0 0, .slice none 0 0, .slice none 0 0] 41)).heap[w.heap.size + 1 + 1]? = some (.cells #[.slice none 0 0, .slice none 0 0, .slice none 0 0] 41) := blk_new (by simp)
  have zs : w.heap.size + 1 + 1 < (((w.alloc (.cells #[.slice A1 x.length c1, .slice A3 z.length c3, .slice A2 y.length c2] 41)).alloc (.cells #[.int .i64 3, .int .i64 (j : Int), .string m.s, .int .i64 m.v, .int .i64 m.l] 47)).alloc (.cells #[.slice none 0 0, .slice none 0 0, .slice none 0 0] 41)).heap.size := World.block_lt_of_cell? _ _ s0
  generalize (((w.alloc (.cells #[.slice A1 x.length c1, .slice A3 z.length c3, .slice A2 y.length c2] 41)).alloc (.cells #[.int .i64 3, .int .i64 (j : Int), .string m.s, .int .i64 m.v, .int .i64 m.l] 47)).alloc (.cells #[.slice none 0 0, .slice none 0 0, .slice none 0 0] 41)) = w0 at *
  refine (HC.out _ (hR.below hb0)).mono ?_
  rintro e w1 ⟨B1, d1, B2, d2, B3, d3, rfl, own, hb1, zw1⟩
  clear HC hR
  have hak := blk_below' hb1 pk
  have hbk := blk_below' hb1 qk
  have hck := blk_below' hb1 sk
  have zz := hb1.size
  have hbw1 : Below w.heap.size w w1 := hb0.trans (hb1.mono hb0.size)
  clear pk qk sk p0 p1 p2 q0 q1 q2 q3 q4 s0 s1 s2 hb0 hb1
  have p0 := blk_cell hak (j := 0) rfl
  have p1 := blk_cell hak (j := 1) rfl
  have p2 := blk_cell hak (j := 2) rfl
  have pf0 := blk_frozen (j := 0) hak
  have pf1 := blk_frozen (j := 1) hak
  have pf2 := blk_frozen (j := 2) hak
  have zx : w.heap.size + 2 < w1.heap.size := Nat.lt_of_lt_of_le zs zz
  go_upto_region 2 with (fail)
  have pk := blk_set3 (v0 := .slice B1 x.length d1) (v1 := .slice B3 z.length d3) (v2 := .slice B2 y.length d2) hak
  have qk := blk_far3 (b := w.heap.size) (v0 := .slice B1 x.length d1) (v1 := .slice B3 z.length d3) (v2 := .slice B2 y.length d2) (by omega) hbk
  have sk := blk_far3 (b := w.heap.size) (v0 := .slice B1 x.length d1) (v1 := .slice B3 z.length d3) (v2 := .slice B2 y.length d2) (by omega) hck
  have own2 := ((own.set (j := 0) (a := w.heap.size) (by omega) (.slice B1 x.length d1)).set (j := 1) (a := w.heap.size) (by omega) (.slice B3 z.length d3)).set (j := 2) (a := w.heap.size) (by omega) (.slice B2 y.length d2)
  have zB2 : w0.heap.size + 2 ≤ (((w1.setCell ⟨w.heap.size, 0, none⟩ (.slice B1 x.length d1)).setCell ⟨w.heap.size, 1, none⟩ (.slice B3 z.length d3)).setCell ⟨w.heap.size, 2, none⟩ (.slice B2 y.length d2)).heap.size := by simp; omega
  have hbw : Below w.heap.size w (((w1.setCell ⟨w.heap.size, 0, none⟩ (.slice B1 x.length d1)).setCell ⟨w.heap.size, 1, none⟩ (.slice B3 z.length d3)).setCell ⟨w.heap.size, 2, none⟩ (.slice B2 y.length d2)) := below_set _ (by simp) (below_set _ (by simp) (below_set _ (by simp) hbw1))
  have zx2 : w.heap.size + 2 < (((w1.setCell ⟨w.heap.size, 0, none⟩ (.slice B1 x.length d1)).setCell ⟨w.heap.size, 1, none⟩ (.slice B3 z.length d3)).setCell ⟨w.heap.size, 2, none⟩ (.slice B2 y.length d2)).heap.size := by simp; omega
  clear hak hbk hck p0 p1 p2 pf0 pf1 pf2 own hbw1 zx zz zw1
  generalize (((w1.setCell ⟨w.heap.size, 0, none⟩ (.slice B1 x.length d1)).setCell ⟨w.heap.size, 1, none⟩ (.slice B3 z.length d3)).setCell ⟨w.heap.size, 2, none⟩ (.slice B2 y.length d2)) = w2 at *
  have OWN := Lib.hid own2
  have zB : w.heap.size + 2 < w0.heap.size := zs
  have za2 : w.heap.size < w2.heap.size := by omega
  have zpB : w.heap.size < w0.heap.size + 2 := by omega
  have zqB : w.heap.size + 1 < w0.heap.size + 2 := by omega
  have zsB : w.heap.size + 1 + 1 < w0.heap.size + 2 := by omega
  have zb2 : w.heap.size + 1 < w2.heap.size := by omega
  clear own2 zp zq zs w1
  have p0 : w2.cell? ⟨w.heap.size, 0, none⟩ = some (.slice B1 x.length d1) := blk_cell pk (j := 0) rfl
  have pf0 := blk_frozen (j := 0) pk
  have p1 : w2.cell? ⟨w.heap.size, 1, none⟩ = some (.slice B3 z.length d3) := blk_cell pk (j := 1) rfl
  have pf1 := blk_frozen (j := 1) pk
  have p2 : w2.cell? ⟨w.heap.size, 2, none⟩ = some (.slice B2 y.length d2) := blk_cell pk (j := 2) rfl
  have pf2 := blk_frozen (j := 2) pk
  have q0 : w2.cell? ⟨w.heap.size + 1, 0, none⟩ = some (.int .i64 3) := blk_cell qk (j := 0) rfl
  have q1 : w2.cell? ⟨w.heap.size + 1, 1, none⟩ = some (.int .i64 (j : Int)) := blk_cell qk (j := 1) rfl
  have q2 : w2.cell? ⟨w.heap.size + 1, 2, none⟩ = some (.string m.s) := blk_cell qk (j := 2) rfl
  have q3 : w2.cell? ⟨w.heap.size + 1, 3, none⟩ = some (.int .i64 m.v) := blk_cell qk (j := 3) rfl
  have q4 : w2.cell? ⟨w.heap.size + 1, 4, none⟩ = some (.int .i64 m.l) := blk_cell qk (j := 4) rfl
  have s0 : w2.cell? ⟨w.heap.size + 1 + 1, 0, none⟩ = some (.slice none 0 0) := blk_cell sk (j := 0) rfl
  have sf0 := blk_frozen (j := 0) sk
  have s1 : w2.cell? ⟨w.heap.size + 1 + 1, 1, none⟩ = some (.slice none 0 0) := blk_cell sk (j := 1) rfl
  have sf1 := blk_frozen (j := 1) sk
  have s2 : w2.cell? ⟨w.heap.size + 1 + 1, 2, none⟩ = some (.slice none 0 0) := blk_cell sk (j := 2) rfl
  have sf2 := blk_frozen (j := 2) sk
  have zB20 := zB2
  have HQ := Lib.hid (rmv_copy x z y j m hj hz)
  have hj1 : (j : Int) < (z.length : Int) := by omega
  have HW := Lib.hid (withinB_true.2 ⟨by omega, by omega⟩ : withinB (j : Int) 0 ((z.length : Int) - 1) = true)
  have iw : IntKind.i64.wrap ((z.length : Int) - 1) = (z.length : Int) - 1 := IntWalk.i64_in _ (by omega)
  have heq := neqZ m
  rw [hz] at heq
  obtain ⟨b1, o1, rfl, hb1, e0, e1, e2, e3⟩ := PktsAt.at_ OWN.out.reads.r3 hj
  clear HRM
  generalize z[j] = o at *
  go_upto_region 19 with (go_at_call 22; refine (Within_any _ _ _ _).mono ?_; rintro e w' ⟨rfl, rfl⟩; (first | rw [show withinB 3 0 4 = true from rfl] | rw [HW.out]))
  have rk : (w2.alloc (.cells #[.string o.m.s, .int .i64 o.m.v, .int .i64 o.m.l, .bool o.a] 150)).heap[w2.heap.size]? = some (.cells #[.string o.m.s, .int .i64 o.m.v, .int .i64 o.m.l, .bool o.a] 150) := blk_new rfl
  have hb3 : Below w2.heap.size w2 (w2.alloc (.cells #[.string o.m.s, .int .i64 o.m.v, .int .i64 o.m.l, .bool o.a] 150)) := below_alloc _ (Nat.le_refl _) (Below.refl _ _)
  have zr : w2.heap.size < (w2.alloc (.cells #[.string o.m.s, .int .i64 o.m.v, .int .i64 o.m.l, .bool o.a] 150)).heap.size := by simp
  generalize (w2.alloc (.cells #[.string o.m.s, .int .i64 o.m.v, .int .i64 o.m.l, .bool o.a] 150)) = w3 at *
  clear p0 p1 p2 pf0 pf1 pf2 q0 q1 q2 q3 q4 s0 s1 s2 sf0 sf1 sf2
  replace pk := blk_below' hb3 pk
  replace qk := blk_below' hb3 qk
  replace sk := blk_below' hb3 sk
  replace hbw := hbw.trans (hb3.mono (by omega))
  replace zx2 := Nat.lt_of_lt_of_le zx2 hb3.size
  replace za2 := Nat.lt_of_lt_of_le za2 hb3.size
  replace zB2 := Nat.le_trans zB2 hb3.size
  replace zb2 := Nat.lt_of_lt_of_le zb2 hb3.size
  replace OWN := Lib.hid (OWN.out.below hb3)
  have p0 : w3.cell? ⟨w.heap.size, 0, none⟩ = some (.slice B1 x.length d1) := blk_cell pk (j := 0) rfl
  have pf0 := blk_frozen (j := 0) pk
  have p1 : w3.cell? ⟨w.heap.size, 1, none⟩ = some (.slice (some ⟨b1, o1, none⟩) z.length d3) := blk_cell pk (j := 1) rfl
  have pf1 := blk_frozen (j := 1) pk
  have p2 : w3.cell? ⟨w.heap.size, 2, none⟩ = some (.slice B2 y.length d2) := blk_cell pk (j := 2) rfl
  have pf2 := blk_frozen (j := 2) pk
  have q0 : w3.cell? ⟨w.heap.size + 1, 0, none⟩ = some (.int .i64 3) := blk_cell qk (j := 0) rfl
  have q1 : w3.cell? ⟨w.heap.size + 1, 1, none⟩ = some (.int .i64 (j : Int)) := blk_cell qk (j := 1) rfl
  have q2 : w3.cell? ⟨w.heap.size + 1, 2, none⟩ = some (.string m.s) := blk_cell qk (j := 2) rfl
  have q3 : w3.cell? ⟨w.heap.size + 1, 3, none⟩ = some (.int .i64 m.v) := blk_cell qk (j := 3) rfl
  have q4 : w3.cell? ⟨w.heap.size + 1, 4, none⟩ = some (.int .i64 m.l) := blk_cell qk (j := 4) rfl
  have s0 : w3.cell? ⟨w.heap.size + 1 + 1, 0, none⟩ = some (.slice none 0 0) := blk_cell sk (j := 0) rfl
  have sf0 := blk_frozen (j := 0) sk
  have s1 : w3.cell? ⟨w.heap.size + 1 + 1, 1, none⟩ = some (.slice none 0 0) := blk_cell sk (j := 1) rfl
  have sf1 := blk_frozen (j := 1) sk
  have s2 : w3.cell? ⟨w.heap.size + 1 + 1, 2, none⟩ = some (.slice none 0 0) := blk_cell sk (j := 2) rfl
  have sf2 := blk_frozen (j := 2) sk
  have r0 : w3.cell? ⟨w2.heap.size, 0, none⟩ = some (.string o.m.s) := blk_cell rk rfl
  have r1 : w3.cell? ⟨w2.heap.size, 1, none⟩ = some (.int .i64 o.m.v) := blk_cell rk rfl
  have r2 : w3.cell? ⟨w2.heap.size, 2, none⟩ = some (.int .i64 o.m.l) := blk_cell rk rfl
  have r3 : w3.cell? ⟨w2.heap.size, 3, none⟩ = some (.bool o.a) := blk_cell rk rfl
  have HB2 := Lib.hid (show w0.heap.size + 2 ≤ w2.heap.size by first | assumption | exact zB20)
  clear hb3 e0 e1 e2 e3 hb1
  obtain ⟨i0, hi0, hz0, hz1, hz2⟩ := infoPkt_
  have HI := Lib.hid hi0
  have HZ0 := Lib.hid hz0
  have HZ1 := Lib.hid hz1
  have HZ2 := Lib.hid hz2
  clear hi0 hz0 hz1 hz2
  go_upto_region 35 with (at_builtin; (refine wpList_append_rows _ rfl (.tmp 101) (.tmp 103) 39 rfl (w0.heap.size + 2) 150 i0 (.agg #[.string ⟨#[]⟩, .int .i64 0, .int .i64 0, .bool false]) 4 40 Try.underlying39 HI.out HZ0.out HZ1.out HZ2.out rfl (by decide) (some ⟨b1, o1, none⟩) z.length d3 (cellsOf 4 pktC z) rfl (World.ownsRow.alloc OWN.out.o3 _) (some ⟨_, 0, none⟩) 1 1 (cellsOf 4 pktC [o]) rfl rfl (fun h => by cases h) (fun ad h => by cases h; exact RowsAt.news (rows_blkW (f := pktC) (m := 4) (l := [o]) (blk_new rfl) rfl) (by decide)) mem_oneP (by unfold maxLen; omega) (by omega) (by simp; omega) ?_; intro A5 d5 w5 own5 hg5 halt5); have hb5 : Below (w0.heap.size + 2) w3 w5 := below_own (below_alloc _ zB2 (Below.refl _ w3)) hg5 (World.ownsRow.alloc OWN.out.o3 _) (Nat.le_refl _) (by simp; omega); have p15 := cell_below hb5 p1 zpB; have pf15 := frozen_below hb5 zpB pf1)
  clear r0 r1 r2 r3 rk zr
  have hL : z.length + 1 = (z ++ [o]).length := by simp
  rw [hL] at own5 ⊢
  rw [← cellsOf_append] at own5
  have hl' : (z ++ [o]).length = z.length + 1 := by simp
  obtain ⟨r1, r2⟩ := OWN.out.app hg5 (fun g o h => blk_alloc _ h)
  have r3 : PktsAt w5 A5 (z ++ [o]) := rowsAt_of_own own5 rfl (by decide)
  have HL := Lib.hid hl'
  clear hL own5 hl' hg5 halt5 OWN
  generalize z ++ [o] = z' at *
  replace pk := blk_B hb5 zpB pk
  replace qk := blk_B hb5 zqB qk
  replace sk := blk_B hb5 zsB sk
  replace hbw := hbw.trans (hb5.mono (by omega))
  replace zx2 := Nat.lt_of_lt_of_le zx2 hb5.size
  replace za2 := Nat.lt_of_lt_of_le za2 hb5.size
  replace zb2 := Nat.lt_of_lt_of_le zb2 hb5.size
  replace zB2 := Nat.le_trans zB2 hb5.size
  have pk' : (w5.setCell ⟨w.heap.size, 1, none⟩ (.slice A5 z'.length d5)).heap[w.heap.size]? = some (.cells #[.slice B1 x.length d1, .slice A5 z'.length d5, .slice B2 y.length d2] 41) := heap_set pk
  have qk' := blk_far (p := ⟨w.heap.size, 1, none⟩) (.slice A5 z'.length d5) (by show _ ≠ w.heap.size; omega) qk
  have sk' := blk_far (p := ⟨w.heap.size, 1, none⟩) (.slice A5 z'.length d5) (by show _ ≠ w.heap.size; omega) sk
  have hbw' : Below w.heap.size w (w5.setCell ⟨w.heap.size, 1, none⟩ (.slice A5 z'.length d5)) := below_set _ (by simp) hbw
  have zx' : w.heap.size + 2 < (w5.setCell ⟨w.heap.size, 1, none⟩ (.slice A5 z'.length d5)).heap.size := by simp; omega
  have zy' : w0.heap.size + 2 ≤ (w5.setCell ⟨w.heap.size, 1, none⟩ (.slice A5 z'.length d5)).heap.size := by simp; omega
  have hL2 := lnk_far1 (j := 1) (v := .slice A5 z'.length d5) (show LnkR B1 B2 A5 ⟨x, z', y⟩ w5 from ⟨r1, r2, r3⟩) pk
  clear pk qk sk hbw zx2 za2 zb2 zB2 p0 p1 p2 pf0 pf1 pf2 q0 q1 q2 q3 q4 s0 s1 s2 sf0 sf1 sf2
  generalize (w5.setCell ⟨w.heap.size, 1, none⟩ (.slice A5 z'.length d5)) = w6 at *
  have pk := pk'
  have qk := qk'
  have sk := sk'
  have hbw := hbw'
  have zx2 := zx'
  have zB2 := zy'
  have za2 : w.heap.size < w6.heap.size := by omega
  have zb2 : w.heap.size + 1 < w6.heap.size := by omega
  clear pk' qk' sk' hbw' zx' zy'
  have p0 : w6.cell? ⟨w.heap.size, 0, none⟩ = some (.slice B1 x.length d1) := blk_cell pk (j := 0) rfl
  have pf0 := blk_frozen (j := 0) pk
  have p1 : w6.cell? ⟨w.heap.size, 1, none⟩ = some (.slice A5 z'.length d5) := blk_cell pk (j := 1) rfl
  have pf1 := blk_frozen (j := 1) pk
  have p2 : w6.cell? ⟨w.heap.size, 2, none⟩ = some (.slice B2 y.length d2) := blk_cell pk (j := 2) rfl
  have pf2 := blk_frozen (j := 2) pk
  have q0 : w6.cell? ⟨w.heap.size + 1, 0, none⟩ = some (.int .i64 3) := blk_cell qk (j := 0) rfl
  have q1 : w6.cell? ⟨w.heap.size + 1, 1, none⟩ = some (.int .i64 (j : Int)) := blk_cell qk (j := 1) rfl
  have q2 : w6.cell? ⟨w.heap.size + 1, 2, none⟩ = some (.string m.s) := blk_cell qk (j := 2) rfl
  have q3 : w6.cell? ⟨w.heap.size + 1, 3, none⟩ = some (.int .i64 m.v) := blk_cell qk (j := 3) rfl
  have q4 : w6.cell? ⟨w.heap.size + 1, 4, none⟩ = some (.int .i64 m.l) := blk_cell qk (j := 4) rfl
  have s0 : w6.cell? ⟨w.heap.size + 1 + 1, 0, none⟩ = some (.slice none 0 0) := blk_cell sk (j := 0) rfl
  have sf0 := blk_frozen (j := 0) sk
  have s1 : w6.cell? ⟨w.heap.size + 1 + 1, 1, none⟩ = some (.slice none 0 0) := blk_cell sk (j := 1) rfl
  have sf1 := blk_frozen (j := 1) sk
  have s2 : w6.cell? ⟨w.heap.size + 1 + 1, 2, none⟩ = some (.slice none 0 0) := blk_cell sk (j := 2) rfl
  have sf2 := blk_frozen (j := 2) sk
  clear r1 r2 r3 hb5 p15 pf15
  have hq := HQ.out
  by_cases h6 : 60 ≤ z.length
  · rw [if_pos h6] at hq
    replace hq := Lib.hid hq
    have hg6 : (60 : Int) < (z'.length : Int) := by have := HL.out; omega
    clear HL h6
    go_wp2_with (fail)
    refine bodyPost_ret (v := .tuple #[.agg #[.slice none 0 0, .slice none 0 0, .slice none 0 0], .int .i64 16]) (by simp [results, Try.results49, go_sem, s0, s1, s2, zx2]) rfl ?_
    rw [hq.out]
    exact ⟨none, 0, none, 0, none, 0, rfl, lnkR_z, (by repeat (first | assumption | exact Below.refl _ _ | refine Below.drew ?_ | (refine below_alloc _ ?_ ?_; focus (first | omega | (simp; done) | (simp; omega) | (simp at *; omega))) | (refine below_set _ ?_ ?_; focus (first | omega | (simp; done) | (simp; omega) | (simp at *; omega))) | refine below_drewN ?_ _ | (refine below_call (by assumption) ?_ ?_; focus (first | omega | (simp; done) | (simp; omega) | (simp at *; omega))) | (refine below_call' (by assumption) ?_ ?_; focus (first | omega | (simp; done) | (simp; omega) | (simp at *; omega)))))⟩
  · rw [if_neg h6] at hq
    replace hq := Lib.hid hq
    have hg6 : ¬ ((60 : Int) < (z'.length : Int)) := by have := HL.out; omega
    clear HL h6
    go_wp2_with (fail)
    have hLF := lnk_farB (v0 := .slice B1 x.length d1) (v1 := .slice A5 z'.length d5) (v2 := .slice B2 y.length d2) hL2 sk
    refine bodyPost_ret (v := .tuple #[.agg #[.slice B1 x.length d1, .slice A5 z'.length d5, .slice B2 y.length d2], .int .i64 0]) (by simp [results, Try.results49, go_sem, s0, s1, s2, zx2]) rfl ?_
    rw [hq.out]
    exact ⟨B1, d1, B2, d2, A5, d5, rfl, hLF, below_set _ (by simp; omega) (below_set _ (by simp; omega) (below_set _ (by simp; omega) hbw))⟩
end
section
open Go.ChangeShapes Go.WideShapes Go.ChangeAt Go.RowKit
set_option linter.unusedVariables false
set_option linter.unusedSimpArgs false

theorem app_keep {w w' : World} {B : Nat} {e : TypeId} {size n : Nat} {v : Value} {xs : List Value} {o : Obj} {row : Option Nat} (h : w.ownsRow B e size v n xs) (hg : (w.alloc o).grownBy w' row) (hne : Dis v.ownBlock row) : w'.ownsRow B e size v n xs :=
  own_atB h fun g ob e ho => (hg.block g (Array.getElem?_eq_some_iff.1 (blk_alloc _ ho)).1 (hne g e).symm).trans (blk_alloc _ ho)
set_option maxRecDepth 100000 in
set_option maxHeartbeats 4000000 in
theorem RMovedTN_any (A1 : Option Addr) (c1 : Nat) (A2 : Option Addr) (c2 : Nat) (A3 : Option Addr) (c3 : Nat) (L : Lnk) (j : Nat) (m : Msg) (w : World) (hR : LnkR A1 A2 A3 L w) (hok : OkL L) (hz : isZ m = true) (hj0 : j < L.wire.length) (ha : ∀ o, L.wire[j]? = some o → o.a = false) (hm : ∀ o, L.wire[j]? = some o → msgE o.m = 0) :
    Calls Try.prog 49 #[LnkV A1 c1 A2 c2 A3 c3 L, .agg #[.int .i64 4, .int .i64 (j : Int), .string m.s, .int .i64 m.v, .int .i64 m.l]] w (LnkE2 (rmv L ⟨4, (j : Int), m⟩) w) := by
  obtain ⟨x, z, y⟩ := L
  have hR0 : MsgsAt w A1 x ∧ MsgsAt w A2 y ∧ PktsAt w A3 z := ⟨hR.r1, hR.r2, hR.r3⟩
  have HC := Lib.hid (fun W (h : LnkR A1 A2 A3 ⟨x, z, y⟩ W) => CopyLink_own A1 c1 A2 c2 A3 c3 ⟨x, z, y⟩ W (by have := hok.l1; omega) (by have := hok.l2; omega) (by have := hok.l3; omega) h)
  have l1 : x.length ≤ 30 := hok.l1
  have l2 : y.length ≤ 30 := hok.l2
  have l3 : z.length ≤ 60 := hok.l3
  have HOK := Lib.hid hok
  have HRM : Hid (rmv ⟨x, z, y⟩ ⟨4, (j : Int), m⟩ = rmv ⟨x, z, y⟩ ⟨4, (j : Int), m⟩) := Lib.hid rfl
  clear hok hR0
  have hj : j < z.length := hj0
  have HA1 := Lib.hid (show z[j].a = false from ha _ (List.getElem?_eq_getElem hj))
  have HM1 := Lib.hid (show msgE z[j].m = 0 from hm _ (List.getElem?_eq_getElem hj))
  clear ha hm
  simp only [LnkV]
  go_enter Try.func49, Try.ntmps49
  go_wp2_with (fail)
  have hb0 : Below w.heap.size w (((w.alloc (.cells #[.slice A1 x.length c1, .slice A3 z.length c3, .slice A2 y.length c2] 41)).alloc (.cells #[.int .i64 4, .int .i64 (j : Int), .string m.s, .int .i64 m.v, .int .i64 m.l] 47)).alloc (.cells #[.slice none 0 0, .slice none 0 0, .slice none 0 0] 41)) := below_alloc _ (Nat.le_refl _) (below_alloc _ (Nat.le_refl _) (below_alloc _ (Nat.le_refl _) (Below.refl _ _)))
  have p0 : (((w.alloc (.cells #[.slice A1 x.length c1, .slice A3 z.length c3, .slice A2 y.length c2] 41)).alloc (.cells #[.int .i64 4, .int .i64 (j : Int), .string m.s, .int .i64 m.v, .int .i64 m.l] 47)).alloc (.cells #[.slice none 0 0, .slice none 0 0, .slice none 0 0] 41)).cell? ⟨w.heap.size, 0, none⟩ = some (.slice A1 x.length c1) := cell_alloc _ (cell_alloc _ (cell_new (by simp) rfl))
  have p1 : (((w.alloc (.cells #[.slice A1 x.length c1, .slice A3 z.length c3, .slice A2 y.length c2] 41)).alloc (.cells #[.int .i64 4, .int .i64 (j : Int), .string m.s, .int .i64 m.v, .int .i64 m.l] 47)).alloc (.cells #[.slice none 0 0, .slice none 0 0, .slice none 0 0] 41)).cell? ⟨w.heap.size, 1, none⟩ = some (.slice A3 z.length c3) := cell_alloc _ (cell_alloc _ (cell_new (by simp) rfl))
  have p2 : (((w.alloc (.cells #[.slice A1 x.length c1, .slice A3 z.length c3, .slice A2 y.length c2] 41)).alloc (.cells #[.int .i64 4, .int .i64 (j : Int), .string m.s, .int .i64 m.v, .int .i64 m.l] 47)).alloc (.cells #[.slice none 0 0, .slice none 0 0, .slice none 0 0] 41)).cell? ⟨w.heap.size, 2, none⟩ = some (.slice A2 y.length c2) := cell_alloc _ (cell_alloc _ (cell_new (by simp) rfl))
  have pk : (((w.alloc (.cells #[.slice A1 x.length c1, .slice A3 z.length c3, .slice A2 y.length c2] 41)).alloc (.cells #[.int .i64 4, .int .i64 (j : Int), .string m.s, .int .i64 m.v, .int .i64 m.l] 47)).alloc (.cells #[.slice none 0 0, .slice none 0 0, .slice none 0 0] 41)).heap[w.heap.size]? = some (.cells #[.slice A1 x.length c1, .slice A3 z.length c3, .slice A2 y.length c2] 41) := blk_alloc _ (blk_alloc _ (blk_new (by simp)))
  have zp : w.heap.size < (((w.alloc (.cells #[.slice A1 x.length c1, .slice A3 z.length c3, .slice A2 y.length c2] 41)).alloc (.cells #[.int .i64 4, .int .i64 (j : Int), .string m.s, .int .i64 m.v, .int .i64 m.l] 47)).alloc (.cells #[.slice none 0 0, .slice none 0 0, .slice none 0 0] 41)).heap.size := World.block_lt_of_cell? _ _ p0
  have q0 : (((w.alloc (.cells #[.slice A1 x.length c1, .slice A3 z.length c3, .slice A2 y.length c2] 41)).alloc (.cells #[.int .i64 4, .int .i64 (j : Int), .string m.s, .int .i64 m.v, .int .i64 m.l] 47)).alloc (.cells #[.slice none 0 0, .slice none 0 0, .slice none 0 0] 41)).cell? ⟨w.heap.size + 1, 0, none⟩ = some (.int .i64 4) := cell_alloc _ (cell_new (by simp) rfl)
  have q1 : (((w.alloc (.cells #[.slice A1 x.length c1, .slice A3 z.length c3, .slice A2 y.length c2] 41)).alloc (.cells #[.int .i64 4, .int .i64 (j : Int), .string m.s, .int .i64 m.v, .int .i64 m.l] 47)).alloc (.cells #[.slice none 0 0, .slice none 0 0, .slice none 0 0] 41)).cell? ⟨w.heap.size + 1, 1, none⟩ = some (.int .i64 (j : Int)) := cell_alloc _ (cell_new (by simp) rfl)
  have q2 : (((w.alloc (.cells #[.slice A1 x.length c1, .slice A3 z.length c3, .slice A2 y.length c2] 41)).alloc (.cells #[.int .i64 4, .int .i64 (j : Int), .string m.s, .int .i64 m.v, .int .i64 m.l] 47)).alloc (.cells #[.slice none 0 0, .slice none 0 0, .slice none 0 0] 41)).cell? ⟨w.heap.size + 1, 2, none⟩ = some (.string m.s) := cell_alloc _ (cell_new (by simp) rfl)
  have q3 : (((w.alloc (.cells #[.slice A1 x.length c1, .slice A3 z.length c3, .slice A2 y.length c2] 41)).alloc (.cells #[.int .i64 4, .int .i64 (j : Int), .string m.s, .int .i64 m.v, .int .i64 m.l] 47)).alloc (.cells #[.slice none 0 0, .slice none 0 0, .slice none 0 0] 41)).cell? ⟨w.heap.size + 1, 3, none⟩ = some (.int .i64 m.v) := cell_alloc _ (cell_new (by simp) rfl)
  have q4 : (((w.alloc (.cells #[.slice A1 x.length c1, .slice A3 z.length c3, .slice A2 y.length c2] 41)).alloc (.cells #[.int .i64 4, .int .i64 (j : Int), .string m.s, .int .i64 m.v, .int .i64 m.l] 47)).alloc (.cells #[.slice none 0 0, .slice none 0 0, .slice none 0 0] 41)).cell? ⟨w.heap.size + 1, 4, none⟩ = some (.int .i64 m.l) := cell_alloc _ (cell_new (by simp) rfl)
  have qk : (((w.alloc (.cells #[.slice A1 x.length c1, .slice A3 z.length c3, .slice A2 y.length c2] 41)).alloc (.cells #[.int .i64 4, .int .i64 (j : Int), .string m.s, .int .i64 m.v, .int .i64 m.l] 47)).alloc (.cells #[.slice none 0 0, .slice none 0 0, .slice none 0 0] 41)).heap[w.heap.size + 1]? = some (.cells #[.int .i64 4, .int .i64 (j : Int), .string m.s, .int .i64 m.v, .int .i64 m.l] 47) := blk_alloc _ (blk_new (by simp))
  have zq : w.heap.size + 1 < (((w.alloc (.cells #[.slice A1 x.length c1, .slice A3 z.length c3, .slice A2 y.length c2] 41)).alloc (.cells #[.int .i64 4, .int .i64 (j : Int), .string m.s, .int .i64 m.v, .int .i64 m.l] 47)).alloc (.cells #[.slice none 0 0, .slice none 0 0, .slice none 0 0] 41)).heap.size := World.block_lt_of_cell? _ _ q0
  have s0 : (((w.alloc (.cells #[.slice A1 x.length c1, .slice A3 z.length c3, .slice A2 y.length c2] 41)).alloc (.cells #[.int .i64 4, .int .i64 (j : Int), .string m.s, .int .i64 m.v, .int .i64 m.l] 47)).alloc (.cells #[.slice none 0 0, .slice none 0 0, .slice none 0 0] 41)).cell? ⟨w.heap.size + 1 + 1, 0, none⟩ = some (.slice none 0 0) := cell_new (by simp) rfl
  have s1 : (((w.alloc (.cells #[.slice A1 x.length c1, .slice A3 z.length c3, .slice A2 y.length c2] 41)).alloc (.cells #[.int .i64 4, .int .i64 (j : Int), .string m.s, .int .i64 m.v, .int .i64 m.l] 47)).alloc (.cells #[.slice none 0 0, .slice none 0 0, .slice none 0 0] 41)).cell? ⟨w.heap.size + 1 + 1, 1, none⟩ = some (.slice none 0 0) := cell_new (by simp) rfl
  have s2 : (((w.alloc (.cells #[.slice A1 x.length c1, .slice A3 z.length c3, .slice A2 y.length c2] 41)).alloc (.cells #[.int .i64 4, .int .i64 (j : Int), .string m.s, .int .i64 m.v, .int .i64 m.l] 47)).alloc (.cells #[.slice none 0 0, .slice none 0 0, .slice none 0 0] 41)).cell? ⟨w.heap.size + 1 + 1, 2, none⟩ = some (.slice none 0 0) := cell_new (by simp) rfl
  have sk : (((w.alloc (.cells #[.slice A1 x.length c1, .slice A3 z.length c3, .slice A2 y.length c2] 41)).alloc (.cells #[.int .i64 4, .int .i64 (j : Int), .string m.s, .int .i64 m.v, .int .i64 m.l] 47)).alloc (.cells #[.slice none 0 0, .slice none 0 0, .slice none 0 0] 41)).heap[w.heap.size + 1 + 1]? = some (.cells #[.slice none 0 0, .slice none 0 0, .slice none 0 0] 41) := blk_new (by simp)
  have zs : w.heap.size + 1 + 1 < (((w.alloc (.cells #[.slice A1 x.length c1, .slice A3 z.length c3, .slice A2 y.length c2] 41)).alloc (.cells #[.int .i64 4, .int .i64 (j : Int), .string m.s, .int .i64 m.v, .int .i64 m.l] 47)).alloc (.cells #[.slice none 0 0, .slice none 0 0, .slice none 0 0] 41)).heap.size := World.block_lt_of_cell? _ _ s0
  generalize (((w.alloc (.cells #[.slice A1 x.length c1, .slice A3 z.length c3, .slice A2 y.length c2] 41)).alloc (.cells #[.int .i64 4, .int .i64 (j : Int), .string m.s, .int .i64 m.v, .int .i64 m.l] 47)).alloc (.cells #[.slice none 0 0, .slice none 0 0, .slice none 0 0] 41)) = w0 at *
  refine (HC.out _ (hR.below hb0)).mono ?_
  rintro e w1 ⟨B1, d1, B2, d2, B3, d3, rfl, own, hb1, zw1⟩
  clear HC hR
  have hak := blk_below' hb1 pk
  have hbk := blk_below' hb1 qk
  have hck := blk_below' hb1 sk
  have zz := hb1.size
  have hbw1 : Below w.heap.size w w1 := hb0.trans (hb1.mono hb0.size)
  clear pk qk sk p0 p1 p2 q0 q1 q2 q3 q4 s0 s1 s2 hb0 hb1
  have p0 := blk_cell hak (j := 0) rfl
  have p1 := blk_cell hak (j := 1) rfl
  have p2 := blk_cell hak (j := 2) rfl
  have pf0 := blk_frozen (j := 0) hak
  have pf1 := blk_frozen (j := 1) hak
  have pf2 := blk_frozen (j := 2) hak
  have zx : w.heap.size + 2 < w1.heap.size := Nat.lt_of_lt_of_le zs zz
  go_upto_region 2 with (fail)
  have pk := blk_set3 (v0 := .slice B1 x.length d1) (v1 := .slice B3 z.length d3) (v2 := .slice B2 y.length d2) hak
  have qk := blk_far3 (b := w.heap.size) (v0 := .slice B1 x.length d1) (v1 := .slice B3 z.length d3) (v2 := .slice B2 y.length d2) (by omega) hbk
  have sk := blk_far3 (b := w.heap.size) (v0 := .slice B1 x.length d1) (v1 := .slice B3 z.length d3) (v2 := .slice B2 y.length d2) (by omega) hck
  have own2 := ((own.set (j := 0) (a := w.heap.size) (by omega) (.slice B1 x.length d1)).set (j := 1) (a := w.heap.size) (by omega) (.slice B3 z.length d3)).set (j := 2) (a := w.heap.size) (by omega) (.slice B2 y.length d2)
  have zB2 : w0.heap.size + 2 ≤ (((w1.setCell ⟨w.heap.size, 0, none⟩ (.slice B1 x.length d1)).setCell ⟨w.heap.size, 1, none⟩ (.slice B3 z.length d3)).setCell ⟨w.heap.size, 2, none⟩ (.slice B2 y.length d2)).heap.size := by simp; omega
  have hbw : Below w.heap.size w (((w1.setCell ⟨w.heap.size, 0, none⟩ (.slice B1 x.length d1)).setCell ⟨w.heap.size, 1, none⟩ (.slice B3 z.length d3)).setCell ⟨w.heap.size, 2, none⟩ (.slice B2 y.length d2)) := below_set _ (by simp) (below_set _ (by simp) (below_set _ (by simp) hbw1))
  have zx2 : w.heap.size + 2 < (((w1.setCell ⟨w.heap.size, 0, none⟩ (.slice B1 x.length d1)).setCell ⟨w.heap.size, 1, none⟩ (.slice B3 z.length d3)).setCell ⟨w.heap.size, 2, none⟩ (.slice B2 y.length d2)).heap.size := by simp; omega
  clear hak hbk hck p0 p1 p2 pf0 pf1 pf2 own hbw1 zx zz zw1
  generalize (((w1.setCell ⟨w.heap.size, 0, none⟩ (.slice B1 x.length d1)).setCell ⟨w.heap.size, 1, none⟩ (.slice B3 z.length d3)).setCell ⟨w.heap.size, 2, none⟩ (.slice B2 y.length d2)) = w2 at *
  have OWN := Lib.hid own2
  have zB : w.heap.size + 2 < w0.heap.size := zs
  have za2 : w.heap.size < w2.heap.size := by omega
  have zpB : w.heap.size < w0.heap.size + 2 := by omega
  have zqB : w.heap.size + 1 < w0.heap.size + 2 := by omega
  have zsB : w.heap.size + 1 + 1 < w0.heap.size + 2 := by omega
  have zb2 : w.heap.size + 1 < w2.heap.size := by omega
  clear own2 zp zq zs w1
  have p0 : w2.cell? ⟨w.heap.size, 0, none⟩ = some (.slice B1 x.length d1) := blk_cell pk (j := 0) rfl
  have pf0 := blk_frozen (j := 0) pk
  have p1 : w2.cell? ⟨w.heap.size, 1, none⟩ = some (.slice B3 z.length d3) := blk_cell pk (j := 1) rfl
  have pf1 := blk_frozen (j := 1) pk
  have p2 : w2.cell? ⟨w.heap.size, 2, none⟩ = some (.slice B2 y.length d2) := blk_cell pk (j := 2) rfl
  have pf2 := blk_frozen (j := 2) pk
  have q0 : w2.cell? ⟨w.heap.size + 1, 0, none⟩ = some (.int .i64 4) := blk_cell qk (j := 0) rfl
  have q1 : w2.cell? ⟨w.heap.size + 1, 1, none⟩ = some (.int .i64 (j : Int)) := blk_cell qk (j := 1) rfl
  have q2 : w2.cell? ⟨w.heap.size + 1, 2, none⟩ = some (.string m.s) := blk_cell qk (j := 2) rfl
  have q3 : w2.cell? ⟨w.heap.size + 1, 3, none⟩ = some (.int .i64 m.v) := blk_cell qk (j := 3) rfl
  have q4 : w2.cell? ⟨w.heap.size + 1, 4, none⟩ = some (.int .i64 m.l) := blk_cell qk (j := 4) rfl
  have s0 : w2.cell? ⟨w.heap.size + 1 + 1, 0, none⟩ = some (.slice none 0 0) := blk_cell sk (j := 0) rfl
  have sf0 := blk_frozen (j := 0) sk
  have s1 : w2.cell? ⟨w.heap.size + 1 + 1, 1, none⟩ = some (.slice none 0 0) := blk_cell sk (j := 1) rfl
  have sf1 := blk_frozen (j := 1) sk
  have s2 : w2.cell? ⟨w.heap.size + 1 + 1, 2, none⟩ = some (.slice none 0 0) := blk_cell sk (j := 2) rfl
  have sf2 := blk_frozen (j := 2) sk
  have zB20 := zB2
  have HQ := Lib.hid (rmv_takeN x z y j m hj hz HA1.out HM1.out l3)
  have hj1 : (j : Int) < (z.length : Int) := by omega
  have HW := Lib.hid (withinB_true.2 ⟨by omega, by omega⟩ : withinB (j : Int) 0 ((z.length : Int) - 1) = true)
  have iw : IntKind.i64.wrap ((z.length : Int) - 1) = (z.length : Int) - 1 := IntWalk.i64_in _ (by omega)
  have heq := neqZ m
  rw [hz] at heq
  obtain ⟨b1, o1, rfl, hb1, e0, e1, e2, e3⟩ := PktsAt.at_ OWN.out.reads.r3 hj
  clear HRM
  generalize z[j] = o at *
  go_upto_region 19 with (go_at_call 22; refine (Within_any _ _ _ _).mono ?_; rintro e w' ⟨rfl, rfl⟩; (first | rw [show withinB 4 0 4 = true from rfl] | rw [HW.out]))
  have rk : (w2.alloc (.cells #[.string o.m.s, .int .i64 o.m.v, .int .i64 o.m.l, .bool o.a] 150)).heap[w2.heap.size]? = some (.cells #[.string o.m.s, .int .i64 o.m.v, .int .i64 o.m.l, .bool o.a] 150) := blk_new rfl
  have hb3 : Below w2.heap.size w2 (w2.alloc (.cells #[.string o.m.s, .int .i64 o.m.v, .int .i64 o.m.l, .bool o.a] 150)) := below_alloc _ (Nat.le_refl _) (Below.refl _ _)
  have zr : w2.heap.size < (w2.alloc (.cells #[.string o.m.s, .int .i64 o.m.v, .int .i64 o.m.l, .bool o.a] 150)).heap.size := by simp
  generalize (w2.alloc (.cells #[.string o.m.s, .int .i64 o.m.v, .int .i64 o.m.l, .bool o.a] 150)) = w3 at *
  clear p0 p1 p2 pf0 pf1 pf2 q0 q1 q2 q3 q4 s0 s1 s2 sf0 sf1 sf2
  replace pk := blk_below' hb3 pk
  replace qk := blk_below' hb3 qk
  replace sk := blk_below' hb3 sk
  replace hbw := hbw.trans (hb3.mono (by omega))
  replace zx2 := Nat.lt_of_lt_of_le zx2 hb3.size
  replace za2 := Nat.lt_of_lt_of_le za2 hb3.size
  replace zB2 := Nat.le_trans zB2 hb3.size
  replace zb2 := Nat.lt_of_lt_of_le zb2 hb3.size
  replace OWN := Lib.hid (OWN.out.below hb3)
  have p0 : w3.cell? ⟨w.heap.size, 0, none⟩ = some (.slice B1 x.length d1) := blk_cell pk (j := 0) rfl
  have pf0 := blk_frozen (j := 0) pk
  have p1 : w3.cell? ⟨w.heap.size, 1, none⟩ = some (.slice (some ⟨b1, o1, none⟩) z.length d3) := blk_cell pk (j := 1) rfl
  have pf1 := blk_frozen (j := 1) pk
  have p2 : w3.cell? ⟨w.heap.size, 2, none⟩ = some (.slice B2 y.length d2) := blk_cell pk (j := 2) rfl
  have pf2 := blk_frozen (j := 2) pk
  have q0 : w3.cell? ⟨w.heap.size + 1, 0, none⟩ = some (.int .i64 4) := blk_cell qk (j := 0) rfl
  have q1 : w3.cell? ⟨w.heap.size + 1, 1, none⟩ = some (.int .i64 (j : Int)) := blk_cell qk (j := 1) rfl
  have q2 : w3.cell? ⟨w.heap.size + 1, 2, none⟩ = some (.string m.s) := blk_cell qk (j := 2) rfl
  have q3 : w3.cell? ⟨w.heap.size + 1, 3, none⟩ = some (.int .i64 m.v) := blk_cell qk (j := 3) rfl
  have q4 : w3.cell? ⟨w.heap.size + 1, 4, none⟩ = some (.int .i64 m.l) := blk_cell qk (j := 4) rfl
  have s0 : w3.cell? ⟨w.heap.size + 1 + 1, 0, none⟩ = some (.slice none 0 0) := blk_cell sk (j := 0) rfl
  have sf0 := blk_frozen (j := 0) sk
  have s1 : w3.cell? ⟨w.heap.size + 1 + 1, 1, none⟩ = some (.slice none 0 0) := blk_cell sk (j := 1) rfl
  have sf1 := blk_frozen (j := 1) sk
  have s2 : w3.cell? ⟨w.heap.size + 1 + 1, 2, none⟩ = some (.slice none 0 0) := blk_cell sk (j := 2) rfl
  have sf2 := blk_frozen (j := 2) sk
  have r0 : w3.cell? ⟨w2.heap.size, 0, none⟩ = some (.string o.m.s) := blk_cell rk rfl
  have r1 : w3.cell? ⟨w2.heap.size, 1, none⟩ = some (.int .i64 o.m.v) := blk_cell rk rfl
  have r2 : w3.cell? ⟨w2.heap.size, 2, none⟩ = some (.int .i64 o.m.l) := blk_cell rk rfl
  have r3 : w3.cell? ⟨w2.heap.size, 3, none⟩ = some (.bool o.a) := blk_cell rk rfl
  have HB2 := Lib.hid (show w0.heap.size + 2 ≤ w2.heap.size by first | assumption | exact zB20)
  clear hb3 e0 e1 e2 e3 hb1
  obtain ⟨i0, hi0, hz0, hz1, hz2⟩ := infoPkt_
  have HI := Lib.hid hi0
  have HZ0 := Lib.hid hz0
  have HZ1 := Lib.hid hz1
  have HZ2 := Lib.hid hz2
  clear hi0 hz0 hz1 hz2
  have HRC := Lib.hid (fun W (h : MsgsAt W B2 y) => RReceived_own B2 y d2 o.m W l2 HOK.out.s2 h)
  have HWO := Lib.hid (fun W (h : PktsAt W (some ⟨b1, o1, none⟩) z) => without_any (some ⟨b1, o1, none⟩) z d3 j W (by omega) hj h)
  rw [HA1.out] at rk r3
  have zpB0 := zpB
  go_upto_region 26 with (go_at_call 103; (with_reducible refine (HWO.out _ ?_).mono ?_); (focus (exact OWN.out.reads.r3)); rintro e va ⟨A4, d4, rfl, own4, hb4⟩; have p14 := cell_below' hb4 p1; have pf14 := frozen_below hb4 za2 pf1)
  replace zB2 := Nat.le_refl w3.heap.size
  replace zpB : w.heap.size < w3.heap.size := za2
  replace zqB : w.heap.size + 1 < w3.heap.size := zb2
  replace zsB : w.heap.size + 1 + 1 < w3.heap.size := zx2
  clear p14 pf14 r0 r1 r2 r3
  have hx5 := Lib.hid (dis_of OWN.out.o1 own4 (Nat.le_refl _))
  clear p0 p1 p2 pf0 pf1 pf2 q0 q1 q2 q3 q4 s0 s1 s2 sf0 sf1 sf2
  replace pk := blk_below' hb4 pk
  replace qk := blk_below' hb4 qk
  replace sk := blk_below' hb4 sk
  replace hbw := hbw.trans (hb4.mono (by omega))
  replace zx2 := Nat.lt_of_lt_of_le zx2 hb4.size
  replace za2 := Nat.lt_of_lt_of_le za2 hb4.size
  replace zB2 := Nat.le_trans zB2 hb4.size
  replace zb2 := Nat.lt_of_lt_of_le zb2 hb4.size
  replace OWN := Lib.hid (OWN.out.below hb4)
  have p0 : va.cell? ⟨w.heap.size, 0, none⟩ = some (.slice B1 x.length d1) := blk_cell pk (j := 0) rfl
  have pf0 := blk_frozen (j := 0) pk
  have p1 : va.cell? ⟨w.heap.size, 1, none⟩ = some (.slice (some ⟨b1, o1, none⟩) z.length d3) := blk_cell pk (j := 1) rfl
  have pf1 := blk_frozen (j := 1) pk
  have p2 : va.cell? ⟨w.heap.size, 2, none⟩ = some (.slice B2 y.length d2) := blk_cell pk (j := 2) rfl
  have pf2 := blk_frozen (j := 2) pk
  have q0 : va.cell? ⟨w.heap.size + 1, 0, none⟩ = some (.int .i64 4) := blk_cell qk (j := 0) rfl
  have q1 : va.cell? ⟨w.heap.size + 1, 1, none⟩ = some (.int .i64 (j : Int)) := blk_cell qk (j := 1) rfl
  have q2 : va.cell? ⟨w.heap.size + 1, 2, none⟩ = some (.string m.s) := blk_cell qk (j := 2) rfl
  have q3 : va.cell? ⟨w.heap.size + 1, 3, none⟩ = some (.int .i64 m.v) := blk_cell qk (j := 3) rfl
  have q4 : va.cell? ⟨w.heap.size + 1, 4, none⟩ = some (.int .i64 m.l) := blk_cell qk (j := 4) rfl
  have s0 : va.cell? ⟨w.heap.size + 1 + 1, 0, none⟩ = some (.slice none 0 0) := blk_cell sk (j := 0) rfl
  have sf0 := blk_frozen (j := 0) sk
  have s1 : va.cell? ⟨w.heap.size + 1 + 1, 1, none⟩ = some (.slice none 0 0) := blk_cell sk (j := 1) rfl
  have sf1 := blk_frozen (j := 1) sk
  have s2 : va.cell? ⟨w.heap.size + 1 + 1, 2, none⟩ = some (.slice none 0 0) := blk_cell sk (j := 2) rfl
  have sf2 := blk_frozen (j := 2) sk
  have HLE := Lib.hid (delL_len hj)
  replace rk := blk_below' hb4 rk
  replace zr := Nat.lt_of_lt_of_le zr hb4.size
  clear hb4 HWO
  generalize delL z j = zd at *
  have pk' : (va.setCell ⟨w.heap.size, 1, none⟩ (.slice A4 zd.length d4)).heap[w.heap.size]? = some (.cells #[.slice B1 x.length d1, .slice A4 zd.length d4, .slice B2 y.length d2] 41) := heap_set pk
  have qk' := blk_far (p := ⟨w.heap.size, 1, none⟩) (.slice A4 zd.length d4) (by show _ ≠ w.heap.size; omega) qk
  have sk' := blk_far (p := ⟨w.heap.size, 1, none⟩) (.slice A4 zd.length d4) (by show _ ≠ w.heap.size; omega) sk
  have hbw' : Below w.heap.size w (va.setCell ⟨w.heap.size, 1, none⟩ (.slice A4 zd.length d4)) := below_set _ (by simp) hbw
  have zx' : w.heap.size + 2 < (va.setCell ⟨w.heap.size, 1, none⟩ (.slice A4 zd.length d4)).heap.size := by simp; omega
  have zy' : w3.heap.size ≤ (va.setCell ⟨w.heap.size, 1, none⟩ (.slice A4 zd.length d4)).heap.size := by simp; omega
  have own4' := own_set (p := ⟨w.heap.size, 1, none⟩) own4 (own_ne_lt own4 zpB) (.slice A4 zd.length d4)
  have OWN' := Lib.hid (OWN.out.set (a := w.heap.size) (j := 1) zpB0 (.slice A4 zd.length d4))
  have rk' := blk_far (p := ⟨w.heap.size, 1, none⟩) (.slice A4 zd.length d4) (by show _ ≠ w.heap.size; omega) rk
  clear pk qk sk hbw zx2 za2 zb2 zB2 p0 p1 p2 pf0 pf1 pf2 q0 q1 q2 q3 q4 s0 s1 s2 sf0 sf1 sf2
  generalize (va.setCell ⟨w.heap.size, 1, none⟩ (.slice A4 zd.length d4)) = vb at *
  have pk := pk'
  have qk := qk'
  have sk := sk'
  have hbw := hbw'
  have zx2 := zx'
  have zB2 := zy'
  have za2 : w.heap.size < vb.heap.size := by omega
  have zb2 : w.heap.size + 1 < vb.heap.size := by omega
  clear pk' qk' sk' hbw' zx' zy'
  have p0 : vb.cell? ⟨w.heap.size, 0, none⟩ = some (.slice B1 x.length d1) := blk_cell pk (j := 0) rfl
  have pf0 := blk_frozen (j := 0) pk
  have p1 : vb.cell? ⟨w.heap.size, 1, none⟩ = some (.slice A4 zd.length d4) := blk_cell pk (j := 1) rfl
  have pf1 := blk_frozen (j := 1) pk
  have p2 : vb.cell? ⟨w.heap.size, 2, none⟩ = some (.slice B2 y.length d2) := blk_cell pk (j := 2) rfl
  have pf2 := blk_frozen (j := 2) pk
  have q0 : vb.cell? ⟨w.heap.size + 1, 0, none⟩ = some (.int .i64 4) := blk_cell qk (j := 0) rfl
  have q1 : vb.cell? ⟨w.heap.size + 1, 1, none⟩ = some (.int .i64 (j : Int)) := blk_cell qk (j := 1) rfl
  have q2 : vb.cell? ⟨w.heap.size + 1, 2, none⟩ = some (.string m.s) := blk_cell qk (j := 2) rfl
  have q3 : vb.cell? ⟨w.heap.size + 1, 3, none⟩ = some (.int .i64 m.v) := blk_cell qk (j := 3) rfl
  have q4 : vb.cell? ⟨w.heap.size + 1, 4, none⟩ = some (.int .i64 m.l) := blk_cell qk (j := 4) rfl
  have s0 : vb.cell? ⟨w.heap.size + 1 + 1, 0, none⟩ = some (.slice none 0 0) := blk_cell sk (j := 0) rfl
  have sf0 := blk_frozen (j := 0) sk
  have s1 : vb.cell? ⟨w.heap.size + 1 + 1, 1, none⟩ = some (.slice none 0 0) := blk_cell sk (j := 1) rfl
  have sf1 := blk_frozen (j := 1) sk
  have s2 : vb.cell? ⟨w.heap.size + 1 + 1, 2, none⟩ = some (.slice none 0 0) := blk_cell sk (j := 2) rfl
  have sf2 := blk_frozen (j := 2) sk
  clear own4 OWN rk zr
  have OW4 := Lib.hid own4'
  have OWN := OWN'
  have rk := rk'
  clear own4' OWN' rk'
  have r0 : vb.cell? ⟨w2.heap.size, 0, none⟩ = some (.string o.m.s) := blk_cell rk rfl
  have r1 : vb.cell? ⟨w2.heap.size, 1, none⟩ = some (.int .i64 o.m.v) := blk_cell rk rfl
  have r2 : vb.cell? ⟨w2.heap.size, 2, none⟩ = some (.int .i64 o.m.l) := blk_cell rk rfl
  have r3 : vb.cell? ⟨w2.heap.size, 3, none⟩ = some (.bool false) := blk_cell rk rfl
  go_wp2_with (fail)
  refine (HRC.out _ OWN.out.reads.r2).mono ?_
  rintro e vc ⟨A', c', rfl, own6, hb6⟩
  have D46 := Lib.hid (dis_of OW4.out own6 (Nat.le_refl _))
  have hvb : w3.heap.size ≤ vb.heap.size := zB2
  clear p0 p1 p2 pf0 pf1 pf2 q0 q1 q2 q3 q4 s0 s1 s2 sf0 sf1 sf2
  replace pk := blk_below' hb6 pk
  replace qk := blk_below' hb6 qk
  replace sk := blk_below' hb6 sk
  replace hbw := hbw.trans (hb6.mono (by omega))
  replace zx2 := Nat.lt_of_lt_of_le zx2 hb6.size
  replace za2 := Nat.lt_of_lt_of_le za2 hb6.size
  replace zB2 := Nat.le_trans zB2 hb6.size
  replace zb2 := Nat.lt_of_lt_of_le zb2 hb6.size
  replace OWN := Lib.hid (OWN.out.below hb6)
  have p0 : vc.cell? ⟨w.heap.size, 0, none⟩ = some (.slice B1 x.length d1) := blk_cell pk (j := 0) rfl
  have pf0 := blk_frozen (j := 0) pk
  have p1 : vc.cell? ⟨w.heap.size, 1, none⟩ = some (.slice A4 zd.length d4) := blk_cell pk (j := 1) rfl
  have pf1 := blk_frozen (j := 1) pk
  have p2 : vc.cell? ⟨w.heap.size, 2, none⟩ = some (.slice B2 y.length d2) := blk_cell pk (j := 2) rfl
  have pf2 := blk_frozen (j := 2) pk
  have q0 : vc.cell? ⟨w.heap.size + 1, 0, none⟩ = some (.int .i64 4) := blk_cell qk (j := 0) rfl
  have q1 : vc.cell? ⟨w.heap.size + 1, 1, none⟩ = some (.int .i64 (j : Int)) := blk_cell qk (j := 1) rfl
  have q2 : vc.cell? ⟨w.heap.size + 1, 2, none⟩ = some (.string m.s) := blk_cell qk (j := 2) rfl
  have q3 : vc.cell? ⟨w.heap.size + 1, 3, none⟩ = some (.int .i64 m.v) := blk_cell qk (j := 3) rfl
  have q4 : vc.cell? ⟨w.heap.size + 1, 4, none⟩ = some (.int .i64 m.l) := blk_cell qk (j := 4) rfl
  have s0 : vc.cell? ⟨w.heap.size + 1 + 1, 0, none⟩ = some (.slice none 0 0) := blk_cell sk (j := 0) rfl
  have sf0 := blk_frozen (j := 0) sk
  have s1 : vc.cell? ⟨w.heap.size + 1 + 1, 1, none⟩ = some (.slice none 0 0) := blk_cell sk (j := 1) rfl
  have sf1 := blk_frozen (j := 1) sk
  have s2 : vc.cell? ⟨w.heap.size + 1 + 1, 2, none⟩ = some (.slice none 0 0) := blk_cell sk (j := 2) rfl
  have sf2 := blk_frozen (j := 2) sk
  replace OW4 := Lib.hid (own_below OW4.out hb6)
  replace rk := blk_below' hb6 rk
  clear r0 r1 r2 r3 hb6 HRC
  have r0 : vc.cell? ⟨w2.heap.size, 0, none⟩ = some (.string o.m.s) := blk_cell rk rfl
  have r1 : vc.cell? ⟨w2.heap.size, 1, none⟩ = some (.int .i64 o.m.v) := blk_cell rk rfl
  have r2 : vc.cell? ⟨w2.heap.size, 2, none⟩ = some (.int .i64 o.m.l) := blk_cell rk rfl
  have r3 : vc.cell? ⟨w2.heap.size, 3, none⟩ = some (.bool false) := blk_cell rk rfl
  have hq := HQ.out
  by_cases hr : (rcv y o.m).2 = 0
  rotate_left 1
  · rw [if_neg hr] at hq
    have H3 := Lib.hid hq
    have hE1 : ((rcv y o.m).2 == 0) = false := by simpa using hr
    have hE2 : ((rcv y o.m).2 != 0) = true := by simpa using hr
    clear hr hq HQ own6 OW4 D46 hx5
    generalize (rcv y o.m).2 = E at *
    go_wp2_with (fail)
    refine bodyPost_ret (v := .tuple #[.agg #[.slice none 0 0, .slice none 0 0, .slice none 0 0], .int .i64 E]) (by simp [results, Try.results49, go_sem, s0, s1, s2, zx2]) rfl ?_
    rw [H3.out]
    exact ⟨none, 0, none, 0, none, 0, rfl, lnkR_z, (by repeat (first | assumption | exact Below.refl _ _ | refine Below.drew ?_ | (refine below_alloc _ ?_ ?_; focus (first | omega | (simp; done) | (simp; omega) | (simp at *; omega))) | (refine below_set _ ?_ ?_; focus (first | omega | (simp; done) | (simp; omega) | (simp at *; omega))) | refine below_drewN ?_ _ | (refine below_call (by assumption) ?_ ?_; focus (first | omega | (simp; done) | (simp; omega) | (simp at *; omega))) | (refine below_call' (by assumption) ?_ ?_; focus (first | omega | (simp; done) | (simp; omega) | (simp at *; omega)))))⟩
  rw [if_pos hr] at hq
  have H3 := Lib.hid hq
  rw [hr]
  clear hr hq HQ
  generalize (rcv y o.m).1 = y' at *
  go_upto_region 31 with (fail)
  have pk' : (vc.setCell ⟨w.heap.size, 2, none⟩ (.slice A' y'.length c')).heap[w.heap.size]? = some (.cells #[.slice B1 x.length d1, .slice A4 zd.length d4, .slice A' y'.length c'] 41) := heap_set pk
  have qk' := blk_far (p := ⟨w.heap.size, 2, none⟩) (.slice A' y'.length c') (by show _ ≠ w.heap.size; omega) qk
  have sk' := blk_far (p := ⟨w.heap.size, 2, none⟩) (.slice A' y'.length c') (by show _ ≠ w.heap.size; omega) sk
  have hbw' : Below w.heap.size w (vc.setCell ⟨w.heap.size, 2, none⟩ (.slice A' y'.length c')) := below_set _ (by simp) hbw
  have zx' : w.heap.size + 2 < (vc.setCell ⟨w.heap.size, 2, none⟩ (.slice A' y'.length c')).heap.size := by simp; omega
  have zy' : w3.heap.size ≤ (vc.setCell ⟨w.heap.size, 2, none⟩ (.slice A' y'.length c')).heap.size := by simp; omega
  have own6' := own_set (p := ⟨w.heap.size, 2, none⟩) own6 (own_ne_lt own6 (Nat.lt_of_lt_of_le zpB hvb)) (.slice A' y'.length c')
  have OW4' := Lib.hid (own_set (p := ⟨w.heap.size, 2, none⟩) OW4.out (own_ne_lt OW4.out zpB) (.slice A' y'.length c'))
  have OWN' := Lib.hid (OWN.out.set (a := w.heap.size) (j := 2) zpB0 (.slice A' y'.length c'))
  have rk' := blk_far (p := ⟨w.heap.size, 2, none⟩) (.slice A' y'.length c') (by show _ ≠ w.heap.size; omega) rk
  clear pk qk sk hbw zx2 za2 zb2 zB2 p0 p1 p2 pf0 pf1 pf2 q0 q1 q2 q3 q4 s0 s1 s2 sf0 sf1 sf2
  generalize (vc.setCell ⟨w.heap.size, 2, none⟩ (.slice A' y'.length c')) = vd at *
  have pk := pk'
  have qk := qk'
  have sk := sk'
  have hbw := hbw'
  have zx2 := zx'
  have zB2 := zy'
  have za2 : w.heap.size < vd.heap.size := by omega
  have zb2 : w.heap.size + 1 < vd.heap.size := by omega
  clear pk' qk' sk' hbw' zx' zy'
  have p0 : vd.cell? ⟨w.heap.size, 0, none⟩ = some (.slice B1 x.length d1) := blk_cell pk (j := 0) rfl
  have pf0 := blk_frozen (j := 0) pk
  have p1 : vd.cell? ⟨w.heap.size, 1, none⟩ = some (.slice A4 zd.length d4) := blk_cell pk (j := 1) rfl
  have pf1 := blk_frozen (j := 1) pk
  have p2 : vd.cell? ⟨w.heap.size, 2, none⟩ = some (.slice A' y'.length c') := blk_cell pk (j := 2) rfl
  have pf2 := blk_frozen (j := 2) pk
  have q0 : vd.cell? ⟨w.heap.size + 1, 0, none⟩ = some (.int .i64 4) := blk_cell qk (j := 0) rfl
  have q1 : vd.cell? ⟨w.heap.size + 1, 1, none⟩ = some (.int .i64 (j : Int)) := blk_cell qk (j := 1) rfl
  have q2 : vd.cell? ⟨w.heap.size + 1, 2, none⟩ = some (.string m.s) := blk_cell qk (j := 2) rfl
  have q3 : vd.cell? ⟨w.heap.size + 1, 3, none⟩ = some (.int .i64 m.v) := blk_cell qk (j := 3) rfl
  have q4 : vd.cell? ⟨w.heap.size + 1, 4, none⟩ = some (.int .i64 m.l) := blk_cell qk (j := 4) rfl
  have s0 : vd.cell? ⟨w.heap.size + 1 + 1, 0, none⟩ = some (.slice none 0 0) := blk_cell sk (j := 0) rfl
  have sf0 := blk_frozen (j := 0) sk
  have s1 : vd.cell? ⟨w.heap.size + 1 + 1, 1, none⟩ = some (.slice none 0 0) := blk_cell sk (j := 1) rfl
  have sf1 := blk_frozen (j := 1) sk
  have s2 : vd.cell? ⟨w.heap.size + 1 + 1, 2, none⟩ = some (.slice none 0 0) := blk_cell sk (j := 2) rfl
  have sf2 := blk_frozen (j := 2) sk
  clear own6 OW4 OWN rk r0 r1 r2 r3
  have OW4 := OW4'
  have OWN := OWN'
  have OW6 := Lib.hid own6'
  have rk := rk'
  clear own6' OW4' OWN' rk'
  have r0 : vd.cell? ⟨w2.heap.size, 0, none⟩ = some (.string o.m.s) := blk_cell rk rfl
  have r1 : vd.cell? ⟨w2.heap.size, 1, none⟩ = some (.int .i64 o.m.v) := blk_cell rk rfl
  have r2 : vd.cell? ⟨w2.heap.size, 2, none⟩ = some (.int .i64 o.m.l) := blk_cell rk rfl
  have r3 : vd.cell? ⟨w2.heap.size, 3, none⟩ = some (.bool false) := blk_cell rk rfl
  have hl4 : zd.length ≤ 60 := by have := HLE.out; omega
  go_upto_region 35 with (at_builtin; (refine wpList_append_rows _ rfl (.tmp 140) (.tmp 144) 39 rfl (w3.heap.size) 150 i0 (.agg #[.string ⟨#[]⟩, .int .i64 0, .int .i64 0, .bool false]) 4 40 Try.underlying39 HI.out HZ0.out HZ1.out HZ2.out rfl (by decide) A4 zd.length d4 (cellsOf 4 pktC zd) rfl (World.ownsRow.alloc OW4.out _) (some ⟨_, 0, none⟩) 1 1 (cellsOf 4 pktC [(Pkt.mk o.m true)]) rfl rfl (fun h => by cases h) (fun ad h => by cases h; exact RowsAt.news (rows_blkW (f := pktC) (m := 4) (l := [(Pkt.mk o.m true)]) (blk_new rfl) rfl) (by decide)) mem_oneP (by unfold maxLen; omega) (by omega) (by simp; omega) ?_; intro A5 d5 w5 own5 hg5 halt5); have hb5 : Below (w3.heap.size) vd w5 := below_own (below_alloc _ zB2 (Below.refl _ vd)) hg5 (World.ownsRow.alloc OW4.out _) (Nat.le_refl _) (by simp; omega); have p15 := cell_below hb5 p1 zpB; have pf15 := frozen_below hb5 zpB pf1)
  clear r0 r1 r2 r3 rk
  have hL : zd.length + 1 = (zd ++ [Pkt.mk o.m true]).length := by simp
  rw [hL] at own5 ⊢
  rw [← cellsOf_append] at own5
  have hl' : (zd ++ [Pkt.mk o.m true]).length = zd.length + 1 := by simp
  have r1 : MsgsAt w5 B1 x := rowsAt_of_own (app_keep OWN.out.o1 hg5 hx5.out) rfl (by decide)
  have r2 : MsgsAt w5 A' y' := rowsAt_of_own (app_keep OW6.out hg5 D46.out.symm) rfl (by decide)
  have r3 : PktsAt w5 A5 (zd ++ [Pkt.mk o.m true]) := rowsAt_of_own own5 rfl (by decide)
  have HL := Lib.hid hl'
  clear hL own5 hl' hg5 halt5 OWN
  generalize zd ++ [Pkt.mk o.m true] = z' at *
  replace pk := blk_B hb5 zpB pk
  replace qk := blk_B hb5 zqB qk
  replace sk := blk_B hb5 zsB sk
  replace hbw := hbw.trans (hb5.mono (by omega))
  replace zx2 := Nat.lt_of_lt_of_le zx2 hb5.size
  replace za2 := Nat.lt_of_lt_of_le za2 hb5.size
  replace zb2 := Nat.lt_of_lt_of_le zb2 hb5.size
  replace zB2 := Nat.le_trans zB2 hb5.size
  have pk' : (w5.setCell ⟨w.heap.size, 1, none⟩ (.slice A5 z'.length d5)).heap[w.heap.size]? = some (.cells #[.slice B1 x.length d1, .slice A5 z'.length d5, .slice A' y'.length c'] 41) := heap_set pk
  have qk' := blk_far (p := ⟨w.heap.size, 1, none⟩) (.slice A5 z'.length d5) (by show _ ≠ w.heap.size; omega) qk
  have sk' := blk_far (p := ⟨w.heap.size, 1, none⟩) (.slice A5 z'.length d5) (by show _ ≠ w.heap.size; omega) sk
  have hbw' : Below w.heap.size w (w5.setCell ⟨w.heap.size, 1, none⟩ (.slice A5 z'.length d5)) := below_set _ (by simp) hbw
  have zx' : w.heap.size + 2 < (w5.setCell ⟨w.heap.size, 1, none⟩ (.slice A5 z'.length d5)).heap.size := by simp; omega
  have zy' : w3.heap.size ≤ (w5.setCell ⟨w.heap.size, 1, none⟩ (.slice A5 z'.length d5)).heap.size := by simp; omega
  have hL2 := lnk_far1 (j := 1) (v := .slice A5 z'.length d5) (show LnkR B1 A' A5 ⟨x, z', y'⟩ w5 from ⟨r1, r2, r3⟩) pk
  clear pk qk sk hbw zx2 za2 zb2 zB2 p0 p1 p2 pf0 pf1 pf2 q0 q1 q2 q3 q4 s0 s1 s2 sf0 sf1 sf2
  generalize (w5.setCell ⟨w.heap.size, 1, none⟩ (.slice A5 z'.length d5)) = w6 at *
  have pk := pk'
  have qk := qk'
  have sk := sk'
  have hbw := hbw'
  have zx2 := zx'
  have zB2 := zy'
  have za2 : w.heap.size < w6.heap.size := by omega
  have zb2 : w.heap.size + 1 < w6.heap.size := by omega
  clear pk' qk' sk' hbw' zx' zy'
  have p0 : w6.cell? ⟨w.heap.size, 0, none⟩ = some (.slice B1 x.length d1) := blk_cell pk (j := 0) rfl
  have pf0 := blk_frozen (j := 0) pk
  have p1 : w6.cell? ⟨w.heap.size, 1, none⟩ = some (.slice A5 z'.length d5) := blk_cell pk (j := 1) rfl
  have pf1 := blk_frozen (j := 1) pk
  have p2 : w6.cell? ⟨w.heap.size, 2, none⟩ = some (.slice A' y'.length c') := blk_cell pk (j := 2) rfl
  have pf2 := blk_frozen (j := 2) pk
  have q0 : w6.cell? ⟨w.heap.size + 1, 0, none⟩ = some (.int .i64 4) := blk_cell qk (j := 0) rfl
  have q1 : w6.cell? ⟨w.heap.size + 1, 1, none⟩ = some (.int .i64 (j : Int)) := blk_cell qk (j := 1) rfl
  have q2 : w6.cell? ⟨w.heap.size + 1, 2, none⟩ = some (.string m.s) := blk_cell qk (j := 2) rfl
  have q3 : w6.cell? ⟨w.heap.size + 1, 3, none⟩ = some (.int .i64 m.v) := blk_cell qk (j := 3) rfl
  have q4 : w6.cell? ⟨w.heap.size + 1, 4, none⟩ = some (.int .i64 m.l) := blk_cell qk (j := 4) rfl
  have s0 : w6.cell? ⟨w.heap.size + 1 + 1, 0, none⟩ = some (.slice none 0 0) := blk_cell sk (j := 0) rfl
  have sf0 := blk_frozen (j := 0) sk
  have s1 : w6.cell? ⟨w.heap.size + 1 + 1, 1, none⟩ = some (.slice none 0 0) := blk_cell sk (j := 1) rfl
  have sf1 := blk_frozen (j := 1) sk
  have s2 : w6.cell? ⟨w.heap.size + 1 + 1, 2, none⟩ = some (.slice none 0 0) := blk_cell sk (j := 2) rfl
  have sf2 := blk_frozen (j := 2) sk
  clear r1 r2 r3 hb5 p15 pf15
  have hq := H3.out
  replace hq := Lib.hid hq
  have hg6 : ¬ ((60 : Int) < (z'.length : Int)) := by have := HL.out; have := HLE.out; omega
  clear HL
  go_wp2_with (fail)
  have hLF := lnk_farB (v0 := .slice B1 x.length d1) (v1 := .slice A5 z'.length d5) (v2 := .slice A' y'.length c') hL2 sk
  refine bodyPost_ret (v := .tuple #[.agg #[.slice B1 x.length d1, .slice A5 z'.length d5, .slice A' y'.length c'], .int .i64 0]) (by simp [results, Try.results49, go_sem, s0, s1, s2, zx2]) rfl ?_
  rw [hq.out]
  exact ⟨B1, d1, A', c', A5, d5, rfl, hLF, below_set _ (by simp; omega) (below_set _ (by simp; omega) (below_set _ (by simp; omega) hbw))⟩
end
end Go.Proofs.Ytcfbnmcdncndpaa
