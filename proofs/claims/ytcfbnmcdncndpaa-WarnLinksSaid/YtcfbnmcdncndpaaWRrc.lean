/-
  Chapter 8: the reference's store that has received messages.
-/
import Derived.Test.YtcfbnmcdncndpaaWRcd
namespace Go.Proofs.Ytcfbnmcdncndpaa
open Go.ChangeShapes Go.WideShapes Go.ChangeAt Go.RowKit
set_option linter.unusedVariables false
set_option linter.unusedSimpArgs false

def insS (l : List Msg) (m : Msg) (p k : Nat) : List Msg := if k ≤ p then l.take k else l.take p ++ m :: (l.take k).drop p
theorem insS_lt {l : List Msg} {m : Msg} {p k : Nat} (hk : k < l.length) (h : k < p) : insS l m p k ++ [l[k]] = insS l m p (k + 1) := by
  unfold insS
  rw [if_pos (by omega), if_pos (by omega), List.take_succ_eq_append_getElem hk]
theorem insS_eq {l : List Msg} {m : Msg} {k : Nat} (hk : k < l.length) : (insS l m k k ++ [m]) ++ [l[k]] = insS l m k (k + 1) := by
  unfold insS
  rw [if_pos (Nat.le_refl _), if_neg (by omega), List.take_succ_eq_append_getElem hk, List.drop_append, List.drop_eq_nil_of_le (by rw [List.length_take]; omega)]
  have e : k - (l.take k).length = 0 := by rw [List.length_take]; omega
  rw [e]
  simp
theorem insS_gt {l : List Msg} {m : Msg} {p k : Nat} (hk : k < l.length) (h : p < k) : insS l m p k ++ [l[k]] = insS l m p (k + 1) := by
  unfold insS
  rw [if_neg (by omega), if_neg (by omega), List.take_succ_eq_append_getElem hk, List.append_assoc, List.cons_append, List.drop_append_of_le_length (by rw [List.length_take]; omega)]
theorem insS_len {l : List Msg} {m : Msg} {p k : Nat} (hk : k ≤ l.length) (hp : p ≤ l.length) : (insS l m p k).length ≤ k + 1 := by
  unfold insS
  split
  · rw [List.length_take]; omega
  · simp only [List.length_append, List.length_take, List.length_cons, List.length_drop]; omega
theorem insS_end {l : List Msg} {m : Msg} {p : Nat} (hp : p < l.length) : insS l m p l.length = l.take p ++ m :: l.drop p := by
  unfold insS; rw [if_neg (by omega), List.take_length]
theorem insS_end' {l : List Msg} {m : Msg} : insS l m l.length l.length ++ [m] = l.take l.length ++ m :: l.drop l.length := by
  unfold insS; rw [if_pos (Nat.le_refl _), List.take_length, List.drop_length]

theorem app_end {w1 wq w3 : World} {A' A2 : Option Addr} {c' c2 : Nat} {out : List Msg} {x : Msg} {o : Obj} (hb : Below w1.heap.size w1 wq) (own : wq.ownsRow w1.heap.size 45 3 (.slice A' out.length c') out.length (cellsOf 3 msgC out))
    (h1 : w3.ownsRow w1.heap.size 45 3 (.slice A2 (out.length + 1) c2) (out.length + 1) (cellsOf 3 msgC out ++ [.string x.s, .int .i64 x.v, .int .i64 x.l])) (h2 : (wq.alloc o).grownBy w3 (Value.ownBlock (.slice A' out.length c'))) :
    w3.ownsRow w1.heap.size 45 3 (.slice A2 (out ++ [x]).length c2) (out ++ [x]).length (cellsOf 3 msgC (out ++ [x])) ∧ Below w1.heap.size w1 w3 := by
  refine ⟨?_, below_own (below_alloc o (Nat.le_refl _) hb) h2 (World.ownsRow.alloc own o) (Nat.le_refl _) (by have := hb.size; simp; omega)⟩
  rw [List.length_append, cellsOf_append]
  exact h1
set_option maxRecDepth 100000 in
set_option maxHeartbeats 4000000 in
theorem RReceived_any (A : Option Addr) (l : List Msg) (cap : Nat) (m : Msg) (w : World) (hl : l.length ≤ 30) (hS : Srt l) (hA : MsgsAt w A l) :
    Calls Try.prog 66 #[.slice A l.length cap, .agg #[.string m.s, .int .i64 m.v, .int .i64 m.l]] w (StoreE (rcv l m) w) := by
  obtain ⟨i0, hi0, hz0, hz1, hz2⟩ := infoMsg_
  have hst : stepE l m = if msgE m = 0 then (recvM l m).2 else msgE m := rfl
  have hrc : rcv l m = if stepE l m = 0 then ((recvM l m).1, 0) else ([], stepE l m) := rfl
  have HI := Lib.hid hi0
  have HZ0 := Lib.hid hz0
  have HZ1 := Lib.hid hz1
  have HZ2 := Lib.hid hz2
  clear hi0 hz0 hz1 hz2
  go_enter Try.func66, Try.ntmps66
  have HST := Lib.hid hst
  have HRC := Lib.hid hrc
  clear hst hrc
  go_wp2_with (fail)
  refine (MessageErr_any m _).mono ?_
  rintro e w1 ⟨rfl, hb1⟩
  have x0 : w1.cell? ⟨w.heap.size, 0, none⟩ = some (.string m.s) := cell_below' hb1 (by repeat (first | assumption | (refine cell_new ?_ rfl; focus (simp; done)) | refine cell_drew ?_ | refine cell_alloc _ ?_ | refine cell_drewN _ ?_ | (refine cell_far ?_ ?_; focus (first | omega | (simp; omega) | (simp; done))) | refine cell_below' (by assumption) ?_))
  have x1 : w1.cell? ⟨w.heap.size, 1, none⟩ = some (.int .i64 m.v) := cell_below' hb1 (by repeat (first | assumption | (refine cell_new ?_ rfl; focus (simp; done)) | refine cell_drew ?_ | refine cell_alloc _ ?_ | refine cell_drewN _ ?_ | (refine cell_far ?_ ?_; focus (first | omega | (simp; omega) | (simp; done))) | refine cell_below' (by assumption) ?_))
  have x2 : w1.cell? ⟨w.heap.size, 2, none⟩ = some (.int .i64 m.l) := cell_below' hb1 (by repeat (first | assumption | (refine cell_new ?_ rfl; focus (simp; done)) | refine cell_drew ?_ | refine cell_alloc _ ?_ | refine cell_drewN _ ?_ | (refine cell_far ?_ ?_; focus (first | omega | (simp; omega) | (simp; done))) | refine cell_below' (by assumption) ?_))
  have z1 : w.heap.size < w1.heap.size := by have := hb1.size; simp at this; omega
  have hbw1 : Below w.heap.size w w1 := (by repeat (first | assumption | exact Below.refl _ _ | refine Below.drew ?_ | (refine below_alloc _ ?_ ?_; focus (first | omega | (simp; done) | (simp; omega) | (simp at *; omega))) | (refine below_set _ ?_ ?_; focus (first | omega | (simp; done) | (simp; omega) | (simp at *; omega))) | refine below_drewN ?_ _ | (refine below_call (by assumption) ?_ ?_; focus (first | omega | (simp; done) | (simp; omega) | (simp at *; omega))) | (refine below_call' (by assumption) ?_ ?_; focus (first | omega | (simp; done) | (simp; omega) | (simp at *; omega)))))
  have hA1 := RowsAt.below hA hbw1
  clear hb1 hA
  by_cases hm : msgE m = 0
  rotate_left 1
  · have h2 := HST.out
    rw [if_neg hm] at h2
    have h3 := HRC.out
    rw [h2, if_neg hm] at h3
    have H3 := Lib.hid h3
    have hE1 : (msgE m == 0) = false := by simpa using hm
    have hE2 : (msgE m != 0) = true := by simpa using hm
    clear h2 h3 hm HST HRC
    generalize msgE m = E at *
    go_wp2_with (fail)
    go_ret2
    rw [H3.out]
    exact ⟨none, 0, rfl, RowsAt.nil, hbw1⟩
  have h2 := HST.out
  rw [if_pos hm] at h2
  have h3 := HRC.out
  rw [h2] at h3
  have H3 := Lib.hid h3
  rw [hm]
  clear h2 h3 hm HST HRC
  have hf := find_eq (s := m.s) hS
  have hpl := posM_le l m.s
  have hl1 : (l.length : Int) ≤ 30 := by omega
  cases hh : hasM l m.s
  · have hsp := pos_spec (s := m.s) hS
    have hnone : ∀ x ∈ l, x.s ≠ m.s := fun x hx he => by rw [(has_iff hS).2 ⟨x, hx, he⟩] at hh; cases hh
    rw [hh] at hf
    have hf1 : findM m.s l 0 = -1 := hf
    have hr := recv_new hh
    have HF := Lib.hid hf1
    have SP := Lib.hid hsp
    have NO := Lib.hid hnone
    have HR := Lib.hid hr
    clear hf hf1 hsp hnone hr hh
    by_cases hlen : l.length = 30
    · have h4 : rcv l m = ([], 16) := by rw [H3.out, HR.out.trans (if_pos (by omega)), if_neg (show ¬ ((16 : Int) = 0) by decide)]
      have H4 := Lib.hid h4
      have hle : ((l.length : Int) == 30) = true := by simp; omega
      clear h4 H3 HR hlen
      go_wp2_with (go_at_call 33; refine (Find_any A l cap m.s _ (by omega) hA1).mono ?_; rintro e w' ⟨rfl, rfl⟩; rw [HF.out])
      go_ret2
      rw [H4.out]
      exact ⟨none, 0, rfl, RowsAt.nil, hbw1⟩
    have h4 : rcv l m = (l.take (posM l m.s) ++ m :: l.drop (posM l m.s), 0) := by rw [H3.out, HR.out.trans (if_neg (by omega)), if_pos (by rfl)]
    have H4 : Hid (rcv l m = (l.take (posM l m.s) ++ m :: l.drop (posM l m.s), 0)) := Lib.hid h4
    have hle : ((l.length : Int) == 30) = false := by simp; omega
    clear h4 H3 HR hlen
    generalize posM l m.s = p at *
    go_wp2_with (go_at_call 33; refine (Find_any A l cap m.s _ (by omega) hA1).mono ?_; rintro e w' ⟨rfl, rfl⟩; rw [HF.out])
    go_loopw [9, 10, 11] (fun o pu i wr => ∃ (k : Nat) (A' : Option Addr) (c' : Nat) (pb : Bool), k ≤ l.length ∧ i = .int .i64 k ∧ o = .slice A' (insS l m p k).length c' ∧ pu = .bool pb ∧ (pb = true ↔ p < k) ∧ wr.ownsRow w1.heap.size 45 3 (.slice A' (insS l m p k).length c') (insS l m p k).length (cellsOf 3 msgC (insS l m p k)) ∧ Below w1.heap.size w1 wr) (fun _ _ i _ => l.length - (intOf i).toNat)
    case atStart => exact ⟨0, none, 0, false, Nat.zero_le _, rfl, rfl, rfl, by simp, World.ownsRow_nil _ _ _ _, Below.refl _ _⟩
    case round =>
      obtain ⟨k, A', c', pb, hk, rfl, rfl, rfl, hpb, own, hbr⟩ := hrel
      have AR := RowsAt.below hA1 hbr
      have hbw : Below w.heap.size w wr := hbw1.trans (hbr.mono (by omega))
      have zr : w.heap.size < wr.heap.size := by have := hbr.size; omega
      have zr1 : w1.heap.size ≤ wr.heap.size := hbr.size
      replace x0 := cell_below' hbr x0
      replace x1 := cell_below' hbr x1
      replace x2 := cell_below' hbr x2
      have hil := insS_len (m := m) hk hpl
      have OWN := Lib.hid own
      have HPB := Lib.hid hpb
      clear own hpb
      by_cases hlt : k < l.length
      · obtain ⟨b1, o1, rfl, hb1, c0, c1, c2⟩ := MsgsAt.at_ AR hlt
        have hk1 : (k : Int) < (l.length : Int) := by omega
        have hgx := List.getElem?_eq_getElem hlt
        by_cases hkp : k < p
        · have hlsx : Op.bytesLess m.s.toList l[k].s.toList = false := blt_asym (SP.out.1 k _ hgx hkp)
          obtain rfl : pb = false := by
            cases pb
            · rfl
            · have := HPB.out.1 rfl; omega
          have HIN := Lib.hid (insS_lt (m := m) hlt hkp)
          have HKP := Lib.hid hkp
          clear HPB hgx hkp
          generalize l[k] = x at *
          generalize insS l m p k = out at *
          go_wp2_with (fail)
          go_quiet (fail)
          have hbq : Below w1.heap.size w1 (wr.drewN nq) := (by repeat (first | assumption | exact Below.refl _ _ | refine Below.drew ?_ | (refine below_alloc _ ?_ ?_; focus (first | omega | (simp; done) | (simp; omega) | (simp at *; omega))) | (refine below_set _ ?_ ?_; focus (first | omega | (simp; done) | (simp; omega) | (simp at *; omega))) | refine below_drewN ?_ _ | (refine below_call (by assumption) ?_ ?_; focus (first | omega | (simp; done) | (simp; omega) | (simp at *; omega))) | (refine below_call' (by assumption) ?_ ?_; focus (first | omega | (simp; done) | (simp; omega) | (simp at *; omega)))))
          have OWQ : Hid ((wr.drewN nq).ownsRow w1.heap.size 45 3 (.slice A' out.length c') out.length (cellsOf 3 msgC out)) := OWN
          replace c0 := cell_drewN nq c0
          replace c1 := cell_drewN nq c1
          replace c2 := cell_drewN nq c2
          replace zr1 : w1.heap.size ≤ (wr.drewN nq).heap.size := zr1
          clear OWN hbr x0 x1 x2 AR hb1
          generalize wr.drewN nq = wq at *
          go_wp2_with (at_builtin; (refine wpList_append_rows _ rfl (.tmp 81) (.tmp 86) 38 rfl w1.heap.size 45 i0 (.agg #[.string ⟨#[]⟩, .int .i64 0, .int .i64 0]) 3 32 Try.underlying38 HI.out HZ0.out HZ1.out HZ2.out rfl (by decide) A' (List.length out) c' (cellsOf 3 msgC out) rfl (World.ownsRow.alloc OWQ.out _) (some ⟨_, 0, none⟩) 1 1 [.string (Msg.s x), .int .i64 (Msg.v x), .int .i64 (Msg.l x)] rfl rfl (fun h => by cases h) (fun ad h => by cases h; exact news3 (blk_new rfl)) (mem3 x) (by unfold maxLen; omega) (by omega) (by simp; omega) ?_; intro A2 c2 w3 h1 h2 h3))
          obtain ⟨h4, h5⟩ := app_end hbq OWQ.out h1 h2
          rw [HIN.out] at h4
          have HL : Hid (out.length + 1 = (insS l m p (k + 1)).length) := Lib.hid (by rw [← HIN.out]; simp)
          clear h1 h2 h3
          go_wp2_with (fail)
          exact ⟨⟨k + 1, A2, c2, false, by omega, by go_num, by rw [HL.out], rfl, by have := HKP.out; simp; omega, h4, h5⟩, by simp [intOf]; omega⟩
        · by_cases hkq : k = p
          · subst hkq
            have hlsx : Op.bytesLess m.s.toList l[k].s.toList = true := by
              have h5 := SP.out.2 k _ hgx (Nat.le_refl _)
              have h6 := NO.out _ (List.getElem_mem hlt)
              cases h7 : blt m.s l[k].s
              · exact absurd (blt_tri h5 h7) h6
              · exact h7
            obtain rfl : pb = false := by
              cases pb
              · rfl
              · have := HPB.out.1 rfl; omega
            have HIN := Lib.hid (insS_eq (m := m) hlt)
            clear HPB hgx hkp SP NO
            generalize l[k] = x at *
            generalize insS l m k k = out at *
            go_wp2_with (fail)
            go_quiet (fail)
            have hbq : Below w1.heap.size w1 (wr.drewN nq) := (by repeat (first | assumption | exact Below.refl _ _ | refine Below.drew ?_ | (refine below_alloc _ ?_ ?_; focus (first | omega | (simp; done) | (simp; omega) | (simp at *; omega))) | (refine below_set _ ?_ ?_; focus (first | omega | (simp; done) | (simp; omega) | (simp at *; omega))) | refine below_drewN ?_ _ | (refine below_call (by assumption) ?_ ?_; focus (first | omega | (simp; done) | (simp; omega) | (simp at *; omega))) | (refine below_call' (by assumption) ?_ ?_; focus (first | omega | (simp; done) | (simp; omega) | (simp at *; omega)))))
            have OWQ : Hid ((wr.drewN nq).ownsRow w1.heap.size 45 3 (.slice A' out.length c') out.length (cellsOf 3 msgC out)) := OWN
            have AQ : MsgsAt (wr.drewN nq) (some ⟨b1, o1, none⟩) l := AR
            replace x0 := cell_drewN nq x0
            replace x1 := cell_drewN nq x1
            replace x2 := cell_drewN nq x2
            replace c0 := cell_drewN nq c0
            replace c1 := cell_drewN nq c1
            replace c2 := cell_drewN nq c2
            replace zr : w.heap.size < (wr.drewN nq).heap.size := zr
            replace zr1 : w1.heap.size ≤ (wr.drewN nq).heap.size := zr1
            replace hb1 : b1 < (wr.drewN nq).heap.size := hb1
            clear OWN hbr AR
            generalize wr.drewN nq = wq at *
            have hbb : b1 < w1.heap.size := by
              obtain ⟨b9, o9, e9, h9, _⟩ := MsgsAt.at_ hA1 hlt
              injection e9 with e9
              injection e9 with e9 _
              omega
            have hne1 : some b1 ≠ Value.ownBlock (.slice A' out.length c') := fun e => by have := (OWQ.out.lt b1 e.symm).1; omega
            go_wp2_with (first | ((at_builtin; (refine wpList_append_rows _ rfl (.tmp 77) (.tmp 79) 38 rfl w1.heap.size 45 i0 (.agg #[.string ⟨#[]⟩, .int .i64 0, .int .i64 0]) 3 32 Try.underlying38 HI.out HZ0.out HZ1.out HZ2.out rfl (by decide) A' (List.length out) c' (cellsOf 3 msgC out) rfl (World.ownsRow.alloc OWQ.out _) (some ⟨_, 0, none⟩) 1 1 [.string (Msg.s m), .int .i64 (Msg.v m), .int .i64 (Msg.l m)] rfl rfl (fun h => by cases h) (fun ad h => by cases h; exact news3 (blk_new rfl)) (mem3 m) (by unfold maxLen; omega) (by omega) (by simp; omega) ?_; intro A2 c2' w3 h1 h2 h3)); obtain ⟨h4, h5⟩ := app_end hbq OWQ.out h1 h2; have hL : (out ++ [m]).length = out.length + 1 := (by simp); replace c0 := cell_grown h2 (cell_alloc _ c0) hne1; replace c1 := cell_grown h2 (cell_alloc _ c1) hne1; replace c2 := cell_grown h2 (cell_alloc _ c2) hne1; rw [← hL]; have OW4 := Lib.hid h4; have HL4 := Lib.hid hL; have z4 := h5.size; clear h1 h2 h3 h4 hL hne1 x0 x1 x2 OWQ hbq; generalize hout : out ++ [m] = out2 at *; have hil2 : out2.length ≤ k + 2 := (by rw [← hout]; simp; omega); clear hout) | (at_builtin; (refine wpList_append_rows _ rfl (.tmp 81) (.tmp 86) 38 rfl w1.heap.size 45 i0 (.agg #[.string ⟨#[]⟩, .int .i64 0, .int .i64 0]) 3 32 Try.underlying38 HI.out HZ0.out HZ1.out HZ2.out rfl (by decide) A2 (List.length out2) c2' (cellsOf 3 msgC out2) rfl (World.ownsRow.alloc OW4.out _) (some ⟨_, 0, none⟩) 1 1 [.string (Msg.s x), .int .i64 (Msg.v x), .int .i64 (Msg.l x)] rfl rfl (fun h => by cases h) (fun ad h => by cases h; exact news3 (blk_new rfl)) (mem3 x) (by unfold maxLen; omega) (by omega) (by simp; omega) ?_; intro A3 c3 w3 h1 h2 h3)))
            obtain ⟨h6, h7⟩ := app_end h5 OW4.out h1 h2
            rw [HIN.out] at h6
            have HL : Hid (out2.length + 1 = (insS l m k (k + 1)).length) := Lib.hid (by rw [← HIN.out]; simp)
            clear h1 h2 h3
            go_wp2_with (fail)
            exact ⟨⟨k + 1, A3, c3, true, by omega, by go_num, by rw [HL.out], rfl, by simp, h6, h7⟩, by simp [intOf]; omega⟩
          · obtain rfl : pb = true := HPB.out.2 (by omega)
            have HIN := Lib.hid (insS_gt (m := m) (p := p) hlt (by omega))
            have HKP := Lib.hid (show p < k by omega)
            clear HPB hgx hkp hkq
            generalize l[k] = x at *
            generalize insS l m p k = out at *
            go_wp2_with (fail)
            go_quiet (fail)
            have hbq : Below w1.heap.size w1 (wr.drewN nq) := (by repeat (first | assumption | exact Below.refl _ _ | refine Below.drew ?_ | (refine below_alloc _ ?_ ?_; focus (first | omega | (simp; done) | (simp; omega) | (simp at *; omega))) | (refine below_set _ ?_ ?_; focus (first | omega | (simp; done) | (simp; omega) | (simp at *; omega))) | refine below_drewN ?_ _ | (refine below_call (by assumption) ?_ ?_; focus (first | omega | (simp; done) | (simp; omega) | (simp at *; omega))) | (refine below_call' (by assumption) ?_ ?_; focus (first | omega | (simp; done) | (simp; omega) | (simp at *; omega)))))
            have OWQ : Hid ((wr.drewN nq).ownsRow w1.heap.size 45 3 (.slice A' out.length c') out.length (cellsOf 3 msgC out)) := OWN
            replace c0 := cell_drewN nq c0
            replace c1 := cell_drewN nq c1
            replace c2 := cell_drewN nq c2
            replace zr1 : w1.heap.size ≤ (wr.drewN nq).heap.size := zr1
            clear OWN hbr x0 x1 x2 AR hb1
            generalize wr.drewN nq = wq at *
            go_wp2_with (at_builtin; (refine wpList_append_rows _ rfl (.tmp 81) (.tmp 86) 38 rfl w1.heap.size 45 i0 (.agg #[.string ⟨#[]⟩, .int .i64 0, .int .i64 0]) 3 32 Try.underlying38 HI.out HZ0.out HZ1.out HZ2.out rfl (by decide) A' (List.length out) c' (cellsOf 3 msgC out) rfl (World.ownsRow.alloc OWQ.out _) (some ⟨_, 0, none⟩) 1 1 [.string (Msg.s x), .int .i64 (Msg.v x), .int .i64 (Msg.l x)] rfl rfl (fun h => by cases h) (fun ad h => by cases h; exact news3 (blk_new rfl)) (mem3 x) (by unfold maxLen; omega) (by omega) (by simp; omega) ?_; intro A2 c2 w3 h1 h2 h3))
            obtain ⟨h4, h5⟩ := app_end hbq OWQ.out h1 h2
            rw [HIN.out] at h4
            have HL : Hid (out.length + 1 = (insS l m p (k + 1)).length) := Lib.hid (by rw [← HIN.out]; simp)
            clear h1 h2 h3
            go_wp2_with (fail)
            exact ⟨⟨k + 1, A2, c2, true, by omega, by go_num, by rw [HL.out], rfl, by have := HKP.out; simp; omega, h4, h5⟩, by simp [intOf]; omega⟩
      · obtain rfl : k = l.length := by omega
        by_cases hpe : p = l.length
        · subst hpe
          obtain rfl : pb = false := by
            cases pb
            · rfl
            · have := HPB.out.1 rfl; omega
          have HIN := Lib.hid (insS_end' (l := l) (m := m))
          clear HPB AR
          generalize insS l m l.length l.length = out at *
          go_wp2_with (at_builtin; (refine wpList_append_rows _ rfl (.tmp 90) (.tmp 92) 38 rfl w1.heap.size 45 i0 (.agg #[.string ⟨#[]⟩, .int .i64 0, .int .i64 0]) 3 32 Try.underlying38 HI.out HZ0.out HZ1.out HZ2.out rfl (by decide) A' (List.length out) c' (cellsOf 3 msgC out) rfl (World.ownsRow.alloc OWN.out _) (some ⟨_, 0, none⟩) 1 1 [.string (Msg.s m), .int .i64 (Msg.v m), .int .i64 (Msg.l m)] rfl rfl (fun h => by cases h) (fun ad h => by cases h; exact news3 (blk_new rfl)) (mem3 m) (by unfold maxLen; omega) (by omega) (by simp; omega) ?_; intro A2 c2 w3 h1 h2 h3))
          obtain ⟨h4, h5⟩ := app_end hbr OWN.out h1 h2
          rw [HIN.out] at h4
          have HL : Hid (out.length + 1 = (l.take l.length ++ m :: l.drop l.length).length) := Lib.hid (by rw [← HIN.out]; simp)
          have hA4 : MsgsAt w3 A2 (l.take l.length ++ m :: l.drop l.length) := rowsAt_of_own h4 rfl (by decide)
          clear h1 h2 h3 h4
          go_wp2_with (fail)
          go_ret2
          rw [H4.out]
          exact ⟨A2, c2, by rw [HL.out] <;> rfl, hA4, hbw1.trans (h5.mono (by omega))⟩
        · obtain rfl : pb = true := HPB.out.2 (by omega)
          have HIN := Lib.hid (insS_end (l := l) (m := m) (p := p) (by omega))
          have hA4 : MsgsAt wr A' (l.take p ++ m :: l.drop p) := by rw [← HIN.out]; exact rowsAt_of_own OWN.out rfl (by decide)
          have HL : Hid ((insS l m p l.length).length = (l.take p ++ m :: l.drop p).length) := Lib.hid (by rw [HIN.out])
          clear HPB AR OWN hpe
          generalize insS l m p l.length = out at *
          go_wp2_with (fail)
          go_ret2
          rw [H4.out]
          exact ⟨A', c', by rw [HL.out] <;> rfl, hA4, hbw⟩
  · obtain ⟨o, ho, he⟩ := has_true hh
    have hpl2 : posM l m.s < l.length := (List.getElem?_eq_some_iff.1 ho).1
    rw [if_pos hh] at hf
    have HF := Lib.hid hf
    have hr := recv_has hh ho
    have HR := Lib.hid hr
    obtain ⟨b1, o1, rfl, hb1, c0, c1, c2⟩ := MsgsAt.at_ hA1 hpl2
    rw [List.getElem?_eq_getElem hpl2] at ho
    rw [Option.some.inj ho] at c0 c1 c2
    have hp1 : ((posM l m.s : Nat) : Int) < (l.length : Int) := by omega
    have hset := cells_set3 l (posM l m.s) m
    have hslen : (l.set (posM l m.s) m).length = l.length := List.length_set
    have SET := Lib.hid hset
    have SLEN := Lib.hid hslen
    clear hf hr hh ho he hset hslen
    generalize posM l m.s = p at *
    have HCP := Lib.hid (fun W => fun hW : MsgsAt W (some ⟨b1, o1, none⟩) l => CopyMessages_any (some ⟨b1, o1, none⟩) l cap W (by omega) hW)
    by_cases hcl : m.v = o.v ∧ m.l ≠ o.l
    · have hv : ¬ o.v < m.v := by omega
      have h4 : rcv l m = ([], 13) := by rw [H3.out, (HR.out.trans (if_neg hv)).trans (if_pos hcl), if_neg (show ¬ ((13 : Int) = 0) by decide)]
      have H4 := Lib.hid h4
      have e1 : (o.v == m.v) = true := by simp [hcl.1]
      have e2 : (o.l == m.l) = false := by simp; exact fun e => hcl.2 e.symm
      have e3 : (o.l != m.l) = true := by rw [bne, e2]; rfl
      clear h4 hv hcl H3 HR
      go_wp2_with (go_at_call 33; refine (Find_any (some ⟨b1, o1, none⟩) l cap m.s _ (by omega) hA1).mono ?_; rintro e w' ⟨rfl, rfl⟩; rw [HF.out])
      go_quiet (fail)
      go_wp2_with (fail)
      go_ret2
      rw [H4.out]
      exact ⟨none, 0, rfl, RowsAt.nil, (by repeat (first | assumption | exact Below.refl _ _ | refine Below.drew ?_ | (refine below_alloc _ ?_ ?_; focus (first | omega | (simp; done) | (simp; omega) | (simp at *; omega))) | (refine below_set _ ?_ ?_; focus (first | omega | (simp; done) | (simp; omega) | (simp at *; omega))) | refine below_drewN ?_ _ | (refine below_call (by assumption) ?_ ?_; focus (first | omega | (simp; done) | (simp; omega) | (simp at *; omega))) | (refine below_call' (by assumption) ?_ ?_; focus (first | omega | (simp; done) | (simp; omega) | (simp at *; omega)))))⟩
    · have hq : ∀ (e1 : (o.v == m.v) = true), (o.l == m.l) = true := fun e1 => by
        simp at e1 ⊢
        apply Classical.byContradiction
        intro e2
        exact hcl ⟨e1.symm, fun e => e2 e.symm⟩
      by_cases hv : o.v < m.v
      · have h4 : rcv l m = (l.set p m, 0) := by rw [H3.out, HR.out.trans (if_pos hv), if_pos (by rfl)]
        have H4 := Lib.hid h4
        have e1 : (o.v == m.v) = false := by simp; omega
        clear h4 hcl hq H3 HR
        go_wp2_with (go_at_call 33; refine (Find_any (some ⟨b1, o1, none⟩) l cap m.s _ (by omega) hA1).mono ?_; rintro e w' ⟨rfl, rfl⟩; rw [HF.out])
        go_quiet (fail)
        go_wp2_with (fail)
        refine (HCP.out _ (RowsAt.below hA1 (by repeat (first | assumption | exact Below.refl _ _ | refine Below.drew ?_ | (refine below_alloc _ ?_ ?_; focus (first | omega | (simp; done) | (simp; omega) | (simp at *; omega))) | (refine below_set _ ?_ ?_; focus (first | omega | (simp; done) | (simp; omega) | (simp at *; omega))) | refine below_drewN ?_ _ | (refine below_call (by assumption) ?_ ?_; focus (first | omega | (simp; done) | (simp; omega) | (simp at *; omega))) | (refine below_call' (by assumption) ?_ ?_; focus (first | omega | (simp; done) | (simp; omega) | (simp at *; omega))))))).mono ?_
        rintro e w3 ⟨A3, c3, rfl, own3, hb3⟩
        have hb13 : Below w1.heap.size w1 w3 := (by repeat (first | assumption | exact Below.refl _ _ | refine Below.drew ?_ | (refine below_alloc _ ?_ ?_; focus (first | omega | (simp; done) | (simp; omega) | (simp at *; omega))) | (refine below_set _ ?_ ?_; focus (first | omega | (simp; done) | (simp; omega) | (simp at *; omega))) | refine below_drewN ?_ _ | (refine below_call (by assumption) ?_ ?_; focus (first | omega | (simp; done) | (simp; omega) | (simp at *; omega))) | (refine below_call' (by assumption) ?_ ?_; focus (first | omega | (simp; done) | (simp; omega) | (simp at *; omega)))))
        replace x0 := cell_below' hb13 x0
        replace x1 := cell_below' hb13 x1
        replace x2 := cell_below' hb13 x2
        replace c0 := cell_below' hb13 c0
        replace c1 := cell_below' hb13 c1
        replace c2 := cell_below' hb13 c2
        have hbw3 : Below w.heap.size w w3 := hbw1.trans (hb13.mono (by omega))
        have z3 : w.heap.size < w3.heap.size := by have := hb13.size; omega
        have z31 := hb13.size
        have own3' : w3.ownsRow w1.heap.size 45 3 (.slice A3 l.length c3) l.length (cellsOf 3 msgC l) := own3
        have OWN3 := Lib.hid own3'
        clear hb3 hb13 own3 own3'
        go_wp2_with (fail)
        go_quiet (fail)
        replace x0 := cell_drewN nq x0
        replace x1 := cell_drewN nq x1
        replace x2 := cell_drewN nq x2
        have OWN4 : Hid ((w3.drewN nq).ownsRow w1.heap.size 45 3 (.slice A3 l.length c3) l.length (cellsOf 3 msgC l)) := OWN3
        replace z3 : w.heap.size < (w3.drewN nq).heap.size := z3
        replace z31 : w1.heap.size ≤ (w3.drewN nq).heap.size := z31
        replace hbw3 : Below w.heap.size w (w3.drewN nq) := (by repeat (first | assumption | exact Below.refl _ _ | refine Below.drew ?_ | (refine below_alloc _ ?_ ?_; focus (first | omega | (simp; done) | (simp; omega) | (simp at *; omega))) | (refine below_set _ ?_ ?_; focus (first | omega | (simp; done) | (simp; omega) | (simp at *; omega))) | refine below_drewN ?_ _ | (refine below_call (by assumption) ?_ ?_; focus (first | omega | (simp; done) | (simp; omega) | (simp at *; omega))) | (refine below_call' (by assumption) ?_ ?_; focus (first | omega | (simp; done) | (simp; omega) | (simp at *; omega)))))
        clear OWN3 c0 c1 c2
        generalize w3.drewN nq = w4 at *
        obtain ⟨g, cur, rfl, hBg, hg, hnc, hcm, hcs, htk⟩ := own_open OWN4.out (by omega)
        obtain ⟨b', off, he', hb', c0, c1, c2⟩ := MsgsAt.at_ (rowsAt_of_own OWN4.out rfl (by decide)) hpl2
        injection he' with he'
        injection he' with e1 e2
        subst e1 e2
        simp only [Nat.zero_add] at c0 c1 c2
        have f0 : w4.frozen? ⟨g, p * 3, none⟩ = false := blk_frozen hg
        have f1 : w4.frozen? ⟨g, p * 3 + 1, none⟩ = false := blk_frozen hg
        have f2 : w4.frozen? ⟨g, p * 3 + 2, none⟩ = false := blk_frozen hg
        have hcm' : (c3 : Int) ≤ 9223372036854775807 := by unfold maxLen at hcm; omega
        have s0 := OWN4.out.stored (p * 3) (.string m.s)
        have s1 := s0.1.stored (p * 3 + 1) (.int .i64 m.v)
        have s2 := s1.1.stored (p * 3 + 2) (.int .i64 m.l)
        have hown : (((w4.setCell ⟨g, p * 3, none⟩ (.string m.s)).setCell ⟨g, p * 3 + 1, none⟩ (.int .i64 m.v)).setCell ⟨g, p * 3 + 2, none⟩ (.int .i64 m.l)).ownsRow w1.heap.size 45 3 (.slice (some ⟨g, 0, none⟩) (l.set p m).length c3) (l.set p m).length (cellsOf 3 msgC (l.set p m)) := by
          rw [SLEN.out, ← SET.out]; exact s2.1
        have hAf : MsgsAt (((w4.setCell ⟨g, p * 3, none⟩ (.string m.s)).setCell ⟨g, p * 3 + 1, none⟩ (.int .i64 m.v)).setCell ⟨g, p * 3 + 2, none⟩ (.int .i64 m.l)) (some ⟨g, 0, none⟩) (l.set p m) := rowsAt_of_own hown rfl (by decide)
        have hbf : Below w.heap.size w (((w4.setCell ⟨g, p * 3, none⟩ (.string m.s)).setCell ⟨g, p * 3 + 1, none⟩ (.int .i64 m.v)).setCell ⟨g, p * 3 + 2, none⟩ (.int .i64 m.l)) := below_set _ (by simp; omega) (below_set _ (by simp; omega) (below_set _ (by simp; omega) hbw3))
        clear s0 s1 s2 hown hg htk hcs hb' hcm
        go_wp2_with (fail)
        go_ret2
        rw [H4.out]
        exact ⟨some ⟨g, 0, none⟩, c3, by rw [SLEN.out] <;> rfl, hAf, hbf⟩
      · have h4 : rcv l m = (l, 0) := by rw [H3.out, (HR.out.trans (if_neg hv)).trans (if_neg hcl), if_pos (by rfl)]
        have H4 := Lib.hid h4
        have hvd : decide (o.v < m.v) = false := by simpa using hv
        clear h4 hv hcl H3 HR
        cases e1 : (o.v == m.v)
        · clear hq
          go_wp2_with (go_at_call 33; refine (Find_any (some ⟨b1, o1, none⟩) l cap m.s _ (by omega) hA1).mono ?_; rintro e w' ⟨rfl, rfl⟩; rw [HF.out])
          go_quiet (fail)
          go_wp2_with (fail)
          refine (HCP.out _ (RowsAt.below hA1 (by repeat (first | assumption | exact Below.refl _ _ | refine Below.drew ?_ | (refine below_alloc _ ?_ ?_; focus (first | omega | (simp; done) | (simp; omega) | (simp at *; omega))) | (refine below_set _ ?_ ?_; focus (first | omega | (simp; done) | (simp; omega) | (simp at *; omega))) | refine below_drewN ?_ _ | (refine below_call (by assumption) ?_ ?_; focus (first | omega | (simp; done) | (simp; omega) | (simp at *; omega))) | (refine below_call' (by assumption) ?_ ?_; focus (first | omega | (simp; done) | (simp; omega) | (simp at *; omega))))))).mono ?_
          rintro e w3 ⟨A3, c3, rfl, own3, hb3⟩
          have hb13 : Below w1.heap.size w1 w3 := (by repeat (first | assumption | exact Below.refl _ _ | refine Below.drew ?_ | (refine below_alloc _ ?_ ?_; focus (first | omega | (simp; done) | (simp; omega) | (simp at *; omega))) | (refine below_set _ ?_ ?_; focus (first | omega | (simp; done) | (simp; omega) | (simp at *; omega))) | refine below_drewN ?_ _ | (refine below_call (by assumption) ?_ ?_; focus (first | omega | (simp; done) | (simp; omega) | (simp at *; omega))) | (refine below_call' (by assumption) ?_ ?_; focus (first | omega | (simp; done) | (simp; omega) | (simp at *; omega)))))
          replace x0 := cell_below' hb13 x0
          replace x1 := cell_below' hb13 x1
          replace x2 := cell_below' hb13 x2
          replace c0 := cell_below' hb13 c0
          replace c1 := cell_below' hb13 c1
          replace c2 := cell_below' hb13 c2
          have hbw3 : Below w.heap.size w w3 := hbw1.trans (hb13.mono (by omega))
          have hA3 : MsgsAt w3 A3 l := rowsAt_of_own own3 rfl (by decide)
          clear hb3 hb13 own3
          go_wp2_with (fail)
          go_quiet (fail)
          go_wp2_with (fail)
          go_ret2
          rw [H4.out]
          exact ⟨A3, c3, rfl, RowsAt.below hA3 (by repeat (first | assumption | exact Below.refl _ _ | refine Below.drew ?_ | (refine below_alloc _ ?_ ?_; focus (first | omega | (simp; done) | (simp; omega) | (simp at *; omega))) | (refine below_set _ ?_ ?_; focus (first | omega | (simp; done) | (simp; omega) | (simp at *; omega))) | refine below_drewN ?_ _ | (refine below_call (by assumption) ?_ ?_; focus (first | omega | (simp; done) | (simp; omega) | (simp at *; omega))) | (refine below_call' (by assumption) ?_ ?_; focus (first | omega | (simp; done) | (simp; omega) | (simp at *; omega))))), (by repeat (first | assumption | exact Below.refl _ _ | refine Below.drew ?_ | (refine below_alloc _ ?_ ?_; focus (first | omega | (simp; done) | (simp; omega) | (simp at *; omega))) | (refine below_set _ ?_ ?_; focus (first | omega | (simp; done) | (simp; omega) | (simp at *; omega))) | refine below_drewN ?_ _ | (refine below_call (by assumption) ?_ ?_; focus (first | omega | (simp; done) | (simp; omega) | (simp at *; omega))) | (refine below_call' (by assumption) ?_ ?_; focus (first | omega | (simp; done) | (simp; omega) | (simp at *; omega)))))⟩
        · have e2 := hq e1
          have e3 : (o.l != m.l) = false := by rw [bne, e2]; rfl
          clear hq
          go_wp2_with (go_at_call 33; refine (Find_any (some ⟨b1, o1, none⟩) l cap m.s _ (by omega) hA1).mono ?_; rintro e w' ⟨rfl, rfl⟩; rw [HF.out])
          go_quiet (fail)
          go_wp2_with (fail)
          refine (HCP.out _ (RowsAt.below hA1 (by repeat (first | assumption | exact Below.refl _ _ | refine Below.drew ?_ | (refine below_alloc _ ?_ ?_; focus (first | omega | (simp; done) | (simp; omega) | (simp at *; omega))) | (refine below_set _ ?_ ?_; focus (first | omega | (simp; done) | (simp; omega) | (simp at *; omega))) | refine below_drewN ?_ _ | (refine below_call (by assumption) ?_ ?_; focus (first | omega | (simp; done) | (simp; omega) | (simp at *; omega))) | (refine below_call' (by assumption) ?_ ?_; focus (first | omega | (simp; done) | (simp; omega) | (simp at *; omega))))))).mono ?_
          rintro e w3 ⟨A3, c3, rfl, own3, hb3⟩
          have hb13 : Below w1.heap.size w1 w3 := (by repeat (first | assumption | exact Below.refl _ _ | refine Below.drew ?_ | (refine below_alloc _ ?_ ?_; focus (first | omega | (simp; done) | (simp; omega) | (simp at *; omega))) | (refine below_set _ ?_ ?_; focus (first | omega | (simp; done) | (simp; omega) | (simp at *; omega))) | refine below_drewN ?_ _ | (refine below_call (by assumption) ?_ ?_; focus (first | omega | (simp; done) | (simp; omega) | (simp at *; omega))) | (refine below_call' (by assumption) ?_ ?_; focus (first | omega | (simp; done) | (simp; omega) | (simp at *; omega)))))
          replace x0 := cell_below' hb13 x0
          replace x1 := cell_below' hb13 x1
          replace x2 := cell_below' hb13 x2
          replace c0 := cell_below' hb13 c0
          replace c1 := cell_below' hb13 c1
          replace c2 := cell_below' hb13 c2
          have hbw3 : Below w.heap.size w w3 := hbw1.trans (hb13.mono (by omega))
          have hA3 : MsgsAt w3 A3 l := rowsAt_of_own own3 rfl (by decide)
          clear hb3 hb13 own3
          go_wp2_with (fail)
          go_quiet (fail)
          go_wp2_with (fail)
          go_ret2
          rw [H4.out]
          exact ⟨A3, c3, rfl, RowsAt.below hA3 (by repeat (first | assumption | exact Below.refl _ _ | refine Below.drew ?_ | (refine below_alloc _ ?_ ?_; focus (first | omega | (simp; done) | (simp; omega) | (simp at *; omega))) | (refine below_set _ ?_ ?_; focus (first | omega | (simp; done) | (simp; omega) | (simp at *; omega))) | refine below_drewN ?_ _ | (refine below_call (by assumption) ?_ ?_; focus (first | omega | (simp; done) | (simp; omega) | (simp at *; omega))) | (refine below_call' (by assumption) ?_ ?_; focus (first | omega | (simp; done) | (simp; omega) | (simp at *; omega))))), (by repeat (first | assumption | exact Below.refl _ _ | refine Below.drew ?_ | (refine below_alloc _ ?_ ?_; focus (first | omega | (simp; done) | (simp; omega) | (simp at *; omega))) | (refine below_set _ ?_ ?_; focus (first | omega | (simp; done) | (simp; omega) | (simp at *; omega))) | refine below_drewN ?_ _ | (refine below_call (by assumption) ?_ ?_; focus (first | omega | (simp; done) | (simp; omega) | (simp at *; omega))) | (refine below_call' (by assumption) ?_ ?_; focus (first | omega | (simp; done) | (simp; omega) | (simp at *; omega)))))⟩
end Go.Proofs.Ytcfbnmcdncndpaa
