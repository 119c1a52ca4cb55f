/-
  Chapter 8: a store that has received messages (Received, NewestOf).
-/
import Derived.Test.YtcfbnmcdncndpaaWCkS
namespace Go.Proofs.Ytcfbnmcdncndpaa
open Go.ChangeShapes Go.WideShapes Go.ChangeAt Go.RowKit
set_option linter.unusedVariables false
set_option linter.unusedSimpArgs false

theorem rowS_zero {p : Option Msg} {m : Msg} (h : rowS p m = 0) : msgE m = 0 ∧ ordS p m = true := by
  unfold rowS at h
  rw [firstE2, unl_zero (by decide)] at h
  exact h
theorem badS_ok : ∀ {l : List Msg} {p : Option Msg} {i : Nat}, (badS p l i).2 = 0 → (∀ m ∈ l, msgE m = 0) ∧ Srt l ∧ (∀ q, p = some q → ∀ m ∈ l, blt q.s m.s = true)
  | [], p, i, _ => ⟨fun m h => by simp at h, List.Pairwise.nil, fun q _ m h => by simp at h⟩
  | m :: r, p, i, h => by
    unfold badS at h
    by_cases hr : rowS p m = 0
    · rw [if_pos hr] at h
      obtain ⟨h1, h2⟩ := rowS_zero hr
      obtain ⟨i1, i2, i3⟩ := badS_ok h
      refine ⟨fun x hx => ?_, List.pairwise_cons.2 ⟨i3 m rfl, i2⟩, fun q hq x hx => ?_⟩
      · rcases List.mem_cons.1 hx with rfl | hx
        · exact h1
        · exact i1 x hx
      · subst hq
        rcases List.mem_cons.1 hx with rfl | hx
        · exact h2
        · exact blt_trans h2 (i3 m rfl x hx)
    · rw [if_neg hr] at h; exact absurd h hr
theorem chkS_ok {l : List Msg} (h : chkSE l = 0) : (∀ m ∈ l, msgE m = 0) ∧ Srt l ∧ l.length ≤ 30 := by
  unfold chkSE chkS at h
  by_cases hl : 30 < l.length
  · rw [if_pos hl] at h; cases h
  · rw [if_neg hl] at h
    obtain ⟨a, b, _⟩ := badS_ok h
    exact ⟨a, b, by omega⟩
/-- the error of a step -/
def stepE (l : List Msg) (m : Msg) : Int := if msgE m = 0 then (recvM l m).2 else msgE m
def rcv (l : List Msg) (m : Msg) : List Msg × Int := if stepE l m = 0 then ((recvM l m).1, 0) else ([], stepE l m)
def rcvd (l : List Msg) (m : Msg) : List Msg × Int := if chkSE l = 0 then rcv l m else ([], chkSE l)
def newGo : List Msg → List Msg → Nat → List Msg × Int × Int
  | [], out, _ => (out, 0, 0)
  | m :: r, out, i => if stepE out m = 0 then newGo r (recvM out m).1 (i + 1) else ([], (i : Int), stepE out m)
def newest (l : List Msg) : List Msg × Int × Int := if 200 < l.length then ([], 0, 8) else newGo l [] 0
def StoreE (q : List Msg × Int) (w : World) (e : Ending) (w' : World) : Prop := ∃ A' c', e = .returned (.tuple #[.slice A' q.1.length c', .int .i64 q.2]) ∧ MsgsAt w' A' q.1 ∧ Below w.heap.size w w'
def StoreE3 (q : List Msg × Int × Int) (w : World) (e : Ending) (w' : World) : Prop := ∃ A' c', e = .returned (.tuple #[.slice A' q.1.length c', .int .i64 q.2.1, .int .i64 q.2.2]) ∧ MsgsAt w' A' q.1 ∧ Below w.heap.size w w'

set_option maxHeartbeats 2000000 in
theorem Received_any (A : Option Addr) (l : List Msg) (cap : Nat) (m : Msg) (w : World) (hl : l.length ≤ 300) (hn : ∀ x ∈ l, x.s.size ≤ 1000) (hm : m.s.size ≤ 1000) (hA : MsgsAt w A l) :
    Calls Try.prog 63 #[.slice A l.length cap, .agg #[.string m.s, .int .i64 m.v, .int .i64 m.l]] w (StoreE (rcvd l m) w) := by
  go_enter Try.func63, Try.ntmps63
  go_wp2_with (fail)
  refine (openStore_any A l cap _ hl hn (hA.below (by repeat (first | assumption | exact Below.refl _ _ | refine Below.drew ?_ | (refine below_alloc _ ?_ ?_; focus (first | omega | (simp; done) | (simp; omega) | (simp at *; omega))) | (refine below_set _ ?_ ?_; focus (first | omega | (simp; done) | (simp; omega) | (simp at *; omega))) | refine below_drewN ?_ _ | (refine below_call (by assumption) ?_ ?_; focus (first | omega | (simp; done) | (simp; omega) | (simp at *; omega))) | (refine below_call' (by assumption) ?_ ?_; focus (first | omega | (simp; done) | (simp; omega) | (simp at *; omega))))))).mono ?_
  rintro e w1 ⟨A1, c1, rfl, own1, hb1⟩
  have x0 : w1.cell? ⟨w.heap.size, 0, none⟩ = some (.string m.s) := cell_below' hb1 (by repeat (first | assumption | (refine cell_new ?_ rfl; focus (simp; done)) | refine cell_drew ?_ | refine cell_alloc _ ?_ | refine cell_drewN _ ?_ | (refine cell_far ?_ ?_; focus (first | omega | (simp; omega) | (simp; done))) | refine cell_below' (by assumption) ?_))
  have x1 : w1.cell? ⟨w.heap.size, 1, none⟩ = some (.int .i64 m.v) := cell_below' hb1 (by repeat (first | assumption | (refine cell_new ?_ rfl; focus (simp; done)) | refine cell_drew ?_ | refine cell_alloc _ ?_ | refine cell_drewN _ ?_ | (refine cell_far ?_ ?_; focus (first | omega | (simp; omega) | (simp; done))) | refine cell_below' (by assumption) ?_))
  have x2 : w1.cell? ⟨w.heap.size, 2, none⟩ = some (.int .i64 m.l) := cell_below' hb1 (by repeat (first | assumption | (refine cell_new ?_ rfl; focus (simp; done)) | refine cell_drew ?_ | refine cell_alloc _ ?_ | refine cell_drewN _ ?_ | (refine cell_far ?_ ?_; focus (first | omega | (simp; omega) | (simp; done))) | refine cell_below' (by assumption) ?_))
  have hz := hb1.size
  simp at hz own1
  have z1 : w.heap.size < w1.heap.size := by omega
  have hbw1 : Below w.heap.size w w1 := (by repeat (first | assumption | exact Below.refl _ _ | refine Below.drew ?_ | (refine below_alloc _ ?_ ?_; focus (first | omega | (simp; done) | (simp; omega) | (simp at *; omega))) | (refine below_set _ ?_ ?_; focus (first | omega | (simp; done) | (simp; omega) | (simp at *; omega))) | refine below_drewN ?_ _ | (refine below_call (by assumption) ?_ ?_; focus (first | omega | (simp; done) | (simp; omega) | (simp at *; omega))) | (refine below_call' (by assumption) ?_ ?_; focus (first | omega | (simp; done) | (simp; omega) | (simp at *; omega)))))
  clear hb1 hz hA
  go_wp2_with (fail)
  refine (messageErr_any m _ hm).mono ?_
  rintro e w2 ⟨rfl, hb2⟩
  have hq : w2.heap[w1.heap.size]? = some (.cells #[.slice A1 l.length c1] 151 (0, 0)) := blk_below' hb2 (blk_new rfl)
  have own2 := own_below (World.ownsRow.alloc own1 (.cells #[.slice A1 l.length c1] 151)) hb2
  have hlt := own1.lt
  have hbw2 : Below w.heap.size w w2 := (by repeat (first | assumption | exact Below.refl _ _ | refine Below.drew ?_ | (refine below_alloc _ ?_ ?_; focus (first | omega | (simp; done) | (simp; omega) | (simp at *; omega))) | (refine below_set _ ?_ ?_; focus (first | omega | (simp; done) | (simp; omega) | (simp at *; omega))) | refine below_drewN ?_ _ | (refine below_call (by assumption) ?_ ?_; focus (first | omega | (simp; done) | (simp; omega) | (simp at *; omega))) | (refine below_call' (by assumption) ?_ ?_; focus (first | omega | (simp; done) | (simp; omega) | (simp at *; omega)))))
  replace x0 := cell_below' hb2 (cell_alloc _ x0)
  replace x1 := cell_below' hb2 (cell_alloc _ x1)
  replace x2 := cell_below' hb2 (cell_alloc _ x2)
  have z2 : w1.heap.size < w2.heap.size := by have := hb2.size; simp at this; omega
  have z3 : w.heap.size < w2.heap.size := by omega
  have hne : Value.ownBlock (.slice A1 l.length c1) ≠ some w1.heap.size := fun e => by have := (hlt _ e).2; omega
  have hnw : w.heap.size ≠ w1.heap.size := by omega
  clear hb2 own1 hlt
  have hE0 : firstE [chkSE l, msgE m] = if chkSE l = 0 then msgE m else chkSE l := by
    by_cases h : chkSE l = 0
    · rw [if_pos h, h, firstE_consz]
    · rw [if_neg h, firstE_cons0 h]
  have HQ := Lib.hid hq
  have OWN2 := Lib.hid own2
  clear own2
  by_cases hE : firstE [chkSE l, msgE m] = 0
  · have hc0 : chkSE l = 0 := by
      by_cases h : chkSE l = 0
      · exact h
      · rw [hE0, if_neg h] at hE; exact absurd hE h
    have hm0 : msgE m = 0 := by rw [hE0, if_pos hc0] at hE; exact hE
    obtain ⟨-, hS, hl30⟩ := chkS_ok hc0
    have hst : stepE l m = (recvM l m).2 := by unfold stepE; rw [if_pos hm0]
    have hrc : rcvd l m = if (recvM l m).2 = 0 then ((recvM l m).1, 0) else ([], (recvM l m).2) := by
      unfold rcvd rcv; rw [if_pos hc0, hst]
    have HE := Lib.hid hE
    clear hE0 hE hc0 hm0 hst
    have HRC := Lib.hid hrc
    clear hrc hq
    go_wp2_with (go_at_call 84; refine (first2 _ _ _ _ (by simp) (cell_new (by simp) rfl) (cell_new (by simp) rfl)).mono ?_; rintro e w' ⟨rfl, rfl⟩; rw [HE.out])
    refine (receive_any (w.heap.size + 1) w1.heap.size 0 A1 c1 #[.slice A1 l.length c1] 151 l m _ hl30 hS (by simp; omega) (blk_alloc _ HQ.out) rfl (World.ownsRow.alloc OWN2.out _) hne).mono ?_
    rintro e w3 ⟨rfl, A3, c3, hp3, own3, ht3, hz3⟩
    have hb3 : Below w.heap.size w w3 := by
      refine Below.trans (b := w2.alloc (.cells #[.int .i64 (chkSE l), .int .i64 (msgE m)] 27)) (by repeat (first | assumption | exact Below.refl _ _ | refine Below.drew ?_ | (refine below_alloc _ ?_ ?_; focus (first | omega | (simp; done) | (simp; omega) | (simp at *; omega))) | (refine below_set _ ?_ ?_; focus (first | omega | (simp; done) | (simp; omega) | (simp at *; omega))) | refine below_drewN ?_ _ | (refine below_call (by assumption) ?_ ?_; focus (first | omega | (simp; done) | (simp; omega) | (simp at *; omega))) | (refine below_call' (by assumption) ?_ ?_; focus (first | omega | (simp; done) | (simp; omega) | (simp at *; omega))))) (ht3.below (by omega) (fun g hg => by have := (OWN2.out.lt g hg).1; omega) (by simp; omega))
    have hA3 : MsgsAt w3 A3 (recvM l m).1 := rowsAt_of_own own3 rfl (by decide)
    have p3 : w3.cell? ⟨w1.heap.size, 0, none⟩ = some (.slice A3 (recvM l m).1.length c3) := blk_cell hp3 (by simp)
    clear own3 ht3 hz3 hp3 x0 x1 x2 hne
    by_cases hr : (recvM l m).2 = 0
    · have h2 := HRC.out
      rw [if_pos hr] at h2
      have H2 := Lib.hid h2
      rw [hr]
      clear hr h2 HRC
      generalize (recvM l m).1 = q at *
      go_wp2_with (fail)
      go_ret2
      rw [H2.out]
      exact ⟨A3, c3, rfl, hA3, hb3⟩
    · have h2 := HRC.out
      rw [if_neg hr] at h2
      have H2 := Lib.hid h2
      have hE1 : ((recvM l m).2 == 0) = false := by simpa using hr
      have hE2 : ((recvM l m).2 != 0) = true := by simpa using hr
      clear hr h2 HRC
      generalize (recvM l m).2 = E at *
      go_wp2_with (fail)
      go_ret2
      rw [H2.out]
      exact ⟨none, 0, rfl, RowsAt.nil, hb3⟩
  · have hE1 : (firstE [chkSE l, msgE m] == 0) = false := by simpa using hE
    have hE2 : (firstE [chkSE l, msgE m] != 0) = true := by simpa using hE
    have hrc : rcvd l m = ([], firstE [chkSE l, msgE m]) := by
      unfold rcvd rcv stepE
      by_cases h : chkSE l = 0
      · rw [if_pos h] at hE0
        rw [if_pos h, hE0]
        rw [hE0] at hE
        rw [if_neg hE, if_neg hE]
      · rw [if_neg h] at hE0
        rw [if_neg h, hE0]
    have HRC := Lib.hid hrc
    clear hrc hE hE0 hq
    generalize hEE : firstE [chkSE l, msgE m] = E at *
    have HE := Lib.hid hEE
    clear hEE
    go_wp2_with (go_at_call 84; refine (first2 _ _ _ _ (by simp) (cell_new (by simp) rfl) (cell_new (by simp) rfl)).mono ?_; rintro e w' ⟨rfl, rfl⟩; rw [HE.out])
    go_ret2
    rw [HRC.out]
    exact ⟨none, 0, rfl, RowsAt.nil, (by repeat (first | assumption | exact Below.refl _ _ | refine Below.drew ?_ | (refine below_alloc _ ?_ ?_; focus (first | omega | (simp; done) | (simp; omega) | (simp at *; omega))) | (refine below_set _ ?_ ?_; focus (first | omega | (simp; done) | (simp; omega) | (simp at *; omega))) | refine below_drewN ?_ _ | (refine below_call (by assumption) ?_ ?_; focus (first | omega | (simp; done) | (simp; omega) | (simp at *; omega))) | (refine below_call' (by assumption) ?_ ?_; focus (first | omega | (simp; done) | (simp; omega) | (simp at *; omega)))))⟩

/-- the state of NewestOf's loop -/
def NewK (l : List Msg) (k : Nat) (b B : Nat) (w0 : World) (out : List Msg) (wr : World) : Prop :=
  ∃ A c, newGo l [] 0 = newGo (l.drop k) out k ∧ wr.heap[b]? = some (.cells #[.slice A out.length c] 151 (0, 0)) ∧ wr.ownsRow B 45 3 (.slice A out.length c) out.length (cellsOf 3 msgC out) ∧ Value.ownBlock (.slice A out.length c) ≠ some b ∧ Srt out ∧ out.length ≤ 30 ∧ Below w0.heap.size w0 wr
set_option maxHeartbeats 2000000 in
theorem NewestOf_any (A : Option Addr) (l : List Msg) (cap : Nat) (w : World) (hl : l.length ≤ 300) (hn : ∀ x ∈ l, x.s.size ≤ 1000) (hA : MsgsAt w A l) :
    Calls Try.prog 55 #[.slice A l.length cap] w (StoreE3 (newest l) w) := by
  have hch : newest l = if 200 < l.length then ([], 0, 8) else newGo l [] 0 := rfl
  by_cases hlen : 200 < l.length
  · rw [if_pos hlen] at hch
    have HCH := Lib.hid hch
    have h1 : (200 : Int) < (l.length : Int) := by omega
    clear hch hlen
    go_enter Try.func55, Try.ntmps55
    go_wp2
    go_ret3
    rw [HCH.out]
    exact ⟨none, 0, rfl, RowsAt.nil, (by repeat (first | assumption | exact Below.refl _ _ | refine Below.drew ?_ | (refine below_alloc _ ?_ ?_; focus (first | omega | (simp; done) | (simp; omega) | (simp at *; omega))) | (refine below_set _ ?_ ?_; focus (first | omega | (simp; done) | (simp; omega) | (simp at *; omega))) | refine below_drewN ?_ _ | (refine below_call (by assumption) ?_ ?_; focus (first | omega | (simp; done) | (simp; omega) | (simp at *; omega))) | (refine below_call' (by assumption) ?_ ?_; focus (first | omega | (simp; done) | (simp; omega) | (simp at *; omega)))))⟩
  rw [if_neg hlen] at hch
  have HCH := Lib.hid hch
  have h1 : (l.length : Int) ≤ 200 := by omega
  clear hch hlen
  go_enter Try.func55, Try.ntmps55
  go_wp2
  go_loopw [14] (fun i wr => ∃ (k : Nat) (out : List Msg), k ≤ l.length ∧ i = .int .i64 k ∧ NewK l k w.heap.size w.heap.size w out wr) (fun i _ => l.length - (intOf i).toNat)
  case atStart => exact ⟨0, [], Nat.zero_le _, rfl, none, 0, rfl, blk_new rfl, World.ownsRow_nil _ _ _ _, by simp [Value.ownBlock], List.Pairwise.nil, by simp, (by repeat (first | assumption | exact Below.refl _ _ | refine Below.drew ?_ | (refine below_alloc _ ?_ ?_; focus (first | omega | (simp; done) | (simp; omega) | (simp at *; omega))) | (refine below_set _ ?_ ?_; focus (first | omega | (simp; done) | (simp; omega) | (simp at *; omega))) | refine below_drewN ?_ _ | (refine below_call (by assumption) ?_ ?_; focus (first | omega | (simp; done) | (simp; omega) | (simp at *; omega))) | (refine below_call' (by assumption) ?_ ?_; focus (first | omega | (simp; done) | (simp; omega) | (simp at *; omega)))))⟩
  case round =>
    obtain ⟨k, out, hk, rfl, A1, c1, hgo, hq, own, hne, hS, hl30, hbw⟩ := hrel
    have hzr : w.heap.size < wr.heap.size := (Array.getElem?_eq_some_iff.1 hq).1
    have p0 : wr.cell? ⟨w.heap.size, 0, none⟩ = some (.slice A1 out.length c1) := blk_cell hq rfl
    have AR := RowsAt.below hA hbw
    have HGO := Lib.hid hgo
    have HQ := Lib.hid hq
    have OWN := Lib.hid own
    clear hgo hq own
    by_cases hlt : k < l.length
    · obtain ⟨b1, o1, rfl, hb1, d0, d1, d2⟩ := MsgsAt.at_ AR hlt
      have hd : l.drop k = l[k] :: l.drop (k + 1) := List.drop_eq_getElem_cons hlt
      have hs := hn l[k] (List.getElem_mem hlt)
      have h2 := HGO.out
      rw [hd] at h2
      have HG2 := Lib.hid h2
      have hk1 : (k : Int) < (l.length : Int) := by omega
      clear HGO h2 hd AR
      generalize l[k] = m at *
      have HM := Lib.hid (fun W => messageErr_any m W hs)
      clear hs
      go_wp2_with (fail)
      refine (HM.out _).mono ?_
      rintro e w2 ⟨rfl, hb2⟩
      have x0 : w2.cell? ⟨wr.heap.size, 0, none⟩ = some (.string m.s) := cell_below' hb2 (by repeat (first | assumption | (refine cell_new ?_ rfl; focus (simp; done)) | refine cell_drew ?_ | refine cell_alloc _ ?_ | refine cell_drewN _ ?_ | (refine cell_far ?_ ?_; focus (first | omega | (simp; omega) | (simp; done))) | refine cell_below' (by assumption) ?_))
      have x1 : w2.cell? ⟨wr.heap.size, 1, none⟩ = some (.int .i64 m.v) := cell_below' hb2 (by repeat (first | assumption | (refine cell_new ?_ rfl; focus (simp; done)) | refine cell_drew ?_ | refine cell_alloc _ ?_ | refine cell_drewN _ ?_ | (refine cell_far ?_ ?_; focus (first | omega | (simp; omega) | (simp; done))) | refine cell_below' (by assumption) ?_))
      have x2 : w2.cell? ⟨wr.heap.size, 2, none⟩ = some (.int .i64 m.l) := cell_below' hb2 (by repeat (first | assumption | (refine cell_new ?_ rfl; focus (simp; done)) | refine cell_drew ?_ | refine cell_alloc _ ?_ | refine cell_drewN _ ?_ | (refine cell_far ?_ ?_; focus (first | omega | (simp; omega) | (simp; done))) | refine cell_below' (by assumption) ?_))
      have hbr2 : Below wr.heap.size wr w2 := (by repeat (first | assumption | exact Below.refl _ _ | refine Below.drew ?_ | (refine below_alloc _ ?_ ?_; focus (first | omega | (simp; done) | (simp; omega) | (simp at *; omega))) | (refine below_set _ ?_ ?_; focus (first | omega | (simp; done) | (simp; omega) | (simp at *; omega))) | refine below_drewN ?_ _ | (refine below_call (by assumption) ?_ ?_; focus (first | omega | (simp; done) | (simp; omega) | (simp at *; omega))) | (refine below_call' (by assumption) ?_ ?_; focus (first | omega | (simp; done) | (simp; omega) | (simp at *; omega)))))
      have hq2 := blk_below' hbr2 HQ.out
      have own2 := own_below OWN.out hbr2
      have hbw2 : Below w.heap.size w w2 := hbw.trans (hbr2.mono hbw.size)
      have z2 : wr.heap.size < w2.heap.size := by have := hb2.size; simp at this; omega
      have HQ2 := Lib.hid hq2
      have OWN2 := Lib.hid own2
      have hst : stepE out m = if msgE m = 0 then (recvM out m).2 else msgE m := rfl
      have hng : newGo (m :: l.drop (k + 1)) out k = if stepE out m = 0 then newGo (l.drop (k + 1)) (recvM out m).1 (k + 1) else ([], (k : Int), stepE out m) := rfl
      have HNG := Lib.hid hng
      have HST := Lib.hid hst
      clear hb2 hbr2 hq2 own2 HQ OWN hng hst p0 d0 d1 d2
      by_cases hm : msgE m = 0
      · have h3 := HST.out
        rw [if_pos hm] at h3
        have H3 := Lib.hid h3
        rw [hm]
        clear h3 HST hm HM
        go_wp2_with (fail)
        refine (receive_any w.heap.size w.heap.size 0 A1 c1 #[.slice A1 out.length c1] 151 out m _ hl30 hS (by omega) HQ2.out rfl OWN2.out hne).mono ?_
        rintro e w3 ⟨rfl, A3, c3, hp3, own3, ht3, hz3⟩
        have hb3 : Below w.heap.size w w3 := hbw2.trans (ht3.below (Nat.le_refl _) (fun g hg => (OWN2.out.lt g hg).1) (by omega))
        have hne3 : Value.ownBlock (.slice A3 (recvM out m).1.length c3) ≠ some w.heap.size := by
          rcases hz3 with h | h
          · rw [h]; exact hne
          · exact fun e => by have := h _ e; omega
        have hS3 := recv_srt (m := m) hS
        have hl3 := recv_len (m := m) hl30
        have HP3 := Lib.hid hp3
        have OWN3 := Lib.hid own3
        clear hp3 own3 ht3 hz3 x0 x1 x2 HQ2 OWN2 hS hl30
        by_cases hr : (recvM out m).2 = 0
        · have h4 := HNG.out
          rw [if_pos (by rw [H3.out]; exact hr)] at h4
          have H4 := Lib.hid (HG2.out.trans h4)
          rw [hr]
          clear hr h4 HNG H3 HG2
          generalize (recvM out m).1 = q at *
          go_wp2_with (fail)
          exact ⟨⟨k + 1, q, by omega, by go_num, A3, c3, H4.out, HP3.out, OWN3.out, hne3, hS3, hl3, hb3⟩, by simp [intOf]; omega⟩
        · have h4 := HNG.out
          rw [if_neg (by rw [H3.out]; exact hr), H3.out] at h4
          have H4 := Lib.hid (HCH.out.trans (HG2.out.trans h4))
          have hE1 : ((recvM out m).2 == 0) = false := by simpa using hr
          have hE2 : ((recvM out m).2 != 0) = true := by simpa using hr
          clear hr h4 HNG H3 HG2 HCH
          generalize (recvM out m).2 = E at *
          go_wp2_with (fail)
          go_ret3
          rw [H4.out]
          exact ⟨none, 0, rfl, RowsAt.nil, hb3⟩
      · have h3 := HST.out
        rw [if_neg hm] at h3
        have h4 := HNG.out
        rw [h3, if_neg hm] at h4
        have H4 := Lib.hid (HCH.out.trans (HG2.out.trans h4))
        have hE1 : (msgE m == 0) = false := by simpa using hm
        have hE2 : (msgE m != 0) = true := by simpa using hm
        clear h3 h4 HST HNG hm HG2 HCH HM
        generalize msgE m = E at *
        go_wp2_with (fail)
        go_ret3
        rw [H4.out]
        exact ⟨none, 0, rfl, RowsAt.nil, hbw2⟩
    · have hd : l.drop k = [] := List.drop_eq_nil_of_le (by omega)
      have h2 := HGO.out
      rw [hd, newGo] at h2
      have HB2 := Lib.hid (HCH.out.trans h2)
      have hA3 : MsgsAt wr A1 out := rowsAt_of_own OWN.out rfl (by decide)
      clear h2 hd HGO HCH
      go_wp2_with (fail)
      go_ret3
      rw [HB2.out]
      exact ⟨A1, c1, rfl, hA3, hbw⟩
end Go.Proofs.Ytcfbnmcdncndpaa
