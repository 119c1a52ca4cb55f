/-
  Chapter 8: short names; the reference's Newest.
-/
import Derived.Test.YtcfbnmcdncndpaaWRrc
import Derived.Test.YtcfbnmcdncndpaaWRcR
namespace Go.Proofs.Ytcfbnmcdncndpaa
open Go.ChangeShapes Go.WideShapes Go.ChangeAt Go.RowKit
set_option linter.unusedVariables false
set_option linter.unusedSimpArgs false

def shortM (l : List Msg) : Bool := l.all fun m => decide (m.s.size ≤ 30)
theorem shortM_true {l : List Msg} (h : shortM l = true) : ∀ m ∈ l, m.s.size ≤ 30 := fun m hm => by
  unfold shortM at h
  rw [List.all_eq_true] at h
  simpa using h m hm
theorem shortM_cons (m : Msg) (r : List Msg) : shortM (m :: r) = (decide (m.s.size ≤ 30) && shortM r) := rfl
theorem shortNames_any (A : Option Addr) (l : List Msg) (cap : Nat) (w : World) (hl : l.length ≤ 1000) (hA : MsgsAt w A l) :
    Calls Try.prog 52 #[.slice A l.length cap] w fun e w' => e = .returned (.bool (shortM l)) ∧ w = w' := by
  go_enter Try.func52, Try.ntmps52
  go_wp2
  go_loop [3] (fun i => ∃ k : Nat, k ≤ l.length ∧ i = .int .i64 k ∧ shortM l = shortM (l.drop k)) (fun i => l.length - (intOf i).toNat)
  case atStart => exact ⟨0, Nat.zero_le _, rfl, rfl⟩
  case round =>
    obtain ⟨k, hk, rfl, he⟩ := hrel
    have H := Lib.hid he
    clear he
    by_cases hlt : k < l.length
    · have hd : l.drop k = l[k] :: l.drop (k + 1) := List.drop_eq_getElem_cons hlt
      rw [hd, shortM_cons] at H
      clear hd
      obtain ⟨b1, o1, rfl, hb1, c0, c1, c2⟩ := MsgsAt.at_ hA hlt
      generalize l[k] = x at *
      by_cases hx : x.s.size ≤ 30
      · have hx2 : decide ((30 : Int) < (x.s.size : Int)) = false := by simp; omega
        rw [show decide (x.s.size ≤ 30) = true by simpa using hx, Bool.true_and] at H
        clear hx
        go_wp2
        go_round
        case rel => exact ⟨k + 1, by omega, by go_num, H.out⟩
        case measure => simp [intOf]; omega
      · have hx2 : decide ((30 : Int) < (x.s.size : Int)) = true := by simp; omega
        rw [show decide (x.s.size ≤ 30) = false by simpa using hx, Bool.false_and] at H
        clear hx
        go_wp2
        go_ret
        exact ⟨ret_bool H.out.symm, rfl⟩
    · have e : l.drop k = [] := List.drop_eq_nil_of_le (by omega)
      rw [e] at H
      clear e
      go_wp2
      go_ret
      exact ⟨ret_bool H.out.symm, rfl⟩
def RNewI (w : World) (l : List Msg) (out i : Value) (wr : World) : Prop :=
  ∃ (k : Nat) (A' : Option Addr) (o : List Msg) (c' : Nat), k ≤ l.length ∧ i = .int .i64 k ∧ out = .slice A' o.length c' ∧ Below w.heap.size w wr ∧ MsgsAt wr A' o ∧ Srt o ∧ o.length ≤ 30 ∧ newGo l [] 0 = newGo (l.drop k) o k
set_option maxRecDepth 100000 in
set_option maxHeartbeats 4000000 in
theorem RNewest_any (A : Option Addr) (l : List Msg) (cap : Nat) (w : World) (hl : l.length ≤ 300) (hA : MsgsAt w A l) :
    Calls Try.prog 64 #[.slice A l.length cap] w (StoreE3 (newest l) w) := by
  have hch : newest l = if 200 < l.length then ([], 0, 8) else newGo l [] 0 := rfl
  by_cases hlen : 200 < l.length
  · rw [if_pos hlen] at hch
    have HCH := Lib.hid hch
    have h1 : decide ((200 : Int) < (l.length : Int)) = true := by simp; omega
    clear hch hlen
    go_enter Try.func64, Try.ntmps64
    go_wp2
    go_ret3
    rw [HCH.out]
    exact ⟨none, 0, rfl, RowsAt.nil, Below.refl _ _⟩
  rw [if_neg hlen] at hch
  have HCH := Lib.hid hch
  have h1 : decide ((200 : Int) < (l.length : Int)) = false := by simp; omega
  clear hch hlen
  go_enter Try.func64, Try.ntmps64
  go_wp2
  go_loopw [5, 6] (fun o i wr => RNewI w l o i wr) (fun _ i _ => l.length - (intOf i).toNat)
  case atStart => exact ⟨0, none, [], 0, Nat.zero_le _, rfl, rfl, Below.refl _ _, RowsAt.nil, List.Pairwise.nil, by simp, rfl⟩
  case round =>
    obtain ⟨k, A', o, c', hk, rfl, rfl, hbw, hO, hsrt, ho30, he⟩ := hrel
    have H := Lib.hid he
    have HS := Lib.hid hsrt
    clear he hsrt
    by_cases hlt : k < l.length
    · have hd : l.drop k = l[k] :: l.drop (k + 1) := List.drop_eq_getElem_cons hlt
      rw [hd] at H
      clear hd
      obtain ⟨b1, o1, rfl, hb1, c0, c1, c2⟩ := MsgsAt.at_ (RowsAt.below hA hbw) hlt
      generalize l[k] = x at *
      have hq : rcv o x = if stepE o x = 0 then ((recvM o x).1, 0) else ([], stepE o x) := rfl
      have HR := Lib.hid (RReceived_any A' o c' x wr ho30 HS.out hO)
      have HSR := Lib.hid (recv_srt (m := x) HS.out)
      have hlr := recv_len (m := x) ho30
      by_cases hx : stepE o x = 0
      · have hg : newGo (x :: l.drop (k + 1)) o k = newGo (l.drop (k + 1)) (recvM o x).1 (k + 1) := by rw [newGo, if_pos hx]
        rw [hg] at H
        rw [if_pos hx] at hq
        rw [hq] at HR
        clear hq hg hx
        generalize (recvM o x).1 = o2 at *
        go_wp2_with (fail)
        refine HR.out.mono ?_
        rintro e w2 ⟨A2, cc2, rfl, hM2, hb2⟩
        have hbw2 := hbw.trans (hb2.mono hbw.size)
        clear HR hb2
        simp only at hM2
        go_wp2_with (fail)
        go_roundw
        case rel => exact ⟨k + 1, A2, o2, cc2, by omega, by go_num, rfl, hbw2, hM2, HSR.out, hlr, H.out⟩
        case measure => simp [intOf]; omega
      · have hg : newGo (x :: l.drop (k + 1)) o k = ([], (k : Int), stepE o x) := by rw [newGo, if_neg hx]
        rw [hg] at H
        rw [if_neg hx] at hq
        rw [hq] at HR
        have e1 : (stepE o x != 0) = true := by simpa using hx
        clear hq hg hx
        generalize stepE o x = E at *
        go_wp2_with (fail)
        refine HR.out.mono ?_
        rintro e w2 ⟨A2, cc2, rfl, hM2, hb2⟩
        have hbw2 := hbw.trans (hb2.mono hbw.size)
        clear HR hb2 hM2
        go_wp2_with (fail)
        go_ret3
        rw [HCH.out, H.out]
        exact ⟨none, 0, rfl, RowsAt.nil, hbw2⟩
    · have e : l.drop k = [] := List.drop_eq_nil_of_le (by omega)
      rw [e] at H
      have hg : newGo [] o k = (o, 0, 0) := rfl
      rw [hg] at H
      clear e hg
      go_wp2_with (fail)
      go_ret3
      rw [HCH.out, H.out]
      exact ⟨A', c', rfl, hO, hbw⟩
end Go.Proofs.Ytcfbnmcdncndpaa
