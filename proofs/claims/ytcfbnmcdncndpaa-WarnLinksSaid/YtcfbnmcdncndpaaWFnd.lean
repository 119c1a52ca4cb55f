/-
  Chapter 8: where a message stands in a store (find, version).
-/
import Derived.Test.YtcfbnmcdncndpaaWStP
import Derived.WalkLawsBesides
import Derived.IntWalk
import Derived.Laws.Shifts
namespace Go.Proofs.Ytcfbnmcdncndpaa
open Go.ChangeShapes Go.WideShapes Go.ChangeAt Go.RowKit
set_option linter.unusedVariables false
set_option linter.unusedSimpArgs false

def msgC (m : Msg) (j : Nat) : Value := match j with
  | 0 => .string m.s
  | 1 => .int .i64 m.v
  | _ => .int .i64 m.l
abbrev MsgsAt := RowsAt 3 msgC
theorem MsgsAt.at_ {w : World} {A : Option Addr} {l : List Msg} (h : MsgsAt w A l) {k : Nat} (hk : k < l.length) :
    ∃ b off, A = some ⟨b, off, none⟩ ∧ b < w.heap.size ∧ w.cell? ⟨b, off + k * 3, none⟩ = some (.string l[k].s) ∧ w.cell? ⟨b, off + k * 3 + 1, none⟩ = some (.int .i64 l[k].v) ∧ w.cell? ⟨b, off + k * 3 + 2, none⟩ = some (.int .i64 l[k].l) := by
  obtain ⟨b, off, e, hb, hc⟩ := h k l[k] (List.getElem?_eq_getElem hk)
  exact ⟨b, off, e, hb, by simpa [msgC] using hc 0 (by omega), by simpa [msgC] using hc 1 (by omega), by simpa [msgC] using hc 2 (by omega)⟩
def cmpS (a b : ByteArray) : Int := if blt a b = true then -1 else if blt b a = true then 1 else 0
theorem cmpS_neg (a b : ByteArray) : decide (cmpS a b < 0) = blt a b := by
  unfold cmpS
  cases blt a b <;> cases blt b a <;> simp
theorem cmpS_zero (a b : ByteArray) : (cmpS a b == 0) = decide (a = b) := by
  unfold cmpS
  by_cases h : blt a b = true
  · rw [if_pos h, decide_eq_false (blt_ne h)]; rfl
  · rw [if_neg h]
    by_cases k : blt b a = true
    · rw [if_pos k, decide_eq_false (fun e => blt_ne k e.symm)]; rfl
    · rw [if_neg k, decide_eq_true (blt_tri (by simpa using h) (by simpa using k))]; rfl
theorem isNaN_any (a : ByteArray) (w : World) :
    Calls Try.prog 139 #[.string a] w fun e w' => e = .returned (.bool false) ∧ w = w' := by
  go_enter Try.func139, Try.ntmps139
  go_wp2
  go_ret
  exact ⟨rfl, rfl⟩
theorem CompareS_any (a b : ByteArray) (w : World) :
    Calls Try.prog 135 #[.string a, .string b] w fun e w' => e = .returned (.int .i64 (cmpS a b)) ∧ w = w' := by
  have hc : cmpS a b = if blt a b = true then -1 else if blt b a = true then 1 else 0 := rfl
  by_cases h : blt a b = true
  · rw [if_pos h] at hc
    have HC := Lib.hid hc
    clear hc
    have h1 : Op.bytesLess a.toList b.toList = true := h
    clear h
    go_enter Try.func135, Try.ntmps135
    go_wp2_with (go_at_call 139; refine (isNaN_any _ _).mono ?_; rintro e w' ⟨rfl, rfl⟩)
    go_ret
    exact ⟨ret_int HC.out.symm, rfl⟩
  · rw [if_neg h] at hc
    have h1 : Op.bytesLess a.toList b.toList = false := by
      have h0 : blt a b = false := by simpa using h
      exact h0
    by_cases k : blt b a = true
    · rw [if_pos k] at hc
      have HC := Lib.hid hc
      have h2 : (a.toList == b.toList) = false := by
        simp only [beq_eq_false_iff_ne]
        exact fun e => blt_ne k (toList_inj e).symm
      clear hc h k
      go_enter Try.func135, Try.ntmps135
      go_wp2_with (go_at_call 139; refine (isNaN_any _ _).mono ?_; rintro e w' ⟨rfl, rfl⟩)
      go_ret
      exact ⟨ret_int HC.out.symm, rfl⟩
    · rw [if_neg k] at hc
      have HC := Lib.hid hc
      have h2 : (a.toList == b.toList) = true := by
        have h0 : blt a b = false := by simpa using h
        have k0 : blt b a = false := by simpa using k
        rw [blt_tri h0 k0]; simp
      clear hc h k
      go_enter Try.func135, Try.ntmps135
      go_wp2_with (go_at_call 139; refine (isNaN_any _ _).mono ?_; rintro e w' ⟨rfl, rfl⟩)
      go_ret
      exact ⟨ret_int HC.out.symm, rfl⟩
theorem find1_any (m : Msg) (s : ByteArray) (w : World) :
    Calls Try.prog 134 #[.agg #[.string m.s, .int .i64 m.v, .int .i64 m.l], .string s] w fun e w' => e = .returned (.int .i64 (cmpS m.s s)) ∧ Below w.heap.size w w' := by
  go_enter Try.func134, Try.ntmps134
  go_wp2_with (go_at_call 135; refine (CompareS_any _ _ _).mono ?_; rintro e w' ⟨rfl, rfl⟩)
  go_ret
  exact ⟨rfl, (by repeat (first | assumption | exact Below.refl _ _ | refine Below.drew ?_ | (refine below_alloc _ ?_ ?_; focus (first | omega | (simp; done) | (simp; omega) | (simp at *; omega))) | (refine below_set _ ?_ ?_; focus (first | omega | (simp; done) | (simp; omega) | (simp at *; omega))) | refine below_drewN ?_ _ | (refine below_call (by assumption) ?_ ?_; focus (first | omega | (simp; done) | (simp; omega) | (simp at *; omega))) | (refine below_call' (by assumption) ?_ ?_; focus (first | omega | (simp; done) | (simp; omega) | (simp at *; omega)))))⟩
/-- the search's state: what is behind it is less, what is ahead of it is not -/
def Btw (l : List Msg) (s : ByteArray) (lo hi : Nat) : Prop := (∀ t x, l[t]? = some x → t < lo → blt x.s s = true) ∧ (∀ t x, l[t]? = some x → hi ≤ t → blt x.s s = false)
theorem Btw.up {l : List Msg} {s : ByteArray} {lo hi k : Nat} (h : Btw l s lo hi) (hS : Srt l) {x : Msg} (hx : l[k]? = some x) (hb : blt x.s s = true) : Btw l s (k + 1) hi :=
  ⟨fun t y hy ht => srt_mono hS hy hx (by omega) hb, h.2⟩
theorem Btw.down {l : List Msg} {s : ByteArray} {lo hi k : Nat} (h : Btw l s lo hi) (hS : Srt l) {x : Msg} (hx : l[k]? = some x) (hb : blt x.s s = false) : Btw l s lo k :=
  ⟨h.1, fun t y hy ht => by
    cases hc : blt y.s s
    · rfl
    · rw [srt_mono hS hx hy ht hc] at hb; cases hb⟩
theorem Btw.pos {l : List Msg} {s : ByteArray} {i : Nat} (h : Btw l s i i) (hi : i ≤ l.length) : posM l s = i := pos_eq l i hi h.1 h.2

set_option maxHeartbeats 1000000 in
theorem BinS_any (A : Option Addr) (l : List Msg) (cap : Nat) (s : ByteArray) (w : World) (hl : l.length ≤ 100) (hS : Srt l) (hA : MsgsAt w A l) :
    Calls Try.prog 133 #[.slice A l.length cap, .string s, .func (.func 134) #[] #[]] w fun e w' => e = .returned (.tuple #[.int .i64 (posM l s), .bool (hasM l s)]) ∧ Below w.heap.size w w' := by
  go_enter Try.func133, Try.ntmps133
  go_wp2
  go_loopw [9, 10] (fun i j wr => ∃ lo hi : Nat, i = .int .i64 lo ∧ j = .int .i64 hi ∧ lo ≤ hi ∧ hi ≤ l.length ∧ Btw l s lo hi ∧ Below w.heap.size w wr) (fun i j _ => ((intOf j) - (intOf i)).toNat)
  case atStart => exact ⟨0, l.length, rfl, rfl, Nat.zero_le _, Nat.le_refl _, ⟨fun t x _ h => by omega, fun t x hx h => by have := (List.getElem?_eq_some_iff.1 hx).1; omega⟩, Below.refl _ _⟩
  case round =>
    obtain ⟨lo, hi, rfl, rfl, hlh, hin, hB, hbw⟩ := hrel
    have hAr := hA.below hbw
    by_cases hlt : lo < hi
    · have hm : (lo + hi) / 2 < l.length := by omega
      have hx := List.getElem?_eq_getElem hm
      obtain ⟨b, off, rfl, hb, c0, c1, c2⟩ := MsgsAt.at_ hAr hm
      have hneg := cmpS_neg (l[(lo + hi) / 2]).s s
      cases hc : blt (l[(lo + hi) / 2]).s s
      · rw [hc] at hneg
        have hB2 := hB.down hS hx hc
        have HX := Lib.hid hx
        clear hx hc hB
        generalize l[(lo + hi) / 2] = x at *
        go_wp2_with (go_at_call 134; refine (find1_any x s _).mono ?_; rintro e w1 ⟨rfl, hb1⟩)
        exact ⟨⟨lo, (lo + hi) / 2, rfl, by rw [show ((lo : Int) + (hi : Int)) / 2 = (((lo + hi) / 2 : Nat) : Int) by omega], by omega, by omega, hB2, hbw.trans (hb1.mono hbw.size)⟩, by simp [intOf]; omega⟩
      · rw [hc] at hneg
        have hB2 := hB.up hS hx hc
        have HX := Lib.hid hx
        clear hx hc hB
        generalize l[(lo + hi) / 2] = x at *
        go_wp2_with (go_at_call 134; refine (find1_any x s _).mono ?_; rintro e w1 ⟨rfl, hb1⟩)
        exact ⟨⟨(lo + hi) / 2 + 1, hi, by rw [show ((lo : Int) + (hi : Int)) / 2 + 1 = (((lo + hi) / 2 + 1 : Nat) : Int) by omega], rfl, by omega, hin, hB2, hbw.trans (hb1.mono hbw.size)⟩, by simp [intOf]; omega⟩
    · obtain rfl : lo = hi := by omega
      have hp := hB.pos hin
      have hh : hasM l s = match l[posM l s]? with | some x => decide (x.s = s) | none => false := rfl
      rw [hp] at hh
      have HP := Lib.hid hp
      clear hp
      by_cases hn : lo < l.length
      · have hx := List.getElem?_eq_getElem hn
        obtain ⟨b, off, rfl, hb, c0, c1, c2⟩ := MsgsAt.at_ hAr hn
        rw [hx] at hh
        simp only at hh
        rw [← cmpS_zero] at hh
        have HH := Lib.hid hh
        clear hh hx hB
        generalize l[lo] = x at *
        go_wp2_with (go_at_call 134; refine (find1_any x s _).mono ?_; rintro e w1 ⟨rfl, hb1⟩)
        go_ret2
        exact ⟨by rw [HP.out, HH.out] <;> rfl, hbw.trans (hb1.mono hbw.size)⟩
      · have hx : l[lo]? = none := List.getElem?_eq_none (by omega)
        rw [hx] at hh
        have HH := Lib.hid hh
        clear hh hx hB
        go_wp2
        go_ret2
        exact ⟨by rw [HP.out, HH.out] <;> rfl, hbw⟩
theorem find_any (A : Option Addr) (l : List Msg) (cap : Nat) (s : ByteArray) (w : World) (hl : l.length ≤ 100) (hS : Srt l) (hA : MsgsAt w A l) :
    Calls Try.prog 126 #[.slice A l.length cap, .string s] w fun e w' => e = .returned (.tuple #[.int .i64 (posM l s), .bool (hasM l s)]) ∧ Below w.heap.size w w' := by
  go_enter Try.func126, Try.ntmps126
  go_wp2_with (fail)
  refine (BinS_any A l cap s _ hl hS hA).mono ?_
  rintro e w1 ⟨rfl, hb1⟩
  go_wp2
  go_ret2
  exact ⟨rfl, hb1⟩
theorem version_any (A : Option Addr) (l : List Msg) (cap : Nat) (s : ByteArray) (w : World) (hl : l.length ≤ 100) (hS : Srt l) (hA : MsgsAt w A l) :
    Calls Try.prog 102 #[.slice A l.length cap, .string s] w fun e w' => e = .returned (.int .i64 (verM l s)) ∧ Below w.heap.size w w' := by
  have hv : verM l s = match l[posM l s]? with | some x => if x.s = s then x.v else 0 | none => 0 := rfl
  cases hh : hasM l s
  · have hv0 : verM l s = 0 := by
      rw [hv]
      unfold hasM at hh
      cases hx : l[posM l s]? with
      | none => rfl
      | some x => rw [hx] at hh; simp only at hh ⊢; rw [if_neg (by simpa using hh)]
    have HV := Lib.hid hv0
    have HH := Lib.hid hh
    clear hv hv0 hh
    go_enter Try.func102, Try.ntmps102
    go_wp2_with (fail)
    refine (find_any A l cap s _ hl hS hA).mono ?_
    rintro e w1 ⟨rfl, hb1⟩
    rw [HH.out]
    go_wp2
    go_ret
    exact ⟨ret_int HV.out.symm, hb1⟩
  · obtain ⟨x, hx, he⟩ := has_true hh
    rw [hx] at hv
    simp only [if_pos he] at hv
    have hp := (List.getElem?_eq_some_iff.1 hx).1
    have HV := Lib.hid hv
    have HH := Lib.hid hh
    have HX := Lib.hid hx
    clear hv hh hx he
    go_enter Try.func102, Try.ntmps102
    go_wp2_with (fail)
    refine (find_any A l cap s _ hl hS hA).mono ?_
    rintro e w1 ⟨rfl, hb1⟩
    rw [HH.out]
    obtain ⟨b, off, rfl, hb, c0, c1, c2⟩ := MsgsAt.at_ (hA.below hb1) hp
    have hx := HX.out
    rw [List.getElem?_eq_getElem hp] at hx
    rw [Option.some.inj hx] at c0 c1 c2
    clear hx
    generalize posM l s = p at *
    go_wp2
    go_ret
    exact ⟨ret_int HV.out.symm, hb1⟩
end Go.Proofs.Ytcfbnmcdncndpaa
