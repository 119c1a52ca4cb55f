/-
  The trace of a profile: the program's and the reference's.
-/
import Derived.Test.YtoegpaolbkcleaaAwk
namespace Go.Proofs.Ytoegpaolbkcleaa
open Go.ChangeShapes Go.WideShapes Go.ChangeAt Go.RowKit
set_option linter.unusedVariables false
set_option linter.unusedSimpArgs false
attribute [local go_sem] field_lo field_hi

abbrev IntsAt := RowsAt 1 (fun (x : Int) _ => Value.int .i64 x)
theorem IntsAt.at_ {w : World} {A : Option Addr} {l : List Int} (h : IntsAt w A l) {k : Nat} (hk : k < l.length) :
    ∃ b off, A = some ⟨b, off, none⟩ ∧ b < w.heap.size ∧ w.cell? ⟨b, off + k, none⟩ = some (.int .i64 l[k]) := by
  obtain ⟨b, off, e, hb, hc⟩ := h k l[k] (List.getElem?_eq_getElem hk)
  exact ⟨b, off, e, hb, by have := hc 0 (by omega); simpa using this⟩
theorem ptC_one (x : Pt) (i : Nat) : (ptC x i).oneCell' = true := by
  unfold ptC; split <;> rfl
def trE (base : Int) (sl : List Slb) (last f : Int) : Int :=
  if firstE [unl (withinB f 1 3000) 2, unl (decide (last < f)) 9] ≠ 0 then firstE [unl (withinB f 1 3000) 2, unl (decide (last < f)) 9]
  else if (refl base sl f).2 < 0 then 21 else if 20000 < virtHi base sl f (refl base sl f).2.toNat then 22 else 0
def trP (base : Int) (sl : List Slb) (f : Int) : Pt := ⟨f, virtLo base sl f (refl base sl f).2.toNat, virtHi base sl f (refl base sl f).2.toNat⟩
def trGo (base : Int) (sl : List Slb) : List Int → Nat → Int → List Pt → List Pt × Int × Int
  | [], _, _, out => (out, 0, 0)
  | f :: r, i, last, out => if trE base sl last f ≠ 0 then ([], (i : Int), trE base sl last f) else trGo base sl r (i + 1) f (out ++ [trP base sl f])
def trE0 (base : Int) (sl : List Slb) (n : Nat) : Int := firstE [chkE base sl, unl (decide (0 < n)) 10, unl (decide ((n : Int) ≤ 8)) 8]
def tof (base : Int) (sl : List Slb) (fl : List Int) : List Pt × Int × Int := if trE0 base sl fl.length ≠ 0 then ([], 0, trE0 base sl fl.length) else trGo base sl fl 0 0 []
def TofPost (q : List Pt × Int × Int) (w : World) (e : Ending) (w' : World) : Prop :=
  ∃ A' c', e = .returned (.tuple #[.agg #[.slice A' q.1.length c', .int .i64 0, .int .i64 0], .int .i64 q.2.1, .int .i64 q.2.2]) ∧ w'.ownsRow w.heap.size 75 3 (.slice A' q.1.length c') q.1.length (cellsOf 3 ptC q.1) ∧ Below w.heap.size w w'

set_option maxRecDepth 100000 in
set_option maxHeartbeats 2000000 in
theorem TraceOf_any (base : Int) (A : Option Addr) (sl : List Slb) (cap : Nat) (B : Option Addr) (fl : List Int) (capB : Nat) (w : World) (hl : sl.length ≤ 100) (hcap : sl.length ≤ cap) (hfl : fl.length ≤ 100) (hA : SlabsAt w A sl) (hB : IntsAt w B fl) :
    Calls Try.prog 38 #[.agg #[.int .i64 base, .slice A sl.length cap], .slice B fl.length capB] w (TofPost (tof base sl fl) w) := by
  have h1 : trE0 base sl fl.length = firstE [chkE base sl, unl (decide (0 < fl.length)) 10, unl (decide ((fl.length : Int) ≤ 8)) 8] := rfl
  have h2 : tof base sl fl = if trE0 base sl fl.length ≠ 0 then ([], 0, trE0 base sl fl.length) else trGo base sl fl 0 0 [] := rfl
  have H1 := Lib.hid h1
  have H2 := Lib.hid h2
  clear h1 h2
  go_enter Try.func38, Try.ntmps38
  go_wp2_with (fail)
  refine (open_any base A sl cap _ hl (hA.below (by repeat (first | assumption | exact Below.refl _ _ | refine Below.drew ?_ | (refine below_alloc _ ?_ ?_; focus (first | omega | (simp; done) | (simp; omega) | (simp at *; omega))) | (refine below_set _ ?_ ?_; focus (first | omega | (simp; done) | (simp; omega) | (simp at *; omega))) | refine below_drewN ?_ _ | (refine below_call (by assumption) ?_ ?_; focus (first | omega | (simp; done) | (simp; omega) | (simp at *; omega))) | (refine below_call' (by assumption) ?_ ?_; focus (first | omega | (simp; done) | (simp; omega) | (simp at *; omega))))))).mono ?_
  rintro e w1 ⟨rfl, hb1⟩
  have hbw1 : Below w.heap.size w w1 := (by repeat (first | assumption | exact Below.refl _ _ | refine Below.drew ?_ | (refine below_alloc _ ?_ ?_; focus (first | omega | (simp; done) | (simp; omega) | (simp at *; omega))) | (refine below_set _ ?_ ?_; focus (first | omega | (simp; done) | (simp; omega) | (simp at *; omega))) | refine below_drewN ?_ _ | (refine below_call (by assumption) ?_ ?_; focus (first | omega | (simp; done) | (simp; omega) | (simp at *; omega))) | (refine below_call' (by assumption) ?_ ?_; focus (first | omega | (simp; done) | (simp; omega) | (simp at *; omega)))))
  have hA1 := hA.below hbw1
  have hB1 := hB.below hbw1
  have hz1 : w.heap.size + 1 < w1.heap.size := by have := hb1.size; simp at this; omega
  have hz0 : w.heap.size < w1.heap.size := by omega
  have c0 : w1.cell? ⟨w.heap.size + 1, 0, none⟩ = some (.slice none 0 0) := cell_below' hb1 (by repeat (first | assumption | (refine cell_new ?_ rfl; focus (simp; done)) | refine cell_drew ?_ | refine cell_alloc _ ?_ | refine cell_drewN _ ?_ | (refine cell_far ?_ ?_; focus (first | omega | (simp; omega) | (simp; done))) | refine cell_below' (by assumption) ?_))
  have c1 : w1.cell? ⟨w.heap.size + 1, 1, none⟩ = some (.int .i64 0) := cell_below' hb1 (by repeat (first | assumption | (refine cell_new ?_ rfl; focus (simp; done)) | refine cell_drew ?_ | refine cell_alloc _ ?_ | refine cell_drewN _ ?_ | (refine cell_far ?_ ?_; focus (first | omega | (simp; omega) | (simp; done))) | refine cell_below' (by assumption) ?_))
  have c2 : w1.cell? ⟨w.heap.size + 1, 2, none⟩ = some (.int .i64 0) := cell_below' hb1 (by repeat (first | assumption | (refine cell_new ?_ rfl; focus (simp; done)) | refine cell_drew ?_ | refine cell_alloc _ ?_ | refine cell_drewN _ ?_ | (refine cell_far ?_ ?_; focus (first | omega | (simp; omega) | (simp; done))) | refine cell_below' (by assumption) ?_))
  have g0 : w1.frozen? ⟨w.heap.size + 1, 0, none⟩ = false := frozen_below hb1 (by simp) (by repeat (first | assumption | (refine frozen_new ?_; focus (simp; done)) | refine frozen_drew ?_ | (refine frozen_alloc _ ?_ ?_; focus (first | (simp; done) | (simp; omega))) | refine frozen_drewN _ ?_ | refine frozen_set _ _ ?_ | (refine frozen_below (by assumption) ?_ ?_; focus (first | (simp; done) | (simp; omega)))))
  have g1 : w1.frozen? ⟨w.heap.size + 1, 1, none⟩ = false := frozen_below hb1 (by simp) (by repeat (first | assumption | (refine frozen_new ?_; focus (simp; done)) | refine frozen_drew ?_ | (refine frozen_alloc _ ?_ ?_; focus (first | (simp; done) | (simp; omega))) | refine frozen_drewN _ ?_ | refine frozen_set _ _ ?_ | (refine frozen_below (by assumption) ?_ ?_; focus (first | (simp; done) | (simp; omega)))))
  have g2 : w1.frozen? ⟨w.heap.size + 1, 2, none⟩ = false := frozen_below hb1 (by simp) (by repeat (first | assumption | (refine frozen_new ?_; focus (simp; done)) | refine frozen_drew ?_ | (refine frozen_alloc _ ?_ ?_; focus (first | (simp; done) | (simp; omega))) | refine frozen_drewN _ ?_ | refine frozen_set _ _ ?_ | (refine frozen_below (by assumption) ?_ ?_; focus (first | (simp; done) | (simp; omega)))))
  go_wp2_with (first | (go_at_call 74; refine (unless_any _ _ _).mono ?_; rintro e w' ⟨rfl, rfl⟩))
  refine (first3 (chkE base sl) (unl (decide (0 < fl.length)) 10) (unl (decide ((fl.length : Int) ≤ 8)) 8) _ _ (by simp) (by repeat (first | assumption | (refine cell_new ?_ rfl; focus (simp; done)) | refine cell_drew ?_ | refine cell_alloc _ ?_ | refine cell_drewN _ ?_ | (refine cell_far ?_ ?_; focus (first | omega | (simp; omega) | (simp; done))) | refine cell_below' (by assumption) ?_)) (by repeat (first | assumption | (refine cell_new ?_ rfl; focus (simp; done)) | refine cell_drew ?_ | refine cell_alloc _ ?_ | refine cell_drewN _ ?_ | (refine cell_far ?_ ?_; focus (first | omega | (simp; omega) | (simp; done))) | refine cell_below' (by assumption) ?_)) (by repeat (first | assumption | (refine cell_new ?_ rfl; focus (simp; done)) | refine cell_drew ?_ | refine cell_alloc _ ?_ | refine cell_drewN _ ?_ | (refine cell_far ?_ ?_; focus (first | omega | (simp; omega) | (simp; done))) | refine cell_below' (by assumption) ?_))).mono ?_
  rintro e w2 ⟨rfl, rfl⟩
  rw [← H1.out]
  by_cases h0 : trE0 base sl fl.length = 0
  · have h00 := h0
    unfold trE0 at h00
    rw [firstE3, unl_zero (by decide), unl_zero (by decide), decide_eq_true_eq, decide_eq_true_eq] at h00
    obtain ⟨h01, hn0, hn1⟩ := h00
    have HO := Lib.hid (ok_of_chk h01)
    rw [if_neg (by simp [h0])] at H2
    rw [h0]
    clear h01 h0 H1
    have hzA : w.heap.size < w1.heap.size + 1 := by omega
    have hzB : w.heap.size < w1.heap.size + 1 + 1 := by omega
    go_wp2
    have hv : ((w1.alloc (.cells #[.int .i64 base, .slice A sl.length cap] 113)).alloc (.cells #[.int .i64 (chkE base sl), .int .i64 (unl true 10), .int .i64 (unl true 8)] 27)).heap.size = w1.heap.size + 1 + 1 := by simp
    have hbV : Below w1.heap.size w1 ((w1.alloc (.cells #[.int .i64 base, .slice A sl.length cap] 113)).alloc (.cells #[.int .i64 (chkE base sl), .int .i64 (unl true 10), .int .i64 (unl true 8)] 27)) := (by repeat (first | assumption | exact Below.refl _ _ | refine Below.drew ?_ | (refine below_alloc _ ?_ ?_; focus (first | omega | (simp; done) | (simp; omega) | (simp at *; omega))) | (refine below_set _ ?_ ?_; focus (first | omega | (simp; done) | (simp; omega) | (simp at *; omega))) | refine below_drewN ?_ _ | (refine below_call (by assumption) ?_ ?_; focus (first | omega | (simp; done) | (simp; omega) | (simp at *; omega))) | (refine below_call' (by assumption) ?_ ?_; focus (first | omega | (simp; done) | (simp; omega) | (simp at *; omega)))))
    have K0 : ((w1.alloc (.cells #[.int .i64 base, .slice A sl.length cap] 113)).alloc (.cells #[.int .i64 (chkE base sl), .int .i64 (unl true 10), .int .i64 (unl true 8)] 27)).cell? ⟨w1.heap.size, 0, none⟩ = some (.int .i64 base) := cell_alloc _ (cell_new rfl rfl)
    have K1 : ((w1.alloc (.cells #[.int .i64 base, .slice A sl.length cap] 113)).alloc (.cells #[.int .i64 (chkE base sl), .int .i64 (unl true 10), .int .i64 (unl true 8)] 27)).cell? ⟨w1.heap.size, 1, none⟩ = some (.slice A sl.length cap) := cell_alloc _ (cell_new rfl rfl)
    rw [← hv]
    generalize ((w1.alloc (.cells #[.int .i64 base, .slice A sl.length cap] 113)).alloc (.cells #[.int .i64 (chkE base sl), .int .i64 (unl true 10), .int .i64 (unl true 8)] 27)) = v1 at *
    have hs5 : w1.heap.size < v1.heap.size := by omega
    have hs6 : w.heap.size < v1.heap.size := by omega
    have hs7 : w.heap.size + 1 < v1.heap.size := by omega
    have C0 := cell_below' hbV c0
    have C1 := cell_below' hbV c1
    have C2 := cell_below' hbV c2
    have G0 := frozen_below hbV (show _ from hz1) g0
    have G1 := frozen_below hbV (show _ from hz1) g1
    have G2 := frozen_below hbV (show _ from hz1) g2
    have AV := hA1.below hbV
    have BV := hB1.below hbV
    have hbw2 : Below w.heap.size w v1 := (by repeat (first | assumption | exact Below.refl _ _ | refine Below.drew ?_ | (refine below_alloc _ ?_ ?_; focus (first | omega | (simp; done) | (simp; omega) | (simp at *; omega))) | (refine below_set _ ?_ ?_; focus (first | omega | (simp; done) | (simp; omega) | (simp at *; omega))) | refine below_drewN ?_ _ | (refine below_call (by assumption) ?_ ?_; focus (first | omega | (simp; done) | (simp; omega) | (simp at *; omega))) | (refine below_call' (by assumption) ?_ ?_; focus (first | omega | (simp; done) | (simp; omega) | (simp at *; omega)))))
    clear c0 c1 c2 g0 g1 g2 hA1 hB1 hzA hzB hv hb1 hbw1 hA hB
    go_loopw [10, 39] (fun a i wr => ∃ (k : Nat) (last : Int) (out : List Pt) (A' : Option Addr) (c' : Nat), k ≤ fl.length ∧ i = .int .i64 k ∧ a = .int .i64 last ∧ out.length = k ∧ trGo base sl fl 0 0 [] = trGo base sl (fl.drop k) k last out ∧ wr.cell? ⟨v1.heap.size, 0, none⟩ = some (.slice A' k c') ∧ wr.cell? ⟨v1.heap.size, 1, none⟩ = some (.int .i64 0) ∧ wr.cell? ⟨v1.heap.size, 2, none⟩ = some (.int .i64 0) ∧ wr.frozen? ⟨v1.heap.size, 0, none⟩ = false ∧ wr.ownsRow (v1.heap.size + 1) 75 3 (.slice A' k c') k (cellsOf 3 ptC out) ∧ Below v1.heap.size v1 wr ∧ v1.heap.size < wr.heap.size) (fun _ i _ => fl.length - (intOf i).toNat)
    case atStart => exact ⟨0, 0, [], none, 0, Nat.zero_le _, rfl, rfl, rfl, rfl, cell_new rfl rfl, cell_new rfl rfl, cell_new rfl rfl, frozen_new rfl, World.ownsRow_nil _ _ _ _, (by repeat (first | assumption | exact Below.refl _ _ | refine Below.drew ?_ | (refine below_alloc _ ?_ ?_; focus (first | omega | (simp; done) | (simp; omega) | (simp at *; omega))) | (refine below_set _ ?_ ?_; focus (first | omega | (simp; done) | (simp; omega) | (simp at *; omega))) | refine below_drewN ?_ _ | (refine below_call (by assumption) ?_ ?_; focus (first | omega | (simp; done) | (simp; omega) | (simp at *; omega))) | (refine below_call' (by assumption) ?_ ?_; focus (first | omega | (simp; done) | (simp; omega) | (simp at *; omega))))), by simp⟩
    case round =>
      obtain ⟨k, last, out, A', c', hk, rfl, rfl, hlen, hfit, s0, s1, s2, sf, hown, hbw, hsz⟩ := hrel
      have HM := Lib.hid hfit
      have HLEN := Lib.hid hlen
      clear hfit hlen
      (have c0 := cell_below' hbw C0; have c1 := cell_below' hbw C1; have c2 := cell_below' hbw C2; have g0 := frozen_below hbw (show _ from hs7) G0; have g1 := frozen_below hbw (show _ from hs7) G1; have g2 := frozen_below hbw (show _ from hs7) G2; have k0 := cell_below' hbw K0; have k1 := cell_below' hbw K1; have hA1 := RowsAt.below AV hbw; have hB1 := RowsAt.below BV hbw)
      have hs8 : w1.heap.size < wr.heap.size := by omega
      have hs9 : w.heap.size < wr.heap.size := by omega
      have hs10 : w.heap.size + 1 < wr.heap.size := by omega
      by_cases hlt : k < fl.length
      · obtain ⟨bb, oo, rfl, hbb, e0⟩ := IntsAt.at_ hB1 hlt
        have hd : fl.drop k = fl[k] :: fl.drop (k + 1) := List.drop_eq_getElem_cons hlt
        rw [hd, trGo] at HM
        clear hd
        generalize fl[k] = f at *
        have ht : trE base sl last f = if firstE [unl (withinB f 1 3000) 2, unl (decide (last < f)) 9] ≠ 0 then firstE [unl (withinB f 1 3000) 2, unl (decide (last < f)) 9] else if (refl base sl f).2 < 0 then 21 else if 20000 < virtHi base sl f (refl base sl f).2.toNat then 22 else 0 := rfl
        have HT := Lib.hid ht
        clear ht
        go_wp2_with (first | (go_at_call 74; refine (unless_any _ _ _).mono ?_; rintro e w' ⟨rfl, rfl⟩) | (go_at_call 69; refine (frequencyErr_any _ _).mono ?_; rintro e w' ⟨rfl, rfl⟩))
        refine (first2 (unl (withinB f 1 3000) 2) (unl (decide (last < f)) 9) _ _ (by simp) (by repeat (first | assumption | (refine cell_new ?_ rfl; focus (simp; done)) | refine cell_drew ?_ | refine cell_alloc _ ?_ | refine cell_drewN _ ?_ | (refine cell_far ?_ ?_; focus (first | omega | (simp; omega) | (simp; done))) | refine cell_below' (by assumption) ?_)) (by repeat (first | assumption | (refine cell_new ?_ rfl; focus (simp; done)) | refine cell_drew ?_ | refine cell_alloc _ ?_ | refine cell_drewN _ ?_ | (refine cell_far ?_ ?_; focus (first | omega | (simp; omega) | (simp; done))) | refine cell_below' (by assumption) ?_))).mono ?_
        rintro e w2 ⟨rfl, rfl⟩
        by_cases h0 : firstE [unl (withinB f 1 3000) 2, unl (decide (last < f)) 9] = 0
        · rw [if_neg (by simp [h0])] at HT
          have h00 := h0
          rw [firstE2, unl_zero (by decide), withinB_true] at h00
          obtain ⟨⟨f0, f1⟩, _⟩ := h00
          rw [h0]
          have hrr := @refl_passed base sl f HO.out (by omega) f1
          have HR := Lib.hid hrr
          clear hrr h0
          go_wp2_with (fail)
          refine (reflected_any base A sl cap f _ HO.out (RowsAt.below hA1 (by repeat (first | assumption | exact Below.refl _ _ | refine Below.drew ?_ | (refine below_alloc _ ?_ ?_; focus (first | omega | (simp; done) | (simp; omega) | (simp at *; omega))) | (refine below_set _ ?_ ?_; focus (first | omega | (simp; done) | (simp; omega) | (simp at *; omega))) | refine below_drewN ?_ _ | (refine below_call (by assumption) ?_ ?_; focus (first | omega | (simp; done) | (simp; omega) | (simp at *; omega))) | (refine below_call' (by assumption) ?_ ?_; focus (first | omega | (simp; done) | (simp; omega) | (simp at *; omega)))))) (by omega) f1).mono ?_
          rintro e w3 ⟨rfl, hb3⟩
          have hb3r : Below wr.heap.size wr w3 := (by repeat (first | assumption | exact Below.refl _ _ | refine Below.drew ?_ | (refine below_alloc _ ?_ ?_; focus (first | omega | (simp; done) | (simp; omega) | (simp at *; omega))) | (refine below_set _ ?_ ?_; focus (first | omega | (simp; done) | (simp; omega) | (simp at *; omega))) | refine below_drewN ?_ _ | (refine below_call (by assumption) ?_ ?_; focus (first | omega | (simp; done) | (simp; omega) | (simp at *; omega))) | (refine below_call' (by assumption) ?_ ?_; focus (first | omega | (simp; done) | (simp; omega) | (simp at *; omega)))))
          have hb3v : Below v1.heap.size v1 w3 := hbw.trans (hb3r.mono (by omega))
          have hz3 : wr.heap.size < w3.heap.size := by have := hb3.size; simp at this; omega
          have hz31 : w1.heap.size < w3.heap.size := by omega
          have hz32 : w.heap.size < w3.heap.size := by omega
          have hz33 : w.heap.size + 1 < w3.heap.size := by omega
          (clear c0 c1 c2 g0 g1 g2 k0 k1 hA1 hB1)
          (have c0 := cell_below' hb3v C0; have c1 := cell_below' hb3v C1; have c2 := cell_below' hb3v C2; have g0 := frozen_below hb3v (show _ from hs7) G0; have g1 := frozen_below hb3v (show _ from hs7) G1; have g2 := frozen_below hb3v (show _ from hs7) G2; have k0 := cell_below' hb3v K0; have k1 := cell_below' hb3v K1; have hA1 := RowsAt.below AV hb3v; have hB1 := RowsAt.below BV hb3v)
          by_cases hi : (refl base sl f).2 < 0
          · rw [if_pos hi] at HT
            rw [HT.out, if_pos (by decide)] at HM
            clear HR
            go_wp2
            refine bodyPost_ret (v := .tuple #[.agg #[.slice none 0 0, .int .i64 0, .int .i64 0], .int .i64 k, .int .i64 (21)]) (by simp [results, Try.results38, go_sem, c0, c1, c2, hz32, hz33]) rfl ?_
            unfold TofPost
            rw [H2.out, HM.out]
            exact ⟨none, 0, rfl, World.ownsRow_nil _ _ _ _, (by repeat (first | assumption | exact Below.refl _ _ | refine Below.drew ?_ | (refine below_alloc _ ?_ ?_; focus (first | omega | (simp; done) | (simp; omega) | (simp at *; omega))) | (refine below_set _ ?_ ?_; focus (first | omega | (simp; done) | (simp; omega) | (simp at *; omega))) | refine below_drewN ?_ _ | (refine below_call (by assumption) ?_ ?_; focus (first | omega | (simp; done) | (simp; omega) | (simp at *; omega))) | (refine below_call' (by assumption) ?_ ?_; focus (first | omega | (simp; done) | (simp; omega) | (simp at *; omega)))))⟩
          · rw [if_neg hi] at HT
            obtain ⟨kk, e1, e2, e3, e4⟩ := HR.out (by omega)
            rw [e1, Int.toNat_natCast] at HT
            have hP : trP base sl f = ⟨f, virtLo base sl f kk, virtHi base sl f kk⟩ := by unfold trP; rw [e1, Int.toNat_natCast]
            have HP := Lib.hid hP
            have HPS := Lib.hid e3
            have hkk : decide ((kk : Int) < 0) = false := by simp
            rw [e1]
            clear hP e1 e3 e4 HR hi
            go_wp2_with (fail)
            refine (virtual_any base A sl cap f kk _ HPS.out hcap hA1).mono ?_
            rintro e w4 ⟨rfl, hb4⟩
            have hb4v : Below v1.heap.size v1 w4 := hb3v.trans (hb4.mono (by omega))
            have hz4 := hb4.size
            have hz40 : wr.heap.size < w4.heap.size := by omega
            have hz41 : w1.heap.size < w4.heap.size := by omega
            have hz42 : w.heap.size < w4.heap.size := by omega
            have hz43 : w.heap.size + 1 < w4.heap.size := by omega
            have hz44 : v1.heap.size < w4.heap.size := by omega
            (clear c0 c1 c2 g0 g1 g2 k0 k1 hA1 hB1)
            (have c0 := cell_below' hb4v C0; have c1 := cell_below' hb4v C1; have c2 := cell_below' hb4v C2; have g0 := frozen_below hb4v (show _ from hs7) G0; have g1 := frozen_below hb4v (show _ from hs7) G1; have g2 := frozen_below hb4v (show _ from hs7) G2; have k0 := cell_below' hb4v K0; have k1 := cell_below' hb4v K1; have hA1 := RowsAt.below AV hb4v; have hB1 := RowsAt.below BV hb4v)
            have hb4w : Below wr.heap.size wr w4 := hb3r.trans (hb4.mono (by omega))
            replace s0 := cell_below' hb4w s0
            replace s1 := cell_below' hb4w s1
            replace s2 := cell_below' hb4w s2
            replace sf := frozen_below hb4w (show _ from hsz) sf
            have hlt2 := hown.lt
            replace hown := own_below hown hb4w
            by_cases hvh : 20000 < virtHi base sl f kk
            · rw [if_pos hvh] at HT
              rw [HT.out, if_pos (by decide)] at HM
              go_wp2
              refine bodyPost_ret (v := .tuple #[.agg #[.slice none 0 0, .int .i64 0, .int .i64 0], .int .i64 k, .int .i64 (22)]) (by simp [results, Try.results38, go_sem, c0, c1, c2, hz42, hz43]) rfl ?_
              unfold TofPost
              rw [H2.out, HM.out]
              exact ⟨none, 0, rfl, World.ownsRow_nil _ _ _ _, (by repeat (first | assumption | exact Below.refl _ _ | refine Below.drew ?_ | (refine below_alloc _ ?_ ?_; focus (first | omega | (simp; done) | (simp; omega) | (simp at *; omega))) | (refine below_set _ ?_ ?_; focus (first | omega | (simp; done) | (simp; omega) | (simp at *; omega))) | refine below_drewN ?_ _ | (refine below_call (by assumption) ?_ ?_; focus (first | omega | (simp; done) | (simp; omega) | (simp at *; omega))) | (refine below_call' (by assumption) ?_ ?_; focus (first | omega | (simp; done) | (simp; omega) | (simp at *; omega)))))⟩
            · rw [if_neg hvh] at HT
              rw [HT.out, if_neg (by decide), HP.out] at HM
              have hvd : decide (20000 < virtHi base sl f kk) = false := by simpa using hvh
              clear HT HP
              generalize virtLo base sl f kk = lo at *
              generalize virtHi base sl f kk = hi at *
              have hn1' : some v1.heap.size ≠ Value.ownBlock (.slice A' k c') := fun e => by have := hlt2 _ e.symm; omega
              go_wp2_with (at_builtin; refine wpList_appPoint _ rfl (.tmp 77) (.tmp 81) rfl (v1.heap.size + 1) A' k c' (cellsOf 3 ptC out) rfl ((hown.alloc _).alloc _) (some ⟨w4.heap.size + 1, 0, none⟩) 1 1 (cellsOf 3 ptC [⟨f, lo, hi⟩]) rfl rfl (fun e => by cases e) (fun ad e => by cases e; exact RowsAt.news (rows_blk (blk_new (by simp)) rfl) (by decide)) (cellsOf_one ptC_one (by decide) _) (by omega) (by simp; omega) ?_; intro A4 c5 w5 hown5 hg halt; rw [← cellsOf_append] at hown5; have hz5 := hg.size; simp at hz5; have hb5v : Below v1.heap.size v1 w5 := below_own (below_alloc _ (Nat.le_refl _) (below_alloc _ (Nat.le_refl _) hb4v)) hg ((hown.alloc _).alloc _) (by omega) (by simp; omega); replace s0 := cell_grown hg (cell_alloc _ (cell_alloc _ s0)) hn1'; replace s1 := cell_grown hg (cell_alloc _ (cell_alloc _ s1)) hn1'; replace s2 := cell_grown hg (cell_alloc _ (cell_alloc _ s2)) hn1'; replace sf := frozen_grown hg (frozen_alloc _ (by simp; omega) (frozen_alloc _ (by simp; omega) sf)) (by simp; omega) hn1'; clear hg halt hown hn1')
              go_roundw
              case rel => exact ⟨k + 1, f, _, A4, c5, by omega, by go_num, rfl, by simp [HLEN.out], HM.out, cell_same s0, (World.cell?_setCell_other _ _ _ _ (by simp)).trans s1, (World.cell?_setCell_other _ _ _ _ (by simp)).trans s2, frozen_set _ _ sf, ownsRow_setCell_below hown5 (by simp) _, below_set _ (Nat.le_refl _) hb5v, by simp; omega⟩
              case measure => simp [intOf]; omega
        · rw [if_pos h0] at HT
          rw [HT.out, if_pos h0] at HM
          have h0' : (firstE [unl (withinB f 1 3000) 2, unl (decide (last < f)) 9] == 0) = false := by simpa using h0
          have h0'' : (firstE [unl (withinB f 1 3000) 2, unl (decide (last < f)) 9] != 0) = true := by simpa using h0
          clear h0
          go_wp2
          refine bodyPost_ret (v := .tuple #[.agg #[.slice none 0 0, .int .i64 0, .int .i64 0], .int .i64 k, .int .i64 (firstE [unl (withinB f 1 3000) 2, unl (decide (last < f)) 9])]) (by simp [results, Try.results38, go_sem, c0, c1, c2, hs9, hs10]) rfl ?_
          unfold TofPost
          rw [H2.out, HM.out]
          exact ⟨none, 0, rfl, World.ownsRow_nil _ _ _ _, (by repeat (first | assumption | exact Below.refl _ _ | refine Below.drew ?_ | (refine below_alloc _ ?_ ?_; focus (first | omega | (simp; done) | (simp; omega) | (simp at *; omega))) | (refine below_set _ ?_ ?_; focus (first | omega | (simp; done) | (simp; omega) | (simp at *; omega))) | refine below_drewN ?_ _ | (refine below_call (by assumption) ?_ ?_; focus (first | omega | (simp; done) | (simp; omega) | (simp at *; omega))) | (refine below_call' (by assumption) ?_ ?_; focus (first | omega | (simp; done) | (simp; omega) | (simp at *; omega)))))⟩
      · have hd : fl.drop k = [] := List.drop_eq_nil_of_le (by omega)
        rw [hd, trGo] at HM
        have hke : k = fl.length := by omega
        have hlt' : ¬ k < fl.length := hlt
        clear hd hke
        have hne7 : ¬ v1.heap.size = w.heap.size + 1 := by omega
        have hne8 : ¬ w.heap.size + 1 = v1.heap.size := by omega
        go_wp2
        refine bodyPost_ret (v := .tuple #[.agg #[.slice A' k c', .int .i64 0, .int .i64 0], .int .i64 0, .int .i64 0]) (by simp [results, Try.results38, go_sem, c0, c1, c2, hs9, hs10]) rfl ?_
        have hk2 := HLEN.out
        subst hk2
        unfold TofPost
        rw [H2.out, HM.out]
        refine ⟨A', c', rfl, ?_, (by repeat (first | assumption | exact Below.refl _ _ | refine Below.drew ?_ | (refine below_alloc _ ?_ ?_; focus (first | omega | (simp; done) | (simp; omega) | (simp at *; omega))) | (refine below_set _ ?_ ?_; focus (first | omega | (simp; done) | (simp; omega) | (simp at *; omega))) | refine below_drewN ?_ _ | (refine below_call (by assumption) ?_ ?_; focus (first | omega | (simp; done) | (simp; omega) | (simp at *; omega))) | (refine below_call' (by assumption) ?_ ?_; focus (first | omega | (simp; done) | (simp; omega) | (simp at *; omega)))))⟩
        exact own_mono (ownsRow_setCell_below (ownsRow_setCell_below (ownsRow_setCell_below hown (by simp; omega) _) (by simp; omega) _) (by simp; omega) _) (by omega)
  · rw [if_pos h0] at H2
    have h0' : (trE0 base sl fl.length == 0) = false := by simpa using h0
    have h0'' : (trE0 base sl fl.length != 0) = true := by simpa using h0
    clear h0 H1
    go_wp2
    refine bodyPost_ret (v := .tuple #[.agg #[.slice none 0 0, .int .i64 0, .int .i64 0], .int .i64 0, .int .i64 (trE0 base sl fl.length)]) (by simp [results, Try.results38, go_sem, c0, c1, c2, hz0, hz1]) rfl ?_
    unfold TofPost
    rw [H2.out]
    exact ⟨none, 0, rfl, World.ownsRow_nil _ _ _ _, (by repeat (first | assumption | exact Below.refl _ _ | refine Below.drew ?_ | (refine below_alloc _ ?_ ?_; focus (first | omega | (simp; done) | (simp; omega) | (simp at *; omega))) | (refine below_set _ ?_ ?_; focus (first | omega | (simp; done) | (simp; omega) | (simp at *; omega))) | refine below_drewN ?_ _ | (refine below_call (by assumption) ?_ ?_; focus (first | omega | (simp; done) | (simp; omega) | (simp at *; omega))) | (refine below_call' (by assumption) ?_ ?_; focus (first | omega | (simp; done) | (simp; omega) | (simp at *; omega)))))⟩
end Go.Proofs.Ytoegpaolbkcleaa
