/-
  Chapter 2: the sums whose lines are given.
-/
import Derived.Test.YtppghnbabnhnbaaDoorERLi
import Derived.Test.YtppghnbabnhnbaaDoorESpR
namespace Go.Proofs.YtppghnbabnhnbaaDoor
open Go.ChangeShapes Go.WideShapes Go.ChangeAt Go.RowKit
set_option linter.unusedVariables false
set_option linter.unusedSimpArgs false

/-- the error of a line -/
def smE0 (g : Gs) : Int := unl (prtB 1000000 g) 2
def smsG (l : List Gs) : Int := firstE (l.map smE0)
theorem smsG_cons (x : Gs) (r : List Gs) : smsG (x :: r) = if smE0 x = 0 then smsG r else smE0 x := rfl
set_option maxHeartbeats 1000000 in
theorem sumErr_any (g : Gs) (w : World) :
    Calls Tryd.prog 111 #[gv g] w fun e w' => e = .returned (.int .i64 (smE0 g)) ∧ Below w.heap.size w w' := by
  have hq : smE0 g = unl (prtB 1000000 g) 2 := rfl
  have HQ := Lib.hid hq
  have HP := Lib.hid (fun W => isPart_any g 1000000 (by decide) (by decide) W)
  clear hq
  generalize prtB 1000000 g = pb at *
  obtain ⟨a0, a1⟩ := g
  simp only [gv] at *
  go_enter Tryd.func111, Tryd.ntmps111
  go_wp2_with (fail)
  refine (HP.out _).mono ?_
  rintro e w1 ⟨rfl, hb1⟩
  have hw1 : Below w.heap.size w w1 := (by repeat (first | assumption | exact Below.refl _ _ | refine Below.drew ?_ | (refine below_alloc _ ?_ ?_; focus (first | omega | (simp; done) | (simp; omega) | (simp at *; omega))) | (refine below_set _ ?_ ?_; focus (first | omega | (simp; done) | (simp; omega) | (simp at *; omega))) | refine below_drewN ?_ _ | (refine below_call (by assumption) ?_ ?_; focus (first | omega | (simp; done) | (simp; omega) | (simp at *; omega))) | (refine below_call' (by assumption) ?_ ?_; focus (first | omega | (simp; done) | (simp; omega) | (simp at *; omega)))))
  clear hb1
  go_wp2_with (go_at_call 89; refine (unless_any _ _ _).mono ?_; rintro e w' ⟨rfl, rfl⟩)
  go_ret
  exact ⟨ret_int (by rw [HQ.out]), hw1⟩
set_option maxHeartbeats 1000000 in
theorem eachS_any (A : Option Addr) (l : List Gs) (cap : Nat) (w : World) (hl : l.length ≤ 1000) (hA : GsAt w A l) :
    Calls Tryd.prog 110 #[.slice A l.length cap, .func (.func 111) #[] #[]] w fun e w' => e = .returned (.int .i64 (smsG l)) ∧ Below w.heap.size w w' := by
  go_enter Tryd.func110, Tryd.ntmps110
  go_wp2_with (fail)
  go_loopw [10] (fun i wr => ∃ k : Nat, k ≤ l.length ∧ i = .int .i64 k ∧ smsG l = smsG (l.drop k) ∧ Below w.heap.size w wr) (fun i _ => l.length - (intOf i).toNat)
  case atStart => exact ⟨0, Nat.zero_le _, rfl, rfl, Below.refl _ _⟩
  case round =>
    obtain ⟨k, hk, rfl, he, hbr⟩ := hrel
    have H := Lib.hid he
    have hAr := RowsAt.below hA hbr
    clear he
    by_cases hlt : k < l.length
    · have hd : l.drop k = l[k] :: l.drop (k + 1) := List.drop_eq_getElem_cons hlt
      rw [hd, smsG_cons] at H
      clear hd
      obtain ⟨b1, o1, rfl, hb1, c0, c1⟩ := GsAt.at_ hAr hlt
      have HS := Lib.hid (fun W => sumErr_any l[k] W)
      generalize l[k] = g at *
      simp only [gv] at HS
      have hk1 : (k : Int) < (l.length : Int) := by omega
      by_cases hx : smE0 g = 0
      · rw [if_pos hx] at H
        rw [hx] at HS
        clear hx
        go_wp2_with (fail)
        refine (HS.out _).mono ?_
        rintro e w2 ⟨rfl, hb2⟩
        have hw2 : Below w.heap.size w w2 := (by repeat (first | assumption | exact Below.refl _ _ | refine Below.drew ?_ | (refine below_alloc _ ?_ ?_; focus (first | omega | (simp; done) | (simp; omega) | (simp at *; omega))) | (refine below_set _ ?_ ?_; focus (first | omega | (simp; done) | (simp; omega) | (simp at *; omega))) | refine below_drewN ?_ _ | (refine below_call (by assumption) ?_ ?_; focus (first | omega | (simp; done) | (simp; omega) | (simp at *; omega))) | (refine below_call' (by assumption) ?_ ?_; focus (first | omega | (simp; done) | (simp; omega) | (simp at *; omega)))))
        clear hb2
        go_wp2_with (fail)
        exact ⟨⟨k + 1, by omega, by go_num, H.out, hw2⟩, by simp [intOf]; omega⟩
      · rw [if_neg hx] at H
        have e2 : (smE0 g != 0) = true := by simpa using hx
        clear hx
        generalize smE0 g = E at *
        go_wp2_with (fail)
        refine (HS.out _).mono ?_
        rintro e w2 ⟨rfl, hb2⟩
        have hw2 : Below w.heap.size w w2 := (by repeat (first | assumption | exact Below.refl _ _ | refine Below.drew ?_ | (refine below_alloc _ ?_ ?_; focus (first | omega | (simp; done) | (simp; omega) | (simp at *; omega))) | (refine below_set _ ?_ ?_; focus (first | omega | (simp; done) | (simp; omega) | (simp at *; omega))) | refine below_drewN ?_ _ | (refine below_call (by assumption) ?_ ?_; focus (first | omega | (simp; done) | (simp; omega) | (simp at *; omega))) | (refine below_call' (by assumption) ?_ ?_; focus (first | omega | (simp; done) | (simp; omega) | (simp at *; omega)))))
        clear hb2
        go_wp2_with (fail)
        go_ret
        exact ⟨ret_int (by rw [H.out]), hw2⟩
    · have e : l.drop k = [] := List.drop_eq_nil_of_le (by omega)
      rw [e] at H
      clear e
      go_wp2_with (fail)
      go_ret
      exact ⟨ret_int (by rw [H.out]; rfl), hbr⟩
/-- four numbers as a list -/
def sL (h : Nat → Gs) : List Gs := [h 0, h 1, h 2, h 3]
def sV (h : Nat → Gs) (q : Nat) : Gs := lnK (sL h) 1 q 4
def sOk (h : Nat → Gs) : Bool := prtB 1000000 (h 0) && (prtB 1000000 (h 1) && (prtB 1000000 (h 2) && prtB 1000000 (h 3)))
def dB (g : Gs) : Bool := g.re.tmod 4 == 0 && g.im.tmod 4 == 0
def sDv (h : Nat → Gs) : Bool := dB (sV h 0) && (dB (sV h 1) && (dB (sV h 2) && dB (sV h 3)))
def smsE (h : Nat → Gs) : Int := if sOk h = true then (if sDv h = true then 0 else 3) else 2
def smsV (h : Nat → Gs) (q : Nat) : Gs := if smsE h = 0 then gover (sV h q) 4 else gz
theorem sOk_of {h : Nat → Gs} (k : ∀ j, j < 4 → prtB 1000000 (h j) = true) : sOk h = true := by
  unfold sOk; rw [k 0 (by decide), k 1 (by decide), k 2 (by decide), k 3 (by decide)]; rfl
theorem sOk_not {h : Nat → Gs} {j : Nat} (hj : j < 4) (k : prtB 1000000 (h j) = false) : sOk h = false := by
  have h4 : j = 0 ∨ j = 1 ∨ j = 2 ∨ j = 3 := by omega
  unfold sOk
  rcases h4 with rfl | rfl | rfl | rfl <;> rw [k] <;> simp
theorem sOk_at {h : Nat → Gs} (k : sOk h = true) (j : Nat) (hj : j < 4) : prtB 1000000 (h j) = true := by
  unfold sOk at k
  simp only [Bool.and_eq_true] at k
  have h4 : j = 0 ∨ j = 1 ∨ j = 2 ∨ j = 3 := by omega
  rcases h4 with rfl | rfl | rfl | rfl
  · exact k.1
  · exact k.2.1
  · exact k.2.2.1
  · exact k.2.2.2
theorem sDv_of {h : Nat → Gs} (k : ∀ j, j < 4 → dB (sV h j) = true) : sDv h = true := by
  unfold sDv; rw [k 0 (by decide), k 1 (by decide), k 2 (by decide), k 3 (by decide)]; rfl
theorem sDv_not {h : Nat → Gs} {j : Nat} (hj : j < 4) (k : dB (sV h j) = false) : sDv h = false := by
  have h4 : j = 0 ∨ j = 1 ∨ j = 2 ∨ j = 3 := by omega
  unfold sDv
  rcases h4 with rfl | rfl | rfl | rfl <;> rw [k] <;> simp
theorem sms_2 {h : Nat → Gs} (k : sOk h = false) : smsE h = 2 ∧ ∀ j, smsV h j = gz := by
  have e : smsE h = 2 := by unfold smsE; rw [if_neg (by rw [k]; decide)]
  exact ⟨e, fun j => if_neg (by rw [e]; decide)⟩
theorem sms_3 {h : Nat → Gs} (k : sOk h = true) (d : sDv h = false) : smsE h = 3 ∧ ∀ j, smsV h j = gz := by
  have e : smsE h = 3 := by unfold smsE; rw [if_pos k, if_neg (by rw [d]; decide)]
  exact ⟨e, fun j => if_neg (by rw [e]; decide)⟩
theorem sms_0 {h : Nat → Gs} (k : sOk h = true) (d : sDv h = true) : smsE h = 0 ∧ ∀ j, smsV h j = gover (sV h j) 4 := by
  have e : smsE h = 0 := by unfold smsE; rw [if_pos k, if_pos d]
  exact ⟨e, fun j => if_pos e⟩
theorem gd_sL (h : Nat → Gs) (j : Nat) (hj : j < 4) : gd (sL h) j = h j := by
  have h4 : j = 0 ∨ j = 1 ∨ j = 2 ∨ j = 3 := by omega
  rcases h4 with rfl | rfl | rfl | rfl <;> rfl
theorem sL_sz {h : Nat → Gs} (k : sOk h = true) (i : Nat) : Sz 1000000 (gd (sL h) i) := by
  refine gd_any (by decide) (fun x hx => ?_) i
  simp only [sL, List.mem_cons, List.not_mem_nil, or_false] at hx
  rcases hx with rfl | rfl | rfl | rfl
  · exact prtB_true (sOk_at k 0 (by decide))
  · exact prtB_true (sOk_at k 1 (by decide))
  · exact prtB_true (sOk_at k 2 (by decide))
  · exact prtB_true (sOk_at k 3 (by decide))
theorem sV_sz {h : Nat → Gs} (k : sOk h = true) (q : Nat) : Sz 4000000 (sV h q) := (lnK_sz (by decide) (sL_sz k) 1 q 4).mono (by decide)
theorem smsG_L (h : Nat → Gs) : smsG (sL h) = if sOk h = true then 0 else 2 := by
  have e : ∀ g, smE0 g = unl (prtB 1000000 g) 2 := fun _ => rfl
  simp only [sL, smsG_cons, e]
  unfold sOk
  cases prtB 1000000 (h 0) <;> cases prtB 1000000 (h 1) <;> cases prtB 1000000 (h 2) <;> cases prtB 1000000 (h 3) <;> rfl
/-- the first m results -/
def cutS (h : Nat → Gs) (m : Nat) (j : Nat) : Gs := if j < m then gover (sV h j) 4 else gz
theorem gx_z {O : Nat} {h : Nat → Gs} {w : World} (h0 : w.heap[O]? = some (.cells #[.int .i64 0, .int .i64 0, .int .i64 0, .int .i64 0, .int .i64 0, .int .i64 0, .int .i64 0, .int .i64 0] 73)) : GxAt O (cutS h 0) w := by
  have hz : ∀ j, cutS h 0 j = gz := fun j => if_neg (by omega)
  refine gx_of ?_ ?_ ?_ ?_ ?_ ?_ ?_ ?_ (fun j => blk_frozen h0)
  all_goals
    rw [hz]
    exact blk_cell h0 rfl
set_option maxRecDepth 100000 in
set_option maxHeartbeats 16000000 in
theorem SumsOf_any (h : Nat → Gs) (w : World) :
    Calls Tryd.prog 45 #[gv4 h] w fun e w' => e = .returned (.tuple #[gv4 (smsV h), .int .i64 (smsE h)]) ∧ Below w.heap.size w w' := by
  have HE := Lib.hid (fun W A (hA : GsAt W A (sL h)) => eachS_any A (sL h) 4 W (by show 4 ≤ 1000; decide) hA)
  rw [smsG_L] at HE
  have hlen : (sL h).length = 4 := rfl
  rw [hlen] at HE
  cases hok : sOk h
  · obtain ⟨z1, z2⟩ := sms_2 hok
    have hz : gv4 (smsV h) = .agg #[.int .i64 0, .int .i64 0, .int .i64 0, .int .i64 0, .int .i64 0, .int .i64 0, .int .i64 0, .int .i64 0] := by simp only [gv4, z2]; rfl
    rw [hok, if_neg (by decide)] at HE
    have HZ := Lib.hid hz
    have HZ1 := Lib.hid z1
    clear hok z1 z2 hz hlen
    go_enter Tryd.func45, Tryd.ntmps45
    go_upto_region 2 with (fail)
    have hb0 : Below w.heap.size w (((w.alloc (.cells #[.int .i64 (h 0).re, .int .i64 (h 0).im, .int .i64 (h 1).re, .int .i64 (h 1).im, .int .i64 (h 2).re, .int .i64 (h 2).im, .int .i64 (h 3).re, .int .i64 (h 3).im] 73)).alloc (.cells #[.int .i64 0, .int .i64 0, .int .i64 0, .int .i64 0, .int .i64 0, .int .i64 0, .int .i64 0, .int .i64 0] 73)).alloc (.cells #[.int .i64 0, .int .i64 0, .int .i64 0, .int .i64 0, .int .i64 0, .int .i64 0, .int .i64 0, .int .i64 0] 73)) := below_alloc _ (Nat.le_refl _) (below_alloc _ (Nat.le_refl _) (below_alloc _ (Nat.le_refl _) (Below.refl _ _)))
    have h0 : (((w.alloc (.cells #[.int .i64 (h 0).re, .int .i64 (h 0).im, .int .i64 (h 1).re, .int .i64 (h 1).im, .int .i64 (h 2).re, .int .i64 (h 2).im, .int .i64 (h 3).re, .int .i64 (h 3).im] 73)).alloc (.cells #[.int .i64 0, .int .i64 0, .int .i64 0, .int .i64 0, .int .i64 0, .int .i64 0, .int .i64 0, .int .i64 0] 73)).alloc (.cells #[.int .i64 0, .int .i64 0, .int .i64 0, .int .i64 0, .int .i64 0, .int .i64 0, .int .i64 0, .int .i64 0] 73)).cell? ⟨w.heap.size, 0, none⟩ = some (.int .i64 (h 0).re) := cell_alloc _ (cell_alloc _ (cell_new (by simp) rfl))
    have h1 : (((w.alloc (.cells #[.int .i64 (h 0).re, .int .i64 (h 0).im, .int .i64 (h 1).re, .int .i64 (h 1).im, .int .i64 (h 2).re, .int .i64 (h 2).im, .int .i64 (h 3).re, .int .i64 (h 3).im] 73)).alloc (.cells #[.int .i64 0, .int .i64 0, .int .i64 0, .int .i64 0, .int .i64 0, .int .i64 0, .int .i64 0, .int .i64 0] 73)).alloc (.cells #[.int .i64 0, .int .i64 0, .int .i64 0, .int .i64 0, .int .i64 0, .int .i64 0, .int .i64 0, .int .i64 0] 73)).cell? ⟨w.heap.size, 1, none⟩ = some (.int .i64 (h 0).im) := cell_alloc _ (cell_alloc _ (cell_new (by simp) rfl))
    have h2 : (((w.alloc (.cells #[.int .i64 (h 0).re, .int .i64 (h 0).im, .int .i64 (h 1).re, .int .i64 (h 1).im, .int .i64 (h 2).re, .int .i64 (h 2).im, .int .i64 (h 3).re, .int .i64 (h 3).im] 73)).alloc (.cells #[.int .i64 0, .int .i64 0, .int .i64 0, .int .i64 0, .int .i64 0, .int .i64 0, .int .i64 0, .int .i64 0] 73)).alloc (.cells #[.int .i64 0, .int .i64 0, .int .i64 0, .int .i64 0, .int .i64 0, .int .i64 0, .int .i64 0, .int .i64 0] 73)).cell? ⟨w.heap.size, 2, none⟩ = some (.int .i64 (h 1).re) := cell_alloc _ (cell_alloc _ (cell_new (by simp) rfl))
    have h3 : (((w.alloc (.cells #[.int .i64 (h 0).re, .int .i64 (h 0).im, .int .i64 (h 1).re, .int .i64 (h 1).im, .int .i64 (h 2).re, .int .i64 (h 2).im, .int .i64 (h 3).re, .int .i64 (h 3).im] 73)).alloc (.cells #[.int .i64 0, .int .i64 0, .int .i64 0, .int .i64 0, .int .i64 0, .int .i64 0, .int .i64 0, .int .i64 0] 73)).alloc (.cells #[.int .i64 0, .int .i64 0, .int .i64 0, .int .i64 0, .int .i64 0, .int .i64 0, .int .i64 0, .int .i64 0] 73)).cell? ⟨w.heap.size, 3, none⟩ = some (.int .i64 (h 1).im) := cell_alloc _ (cell_alloc _ (cell_new (by simp) rfl))
    have h4 : (((w.alloc (.cells #[.int .i64 (h 0).re, .int .i64 (h 0).im, .int .i64 (h 1).re, .int .i64 (h 1).im, .int .i64 (h 2).re, .int .i64 (h 2).im, .int .i64 (h 3).re, .int .i64 (h 3).im] 73)).alloc (.cells #[.int .i64 0, .int .i64 0, .int .i64 0, .int .i64 0, .int .i64 0, .int .i64 0, .int .i64 0, .int .i64 0] 73)).alloc (.cells #[.int .i64 0, .int .i64 0, .int .i64 0, .int .i64 0, .int .i64 0, .int .i64 0, .int .i64 0, .int .i64 0] 73)).cell? ⟨w.heap.size, 4, none⟩ = some (.int .i64 (h 2).re) := cell_alloc _ (cell_alloc _ (cell_new (by simp) rfl))
    have h5 : (((w.alloc (.cells #[.int .i64 (h 0).re, .int .i64 (h 0).im, .int .i64 (h 1).re, .int .i64 (h 1).im, .int .i64 (h 2).re, .int .i64 (h 2).im, .int .i64 (h 3).re, .int .i64 (h 3).im] 73)).alloc (.cells #[.int .i64 0, .int .i64 0, .int .i64 0, .int .i64 0, .int .i64 0, .int .i64 0, .int .i64 0, .int .i64 0] 73)).alloc (.cells #[.int .i64 0, .int .i64 0, .int .i64 0, .int .i64 0, .int .i64 0, .int .i64 0, .int .i64 0, .int .i64 0] 73)).cell? ⟨w.heap.size, 5, none⟩ = some (.int .i64 (h 2).im) := cell_alloc _ (cell_alloc _ (cell_new (by simp) rfl))
    have h6 : (((w.alloc (.cells #[.int .i64 (h 0).re, .int .i64 (h 0).im, .int .i64 (h 1).re, .int .i64 (h 1).im, .int .i64 (h 2).re, .int .i64 (h 2).im, .int .i64 (h 3).re, .int .i64 (h 3).im] 73)).alloc (.cells #[.int .i64 0, .int .i64 0, .int .i64 0, .int .i64 0, .int .i64 0, .int .i64 0, .int .i64 0, .int .i64 0] 73)).alloc (.cells #[.int .i64 0, .int .i64 0, .int .i64 0, .int .i64 0, .int .i64 0, .int .i64 0, .int .i64 0, .int .i64 0] 73)).cell? ⟨w.heap.size, 6, none⟩ = some (.int .i64 (h 3).re) := cell_alloc _ (cell_alloc _ (cell_new (by simp) rfl))
    have h7 : (((w.alloc (.cells #[.int .i64 (h 0).re, .int .i64 (h 0).im, .int .i64 (h 1).re, .int .i64 (h 1).im, .int .i64 (h 2).re, .int .i64 (h 2).im, .int .i64 (h 3).re, .int .i64 (h 3).im] 73)).alloc (.cells #[.int .i64 0, .int .i64 0, .int .i64 0, .int .i64 0, .int .i64 0, .int .i64 0, .int .i64 0, .int .i64 0] 73)).alloc (.cells #[.int .i64 0, .int .i64 0, .int .i64 0, .int .i64 0, .int .i64 0, .int .i64 0, .int .i64 0, .int .i64 0] 73)).cell? ⟨w.heap.size, 7, none⟩ = some (.int .i64 (h 3).im) := cell_alloc _ (cell_alloc _ (cell_new (by simp) rfl))
    have hk : (((w.alloc (.cells #[.int .i64 (h 0).re, .int .i64 (h 0).im, .int .i64 (h 1).re, .int .i64 (h 1).im, .int .i64 (h 2).re, .int .i64 (h 2).im, .int .i64 (h 3).re, .int .i64 (h 3).im] 73)).alloc (.cells #[.int .i64 0, .int .i64 0, .int .i64 0, .int .i64 0, .int .i64 0, .int .i64 0, .int .i64 0, .int .i64 0] 73)).alloc (.cells #[.int .i64 0, .int .i64 0, .int .i64 0, .int .i64 0, .int .i64 0, .int .i64 0, .int .i64 0, .int .i64 0] 73)).heap[w.heap.size]? = some (.cells #[.int .i64 (h 0).re, .int .i64 (h 0).im, .int .i64 (h 1).re, .int .i64 (h 1).im, .int .i64 (h 2).re, .int .i64 (h 2).im, .int .i64 (h 3).re, .int .i64 (h 3).im] 73) := blk_alloc _ (blk_alloc _ (blk_new (by simp)))
    have zh : w.heap.size < (((w.alloc (.cells #[.int .i64 (h 0).re, .int .i64 (h 0).im, .int .i64 (h 1).re, .int .i64 (h 1).im, .int .i64 (h 2).re, .int .i64 (h 2).im, .int .i64 (h 3).re, .int .i64 (h 3).im] 73)).alloc (.cells #[.int .i64 0, .int .i64 0, .int .i64 0, .int .i64 0, .int .i64 0, .int .i64 0, .int .i64 0, .int .i64 0] 73)).alloc (.cells #[.int .i64 0, .int .i64 0, .int .i64 0, .int .i64 0, .int .i64 0, .int .i64 0, .int .i64 0, .int .i64 0] 73)).heap.size := World.block_lt_of_cell? _ _ h0
    have r0 : (((w.alloc (.cells #[.int .i64 (h 0).re, .int .i64 (h 0).im, .int .i64 (h 1).re, .int .i64 (h 1).im, .int .i64 (h 2).re, .int .i64 (h 2).im, .int .i64 (h 3).re, .int .i64 (h 3).im] 73)).alloc (.cells #[.int .i64 0, .int .i64 0, .int .i64 0, .int .i64 0, .int .i64 0, .int .i64 0, .int .i64 0, .int .i64 0] 73)).alloc (.cells #[.int .i64 0, .int .i64 0, .int .i64 0, .int .i64 0, .int .i64 0, .int .i64 0, .int .i64 0, .int .i64 0] 73)).cell? ⟨w.heap.size + 1, 0, none⟩ = some (.int .i64 0) := cell_alloc _ (cell_new (by simp) rfl)
    have rf0 : (((w.alloc (.cells #[.int .i64 (h 0).re, .int .i64 (h 0).im, .int .i64 (h 1).re, .int .i64 (h 1).im, .int .i64 (h 2).re, .int .i64 (h 2).im, .int .i64 (h 3).re, .int .i64 (h 3).im] 73)).alloc (.cells #[.int .i64 0, .int .i64 0, .int .i64 0, .int .i64 0, .int .i64 0, .int .i64 0, .int .i64 0, .int .i64 0] 73)).alloc (.cells #[.int .i64 0, .int .i64 0, .int .i64 0, .int .i64 0, .int .i64 0, .int .i64 0, .int .i64 0, .int .i64 0] 73)).frozen? ⟨w.heap.size + 1, 0, none⟩ = false := frozen_alloc _ (by first | (simp; done) | (simp; omega)) (frozen_new (by simp))
    have r1 : (((w.alloc (.cells #[.int .i64 (h 0).re, .int .i64 (h 0).im, .int .i64 (h 1).re, .int .i64 (h 1).im, .int .i64 (h 2).re, .int .i64 (h 2).im, .int .i64 (h 3).re, .int .i64 (h 3).im] 73)).alloc (.cells #[.int .i64 0, .int .i64 0, .int .i64 0, .int .i64 0, .int .i64 0, .int .i64 0, .int .i64 0, .int .i64 0] 73)).alloc (.cells #[.int .i64 0, .int .i64 0, .int .i64 0, .int .i64 0, .int .i64 0, .int .i64 0, .int .i64 0, .int .i64 0] 73)).cell? ⟨w.heap.size + 1, 1, none⟩ = some (.int .i64 0) := cell_alloc _ (cell_new (by simp) rfl)
    have rf1 : (((w.alloc (.cells #[.int .i64 (h 0).re, .int .i64 (h 0).im, .int .i64 (h 1).re, .int .i64 (h 1).im, .int .i64 (h 2).re, .int .i64 (h 2).im, .int .i64 (h 3).re, .int .i64 (h 3).im] 73)).alloc (.cells #[.int .i64 0, .int .i64 0, .int .i64 0, .int .i64 0, .int .i64 0, .int .i64 0, .int .i64 0, .int .i64 0] 73)).alloc (.cells #[.int .i64 0, .int .i64 0, .int .i64 0, .int .i64 0, .int .i64 0, .int .i64 0, .int .i64 0, .int .i64 0] 73)).frozen? ⟨w.heap.size + 1, 1, none⟩ = false := frozen_alloc _ (by first | (simp; done) | (simp; omega)) (frozen_new (by simp))
    have r2 : (((w.alloc (.cells #[.int .i64 (h 0).re, .int .i64 (h 0).im, .int .i64 (h 1).re, .int .i64 (h 1).im, .int .i64 (h 2).re, .int .i64 (h 2).im, .int .i64 (h 3).re, .int .i64 (h 3).im] 73)).alloc (.cells #[.int .i64 0, .int .i64 0, .int .i64 0, .int .i64 0, .int .i64 0, .int .i64 0, .int .i64 0, .int .i64 0] 73)).alloc (.cells #[.int .i64 0, .int .i64 0, .int .i64 0, .int .i64 0, .int .i64 0, .int .i64 0, .int .i64 0, .int .i64 0] 73)).cell? ⟨w.heap.size + 1, 2, none⟩ = some (.int .i64 0) := cell_alloc _ (cell_new (by simp) rfl)
    have rf2 : (((w.alloc (.cells #[.int .i64 (h 0).re, .int .i64 (h 0).im, .int .i64 (h 1).re, .int .i64 (h 1).im, .int .i64 (h 2).re, .int .i64 (h 2).im, .int .i64 (h 3).re, .int .i64 (h 3).im] 73)).alloc (.cells #[.int .i64 0, .int .i64 0, .int .i64 0, .int .i64 0, .int .i64 0, .int .i64 0, .int .i64 0, .int .i64 0] 73)).alloc (.cells #[.int .i64 0, .int .i64 0, .int .i64 0, .int .i64 0, .int .i64 0, .int .i64 0, .int .i64 0, .int .i64 0] 73)).frozen? ⟨w.heap.size + 1, 2, none⟩ = false := frozen_alloc _ (by first | (simp; done) | (simp; omega)) (frozen_new (by simp))
    have r3 : (((w.alloc (.cells #[.int .i64 (h 0).re, .int .i64 (h 0).im, .int .i64 (h 1).re, .int .i64 (h 1).im, .int .i64 (h 2).re, .int .i64 (h 2).im, .int .i64 (h 3).re, .int .i64 (h 3).im] 73)).alloc (.cells #[.int .i64 0, .int .i64 0, .int .i64 0, .int .i64 0, .int .i64 0, .int .i64 0, .int .i64 0, .int .i64 0] 73)).alloc (.cells #[.int .i64 0, .int .i64 0, .int .i64 0, .int .i64 0, .int .i64 0, .int .i64 0, .int .i64 0, .int .i64 0] 73)).cell? ⟨w.heap.size + 1, 3, none⟩ = some (.int .i64 0) := cell_alloc _ (cell_new (by simp) rfl)
    have rf3 : (((w.alloc (.cells #[.int .i64 (h 0).re, .int .i64 (h 0).im, .int .i64 (h 1).re, .int .i64 (h 1).im, .int .i64 (h 2).re, .int .i64 (h 2).im, .int .i64 (h 3).re, .int .i64 (h 3).im] 73)).alloc (.cells #[.int .i64 0, .int .i64 0, .int .i64 0, .int .i64 0, .int .i64 0, .int .i64 0, .int .i64 0, .int .i64 0] 73)).alloc (.cells #[.int .i64 0, .int .i64 0, .int .i64 0, .int .i64 0, .int .i64 0, .int .i64 0, .int .i64 0, .int .i64 0] 73)).frozen? ⟨w.heap.size + 1, 3, none⟩ = false := frozen_alloc _ (by first | (simp; done) | (simp; omega)) (frozen_new (by simp))
    have r4 : (((w.alloc (.cells #[.int .i64 (h 0).re, .int .i64 (h 0).im, .int .i64 (h 1).re, .int .i64 (h 1).im, .int .i64 (h 2).re, .int .i64 (h 2).im, .int .i64 (h 3).re, .int .i64 (h 3).im] 73)).alloc (.cells #[.int .i64 0, .int .i64 0, .int .i64 0, .int .i64 0, .int .i64 0, .int .i64 0, .int .i64 0, .int .i64 0] 73)).alloc (.cells #[.int .i64 0, .int .i64 0, .int .i64 0, .int .i64 0, .int .i64 0, .int .i64 0, .int .i64 0, .int .i64 0] 73)).cell? ⟨w.heap.size + 1, 4, none⟩ = some (.int .i64 0) := cell_alloc _ (cell_new (by simp) rfl)
    have rf4 : (((w.alloc (.cells #[.int .i64 (h 0).re, .int .i64 (h 0).im, .int .i64 (h 1).re, .int .i64 (h 1).im, .int .i64 (h 2).re, .int .i64 (h 2).im, .int .i64 (h 3).re, .int .i64 (h 3).im] 73)).alloc (.cells #[.int .i64 0, .int .i64 0, .int .i64 0, .int .i64 0, .int .i64 0, .int .i64 0, .int .i64 0, .int .i64 0] 73)).alloc (.cells #[.int .i64 0, .int .i64 0, .int .i64 0, .int .i64 0, .int .i64 0, .int .i64 0, .int .i64 0, .int .i64 0] 73)).frozen? ⟨w.heap.size + 1, 4, none⟩ = false := frozen_alloc _ (by first | (simp; done) | (simp; omega)) (frozen_new (by simp))
    have r5 : (((w.alloc (.cells #[.int .i64 (h 0).re, .int .i64 (h 0).im, .int .i64 (h 1).re, .int .i64 (h 1).im, .int .i64 (h 2).re, .int .i64 (h 2).im, .int .i64 (h 3).re, .int .i64 (h 3).im] 73)).alloc (.cells #[.int .i64 0, .int .i64 0, .int .i64 0, .int .i64 0, .int .i64 0, .int .i64 0, .int .i64 0, .int .i64 0] 73)).alloc (.cells #[.int .i64 0, .int .i64 0, .int .i64 0, .int .i64 0, .int .i64 0, .int .i64 0, .int .i64 0, .int .i64 0] 73)).cell? ⟨w.heap.size + 1, 5, none⟩ = some (.int .i64 0) := cell_alloc _ (cell_new (by simp) rfl)
    have rf5 : (((w.alloc (.cells #[.int .i64 (h 0).re, .int .i64 (h 0).im, .int .i64 (h 1).re, .int .i64 (h 1).im, .int .i64 (h 2).re, .int .i64 (h 2).im, .int .i64 (h 3).re, .int .i64 (h 3).im] 73)).alloc (.cells #[.int .i64 0, .int .i64 0, .int .i64 0, .int .i64 0, .int .i64 0, .int .i64 0, .int .i64 0, .int .i64 0] 73)).alloc (.cells #[.int .i64 0, .int .i64 0, .int .i64 0, .int .i64 0, .int .i64 0, .int .i64 0, .int .i64 0, .int .i64 0] 73)).frozen? ⟨w.heap.size + 1, 5, none⟩ = false := frozen_alloc _ (by first | (simp; done) | (simp; omega)) (frozen_new (by simp))
    have r6 : (((w.alloc (.cells #[.int .i64 (h 0).re, .int .i64 (h 0).im, .int .i64 (h 1).re, .int .i64 (h 1).im, .int .i64 (h 2).re, .int .i64 (h 2).im, .int .i64 (h 3).re, .int .i64 (h 3).im] 73)).alloc (.cells #[.int .i64 0, .int .i64 0, .int .i64 0, .int .i64 0, .int .i64 0, .int .i64 0, .int .i64 0, .int .i64 0] 73)).alloc (.cells #[.int .i64 0, .int .i64 0, .int .i64 0, .int .i64 0, .int .i64 0, .int .i64 0, .int .i64 0, .int .i64 0] 73)).cell? ⟨w.heap.size + 1, 6, none⟩ = some (.int .i64 0) := cell_alloc _ (cell_new (by simp) rfl)
    have rf6 : (((w.alloc (.cells #[.int .i64 (h 0).re, .int .i64 (h 0).im, .int .i64 (h 1).re, .int .i64 (h 1).im, .int .i64 (h 2).re, .int .i64 (h 2).im, .int .i64 (h 3).re, .int .i64 (h 3).im] 73)).alloc (.cells #[.int .i64 0, .int .i64 0, .int .i64 0, .int .i64 0, .int .i64 0, .int .i64 0, .int .i64 0, .int .i64 0] 73)).alloc (.cells #[.int .i64 0, .int .i64 0, .int .i64 0, .int .i64 0, .int .i64 0, .int .i64 0, .int .i64 0, .int .i64 0] 73)).frozen? ⟨w.heap.size + 1, 6, none⟩ = false := frozen_alloc _ (by first | (simp; done) | (simp; omega)) (frozen_new (by simp))
    have r7 : (((w.alloc (.cells #[.int .i64 (h 0).re, .int .i64 (h 0).im, .int .i64 (h 1).re, .int .i64 (h 1).im, .int .i64 (h 2).re, .int .i64 (h 2).im, .int .i64 (h 3).re, .int .i64 (h 3).im] 73)).alloc (.cells #[.int .i64 0, .int .i64 0, .int .i64 0, .int .i64 0, .int .i64 0, .int .i64 0, .int .i64 0, .int .i64 0] 73)).alloc (.cells #[.int .i64 0, .int .i64 0, .int .i64 0, .int .i64 0, .int .i64 0, .int .i64 0, .int .i64 0, .int .i64 0] 73)).cell? ⟨w.heap.size + 1, 7, none⟩ = some (.int .i64 0) := cell_alloc _ (cell_new (by simp) rfl)
    have rf7 : (((w.alloc (.cells #[.int .i64 (h 0).re, .int .i64 (h 0).im, .int .i64 (h 1).re, .int .i64 (h 1).im, .int .i64 (h 2).re, .int .i64 (h 2).im, .int .i64 (h 3).re, .int .i64 (h 3).im] 73)).alloc (.cells #[.int .i64 0, .int .i64 0, .int .i64 0, .int .i64 0, .int .i64 0, .int .i64 0, .int .i64 0, .int .i64 0] 73)).alloc (.cells #[.int .i64 0, .int .i64 0, .int .i64 0, .int .i64 0, .int .i64 0, .int .i64 0, .int .i64 0, .int .i64 0] 73)).frozen? ⟨w.heap.size + 1, 7, none⟩ = false := frozen_alloc _ (by first | (simp; done) | (simp; omega)) (frozen_new (by simp))
    have zr : w.heap.size + 1 < (((w.alloc (.cells #[.int .i64 (h 0).re, .int .i64 (h 0).im, .int .i64 (h 1).re, .int .i64 (h 1).im, .int .i64 (h 2).re, .int .i64 (h 2).im, .int .i64 (h 3).re, .int .i64 (h 3).im] 73)).alloc (.cells #[.int .i64 0, .int .i64 0, .int .i64 0, .int .i64 0, .int .i64 0, .int .i64 0, .int .i64 0, .int .i64 0] 73)).alloc (.cells #[.int .i64 0, .int .i64 0, .int .i64 0, .int .i64 0, .int .i64 0, .int .i64 0, .int .i64 0, .int .i64 0] 73)).heap.size := World.block_lt_of_cell? _ _ r0
    have o0 : (((w.alloc (.cells #[.int .i64 (h 0).re, .int .i64 (h 0).im, .int .i64 (h 1).re, .int .i64 (h 1).im, .int .i64 (h 2).re, .int .i64 (h 2).im, .int .i64 (h 3).re, .int .i64 (h 3).im] 73)).alloc (.cells #[.int .i64 0, .int .i64 0, .int .i64 0, .int .i64 0, .int .i64 0, .int .i64 0, .int .i64 0, .int .i64 0] 73)).alloc (.cells #[.int .i64 0, .int .i64 0, .int .i64 0, .int .i64 0, .int .i64 0, .int .i64 0, .int .i64 0, .int .i64 0] 73)).cell? ⟨w.heap.size + 1 + 1, 0, none⟩ = some (.int .i64 0) := cell_new (by simp) rfl
    have o1 : (((w.alloc (.cells #[.int .i64 (h 0).re, .int .i64 (h 0).im, .int .i64 (h 1).re, .int .i64 (h 1).im, .int .i64 (h 2).re, .int .i64 (h 2).im, .int .i64 (h 3).re, .int .i64 (h 3).im] 73)).alloc (.cells #[.int .i64 0, .int .i64 0, .int .i64 0, .int .i64 0, .int .i64 0, .int .i64 0, .int .i64 0, .int .i64 0] 73)).alloc (.cells #[.int .i64 0, .int .i64 0, .int .i64 0, .int .i64 0, .int .i64 0, .int .i64 0, .int .i64 0, .int .i64 0] 73)).cell? ⟨w.heap.size + 1 + 1, 1, none⟩ = some (.int .i64 0) := cell_new (by simp) rfl
    have o2 : (((w.alloc (.cells #[.int .i64 (h 0).re, .int .i64 (h 0).im, .int .i64 (h 1).re, .int .i64 (h 1).im, .int .i64 (h 2).re, .int .i64 (h 2).im, .int .i64 (h 3).re, .int .i64 (h 3).im] 73)).alloc (.cells #[.int .i64 0, .int .i64 0, .int .i64 0, .int .i64 0, .int .i64 0, .int .i64 0, .int .i64 0, .int .i64 0] 73)).alloc (.cells #[.int .i64 0, .int .i64 0, .int .i64 0, .int .i64 0, .int .i64 0, .int .i64 0, .int .i64 0, .int .i64 0] 73)).cell? ⟨w.heap.size + 1 + 1, 2, none⟩ = some (.int .i64 0) := cell_new (by simp) rfl
    have o3 : (((w.alloc (.cells #[.int .i64 (h 0).re, .int .i64 (h 0).im, .int .i64 (h 1).re, .int .i64 (h 1).im, .int .i64 (h 2).re, .int .i64 (h 2).im, .int .i64 (h 3).re, .int .i64 (h 3).im] 73)).alloc (.cells #[.int .i64 0, .int .i64 0, .int .i64 0, .int .i64 0, .int .i64 0, .int .i64 0, .int .i64 0, .int .i64 0] 73)).alloc (.cells #[.int .i64 0, .int .i64 0, .int .i64 0, .int .i64 0, .int .i64 0, .int .i64 0, .int .i64 0, .int .i64 0] 73)).cell? ⟨w.heap.size + 1 + 1, 3, none⟩ = some (.int .i64 0) := cell_new (by simp) rfl
    have o4 : (((w.alloc (.cells #[.int .i64 (h 0).re, .int .i64 (h 0).im, .int .i64 (h 1).re, .int .i64 (h 1).im, .int .i64 (h 2).re, .int .i64 (h 2).im, .int .i64 (h 3).re, .int .i64 (h 3).im] 73)).alloc (.cells #[.int .i64 0, .int .i64 0, .int .i64 0, .int .i64 0, .int .i64 0, .int .i64 0, .int .i64 0, .int .i64 0] 73)).alloc (.cells #[.int .i64 0, .int .i64 0, .int .i64 0, .int .i64 0, .int .i64 0, .int .i64 0, .int .i64 0, .int .i64 0] 73)).cell? ⟨w.heap.size + 1 + 1, 4, none⟩ = some (.int .i64 0) := cell_new (by simp) rfl
    have o5 : (((w.alloc (.cells #[.int .i64 (h 0).re, .int .i64 (h 0).im, .int .i64 (h 1).re, .int .i64 (h 1).im, .int .i64 (h 2).re, .int .i64 (h 2).im, .int .i64 (h 3).re, .int .i64 (h 3).im] 73)).alloc (.cells #[.int .i64 0, .int .i64 0, .int .i64 0, .int .i64 0, .int .i64 0, .int .i64 0, .int .i64 0, .int .i64 0] 73)).alloc (.cells #[.int .i64 0, .int .i64 0, .int .i64 0, .int .i64 0, .int .i64 0, .int .i64 0, .int .i64 0, .int .i64 0] 73)).cell? ⟨w.heap.size + 1 + 1, 5, none⟩ = some (.int .i64 0) := cell_new (by simp) rfl
    have o6 : (((w.alloc (.cells #[.int .i64 (h 0).re, .int .i64 (h 0).im, .int .i64 (h 1).re, .int .i64 (h 1).im, .int .i64 (h 2).re, .int .i64 (h 2).im, .int .i64 (h 3).re, .int .i64 (h 3).im] 73)).alloc (.cells #[.int .i64 0, .int .i64 0, .int .i64 0, .int .i64 0, .int .i64 0, .int .i64 0, .int .i64 0, .int .i64 0] 73)).alloc (.cells #[.int .i64 0, .int .i64 0, .int .i64 0, .int .i64 0, .int .i64 0, .int .i64 0, .int .i64 0, .int .i64 0] 73)).cell? ⟨w.heap.size + 1 + 1, 6, none⟩ = some (.int .i64 0) := cell_new (by simp) rfl
    have o7 : (((w.alloc (.cells #[.int .i64 (h 0).re, .int .i64 (h 0).im, .int .i64 (h 1).re, .int .i64 (h 1).im, .int .i64 (h 2).re, .int .i64 (h 2).im, .int .i64 (h 3).re, .int .i64 (h 3).im] 73)).alloc (.cells #[.int .i64 0, .int .i64 0, .int .i64 0, .int .i64 0, .int .i64 0, .int .i64 0, .int .i64 0, .int .i64 0] 73)).alloc (.cells #[.int .i64 0, .int .i64 0, .int .i64 0, .int .i64 0, .int .i64 0, .int .i64 0, .int .i64 0, .int .i64 0] 73)).cell? ⟨w.heap.size + 1 + 1, 7, none⟩ = some (.int .i64 0) := cell_new (by simp) rfl
    have zo : w.heap.size + 1 + 1 < (((w.alloc (.cells #[.int .i64 (h 0).re, .int .i64 (h 0).im, .int .i64 (h 1).re, .int .i64 (h 1).im, .int .i64 (h 2).re, .int .i64 (h 2).im, .int .i64 (h 3).re, .int .i64 (h 3).im] 73)).alloc (.cells #[.int .i64 0, .int .i64 0, .int .i64 0, .int .i64 0, .int .i64 0, .int .i64 0, .int .i64 0, .int .i64 0] 73)).alloc (.cells #[.int .i64 0, .int .i64 0, .int .i64 0, .int .i64 0, .int .i64 0, .int .i64 0, .int .i64 0, .int .i64 0] 73)).heap.size := World.block_lt_of_cell? _ _ o0
    generalize (((w.alloc (.cells #[.int .i64 (h 0).re, .int .i64 (h 0).im, .int .i64 (h 1).re, .int .i64 (h 1).im, .int .i64 (h 2).re, .int .i64 (h 2).im, .int .i64 (h 3).re, .int .i64 (h 3).im] 73)).alloc (.cells #[.int .i64 0, .int .i64 0, .int .i64 0, .int .i64 0, .int .i64 0, .int .i64 0, .int .i64 0, .int .i64 0] 73)).alloc (.cells #[.int .i64 0, .int .i64 0, .int .i64 0, .int .i64 0, .int .i64 0, .int .i64 0, .int .i64 0, .int .i64 0] 73)) = w0 at *
    have hA : GsAt w0 (some ⟨w.heap.size, 0, none⟩) (sL h) := rows_blk hk rfl
    clear hk
    go_wp2_with (fail)
    refine (HE.out _ _ hA).mono ?_
    rintro e w1 ⟨rfl, hb1⟩
    have h1 : Below w.heap.size w w1 := (hb0).trans ((hb1).mono (hb0).size)
    replace rf0 := frozen_below hb1 (World.block_lt_of_cell? _ _ r0) rf0
    replace rf1 := frozen_below hb1 (World.block_lt_of_cell? _ _ r1) rf1
    replace rf2 := frozen_below hb1 (World.block_lt_of_cell? _ _ r2) rf2
    replace rf3 := frozen_below hb1 (World.block_lt_of_cell? _ _ r3) rf3
    replace rf4 := frozen_below hb1 (World.block_lt_of_cell? _ _ r4) rf4
    replace rf5 := frozen_below hb1 (World.block_lt_of_cell? _ _ r5) rf5
    replace rf6 := frozen_below hb1 (World.block_lt_of_cell? _ _ r6) rf6
    replace rf7 := frozen_below hb1 (World.block_lt_of_cell? _ _ r7) rf7
    replace r0 := cell_below' hb1 r0
    replace r1 := cell_below' hb1 r1
    replace r2 := cell_below' hb1 r2
    replace r3 := cell_below' hb1 r3
    replace r4 := cell_below' hb1 r4
    replace r5 := cell_below' hb1 r5
    replace r6 := cell_below' hb1 r6
    replace r7 := cell_below' hb1 r7
    replace zr := Nat.lt_of_lt_of_le zr (hb1).size
    replace o0 := cell_below' hb1 o0
    replace o1 := cell_below' hb1 o1
    replace o2 := cell_below' hb1 o2
    replace o3 := cell_below' hb1 o3
    replace o4 := cell_below' hb1 o4
    replace o5 := cell_below' hb1 o5
    replace o6 := cell_below' hb1 o6
    replace o7 := cell_below' hb1 o7
    replace zo := Nat.lt_of_lt_of_le zo (hb1).size
    clear hb1 hb0
    go_wp2_with (fail)
    obtain ⟨q0, q1, q2, q3, q4, q5, q6, q7⟩ := set8 (v0 := .int .i64 0) (v1 := .int .i64 0) (v2 := .int .i64 0) (v3 := .int .i64 0) (v4 := .int .i64 0) (v5 := .int .i64 0) (v6 := .int .i64 0) (v7 := .int .i64 0) r0 r1 r2 r3 r4 r5 r6 r7
    refine bodyPost_ret (v := .tuple #[.agg #[.int .i64 0, .int .i64 0, .int .i64 0, .int .i64 0, .int .i64 0, .int .i64 0, .int .i64 0, .int .i64 0], .int .i64 2]) (by simp [results, Tryd.results45, go_sem, q0, q1, q2, q3, q4, q5, q6, q7]) rfl ?_
    rw [HZ.out, HZ1.out]
    have hle : w.heap.size ≤ w.heap.size + 1 := by omega
    exact ⟨rfl, below_set _ hle (below_set _ hle (below_set _ hle (below_set _ hle (below_set _ hle (below_set _ hle (below_set _ hle (below_set _ hle (h1))))))))⟩
  rw [hok, if_pos rfl] at HE
  have HT := Lib.hid (fun W A (hA : GsAt W A (sL h)) => transform_any A (sL h) 4 1 1000000 W (by show 4 ≤ 64; decide) (by decide) (by decide) (by decide) (by decide) (sL_sz hok) hA)
  rw [hlen] at HT
  have HF : Hid (∀ q, q < 4 → dB (sV h q) = false → smsE h = 3 ∧ gv4 (smsV h) = .agg #[.int .i64 0, .int .i64 0, .int .i64 0, .int .i64 0, .int .i64 0, .int .i64 0, .int .i64 0, .int .i64 0]) := Lib.hid fun q hq hd => by
    obtain ⟨a, b⟩ := sms_3 hok (sDv_not hq hd)
    exact ⟨a, by simp only [gv4, b]; rfl⟩
  have HG : Hid ((∀ q, q < 4 → dB (sV h q) = true) → smsE h = 0 ∧ gv4 (smsV h) = gv4 (cutS h 4)) := Lib.hid fun k => by
    obtain ⟨a, b⟩ := sms_0 hok (sDv_of k)
    exact ⟨a, by simp only [gv4, b]; rfl⟩
  have HSZ := Lib.hid (fun q => sV_sz hok q)
  have hlp : ∀ n : Nat, lnK (sL h) 1 n 4 = sV h n := fun n => rfl
  have HLP := Lib.hid hlp
  have HCV : Hid (∀ m j, cutS h m j = if j < m then gover (sV h j) 4 else gz) := Lib.hid fun m j => rfl
  clear hok hlen hlp
  go_enter Tryd.func45, Tryd.ntmps45
  go_upto_region 2 with (fail)
  have hb0 : Below w.heap.size w (((w.alloc (.cells #[.int .i64 (h 0).re, .int .i64 (h 0).im, .int .i64 (h 1).re, .int .i64 (h 1).im, .int .i64 (h 2).re, .int .i64 (h 2).im, .int .i64 (h 3).re, .int .i64 (h 3).im] 73)).alloc (.cells #[.int .i64 0, .int .i64 0, .int .i64 0, .int .i64 0, .int .i64 0, .int .i64 0, .int .i64 0, .int .i64 0] 73)).alloc (.cells #[.int .i64 0, .int .i64 0, .int .i64 0, .int .i64 0, .int .i64 0, .int .i64 0, .int .i64 0, .int .i64 0] 73)) := below_alloc _ (Nat.le_refl _) (below_alloc _ (Nat.le_refl _) (below_alloc _ (Nat.le_refl _) (Below.refl _ _)))
  have h0 : (((w.alloc (.cells #[.int .i64 (h 0).re, .int .i64 (h 0).im, .int .i64 (h 1).re, .int .i64 (h 1).im, .int .i64 (h 2).re, .int .i64 (h 2).im, .int .i64 (h 3).re, .int .i64 (h 3).im] 73)).alloc (.cells #[.int .i64 0, .int .i64 0, .int .i64 0, .int .i64 0, .int .i64 0, .int .i64 0, .int .i64 0, .int .i64 0] 73)).alloc (.cells #[.int .i64 0, .int .i64 0, .int .i64 0, .int .i64 0, .int .i64 0, .int .i64 0, .int .i64 0, .int .i64 0] 73)).cell? ⟨w.heap.size, 0, none⟩ = some (.int .i64 (h 0).re) := cell_alloc _ (cell_alloc _ (cell_new (by simp) rfl))
  have h1 : (((w.alloc (.cells #[.int .i64 (h 0).re, .int .i64 (h 0).im, .int .i64 (h 1).re, .int .i64 (h 1).im, .int .i64 (h 2).re, .int .i64 (h 2).im, .int .i64 (h 3).re, .int .i64 (h 3).im] 73)).alloc (.cells #[.int .i64 0, .int .i64 0, .int .i64 0, .int .i64 0, .int .i64 0, .int .i64 0, .int .i64 0, .int .i64 0] 73)).alloc (.cells #[.int .i64 0, .int .i64 0, .int .i64 0, .int .i64 0, .int .i64 0, .int .i64 0, .int .i64 0, .int .i64 0] 73)).cell? ⟨w.heap.size, 1, none⟩ = some (.int .i64 (h 0).im) := cell_alloc _ (cell_alloc _ (cell_new (by simp) rfl))
  have h2 : (((w.alloc (.cells #[.int .i64 (h 0).re, .int .i64 (h 0).im, .int .i64 (h 1).re, .int .i64 (h 1).im, .int .i64 (h 2).re, .int .i64 (h 2).im, .int .i64 (h 3).re, .int .i64 (h 3).im] 73)).alloc (.cells #[.int .i64 0, .int .i64 0, .int .i64 0, .int .i64 0, .int .i64 0, .int .i64 0, .int .i64 0, .int .i64 0] 73)).alloc (.cells #[.int .i64 0, .int .i64 0, .int .i64 0, .int .i64 0, .int .i64 0, .int .i64 0, .int .i64 0, .int .i64 0] 73)).cell? ⟨w.heap.size, 2, none⟩ = some (.int .i64 (h 1).re) := cell_alloc _ (cell_alloc _ (cell_new (by simp) rfl))
  have h3 : (((w.alloc (.cells #[.int .i64 (h 0).re, .int .i64 (h 0).im, .int .i64 (h 1).re, .int .i64 (h 1).im, .int .i64 (h 2).re, .int .i64 (h 2).im, .int .i64 (h 3).re, .int .i64 (h 3).im] 73)).alloc (.cells #[.int .i64 0, .int .i64 0, .int .i64 0, .int .i64 0, .int .i64 0, .int .i64 0, .int .i64 0, .int .i64 0] 73)).alloc (.cells #[.int .i64 0, .int .i64 0, .int .i64 0, .int .i64 0, .int .i64 0, .int .i64 0, .int .i64 0, .int .i64 0] 73)).cell? ⟨w.heap.size, 3, none⟩ = some (.int .i64 (h 1).im) := cell_alloc _ (cell_alloc _ (cell_new (by simp) rfl))
  have h4 : (((w.alloc (.cells #[.int .i64 (h 0).re, .int .i64 (h 0).im, .int .i64 (h 1).re, .int .i64 (h 1).im, .int .i64 (h 2).re, .int .i64 (h 2).im, .int .i64 (h 3).re, .int .i64 (h 3).im] 73)).alloc (.cells #[.int .i64 0, .int .i64 0, .int .i64 0, .int .i64 0, .int .i64 0, .int .i64 0, .int .i64 0, .int .i64 0] 73)).alloc (.cells #[.int .i64 0, .int .i64 0, .int .i64 0, .int .i64 0, .int .i64 0, .int .i64 0, .int .i64 0, .int .i64 0] 73)).cell? ⟨w.heap.size, 4, none⟩ = some (.int .i64 (h 2).re) := cell_alloc _ (cell_alloc _ (cell_new (by simp) rfl))
  have h5 : (((w.alloc (.cells #[.int .i64 (h 0).re, .int .i64 (h 0).im, .int .i64 (h 1).re, .int .i64 (h 1).im, .int .i64 (h 2).re, .int .i64 (h 2).im, .int .i64 (h 3).re, .int .i64 (h 3).im] 73)).alloc (.cells #[.int .i64 0, .int .i64 0, .int .i64 0, .int .i64 0, .int .i64 0, .int .i64 0, .int .i64 0, .int .i64 0] 73)).alloc (.cells #[.int .i64 0, .int .i64 0, .int .i64 0, .int .i64 0, .int .i64 0, .int .i64 0, .int .i64 0, .int .i64 0] 73)).cell? ⟨w.heap.size, 5, none⟩ = some (.int .i64 (h 2).im) := cell_alloc _ (cell_alloc _ (cell_new (by simp) rfl))
  have h6 : (((w.alloc (.cells #[.int .i64 (h 0).re, .int .i64 (h 0).im, .int .i64 (h 1).re, .int .i64 (h 1).im, .int .i64 (h 2).re, .int .i64 (h 2).im, .int .i64 (h 3).re, .int .i64 (h 3).im] 73)).alloc (.cells #[.int .i64 0, .int .i64 0, .int .i64 0, .int .i64 0, .int .i64 0, .int .i64 0, .int .i64 0, .int .i64 0] 73)).alloc (.cells #[.int .i64 0, .int .i64 0, .int .i64 0, .int .i64 0, .int .i64 0, .int .i64 0, .int .i64 0, .int .i64 0] 73)).cell? ⟨w.heap.size, 6, none⟩ = some (.int .i64 (h 3).re) := cell_alloc _ (cell_alloc _ (cell_new (by simp) rfl))
  have h7 : (((w.alloc (.cells #[.int .i64 (h 0).re, .int .i64 (h 0).im, .int .i64 (h 1).re, .int .i64 (h 1).im, .int .i64 (h 2).re, .int .i64 (h 2).im, .int .i64 (h 3).re, .int .i64 (h 3).im] 73)).alloc (.cells #[.int .i64 0, .int .i64 0, .int .i64 0, .int .i64 0, .int .i64 0, .int .i64 0, .int .i64 0, .int .i64 0] 73)).alloc (.cells #[.int .i64 0, .int .i64 0, .int .i64 0, .int .i64 0, .int .i64 0, .int .i64 0, .int .i64 0, .int .i64 0] 73)).cell? ⟨w.heap.size, 7, none⟩ = some (.int .i64 (h 3).im) := cell_alloc _ (cell_alloc _ (cell_new (by simp) rfl))
  have hk : (((w.alloc (.cells #[.int .i64 (h 0).re, .int .i64 (h 0).im, .int .i64 (h 1).re, .int .i64 (h 1).im, .int .i64 (h 2).re, .int .i64 (h 2).im, .int .i64 (h 3).re, .int .i64 (h 3).im] 73)).alloc (.cells #[.int .i64 0, .int .i64 0, .int .i64 0, .int .i64 0, .int .i64 0, .int .i64 0, .int .i64 0, .int .i64 0] 73)).alloc (.cells #[.int .i64 0, .int .i64 0, .int .i64 0, .int .i64 0, .int .i64 0, .int .i64 0, .int .i64 0, .int .i64 0] 73)).heap[w.heap.size]? = some (.cells #[.int .i64 (h 0).re, .int .i64 (h 0).im, .int .i64 (h 1).re, .int .i64 (h 1).im, .int .i64 (h 2).re, .int .i64 (h 2).im, .int .i64 (h 3).re, .int .i64 (h 3).im] 73) := blk_alloc _ (blk_alloc _ (blk_new (by simp)))
  have zh : w.heap.size < (((w.alloc (.cells #[.int .i64 (h 0).re, .int .i64 (h 0).im, .int .i64 (h 1).re, .int .i64 (h 1).im, .int .i64 (h 2).re, .int .i64 (h 2).im, .int .i64 (h 3).re, .int .i64 (h 3).im] 73)).alloc (.cells #[.int .i64 0, .int .i64 0, .int .i64 0, .int .i64 0, .int .i64 0, .int .i64 0, .int .i64 0, .int .i64 0] 73)).alloc (.cells #[.int .i64 0, .int .i64 0, .int .i64 0, .int .i64 0, .int .i64 0, .int .i64 0, .int .i64 0, .int .i64 0] 73)).heap.size := World.block_lt_of_cell? _ _ h0
  have r0 : (((w.alloc (.cells #[.int .i64 (h 0).re, .int .i64 (h 0).im, .int .i64 (h 1).re, .int .i64 (h 1).im, .int .i64 (h 2).re, .int .i64 (h 2).im, .int .i64 (h 3).re, .int .i64 (h 3).im] 73)).alloc (.cells #[.int .i64 0, .int .i64 0, .int .i64 0, .int .i64 0, .int .i64 0, .int .i64 0, .int .i64 0, .int .i64 0] 73)).alloc (.cells #[.int .i64 0, .int .i64 0, .int .i64 0, .int .i64 0, .int .i64 0, .int .i64 0, .int .i64 0, .int .i64 0] 73)).cell? ⟨w.heap.size + 1, 0, none⟩ = some (.int .i64 0) := cell_alloc _ (cell_new (by simp) rfl)
  have rf0 : (((w.alloc (.cells #[.int .i64 (h 0).re, .int .i64 (h 0).im, .int .i64 (h 1).re, .int .i64 (h 1).im, .int .i64 (h 2).re, .int .i64 (h 2).im, .int .i64 (h 3).re, .int .i64 (h 3).im] 73)).alloc (.cells #[.int .i64 0, .int .i64 0, .int .i64 0, .int .i64 0, .int .i64 0, .int .i64 0, .int .i64 0, .int .i64 0] 73)).alloc (.cells #[.int .i64 0, .int .i64 0, .int .i64 0, .int .i64 0, .int .i64 0, .int .i64 0, .int .i64 0, .int .i64 0] 73)).frozen? ⟨w.heap.size + 1, 0, none⟩ = false := frozen_alloc _ (by first | (simp; done) | (simp; omega)) (frozen_new (by simp))
  have r1 : (((w.alloc (.cells #[.int .i64 (h 0).re, .int .i64 (h 0).im, .int .i64 (h 1).re, .int .i64 (h 1).im, .int .i64 (h 2).re, .int .i64 (h 2).im, .int .i64 (h 3).re, .int .i64 (h 3).im] 73)).alloc (.cells #[.int .i64 0, .int .i64 0, .int .i64 0, .int .i64 0, .int .i64 0, .int .i64 0, .int .i64 0, .int .i64 0] 73)).alloc (.cells #[.int .i64 0, .int .i64 0, .int .i64 0, .int .i64 0, .int .i64 0, .int .i64 0, .int .i64 0, .int .i64 0] 73)).cell? ⟨w.heap.size + 1, 1, none⟩ = some (.int .i64 0) := cell_alloc _ (cell_new (by simp) rfl)
  have rf1 : (((w.alloc (.cells #[.int .i64 (h 0).re, .int .i64 (h 0).im, .int .i64 (h 1).re, .int .i64 (h 1).im, .int .i64 (h 2).re, .int .i64 (h 2).im, .int .i64 (h 3).re, .int .i64 (h 3).im] 73)).alloc (.cells #[.int .i64 0, .int .i64 0, .int .i64 0, .int .i64 0, .int .i64 0, .int .i64 0, .int .i64 0, .int .i64 0] 73)).alloc (.cells #[.int .i64 0, .int .i64 0, .int .i64 0, .int .i64 0, .int .i64 0, .int .i64 0, .int .i64 0, .int .i64 0] 73)).frozen? ⟨w.heap.size + 1, 1, none⟩ = false := frozen_alloc _ (by first | (simp; done) | (simp; omega)) (frozen_new (by simp))
  have r2 : (((w.alloc (.cells #[.int .i64 (h 0).re, .int .i64 (h 0).im, .int .i64 (h 1).re, .int .i64 (h 1).im, .int .i64 (h 2).re, .int .i64 (h 2).im, .int .i64 (h 3).re, .int .i64 (h 3).im] 73)).alloc (.cells #[.int .i64 0, .int .i64 0, .int .i64 0, .int .i64 0, .int .i64 0, .int .i64 0, .int .i64 0, .int .i64 0] 73)).alloc (.cells #[.int .i64 0, .int .i64 0, .int .i64 0, .int .i64 0, .int .i64 0, .int .i64 0, .int .i64 0, .int .i64 0] 73)).cell? ⟨w.heap.size + 1, 2, none⟩ = some (.int .i64 0) := cell_alloc _ (cell_new (by simp) rfl)
  have rf2 : (((w.alloc (.cells #[.int .i64 (h 0).re, .int .i64 (h 0).im, .int .i64 (h 1).re, .int .i64 (h 1).im, .int .i64 (h 2).re, .int .i64 (h 2).im, .int .i64 (h 3).re, .int .i64 (h 3).im] 73)).alloc (.cells #[.int .i64 0, .int .i64 0, .int .i64 0, .int .i64 0, .int .i64 0, .int .i64 0, .int .i64 0, .int .i64 0] 73)).alloc (.cells #[.int .i64 0, .int .i64 0, .int .i64 0, .int .i64 0, .int .i64 0, .int .i64 0, .int .i64 0, .int .i64 0] 73)).frozen? ⟨w.heap.size + 1, 2, none⟩ = false := frozen_alloc _ (by first | (simp; done) | (simp; omega)) (frozen_new (by simp))
  have r3 : (((w.alloc (.cells #[.int .i64 (h 0).re, .int .i64 (h 0).im, .int .i64 (h 1).re, .int .i64 (h 1).im, .int .i64 (h 2).re, .int .i64 (h 2).im, .int .i64 (h 3).re, .int .i64 (h 3).im] 73)).alloc (.cells #[.int .i64 0, .int .i64 0, .int .i64 0, .int .i64 0, .int .i64 0, .int .i64 0, .int .i64 0, .int .i64 0] 73)).alloc (.cells #[.int .i64 0, .int .i64 0, .int .i64 0, .int .i64 0, .int .i64 0, .int .i64 0, .int .i64 0, .int .i64 0] 73)).cell? ⟨w.heap.size + 1, 3, none⟩ = some (.int .i64 0) := cell_alloc _ (cell_new (by simp) rfl)
  have rf3 : (((w.alloc (.cells #[.int .i64 (h 0).re, .int .i64 (h 0).im, .int .i64 (h 1).re, .int .i64 (h 1).im, .int .i64 (h 2).re, .int .i64 (h 2).im, .int .i64 (h 3).re, .int .i64 (h 3).im] 73)).alloc (.cells #[.int .i64 0, .int .i64 0, .int .i64 0, .int .i64 0, .int .i64 0, .int .i64 0, .int .i64 0, .int .i64 0] 73)).alloc (.cells #[.int .i64 0, .int .i64 0, .int .i64 0, .int .i64 0, .int .i64 0, .int .i64 0, .int .i64 0, .int .i64 0] 73)).frozen? ⟨w.heap.size + 1, 3, none⟩ = false := frozen_alloc _ (by first | (simp; done) | (simp; omega)) (frozen_new (by simp))
  have r4 : (((w.alloc (.cells #[.int .i64 (h 0).re, .int .i64 (h 0).im, .int .i64 (h 1).re, .int .i64 (h 1).im, .int .i64 (h 2).re, .int .i64 (h 2).im, .int .i64 (h 3).re, .int .i64 (h 3).im] 73)).alloc (.cells #[.int .i64 0, .int .i64 0, .int .i64 0, .int .i64 0, .int .i64 0, .int .i64 0, .int .i64 0, .int .i64 0] 73)).alloc (.cells #[.int .i64 0, .int .i64 0, .int .i64 0, .int .i64 0, .int .i64 0, .int .i64 0, .int .i64 0, .int .i64 0] 73)).cell? ⟨w.heap.size + 1, 4, none⟩ = some (.int .i64 0) := cell_alloc _ (cell_new (by simp) rfl)
  have rf4 : (((w.alloc (.cells #[.int .i64 (h 0).re, .int .i64 (h 0).im, .int .i64 (h 1).re, .int .i64 (h 1).im, .int .i64 (h 2).re, .int .i64 (h 2).im, .int .i64 (h 3).re, .int .i64 (h 3).im] 73)).alloc (.cells #[.int .i64 0, .int .i64 0, .int .i64 0, .int .i64 0, .int .i64 0, .int .i64 0, .int .i64 0, .int .i64 0] 73)).alloc (.cells #[.int .i64 0, .int .i64 0, .int .i64 0, .int .i64 0, .int .i64 0, .int .i64 0, .int .i64 0, .int .i64 0] 73)).frozen? ⟨w.heap.size + 1, 4, none⟩ = false := frozen_alloc _ (by first | (simp; done) | (simp; omega)) (frozen_new (by simp))
  have r5 : (((w.alloc (.cells #[.int .i64 (h 0).re, .int .i64 (h 0).im, .int .i64 (h 1).re, .int .i64 (h 1).im, .int .i64 (h 2).re, .int .i64 (h 2).im, .int .i64 (h 3).re, .int .i64 (h 3).im] 73)).alloc (.cells #[.int .i64 0, .int .i64 0, .int .i64 0, .int .i64 0, .int .i64 0, .int .i64 0, .int .i64 0, .int .i64 0] 73)).alloc (.cells #[.int .i64 0, .int .i64 0, .int .i64 0, .int .i64 0, .int .i64 0, .int .i64 0, .int .i64 0, .int .i64 0] 73)).cell? ⟨w.heap.size + 1, 5, none⟩ = some (.int .i64 0) := cell_alloc _ (cell_new (by simp) rfl)
  have rf5 : (((w.alloc (.cells #[.int .i64 (h 0).re, .int .i64 (h 0).im, .int .i64 (h 1).re, .int .i64 (h 1).im, .int .i64 (h 2).re, .int .i64 (h 2).im, .int .i64 (h 3).re, .int .i64 (h 3).im] 73)).alloc (.cells #[.int .i64 0, .int .i64 0, .int .i64 0, .int .i64 0, .int .i64 0, .int .i64 0, .int .i64 0, .int .i64 0] 73)).alloc (.cells #[.int .i64 0, .int .i64 0, .int .i64 0, .int .i64 0, .int .i64 0, .int .i64 0, .int .i64 0, .int .i64 0] 73)).frozen? ⟨w.heap.size + 1, 5, none⟩ = false := frozen_alloc _ (by first | (simp; done) | (simp; omega)) (frozen_new (by simp))
  have r6 : (((w.alloc (.cells #[.int .i64 (h 0).re, .int .i64 (h 0).im, .int .i64 (h 1).re, .int .i64 (h 1).im, .int .i64 (h 2).re, .int .i64 (h 2).im, .int .i64 (h 3).re, .int .i64 (h 3).im] 73)).alloc (.cells #[.int .i64 0, .int .i64 0, .int .i64 0, .int .i64 0, .int .i64 0, .int .i64 0, .int .i64 0, .int .i64 0] 73)).alloc (.cells #[.int .i64 0, .int .i64 0, .int .i64 0, .int .i64 0, .int .i64 0, .int .i64 0, .int .i64 0, .int .i64 0] 73)).cell? ⟨w.heap.size + 1, 6, none⟩ = some (.int .i64 0) := cell_alloc _ (cell_new (by simp) rfl)
  have rf6 : (((w.alloc (.cells #[.int .i64 (h 0).re, .int .i64 (h 0).im, .int .i64 (h 1).re, .int .i64 (h 1).im, .int .i64 (h 2).re, .int .i64 (h 2).im, .int .i64 (h 3).re, .int .i64 (h 3).im] 73)).alloc (.cells #[.int .i64 0, .int .i64 0, .int .i64 0, .int .i64 0, .int .i64 0, .int .i64 0, .int .i64 0, .int .i64 0] 73)).alloc (.cells #[.int .i64 0, .int .i64 0, .int .i64 0, .int .i64 0, .int .i64 0, .int .i64 0, .int .i64 0, .int .i64 0] 73)).frozen? ⟨w.heap.size + 1, 6, none⟩ = false := frozen_alloc _ (by first | (simp; done) | (simp; omega)) (frozen_new (by simp))
  have r7 : (((w.alloc (.cells #[.int .i64 (h 0).re, .int .i64 (h 0).im, .int .i64 (h 1).re, .int .i64 (h 1).im, .int .i64 (h 2).re, .int .i64 (h 2).im, .int .i64 (h 3).re, .int .i64 (h 3).im] 73)).alloc (.cells #[.int .i64 0, .int .i64 0, .int .i64 0, .int .i64 0, .int .i64 0, .int .i64 0, .int .i64 0, .int .i64 0] 73)).alloc (.cells #[.int .i64 0, .int .i64 0, .int .i64 0, .int .i64 0, .int .i64 0, .int .i64 0, .int .i64 0, .int .i64 0] 73)).cell? ⟨w.heap.size + 1, 7, none⟩ = some (.int .i64 0) := cell_alloc _ (cell_new (by simp) rfl)
  have rf7 : (((w.alloc (.cells #[.int .i64 (h 0).re, .int .i64 (h 0).im, .int .i64 (h 1).re, .int .i64 (h 1).im, .int .i64 (h 2).re, .int .i64 (h 2).im, .int .i64 (h 3).re, .int .i64 (h 3).im] 73)).alloc (.cells #[.int .i64 0, .int .i64 0, .int .i64 0, .int .i64 0, .int .i64 0, .int .i64 0, .int .i64 0, .int .i64 0] 73)).alloc (.cells #[.int .i64 0, .int .i64 0, .int .i64 0, .int .i64 0, .int .i64 0, .int .i64 0, .int .i64 0, .int .i64 0] 73)).frozen? ⟨w.heap.size + 1, 7, none⟩ = false := frozen_alloc _ (by first | (simp; done) | (simp; omega)) (frozen_new (by simp))
  have zr : w.heap.size + 1 < (((w.alloc (.cells #[.int .i64 (h 0).re, .int .i64 (h 0).im, .int .i64 (h 1).re, .int .i64 (h 1).im, .int .i64 (h 2).re, .int .i64 (h 2).im, .int .i64 (h 3).re, .int .i64 (h 3).im] 73)).alloc (.cells #[.int .i64 0, .int .i64 0, .int .i64 0, .int .i64 0, .int .i64 0, .int .i64 0, .int .i64 0, .int .i64 0] 73)).alloc (.cells #[.int .i64 0, .int .i64 0, .int .i64 0, .int .i64 0, .int .i64 0, .int .i64 0, .int .i64 0, .int .i64 0] 73)).heap.size := World.block_lt_of_cell? _ _ r0
  have o0 : (((w.alloc (.cells #[.int .i64 (h 0).re, .int .i64 (h 0).im, .int .i64 (h 1).re, .int .i64 (h 1).im, .int .i64 (h 2).re, .int .i64 (h 2).im, .int .i64 (h 3).re, .int .i64 (h 3).im] 73)).alloc (.cells #[.int .i64 0, .int .i64 0, .int .i64 0, .int .i64 0, .int .i64 0, .int .i64 0, .int .i64 0, .int .i64 0] 73)).alloc (.cells #[.int .i64 0, .int .i64 0, .int .i64 0, .int .i64 0, .int .i64 0, .int .i64 0, .int .i64 0, .int .i64 0] 73)).cell? ⟨w.heap.size + 1 + 1, 0, none⟩ = some (.int .i64 0) := cell_new (by simp) rfl
  have of0 : (((w.alloc (.cells #[.int .i64 (h 0).re, .int .i64 (h 0).im, .int .i64 (h 1).re, .int .i64 (h 1).im, .int .i64 (h 2).re, .int .i64 (h 2).im, .int .i64 (h 3).re, .int .i64 (h 3).im] 73)).alloc (.cells #[.int .i64 0, .int .i64 0, .int .i64 0, .int .i64 0, .int .i64 0, .int .i64 0, .int .i64 0, .int .i64 0] 73)).alloc (.cells #[.int .i64 0, .int .i64 0, .int .i64 0, .int .i64 0, .int .i64 0, .int .i64 0, .int .i64 0, .int .i64 0] 73)).frozen? ⟨w.heap.size + 1 + 1, 0, none⟩ = false := frozen_new (by simp)
  have o1 : (((w.alloc (.cells #[.int .i64 (h 0).re, .int .i64 (h 0).im, .int .i64 (h 1).re, .int .i64 (h 1).im, .int .i64 (h 2).re, .int .i64 (h 2).im, .int .i64 (h 3).re, .int .i64 (h 3).im] 73)).alloc (.cells #[.int .i64 0, .int .i64 0, .int .i64 0, .int .i64 0, .int .i64 0, .int .i64 0, .int .i64 0, .int .i64 0] 73)).alloc (.cells #[.int .i64 0, .int .i64 0, .int .i64 0, .int .i64 0, .int .i64 0, .int .i64 0, .int .i64 0, .int .i64 0] 73)).cell? ⟨w.heap.size + 1 + 1, 1, none⟩ = some (.int .i64 0) := cell_new (by simp) rfl
  have of1 : (((w.alloc (.cells #[.int .i64 (h 0).re, .int .i64 (h 0).im, .int .i64 (h 1).re, .int .i64 (h 1).im, .int .i64 (h 2).re, .int .i64 (h 2).im, .int .i64 (h 3).re, .int .i64 (h 3).im] 73)).alloc (.cells #[.int .i64 0, .int .i64 0, .int .i64 0, .int .i64 0, .int .i64 0, .int .i64 0, .int .i64 0, .int .i64 0] 73)).alloc (.cells #[.int .i64 0, .int .i64 0, .int .i64 0, .int .i64 0, .int .i64 0, .int .i64 0, .int .i64 0, .int .i64 0] 73)).frozen? ⟨w.heap.size + 1 + 1, 1, none⟩ = false := frozen_new (by simp)
  have o2 : (((w.alloc (.cells #[.int .i64 (h 0).re, .int .i64 (h 0).im, .int .i64 (h 1).re, .int .i64 (h 1).im, .int .i64 (h 2).re, .int .i64 (h 2).im, .int .i64 (h 3).re, .int .i64 (h 3).im] 73)).alloc (.cells #[.int .i64 0, .int .i64 0, .int .i64 0, .int .i64 0, .int .i64 0, .int .i64 0, .int .i64 0, .int .i64 0] 73)).alloc (.cells #[.int .i64 0, .int .i64 0, .int .i64 0, .int .i64 0, .int .i64 0, .int .i64 0, .int .i64 0, .int .i64 0] 73)).cell? ⟨w.heap.size + 1 + 1, 2, none⟩ = some (.int .i64 0) := cell_new (by simp) rfl
  have of2 : (((w.alloc (.cells #[.int .i64 (h 0).re, .int .i64 (h 0).im, .int .i64 (h 1).re, .int .i64 (h 1).im, .int .i64 (h 2).re, .int .i64 (h 2).im, .int .i64 (h 3).re, .int .i64 (h 3).im] 73)).alloc (.cells #[.int .i64 0, .int .i64 0, .int .i64 0, .int .i64 0, .int .i64 0, .int .i64 0, .int .i64 0, .int .i64 0] 73)).alloc (.cells #[.int .i64 0, .int .i64 0, .int .i64 0, .int .i64 0, .int .i64 0, .int .i64 0, .int .i64 0, .int .i64 0] 73)).frozen? ⟨w.heap.size + 1 + 1, 2, none⟩ = false := frozen_new (by simp)
  have o3 : (((w.alloc (.cells #[.int .i64 (h 0).re, .int .i64 (h 0).im, .int .i64 (h 1).re, .int .i64 (h 1).im, .int .i64 (h 2).re, .int .i64 (h 2).im, .int .i64 (h 3).re, .int .i64 (h 3).im] 73)).alloc (.cells #[.int .i64 0, .int .i64 0, .int .i64 0, .int .i64 0, .int .i64 0, .int .i64 0, .int .i64 0, .int .i64 0] 73)).alloc (.cells #[.int .i64 0, .int .i64 0, .int .i64 0, .int .i64 0, .int .i64 0, .int .i64 0, .int .i64 0, .int .i64 0] 73)).cell? ⟨w.heap.size + 1 + 1, 3, none⟩ = some (.int .i64 0) := cell_new (by simp) rfl
  have of3 : (((w.alloc (.cells #[.int .i64 (h 0).re, .int .i64 (h 0).im, .int .i64 (h 1).re, .int .i64 (h 1).im, .int .i64 (h 2).re, .int .i64 (h 2).im, .int .i64 (h 3).re, .int .i64 (h 3).im] 73)).alloc (.cells #[.int .i64 0, .int .i64 0, .int .i64 0, .int .i64 0, .int .i64 0, .int .i64 0, .int .i64 0, .int .i64 0] 73)).alloc (.cells #[.int .i64 0, .int .i64 0, .int .i64 0, .int .i64 0, .int .i64 0, .int .i64 0, .int .i64 0, .int .i64 0] 73)).frozen? ⟨w.heap.size + 1 + 1, 3, none⟩ = false := frozen_new (by simp)
  have o4 : (((w.alloc (.cells #[.int .i64 (h 0).re, .int .i64 (h 0).im, .int .i64 (h 1).re, .int .i64 (h 1).im, .int .i64 (h 2).re, .int .i64 (h 2).im, .int .i64 (h 3).re, .int .i64 (h 3).im] 73)).alloc (.cells #[.int .i64 0, .int .i64 0, .int .i64 0, .int .i64 0, .int .i64 0, .int .i64 0, .int .i64 0, .int .i64 0] 73)).alloc (.cells #[.int .i64 0, .int .i64 0, .int .i64 0, .int .i64 0, .int .i64 0, .int .i64 0, .int .i64 0, .int .i64 0] 73)).cell? ⟨w.heap.size + 1 + 1, 4, none⟩ = some (.int .i64 0) := cell_new (by simp) rfl
  have of4 : (((w.alloc (.cells #[.int .i64 (h 0).re, .int .i64 (h 0).im, .int .i64 (h 1).re, .int .i64 (h 1).im, .int .i64 (h 2).re, .int .i64 (h 2).im, .int .i64 (h 3).re, .int .i64 (h 3).im] 73)).alloc (.cells #[.int .i64 0, .int .i64 0, .int .i64 0, .int .i64 0, .int .i64 0, .int .i64 0, .int .i64 0, .int .i64 0] 73)).alloc (.cells #[.int .i64 0, .int .i64 0, .int .i64 0, .int .i64 0, .int .i64 0, .int .i64 0, .int .i64 0, .int .i64 0] 73)).frozen? ⟨w.heap.size + 1 + 1, 4, none⟩ = false := frozen_new (by simp)
  have o5 : (((w.alloc (.cells #[.int .i64 (h 0).re, .int .i64 (h 0).im, .int .i64 (h 1).re, .int .i64 (h 1).im, .int .i64 (h 2).re, .int .i64 (h 2).im, .int .i64 (h 3).re, .int .i64 (h 3).im] 73)).alloc (.cells #[.int .i64 0, .int .i64 0, .int .i64 0, .int .i64 0, .int .i64 0, .int .i64 0, .int .i64 0, .int .i64 0] 73)).alloc (.cells #[.int .i64 0, .int .i64 0, .int .i64 0, .int .i64 0, .int .i64 0, .int .i64 0, .int .i64 0, .int .i64 0] 73)).cell? ⟨w.heap.size + 1 + 1, 5, none⟩ = some (.int .i64 0) := cell_new (by simp) rfl
  have of5 : (((w.alloc (.cells #[.int .i64 (h 0).re, .int .i64 (h 0).im, .int .i64 (h 1).re, .int .i64 (h 1).im, .int .i64 (h 2).re, .int .i64 (h 2).im, .int .i64 (h 3).re, .int .i64 (h 3).im] 73)).alloc (.cells #[.int .i64 0, .int .i64 0, .int .i64 0, .int .i64 0, .int .i64 0, .int .i64 0, .int .i64 0, .int .i64 0] 73)).alloc (.cells #[.int .i64 0, .int .i64 0, .int .i64 0, .int .i64 0, .int .i64 0, .int .i64 0, .int .i64 0, .int .i64 0] 73)).frozen? ⟨w.heap.size + 1 + 1, 5, none⟩ = false := frozen_new (by simp)
  have o6 : (((w.alloc (.cells #[.int .i64 (h 0).re, .int .i64 (h 0).im, .int .i64 (h 1).re, .int .i64 (h 1).im, .int .i64 (h 2).re, .int .i64 (h 2).im, .int .i64 (h 3).re, .int .i64 (h 3).im] 73)).alloc (.cells #[.int .i64 0, .int .i64 0, .int .i64 0, .int .i64 0, .int .i64 0, .int .i64 0, .int .i64 0, .int .i64 0] 73)).alloc (.cells #[.int .i64 0, .int .i64 0, .int .i64 0, .int .i64 0, .int .i64 0, .int .i64 0, .int .i64 0, .int .i64 0] 73)).cell? ⟨w.heap.size + 1 + 1, 6, none⟩ = some (.int .i64 0) := cell_new (by simp) rfl
  have of6 : (((w.alloc (.cells #[.int .i64 (h 0).re, .int .i64 (h 0).im, .int .i64 (h 1).re, .int .i64 (h 1).im, .int .i64 (h 2).re, .int .i64 (h 2).im, .int .i64 (h 3).re, .int .i64 (h 3).im] 73)).alloc (.cells #[.int .i64 0, .int .i64 0, .int .i64 0, .int .i64 0, .int .i64 0, .int .i64 0, .int .i64 0, .int .i64 0] 73)).alloc (.cells #[.int .i64 0, .int .i64 0, .int .i64 0, .int .i64 0, .int .i64 0, .int .i64 0, .int .i64 0, .int .i64 0] 73)).frozen? ⟨w.heap.size + 1 + 1, 6, none⟩ = false := frozen_new (by simp)
  have o7 : (((w.alloc (.cells #[.int .i64 (h 0).re, .int .i64 (h 0).im, .int .i64 (h 1).re, .int .i64 (h 1).im, .int .i64 (h 2).re, .int .i64 (h 2).im, .int .i64 (h 3).re, .int .i64 (h 3).im] 73)).alloc (.cells #[.int .i64 0, .int .i64 0, .int .i64 0, .int .i64 0, .int .i64 0, .int .i64 0, .int .i64 0, .int .i64 0] 73)).alloc (.cells #[.int .i64 0, .int .i64 0, .int .i64 0, .int .i64 0, .int .i64 0, .int .i64 0, .int .i64 0, .int .i64 0] 73)).cell? ⟨w.heap.size + 1 + 1, 7, none⟩ = some (.int .i64 0) := cell_new (by simp) rfl
  have of7 : (((w.alloc (.cells #[.int .i64 (h 0).re, .int .i64 (h 0).im, .int .i64 (h 1).re, .int .i64 (h 1).im, .int .i64 (h 2).re, .int .i64 (h 2).im, .int .i64 (h 3).re, .int .i64 (h 3).im] 73)).alloc (.cells #[.int .i64 0, .int .i64 0, .int .i64 0, .int .i64 0, .int .i64 0, .int .i64 0, .int .i64 0, .int .i64 0] 73)).alloc (.cells #[.int .i64 0, .int .i64 0, .int .i64 0, .int .i64 0, .int .i64 0, .int .i64 0, .int .i64 0, .int .i64 0] 73)).frozen? ⟨w.heap.size + 1 + 1, 7, none⟩ = false := frozen_new (by simp)
  have ok : (((w.alloc (.cells #[.int .i64 (h 0).re, .int .i64 (h 0).im, .int .i64 (h 1).re, .int .i64 (h 1).im, .int .i64 (h 2).re, .int .i64 (h 2).im, .int .i64 (h 3).re, .int .i64 (h 3).im] 73)).alloc (.cells #[.int .i64 0, .int .i64 0, .int .i64 0, .int .i64 0, .int .i64 0, .int .i64 0, .int .i64 0, .int .i64 0] 73)).alloc (.cells #[.int .i64 0, .int .i64 0, .int .i64 0, .int .i64 0, .int .i64 0, .int .i64 0, .int .i64 0, .int .i64 0] 73)).heap[w.heap.size + 1 + 1]? = some (.cells #[.int .i64 0, .int .i64 0, .int .i64 0, .int .i64 0, .int .i64 0, .int .i64 0, .int .i64 0, .int .i64 0] 73) := blk_new (by simp)
  have zo : w.heap.size + 1 + 1 < (((w.alloc (.cells #[.int .i64 (h 0).re, .int .i64 (h 0).im, .int .i64 (h 1).re, .int .i64 (h 1).im, .int .i64 (h 2).re, .int .i64 (h 2).im, .int .i64 (h 3).re, .int .i64 (h 3).im] 73)).alloc (.cells #[.int .i64 0, .int .i64 0, .int .i64 0, .int .i64 0, .int .i64 0, .int .i64 0, .int .i64 0, .int .i64 0] 73)).alloc (.cells #[.int .i64 0, .int .i64 0, .int .i64 0, .int .i64 0, .int .i64 0, .int .i64 0, .int .i64 0, .int .i64 0] 73)).heap.size := World.block_lt_of_cell? _ _ o0
  generalize (((w.alloc (.cells #[.int .i64 (h 0).re, .int .i64 (h 0).im, .int .i64 (h 1).re, .int .i64 (h 1).im, .int .i64 (h 2).re, .int .i64 (h 2).im, .int .i64 (h 3).re, .int .i64 (h 3).im] 73)).alloc (.cells #[.int .i64 0, .int .i64 0, .int .i64 0, .int .i64 0, .int .i64 0, .int .i64 0, .int .i64 0, .int .i64 0] 73)).alloc (.cells #[.int .i64 0, .int .i64 0, .int .i64 0, .int .i64 0, .int .i64 0, .int .i64 0, .int .i64 0, .int .i64 0] 73)) = w0 at *
  have hA : GsAt w0 (some ⟨w.heap.size, 0, none⟩) (sL h) := rows_blk hk rfl
  have HGX := Lib.hid (gx_z (h := h) ok)
  clear hk ok o0 o1 o2 o3 o4 o5 o6 o7 of0 of1 of2 of3 of4 of5 of6 of7 h0 h1 h2 h3 h4 h5 h6 h7 zh
  go_wp2_with (fail)
  refine (HE.out _ _ hA).mono ?_
  rintro e w1 ⟨rfl, hb1⟩
  have HGX1 := Lib.hid (HGX.out.below hb1)
  have h1 : Below w.heap.size w w1 := (hb0).trans ((hb1).mono (hb0).size)
  replace rf0 := frozen_below hb1 (World.block_lt_of_cell? _ _ r0) rf0
  replace rf1 := frozen_below hb1 (World.block_lt_of_cell? _ _ r1) rf1
  replace rf2 := frozen_below hb1 (World.block_lt_of_cell? _ _ r2) rf2
  replace rf3 := frozen_below hb1 (World.block_lt_of_cell? _ _ r3) rf3
  replace rf4 := frozen_below hb1 (World.block_lt_of_cell? _ _ r4) rf4
  replace rf5 := frozen_below hb1 (World.block_lt_of_cell? _ _ r5) rf5
  replace rf6 := frozen_below hb1 (World.block_lt_of_cell? _ _ r6) rf6
  replace rf7 := frozen_below hb1 (World.block_lt_of_cell? _ _ r7) rf7
  replace r0 := cell_below' hb1 r0
  replace r1 := cell_below' hb1 r1
  replace r2 := cell_below' hb1 r2
  replace r3 := cell_below' hb1 r3
  replace r4 := cell_below' hb1 r4
  replace r5 := cell_below' hb1 r5
  replace r6 := cell_below' hb1 r6
  replace r7 := cell_below' hb1 r7
  replace zr := Nat.lt_of_lt_of_le zr (hb1).size
  replace zo := Nat.lt_of_lt_of_le zo (hb1).size
  replace hA := RowsAt.below hA hb1
  clear hb1 hb0
  clear HGX HE
  go_wp2_with (fail)
  refine (HT.out _ _ hA).mono ?_
  rintro e w3 ⟨a0, b0, a1, b1, a2, b2, a3, b3, rfl, k0, k1, k2, k3, hb3⟩
  simp only at k0 k1 k2 k3
  rw [HLP.out] at k0 k1 k2 k3
  have HGX3 := Lib.hid (HGX1.out.below hb3)
  have G0 := Lib.hid (fun W => gauss_any a0 b0 (sV h 0) W k0.1 k0.2 ((HSZ.out 0).mono (by decide)))
  have G1 := Lib.hid (fun W => gauss_any a1 b1 (sV h 1) W k1.1 k1.2 ((HSZ.out 1).mono (by decide)))
  have G2 := Lib.hid (fun W => gauss_any a2 b2 (sV h 2) W k2.1 k2.2 ((HSZ.out 2).mono (by decide)))
  have G3 := Lib.hid (fun W => gauss_any a3 b3 (sV h 3) W k3.1 k3.2 ((HSZ.out 3).mono (by decide)))
  have h3 : Below w.heap.size w w3 := (h1).trans ((hb3).mono (h1).size)
  replace rf0 := frozen_below hb3 (World.block_lt_of_cell? _ _ r0) rf0
  replace rf1 := frozen_below hb3 (World.block_lt_of_cell? _ _ r1) rf1
  replace rf2 := frozen_below hb3 (World.block_lt_of_cell? _ _ r2) rf2
  replace rf3 := frozen_below hb3 (World.block_lt_of_cell? _ _ r3) rf3
  replace rf4 := frozen_below hb3 (World.block_lt_of_cell? _ _ r4) rf4
  replace rf5 := frozen_below hb3 (World.block_lt_of_cell? _ _ r5) rf5
  replace rf6 := frozen_below hb3 (World.block_lt_of_cell? _ _ r6) rf6
  replace rf7 := frozen_below hb3 (World.block_lt_of_cell? _ _ r7) rf7
  replace r0 := cell_below' hb3 r0
  replace r1 := cell_below' hb3 r1
  replace r2 := cell_below' hb3 r2
  replace r3 := cell_below' hb3 r3
  replace r4 := cell_below' hb3 r4
  replace r5 := cell_below' hb3 r5
  replace r6 := cell_below' hb3 r6
  replace r7 := cell_below' hb3 r7
  replace zr := Nat.lt_of_lt_of_le zr (hb3).size
  replace zo := Nat.lt_of_lt_of_le zo (hb3).size
  clear hb3 h1
  clear HGX1 HT hA k0 k1 k2 k3 HLP
  simp only [gv] at G0 G1 G2 G3
  go_wp2_with (fail)
  go_loopw [17] (fun i wr => ∃ m : Int, 0 ≤ m ∧ m ≤ 4 ∧ i = .int .i64 m ∧ GxAt (w.heap.size + 1 + 1) (cutS h m.toNat) wr ∧ (∀ q : Nat, q < m.toNat → dB (sV h q) = true) ∧ Below (w.heap.size + 1 + 1) w3 wr) (fun i _ => 4 - (intOf i).toNat)
  case atStart => exact ⟨0, by decide, by decide, rfl, HGX3.out, fun q hq => absurd hq (by simp), Below.refl _ _⟩
  case round =>
    obtain ⟨m, hm0, hm4, rfl, hgx, hdv, hbr⟩ := hrel
    obtain ⟨wo, rfl⟩ : ∃ wo : World, wo = wr := ⟨_, rfl⟩
    have HGO := Lib.hid hgx
    have HDV := Lib.hid hdv
    have zo' := hgx.z
    have hlw : w.heap.size + 1 < w.heap.size + 1 + 1 := by omega
    have hbw : Below w.heap.size w wo := h3.trans (hbr.mono (by omega))
    replace r0 := cell_below hbr r0 hlw
    replace rf0 := frozen_below hbr hlw rf0
    replace r1 := cell_below hbr r1 hlw
    replace rf1 := frozen_below hbr hlw rf1
    replace r2 := cell_below hbr r2 hlw
    replace rf2 := frozen_below hbr hlw rf2
    replace r3 := cell_below hbr r3 hlw
    replace rf3 := frozen_below hbr hlw rf3
    replace r4 := cell_below hbr r4 hlw
    replace rf4 := frozen_below hbr hlw rf4
    replace r5 := cell_below hbr r5 hlw
    replace rf5 := frozen_below hbr hlw rf5
    replace r6 := cell_below hbr r6 hlw
    replace rf6 := frozen_below hbr hlw rf6
    replace r7 := cell_below hbr r7 hlw
    replace rf7 := frozen_below hbr hlw rf7
    replace zr : w.heap.size + 1 < wo.heap.size := by omega
    clear hgx hdv hlw
    by_cases hlt : m < 4
    · have h4 : m = 0 ∨ m = 1 ∨ m = 2 ∨ m = 3 := by omega
      rcases h4 with rfl | rfl | rfl | rfl
      · have hix : ∀ W, (Instr.index 163 (.agg #[.complex .f64 a0 b0, .complex .f64 a1 b1, .complex .f64 a2 b2, .complex .f64 a3 b3]) (.int .i64 0)).run Tryd.prog W = .ok (.complex .f64 a0 b0) W := fun W => by kernel_rfl
        go_wp2_with (fail)
        refine (G0.out _).mono ?_
        rintro e w4 ⟨rfl, hb4⟩
        have hb4' := hb4
        have k4 : Below w.heap.size w w4 := (hbw).trans ((hb4).mono (hbw).size)
        replace rf0 := frozen_below hb4 (World.block_lt_of_cell? _ _ r0) rf0
        replace rf1 := frozen_below hb4 (World.block_lt_of_cell? _ _ r1) rf1
        replace rf2 := frozen_below hb4 (World.block_lt_of_cell? _ _ r2) rf2
        replace rf3 := frozen_below hb4 (World.block_lt_of_cell? _ _ r3) rf3
        replace rf4 := frozen_below hb4 (World.block_lt_of_cell? _ _ r4) rf4
        replace rf5 := frozen_below hb4 (World.block_lt_of_cell? _ _ r5) rf5
        replace rf6 := frozen_below hb4 (World.block_lt_of_cell? _ _ r6) rf6
        replace rf7 := frozen_below hb4 (World.block_lt_of_cell? _ _ r7) rf7
        replace r0 := cell_below' hb4 r0
        replace r1 := cell_below' hb4 r1
        replace r2 := cell_below' hb4 r2
        replace r3 := cell_below' hb4 r3
        replace r4 := cell_below' hb4 r4
        replace r5 := cell_below' hb4 r5
        replace r6 := cell_below' hb4 r6
        replace r7 := cell_below' hb4 r7
        replace zr := Nat.lt_of_lt_of_le zr (hb4).size
        clear hb4 hbw
        go_upto_region 9 with (fail)
        have hb5 : Below w4.heap.size w4 (w4.alloc (.cells #[.int .i64 (sV h 0).re, .int .i64 (sV h 0).im] 24)) := below_alloc _ (Nat.le_refl _) (Below.refl _ _)
        have g0 : (w4.alloc (.cells #[.int .i64 (sV h 0).re, .int .i64 (sV h 0).im] 24)).cell? ⟨w4.heap.size, 0, none⟩ = some (.int .i64 (sV h 0).re) := cell_new (by simp) rfl
        have g1 : (w4.alloc (.cells #[.int .i64 (sV h 0).re, .int .i64 (sV h 0).im] 24)).cell? ⟨w4.heap.size, 1, none⟩ = some (.int .i64 (sV h 0).im) := cell_new (by simp) rfl
        have zg : w4.heap.size < (w4.alloc (.cells #[.int .i64 (sV h 0).re, .int .i64 (sV h 0).im] 24)).heap.size := World.block_lt_of_cell? _ _ g0
        generalize (w4.alloc (.cells #[.int .i64 (sV h 0).re, .int .i64 (sV h 0).im] 24)) = w5 at *
        have hb45 := hb4'.trans (hb5.mono hb4'.size)
        have k5 : Below w.heap.size w w5 := (k4).trans ((hb5).mono (k4).size)
        replace rf0 := frozen_below hb5 (World.block_lt_of_cell? _ _ r0) rf0
        replace rf1 := frozen_below hb5 (World.block_lt_of_cell? _ _ r1) rf1
        replace rf2 := frozen_below hb5 (World.block_lt_of_cell? _ _ r2) rf2
        replace rf3 := frozen_below hb5 (World.block_lt_of_cell? _ _ r3) rf3
        replace rf4 := frozen_below hb5 (World.block_lt_of_cell? _ _ r4) rf4
        replace rf5 := frozen_below hb5 (World.block_lt_of_cell? _ _ r5) rf5
        replace rf6 := frozen_below hb5 (World.block_lt_of_cell? _ _ r6) rf6
        replace rf7 := frozen_below hb5 (World.block_lt_of_cell? _ _ r7) rf7
        replace r0 := cell_below' hb5 r0
        replace r1 := cell_below' hb5 r1
        replace r2 := cell_below' hb5 r2
        replace r3 := cell_below' hb5 r3
        replace r4 := cell_below' hb5 r4
        replace r5 := cell_below' hb5 r5
        replace r6 := cell_below' hb5 r6
        replace r7 := cell_below' hb5 r7
        replace zr := Nat.lt_of_lt_of_le zr (hb5).size
        clear hb5 k4
        have HG5 := Lib.hid (HGO.out.below hb45)
        have hbr5 : Below (w.heap.size + 1 + 1) w3 w5 := hbr.trans (hb45.mono (by omega))
        have hdb : dB (sV h 0) = ((sV h 0).re.tmod 4 == 0 && (sV h 0).im.tmod 4 == 0) := rfl
        have HFQ := Lib.hid (HF.out 0 (by decide))
        have hgo : gover (sV h 0) 4 = ⟨(sV h 0).re.tdiv 4, (sV h 0).im.tdiv 4⟩ := rfl
        have HGV := Lib.hid hgo
        have t1 := tmod_bd (sV h 0).re 4 (by decide)
        have t2 := tmod_bd (sV h 0).im 4 (by decide)
        have hss := HSZ.out 0
        obtain ⟨u1, u2⟩ := tdiv_bd (sV h 0).re 4 _ (by decide) hss.r0 hss.r1
        obtain ⟨u3, u4⟩ := tdiv_bd (sV h 0).im 4 _ (by decide) hss.i0 hss.i1
        have zo5 := HG5.out.z
        clear hss
        clear hb45 hb4' HF hgo hix
        by_cases c1 : (sV h 0).re.tmod 4 = 0
        rotate_left 1
        · have e1 : ((sV h 0).re.tmod 4 != 0) = true := by simpa using c1
          have hf : dB (sV h 0) = false := by rw [hdb]; simp [c1]
          obtain ⟨f1, f2⟩ := HFQ.out hf
          have HF1 := Lib.hid f1
          have HF2 := Lib.hid f2
          clear c1 hf f1 f2 HFQ hdb HG t1 t2
          go_wp2_with (fail)
          obtain ⟨q0, q1, q2, q3, q4, q5, q6, q7⟩ := set8 (v0 := .int .i64 0) (v1 := .int .i64 0) (v2 := .int .i64 0) (v3 := .int .i64 0) (v4 := .int .i64 0) (v5 := .int .i64 0) (v6 := .int .i64 0) (v7 := .int .i64 0) r0 r1 r2 r3 r4 r5 r6 r7
          refine bodyPost_ret (v := .tuple #[.agg #[.int .i64 0, .int .i64 0, .int .i64 0, .int .i64 0, .int .i64 0, .int .i64 0, .int .i64 0, .int .i64 0], .int .i64 3]) (by simp [results, Tryd.results45, go_sem, q0, q1, q2, q3, q4, q5, q6, q7]) rfl ?_
          rw [HF1.out, HF2.out]
          have hle : w.heap.size ≤ w.heap.size + 1 := by omega
          exact ⟨rfl, below_set _ hle (below_set _ hle (below_set _ hle (below_set _ hle (below_set _ hle (below_set _ hle (below_set _ hle (below_set _ hle (k5))))))))⟩
        · have e1 : ((sV h 0).re.tmod 4 != 0) = false := by simpa using c1
          by_cases c2 : (sV h 0).im.tmod 4 = 0
          rotate_left 1
          · have e2 : ((sV h 0).im.tmod 4 != 0) = true := by simpa using c2
            have hf : dB (sV h 0) = false := by rw [hdb]; simp [c2]
            obtain ⟨f1, f2⟩ := HFQ.out hf
            have HF1 := Lib.hid f1
            have HF2 := Lib.hid f2
            clear c1 c2 hf f1 f2 HFQ hdb HG t1 t2
            go_wp2_with (fail)
            obtain ⟨q0, q1, q2, q3, q4, q5, q6, q7⟩ := set8 (v0 := .int .i64 0) (v1 := .int .i64 0) (v2 := .int .i64 0) (v3 := .int .i64 0) (v4 := .int .i64 0) (v5 := .int .i64 0) (v6 := .int .i64 0) (v7 := .int .i64 0) r0 r1 r2 r3 r4 r5 r6 r7
            refine bodyPost_ret (v := .tuple #[.agg #[.int .i64 0, .int .i64 0, .int .i64 0, .int .i64 0, .int .i64 0, .int .i64 0, .int .i64 0, .int .i64 0], .int .i64 3]) (by simp [results, Tryd.results45, go_sem, q0, q1, q2, q3, q4, q5, q6, q7]) rfl ?_
            rw [HF1.out, HF2.out]
            have hle : w.heap.size ≤ w.heap.size + 1 := by omega
            exact ⟨rfl, below_set _ hle (below_set _ hle (below_set _ hle (below_set _ hle (below_set _ hle (below_set _ hle (below_set _ hle (below_set _ hle (k5))))))))⟩
          · have e2 : ((sV h 0).im.tmod 4 != 0) = false := by simpa using c2
            have hf : dB (sV h 0) = true := by rw [hdb]; simp [c1, c2]
            have HD := Lib.hid hf
            obtain ⟨d0, d1⟩ := HG5.out.c 0 (by decide)
            have f0 := HG5.out.f (0 * 2)
            have f1 := HG5.out.f (0 * 2 + 1)
            simp only [Nat.reduceMul, Nat.reduceAdd] at d0 d1 f0 f1
            clear c1 c2 hf HFQ hdb HG t1 t2
            go_wp2_with (fail)
            exact ⟨⟨1, by decide, by decide, rfl, HG5.out.set (k := 0) (q := cutS h 1) (by decide) (by rw [HCV.out]; rfl) (by rw [HCV.out]; rfl) (fun j hj => by rw [HCV.out, HCV.out]; by_cases h : j < 0 <;> simp [h] <;> (try omega)), fun q hq => (if hqm : q = 0 then (by rw [hqm]; exact HD.out) else HDV.out q (by omega)), below_set _ (Nat.le_refl _) (below_set _ (Nat.le_refl _) hbr5)⟩, by decide⟩
      · have hix : ∀ W, (Instr.index 163 (.agg #[.complex .f64 a0 b0, .complex .f64 a1 b1, .complex .f64 a2 b2, .complex .f64 a3 b3]) (.int .i64 1)).run Tryd.prog W = .ok (.complex .f64 a1 b1) W := fun W => by kernel_rfl
        go_wp2_with (fail)
        refine (G1.out _).mono ?_
        rintro e w4 ⟨rfl, hb4⟩
        have hb4' := hb4
        have k4 : Below w.heap.size w w4 := (hbw).trans ((hb4).mono (hbw).size)
        replace rf0 := frozen_below hb4 (World.block_lt_of_cell? _ _ r0) rf0
        replace rf1 := frozen_below hb4 (World.block_lt_of_cell? _ _ r1) rf1
        replace rf2 := frozen_below hb4 (World.block_lt_of_cell? _ _ r2) rf2
        replace rf3 := frozen_below hb4 (World.block_lt_of_cell? _ _ r3) rf3
        replace rf4 := frozen_below hb4 (World.block_lt_of_cell? _ _ r4) rf4
        replace rf5 := frozen_below hb4 (World.block_lt_of_cell? _ _ r5) rf5
        replace rf6 := frozen_below hb4 (World.block_lt_of_cell? _ _ r6) rf6
        replace rf7 := frozen_below hb4 (World.block_lt_of_cell? _ _ r7) rf7
        replace r0 := cell_below' hb4 r0
        replace r1 := cell_below' hb4 r1
        replace r2 := cell_below' hb4 r2
        replace r3 := cell_below' hb4 r3
        replace r4 := cell_below' hb4 r4
        replace r5 := cell_below' hb4 r5
        replace r6 := cell_below' hb4 r6
        replace r7 := cell_below' hb4 r7
        replace zr := Nat.lt_of_lt_of_le zr (hb4).size
        clear hb4 hbw
        go_upto_region 9 with (fail)
        have hb5 : Below w4.heap.size w4 (w4.alloc (.cells #[.int .i64 (sV h 1).re, .int .i64 (sV h 1).im] 24)) := below_alloc _ (Nat.le_refl _) (Below.refl _ _)
        have g0 : (w4.alloc (.cells #[.int .i64 (sV h 1).re, .int .i64 (sV h 1).im] 24)).cell? ⟨w4.heap.size, 0, none⟩ = some (.int .i64 (sV h 1).re) := cell_new (by simp) rfl
        have g1 : (w4.alloc (.cells #[.int .i64 (sV h 1).re, .int .i64 (sV h 1).im] 24)).cell? ⟨w4.heap.size, 1, none⟩ = some (.int .i64 (sV h 1).im) := cell_new (by simp) rfl
        have zg : w4.heap.size < (w4.alloc (.cells #[.int .i64 (sV h 1).re, .int .i64 (sV h 1).im] 24)).heap.size := World.block_lt_of_cell? _ _ g0
        generalize (w4.alloc (.cells #[.int .i64 (sV h 1).re, .int .i64 (sV h 1).im] 24)) = w5 at *
        have hb45 := hb4'.trans (hb5.mono hb4'.size)
        have k5 : Below w.heap.size w w5 := (k4).trans ((hb5).mono (k4).size)
        replace rf0 := frozen_below hb5 (World.block_lt_of_cell? _ _ r0) rf0
        replace rf1 := frozen_below hb5 (World.block_lt_of_cell? _ _ r1) rf1
        replace rf2 := frozen_below hb5 (World.block_lt_of_cell? _ _ r2) rf2
        replace rf3 := frozen_below hb5 (World.block_lt_of_cell? _ _ r3) rf3
        replace rf4 := frozen_below hb5 (World.block_lt_of_cell? _ _ r4) rf4
        replace rf5 := frozen_below hb5 (World.block_lt_of_cell? _ _ r5) rf5
        replace rf6 := frozen_below hb5 (World.block_lt_of_cell? _ _ r6) rf6
        replace rf7 := frozen_below hb5 (World.block_lt_of_cell? _ _ r7) rf7
        replace r0 := cell_below' hb5 r0
        replace r1 := cell_below' hb5 r1
        replace r2 := cell_below' hb5 r2
        replace r3 := cell_below' hb5 r3
        replace r4 := cell_below' hb5 r4
        replace r5 := cell_below' hb5 r5
        replace r6 := cell_below' hb5 r6
        replace r7 := cell_below' hb5 r7
        replace zr := Nat.lt_of_lt_of_le zr (hb5).size
        clear hb5 k4
        have HG5 := Lib.hid (HGO.out.below hb45)
        have hbr5 : Below (w.heap.size + 1 + 1) w3 w5 := hbr.trans (hb45.mono (by omega))
        have hdb : dB (sV h 1) = ((sV h 1).re.tmod 4 == 0 && (sV h 1).im.tmod 4 == 0) := rfl
        have HFQ := Lib.hid (HF.out 1 (by decide))
        have hgo : gover (sV h 1) 4 = ⟨(sV h 1).re.tdiv 4, (sV h 1).im.tdiv 4⟩ := rfl
        have HGV := Lib.hid hgo
        have t1 := tmod_bd (sV h 1).re 4 (by decide)
        have t2 := tmod_bd (sV h 1).im 4 (by decide)
        have hss := HSZ.out 1
        obtain ⟨u1, u2⟩ := tdiv_bd (sV h 1).re 4 _ (by decide) hss.r0 hss.r1
        obtain ⟨u3, u4⟩ := tdiv_bd (sV h 1).im 4 _ (by decide) hss.i0 hss.i1
        have zo5 := HG5.out.z
        clear hss
        clear hb45 hb4' HF hgo hix
        by_cases c1 : (sV h 1).re.tmod 4 = 0
        rotate_left 1
        · have e1 : ((sV h 1).re.tmod 4 != 0) = true := by simpa using c1
          have hf : dB (sV h 1) = false := by rw [hdb]; simp [c1]
          obtain ⟨f1, f2⟩ := HFQ.out hf
          have HF1 := Lib.hid f1
          have HF2 := Lib.hid f2
          clear c1 hf f1 f2 HFQ hdb HG t1 t2
          go_wp2_with (fail)
          obtain ⟨q0, q1, q2, q3, q4, q5, q6, q7⟩ := set8 (v0 := .int .i64 0) (v1 := .int .i64 0) (v2 := .int .i64 0) (v3 := .int .i64 0) (v4 := .int .i64 0) (v5 := .int .i64 0) (v6 := .int .i64 0) (v7 := .int .i64 0) r0 r1 r2 r3 r4 r5 r6 r7
          refine bodyPost_ret (v := .tuple #[.agg #[.int .i64 0, .int .i64 0, .int .i64 0, .int .i64 0, .int .i64 0, .int .i64 0, .int .i64 0, .int .i64 0], .int .i64 3]) (by simp [results, Tryd.results45, go_sem, q0, q1, q2, q3, q4, q5, q6, q7]) rfl ?_
          rw [HF1.out, HF2.out]
          have hle : w.heap.size ≤ w.heap.size + 1 := by omega
          exact ⟨rfl, below_set _ hle (below_set _ hle (below_set _ hle (below_set _ hle (below_set _ hle (below_set _ hle (below_set _ hle (below_set _ hle (k5))))))))⟩
        · have e1 : ((sV h 1).re.tmod 4 != 0) = false := by simpa using c1
          by_cases c2 : (sV h 1).im.tmod 4 = 0
          rotate_left 1
          · have e2 : ((sV h 1).im.tmod 4 != 0) = true := by simpa using c2
            have hf : dB (sV h 1) = false := by rw [hdb]; simp [c2]
            obtain ⟨f1, f2⟩ := HFQ.out hf
            have HF1 := Lib.hid f1
            have HF2 := Lib.hid f2
            clear c1 c2 hf f1 f2 HFQ hdb HG t1 t2
            go_wp2_with (fail)
            obtain ⟨q0, q1, q2, q3, q4, q5, q6, q7⟩ := set8 (v0 := .int .i64 0) (v1 := .int .i64 0) (v2 := .int .i64 0) (v3 := .int .i64 0) (v4 := .int .i64 0) (v5 := .int .i64 0) (v6 := .int .i64 0) (v7 := .int .i64 0) r0 r1 r2 r3 r4 r5 r6 r7
            refine bodyPost_ret (v := .tuple #[.agg #[.int .i64 0, .int .i64 0, .int .i64 0, .int .i64 0, .int .i64 0, .int .i64 0, .int .i64 0, .int .i64 0], .int .i64 3]) (by simp [results, Tryd.results45, go_sem, q0, q1, q2, q3, q4, q5, q6, q7]) rfl ?_
            rw [HF1.out, HF2.out]
            have hle : w.heap.size ≤ w.heap.size + 1 := by omega
            exact ⟨rfl, below_set _ hle (below_set _ hle (below_set _ hle (below_set _ hle (below_set _ hle (below_set _ hle (below_set _ hle (below_set _ hle (k5))))))))⟩
          · have e2 : ((sV h 1).im.tmod 4 != 0) = false := by simpa using c2
            have hf : dB (sV h 1) = true := by rw [hdb]; simp [c1, c2]
            have HD := Lib.hid hf
            obtain ⟨d0, d1⟩ := HG5.out.c 1 (by decide)
            have f0 := HG5.out.f (1 * 2)
            have f1 := HG5.out.f (1 * 2 + 1)
            simp only [Nat.reduceMul, Nat.reduceAdd] at d0 d1 f0 f1
            clear c1 c2 hf HFQ hdb HG t1 t2
            go_wp2_with (fail)
            exact ⟨⟨2, by decide, by decide, rfl, HG5.out.set (k := 1) (q := cutS h 2) (by decide) (by rw [HCV.out]; rfl) (by rw [HCV.out]; rfl) (fun j hj => by rw [HCV.out, HCV.out]; by_cases h : j < 1 <;> simp [h] <;> (try omega)), fun q hq => (if hqm : q = 1 then (by rw [hqm]; exact HD.out) else HDV.out q (by omega)), below_set _ (Nat.le_refl _) (below_set _ (Nat.le_refl _) hbr5)⟩, by decide⟩
      · have hix : ∀ W, (Instr.index 163 (.agg #[.complex .f64 a0 b0, .complex .f64 a1 b1, .complex .f64 a2 b2, .complex .f64 a3 b3]) (.int .i64 2)).run Tryd.prog W = .ok (.complex .f64 a2 b2) W := fun W => by kernel_rfl
        go_wp2_with (fail)
        refine (G2.out _).mono ?_
        rintro e w4 ⟨rfl, hb4⟩
        have hb4' := hb4
        have k4 : Below w.heap.size w w4 := (hbw).trans ((hb4).mono (hbw).size)
        replace rf0 := frozen_below hb4 (World.block_lt_of_cell? _ _ r0) rf0
        replace rf1 := frozen_below hb4 (World.block_lt_of_cell? _ _ r1) rf1
        replace rf2 := frozen_below hb4 (World.block_lt_of_cell? _ _ r2) rf2
        replace rf3 := frozen_below hb4 (World.block_lt_of_cell? _ _ r3) rf3
        replace rf4 := frozen_below hb4 (World.block_lt_of_cell? _ _ r4) rf4
        replace rf5 := frozen_below hb4 (World.block_lt_of_cell? _ _ r5) rf5
        replace rf6 := frozen_below hb4 (World.block_lt_of_cell? _ _ r6) rf6
        replace rf7 := frozen_below hb4 (World.block_lt_of_cell? _ _ r7) rf7
        replace r0 := cell_below' hb4 r0
        replace r1 := cell_below' hb4 r1
        replace r2 := cell_below' hb4 r2
        replace r3 := cell_below' hb4 r3
        replace r4 := cell_below' hb4 r4
        replace r5 := cell_below' hb4 r5
        replace r6 := cell_below' hb4 r6
        replace r7 := cell_below' hb4 r7
        replace zr := Nat.lt_of_lt_of_le zr (hb4).size
        clear hb4 hbw
        go_upto_region 9 with (fail)
        have hb5 : Below w4.heap.size w4 (w4.alloc (.cells #[.int .i64 (sV h 2).re, .int .i64 (sV h 2).im] 24)) := below_alloc _ (Nat.le_refl _) (Below.refl _ _)
        have g0 : (w4.alloc (.cells #[.int .i64 (sV h 2).re, .int .i64 (sV h 2).im] 24)).cell? ⟨w4.heap.size, 0, none⟩ = some (.int .i64 (sV h 2).re) := cell_new (by simp) rfl
        have g1 : (w4.alloc (.cells #[.int .i64 (sV h 2).re, .int .i64 (sV h 2).im] 24)).cell? ⟨w4.heap.size, 1, none⟩ = some (.int .i64 (sV h 2).im) := cell_new (by simp) rfl
        have zg : w4.heap.size < (w4.alloc (.cells #[.int .i64 (sV h 2).re, .int .i64 (sV h 2).im] 24)).heap.size := World.block_lt_of_cell? _ _ g0
        generalize (w4.alloc (.cells #[.int .i64 (sV h 2).re, .int .i64 (sV h 2).im] 24)) = w5 at *
        have hb45 := hb4'.trans (hb5.mono hb4'.size)
        have k5 : Below w.heap.size w w5 := (k4).trans ((hb5).mono (k4).size)
        replace rf0 := frozen_below hb5 (World.block_lt_of_cell? _ _ r0) rf0
        replace rf1 := frozen_below hb5 (World.block_lt_of_cell? _ _ r1) rf1
        replace rf2 := frozen_below hb5 (World.block_lt_of_cell? _ _ r2) rf2
        replace rf3 := frozen_below hb5 (World.block_lt_of_cell? _ _ r3) rf3
        replace rf4 := frozen_below hb5 (World.block_lt_of_cell? _ _ r4) rf4
        replace rf5 := frozen_below hb5 (World.block_lt_of_cell? _ _ r5) rf5
        replace rf6 := frozen_below hb5 (World.block_lt_of_cell? _ _ r6) rf6
        replace rf7 := frozen_below hb5 (World.block_lt_of_cell? _ _ r7) rf7
        replace r0 := cell_below' hb5 r0
        replace r1 := cell_below' hb5 r1
        replace r2 := cell_below' hb5 r2
        replace r3 := cell_below' hb5 r3
        replace r4 := cell_below' hb5 r4
        replace r5 := cell_below' hb5 r5
        replace r6 := cell_below' hb5 r6
        replace r7 := cell_below' hb5 r7
        replace zr := Nat.lt_of_lt_of_le zr (hb5).size
        clear hb5 k4
        have HG5 := Lib.hid (HGO.out.below hb45)
        have hbr5 : Below (w.heap.size + 1 + 1) w3 w5 := hbr.trans (hb45.mono (by omega))
        have hdb : dB (sV h 2) = ((sV h 2).re.tmod 4 == 0 && (sV h 2).im.tmod 4 == 0) := rfl
        have HFQ := Lib.hid (HF.out 2 (by decide))
        have hgo : gover (sV h 2) 4 = ⟨(sV h 2).re.tdiv 4, (sV h 2).im.tdiv 4⟩ := rfl
        have HGV := Lib.hid hgo
        have t1 := tmod_bd (sV h 2).re 4 (by decide)
        have t2 := tmod_bd (sV h 2).im 4 (by decide)
        have hss := HSZ.out 2
        obtain ⟨u1, u2⟩ := tdiv_bd (sV h 2).re 4 _ (by decide) hss.r0 hss.r1
        obtain ⟨u3, u4⟩ := tdiv_bd (sV h 2).im 4 _ (by decide) hss.i0 hss.i1
        have zo5 := HG5.out.z
        clear hss
        clear hb45 hb4' HF hgo hix
        by_cases c1 : (sV h 2).re.tmod 4 = 0
        rotate_left 1
        · have e1 : ((sV h 2).re.tmod 4 != 0) = true := by simpa using c1
          have hf : dB (sV h 2) = false := by rw [hdb]; simp [c1]
          obtain ⟨f1, f2⟩ := HFQ.out hf
          have HF1 := Lib.hid f1
          have HF2 := Lib.hid f2
          clear c1 hf f1 f2 HFQ hdb HG t1 t2
          go_wp2_with (fail)
          obtain ⟨q0, q1, q2, q3, q4, q5, q6, q7⟩ := set8 (v0 := .int .i64 0) (v1 := .int .i64 0) (v2 := .int .i64 0) (v3 := .int .i64 0) (v4 := .int .i64 0) (v5 := .int .i64 0) (v6 := .int .i64 0) (v7 := .int .i64 0) r0 r1 r2 r3 r4 r5 r6 r7
          refine bodyPost_ret (v := .tuple #[.agg #[.int .i64 0, .int .i64 0, .int .i64 0, .int .i64 0, .int .i64 0, .int .i64 0, .int .i64 0, .int .i64 0], .int .i64 3]) (by simp [results, Tryd.results45, go_sem, q0, q1, q2, q3, q4, q5, q6, q7]) rfl ?_
          rw [HF1.out, HF2.out]
          have hle : w.heap.size ≤ w.heap.size + 1 := by omega
          exact ⟨rfl, below_set _ hle (below_set _ hle (below_set _ hle (below_set _ hle (below_set _ hle (below_set _ hle (below_set _ hle (below_set _ hle (k5))))))))⟩
        · have e1 : ((sV h 2).re.tmod 4 != 0) = false := by simpa using c1
          by_cases c2 : (sV h 2).im.tmod 4 = 0
          rotate_left 1
          · have e2 : ((sV h 2).im.tmod 4 != 0) = true := by simpa using c2
            have hf : dB (sV h 2) = false := by rw [hdb]; simp [c2]
            obtain ⟨f1, f2⟩ := HFQ.out hf
            have HF1 := Lib.hid f1
            have HF2 := Lib.hid f2
            clear c1 c2 hf f1 f2 HFQ hdb HG t1 t2
            go_wp2_with (fail)
            obtain ⟨q0, q1, q2, q3, q4, q5, q6, q7⟩ := set8 (v0 := .int .i64 0) (v1 := .int .i64 0) (v2 := .int .i64 0) (v3 := .int .i64 0) (v4 := .int .i64 0) (v5 := .int .i64 0) (v6 := .int .i64 0) (v7 := .int .i64 0) r0 r1 r2 r3 r4 r5 r6 r7
            refine bodyPost_ret (v := .tuple #[.agg #[.int .i64 0, .int .i64 0, .int .i64 0, .int .i64 0, .int .i64 0, .int .i64 0, .int .i64 0, .int .i64 0], .int .i64 3]) (by simp [results, Tryd.results45, go_sem, q0, q1, q2, q3, q4, q5, q6, q7]) rfl ?_
            rw [HF1.out, HF2.out]
            have hle : w.heap.size ≤ w.heap.size + 1 := by omega
            exact ⟨rfl, below_set _ hle (below_set _ hle (below_set _ hle (below_set _ hle (below_set _ hle (below_set _ hle (below_set _ hle (below_set _ hle (k5))))))))⟩
          · have e2 : ((sV h 2).im.tmod 4 != 0) = false := by simpa using c2
            have hf : dB (sV h 2) = true := by rw [hdb]; simp [c1, c2]
            have HD := Lib.hid hf
            obtain ⟨d0, d1⟩ := HG5.out.c 2 (by decide)
            have f0 := HG5.out.f (2 * 2)
            have f1 := HG5.out.f (2 * 2 + 1)
            simp only [Nat.reduceMul, Nat.reduceAdd] at d0 d1 f0 f1
            clear c1 c2 hf HFQ hdb HG t1 t2
            go_wp2_with (fail)
            exact ⟨⟨3, by decide, by decide, rfl, HG5.out.set (k := 2) (q := cutS h 3) (by decide) (by rw [HCV.out]; rfl) (by rw [HCV.out]; rfl) (fun j hj => by rw [HCV.out, HCV.out]; by_cases h : j < 2 <;> simp [h] <;> (try omega)), fun q hq => (if hqm : q = 2 then (by rw [hqm]; exact HD.out) else HDV.out q (by omega)), below_set _ (Nat.le_refl _) (below_set _ (Nat.le_refl _) hbr5)⟩, by decide⟩
      · have hix : ∀ W, (Instr.index 163 (.agg #[.complex .f64 a0 b0, .complex .f64 a1 b1, .complex .f64 a2 b2, .complex .f64 a3 b3]) (.int .i64 3)).run Tryd.prog W = .ok (.complex .f64 a3 b3) W := fun W => by kernel_rfl
        go_wp2_with (fail)
        refine (G3.out _).mono ?_
        rintro e w4 ⟨rfl, hb4⟩
        have hb4' := hb4
        have k4 : Below w.heap.size w w4 := (hbw).trans ((hb4).mono (hbw).size)
        replace rf0 := frozen_below hb4 (World.block_lt_of_cell? _ _ r0) rf0
        replace rf1 := frozen_below hb4 (World.block_lt_of_cell? _ _ r1) rf1
        replace rf2 := frozen_below hb4 (World.block_lt_of_cell? _ _ r2) rf2
        replace rf3 := frozen_below hb4 (World.block_lt_of_cell? _ _ r3) rf3
        replace rf4 := frozen_below hb4 (World.block_lt_of_cell? _ _ r4) rf4
        replace rf5 := frozen_below hb4 (World.block_lt_of_cell? _ _ r5) rf5
        replace rf6 := frozen_below hb4 (World.block_lt_of_cell? _ _ r6) rf6
        replace rf7 := frozen_below hb4 (World.block_lt_of_cell? _ _ r7) rf7
        replace r0 := cell_below' hb4 r0
        replace r1 := cell_below' hb4 r1
        replace r2 := cell_below' hb4 r2
        replace r3 := cell_below' hb4 r3
        replace r4 := cell_below' hb4 r4
        replace r5 := cell_below' hb4 r5
        replace r6 := cell_below' hb4 r6
        replace r7 := cell_below' hb4 r7
        replace zr := Nat.lt_of_lt_of_le zr (hb4).size
        clear hb4 hbw
        go_upto_region 9 with (fail)
        have hb5 : Below w4.heap.size w4 (w4.alloc (.cells #[.int .i64 (sV h 3).re, .int .i64 (sV h 3).im] 24)) := below_alloc _ (Nat.le_refl _) (Below.refl _ _)
        have g0 : (w4.alloc (.cells #[.int .i64 (sV h 3).re, .int .i64 (sV h 3).im] 24)).cell? ⟨w4.heap.size, 0, none⟩ = some (.int .i64 (sV h 3).re) := cell_new (by simp) rfl
        have g1 : (w4.alloc (.cells #[.int .i64 (sV h 3).re, .int .i64 (sV h 3).im] 24)).cell? ⟨w4.heap.size, 1, none⟩ = some (.int .i64 (sV h 3).im) := cell_new (by simp) rfl
        have zg : w4.heap.size < (w4.alloc (.cells #[.int .i64 (sV h 3).re, .int .i64 (sV h 3).im] 24)).heap.size := World.block_lt_of_cell? _ _ g0
        generalize (w4.alloc (.cells #[.int .i64 (sV h 3).re, .int .i64 (sV h 3).im] 24)) = w5 at *
        have hb45 := hb4'.trans (hb5.mono hb4'.size)
        have k5 : Below w.heap.size w w5 := (k4).trans ((hb5).mono (k4).size)
        replace rf0 := frozen_below hb5 (World.block_lt_of_cell? _ _ r0) rf0
        replace rf1 := frozen_below hb5 (World.block_lt_of_cell? _ _ r1) rf1
        replace rf2 := frozen_below hb5 (World.block_lt_of_cell? _ _ r2) rf2
        replace rf3 := frozen_below hb5 (World.block_lt_of_cell? _ _ r3) rf3
        replace rf4 := frozen_below hb5 (World.block_lt_of_cell? _ _ r4) rf4
        replace rf5 := frozen_below hb5 (World.block_lt_of_cell? _ _ r5) rf5
        replace rf6 := frozen_below hb5 (World.block_lt_of_cell? _ _ r6) rf6
        replace rf7 := frozen_below hb5 (World.block_lt_of_cell? _ _ r7) rf7
        replace r0 := cell_below' hb5 r0
        replace r1 := cell_below' hb5 r1
        replace r2 := cell_below' hb5 r2
        replace r3 := cell_below' hb5 r3
        replace r4 := cell_below' hb5 r4
        replace r5 := cell_below' hb5 r5
        replace r6 := cell_below' hb5 r6
        replace r7 := cell_below' hb5 r7
        replace zr := Nat.lt_of_lt_of_le zr (hb5).size
        clear hb5 k4
        have HG5 := Lib.hid (HGO.out.below hb45)
        have hbr5 : Below (w.heap.size + 1 + 1) w3 w5 := hbr.trans (hb45.mono (by omega))
        have hdb : dB (sV h 3) = ((sV h 3).re.tmod 4 == 0 && (sV h 3).im.tmod 4 == 0) := rfl
        have HFQ := Lib.hid (HF.out 3 (by decide))
        have hgo : gover (sV h 3) 4 = ⟨(sV h 3).re.tdiv 4, (sV h 3).im.tdiv 4⟩ := rfl
        have HGV := Lib.hid hgo
        have t1 := tmod_bd (sV h 3).re 4 (by decide)
        have t2 := tmod_bd (sV h 3).im 4 (by decide)
        have hss := HSZ.out 3
        obtain ⟨u1, u2⟩ := tdiv_bd (sV h 3).re 4 _ (by decide) hss.r0 hss.r1
        obtain ⟨u3, u4⟩ := tdiv_bd (sV h 3).im 4 _ (by decide) hss.i0 hss.i1
        have zo5 := HG5.out.z
        clear hss
        clear hb45 hb4' HF hgo hix
        by_cases c1 : (sV h 3).re.tmod 4 = 0
        rotate_left 1
        · have e1 : ((sV h 3).re.tmod 4 != 0) = true := by simpa using c1
          have hf : dB (sV h 3) = false := by rw [hdb]; simp [c1]
          obtain ⟨f1, f2⟩ := HFQ.out hf
          have HF1 := Lib.hid f1
          have HF2 := Lib.hid f2
          clear c1 hf f1 f2 HFQ hdb HG t1 t2
          go_wp2_with (fail)
          obtain ⟨q0, q1, q2, q3, q4, q5, q6, q7⟩ := set8 (v0 := .int .i64 0) (v1 := .int .i64 0) (v2 := .int .i64 0) (v3 := .int .i64 0) (v4 := .int .i64 0) (v5 := .int .i64 0) (v6 := .int .i64 0) (v7 := .int .i64 0) r0 r1 r2 r3 r4 r5 r6 r7
          refine bodyPost_ret (v := .tuple #[.agg #[.int .i64 0, .int .i64 0, .int .i64 0, .int .i64 0, .int .i64 0, .int .i64 0, .int .i64 0, .int .i64 0], .int .i64 3]) (by simp [results, Tryd.results45, go_sem, q0, q1, q2, q3, q4, q5, q6, q7]) rfl ?_
          rw [HF1.out, HF2.out]
          have hle : w.heap.size ≤ w.heap.size + 1 := by omega
          exact ⟨rfl, below_set _ hle (below_set _ hle (below_set _ hle (below_set _ hle (below_set _ hle (below_set _ hle (below_set _ hle (below_set _ hle (k5))))))))⟩
        · have e1 : ((sV h 3).re.tmod 4 != 0) = false := by simpa using c1
          by_cases c2 : (sV h 3).im.tmod 4 = 0
          rotate_left 1
          · have e2 : ((sV h 3).im.tmod 4 != 0) = true := by simpa using c2
            have hf : dB (sV h 3) = false := by rw [hdb]; simp [c2]
            obtain ⟨f1, f2⟩ := HFQ.out hf
            have HF1 := Lib.hid f1
            have HF2 := Lib.hid f2
            clear c1 c2 hf f1 f2 HFQ hdb HG t1 t2
            go_wp2_with (fail)
            obtain ⟨q0, q1, q2, q3, q4, q5, q6, q7⟩ := set8 (v0 := .int .i64 0) (v1 := .int .i64 0) (v2 := .int .i64 0) (v3 := .int .i64 0) (v4 := .int .i64 0) (v5 := .int .i64 0) (v6 := .int .i64 0) (v7 := .int .i64 0) r0 r1 r2 r3 r4 r5 r6 r7
            refine bodyPost_ret (v := .tuple #[.agg #[.int .i64 0, .int .i64 0, .int .i64 0, .int .i64 0, .int .i64 0, .int .i64 0, .int .i64 0, .int .i64 0], .int .i64 3]) (by simp [results, Tryd.results45, go_sem, q0, q1, q2, q3, q4, q5, q6, q7]) rfl ?_
            rw [HF1.out, HF2.out]
            have hle : w.heap.size ≤ w.heap.size + 1 := by omega
            exact ⟨rfl, below_set _ hle (below_set _ hle (below_set _ hle (below_set _ hle (below_set _ hle (below_set _ hle (below_set _ hle (below_set _ hle (k5))))))))⟩
          · have e2 : ((sV h 3).im.tmod 4 != 0) = false := by simpa using c2
            have hf : dB (sV h 3) = true := by rw [hdb]; simp [c1, c2]
            have HD := Lib.hid hf
            obtain ⟨d0, d1⟩ := HG5.out.c 3 (by decide)
            have f0 := HG5.out.f (3 * 2)
            have f1 := HG5.out.f (3 * 2 + 1)
            simp only [Nat.reduceMul, Nat.reduceAdd] at d0 d1 f0 f1
            clear c1 c2 hf HFQ hdb HG t1 t2
            go_wp2_with (fail)
            exact ⟨⟨4, by decide, by decide, rfl, HG5.out.set (k := 3) (q := cutS h 4) (by decide) (by rw [HCV.out]; rfl) (by rw [HCV.out]; rfl) (fun j hj => by rw [HCV.out, HCV.out]; by_cases h : j < 3 <;> simp [h] <;> (try omega)), fun q hq => (if hqm : q = 3 then (by rw [hqm]; exact HD.out) else HDV.out q (by omega)), below_set _ (Nat.le_refl _) (below_set _ (Nat.le_refl _) hbr5)⟩, by decide⟩
    · obtain rfl : m = 4 := by omega
      obtain ⟨g1, g2⟩ := HG.out (fun q hq => HDV.out q hq)
      have HG1 := Lib.hid g1
      have HG2 := Lib.hid g2
      obtain ⟨o0, o1, o2, o3, o4, o5, o6, o7⟩ := gx8 HGO.out
      rw [show (4 : Int).toNat = 4 from rfl] at o0 o1 o2 o3 o4 o5 o6 o7
      clear HG HF g1 g2 HDV G0 G1 G2 G3 HGO
      generalize cutS h 4 = v at *
      go_wp2_with (fail)
      obtain ⟨q0, q1, q2, q3, q4, q5, q6, q7⟩ := set8 (v0 := .int .i64 (v 0).re) (v1 := .int .i64 (v 0).im) (v2 := .int .i64 (v 1).re) (v3 := .int .i64 (v 1).im) (v4 := .int .i64 (v 2).re) (v5 := .int .i64 (v 2).im) (v6 := .int .i64 (v 3).re) (v7 := .int .i64 (v 3).im) r0 r1 r2 r3 r4 r5 r6 r7
      refine bodyPost_ret (v := .tuple #[gv4 v, .int .i64 0]) (by simp [results, Tryd.results45, go_sem, q0, q1, q2, q3, q4, q5, q6, q7]) rfl ?_
      rw [HG1.out, HG2.out]
      have hle : w.heap.size ≤ w.heap.size + 1 := by omega
      exact ⟨rfl, below_set _ hle (below_set _ hle (below_set _ hle (below_set _ hle (below_set _ hle (below_set _ hle (below_set _ hle (below_set _ hle (hbw))))))))⟩
end Go.Proofs.YtppghnbabnhnbaaDoor
