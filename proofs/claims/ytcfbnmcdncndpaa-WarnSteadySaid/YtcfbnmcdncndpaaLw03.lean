/-
  WarnRuled: the walk.
-/
import Derived.Test.YtcfbnmcdncndpaaWRcR
namespace Go.Proofs.Ytcfbnmcdncndpaa
open Go.ChangeShapes Go.WideShapes Go.ChangeAt Go.RowKit
set_option linter.unusedVariables false
set_option linter.unusedSimpArgs false

def Inc (l : List Int) : Prop := ∀ i, i + 1 < l.length → gt l i < gt l (i + 1)
theorem gt_cons (x : Int) (r : List Int) (i : Nat) : gt (x :: r) (i + 1) = gt r i := rfl
theorem Inc.tail {x : Int} {r : List Int} (h : Inc (x :: r)) : Inc r := fun i hi => by
  have := h (i + 1) (by simp; omega)
  simpa [gt_cons] using this
theorem Inc.head : ∀ {r : List Int} {x : Int}, Inc (x :: r) → ∀ y ∈ r, x < y
  | [], x, h, y, hy => by cases hy
  | z :: r, x, h, y, hy => by
    have h1 : x < z := by
      have := h 0 (by simp)
      simpa [gt] using this
    rcases List.mem_cons.1 hy with rfl | hy
    · exact h1
    · have := Inc.head (Inc.tail h) y hy
      omega
theorem rlev_stay (v : Int) : ∀ (l : List Int) (k lv : Int), (∀ y ∈ l, v < y) → rlev v l k lv = lv
  | [], _, _, _ => rfl
  | x :: r, k, lv, h => by
    have := h x (List.mem_cons_self ..)
    rw [rlev, if_neg (by omega)]
    exact rlev_stay v r _ _ fun y hy => h y (List.mem_cons_of_mem _ hy)
theorem rlev_up (v : Int) : ∀ (l : List Int) (k : Int), 0 ≤ k → Inc l → rlev v l (k + 1) k = if upIdx v l k < 0 then k + l.length else upIdx v l k
  | [], k, h, _ => by simp [rlev, upIdx]
  | x :: r, k, h, hi => by
    have hu : upIdx v (x :: r) k = if v < x then k else upIdx v r (k + 1) := rfl
    have hr : rlev v (x :: r) (k + 1) k = rlev v r (k + 1 + 1) (if x ≤ v then k + 1 else k) := rfl
    by_cases hx : x ≤ v
    · have hx2 : ¬ v < x := by omega
      rw [hr, hu, if_pos hx, if_neg hx2, rlev_up v r (k + 1) (by omega) hi.tail]
      by_cases hn : upIdx v r (k + 1) < 0
      · rw [if_pos hn, if_pos hn]; simp; omega
      · rw [if_neg hn, if_neg hn]
    · have hx2 : v < x := by omega
      have hk : ¬ k < 0 := by omega
      rw [hr, hu, if_neg hx, if_pos hx2, if_neg hk]
      exact rlev_stay v r _ _ fun y hy => by have := Inc.head hi y hy; omega
theorem RLev_reach {u : List Int} (h : Inc u) (v : Int) : RLev u v = reach u v := by
  have := rlev_up v u 0 (by omega) h
  unfold RLev reach
  rw [show (1 : Int) = 0 + 1 by rfl, this]
  simp
theorem OkR.inc {s : ByteArray} {u d : List Int} {hold : Int} (h : OkR s u d hold) : Inc u := h.iu
def fewB (nm : ByteArray) (u d : List Int) : Bool := decide ((u.length : Int) ≤ 6) && decide ((d.length : Int) ≤ 6) && decide ((nm.size : Int) ≤ 30)
theorem few_any (nm : ByteArray) (A : Option Addr) (u : List Int) (ca : Nat) (B : Option Addr) (d : List Int) (cb : Nat) (hold : Int) (w : World) :
    Calls Try.prog 16 #[.agg #[.string nm, .slice A u.length ca, .slice B d.length cb, .int .i64 hold]] w fun e w' => e = .returned (.bool (fewB nm u d)) ∧ Below w.heap.size w w' := by
  have hq : fewB nm u d = (decide ((u.length : Int) ≤ 6) && decide ((d.length : Int) ≤ 6) && decide ((nm.size : Int) ≤ 30)) := rfl
  cases h1 : decide ((u.length : Int) ≤ 6) <;> cases h2 : decide ((d.length : Int) ≤ 6) <;> cases h3 : decide ((nm.size : Int) ≤ 30)
  all_goals
    rw [h1, h2, h3] at hq
    rw [hq]
    clear hq
    go_enter Try.func16, Try.ntmps16
    go_wp2
    go_ret
    exact ⟨rfl, (by repeat (first | assumption | exact Below.refl _ _ | refine Below.drew ?_ | (refine below_alloc _ ?_ ?_; focus (first | omega | (simp; done) | (simp; omega) | (simp at *; omega))) | (refine below_set _ ?_ ?_; focus (first | omega | (simp; done) | (simp; omega) | (simp at *; omega))) | refine below_drewN ?_ _ | (refine below_call (by assumption) ?_ ?_; focus (first | omega | (simp; done) | (simp; omega) | (simp at *; omega))) | (refine below_call' (by assumption) ?_ ?_; focus (first | omega | (simp; done) | (simp; omega) | (simp at *; omega)))))⟩
theorem fewB_true {nm : ByteArray} {u d : List Int} (h : fewB nm u d = true) : u.length ≤ 6 ∧ d.length ≤ 6 ∧ nm.size ≤ 30 := by
  unfold fewB at h
  rw [Bool.and_eq_true, Bool.and_eq_true, decide_eq_true_eq, decide_eq_true_eq, decide_eq_true_eq] at h
  exact ⟨by omega, by omega, by omega⟩
def levF (nm : ByteArray) (u d : List Int) (hold v : Int) : Int := firstE [chkRE nm u d hold, unl (withinB v (-1000000) 1000000) 2]
def levV (nm : ByteArray) (u d : List Int) (hold v : Int) : Int := if levF nm u d hold v = 0 then reach u v else 0
theorem LevelFrom_v (s : ByteArray) (A : Option Addr) (u : List Int) (ca : Nat) (B : Option Addr) (d : List Int) (cb : Nat) (hold v : Int) (w : World) (hs : s.size ≤ 1000) (hu : u.length ≤ 100) (hd : d.length ≤ 100) (hA : IntsAt w A u) (hB : IntsAt w B d) :
    Calls Try.prog 19 #[.agg #[.string s, .slice A u.length ca, .slice B d.length cb, .int .i64 hold], .int .i64 v] w fun e w' => e = .returned (.tuple #[.int .i64 (levV s u d hold v), .int .i64 (levF s u d hold v)]) ∧ Below w.heap.size w w' := LevelFrom_any s A u ca B d cb hold v w hs hu hd hA hB
def opV (nm : ByteArray) (u d : List Int) (hold n : Int) : Int := if opE nm u d hold n = 0 then oB u d n else 0
theorem Openings_v (nm : ByteArray) (A : Option Addr) (u : List Int) (ca : Nat) (B : Option Addr) (d : List Int) (cb : Nat) (hold n : Int) (w : World) (hs : nm.size ≤ 1000) (hu : u.length ≤ 100) (hd : d.length ≤ 100) (hA : IntsAt w A u) (hB : IntsAt w B d) :
    Calls Try.prog 20 #[.agg #[.string nm, .slice A u.length ca, .slice B d.length cb, .int .i64 hold], .int .i64 n] w fun e w' => e = .returned (.tuple #[.int .i64 (opV nm u d hold n), .int .i64 (opE nm u d hold n)]) ∧ Below w.heap.size w w' := OpeningsBound_any nm A u ca B d cb hold n w hs hu hd hA hB
set_option maxRecDepth 100000 in
set_option maxHeartbeats 4000000 in
theorem WarnRuled_any (nm : ByteArray) (A : Option Addr) (u : List Int) (ca : Nat) (B : Option Addr) (d : List Int) (cb : Nat) (hold v n : Int) (w : World) (hA : IntsAt w A u) (hB : IntsAt w B d) :
    Calls Try.prog 3 #[.agg #[.string nm, .slice A u.length ca, .slice B d.length cb, .int .i64 hold], .int .i64 v, .int .i64 n] w fun e w' => e = .returned (.bool true) ∧ Below w.heap.size w w' := by
  go_enter Try.func3, Try.ntmps3
  go_wp2_with (fail)
  have hb0 : Below w.heap.size w (w.alloc (.cells #[.string nm, .slice A u.length ca, .slice B d.length cb, .int .i64 hold] 24)) := (by repeat (first | assumption | exact Below.refl _ _ | refine Below.drew ?_ | (refine below_alloc _ ?_ ?_; focus (first | omega | (simp; done) | (simp; omega) | (simp at *; omega))) | (refine below_set _ ?_ ?_; focus (first | omega | (simp; done) | (simp; omega) | (simp at *; omega))) | refine below_drewN ?_ _ | (refine below_call (by assumption) ?_ ?_; focus (first | omega | (simp; done) | (simp; omega) | (simp at *; omega))) | (refine below_call' (by assumption) ?_ ?_; focus (first | omega | (simp; done) | (simp; omega) | (simp at *; omega)))))
  have x0 : (w.alloc (.cells #[.string nm, .slice A u.length ca, .slice B d.length cb, .int .i64 hold] 24)).cell? ⟨w.heap.size, 0, none⟩ = some (.string nm) := cell_new rfl rfl
  have x1 : (w.alloc (.cells #[.string nm, .slice A u.length ca, .slice B d.length cb, .int .i64 hold] 24)).cell? ⟨w.heap.size, 1, none⟩ = some (.slice A u.length ca) := cell_new rfl rfl
  have x2 : (w.alloc (.cells #[.string nm, .slice A u.length ca, .slice B d.length cb, .int .i64 hold] 24)).cell? ⟨w.heap.size, 2, none⟩ = some (.slice B d.length cb) := cell_new rfl rfl
  have x3 : (w.alloc (.cells #[.string nm, .slice A u.length ca, .slice B d.length cb, .int .i64 hold] 24)).cell? ⟨w.heap.size, 3, none⟩ = some (.int .i64 hold) := cell_new rfl rfl
  have hA0 := RowsAt.below hA hb0
  have hB0 := RowsAt.below hB hb0
  generalize (w.alloc (.cells #[.string nm, .slice A u.length ca, .slice B d.length cb, .int .i64 hold] 24)) = w0 at *
  clear hA hB
  refine (awake_any _).mono ?_
  rintro e w1 ⟨rfl, hb1⟩
  (have h1 : Below w.heap.size w w1 := (hb0).trans ((hb1).mono (hb0).size); replace x0 := cell_below' hb1 x0; replace x1 := cell_below' hb1 x1; replace x2 := cell_below' hb1 x2; replace x3 := cell_below' hb1 x3; replace hA0 := RowsAt.below hA0 hb1; replace hB0 := RowsAt.below hB0 hb1; clear hb1 hb0)
  go_wp2_with (fail)
  refine (few_any nm A u ca B d cb hold _).mono ?_
  rintro e w2 ⟨rfl, hb2⟩
  (have h2 : Below w.heap.size w w2 := (h1).trans ((hb2).mono (h1).size); replace x0 := cell_below' hb2 x0; replace x1 := cell_below' hb2 x1; replace x2 := cell_below' hb2 x2; replace x3 := cell_below' hb2 x3; replace hA0 := RowsAt.below hA0 hb2; replace hB0 := RowsAt.below hB0 hb2; clear hb2 h1)
  cases hf : fewB nm u d
  · clear hf
    go_wp2_with (fail)
    go_ret
    exact ⟨rfl, h2⟩
  obtain ⟨hu6, hd6, hn30⟩ := fewB_true hf
  clear hf
  go_wp2_with (fail)
  refine (CopyRules_any nm A u ca B d cb hold _ (by omega) (by omega) hA0 hB0).mono ?_
  rintro e w3 ⟨A3, ca3, B3, cb3, rfl, ra, rb, -, hb3⟩
  (have h3 : Below w.heap.size w w3 := (h2).trans ((hb3).mono (h2).size); replace x0 := cell_below' hb3 x0; replace x1 := cell_below' hb3 x1; replace x2 := cell_below' hb3 x2; replace x3 := cell_below' hb3 x3; replace hA0 := RowsAt.below hA0 hb3; replace hB0 := RowsAt.below hB0 hb3; clear hb3 h2)
  go_wp2_with (fail)
  refine (CheckRules_any nm A3 u ca3 B3 d cb3 hold _ (by omega) (by omega) (by omega) ra rb).mono ?_
  rintro e w4 ⟨rfl, hb4⟩
  (have h4 : Below w.heap.size w w4 := (h3).trans ((hb4).mono (h3).size); replace x0 := cell_below' hb4 x0; replace x1 := cell_below' hb4 x1; replace x2 := cell_below' hb4 x2; replace x3 := cell_below' hb4 x3; replace hA0 := RowsAt.below hA0 hb4; replace hB0 := RowsAt.below hB0 hb4; clear hb4 h3)
  clear ra rb
  go_wp2_with (fail)
  refine (CopyRules_any nm A u ca B d cb hold _ (by omega) (by omega) hA0 hB0).mono ?_
  rintro e w5 ⟨A5, ca5, B5, cb5, rfl, ra, rb, -, hb5⟩
  (have h5 : Below w.heap.size w w5 := (h4).trans ((hb5).mono (h4).size); replace x0 := cell_below' hb5 x0; replace x1 := cell_below' hb5 x1; replace x2 := cell_below' hb5 x2; replace x3 := cell_below' hb5 x3; replace hA0 := RowsAt.below hA0 hb5; replace hB0 := RowsAt.below hB0 hb5; clear hb5 h4)
  go_wp2_with (fail)
  refine (LevelFrom_v nm A5 u ca5 B5 d cb5 hold v _ (by omega) (by omega) (by omega) ra rb).mono ?_
  rintro e w6 ⟨rfl, hb6⟩
  (have h6 : Below w.heap.size w w6 := (h5).trans ((hb6).mono (h5).size); replace x0 := cell_below' hb6 x0; replace x1 := cell_below' hb6 x1; replace x2 := cell_below' hb6 x2; replace x3 := cell_below' hb6 x3; replace hA0 := RowsAt.below hA0 hb6; replace hB0 := RowsAt.below hB0 hb6; clear hb6 h5)
  clear ra rb
  go_wp2_with (fail)
  refine (CopyRules_any nm A u ca B d cb hold _ (by omega) (by omega) hA0 hB0).mono ?_
  rintro e w7 ⟨A7, ca7, B7, cb7, rfl, ra, rb, -, hb7⟩
  (have h7 : Below w.heap.size w w7 := (h6).trans ((hb7).mono (h6).size); replace x0 := cell_below' hb7 x0; replace x1 := cell_below' hb7 x1; replace x2 := cell_below' hb7 x2; replace x3 := cell_below' hb7 x3; replace hA0 := RowsAt.below hA0 hb7; replace hB0 := RowsAt.below hB0 hb7; clear hb7 h6)
  go_wp2_with (fail)
  refine (Openings_v nm A7 u ca7 B7 d cb7 hold n _ (by omega) (by omega) (by omega) ra rb).mono ?_
  rintro e w8 ⟨rfl, hb8⟩
  (have h8 : Below w.heap.size w w8 := (h7).trans ((hb8).mono (h7).size); replace x0 := cell_below' hb8 x0; replace x1 := cell_below' hb8 x1; replace x2 := cell_below' hb8 x2; replace x3 := cell_below' hb8 x3; replace hA0 := RowsAt.below hA0 hb8; replace hB0 := RowsAt.below hB0 hb8; clear hb8 h7)
  clear ra rb
  go_wp2_with (fail)
  refine (RCheckRules_any nm A u ca B d cb hold _ (by omega) (by omega) (by omega) hA0 hB0).mono ?_
  rintro e w9 ⟨rfl, hb9⟩
  (have h9 : Below w.heap.size w w9 := (h8).trans ((hb9).mono (h8).size); replace x0 := cell_below' hb9 x0; replace x1 := cell_below' hb9 x1; replace x2 := cell_below' hb9 x2; replace x3 := cell_below' hb9 x3; replace hA0 := RowsAt.below hA0 hb9; replace hB0 := RowsAt.below hB0 hb9; clear hb9 h8)
  have hcE : chkRE nm u d hold = (chkR nm u d hold).2 := rfl
  have hlE : levF nm u d hold v = firstE [(chkR nm u d hold).2, unl (withinB v (-1000000) 1000000) 2] := rfl
  have hlV : levV nm u d hold v = if levF nm u d hold v = 0 then reach u v else 0 := rfl
  have hoE : opE nm u d hold n = firstE [(chkR nm u d hold).2, unl (withinB n 0 1000000000) 2] := rfl
  have hoV : opV nm u d hold n = if opE nm u d hold n = 0 then oB u d n else 0 := rfl
  have HOK := Lib.hid (fun h : (chkR nm u d hold).2 = 0 => (okR_of h : OkR nm u d hold))
  clear hcE
  generalize (chkR nm u d hold).1 = I at *
  generalize (chkR nm u d hold).2 = E at *
  generalize levF nm u d hold v = F at *
  generalize levV nm u d hold v = lv at *
  generalize opE nm u d hold n = G at *
  generalize opV nm u d hold n = ov at *
  have hii : (I != I) = false := by simp
  have hee : (E != E) = false := by simp
  by_cases hE : E = 0
  rotate_left 1
  · have hF : F = E := by rw [hlE, firstE_nz hE]
    have hG : G = E := by rw [hoE, firstE_nz hE]
    have hl0 : lv = 0 := by rw [hlV, hF, if_neg hE]
    have ho0 : ov = 0 := by rw [hoV, hG, if_neg hE]
    have e1 : (E != 0) = true := by simpa using hE
    have e2 : (E == E) = true := by simp
    subst hF hG hl0 ho0
    clear hlE hlV hoE hoV hE HOK
    go_wp2_with (fail)
    go_ret
    exact ⟨rfl, h9⟩
  subst hE
  have ho := HOK.out rfl
  have HO := Lib.hid ho
  have hrl := RLev_reach ho.inc v
  have HRL := Lib.hid hrl
  clear HOK ho hrl
  rw [firstE_consz] at hlE hoE
  cases hn : withinB n 0 1000000000
  · have hG : G = 2 := by rw [hoE, hn]; rfl
    have ho0 : ov = 0 := by rw [hoV, hG]; rfl
    have HN := Lib.hid hn
    subst hG ho0
    clear hoE hoV hn
    cases hv : withinB v (-1000000) 1000000
    · have hF : F = 2 := by rw [hlE, hv]; rfl
      have hl0 : lv = 0 := by rw [hlV, hF]; rfl
      have HV := Lib.hid (show unl (withinB v (-1000000) 1000000) 2 = 2 by rw [hv]; rfl)
      subst hF hl0
      clear hlE hlV hv HRL HO
      go_wp2_with (first | (go_at_call 22; refine (Within_any _ _ _ _).mono ?_; rintro e w' ⟨rfl, rfl⟩; rw [HN.out]) | (go_at_call 24; refine (RValueErr_any _ _).mono ?_; rintro e w' ⟨rfl, rfl⟩; rw [HV.out]))
      go_ret
      exact ⟨rfl, h9⟩
    · have hF : F = 0 := by rw [hlE, hv]; rfl
      have hl0 : lv = reach u v := by rw [hlV, hF]; rfl
      have HV := Lib.hid (show unl (withinB v (-1000000) 1000000) 2 = 0 by rw [hv]; rfl)
      subst hF hl0
      clear hlE hlV hv HO
      have hrr : (reach u v == reach u v) = true := by simp
      go_wp2_with (first | (go_at_call 22; refine (Within_any _ _ _ _).mono ?_; rintro e w' ⟨rfl, rfl⟩; rw [HN.out]) | (go_at_call 24; refine (RValueErr_any _ _).mono ?_; rintro e w' ⟨rfl, rfl⟩; rw [HV.out]))
      refine (RLevelFrom_any nm A u ca B d.length cb hold v _ (by omega) hA0).mono ?_
      rintro e w11 ⟨rfl, hb11⟩
      rw [HRL.out]
      have hw11 : Below w.heap.size w w11 := h9.trans (hb11.mono h9.size)
      go_wp2_with (fail)
      go_ret
      exact ⟨rfl, hw11⟩
  · obtain ⟨hn1, hn2⟩ := withinB_true.1 hn
    have hG : G = 0 := by rw [hoE, hn]; rfl
    have ho0 : ov = oB u d n := by rw [hoV, hG]; rfl
    have HN := Lib.hid hn
    subst hG ho0
    clear hoE hoV hn
    have hoo : (oB u d n != oB u d n) = false := by simp
    have HLE := Lib.hid hlE
    have HLV := Lib.hid hlV
    clear hlE hlV
    go_wp2_with (go_at_call 22; refine (Within_any _ _ _ _).mono ?_; rintro e w' ⟨rfl, rfl⟩; rw [HN.out])
    refine (ROpenings_any nm A u ca B d cb hold n _ HO.out hn1 hn2 hA0 hB0).mono ?_
    rintro e w10 ⟨rfl, hb10⟩
    (have h10 : Below w.heap.size w w10 := (h9).trans ((hb10).mono (h9).size); replace x0 := cell_below' hb10 x0; replace x1 := cell_below' hb10 x1; replace x2 := cell_below' hb10 x2; replace x3 := cell_below' hb10 x3; replace hA0 := RowsAt.below hA0 hb10; replace hB0 := RowsAt.below hB0 hb10; clear hb10 h9)
    cases hv : withinB v (-1000000) 1000000
    · have hF : F = 2 := by rw [HLE.out, hv]; rfl
      have hl0 : lv = 0 := by rw [HLV.out, hF]; rfl
      have HV := Lib.hid (show unl (withinB v (-1000000) 1000000) 2 = 2 by rw [hv]; rfl)
      subst hF hl0
      clear HLE HLV hv HRL HO
      go_wp2_with (go_at_call 24; refine (RValueErr_any _ _).mono ?_; rintro e w' ⟨rfl, rfl⟩; rw [HV.out])
      go_ret
      exact ⟨rfl, h10⟩
    · have hF : F = 0 := by rw [HLE.out, hv]; rfl
      have hl0 : lv = reach u v := by rw [HLV.out, hF]; rfl
      have HV := Lib.hid (show unl (withinB v (-1000000) 1000000) 2 = 0 by rw [hv]; rfl)
      subst hF hl0
      clear HLE HLV hv HO
      have hrr : (reach u v == reach u v) = true := by simp
      go_wp2_with (go_at_call 24; refine (RValueErr_any _ _).mono ?_; rintro e w' ⟨rfl, rfl⟩; rw [HV.out])
      refine (RLevelFrom_any nm A u ca B d.length cb hold v _ (by omega) hA0).mono ?_
      rintro e w11 ⟨rfl, hb11⟩
      rw [HRL.out]
      have hw11 : Below w.heap.size w w11 := h10.trans (hb11.mono h10.size)
      go_wp2_with (fail)
      go_ret
      exact ⟨rfl, hw11⟩
end Go.Proofs.Ytcfbnmcdncndpaa
