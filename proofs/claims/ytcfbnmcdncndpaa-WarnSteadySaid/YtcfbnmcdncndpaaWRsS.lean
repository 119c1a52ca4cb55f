/-
  Chapter 8: the reference's ValuesErr, StateOf, Events; short.
-/
import Derived.Test.YtcfbnmcdncndpaaWRst
namespace Go.Proofs.Ytcfbnmcdncndpaa
open Go.ChangeShapes Go.WideShapes Go.ChangeAt Go.RowKit
set_option linter.unusedVariables false
set_option linter.unusedSimpArgs false

def shortB (n : Nat) : Bool := decide (n ≤ 60) || (decide (500 < n) && decide (n ≤ 502))
theorem shortB_true {n : Nat} (h : shortB n = true) : n ≤ 502 := by
  unfold shortB at h
  simp at h
  omega
theorem short_any (V : Option Addr) (n cv : Nat) (w : World) :
    Calls Try.prog 34 #[.slice V n cv] w fun e w' => e = .returned (.bool (shortB n)) ∧ w = w' := by
  have hq : shortB n = (decide (n ≤ 60) || (decide (500 < n) && decide (n ≤ 502))) := rfl
  by_cases h1 : n ≤ 60
  · have hr : shortB n = true := by rw [hq]; simp [h1]
    rw [hr]
    have e1 : decide ((n : Int) ≤ 60) = true := by simp; omega
    clear hq hr h1
    go_enter Try.func34, Try.ntmps34
    go_wp2
    go_ret
    exact ⟨rfl, rfl⟩
  · have e1 : decide ((n : Int) ≤ 60) = false := by simp; omega
    by_cases h2 : 500 < n
    · have e2 : decide ((500 : Int) < (n : Int)) = true := by simp; omega
      by_cases h3 : n ≤ 502
      · have hr : shortB n = true := by rw [hq]; simp [h2, h3]
        rw [hr]
        have e3 : decide ((n : Int) ≤ 502) = true := by simp; omega
        clear hq hr h1 h2 h3
        go_enter Try.func34, Try.ntmps34
        go_wp2
        go_ret
        exact ⟨rfl, rfl⟩
      · have hr : shortB n = false := by rw [hq]; simp [h1, h3]
        rw [hr]
        have e3 : decide ((n : Int) ≤ 502) = false := by simp; omega
        clear hq hr h1 h2 h3
        go_enter Try.func34, Try.ntmps34
        go_wp2
        go_ret
        exact ⟨rfl, rfl⟩
    · have hr : shortB n = false := by rw [hq]; simp [h1, h2]
      rw [hr]
      have e2 : decide ((500 : Int) < (n : Int)) = false := by simp; omega
      clear hq hr h1 h2
      go_enter Try.func34, Try.ntmps34
      go_wp2
      go_ret
      exact ⟨rfl, rfl⟩
/-- the error of values -/
def oddE : List Int → Int
  | [] => 0
  | x :: r => if isV x = true then oddE r else 2
theorem oddE_eq : ∀ (l : List Int), oddE l = unl (!oddV l) 2
  | [] => rfl
  | x :: r => by
    have ih := oddE_eq r
    unfold oddE
    by_cases hx : isV x = true
    · rw [if_pos hx, ih]
      cases h : oddV r
      · rw [oddV_false] at h
        have : oddV (x :: r) = false := oddV_false.2 (List.forall_mem_cons.2 ⟨hx, h⟩)
        rw [this]
      · have : oddV (x :: r) = true := by
          cases h2 : oddV (x :: r)
          · rw [oddV_false] at h2
            have := oddV_false.2 (List.forall_mem_cons.1 h2).2
            rw [h] at this; cases this
          · rfl
        rw [this]
    · rw [if_neg hx]
      have : oddV (x :: r) = true := by
        cases h2 : oddV (x :: r)
        · rw [oddV_false] at h2
          exact absurd (List.forall_mem_cons.1 h2).1 hx
        · rfl
      rw [this]; rfl
def vlsE (vs : List Int) : Int := firstE [unl (decide (vs.length ≤ 500)) 8, unl (!oddV vs) 2]
theorem vlsE_ok {vs : List Int} (h : vlsE vs = 0) : vs.length ≤ 500 ∧ ∀ x ∈ vs, isV x = true := by
  unfold vlsE at h
  rw [firstE2, unl_zero (by decide), unl_zero (by decide), decide_eq_true_eq, Bool.not_eq_true', oddV_false] at h
  exact h
theorem valE_vls (nm : ByteArray) (u d : List Int) (hold : Int) (vs : List Int) : valE nm u d hold vs = if chkRE nm u d hold = 0 then vlsE vs else chkRE nm u d hold := by
  unfold valE vlsE
  by_cases h : chkRE nm u d hold = 0
  · rw [if_pos h, h, firstE_z]
  · rw [if_neg h, firstE_nz h]
theorem ValuesErr_any (V : Option Addr) (vs : List Int) (cv : Nat) (w : World) (hl : vs.length ≤ 1000000) (hV : IntsAt w V vs) :
    Calls Try.prog 39 #[.slice V vs.length cv] w fun e w' => e = .returned (.int .i64 (vlsE vs)) ∧ w = w' := by
  by_cases h5 : vs.length ≤ 500
  rotate_left 1
  · have hq : vlsE vs = 8 := by unfold vlsE; rw [show decide (vs.length ≤ 500) = false by simpa using h5]; rfl
    rw [hq]
    have e1 : decide ((500 : Int) < (vs.length : Int)) = true := by simp; omega
    clear hq h5
    go_enter Try.func39, Try.ntmps39
    go_wp2
    go_ret
    exact ⟨rfl, rfl⟩
  have hq : vlsE vs = oddE vs := by
    unfold vlsE
    rw [show decide (vs.length ≤ 500) = true by simpa using h5, oddE_eq]
    exact firstE_consz
  rw [hq]
  have e1 : decide ((500 : Int) < (vs.length : Int)) = false := by simp; omega
  clear hq
  go_enter Try.func39, Try.ntmps39
  go_wp2
  go_loop [3] (fun i => ∃ k : Nat, k ≤ vs.length ∧ i = .int .i64 k ∧ oddE vs = oddE (vs.drop k)) (fun i => vs.length - (intOf i).toNat)
  case atStart => exact ⟨0, Nat.zero_le _, rfl, rfl⟩
  case round =>
    obtain ⟨k, hk, rfl, he⟩ := hrel
    have H := Lib.hid he
    clear he
    by_cases hlt : k < vs.length
    · have hd : vs.drop k = vs[k] :: vs.drop (k + 1) := List.drop_eq_getElem_cons hlt
      rw [hd] at H
      clear hd
      obtain ⟨bb, off, rfl, hb, h1⟩ := IntsAt.at_ hV hlt
      generalize vs[k] = x at *
      cases hx : isV x
      · have HX := Lib.hid (show unl (withinB x (-1000000) 1000000) 2 = 2 by have h : withinB x (-1000000) 1000000 = false := hx; rw [h]; rfl)
        have H2 := Lib.hid (H.out.trans (show oddE (x :: vs.drop (k + 1)) = 2 by rw [oddE, if_neg (by rw [hx]; decide)]))
        clear hx
        go_wp2_with (go_at_call 24; refine (RValueErr_any _ _).mono ?_; rintro e w' ⟨rfl, rfl⟩; rw [HX.out])
        go_ret
        exact ⟨ret_int H2.out.symm, rfl⟩
      · have HX := Lib.hid (show unl (withinB x (-1000000) 1000000) 2 = 0 by have h : withinB x (-1000000) 1000000 = true := hx; rw [h]; rfl)
        have H2 := Lib.hid (H.out.trans (show oddE (x :: vs.drop (k + 1)) = oddE (vs.drop (k + 1)) by rw [oddE, if_pos hx]))
        clear hx
        go_wp2_with (go_at_call 24; refine (RValueErr_any _ _).mono ?_; rintro e w' ⟨rfl, rfl⟩; rw [HX.out])
        go_round
        case rel => exact ⟨k + 1, by omega, by go_num, H2.out⟩
        case measure => simp [intOf]; omega
    · have e : vs.drop k = [] := List.drop_eq_nil_of_le (by omega)
      rw [e] at H
      clear e
      go_wp2
      go_ret
      exact ⟨ret_int (by rw [H.out]; rfl), rfl⟩
/-- a box of rules -/
structure RulAt (b : Nat) (nm : ByteArray) (A : Option Addr) (lu ca : Nat) (B : Option Addr) (ld cb : Nat) (hold : Int) (w : World) : Prop where
  c0 : w.cell? ⟨b, 0, none⟩ = some (.string nm)
  c1 : w.cell? ⟨b, 1, none⟩ = some (.slice A lu ca)
  c2 : w.cell? ⟨b, 2, none⟩ = some (.slice B ld cb)
  c3 : w.cell? ⟨b, 3, none⟩ = some (.int .i64 hold)
section
variable {b : Nat} {nm : ByteArray} {A B : Option Addr} {lu ca ld cb : Nat} {hold : Int} {w w' : World}
theorem RulAt.lt (h : RulAt b nm A lu ca B ld cb hold w) : b < w.heap.size := World.block_lt_of_cell? w _ h.c0
theorem RulAt.below (h : RulAt b nm A lu ca B ld cb hold w) (hb : Below w.heap.size w w') : RulAt b nm A lu ca B ld cb hold w' := ⟨cell_below' hb h.c0, cell_below' hb h.c1, cell_below' hb h.c2, cell_below' hb h.c3⟩
theorem RulAt.far (h : RulAt b nm A lu ca B ld cb hold w) {c j : Nat} {v : Value} (hn : c ≠ b) : RulAt b nm A lu ca B ld cb hold (w.setCell ⟨c, j, none⟩ v) := ⟨cell_far hn h.c0, cell_far hn h.c1, cell_far hn h.c2, cell_far hn h.c3⟩
theorem StaAt.far {s : Sta} (h : StaAt b s w) {c j : Nat} {v : Value} (hn : c ≠ b) : StaAt b s (w.setCell ⟨c, j, none⟩ v) :=
  ⟨cell_far hn h.1, cell_far hn h.2, cell_far hn h.3, frozen_set _ _ h.4, frozen_set _ _ h.5, frozen_set _ _ h.6⟩
end
def RStI (w : World) (nm : ByteArray) (A : Option Addr) (u : List Int) (ca : Nat) (B : Option Addr) (d : List Int) (cb : Nat) (hold : Int) (vs : List Int) (i : Value) (wr : World) : Prop :=
  ∃ k : Nat, k ≤ vs.length ∧ i = .int .i64 k ∧ Below w.heap.size w wr ∧ RulAt w.heap.size nm A u.length ca B d.length cb hold wr ∧ StaAt (w.heap.size + 1) ⟨0, 0, 0⟩ wr ∧ StaAt (w.heap.size + 1 + 1) (runS u d hold ⟨0, 0, 0⟩ (vs.take k)) wr
theorem take_snoc' {α : Type} {l : List α} {k : Nat} (h : k < l.length) : l.take (k + 1) = l.take k ++ [l[k]] := List.take_succ_eq_append_getElem h
set_option maxRecDepth 100000 in
set_option maxHeartbeats 4000000 in
theorem RStateOf_any (nm : ByteArray) (A : Option Addr) (u : List Int) (ca : Nat) (B : Option Addr) (d : List Int) (cb : Nat) (hold : Int) (V : Option Addr) (vs : List Int) (cv : Nat) (w : World) (ho : OkR nm u d hold) (hl : vs.length ≤ 1000) (hA : IntsAt w A u) (hB : IntsAt w B d) (hV : IntsAt w V vs) :
    Calls Try.prog 40 #[.agg #[.string nm, .slice A u.length ca, .slice B d.length cb, .int .i64 hold], .slice V vs.length cv] w fun e w' => e = .returned (staC (runS u d hold ⟨0, 0, 0⟩ vs)) ∧ Below w.heap.size w w' := by
  have HO := Lib.hid ho
  clear ho
  go_enter Try.func40, Try.ntmps40
  go_wp2_with (fail)
  have hb0 : Below w.heap.size w (((w.alloc (.cells #[.string nm, .slice A u.length ca, .slice B d.length cb, .int .i64 hold] 24)).alloc (.cells #[.int .i64 0, .int .i64 0, .int .i64 0] 61)).alloc (.cells #[.int .i64 0, .int .i64 0, .int .i64 0] 61)) := below_alloc _ (Nat.le_refl _) (below_alloc _ (Nat.le_refl _) (below_alloc _ (Nat.le_refl _) (Below.refl _ _)))
  have x0 : (((w.alloc (.cells #[.string nm, .slice A u.length ca, .slice B d.length cb, .int .i64 hold] 24)).alloc (.cells #[.int .i64 0, .int .i64 0, .int .i64 0] 61)).alloc (.cells #[.int .i64 0, .int .i64 0, .int .i64 0] 61)).cell? ⟨w.heap.size, 0, none⟩ = some (.string nm) := cell_alloc _ (cell_alloc _ (cell_new (by simp) rfl))
  have x1 : (((w.alloc (.cells #[.string nm, .slice A u.length ca, .slice B d.length cb, .int .i64 hold] 24)).alloc (.cells #[.int .i64 0, .int .i64 0, .int .i64 0] 61)).alloc (.cells #[.int .i64 0, .int .i64 0, .int .i64 0] 61)).cell? ⟨w.heap.size, 1, none⟩ = some (.slice A u.length ca) := cell_alloc _ (cell_alloc _ (cell_new (by simp) rfl))
  have x2 : (((w.alloc (.cells #[.string nm, .slice A u.length ca, .slice B d.length cb, .int .i64 hold] 24)).alloc (.cells #[.int .i64 0, .int .i64 0, .int .i64 0] 61)).alloc (.cells #[.int .i64 0, .int .i64 0, .int .i64 0] 61)).cell? ⟨w.heap.size, 2, none⟩ = some (.slice B d.length cb) := cell_alloc _ (cell_alloc _ (cell_new (by simp) rfl))
  have x3 : (((w.alloc (.cells #[.string nm, .slice A u.length ca, .slice B d.length cb, .int .i64 hold] 24)).alloc (.cells #[.int .i64 0, .int .i64 0, .int .i64 0] 61)).alloc (.cells #[.int .i64 0, .int .i64 0, .int .i64 0] 61)).cell? ⟨w.heap.size, 3, none⟩ = some (.int .i64 hold) := cell_alloc _ (cell_alloc _ (cell_new (by simp) rfl))
  have zx : w.heap.size < (((w.alloc (.cells #[.string nm, .slice A u.length ca, .slice B d.length cb, .int .i64 hold] 24)).alloc (.cells #[.int .i64 0, .int .i64 0, .int .i64 0] 61)).alloc (.cells #[.int .i64 0, .int .i64 0, .int .i64 0] 61)).heap.size := World.block_lt_of_cell? _ _ x0
  have y0 : (((w.alloc (.cells #[.string nm, .slice A u.length ca, .slice B d.length cb, .int .i64 hold] 24)).alloc (.cells #[.int .i64 0, .int .i64 0, .int .i64 0] 61)).alloc (.cells #[.int .i64 0, .int .i64 0, .int .i64 0] 61)).cell? ⟨w.heap.size + 1, 0, none⟩ = some (.int .i64 0) := cell_alloc _ (cell_new (by simp) rfl)
  have yf0 : (((w.alloc (.cells #[.string nm, .slice A u.length ca, .slice B d.length cb, .int .i64 hold] 24)).alloc (.cells #[.int .i64 0, .int .i64 0, .int .i64 0] 61)).alloc (.cells #[.int .i64 0, .int .i64 0, .int .i64 0] 61)).frozen? ⟨w.heap.size + 1, 0, none⟩ = false := frozen_alloc _ (by simp) (frozen_new (by simp))
  have y1 : (((w.alloc (.cells #[.string nm, .slice A u.length ca, .slice B d.length cb, .int .i64 hold] 24)).alloc (.cells #[.int .i64 0, .int .i64 0, .int .i64 0] 61)).alloc (.cells #[.int .i64 0, .int .i64 0, .int .i64 0] 61)).cell? ⟨w.heap.size + 1, 1, none⟩ = some (.int .i64 0) := cell_alloc _ (cell_new (by simp) rfl)
  have yf1 : (((w.alloc (.cells #[.string nm, .slice A u.length ca, .slice B d.length cb, .int .i64 hold] 24)).alloc (.cells #[.int .i64 0, .int .i64 0, .int .i64 0] 61)).alloc (.cells #[.int .i64 0, .int .i64 0, .int .i64 0] 61)).frozen? ⟨w.heap.size + 1, 1, none⟩ = false := frozen_alloc _ (by simp) (frozen_new (by simp))
  have y2 : (((w.alloc (.cells #[.string nm, .slice A u.length ca, .slice B d.length cb, .int .i64 hold] 24)).alloc (.cells #[.int .i64 0, .int .i64 0, .int .i64 0] 61)).alloc (.cells #[.int .i64 0, .int .i64 0, .int .i64 0] 61)).cell? ⟨w.heap.size + 1, 2, none⟩ = some (.int .i64 0) := cell_alloc _ (cell_new (by simp) rfl)
  have yf2 : (((w.alloc (.cells #[.string nm, .slice A u.length ca, .slice B d.length cb, .int .i64 hold] 24)).alloc (.cells #[.int .i64 0, .int .i64 0, .int .i64 0] 61)).alloc (.cells #[.int .i64 0, .int .i64 0, .int .i64 0] 61)).frozen? ⟨w.heap.size + 1, 2, none⟩ = false := frozen_alloc _ (by simp) (frozen_new (by simp))
  have zy : w.heap.size + 1 < (((w.alloc (.cells #[.string nm, .slice A u.length ca, .slice B d.length cb, .int .i64 hold] 24)).alloc (.cells #[.int .i64 0, .int .i64 0, .int .i64 0] 61)).alloc (.cells #[.int .i64 0, .int .i64 0, .int .i64 0] 61)).heap.size := World.block_lt_of_cell? _ _ y0
  have z0 : (((w.alloc (.cells #[.string nm, .slice A u.length ca, .slice B d.length cb, .int .i64 hold] 24)).alloc (.cells #[.int .i64 0, .int .i64 0, .int .i64 0] 61)).alloc (.cells #[.int .i64 0, .int .i64 0, .int .i64 0] 61)).cell? ⟨w.heap.size + 1 + 1, 0, none⟩ = some (.int .i64 0) := cell_new (by simp) rfl
  have zf0 : (((w.alloc (.cells #[.string nm, .slice A u.length ca, .slice B d.length cb, .int .i64 hold] 24)).alloc (.cells #[.int .i64 0, .int .i64 0, .int .i64 0] 61)).alloc (.cells #[.int .i64 0, .int .i64 0, .int .i64 0] 61)).frozen? ⟨w.heap.size + 1 + 1, 0, none⟩ = false := frozen_new (by simp)
  have z1 : (((w.alloc (.cells #[.string nm, .slice A u.length ca, .slice B d.length cb, .int .i64 hold] 24)).alloc (.cells #[.int .i64 0, .int .i64 0, .int .i64 0] 61)).alloc (.cells #[.int .i64 0, .int .i64 0, .int .i64 0] 61)).cell? ⟨w.heap.size + 1 + 1, 1, none⟩ = some (.int .i64 0) := cell_new (by simp) rfl
  have zf1 : (((w.alloc (.cells #[.string nm, .slice A u.length ca, .slice B d.length cb, .int .i64 hold] 24)).alloc (.cells #[.int .i64 0, .int .i64 0, .int .i64 0] 61)).alloc (.cells #[.int .i64 0, .int .i64 0, .int .i64 0] 61)).frozen? ⟨w.heap.size + 1 + 1, 1, none⟩ = false := frozen_new (by simp)
  have z2 : (((w.alloc (.cells #[.string nm, .slice A u.length ca, .slice B d.length cb, .int .i64 hold] 24)).alloc (.cells #[.int .i64 0, .int .i64 0, .int .i64 0] 61)).alloc (.cells #[.int .i64 0, .int .i64 0, .int .i64 0] 61)).cell? ⟨w.heap.size + 1 + 1, 2, none⟩ = some (.int .i64 0) := cell_new (by simp) rfl
  have zf2 : (((w.alloc (.cells #[.string nm, .slice A u.length ca, .slice B d.length cb, .int .i64 hold] 24)).alloc (.cells #[.int .i64 0, .int .i64 0, .int .i64 0] 61)).alloc (.cells #[.int .i64 0, .int .i64 0, .int .i64 0] 61)).frozen? ⟨w.heap.size + 1 + 1, 2, none⟩ = false := frozen_new (by simp)
  have zz : w.heap.size + 1 + 1 < (((w.alloc (.cells #[.string nm, .slice A u.length ca, .slice B d.length cb, .int .i64 hold] 24)).alloc (.cells #[.int .i64 0, .int .i64 0, .int .i64 0] 61)).alloc (.cells #[.int .i64 0, .int .i64 0, .int .i64 0] 61)).heap.size := World.block_lt_of_cell? _ _ z0
  generalize (((w.alloc (.cells #[.string nm, .slice A u.length ca, .slice B d.length cb, .int .i64 hold] 24)).alloc (.cells #[.int .i64 0, .int .i64 0, .int .i64 0] 61)).alloc (.cells #[.int .i64 0, .int .i64 0, .int .i64 0] 61)) = w0 at *
  have hI0 : RStI w nm A u ca B d cb hold vs (.int .i64 0) w0 := ⟨0, Nat.zero_le _, rfl, hb0, ⟨x0, x1, x2, x3⟩, ⟨y0, y1, y2, yf0, yf1, yf2⟩, ⟨z0, z1, z2, zf0, zf1, zf2⟩⟩
  clear x0 x1 x2 x3 y0 y1 y2 yf0 yf1 yf2 z0 z1 z2 zf0 zf1 zf2 zx zy zz hb0
  go_loopw [6] (fun i wr => RStI w nm A u ca B d cb hold vs i wr) (fun i _ => vs.length - (intOf i).toNat)
  case atStart => exact hI0
  case round =>
    obtain ⟨k, hk, rfl, hbw, hru, hs0, hst⟩ := hrel
    have hok := (runS_ok HO.out (vs.take k)).okS HO.out.h1 (by rw [List.length_take]; omega)
    have hbh := (runS_ok HO.out (vs.take k)).b1
    by_cases hlt : k < vs.length
    · have hsn : runS u d hold ⟨0, 0, 0⟩ (vs.take (k + 1)) = stepS u d hold (runS u d hold ⟨0, 0, 0⟩ (vs.take k)) vs[k] := by rw [take_snoc' hlt, runS_snoc]
      have HSN := Lib.hid hsn
      obtain ⟨bb, off, rfl, hb, h1⟩ := IntsAt.at_ (hV.below hbw) hlt
      generalize vs[k] = x at *
      generalize runS u d hold ⟨0, 0, 0⟩ (vs.take k) = S at *
      obtain ⟨l, b, v⟩ := S
      have hA1 := hA.below hbw
      have hB1 := hB.below hbw
      have HSTEP := Lib.hid (fun W (hA' : IntsAt W A u) (hB' : IntsAt W B d) => RStep_any nm A u ca B d cb hold l b v x W HO.out hok hbh hA' hB')
      rw [← HSN.out] at HSTEP
      clear hsn HSN hok hbh
      obtain ⟨x0, x1, x2, x3⟩ := id hru
      obtain ⟨z0, z1, z2, zf0, zf1, zf2⟩ := id hst
      have zx := hru.lt
      have zz := hst.lt
      go_wp2_with (fail)
      (refine region_extx 7 (by kernel_rfl) (by kernel_rfl) fun hx => ?_; simp only [List.take_succ_cons, List.take_zero, List.drop_succ_cons, List.drop_zero]; (repeat (any_goals (first | go_big_quiet_step (((go_at_call 45; exact ext_call (HSTEP.out _ (RowsAt.below hA1 (ext_bel _ _)) (RowsAt.below hB1 (ext_bel _ _)))))) | quiet_step (((go_at_call 45; exact ext_call (HSTEP.out _ (RowsAt.below hA1 (ext_bel _ _)) (RowsAt.below hB1 (ext_bel _ _))))))))))
      (refine wpQuiet_nil ?_; clear hx; intro u; have hbw9 := ext_bel _ u; have hxw9 := ext_cell _ u; generalize ext _ u = w9 at *; clear u; have hsw9 := hbw9.size; (try simp at hsw9))
      have hst9 := hst.below hbw9
      have hru9 := hru.below hbw9
      have hs09 := hs0.below hbw9
      obtain ⟨p0, p1, p2, pf0, pf1, pf2⟩ := id hst9
      clear x0 x1 x2 x3 z0 z1 z2 zf0 zf1 zf2 hst hru hs0 hxw9
      generalize hT : runS u d hold ⟨0, 0, 0⟩ (vs.take (k + 1)) = T at *
      have HT := Lib.hid hT
      clear hT
      go_wp2_with (fail)
      go_roundw
      case rel =>
        have hn1 : w.heap.size + 1 + 1 ≠ w.heap.size := by omega
        have hn2 : w.heap.size + 1 + 1 ≠ w.heap.size + 1 := by omega
        exact ⟨k + 1, by omega, by go_num, below_set _ (by (first | omega | (simp; done) | (simp; omega) | (simp at *; omega))) (below_set _ (by (first | omega | (simp; done) | (simp; omega) | (simp at *; omega))) (below_set _ (by (first | omega | (simp; done) | (simp; omega) | (simp at *; omega))) (hbw.trans (hbw9.mono hbw.size)))), ((hru9.far hn1).far hn1).far hn1, ((hs09.far hn2).far hn2).far hn2, by rw [HT.out]; exact StaAt.put hst9⟩
      case measure => simp [intOf]; omega
    · obtain rfl : k = vs.length := by omega
      rw [List.take_length] at hst
      generalize hT : runS u d hold ⟨0, 0, 0⟩ vs = T at *
      have HT := Lib.hid hT
      clear hT
      obtain ⟨z0, z1, z2, zf0, zf1, zf2⟩ := id hst
      obtain ⟨y0, y1, y2, yf0, yf1, yf2⟩ := id hs0
      have zy := hs0.lt
      have zz := hst.lt
      go_wp2_with (fail)
      obtain ⟨s0, s1, s2⟩ := set3 (v0 := .int .i64 T.l) (v1 := .int .i64 T.b) (v2 := .int .i64 T.v) y0 y1 y2
      have hbf : Below w.heap.size w (((wr.setCell ⟨w.heap.size + 1, 0, none⟩ (.int .i64 T.l)).setCell ⟨w.heap.size + 1, 1, none⟩ (.int .i64 T.b)).setCell ⟨w.heap.size + 1, 2, none⟩ (.int .i64 T.v)) := below_set _ (by (first | omega | (simp; done) | (simp; omega) | (simp at *; omega))) (below_set _ (by (first | omega | (simp; done) | (simp; omega) | (simp at *; omega))) (below_set _ (by (first | omega | (simp; done) | (simp; omega) | (simp at *; omega))) hbw))
      generalize (((wr.setCell ⟨w.heap.size + 1, 0, none⟩ (.int .i64 T.l)).setCell ⟨w.heap.size + 1, 1, none⟩ (.int .i64 T.b)).setCell ⟨w.heap.size + 1, 2, none⟩ (.int .i64 T.v)) = W9 at *
      refine bodyPost_ret (v := .agg #[.int .i64 T.l, .int .i64 T.b, .int .i64 T.v]) (by simp [results, Try.results40, go_sem, s0, s1, s2]) rfl ?_
      exact ⟨by rw [HT.out]; rfl, hbf⟩
end Go.Proofs.Ytcfbnmcdncndpaa
