/-
  Chapter 8: small; LinkErr; CopyMoves.
  Chapter 8: CopyLink; SameLink.
  Chapter 8: CopyLink once more: the copies are the caller's own; without.
  Chapter 8: the reference's without (one packet struck from a row).
-/
import Derived.Test.YtcfbnmcdncndpaaWNew
import Derived.Test.YtcfbnmcdncndpaaWRuo
import Derived.Test.YtcfbnmcdncndpaaKepP
import Derived.Deep.RegionHeld3
namespace Go.Proofs.Ytcfbnmcdncndpaa
section
open Go.ChangeShapes Go.WideShapes Go.ChangeAt Go.RowKit
set_option linter.unusedVariables false
set_option linter.unusedSimpArgs false

def shortW (l : List Pkt) : Bool := l.all fun p => decide (p.m.s.size ≤ 30)
theorem shortW_cons (p : Pkt) (r : List Pkt) : shortW (p :: r) = (decide (p.m.s.size ≤ 30) && shortW r) := rfl
theorem shortW_true {l : List Pkt} (h : shortW l = true) : ∀ p ∈ l, p.m.s.size ≤ 30 := fun p hp => by
  unfold shortW at h
  rw [List.all_eq_true] at h
  simpa using h p hp
def smallL (L : Lnk) : Bool := decide (L.box.length ≤ 32) && (decide (L.store.length ≤ 32) && (decide (L.wire.length ≤ 62) && (shortM L.box && (shortM L.store && shortW L.wire))))
structure SmlL (L : Lnk) : Prop where
  l1 : L.box.length ≤ 32
  l2 : L.store.length ≤ 32
  l3 : L.wire.length ≤ 62
  n1 : ∀ m ∈ L.box, m.s.size ≤ 30
  n2 : ∀ m ∈ L.store, m.s.size ≤ 30
  n3 : ∀ p ∈ L.wire, p.m.s.size ≤ 30
theorem smallL_true {L : Lnk} (h : smallL L = true) : SmlL L := by
  unfold smallL at h
  rw [Bool.and_eq_true, Bool.and_eq_true, Bool.and_eq_true, Bool.and_eq_true, Bool.and_eq_true, decide_eq_true_eq, decide_eq_true_eq, decide_eq_true_eq] at h
  obtain ⟨a, b, c, d, e, f⟩ := h
  exact ⟨a, b, c, shortM_true d, shortM_true e, shortW_true f⟩
theorem SmlL.few {L : Lnk} (h : SmlL L) : FewL L := ⟨by have := h.l1; omega, by have := h.l2; omega, by have := h.l3; omega, fun m hm => by have := h.n1 m hm; omega, fun m hm => by have := h.n2 m hm; omega, fun m hm => by have := h.n3 m hm; omega⟩
set_option maxRecDepth 100000 in
set_option maxHeartbeats 4000000 in
theorem small_any (A1 : Option Addr) (c1 : Nat) (A2 : Option Addr) (c2 : Nat) (A3 : Option Addr) (c3 : Nat) (L : Lnk) (w : World) (hR : LnkR A1 A2 A3 L w) :
    Calls Try.prog 26 #[LnkV A1 c1 A2 c2 A3 c3 L] w fun e w' => e = .returned (.bool (smallL L)) ∧ Below w.heap.size w w' := by
  have hq : smallL L = (decide (L.box.length ≤ 32) && (decide (L.store.length ≤ 32) && (decide (L.wire.length ≤ 62) && (shortM L.box && (shortM L.store && shortW L.wire))))) := rfl
  obtain ⟨x, z, y⟩ := L
  obtain ⟨hx, hy, hz⟩ := hR
  simp only [LnkV] at hx hy hz hq ⊢
  by_cases h1 : x.length ≤ 32
  rotate_left 1
  · have hf : smallL ⟨x, z, y⟩ = false := by rw [hq, show decide (x.length ≤ 32) = false by simpa using h1]; rfl
    rw [hf]
    have e1 : decide ((32 : Int) < (x.length : Int)) = true := by simp; omega
    clear hq hf h1
    go_enter Try.func26, Try.ntmps26
    go_wp2_with (fail)
    go_ret
    exact ⟨rfl, (by repeat (first | assumption | exact Below.refl _ _ | refine Below.drew ?_ | (refine below_alloc _ ?_ ?_; focus (first | omega | (simp; done) | (simp; omega) | (simp at *; omega))) | (refine below_set _ ?_ ?_; focus (first | omega | (simp; done) | (simp; omega) | (simp at *; omega))) | refine below_drewN ?_ _ | (refine below_call (by assumption) ?_ ?_; focus (first | omega | (simp; done) | (simp; omega) | (simp at *; omega))) | (refine below_call' (by assumption) ?_ ?_; focus (first | omega | (simp; done) | (simp; omega) | (simp at *; omega)))))⟩
  by_cases h2 : y.length ≤ 32
  rotate_left 1
  · have hf : smallL ⟨x, z, y⟩ = false := by rw [hq, show decide (y.length ≤ 32) = false by simpa using h2, Bool.false_and, Bool.and_false]
    rw [hf]
    have e1 : decide ((32 : Int) < (x.length : Int)) = false := by simp; omega
    have e2 : decide ((32 : Int) < (y.length : Int)) = true := by simp; omega
    clear hq hf h1 h2
    go_enter Try.func26, Try.ntmps26
    go_wp2_with (fail)
    go_ret
    exact ⟨rfl, (by repeat (first | assumption | exact Below.refl _ _ | refine Below.drew ?_ | (refine below_alloc _ ?_ ?_; focus (first | omega | (simp; done) | (simp; omega) | (simp at *; omega))) | (refine below_set _ ?_ ?_; focus (first | omega | (simp; done) | (simp; omega) | (simp at *; omega))) | refine below_drewN ?_ _ | (refine below_call (by assumption) ?_ ?_; focus (first | omega | (simp; done) | (simp; omega) | (simp at *; omega))) | (refine below_call' (by assumption) ?_ ?_; focus (first | omega | (simp; done) | (simp; omega) | (simp at *; omega)))))⟩
  by_cases h3 : z.length ≤ 62
  rotate_left 1
  · have hf : smallL ⟨x, z, y⟩ = false := by rw [hq, show decide (z.length ≤ 62) = false by simpa using h3, Bool.false_and, Bool.and_false, Bool.and_false]
    rw [hf]
    have e1 : decide ((32 : Int) < (x.length : Int)) = false := by simp; omega
    have e2 : decide ((32 : Int) < (y.length : Int)) = false := by simp; omega
    have e3 : decide ((62 : Int) < (z.length : Int)) = true := by simp; omega
    clear hq hf h1 h2 h3
    go_enter Try.func26, Try.ntmps26
    go_wp2_with (fail)
    go_ret
    exact ⟨rfl, (by repeat (first | assumption | exact Below.refl _ _ | refine Below.drew ?_ | (refine below_alloc _ ?_ ?_; focus (first | omega | (simp; done) | (simp; omega) | (simp at *; omega))) | (refine below_set _ ?_ ?_; focus (first | omega | (simp; done) | (simp; omega) | (simp at *; omega))) | refine below_drewN ?_ _ | (refine below_call (by assumption) ?_ ?_; focus (first | omega | (simp; done) | (simp; omega) | (simp at *; omega))) | (refine below_call' (by assumption) ?_ ?_; focus (first | omega | (simp; done) | (simp; omega) | (simp at *; omega)))))⟩
  rw [show decide (x.length ≤ 32) = true by simpa using h1, show decide (y.length ≤ 32) = true by simpa using h2, show decide (z.length ≤ 62) = true by simpa using h3, Bool.true_and, Bool.true_and, Bool.true_and] at hq
  have e1 : decide ((32 : Int) < (x.length : Int)) = false := by simp; omega
  have e2 : decide ((32 : Int) < (y.length : Int)) = false := by simp; omega
  have e3 : decide ((62 : Int) < (z.length : Int)) = false := by simp; omega
  have HQ := Lib.hid hq
  clear hq
  go_enter Try.func26, Try.ntmps26
  go_wp2_with (fail)
  have hb0 : Below w.heap.size w (w.alloc (.cells #[.slice A1 x.length c1, .slice A3 z.length c3, .slice A2 y.length c2] 41)) := below_alloc _ (Nat.le_refl _) (Below.refl _ _)
  have x0 : (w.alloc (.cells #[.slice A1 x.length c1, .slice A3 z.length c3, .slice A2 y.length c2] 41)).cell? ⟨w.heap.size, 0, none⟩ = some (.slice A1 x.length c1) := cell_new (by simp) rfl
  have x1 : (w.alloc (.cells #[.slice A1 x.length c1, .slice A3 z.length c3, .slice A2 y.length c2] 41)).cell? ⟨w.heap.size, 1, none⟩ = some (.slice A3 z.length c3) := cell_new (by simp) rfl
  have x2 : (w.alloc (.cells #[.slice A1 x.length c1, .slice A3 z.length c3, .slice A2 y.length c2] 41)).cell? ⟨w.heap.size, 2, none⟩ = some (.slice A2 y.length c2) := cell_new (by simp) rfl
  have zx : w.heap.size < (w.alloc (.cells #[.slice A1 x.length c1, .slice A3 z.length c3, .slice A2 y.length c2] 41)).heap.size := World.block_lt_of_cell? _ _ x0
  generalize (w.alloc (.cells #[.slice A1 x.length c1, .slice A3 z.length c3, .slice A2 y.length c2] 41)) = w0 at *
  have hx0 := RowsAt.below hx hb0
  have hy0 := RowsAt.below hy hb0
  have hz0 := RowsAt.below hz hb0
  clear hx hy hz
  have HS1 := Lib.hid (fun W (h : MsgsAt W A1 x) => shortNames_any A1 x c1 W (by omega) h)
  have HS2 := Lib.hid (fun W (h : MsgsAt W A2 y) => shortNames_any A2 y c2 W (by omega) h)
  generalize shortM x = s1 at *
  generalize shortM y = s2 at *
  refine (HS1.out _ hx0).mono ?_
  rintro e w' ⟨rfl, rfl⟩
  cases s1
  · rw [Bool.false_and] at HQ
    go_wp2_with (fail)
    go_ret
    exact ⟨ret_bool HQ.out.symm, hb0⟩
  go_wp2_with (fail)
  refine (HS2.out _ hy0).mono ?_
  rintro e w' ⟨rfl, rfl⟩
  cases s2
  · rw [Bool.false_and, Bool.and_false] at HQ
    go_wp2_with (fail)
    go_ret
    exact ⟨ret_bool HQ.out.symm, hb0⟩
  rw [Bool.true_and, Bool.true_and] at HQ
  go_wp2_with (fail)
  go_loop [3] (fun i => ∃ k : Nat, k ≤ z.length ∧ i = .int .i64 k ∧ shortW z = shortW (z.drop k)) (fun i => z.length - (intOf i).toNat)
  case atStart => exact ⟨0, Nat.zero_le _, rfl, rfl⟩
  case round =>
    obtain ⟨k, hk, rfl, he⟩ := hrel
    have H := Lib.hid (HQ.out.trans he)
    have H' := Lib.hid he
    clear he
    by_cases hlt : k < z.length
    · have hd : z.drop k = z[k] :: z.drop (k + 1) := List.drop_eq_getElem_cons hlt
      rw [hd, shortW_cons] at H H'
      clear hd
      obtain ⟨b1, o1, rfl, hb1, c0, c1', c2', c3'⟩ := PktsAt.at_ hz0 hlt
      generalize z[k] = p at *
      by_cases hp : p.m.s.size ≤ 30
      · have hp2 : decide ((30 : Int) < (p.m.s.size : Int)) = false := by simp; omega
        rw [show decide (p.m.s.size ≤ 30) = true by simpa using hp, Bool.true_and] at H'
        clear hp
        go_wp2_with (fail)
        go_round
        case rel => exact ⟨k + 1, by omega, by go_num, H'.out⟩
        case measure => simp [intOf]; omega
      · have hp2 : decide ((30 : Int) < (p.m.s.size : Int)) = true := by simp; omega
        rw [show decide (p.m.s.size ≤ 30) = false by simpa using hp, Bool.false_and] at H
        clear hp
        go_wp2_with (fail)
        go_ret
        exact ⟨ret_bool H.out.symm, hb0⟩
    · have e : z.drop k = [] := List.drop_eq_nil_of_le (by omega)
      rw [e] at H
      clear e
      go_wp2_with (fail)
      go_ret
      exact ⟨ret_bool H.out.symm, hb0⟩
theorem wireE_nz : ∀ (l : List Pkt) {e : Int}, e ≠ 0 → wireE l e = e
  | [], e, _ => rfl
  | p :: r, e, h => by rw [wireE, firstE_nz h]; exact wireE_nz r h
theorem firstE1 {a : Int} : firstE [a] = a := by
  by_cases h : a = 0
  · rw [h]; rfl
  · exact firstE_nz h
theorem wireE_cons (p : Pkt) (r : List Pkt) : wireE (p :: r) 0 = if msgE p.m = 0 then wireE r 0 else msgE p.m := by
  rw [wireE, firstE_z, firstE1]
  by_cases h : msgE p.m = 0
  · rw [if_pos h, h]
  · rw [if_neg h, wireE_nz r h]
set_option maxRecDepth 100000 in
set_option maxHeartbeats 4000000 in
theorem LinkErr_any (A1 : Option Addr) (c1 : Nat) (A2 : Option Addr) (c2 : Nat) (A3 : Option Addr) (c3 : Nat) (L : Lnk) (w : World) (h1 : L.box.length ≤ 300) (h2 : L.store.length ≤ 300) (h3 : L.wire.length ≤ 300) (hR : LnkR A1 A2 A3 L w) :
    Calls Try.prog 30 #[LnkV A1 c1 A2 c2 A3 c3 L] w fun e w' => e = .returned (.int .i64 (lnkE L)) ∧ Below w.heap.size w w' := by
  obtain ⟨x, z, y⟩ := L
  obtain ⟨hx, hy, hz⟩ := hR
  have hq : lnkE ⟨x, z, y⟩ = wireE z (firstE [chkSE x, chkSE y, unl (decide (z.length ≤ 60)) 8]) := rfl
  simp only [LnkV] at hx hy hz hq h1 h2 h3 ⊢
  have HQ := Lib.hid hq
  have HS1 := Lib.hid (fun W (h : MsgsAt W A1 x) => StoreErr_any A1 x c1 W (by omega) h)
  have HS2 := Lib.hid (fun W (h : MsgsAt W A2 y) => StoreErr_any A2 y c2 W (by omega) h)
  clear hq
  go_enter Try.func30, Try.ntmps30
  go_wp2_with (fail)
  have hb0 : Below w.heap.size w (w.alloc (.cells #[.slice A1 x.length c1, .slice A3 z.length c3, .slice A2 y.length c2] 41)) := below_alloc _ (Nat.le_refl _) (Below.refl _ _)
  have x0 : (w.alloc (.cells #[.slice A1 x.length c1, .slice A3 z.length c3, .slice A2 y.length c2] 41)).cell? ⟨w.heap.size, 0, none⟩ = some (.slice A1 x.length c1) := cell_new (by simp) rfl
  have x1 : (w.alloc (.cells #[.slice A1 x.length c1, .slice A3 z.length c3, .slice A2 y.length c2] 41)).cell? ⟨w.heap.size, 1, none⟩ = some (.slice A3 z.length c3) := cell_new (by simp) rfl
  have x2 : (w.alloc (.cells #[.slice A1 x.length c1, .slice A3 z.length c3, .slice A2 y.length c2] 41)).cell? ⟨w.heap.size, 2, none⟩ = some (.slice A2 y.length c2) := cell_new (by simp) rfl
  have zx : w.heap.size < (w.alloc (.cells #[.slice A1 x.length c1, .slice A3 z.length c3, .slice A2 y.length c2] 41)).heap.size := World.block_lt_of_cell? _ _ x0
  generalize (w.alloc (.cells #[.slice A1 x.length c1, .slice A3 z.length c3, .slice A2 y.length c2] 41)) = w0 at *
  have hx0' := RowsAt.below hx hb0
  have hy0' := RowsAt.below hy hb0
  have hz0' := RowsAt.below hz hb0
  clear hx hy hz
  refine (HS1.out _ hx0').mono ?_
  rintro e w1 ⟨rfl, hb1⟩
  have g1 : Below w.heap.size w w1 := (hb0).trans ((hb1).mono (hb0).size)
  replace x0 := cell_below' hb1 x0
  replace x1 := cell_below' hb1 x1
  replace x2 := cell_below' hb1 x2
  replace zx := Nat.lt_of_lt_of_le zx (hb1).size
  replace hx0' := RowsAt.below hx0' hb1
  replace hy0' := RowsAt.below hy0' hb1
  replace hz0' := RowsAt.below hz0' hb1
  clear hb1 hb0
  by_cases hE1 : chkSE x = 0
  rotate_left 1
  · have hr := HQ.out.trans (show _ = chkSE x by rw [firstE_nz hE1, wireE_nz z hE1])
    have HR := Lib.hid hr
    have e1 : (chkSE x != 0) = true := by simpa using hE1
    clear hE1 hr HQ
    go_wp2_with (fail)
    go_ret
    exact ⟨ret_int HR.out.symm, g1⟩
  rw [hE1, firstE_z] at HQ
  rw [hE1]
  clear hE1
  go_wp2_with (fail)
  refine (HS2.out _ hy0').mono ?_
  rintro e w2 ⟨rfl, hb2⟩
  have g2 : Below w.heap.size w w2 := (g1).trans ((hb2).mono (g1).size)
  replace x0 := cell_below' hb2 x0
  replace x1 := cell_below' hb2 x1
  replace x2 := cell_below' hb2 x2
  replace zx := Nat.lt_of_lt_of_le zx (hb2).size
  replace hx0' := RowsAt.below hx0' hb2
  replace hy0' := RowsAt.below hy0' hb2
  replace hz0' := RowsAt.below hz0' hb2
  clear hb2 g1
  by_cases hE2 : chkSE y = 0
  rotate_left 1
  · have hr := HQ.out.trans (show _ = chkSE y by rw [firstE_nz hE2, wireE_nz z hE2])
    have HR := Lib.hid hr
    have e1 : (chkSE y != 0) = true := by simpa using hE2
    clear hE2 hr HQ
    go_wp2_with (fail)
    go_ret
    exact ⟨ret_int HR.out.symm, g2⟩
  rw [hE2, firstE_z] at HQ
  rw [hE2]
  clear hE2
  by_cases h60 : z.length ≤ 60
  rotate_left 1
  · have hr := HQ.out.trans (show _ = (8 : Int) by rw [show decide (z.length ≤ 60) = false by simpa using h60]; exact wireE_nz z (by decide))
    have HR := Lib.hid hr
    have e1 : decide ((60 : Int) < (z.length : Int)) = true := by simp; omega
    clear h60 hr HQ
    go_wp2_with (fail)
    go_ret
    exact ⟨ret_int HR.out.symm, g2⟩
  have hr := HQ.out.trans (show _ = wireE z 0 by rw [show decide (z.length ≤ 60) = true by simpa using h60]; rfl)
  have HR := Lib.hid hr
  have e1 : decide ((60 : Int) < (z.length : Int)) = false := by simp; omega
  clear hr HQ hx0' hy0' HS1 HS2
  go_wp2_with (fail)
  go_loopw [5] (fun i wr => ∃ k : Nat, k ≤ z.length ∧ i = .int .i64 k ∧ Below w2.heap.size w2 wr ∧ wireE z 0 = wireE (z.drop k) 0) (fun i _ => z.length - (intOf i).toNat)
  case atStart => exact ⟨0, Nat.zero_le _, rfl, Below.refl _ _, rfl⟩
  case round =>
    obtain ⟨k, hk, rfl, hbr, he⟩ := hrel
    have H := Lib.hid he
    clear he
    replace x0 := cell_below' hbr x0
    replace x1 := cell_below' hbr x1
    replace x2 := cell_below' hbr x2
    replace zx : w.heap.size < wr.heap.size := World.block_lt_of_cell? _ _ x0
    have gr := g2.trans (hbr.mono g2.size)
    by_cases hlt : k < z.length
    · have hd : z.drop k = z[k] :: z.drop (k + 1) := List.drop_eq_getElem_cons hlt
      rw [hd, wireE_cons] at H
      clear hd
      obtain ⟨b1, o1, rfl, hb1, c0, c1', c2', c3'⟩ := PktsAt.at_ (RowsAt.below hz0' hbr) hlt
      generalize z[k] = p at *
      by_cases hp : msgE p.m = 0
      · rw [if_pos hp] at H
        go_wp2_with (fail)
        refine (MessageErr_any p.m _).mono ?_
        rintro e w3 ⟨rfl, hb3⟩
        rw [hp]
        clear hp
        go_wp2_with (fail)
        go_roundw
        case rel => exact ⟨k + 1, by omega, by go_num, hbr.trans (hb3.mono hbr.size), H.out⟩
        case measure => simp [intOf]; omega
      · rw [if_neg hp] at H
        have e2 : (msgE p.m != 0) = true := by simpa using hp
        clear hp
        go_wp2_with (fail)
        refine (MessageErr_any p.m _).mono ?_
        rintro e w3 ⟨rfl, hb3⟩
        go_wp2_with (fail)
        go_ret
        exact ⟨ret_int (by rw [HR.out, H.out]), gr.trans (hb3.mono gr.size)⟩
    · have e : z.drop k = [] := List.drop_eq_nil_of_le (by omega)
      rw [e] at H
      clear e
      go_wp2_with (fail)
      go_ret
      exact ⟨ret_int (by rw [HR.out, H.out]; rfl), gr⟩
theorem mvC_one (x : Mv) (i : Nat) : (mvC x i).oneCell' = true := by unfold mvC; split <;> rfl
theorem infoMv : (Try.prog.info? 47).map (fun i => (i.zero, i.size, i.bytes)) = some (some (.agg #[.int .i64 0, .int .i64 0, .string ⟨#[]⟩, .int .i64 0, .int .i64 0]), 5, 48) := by kernel_rfl
theorem infoMv_ : ∃ i : TypeInfo, Try.prog.info? 47 = some i ∧ i.zero = some (.agg #[.int .i64 0, .int .i64 0, .string ⟨#[]⟩, .int .i64 0, .int .i64 0]) ∧ i.size = 5 ∧ i.bytes = 48 := by
  have h := infoMv
  cases hi : Try.prog.info? 47 with
  | none => rw [hi] at h; cases h
  | some i =>
    rw [hi] at h
    simp only [Option.map_some, Option.some.injEq, Prod.mk.injEq] at h
    exact ⟨i, rfl, h.1, h.2.1, h.2.2⟩
theorem mem_oneV {l : List Mv} : ∀ u ∈ cellsOf 5 mvC l, u.oneCell' = true := cellsOf_one mvC_one (by decide) l
def CopyVPost (l : List Mv) (w : World) (e : Ending) (w' : World) : Prop :=
  ∃ A' c', e = .returned (.slice A' l.length c') ∧ MvsAt w' A' l ∧ Below w.heap.size w w'
set_option maxHeartbeats 1000000 in
theorem CopyMoves_any (B : Option Addr) (l : List Mv) (cap : Nat) (w : World) (hl : l.length ≤ 300) (hB : MvsAt w B l) :
    Calls Try.prog 29 #[.slice B l.length cap] w (CopyVPost l w) := by
  obtain ⟨i0, hi0, hz0, hz1, hz2⟩ := infoMv_
  go_enter Try.func29, Try.ntmps29
  go_wp2_with (at_builtin; (refine wpList_append_rows _ rfl (.tmp 3) (.tmp 4) 42 rfl w.heap.size 47 i0 (.agg #[.int .i64 0, .int .i64 0, .string ⟨#[]⟩, .int .i64 0, .int .i64 0]) 5 48 Try.underlying42 hi0 hz0 hz1 hz2 rfl (by decide) (some ⟨w.heap.size, 0, none⟩) 0 0 [] rfl (own_empty (Nat.le_refl _) (heap_alloc_new _ _)) B l.length cap (cellsOf 5 mvC l) rfl (cellsOf_length l) (fun e => by subst e; exact RowsAt.nil_len hB) (fun ad e => by subst e; exact RowsAt.news (RowsAt.below hB (by repeat (first | assumption | exact Below.refl _ _ | refine Below.drew ?_ | (refine below_alloc _ ?_ ?_; focus (first | omega | (simp; done) | (simp; omega) | (simp at *; omega))) | (refine below_set _ ?_ ?_; focus (first | omega | (simp; done) | (simp; omega) | (simp at *; omega))) | refine below_drewN ?_ _ | (refine below_call (by assumption) ?_ ?_; focus (first | omega | (simp; done) | (simp; omega) | (simp at *; omega))) | (refine below_call' (by assumption) ?_ ?_; focus (first | omega | (simp; done) | (simp; omega) | (simp at *; omega)))))) (by decide)) mem_oneV (by unfold maxLen; omega) (by omega) (by simp) ?_; intro A' c' w1 hown hg _; rw [Nat.zero_add, List.nil_append] at hown; (try rw [Nat.zero_add]); have hb1 : Below w.heap.size w w1 := grown_below hg (by omega) (by omega) (by repeat (first | assumption | exact Below.refl _ _ | refine Below.drew ?_ | (refine below_alloc _ ?_ ?_; focus (first | omega | (simp; done) | (simp; omega) | (simp at *; omega))) | (refine below_set _ ?_ ?_; focus (first | omega | (simp; done) | (simp; omega) | (simp at *; omega))) | refine below_drewN ?_ _ | (refine below_call (by assumption) ?_ ?_; focus (first | omega | (simp; done) | (simp; omega) | (simp at *; omega))) | (refine below_call' (by assumption) ?_ ?_; focus (first | omega | (simp; done) | (simp; omega) | (simp at *; omega))))); clear hg))
  go_ret
  exact ⟨A', c', rfl, rowsAt_of_own hown rfl (by decide), hb1⟩
end
section
open Go.ChangeShapes Go.WideShapes Go.ChangeAt Go.RowKit
set_option linter.unusedVariables false
set_option linter.unusedSimpArgs false

theorem step_appPkt (w : World) {ops : Array Oper} {o : Oper} {a : Act} {K : Act → World → Prop} {Q : Exit → Act → World → Prop} {E : Prop} (hgd : o.guard = none) (s x : Operand)
    (ho : o.op = .call { callee := .builtin .append, args := #[s, x], argTypes := #[39, 39] })
    (base : Nat) (A0 : Option Addr) (n c0 : Nat) (xs : List Value) (hs : a.eval s = .slice A0 n c0) (hown : w.ownsRow base 150 4 (.slice A0 n c0) n xs)
    (A : Option Addr) (m c : Nat) (news : List Value) (hx : a.eval x = .slice A m c) (hl : news.length = m * 4) (hA : A = none → m = 0) (hnews : ∀ ad, A = some ad → ∀ j u, news[j]? = some u → w.cell? (ad.add j) = some u) (h1 : ∀ u ∈ news, u.oneCell' = true)
    (hnm : n + m ≤ 1000000) (hbase : base ≤ w.heap.size)
    (h : ∀ A' c' w', w'.ownsRow base 150 4 (.slice A' (n + m) c') (n + m) (xs ++ news) → w.grownBy w' (Value.ownBlock (.slice A0 n c0)) → (Value.ownBlock (.slice A' (n + m) c') = Value.ownBlock (.slice A0 n c0) ∨ Value.ownBlock (.slice A' (n + m) c') = some w.heap.size) → K (a.put o.dst (.slice A' (n + m) c')) w') :
    if Region.wanted o (yielded ops a.tmps) = true then Oper.wp Try.prog o a w K Q else E := by
  obtain ⟨i0, hi, hz0, hz1, hz2⟩ := infoPkt_
  exact step_append_rows w hgd s x 39 ho base 150 i0 (.agg #[.string ⟨#[]⟩, .int .i64 0, .int .i64 0, .bool false]) 4 40 Try.underlying39 hi hz0 hz1 hz2 rfl (by decide) A0 n c0 xs hs hown A m c news hx hl hA hnews h1 (by unfold maxLen; omega) (by omega) hbase h
theorem own_atB {w w' : World} {B : Nat} {e : TypeId} {size : Nat} {v : Value} {n : Nat} {xs : List Value} (h : w.ownsRow B e size v n xs) (hb : ∀ g o, v.ownBlock = some g → w.heap[g]? = some o → w'.heap[g]? = some o) : w'.ownsRow B e size v n xs := by
  obtain ⟨h1, h2⟩ := h
  refine ⟨h1, ?_⟩
  rcases h2 with h2 | ⟨g, cap, cur, hv, hg, hh, r⟩
  · exact Or.inl h2
  · exact Or.inr ⟨g, cap, cur, hv, hg, hb g _ (by rw [hv]; rfl) hh, r⟩
theorem rows_farB {α : Type} {m : Nat} {f : α → Nat → Value} {w : World} {A : Option Addr} {l : List α} {b : Nat} {cs : Array Value} {T : TypeId} {fr : Nat × Nat} {v0 v1 v2 : Value} (hm : 0 < m) (h : RowsAt m f w A l) (hb : w.heap[b]? = some (.cells cs T fr)) (hne : ∀ (j : Nat) (v : Value) (x : α), cs[j]? = some v → v ≠ f x 0) :
    RowsAt m f (((w.setCell ⟨b, 0, none⟩ v0).setCell ⟨b, 1, none⟩ v1).setCell ⟨b, 2, none⟩ v2) A l := fun k x hk => by
  obtain ⟨b', off, e, hlt, hc⟩ := h k x hk
  have hbb : b ≠ b' := by
    rintro rfl
    have h0 := hc 0 hm
    rw [cell_of_row _ _ _ cs T fr hb] at h0
    exact hne _ _ x h0 rfl
  exact ⟨b', off, e, by simpa using hlt, fun j hj => far3 hbb (hc j hj)⟩
theorem lnk_farB {A1 A2 A3 : Option Addr} {L : Lnk} {w : World} {b : Nat} {a1 a2 a3 : Option Addr} {n1 n2 n3 c1 c2 c3 : Nat} {T : TypeId} {fr : Nat × Nat} {v0 v1 v2 : Value} (h : LnkR A1 A2 A3 L w) (hb : w.heap[b]? = some (.cells #[.slice a1 n1 c1, .slice a2 n2 c2, .slice a3 n3 c3] T fr)) :
    LnkR A1 A2 A3 L (((w.setCell ⟨b, 0, none⟩ v0).setCell ⟨b, 1, none⟩ v1).setCell ⟨b, 2, none⟩ v2) := by
  have hs : ∀ (j : Nat) (v : Value) (s : ByteArray), (#[Value.slice a1 n1 c1, .slice a2 n2 c2, .slice a3 n3 c3] : Array Value)[j]? = some v → v ≠ .string s := fun j v s hv e => by
    subst e
    match j, hv with
    | 0, hv => simp at hv
    | 1, hv => simp at hv
    | 2, hv => simp at hv
    | j + 3, hv => simp at hv
  exact ⟨rows_farB (by decide) h.r1 hb (fun j v x hv => hs j v x.s hv), rows_farB (by decide) h.r2 hb (fun j v x hv => hs j v x.s hv), rows_farB (by decide) h.r3 hb (fun j v x hv => hs j v x.m.s hv)⟩
def LnkCopied (L : Lnk) (w : World) (e : Ending) (w' : World) : Prop := ∃ A1 c1 A2 c2 A3 c3, e = .returned (LnkV A1 c1 A2 c2 A3 c3 L) ∧ LnkR A1 A2 A3 L w' ∧ Below w.heap.size w w'
set_option maxRecDepth 100000 in
set_option maxHeartbeats 4000000 in
theorem CopyLink_any (A1 : Option Addr) (c1 : Nat) (A2 : Option Addr) (c2 : Nat) (A3 : Option Addr) (c3 : Nat) (L : Lnk) (w : World) (g1 : L.box.length ≤ 300) (g2 : L.store.length ≤ 300) (g3 : L.wire.length ≤ 300) (hR : LnkR A1 A2 A3 L w) :
    Calls Try.prog 28 #[LnkV A1 c1 A2 c2 A3 c3 L] w (LnkCopied L w) := by
  obtain ⟨x, z, y⟩ := L
  obtain ⟨hx, hy, hz⟩ := hR
  simp only [LnkV] at hx hy hz g1 g2 g3 ⊢
  have HC1 := Lib.hid (fun W (h : MsgsAt W A1 x) => CopyMessages_any A1 x c1 W g1 h)
  have HC2 := Lib.hid (fun W (h : MsgsAt W A2 y) => CopyMessages_any A2 y c2 W g2 h)
  go_enter Try.func28, Try.ntmps28
  go_wp2_with (fail)
  have hb0 : Below w.heap.size w ((w.alloc (.cells #[.slice A1 x.length c1, .slice A3 z.length c3, .slice A2 y.length c2] 41)).alloc (.cells #[.slice none 0 0, .slice none 0 0, .slice none 0 0] 41)) := below_alloc _ (Nat.le_refl _) (below_alloc _ (Nat.le_refl _) (Below.refl _ _))
  have a0 : ((w.alloc (.cells #[.slice A1 x.length c1, .slice A3 z.length c3, .slice A2 y.length c2] 41)).alloc (.cells #[.slice none 0 0, .slice none 0 0, .slice none 0 0] 41)).cell? ⟨w.heap.size, 0, none⟩ = some (.slice A1 x.length c1) := cell_alloc _ (cell_new (by simp) rfl)
  have a1 : ((w.alloc (.cells #[.slice A1 x.length c1, .slice A3 z.length c3, .slice A2 y.length c2] 41)).alloc (.cells #[.slice none 0 0, .slice none 0 0, .slice none 0 0] 41)).cell? ⟨w.heap.size, 1, none⟩ = some (.slice A3 z.length c3) := cell_alloc _ (cell_new (by simp) rfl)
  have a2 : ((w.alloc (.cells #[.slice A1 x.length c1, .slice A3 z.length c3, .slice A2 y.length c2] 41)).alloc (.cells #[.slice none 0 0, .slice none 0 0, .slice none 0 0] 41)).cell? ⟨w.heap.size, 2, none⟩ = some (.slice A2 y.length c2) := cell_alloc _ (cell_new (by simp) rfl)
  have za : w.heap.size < ((w.alloc (.cells #[.slice A1 x.length c1, .slice A3 z.length c3, .slice A2 y.length c2] 41)).alloc (.cells #[.slice none 0 0, .slice none 0 0, .slice none 0 0] 41)).heap.size := World.block_lt_of_cell? _ _ a0
  have b0 : ((w.alloc (.cells #[.slice A1 x.length c1, .slice A3 z.length c3, .slice A2 y.length c2] 41)).alloc (.cells #[.slice none 0 0, .slice none 0 0, .slice none 0 0] 41)).cell? ⟨w.heap.size + 1, 0, none⟩ = some (.slice none 0 0) := cell_new (by simp) rfl
  have bf0 : ((w.alloc (.cells #[.slice A1 x.length c1, .slice A3 z.length c3, .slice A2 y.length c2] 41)).alloc (.cells #[.slice none 0 0, .slice none 0 0, .slice none 0 0] 41)).frozen? ⟨w.heap.size + 1, 0, none⟩ = false := frozen_new (by simp)
  have b1 : ((w.alloc (.cells #[.slice A1 x.length c1, .slice A3 z.length c3, .slice A2 y.length c2] 41)).alloc (.cells #[.slice none 0 0, .slice none 0 0, .slice none 0 0] 41)).cell? ⟨w.heap.size + 1, 1, none⟩ = some (.slice none 0 0) := cell_new (by simp) rfl
  have bf1 : ((w.alloc (.cells #[.slice A1 x.length c1, .slice A3 z.length c3, .slice A2 y.length c2] 41)).alloc (.cells #[.slice none 0 0, .slice none 0 0, .slice none 0 0] 41)).frozen? ⟨w.heap.size + 1, 1, none⟩ = false := frozen_new (by simp)
  have b2 : ((w.alloc (.cells #[.slice A1 x.length c1, .slice A3 z.length c3, .slice A2 y.length c2] 41)).alloc (.cells #[.slice none 0 0, .slice none 0 0, .slice none 0 0] 41)).cell? ⟨w.heap.size + 1, 2, none⟩ = some (.slice none 0 0) := cell_new (by simp) rfl
  have bf2 : ((w.alloc (.cells #[.slice A1 x.length c1, .slice A3 z.length c3, .slice A2 y.length c2] 41)).alloc (.cells #[.slice none 0 0, .slice none 0 0, .slice none 0 0] 41)).frozen? ⟨w.heap.size + 1, 2, none⟩ = false := frozen_new (by simp)
  have bk : ((w.alloc (.cells #[.slice A1 x.length c1, .slice A3 z.length c3, .slice A2 y.length c2] 41)).alloc (.cells #[.slice none 0 0, .slice none 0 0, .slice none 0 0] 41)).heap[w.heap.size + 1]? = some (.cells #[.slice none 0 0, .slice none 0 0, .slice none 0 0] 41) := blk_new (by simp)
  have zb : w.heap.size + 1 < ((w.alloc (.cells #[.slice A1 x.length c1, .slice A3 z.length c3, .slice A2 y.length c2] 41)).alloc (.cells #[.slice none 0 0, .slice none 0 0, .slice none 0 0] 41)).heap.size := World.block_lt_of_cell? _ _ b0
  generalize ((w.alloc (.cells #[.slice A1 x.length c1, .slice A3 z.length c3, .slice A2 y.length c2] 41)).alloc (.cells #[.slice none 0 0, .slice none 0 0, .slice none 0 0] 41)) = w0 at *
  have HBK := Lib.hid bk
  clear bk
  have q1 := RowsAt.below hx hb0
  have q2 := RowsAt.below hy hb0
  have q3 := RowsAt.below hz hb0
  have HQ3 := Lib.hid q3
  clear hx hy hz
  have hw0 := hb0.size
  go_region_held3 (fun w' => w'.cell? ⟨w.heap.size, 0, none⟩ = some (.slice A1 x.length c1) ∧ w'.cell? ⟨w.heap.size, 1, none⟩ = some (.slice A3 z.length c3) ∧ w'.cell? ⟨w.heap.size, 2, none⟩ = some (.slice A2 y.length c2))
    ((((try go_split_ands); (repeat' (apply And.intro)) <;> (repeat (first | (with_reducible assumption) | (with_reducible refine cell_drew ?_) | (with_reducible refine cell_alloc _ ?_) | (with_reducible refine cell_below' (by with_reducible assumption) ?_) | (with_reducible refine cell_far ?_ ?_; focus (first | omega | (simp; omega) | (simp; done))))))))
    (first
      | (go_at_call 56; ((with_reducible refine (HC1.out _ ?_).mono ?_); (focus (first | exact RowsAt.below q1 (Below.refl _ w0).drew | exact RowsAt.below q1 (below_alloc _ (Nat.le_refl _) (Below.refl _ w0).drew))); rintro e w4 ⟨A4, c4, rfl, own4, hb4⟩; have hy4 : Below w0.heap.size w0 w4 := (by first | exact ((Below.refl _ w0).drew).trans hb4 | exact (below_alloc _ (Nat.le_refl _) ((Below.refl _ w0).drew)).trans (hb4.mono (by simp; try omega))); (try have nbk : w4.heap[w0.heap.size]? = some (.cells #[] 150 (0, 0)) := blk_below' hb4 (blk_new (by simp))); have hs4 := hy4.size))
      | (refine step_appPkt _ rfl (.tmp 6) (.tmp 8) rfl w0.heap.size (some ⟨_, 0, none⟩) 0 0 [] rfl (by first | exact own_empty (Nat.le_refl _) nbk | exact own_empty hs4 (blk_new rfl)) A3 z.length c3 (cellsOf 4 pktC z) rfl (cellsOf_length z) (fun e => by subst e; exact RowsAt.nil_len HQ3.out) (fun ad e => by subst e; exact RowsAt.news (RowsAt.below HQ3.out (by first | exact hy4 | exact below_alloc _ (Nat.le_refl _) hy4)) (by decide)) mem_oneP (by omega) (by first | exact hs4 | (simp; omega)) ?_; intro A5 c5 w5 own5 hg5 halt5; have hy5 : Below w0.heap.size w0 w5 := (by first | exact below_own hy4 hg5 (own_empty (e := 150) (size := 4) (Nat.le_refl _) nbk) (Nat.le_refl _) hs4 | exact below_own (below_alloc _ (Nat.le_refl _) hy4) hg5 (own_empty (e := 150) (size := 4) hs4 (blk_new rfl)) (Nat.le_refl _) (by simp; omega)); have r45 : MsgsAt w5 A4 x := (by first | exact RowsAt.below (rowsAt_of_own (f := msgC) own4 rfl (by decide)) (below_own (B := w4.heap.size) (below_alloc _ (Nat.le_refl _) (Below.refl _ w4)) hg5 (own_empty (e := 150) (size := 4) (Nat.le_refl _) (blk_new rfl)) (Nat.le_refl _) (by simp)) | exact rowsAt_of_own (f := msgC) (own_atB own4 (fun g o hg h => (hg5.block g (Array.getElem?_eq_some_iff.1 h).1 (fun e => by have h1 := (own4.lt g hg).1; have h2 : g = w0.heap.size := Option.some.inj e; simp at h1; omega)).trans h)) rfl (by decide)); rw [Nat.zero_add, List.nil_append] at own5; have hs5 := hy5.size)
      | (go_at_call 56; ((with_reducible refine (HC2.out _ ?_).mono ?_); (focus (exact RowsAt.below q2 hy5)); rintro e w6 ⟨A6, c6, rfl, own6, hb6⟩; have hy6 : Below w0.heap.size w0 w6 := hy5.trans (hb6.mono hs5); have hs6 := hy6.size; have d0 := cell_below' hy6 b0; have d1 := cell_below' hy6 b1; have d2 := cell_below' hy6 b2; have df0 := frozen_below hy6 zb bf0; have df1 := frozen_below hy6 zb bf1; have df2 := frozen_below hy6 zb bf2)))
  all_goals
    have r46 : MsgsAt w6 A4 x := RowsAt.below r45 hb6
    have r56 : PktsAt w6 A5 z := RowsAt.below (rowsAt_of_own (f := pktC) own5 rfl (by decide)) hb6
    have r66 : MsgsAt w6 A6 y := rowsAt_of_own (f := msgC) own6 rfl (by decide)
    have hbk6 := blk_below' hy6 HBK.out
    have hw6 : Below w.heap.size w w6 := hb0.trans (hy6.mono hw0)
    go_wp2_with (fail)
    obtain ⟨s0, s1, s2⟩ := set3 (v0 := .slice A4 x.length c4) (v1 := .slice A5 z.length c5) (v2 := .slice A6 y.length c6) d0 d1 d2
    have hlr := lnk_farB (L := ⟨x, z, y⟩) (v0 := .slice A4 x.length c4) (v1 := .slice A5 z.length c5) (v2 := .slice A6 y.length c6) ⟨r46, r66, r56⟩ hbk6
    have hbf : Below w.heap.size w (((w6.setCell ⟨w.heap.size + 1, 0, none⟩ (.slice A4 x.length c4)).setCell ⟨w.heap.size + 1, 1, none⟩ (.slice A5 z.length c5)).setCell ⟨w.heap.size + 1, 2, none⟩ (.slice A6 y.length c6)) := below_set _ (by simp) (below_set _ (by simp) (below_set _ (by simp) hw6))
    generalize (((w6.setCell ⟨w.heap.size + 1, 0, none⟩ (.slice A4 x.length c4)).setCell ⟨w.heap.size + 1, 1, none⟩ (.slice A5 z.length c5)).setCell ⟨w.heap.size + 1, 2, none⟩ (.slice A6 y.length c6)) = W9 at *
    refine bodyPost_ret (v := .agg #[.slice A4 x.length c4, .slice A5 z.length c5, .slice A6 y.length c6]) (by simp [results, Try.results28, go_sem, s0, s1, s2]) rfl ?_
    exact ⟨A4, c4, A6, c6, A5, c5, rfl, hlr, hbf⟩
def AoDL (wb : World) (n : Nat) (i : Value) (wr : World) : Prop := ∃ k : Nat, k ≤ n ∧ i = .int .i64 k ∧ Below wb.heap.size wb wr
set_option maxRecDepth 100000 in
set_option maxHeartbeats 4000000 in
theorem SameLink_refl (A1 : Option Addr) (c1 : Nat) (A2 : Option Addr) (c2 : Nat) (A3 : Option Addr) (c3 : Nat) (B1 : Option Addr) (d1 : Nat) (B2 : Option Addr) (d2 : Nat) (B3 : Option Addr) (d3 : Nat) (L : Lnk) (w : World) (g1 : L.box.length ≤ 300) (g2 : L.store.length ≤ 300) (g3 : L.wire.length ≤ 300) (hR : LnkR A1 A2 A3 L w) (hS : LnkR B1 B2 B3 L w) :
    Calls Try.prog 31 #[LnkV A1 c1 A2 c2 A3 c3 L, LnkV B1 d1 B2 d2 B3 d3 L] w fun e w' => e = .returned (.bool true) ∧ Below w.heap.size w w' := by
  obtain ⟨x, z, y⟩ := L
  obtain ⟨hx, hy, hz⟩ := hR
  obtain ⟨kx, ky, kz⟩ := hS
  simp only [LnkV] at hx hy hz kx ky kz g1 g2 g3 ⊢
  have HC1 := Lib.hid (fun W (h : MsgsAt W A1 x) (k : MsgsAt W B1 x) => SameM_refl A1 B1 x c1 d1 W g1 h k)
  have HC2 := Lib.hid (fun W (h : MsgsAt W A2 y) (k : MsgsAt W B2 y) => SameM_refl A2 B2 y c2 d2 W g2 h k)
  have hll : ((z.length : Int) != (z.length : Int)) = false := by simp
  go_enter Try.func31, Try.ntmps31
  go_wp2_with (fail)
  have hb0 : Below w.heap.size w ((w.alloc (.cells #[.slice A1 x.length c1, .slice A3 z.length c3, .slice A2 y.length c2] 41)).alloc (.cells #[.slice B1 x.length d1, .slice B3 z.length d3, .slice B2 y.length d2] 41)) := below_alloc _ (Nat.le_refl _) (below_alloc _ (Nat.le_refl _) (Below.refl _ _))
  have a0 : ((w.alloc (.cells #[.slice A1 x.length c1, .slice A3 z.length c3, .slice A2 y.length c2] 41)).alloc (.cells #[.slice B1 x.length d1, .slice B3 z.length d3, .slice B2 y.length d2] 41)).cell? ⟨w.heap.size, 0, none⟩ = some (.slice A1 x.length c1) := cell_alloc _ (cell_new (by simp) rfl)
  have a1 : ((w.alloc (.cells #[.slice A1 x.length c1, .slice A3 z.length c3, .slice A2 y.length c2] 41)).alloc (.cells #[.slice B1 x.length d1, .slice B3 z.length d3, .slice B2 y.length d2] 41)).cell? ⟨w.heap.size, 1, none⟩ = some (.slice A3 z.length c3) := cell_alloc _ (cell_new (by simp) rfl)
  have a2 : ((w.alloc (.cells #[.slice A1 x.length c1, .slice A3 z.length c3, .slice A2 y.length c2] 41)).alloc (.cells #[.slice B1 x.length d1, .slice B3 z.length d3, .slice B2 y.length d2] 41)).cell? ⟨w.heap.size, 2, none⟩ = some (.slice A2 y.length c2) := cell_alloc _ (cell_new (by simp) rfl)
  have za : w.heap.size < ((w.alloc (.cells #[.slice A1 x.length c1, .slice A3 z.length c3, .slice A2 y.length c2] 41)).alloc (.cells #[.slice B1 x.length d1, .slice B3 z.length d3, .slice B2 y.length d2] 41)).heap.size := World.block_lt_of_cell? _ _ a0
  have b0 : ((w.alloc (.cells #[.slice A1 x.length c1, .slice A3 z.length c3, .slice A2 y.length c2] 41)).alloc (.cells #[.slice B1 x.length d1, .slice B3 z.length d3, .slice B2 y.length d2] 41)).cell? ⟨w.heap.size + 1, 0, none⟩ = some (.slice B1 x.length d1) := cell_new (by simp) rfl
  have b1 : ((w.alloc (.cells #[.slice A1 x.length c1, .slice A3 z.length c3, .slice A2 y.length c2] 41)).alloc (.cells #[.slice B1 x.length d1, .slice B3 z.length d3, .slice B2 y.length d2] 41)).cell? ⟨w.heap.size + 1, 1, none⟩ = some (.slice B3 z.length d3) := cell_new (by simp) rfl
  have b2 : ((w.alloc (.cells #[.slice A1 x.length c1, .slice A3 z.length c3, .slice A2 y.length c2] 41)).alloc (.cells #[.slice B1 x.length d1, .slice B3 z.length d3, .slice B2 y.length d2] 41)).cell? ⟨w.heap.size + 1, 2, none⟩ = some (.slice B2 y.length d2) := cell_new (by simp) rfl
  have zb : w.heap.size + 1 < ((w.alloc (.cells #[.slice A1 x.length c1, .slice A3 z.length c3, .slice A2 y.length c2] 41)).alloc (.cells #[.slice B1 x.length d1, .slice B3 z.length d3, .slice B2 y.length d2] 41)).heap.size := World.block_lt_of_cell? _ _ b0
  generalize ((w.alloc (.cells #[.slice A1 x.length c1, .slice A3 z.length c3, .slice A2 y.length c2] 41)).alloc (.cells #[.slice B1 x.length d1, .slice B3 z.length d3, .slice B2 y.length d2] 41)) = w0 at *
  have r1 := RowsAt.below hx hb0
  have r2 := RowsAt.below hy hb0
  have r3 := RowsAt.below hz hb0
  have s1 := RowsAt.below kx hb0
  have s2 := RowsAt.below ky hb0
  have s3 := RowsAt.below kz hb0
  clear hx hy hz kx ky kz
  refine (HC1.out _ r1 s1).mono ?_
  rintro e w1 ⟨rfl, hb1⟩
  have h1 : Below w.heap.size w w1 := (hb0).trans ((hb1).mono (hb0).size)
  replace a0 := cell_below' hb1 a0
  replace a1 := cell_below' hb1 a1
  replace a2 := cell_below' hb1 a2
  replace za := Nat.lt_of_lt_of_le za (hb1).size
  replace b0 := cell_below' hb1 b0
  replace b1 := cell_below' hb1 b1
  replace b2 := cell_below' hb1 b2
  replace zb := Nat.lt_of_lt_of_le zb (hb1).size
  replace r2 := RowsAt.below r2 hb1
  replace r3 := RowsAt.below r3 hb1
  replace s2 := RowsAt.below s2 hb1
  replace s3 := RowsAt.below s3 hb1
  clear hb1 hb0
  go_wp2_with (fail)
  refine (HC2.out _ r2 s2).mono ?_
  rintro e w2 ⟨rfl, hb2⟩
  have h2 : Below w.heap.size w w2 := (h1).trans ((hb2).mono (h1).size)
  replace a0 := cell_below' hb2 a0
  replace a1 := cell_below' hb2 a1
  replace a2 := cell_below' hb2 a2
  replace za := Nat.lt_of_lt_of_le za (hb2).size
  replace b0 := cell_below' hb2 b0
  replace b1 := cell_below' hb2 b1
  replace b2 := cell_below' hb2 b2
  replace zb := Nat.lt_of_lt_of_le zb (hb2).size
  replace r3 := RowsAt.below r3 hb2
  replace s3 := RowsAt.below s3 hb2
  clear hb2 h1
  clear r1 r2 s1 s2 HC1 HC2
  go_wp2_with (fail)
  go_loopw [5] (fun i wr => AoDL w2 z.length i wr) (fun i _ => z.length - (intOf i).toNat)
  case atStart => exact ⟨0, Nat.zero_le _, rfl, Below.refl _ _⟩
  case round =>
    obtain ⟨k, hk, rfl, hbd⟩ := hrel
    have hbd2 := h2.trans (hbd.mono h2.size)
    have a1' := cell_below' hbd a1
    have b1' := cell_below' hbd b1
    have za' : w.heap.size < wr.heap.size := Nat.lt_of_lt_of_le za hbd.size
    have zb' : w.heap.size + 1 < wr.heap.size := Nat.lt_of_lt_of_le zb hbd.size
    clear hll
    by_cases hlt : k < z.length
    · obtain ⟨p1, o1, rfl, hp1, e0, e1, e2, e3⟩ := PktsAt.at_ (RowsAt.below r3 hbd) hlt
      obtain ⟨p2, o2, rfl, hp2, f0, f1, f2, f3⟩ := PktsAt.at_ (RowsAt.below s3 hbd) hlt
      generalize z[k] = p at *
      have t0 : (p.m.s.toList == p.m.s.toList) = true := by simp
      have t1 : (p.m.v == p.m.v) = true := by simp
      have t2 : (p.m.l == p.m.l) = true := by simp
      have t3 : (p.a == p.a) = true := by simp
      go_wp2_with (fail)
      go_quiet (fail)
      go_wp2_with (fail)
      go_roundw
      case rel => exact ⟨k + 1, by omega, by go_num, (by repeat (first | assumption | exact Below.refl _ _ | refine Below.drew ?_ | (refine below_alloc _ ?_ ?_; focus (first | omega | (simp; done) | (simp; omega) | (simp at *; omega))) | (refine below_set _ ?_ ?_; focus (first | omega | (simp; done) | (simp; omega) | (simp at *; omega))) | refine below_drewN ?_ _ | (refine below_call (by assumption) ?_ ?_; focus (first | omega | (simp; done) | (simp; omega) | (simp at *; omega))) | (refine below_call' (by assumption) ?_ ?_; focus (first | omega | (simp; done) | (simp; omega) | (simp at *; omega)))))⟩
      case measure => simp [intOf]; omega
    · go_wp2_with (fail)
      go_ret
      exact ⟨rfl, hbd2⟩
end
section
open Go.ChangeShapes Go.WideShapes Go.ChangeAt Go.RowKit
set_option linter.unusedVariables false
set_option linter.unusedSimpArgs false

theorem own_blk' {w w' : World} {B : Nat} {e : TypeId} {size : Nat} {v : Value} {n : Nat} {xs : List Value} (h : w.ownsRow B e size v n xs) (hb : ∀ g o, B ≤ g → w.heap[g]? = some o → w'.heap[g]? = some o) : w'.ownsRow B e size v n xs := by
  obtain ⟨h1, h2⟩ := h
  refine ⟨h1, ?_⟩
  rcases h2 with h2 | ⟨g, cap, cur, hv, hg, hh, r⟩
  · exact Or.inl h2
  · exact Or.inr ⟨g, cap, cur, hv, hg, hb g _ hg hh, r⟩
/-- a link whose lists are a caller's own -/
structure LnkO (B : Nat) (A1 : Option Addr) (c1 : Nat) (A2 : Option Addr) (c2 : Nat) (A3 : Option Addr) (c3 : Nat) (L : Lnk) (w : World) : Prop where
  o1 : w.ownsRow B 45 3 (.slice A1 L.box.length c1) L.box.length (cellsOf 3 msgC L.box)
  o2 : w.ownsRow B 45 3 (.slice A2 L.store.length c2) L.store.length (cellsOf 3 msgC L.store)
  o3 : w.ownsRow B 150 4 (.slice A3 L.wire.length c3) L.wire.length (cellsOf 4 pktC L.wire)
  x12 : Dis (Value.ownBlock (.slice A1 L.box.length c1)) (Value.ownBlock (.slice A2 L.store.length c2))
  x13 : Dis (Value.ownBlock (.slice A1 L.box.length c1)) (Value.ownBlock (.slice A3 L.wire.length c3))
  x23 : Dis (Value.ownBlock (.slice A2 L.store.length c2)) (Value.ownBlock (.slice A3 L.wire.length c3))
theorem LnkO.reads {B : Nat} {A1 : Option Addr} {c1 : Nat} {A2 : Option Addr} {c2 : Nat} {A3 : Option Addr} {c3 : Nat} {L : Lnk} {w : World} (h : LnkO B A1 c1 A2 c2 A3 c3 L w) : LnkR A1 A2 A3 L w := ⟨rowsAt_of_own h.o1 rfl (by decide), rowsAt_of_own h.o2 rfl (by decide), rowsAt_of_own h.o3 rfl (by decide)⟩
def LnkOwn (L : Lnk) (w : World) (e : Ending) (w' : World) : Prop := ∃ A1 c1 A2 c2 A3 c3, e = .returned (LnkV A1 c1 A2 c2 A3 c3 L) ∧ LnkO (w.heap.size + 2) A1 c1 A2 c2 A3 c3 L w' ∧ Below w.heap.size w w' ∧ w.heap.size + 2 ≤ w'.heap.size
set_option maxRecDepth 100000 in
set_option maxHeartbeats 4000000 in
theorem CopyLink_own (A1 : Option Addr) (c1 : Nat) (A2 : Option Addr) (c2 : Nat) (A3 : Option Addr) (c3 : Nat) (L : Lnk) (w : World) (g1 : L.box.length ≤ 300) (g2 : L.store.length ≤ 300) (g3 : L.wire.length ≤ 300) (hR : LnkR A1 A2 A3 L w) :
    Calls Try.prog 28 #[LnkV A1 c1 A2 c2 A3 c3 L] w (LnkOwn L w) := by
  obtain ⟨x, z, y⟩ := L
  obtain ⟨hx, hy, hz⟩ := hR
  simp only [LnkV] at hx hy hz g1 g2 g3 ⊢
  have HC1 := Lib.hid (fun W (h : MsgsAt W A1 x) => CopyMessages_any A1 x c1 W g1 h)
  have HC2 := Lib.hid (fun W (h : MsgsAt W A2 y) => CopyMessages_any A2 y c2 W g2 h)
  go_enter Try.func28, Try.ntmps28
  go_wp2_with (fail)
  have hb0 : Below w.heap.size w ((w.alloc (.cells #[.slice A1 x.length c1, .slice A3 z.length c3, .slice A2 y.length c2] 41)).alloc (.cells #[.slice none 0 0, .slice none 0 0, .slice none 0 0] 41)) := below_alloc _ (Nat.le_refl _) (below_alloc _ (Nat.le_refl _) (Below.refl _ _))
  have a0 : ((w.alloc (.cells #[.slice A1 x.length c1, .slice A3 z.length c3, .slice A2 y.length c2] 41)).alloc (.cells #[.slice none 0 0, .slice none 0 0, .slice none 0 0] 41)).cell? ⟨w.heap.size, 0, none⟩ = some (.slice A1 x.length c1) := cell_alloc _ (cell_new (by simp) rfl)
  have a1 : ((w.alloc (.cells #[.slice A1 x.length c1, .slice A3 z.length c3, .slice A2 y.length c2] 41)).alloc (.cells #[.slice none 0 0, .slice none 0 0, .slice none 0 0] 41)).cell? ⟨w.heap.size, 1, none⟩ = some (.slice A3 z.length c3) := cell_alloc _ (cell_new (by simp) rfl)
  have a2 : ((w.alloc (.cells #[.slice A1 x.length c1, .slice A3 z.length c3, .slice A2 y.length c2] 41)).alloc (.cells #[.slice none 0 0, .slice none 0 0, .slice none 0 0] 41)).cell? ⟨w.heap.size, 2, none⟩ = some (.slice A2 y.length c2) := cell_alloc _ (cell_new (by simp) rfl)
  have za : w.heap.size < ((w.alloc (.cells #[.slice A1 x.length c1, .slice A3 z.length c3, .slice A2 y.length c2] 41)).alloc (.cells #[.slice none 0 0, .slice none 0 0, .slice none 0 0] 41)).heap.size := World.block_lt_of_cell? _ _ a0
  have b0 : ((w.alloc (.cells #[.slice A1 x.length c1, .slice A3 z.length c3, .slice A2 y.length c2] 41)).alloc (.cells #[.slice none 0 0, .slice none 0 0, .slice none 0 0] 41)).cell? ⟨w.heap.size + 1, 0, none⟩ = some (.slice none 0 0) := cell_new (by simp) rfl
  have bf0 : ((w.alloc (.cells #[.slice A1 x.length c1, .slice A3 z.length c3, .slice A2 y.length c2] 41)).alloc (.cells #[.slice none 0 0, .slice none 0 0, .slice none 0 0] 41)).frozen? ⟨w.heap.size + 1, 0, none⟩ = false := frozen_new (by simp)
  have b1 : ((w.alloc (.cells #[.slice A1 x.length c1, .slice A3 z.length c3, .slice A2 y.length c2] 41)).alloc (.cells #[.slice none 0 0, .slice none 0 0, .slice none 0 0] 41)).cell? ⟨w.heap.size + 1, 1, none⟩ = some (.slice none 0 0) := cell_new (by simp) rfl
  have bf1 : ((w.alloc (.cells #[.slice A1 x.length c1, .slice A3 z.length c3, .slice A2 y.length c2] 41)).alloc (.cells #[.slice none 0 0, .slice none 0 0, .slice none 0 0] 41)).frozen? ⟨w.heap.size + 1, 1, none⟩ = false := frozen_new (by simp)
  have b2 : ((w.alloc (.cells #[.slice A1 x.length c1, .slice A3 z.length c3, .slice A2 y.length c2] 41)).alloc (.cells #[.slice none 0 0, .slice none 0 0, .slice none 0 0] 41)).cell? ⟨w.heap.size + 1, 2, none⟩ = some (.slice none 0 0) := cell_new (by simp) rfl
  have bf2 : ((w.alloc (.cells #[.slice A1 x.length c1, .slice A3 z.length c3, .slice A2 y.length c2] 41)).alloc (.cells #[.slice none 0 0, .slice none 0 0, .slice none 0 0] 41)).frozen? ⟨w.heap.size + 1, 2, none⟩ = false := frozen_new (by simp)
  have zb : w.heap.size + 1 < ((w.alloc (.cells #[.slice A1 x.length c1, .slice A3 z.length c3, .slice A2 y.length c2] 41)).alloc (.cells #[.slice none 0 0, .slice none 0 0, .slice none 0 0] 41)).heap.size := World.block_lt_of_cell? _ _ b0
  generalize ((w.alloc (.cells #[.slice A1 x.length c1, .slice A3 z.length c3, .slice A2 y.length c2] 41)).alloc (.cells #[.slice none 0 0, .slice none 0 0, .slice none 0 0] 41)) = w0 at *
  have q1 := RowsAt.below hx hb0
  have q2 := RowsAt.below hy hb0
  have q3 := RowsAt.below hz hb0
  have HQ3 := Lib.hid q3
  clear hx hy hz
  have hw0 := hb0.size
  go_region_held3 (fun w' => w'.cell? ⟨w.heap.size, 0, none⟩ = some (.slice A1 x.length c1) ∧ w'.cell? ⟨w.heap.size, 1, none⟩ = some (.slice A3 z.length c3) ∧ w'.cell? ⟨w.heap.size, 2, none⟩ = some (.slice A2 y.length c2))
    ((((try go_split_ands); (repeat' (apply And.intro)) <;> (repeat (first | (with_reducible assumption) | (with_reducible refine cell_drew ?_) | (with_reducible refine cell_alloc _ ?_) | (with_reducible refine cell_below' (by with_reducible assumption) ?_) | (with_reducible refine cell_far ?_ ?_; focus (first | omega | (simp; omega) | (simp; done))))))))
    (first
      | (go_at_call 56; ((with_reducible refine (HC1.out _ ?_).mono ?_); (focus (first | exact RowsAt.below q1 (Below.refl _ w0).drew | exact RowsAt.below q1 (below_alloc _ (Nat.le_refl _) (Below.refl _ w0).drew))); rintro e w4 ⟨A4, c4, rfl, own4, hb4⟩; have hy4 : Below w0.heap.size w0 w4 := (by first | exact ((Below.refl _ w0).drew).trans hb4 | exact (below_alloc _ (Nat.le_refl _) ((Below.refl _ w0).drew)).trans (hb4.mono (by simp; try omega))); (try have nbk : w4.heap[w0.heap.size]? = some (.cells #[] 150 (0, 0)) := blk_below' hb4 (blk_new (by simp))); have hs4 := hy4.size))
      | (refine step_appPkt _ rfl (.tmp 6) (.tmp 8) rfl w0.heap.size (some ⟨_, 0, none⟩) 0 0 [] rfl (by first | exact own_empty (Nat.le_refl _) nbk | exact own_empty hs4 (blk_new rfl)) A3 z.length c3 (cellsOf 4 pktC z) rfl (cellsOf_length z) (fun e => by subst e; exact RowsAt.nil_len HQ3.out) (fun ad e => by subst e; exact RowsAt.news (RowsAt.below HQ3.out (by first | exact hy4 | exact below_alloc _ (Nat.le_refl _) hy4)) (by decide)) mem_oneP (by omega) (by first | exact hs4 | (simp; omega)) ?_; intro A5 c5 w5 own5 hg5 halt5; have hy5 : Below w0.heap.size w0 w5 := (by first | exact below_own hy4 hg5 (own_empty (e := 150) (size := 4) (Nat.le_refl _) nbk) (Nat.le_refl _) hs4 | exact below_own (below_alloc _ (Nat.le_refl _) hy4) hg5 (own_empty (e := 150) (size := 4) hs4 (blk_new rfl)) (Nat.le_refl _) (by simp; omega)); have own45 : w5.ownsRow w0.heap.size 45 3 (.slice A4 x.length c4) x.length (cellsOf 3 msgC x) := (by first | exact own_mono (own_below own4 (below_own (B := w4.heap.size) (below_alloc _ (Nat.le_refl _) (Below.refl _ w4)) hg5 (own_empty (e := 150) (size := 4) (Nat.le_refl _) (blk_new rfl)) (Nat.le_refl _) (by simp))) (by first | exact Nat.le_refl _ | (simp; done)) | exact own_mono (own_atB own4 (fun g o hg h => (hg5.block g (Array.getElem?_eq_some_iff.1 h).1 (fun e => by have h1 := (own4.lt g hg).1; have h2 : g = w0.heap.size := Option.some.inj e; simp at h1; omega)).trans h)) (by first | exact Nat.le_refl _ | (simp; done))); have x45 : Dis (Value.ownBlock (.slice A4 x.length c4)) (Value.ownBlock (.slice A5 (0 + z.length) c5)) := (by intro g e e2; have h1 := own4.lt g e; rcases halt5 with h | h <;> (rw [h] at e2; have h2 := Option.some.inj e2; simp at h1 h2; omega)); rw [Nat.zero_add] at x45; rw [Nat.zero_add, List.nil_append] at own5; have hs5 := hy5.size)
      | (go_at_call 56; ((with_reducible refine (HC2.out _ ?_).mono ?_); (focus (exact RowsAt.below q2 hy5)); rintro e w6 ⟨A6, c6, rfl, own6, hb6⟩; have hy6 : Below w0.heap.size w0 w6 := hy5.trans (hb6.mono hs5); have hs6 := hy6.size; have d0 := cell_below' hy6 b0; have d1 := cell_below' hy6 b1; have d2 := cell_below' hy6 b2; have df0 := frozen_below hy6 zb bf0; have df1 := frozen_below hy6 zb bf1; have df2 := frozen_below hy6 zb bf2)))
  all_goals
    have x12 := dis_of own45 own6 (Nat.le_refl _)
    have x32 := dis_of own5 own6 (Nat.le_refl _)
    have own46 := own_below own45 hb6
    have own56 := own_below own5 hb6
    have own66 := own_mono own6 hs5
    have hz0 : w.heap.size + 2 ≤ w0.heap.size := zb
    have hw6 : Below w.heap.size w w6 := hb0.trans (hy6.mono hw0)
    go_wp2_with (fail)
    obtain ⟨s0, s1, s2⟩ := set3 (v0 := .slice A4 x.length c4) (v1 := .slice A5 z.length c5) (v2 := .slice A6 y.length c6) d0 d1 d2
    have hfar : ∀ (g : Nat) (o : Obj), w0.heap.size ≤ g → w6.heap[g]? = some o → (((w6.setCell ⟨w.heap.size + 1, 0, none⟩ (.slice A4 x.length c4)).setCell ⟨w.heap.size + 1, 1, none⟩ (.slice A5 z.length c5)).setCell ⟨w.heap.size + 1, 2, none⟩ (.slice A6 y.length c6)).heap[g]? = some o := fun g o hg h => have hn : g ≠ w.heap.size + 1 := (by omega); blk_far _ hn (blk_far _ hn (blk_far _ hn h))
    have hlr : LnkO (w.heap.size + 2) A4 c4 A6 c6 A5 c5 ⟨x, z, y⟩ (((w6.setCell ⟨w.heap.size + 1, 0, none⟩ (.slice A4 x.length c4)).setCell ⟨w.heap.size + 1, 1, none⟩ (.slice A5 z.length c5)).setCell ⟨w.heap.size + 1, 2, none⟩ (.slice A6 y.length c6)) :=
      ⟨own_mono (own_blk' own46 (fun g o hg h => hfar g o hg h)) hz0, own_mono (own_blk' own66 (fun g o hg h => hfar g o hg h)) hz0, own_mono (own_blk' own56 (fun g o hg h => hfar g o hg h)) hz0, x12, x45, x32.symm⟩
    have hbf : Below w.heap.size w (((w6.setCell ⟨w.heap.size + 1, 0, none⟩ (.slice A4 x.length c4)).setCell ⟨w.heap.size + 1, 1, none⟩ (.slice A5 z.length c5)).setCell ⟨w.heap.size + 1, 2, none⟩ (.slice A6 y.length c6)) := below_set _ (by simp) (below_set _ (by simp) (below_set _ (by simp) hw6))
    have hz9 : w.heap.size + 2 ≤ (((w6.setCell ⟨w.heap.size + 1, 0, none⟩ (.slice A4 x.length c4)).setCell ⟨w.heap.size + 1, 1, none⟩ (.slice A5 z.length c5)).setCell ⟨w.heap.size + 1, 2, none⟩ (.slice A6 y.length c6)).heap.size := by simp; omega
    generalize (((w6.setCell ⟨w.heap.size + 1, 0, none⟩ (.slice A4 x.length c4)).setCell ⟨w.heap.size + 1, 1, none⟩ (.slice A5 z.length c5)).setCell ⟨w.heap.size + 1, 2, none⟩ (.slice A6 y.length c6)) = W9 at *
    refine bodyPost_ret (v := .agg #[.slice A4 x.length c4, .slice A5 z.length c5, .slice A6 y.length c6]) (by simp [results, Try.results28, go_sem, s0, s1, s2]) rfl ?_
    exact ⟨A4, c4, A6, c6, A5, c5, rfl, hlr, hbf, hz9⟩
end
section
open Go.ChangeShapes Go.WideShapes Go.ChangeAt Go.RowKit
set_option linter.unusedVariables false
set_option linter.unusedSimpArgs false

def delK {α : Type} (l : List α) (i k : Nat) : List α := if k ≤ i then l.take k else l.take i ++ (l.take k).drop (i + 1)
theorem delK_lt {α : Type} {l : List α} {i k : Nat} (hk : k < l.length) (h : k < i) : delK l i k ++ [l[k]] = delK l i (k + 1) := by
  unfold delK
  rw [if_pos (by omega), if_pos (by omega), List.take_succ_eq_append_getElem hk]
theorem delK_eq {α : Type} {l : List α} {k : Nat} (hk : k < l.length) : delK l k k = delK l k (k + 1) := by
  unfold delK
  rw [if_pos (Nat.le_refl _), if_neg (by omega), List.drop_eq_nil_of_le (by rw [List.length_take]; omega), List.append_nil]
theorem delK_gt {α : Type} {l : List α} {i k : Nat} (hk : k < l.length) (h : i < k) : delK l i k ++ [l[k]] = delK l i (k + 1) := by
  unfold delK
  rw [if_neg (by omega), if_neg (by omega), List.take_succ_eq_append_getElem hk, List.append_assoc, List.drop_append_of_le_length (by rw [List.length_take]; omega)]
theorem delK_ne {α : Type} {l : List α} {i k : Nat} (hk : k < l.length) (h : k ≠ i) : delK l i k ++ [l[k]] = delK l i (k + 1) := by
  rcases Nat.lt_or_gt_of_ne h with h | h
  · exact delK_lt hk h
  · exact delK_gt hk h
theorem delK_len {α : Type} {l : List α} {i k : Nat} : (delK l i k).length ≤ k := by
  unfold delK
  split
  · rw [List.length_take]; omega
  · simp only [List.length_append, List.length_take, List.length_drop]; omega
theorem delK_end {α : Type} {l : List α} {i : Nat} (h : i < l.length) : delK l i l.length = delL l i := by
  unfold delK delL; rw [if_neg (by omega), List.take_length]
def WouPost (l : List Pkt) (w : World) (e : Ending) (w' : World) : Prop := ∃ A c, e = .returned (.slice A l.length c) ∧ w'.ownsRow w.heap.size 150 4 (.slice A l.length c) l.length (cellsOf 4 pktC l) ∧ Below w.heap.size w w'
set_option maxRecDepth 100000 in
set_option maxHeartbeats 4000000 in
theorem without_any (A : Option Addr) (l : List Pkt) (cap i : Nat) (w : World) (hl : l.length ≤ 300) (hi : i < l.length) (hA : PktsAt w A l) :
    Calls Try.prog 103 #[.slice A l.length cap, .int .i64 i] w (WouPost (delL l i) w) := by
  obtain ⟨i0, hi0, hz0, hz1, hz2⟩ := infoPkt_
  have HI := Lib.hid hi0
  have HZ0 := Lib.hid hz0
  have HZ1 := Lib.hid hz1
  have HZ2 := Lib.hid hz2
  clear hi0 hz0 hz1 hz2
  go_enter Try.func103, Try.ntmps103
  have hl2 : (l.length : Int) ≤ 300 := by omega
  go_wp2_with (fail)
  have e0 : delK l i 0 = [] := by simp [delK]
  go_loopw [5, 6] (fun o x wr => ∃ (k : Nat) (A' : Option Addr) (c' : Nat), k ≤ l.length ∧ x = .int .i64 k ∧ o = .slice A' (delK l i k).length c' ∧ wr.ownsRow w.heap.size 150 4 (.slice A' (delK l i k).length c') (delK l i k).length (cellsOf 4 pktC (delK l i k)) ∧ Below w.heap.size w wr) (fun _ x _ => l.length - (intOf x).toNat)
  case atStart => exact ⟨0, none, 0, Nat.zero_le _, rfl, by rw [e0] <;> rfl, by rw [e0]; exact World.ownsRow_nil _ _ _ _, Below.refl _ _⟩
  case round =>
    obtain ⟨k, A', c', hk, rfl, rfl, own, hbr⟩ := hrel
    have AR := RowsAt.below hA hbr
    have zr := hbr.size
    have hil := delK_len (l := l) (i := i) (k := k)
    have OWN := Lib.hid own
    clear own
    by_cases hlt : k < l.length
    · obtain ⟨b1, o1, rfl, hb1, c0, c1, c2, c3⟩ := PktsAt.at_ AR hlt
      have hk1 : (k : Int) < (l.length : Int) := by omega
      by_cases hkp : k = i
      · subst hkp
        have HIN := Lib.hid (delK_eq hlt)
        clear AR c0 c1 c2 c3 hb1
        generalize delK l k k = out at *
        go_wp2_with (fail)
        exact ⟨⟨k + 1, A', c', by omega, by go_num, by rw [HIN.out], by rw [← HIN.out]; exact OWN.out, hbr⟩, by simp [intOf]; omega⟩
      · have HIN := Lib.hid (delK_ne hlt hkp)
        have hne : ((k : Int) == (i : Int)) = false := by simp; omega
        clear AR hkp
        generalize l[k] = x at *
        generalize delK l i k = out at *
        go_wp2_with (at_builtin; (refine wpList_append_rows _ rfl (.tmp 16) (.tmp 21) 39 rfl w.heap.size 150 i0 (.agg #[.string ⟨#[]⟩, .int .i64 0, .int .i64 0, .bool false]) 4 40 Try.underlying39 HI.out HZ0.out HZ1.out HZ2.out rfl (by decide) A' out.length c' (cellsOf 4 pktC out) rfl (World.ownsRow.alloc OWN.out _) (some ⟨_, 0, none⟩) 1 1 (cellsOf 4 pktC [x]) rfl rfl (fun h => by cases h) (fun ad h => by cases h; exact RowsAt.news (rows_blkW (f := pktC) (m := 4) (l := [x]) (blk_new rfl) rfl) (by decide)) mem_oneP (by unfold maxLen; omega) (by omega) (by simp; omega) ?_; intro A2 c2' w3 h1 h2 h3))
        have hb3 : Below w.heap.size w w3 := below_own (below_alloc _ (Nat.le_refl _) hbr) h2 (World.ownsRow.alloc OWN.out _) (Nat.le_refl _) (by simp; omega)
        rw [← cellsOf_append, HIN.out] at h1
        have HL : Hid (out.length + 1 = (delK l i (k + 1)).length) := Lib.hid (by rw [← HIN.out]; simp)
        rw [HL.out] at h1
        clear h2 h3
        go_wp2_with (fail)
        exact ⟨⟨k + 1, A2, c2', by omega, by go_num, by rw [HL.out], h1, hb3⟩, by simp [intOf]; omega⟩
    · obtain rfl : k = l.length := by omega
      have HIN := Lib.hid (delK_end hi)
      clear AR
      have h4 : wr.ownsRow w.heap.size 150 4 (.slice A' (delL l i).length c') (delL l i).length (cellsOf 4 pktC (delL l i)) := by rw [← HIN.out]; exact OWN.out
      have HL : Hid ((delK l i l.length).length = (delL l i).length) := Lib.hid (by rw [HIN.out])
      clear OWN
      generalize delK l i l.length = out at *
      go_wp2_with (fail)
      go_ret
      exact ⟨A', c', by rw [HL.out] <;> rfl, h4, hbr⟩
end
end Go.Proofs.Ytcfbnmcdncndpaa
