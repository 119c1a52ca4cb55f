/-
  Chapter 8: small; LinkErr; CopyMoves.
-/
import Derived.Test.YtcfbnmcdncndpaaWNew
import Derived.Test.YtcfbnmcdncndpaaWRuo
import Derived.Test.YtcfbnmcdncndpaaKepP
namespace Go.Proofs.Ytcfbnmcdncndpaa
open Go.ChangeShapes Go.WideShapes Go.ChangeAt Go.RowKit
set_option linter.unusedVariables false
set_option linter.unusedSimpArgs false

def shortW (l : List Pkt) : Bool := l.all fun p => decide (p.m.s.size ≤ 30)
theorem shortW_cons (p : Pkt) (r : List Pkt) : shortW (p :: r) = (decide (p.m.s.size ≤ 30) && shortW r) := rfl
theorem shortW_true {l : List Pkt} (h : shortW l = true) : ∀ p ∈ l, p.m.s.size ≤ 30 := fun p hp => by
  unfold shortW at h
  rw [List.all_eq_true] at h
  simpa using h p hp
def smallL (L : Lnk) : Bool := decide (L.box.length ≤ 32) && (decide (L.store.length ≤ 32) && (decide (L.wire.length ≤ 62) && (shortM L.box && (shortM L.store && shortW L.wire))))
structure SmlL (L : Lnk) : Prop where
  l1 : L.box.length ≤ 32
  l2 : L.store.length ≤ 32
  l3 : L.wire.length ≤ 62
  n1 : ∀ m ∈ L.box, m.s.size ≤ 30
  n2 : ∀ m ∈ L.store, m.s.size ≤ 30
  n3 : ∀ p ∈ L.wire, p.m.s.size ≤ 30
theorem smallL_true {L : Lnk} (h : smallL L = true) : SmlL L := by
  unfold smallL at h
  rw [Bool.and_eq_true, Bool.and_eq_true, Bool.and_eq_true, Bool.and_eq_true, Bool.and_eq_true, decide_eq_true_eq, decide_eq_true_eq, decide_eq_true_eq] at h
  obtain ⟨a, b, c, d, e, f⟩ := h
  exact ⟨a, b, c, shortM_true d, shortM_true e, shortW_true f⟩
theorem SmlL.few {L : Lnk} (h : SmlL L) : FewL L := ⟨by have := h.l1; omega, by have := h.l2; omega, by have := h.l3; omega, fun m hm => by have := h.n1 m hm; omega, fun m hm => by have := h.n2 m hm; omega, fun m hm => by have := h.n3 m hm; omega⟩
set_option maxRecDepth 100000 in
set_option maxHeartbeats 4000000 in
theorem small_any (A1 : Option Addr) (c1 : Nat) (A2 : Option Addr) (c2 : Nat) (A3 : Option Addr) (c3 : Nat) (L : Lnk) (w : World) (hR : LnkR A1 A2 A3 L w) :
    Calls Try.prog 26 #[LnkV A1 c1 A2 c2 A3 c3 L] w fun e w' => e = .returned (.bool (smallL L)) ∧ Below w.heap.size w w' := by
  have hq : smallL L = (decide (L.box.length ≤ 32) && (decide (L.store.length ≤ 32) && (decide (L.wire.length ≤ 62) && (shortM L.box && (shortM L.store && shortW L.wire))))) := rfl
  obtain ⟨x, z, y⟩ := L
  obtain ⟨hx, hy, hz⟩ := hR
  simp only [LnkV] at hx hy hz hq ⊢
  by_cases h1 : x.length ≤ 32
  rotate_left 1
  · have hf : smallL ⟨x, z, y⟩ = false := by rw [hq, show decide (x.length ≤ 32) = false by simpa using h1]; rfl
    rw [hf]
    have e1 : decide ((32 : Int) < (x.length : Int)) = true := by simp; omega
    clear hq hf h1
    go_enter Try.func26, Try.ntmps26
    go_wp2_with (fail)
    go_ret
    exact ⟨rfl, (by repeat (first | assumption | exact Below.refl _ _ | refine Below.drew ?_ | (refine below_alloc _ ?_ ?_; focus (first | omega | (simp; done) | (simp; omega) | (simp at *; omega))) | (refine below_set _ ?_ ?_; focus (first | omega | (simp; done) | (simp; omega) | (simp at *; omega))) | refine below_drewN ?_ _ | (refine below_call (by assumption) ?_ ?_; focus (first | omega | (simp; done) | (simp; omega) | (simp at *; omega))) | (refine below_call' (by assumption) ?_ ?_; focus (first | omega | (simp; done) | (simp; omega) | (simp at *; omega)))))⟩
  by_cases h2 : y.length ≤ 32
  rotate_left 1
  · have hf : smallL ⟨x, z, y⟩ = false := by rw [hq, show decide (y.length ≤ 32) = false by simpa using h2, Bool.false_and, Bool.and_false]
    rw [hf]
    have e1 : decide ((32 : Int) < (x.length : Int)) = false := by simp; omega
    have e2 : decide ((32 : Int) < (y.length : Int)) = true := by simp; omega
    clear hq hf h1 h2
    go_enter Try.func26, Try.ntmps26
    go_wp2_with (fail)
    go_ret
    exact ⟨rfl, (by repeat (first | assumption | exact Below.refl _ _ | refine Below.drew ?_ | (refine below_alloc _ ?_ ?_; focus (first | omega | (simp; done) | (simp; omega) | (simp at *; omega))) | (refine below_set _ ?_ ?_; focus (first | omega | (simp; done) | (simp; omega) | (simp at *; omega))) | refine below_drewN ?_ _ | (refine below_call (by assumption) ?_ ?_; focus (first | omega | (simp; done) | (simp; omega) | (simp at *; omega))) | (refine below_call' (by assumption) ?_ ?_; focus (first | omega | (simp; done) | (simp; omega) | (simp at *; omega)))))⟩
  by_cases h3 : z.length ≤ 62
  rotate_left 1
  · have hf : smallL ⟨x, z, y⟩ = false := by rw [hq, show decide (z.length ≤ 62) = false by simpa using h3, Bool.false_and, Bool.and_false, Bool.and_false]
    rw [hf]
    have e1 : decide ((32 : Int) < (x.length : Int)) = false := by simp; omega
    have e2 : decide ((32 : Int) < (y.length : Int)) = false := by simp; omega
    have e3 : decide ((62 : Int) < (z.length : Int)) = true := by simp; omega
    clear hq hf h1 h2 h3
    go_enter Try.func26, Try.ntmps26
    go_wp2_with (fail)
    go_ret
    exact ⟨rfl, (by repeat (first | assumption | exact Below.refl _ _ | refine Below.drew ?_ | (refine below_alloc _ ?_ ?_; focus (first | omega | (simp; done) | (simp; omega) | (simp at *; omega))) | (refine below_set _ ?_ ?_; focus (first | omega | (simp; done) | (simp; omega) | (simp at *; omega))) | refine below_drewN ?_ _ | (refine below_call (by assumption) ?_ ?_; focus (first | omega | (simp; done) | (simp; omega) | (simp at *; omega))) | (refine below_call' (by assumption) ?_ ?_; focus (first | omega | (simp; done) | (simp; omega) | (simp at *; omega)))))⟩
  rw [show decide (x.length ≤ 32) = true by simpa using h1, show decide (y.length ≤ 32) = true by simpa using h2, show decide (z.length ≤ 62) = true by simpa using h3, Bool.true_and, Bool.true_and, Bool.true_and] at hq
  have e1 : decide ((32 : Int) < (x.length : Int)) = false := by simp; omega
  have e2 : decide ((32 : Int) < (y.length : Int)) = false := by simp; omega
  have e3 : decide ((62 : Int) < (z.length : Int)) = false := by simp; omega
  have HQ := Lib.hid hq
  clear hq
  go_enter Try.func26, Try.ntmps26
  go_wp2_with (fail)
  have hb0 : Below w.heap.size w (w.alloc (.cells #[.slice A1 x.length c1, .slice A3 z.length c3, .slice A2 y.length c2] 41)) := below_alloc _ (Nat.le_refl _) (Below.refl _ _)
  have x0 : (w.alloc (.cells #[.slice A1 x.length c1, .slice A3 z.length c3, .slice A2 y.length c2] 41)).cell? ⟨w.heap.size, 0, none⟩ = some (.slice A1 x.length c1) := cell_new (by simp) rfl
  have x1 : (w.alloc (.cells #[.slice A1 x.length c1, .slice A3 z.length c3, .slice A2 y.length c2] 41)).cell? ⟨w.heap.size, 1, none⟩ = some (.slice A3 z.length c3) := cell_new (by simp) rfl
  have x2 : (w.alloc (.cells #[.slice A1 x.length c1, .slice A3 z.length c3, .slice A2 y.length c2] 41)).cell? ⟨w.heap.size, 2, none⟩ = some (.slice A2 y.length c2) := cell_new (by simp) rfl
  have zx : w.heap.size < (w.alloc (.cells #[.slice A1 x.length c1, .slice A3 z.length c3, .slice A2 y.length c2] 41)).heap.size := World.block_lt_of_cell? _ _ x0
  generalize (w.alloc (.cells #[.slice A1 x.length c1, .slice A3 z.length c3, .slice A2 y.length c2] 41)) = w0 at *
  have hx0 := RowsAt.below hx hb0
  have hy0 := RowsAt.below hy hb0
  have hz0 := RowsAt.below hz hb0
  clear hx hy hz
  have HS1 := Lib.hid (fun W (h : MsgsAt W A1 x) => shortNames_any A1 x c1 W (by omega) h)
  have HS2 := Lib.hid (fun W (h : MsgsAt W A2 y) => shortNames_any A2 y c2 W (by omega) h)
  generalize shortM x = s1 at *
  generalize shortM y = s2 at *
  refine (HS1.out _ hx0).mono ?_
  rintro e w' ⟨rfl, rfl⟩
  cases s1
  · rw [Bool.false_and] at HQ
    go_wp2_with (fail)
    go_ret
    exact ⟨ret_bool HQ.out.symm, hb0⟩
  go_wp2_with (fail)
  refine (HS2.out _ hy0).mono ?_
  rintro e w' ⟨rfl, rfl⟩
  cases s2
  · rw [Bool.false_and, Bool.and_false] at HQ
    go_wp2_with (fail)
    go_ret
    exact ⟨ret_bool HQ.out.symm, hb0⟩
  rw [Bool.true_and, Bool.true_and] at HQ
  go_wp2_with (fail)
  go_loop [3] (fun i => ∃ k : Nat, k ≤ z.length ∧ i = .int .i64 k ∧ shortW z = shortW (z.drop k)) (fun i => z.length - (intOf i).toNat)
  case atStart => exact ⟨0, Nat.zero_le _, rfl, rfl⟩
  case round =>
    obtain ⟨k, hk, rfl, he⟩ := hrel
    have H := Lib.hid (HQ.out.trans he)
    have H' := Lib.hid he
    clear he
    by_cases hlt : k < z.length
    · have hd : z.drop k = z[k] :: z.drop (k + 1) := List.drop_eq_getElem_cons hlt
      rw [hd, shortW_cons] at H H'
      clear hd
      obtain ⟨b1, o1, rfl, hb1, c0, c1', c2', c3'⟩ := PktsAt.at_ hz0 hlt
      generalize z[k] = p at *
      by_cases hp : p.m.s.size ≤ 30
      · have hp2 : decide ((30 : Int) < (p.m.s.size : Int)) = false := by simp; omega
        rw [show decide (p.m.s.size ≤ 30) = true by simpa using hp, Bool.true_and] at H'
        clear hp
        go_wp2_with (fail)
        go_round
        case rel => exact ⟨k + 1, by omega, by go_num, H'.out⟩
        case measure => simp [intOf]; omega
      · have hp2 : decide ((30 : Int) < (p.m.s.size : Int)) = true := by simp; omega
        rw [show decide (p.m.s.size ≤ 30) = false by simpa using hp, Bool.false_and] at H
        clear hp
        go_wp2_with (fail)
        go_ret
        exact ⟨ret_bool H.out.symm, hb0⟩
    · have e : z.drop k = [] := List.drop_eq_nil_of_le (by omega)
      rw [e] at H
      clear e
      go_wp2_with (fail)
      go_ret
      exact ⟨ret_bool H.out.symm, hb0⟩
theorem wireE_nz : ∀ (l : List Pkt) {e : Int}, e ≠ 0 → wireE l e = e
  | [], e, _ => rfl
  | p :: r, e, h => by rw [wireE, firstE_nz h]; exact wireE_nz r h
theorem firstE1 {a : Int} : firstE [a] = a := by
  by_cases h : a = 0
  · rw [h]; rfl
  · exact firstE_nz h
theorem wireE_cons (p : Pkt) (r : List Pkt) : wireE (p :: r) 0 = if msgE p.m = 0 then wireE r 0 else msgE p.m := by
  rw [wireE, firstE_z, firstE1]
  by_cases h : msgE p.m = 0
  · rw [if_pos h, h]
  · rw [if_neg h, wireE_nz r h]
set_option maxRecDepth 100000 in
set_option maxHeartbeats 4000000 in
theorem LinkErr_any (A1 : Option Addr) (c1 : Nat) (A2 : Option Addr) (c2 : Nat) (A3 : Option Addr) (c3 : Nat) (L : Lnk) (w : World) (h1 : L.box.length ≤ 300) (h2 : L.store.length ≤ 300) (h3 : L.wire.length ≤ 300) (hR : LnkR A1 A2 A3 L w) :
    Calls Try.prog 30 #[LnkV A1 c1 A2 c2 A3 c3 L] w fun e w' => e = .returned (.int .i64 (lnkE L)) ∧ Below w.heap.size w w' := by
  obtain ⟨x, z, y⟩ := L
  obtain ⟨hx, hy, hz⟩ := hR
  have hq : lnkE ⟨x, z, y⟩ = wireE z (firstE [chkSE x, chkSE y, unl (decide (z.length ≤ 60)) 8]) := rfl
  simp only [LnkV] at hx hy hz hq h1 h2 h3 ⊢
  have HQ := Lib.hid hq
  have HS1 := Lib.hid (fun W (h : MsgsAt W A1 x) => StoreErr_any A1 x c1 W (by omega) h)
  have HS2 := Lib.hid (fun W (h : MsgsAt W A2 y) => StoreErr_any A2 y c2 W (by omega) h)
  clear hq
  go_enter Try.func30, Try.ntmps30
  go_wp2_with (fail)
  have hb0 : Below w.heap.size w (w.alloc (.cells #[.slice A1 x.length c1, .slice A3 z.length c3, .slice A2 y.length c2] 41)) := below_alloc _ (Nat.le_refl _) (Below.refl _ _)
  have x0 : (w.alloc (.cells #[.slice A1 x.length c1, .slice A3 z.length c3, .slice A2 y.length c2] 41)).cell? ⟨w.heap.size, 0, none⟩ = some (.slice A1 x.length c1) := cell_new (by simp) rfl
  have x1 : (w.alloc (.cells #[.slice A1 x.length c1, .slice A3 z.length c3, .slice A2 y.length c2] 41)).cell? ⟨w.heap.size, 1, none⟩ = some (.slice A3 z.length c3) := cell_new (by simp) rfl
  have x2 : (w.alloc (.cells #[.slice A1 x.length c1, .slice A3 z.length c3, .slice A2 y.length c2] 41)).cell? ⟨w.heap.size, 2, none⟩ = some (.slice A2 y.length c2) := cell_new (by simp) rfl
  have zx : w.heap.size < (w.alloc (.cells #[.slice A1 x.length c1, .slice A3 z.length c3, .slice A2 y.length c2] 41)).heap.size := World.block_lt_of_cell? _ _ x0
  generalize (w.alloc (.cells #[.slice A1 x.length c1, .slice A3 z.length c3, .slice A2 y.length c2] 41)) = w0 at *
  have hx0' := RowsAt.below hx hb0
  have hy0' := RowsAt.below hy hb0
  have hz0' := RowsAt.below hz hb0
  clear hx hy hz
  refine (HS1.out _ hx0').mono ?_
  rintro e w1 ⟨rfl, hb1⟩
  have g1 : Below w.heap.size w w1 := (hb0).trans ((hb1).mono (hb0).size)
  replace x0 := cell_below' hb1 x0
  replace x1 := cell_below' hb1 x1
  replace x2 := cell_below' hb1 x2
  replace zx := Nat.lt_of_lt_of_le zx (hb1).size
  replace hx0' := RowsAt.below hx0' hb1
  replace hy0' := RowsAt.below hy0' hb1
  replace hz0' := RowsAt.below hz0' hb1
  clear hb1 hb0
  by_cases hE1 : chkSE x = 0
  rotate_left 1
  · have hr := HQ.out.trans (show _ = chkSE x by rw [firstE_nz hE1, wireE_nz z hE1])
    have HR := Lib.hid hr
    have e1 : (chkSE x != 0) = true := by simpa using hE1
    clear hE1 hr HQ
    go_wp2_with (fail)
    go_ret
    exact ⟨ret_int HR.out.symm, g1⟩
  rw [hE1, firstE_z] at HQ
  rw [hE1]
  clear hE1
  go_wp2_with (fail)
  refine (HS2.out _ hy0').mono ?_
  rintro e w2 ⟨rfl, hb2⟩
  have g2 : Below w.heap.size w w2 := (g1).trans ((hb2).mono (g1).size)
  replace x0 := cell_below' hb2 x0
  replace x1 := cell_below' hb2 x1
  replace x2 := cell_below' hb2 x2
  replace zx := Nat.lt_of_lt_of_le zx (hb2).size
  replace hx0' := RowsAt.below hx0' hb2
  replace hy0' := RowsAt.below hy0' hb2
  replace hz0' := RowsAt.below hz0' hb2
  clear hb2 g1
  by_cases hE2 : chkSE y = 0
  rotate_left 1
  · have hr := HQ.out.trans (show _ = chkSE y by rw [firstE_nz hE2, wireE_nz z hE2])
    have HR := Lib.hid hr
    have e1 : (chkSE y != 0) = true := by simpa using hE2
    clear hE2 hr HQ
    go_wp2_with (fail)
    go_ret
    exact ⟨ret_int HR.out.symm, g2⟩
  rw [hE2, firstE_z] at HQ
  rw [hE2]
  clear hE2
  by_cases h60 : z.length ≤ 60
  rotate_left 1
  · have hr := HQ.out.trans (show _ = (8 : Int) by rw [show decide (z.length ≤ 60) = false by simpa using h60]; exact wireE_nz z (by decide))
    have HR := Lib.hid hr
    have e1 : decide ((60 : Int) < (z.length : Int)) = true := by simp; omega
    clear h60 hr HQ
    go_wp2_with (fail)
    go_ret
    exact ⟨ret_int HR.out.symm, g2⟩
  have hr := HQ.out.trans (show _ = wireE z 0 by rw [show decide (z.length ≤ 60) = true by simpa using h60]; rfl)
  have HR := Lib.hid hr
  have e1 : decide ((60 : Int) < (z.length : Int)) = false := by simp; omega
  clear hr HQ hx0' hy0' HS1 HS2
  go_wp2_with (fail)
  go_loopw [5] (fun i wr => ∃ k : Nat, k ≤ z.length ∧ i = .int .i64 k ∧ Below w2.heap.size w2 wr ∧ wireE z 0 = wireE (z.drop k) 0) (fun i _ => z.length - (intOf i).toNat)
  case atStart => exact ⟨0, Nat.zero_le _, rfl, Below.refl _ _, rfl⟩
  case round =>
    obtain ⟨k, hk, rfl, hbr, he⟩ := hrel
    have H := Lib.hid he
    clear he
    replace x0 := cell_below' hbr x0
    replace x1 := cell_below' hbr x1
    replace x2 := cell_below' hbr x2
    replace zx : w.heap.size < wr.heap.size := World.block_lt_of_cell? _ _ x0
    have gr := g2.trans (hbr.mono g2.size)
    by_cases hlt : k < z.length
    · have hd : z.drop k = z[k] :: z.drop (k + 1) := List.drop_eq_getElem_cons hlt
      rw [hd, wireE_cons] at H
      clear hd
      obtain ⟨b1, o1, rfl, hb1, c0, c1', c2', c3'⟩ := PktsAt.at_ (RowsAt.below hz0' hbr) hlt
      generalize z[k] = p at *
      by_cases hp : msgE p.m = 0
      · rw [if_pos hp] at H
        go_wp2_with (fail)
        refine (MessageErr_any p.m _).mono ?_
        rintro e w3 ⟨rfl, hb3⟩
        rw [hp]
        clear hp
        go_wp2_with (fail)
        go_roundw
        case rel => exact ⟨k + 1, by omega, by go_num, hbr.trans (hb3.mono hbr.size), H.out⟩
        case measure => simp [intOf]; omega
      · rw [if_neg hp] at H
        have e2 : (msgE p.m != 0) = true := by simpa using hp
        clear hp
        go_wp2_with (fail)
        refine (MessageErr_any p.m _).mono ?_
        rintro e w3 ⟨rfl, hb3⟩
        go_wp2_with (fail)
        go_ret
        exact ⟨ret_int (by rw [HR.out, H.out]), gr.trans (hb3.mono gr.size)⟩
    · have e : z.drop k = [] := List.drop_eq_nil_of_le (by omega)
      rw [e] at H
      clear e
      go_wp2_with (fail)
      go_ret
      exact ⟨ret_int (by rw [HR.out, H.out]; rfl), gr⟩
theorem mvC_one (x : Mv) (i : Nat) : (mvC x i).oneCell' = true := by unfold mvC; split <;> rfl
theorem infoMv : (Try.prog.info? 47).map (fun i => (i.zero, i.size, i.bytes)) = some (some (.agg #[.int .i64 0, .int .i64 0, .string ⟨#[]⟩, .int .i64 0, .int .i64 0]), 5, 48) := by kernel_rfl
theorem infoMv_ : ∃ i : TypeInfo, Try.prog.info? 47 = some i ∧ i.zero = some (.agg #[.int .i64 0, .int .i64 0, .string ⟨#[]⟩, .int .i64 0, .int .i64 0]) ∧ i.size = 5 ∧ i.bytes = 48 := by
  have h := infoMv
  cases hi : Try.prog.info? 47 with
  | none => rw [hi] at h; cases h
  | some i =>
    rw [hi] at h
    simp only [Option.map_some, Option.some.injEq, Prod.mk.injEq] at h
    exact ⟨i, rfl, h.1, h.2.1, h.2.2⟩
theorem mem_oneV {l : List Mv} : ∀ u ∈ cellsOf 5 mvC l, u.oneCell' = true := cellsOf_one mvC_one (by decide) l
def CopyVPost (l : List Mv) (w : World) (e : Ending) (w' : World) : Prop :=
  ∃ A' c', e = .returned (.slice A' l.length c') ∧ MvsAt w' A' l ∧ Below w.heap.size w w'
set_option maxHeartbeats 1000000 in
theorem CopyMoves_any (B : Option Addr) (l : List Mv) (cap : Nat) (w : World) (hl : l.length ≤ 300) (hB : MvsAt w B l) :
    Calls Try.prog 29 #[.slice B l.length cap] w (CopyVPost l w) := by
  obtain ⟨i0, hi0, hz0, hz1, hz2⟩ := infoMv_
  go_enter Try.func29, Try.ntmps29
  go_wp2_with (at_builtin; (refine wpList_append_rows _ rfl (.tmp 3) (.tmp 4) 42 rfl w.heap.size 47 i0 (.agg #[.int .i64 0, .int .i64 0, .string ⟨#[]⟩, .int .i64 0, .int .i64 0]) 5 48 Try.underlying42 hi0 hz0 hz1 hz2 rfl (by decide) (some ⟨w.heap.size, 0, none⟩) 0 0 [] rfl (own_empty (Nat.le_refl _) (heap_alloc_new _ _)) B l.length cap (cellsOf 5 mvC l) rfl (cellsOf_length l) (fun e => by subst e; exact RowsAt.nil_len hB) (fun ad e => by subst e; exact RowsAt.news (RowsAt.below hB (by repeat (first | assumption | exact Below.refl _ _ | refine Below.drew ?_ | (refine below_alloc _ ?_ ?_; focus (first | omega | (simp; done) | (simp; omega) | (simp at *; omega))) | (refine below_set _ ?_ ?_; focus (first | omega | (simp; done) | (simp; omega) | (simp at *; omega))) | refine below_drewN ?_ _ | (refine below_call (by assumption) ?_ ?_; focus (first | omega | (simp; done) | (simp; omega) | (simp at *; omega))) | (refine below_call' (by assumption) ?_ ?_; focus (first | omega | (simp; done) | (simp; omega) | (simp at *; omega)))))) (by decide)) mem_oneV (by unfold maxLen; omega) (by omega) (by simp) ?_; intro A' c' w1 hown hg _; rw [Nat.zero_add, List.nil_append] at hown; (try rw [Nat.zero_add]); have hb1 : Below w.heap.size w w1 := grown_below hg (by omega) (by omega) (by repeat (first | assumption | exact Below.refl _ _ | refine Below.drew ?_ | (refine below_alloc _ ?_ ?_; focus (first | omega | (simp; done) | (simp; omega) | (simp at *; omega))) | (refine below_set _ ?_ ?_; focus (first | omega | (simp; done) | (simp; omega) | (simp at *; omega))) | refine below_drewN ?_ _ | (refine below_call (by assumption) ?_ ?_; focus (first | omega | (simp; done) | (simp; omega) | (simp at *; omega))) | (refine below_call' (by assumption) ?_ ?_; focus (first | omega | (simp; done) | (simp; omega) | (simp at *; omega))))); clear hg))
  go_ret
  exact ⟨A', c', rfl, rowsAt_of_own hown rfl (by decide), hb1⟩
end Go.Proofs.Ytcfbnmcdncndpaa
