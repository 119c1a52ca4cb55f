/-
  WarnKept: the walk.
-/
import Derived.Test.YtcfbnmcdncndpaaWSml
import Derived.Test.YtcfbnmcdncndpaaLwAo
namespace Go.Proofs.Ytcfbnmcdncndpaa
open Go.ChangeShapes Go.WideShapes Go.ChangeAt Go.RowKit
set_option linter.unusedVariables false
set_option linter.unusedSimpArgs false

/-- a box of a link -/
structure LkB (b : Nat) (A1 : Option Addr) (n1 c1 : Nat) (A2 : Option Addr) (n2 c2 : Nat) (A3 : Option Addr) (n3 c3 : Nat) (w : World) : Prop where
  k0 : w.cell? ⟨b, 0, none⟩ = some (.slice A1 n1 c1)
  k1 : w.cell? ⟨b, 1, none⟩ = some (.slice A3 n3 c3)
  k2 : w.cell? ⟨b, 2, none⟩ = some (.slice A2 n2 c2)
theorem LkB.below {b : Nat} {A1 : Option Addr} {n1 c1 : Nat} {A2 : Option Addr} {n2 c2 : Nat} {A3 : Option Addr} {n3 c3 : Nat} {w w' : World} (h : LkB b A1 n1 c1 A2 n2 c2 A3 n3 c3 w) (hb : Below w.heap.size w w') : LkB b A1 n1 c1 A2 n2 c2 A3 n3 c3 w' :=
  ⟨cell_below' hb h.k0, cell_below' hb h.k1, cell_below' hb h.k2⟩
theorem LkB.lt {b : Nat} {A1 : Option Addr} {n1 c1 : Nat} {A2 : Option Addr} {n2 c2 : Nat} {A3 : Option Addr} {n3 c3 : Nat} {w : World} (h : LkB b A1 n1 c1 A2 n2 c2 A3 n3 c3 w) : b < w.heap.size := World.block_lt_of_cell? _ _ h.k0
theorem KInv.sml {l : List Mv} {L : Lnk} (h : KInv l L) : smallL L = true := by
  have h1 := h.ok.l1
  have h2 := h.ok.l2
  have h3 := h.ok.l3
  unfold smallL shortM shortW
  rw [Bool.and_eq_true, Bool.and_eq_true, Bool.and_eq_true, Bool.and_eq_true, Bool.and_eq_true, decide_eq_true_eq, decide_eq_true_eq, decide_eq_true_eq, List.all_eq_true, List.all_eq_true, List.all_eq_true]
  exact ⟨by omega, by omega, by omega, fun m hm => by simpa using (h.b m hm).2, fun m hm => by simpa using (h.s m hm).2, fun p hp => by simpa using (h.w p hp).2⟩
theorem KInv.err {l : List Mv} {L : Lnk} (h : KInv l L) : lnkE L = 0 := by
  unfold lnkE lnkE0
  rw [chkSE_zero (fun m hm => (h.b m hm).1) h.ok.s1 h.ok.l1, chkSE_zero (fun m hm => (h.s m hm).1) h.ok.s2 h.ok.l2, show decide (L.wire.length ≤ 60) = true by simpa using h.ok.l3]
  exact wireE_of L.wire fun p hp => (h.w p hp).1
theorem take_all {l : List Mv} {k : Nat} (hk : k < l.length) (h : ∀ m ∈ l.take k, m.m.s.size ≤ 30) (hx : l[k].m.s.size ≤ 30) : ∀ m ∈ l.take (k + 1), m.m.s.size ≤ 30 := fun m hm => by
  rw [List.take_succ_eq_append_getElem hk] at hm
  rcases List.mem_append.1 hm with hm | hm
  · exact h m hm
  · rw [List.mem_singleton] at hm; rw [hm]; exact hx
theorem rows_far3 {α : Type} {m : Nat} {f : α → Nat → Value} {w : World} {A : Option Addr} {l : List α} {b : Nat} {cs : Array Value} {T : TypeId} {fr : Nat × Nat} {v0 v1 v2 : Value} (hm : 0 < m) (h : RowsAt m f w A l) (hb : w.heap[b]? = some (.cells cs T fr)) (hne : ∀ (j : Nat) (v : Value) (x : α), cs[j]? = some v → v ≠ f x 0) :
    RowsAt m f (((w.setCell ⟨b, 0, none⟩ v0).setCell ⟨b, 1, none⟩ v1).setCell ⟨b, 2, none⟩ v2) A l := fun k x hk => by
  obtain ⟨b', off, e, hlt, hc⟩ := h k x hk
  have hbb : b ≠ b' := by
    rintro rfl
    have h0 := hc 0 hm
    rw [cell_of_row _ _ _ cs T fr hb] at h0
    exact hne _ _ x h0 rfl
  exact ⟨b', off, e, by simpa using hlt, fun j hj => far3 hbb (hc j hj)⟩
theorem lnk_far3 {A1 A2 A3 : Option Addr} {L : Lnk} {w : World} {b : Nat} {a1 a2 a3 : Option Addr} {n1 n2 n3 c1 c2 c3 : Nat} {T : TypeId} {fr : Nat × Nat} {v0 v1 v2 : Value} (h : LnkR A1 A2 A3 L w) (hb : w.heap[b]? = some (.cells #[.slice a1 n1 c1, .slice a2 n2 c2, .slice a3 n3 c3] T fr)) :
    LnkR A1 A2 A3 L (((w.setCell ⟨b, 0, none⟩ v0).setCell ⟨b, 1, none⟩ v1).setCell ⟨b, 2, none⟩ v2) := by
  have hs : ∀ (j : Nat) (v : Value) (s : ByteArray), (#[Value.slice a1 n1 c1, .slice a2 n2 c2, .slice a3 n3 c3] : Array Value)[j]? = some v → v ≠ .string s := fun j v s hv e => by
    subst e
    match j, hv with
    | 0, hv => simp at hv
    | 1, hv => simp at hv
    | 2, hv => simp at hv
    | j + 3, hv => simp at hv
  exact ⟨rows_far3 (by decide) h.r1 hb (fun j v x hv => hs j v x.s hv), rows_far3 (by decide) h.r2 hb (fun j v x hv => hs j v x.s hv), rows_far3 (by decide) h.r3 hb (fun j v x hv => hs j v x.m.s hv)⟩
def ShI (l : List Mv) (i : Value) : Prop := ∃ k : Nat, k ≤ l.length ∧ i = .int .i64 k ∧ ∀ m ∈ l.take k, m.m.s.size ≤ 30
set_option maxRecDepth 100000 in
set_option maxHeartbeats 8000000 in
theorem WarnKept_any (A : Option Addr) (l : List Mv) (ca : Nat) (w : World) (hca : l.length ≤ ca) (hA : MvsAt w A l) :
    Calls Try.prog 5 #[.slice A l.length ca] w fun e w' => e = .returned (.bool true) ∧ Below w.heap.size w w' := by
  go_enter Try.func5, Try.ntmps5
  go_wp2_with (fail)
  refine (awake_any _).mono ?_
  rintro e w1 ⟨rfl, hb1⟩
  have hA0 := RowsAt.below hA hb1
  have HAw := Lib.hid hA
  clear hA
  by_cases hn60 : l.length ≤ 60
  rotate_left 1
  · have e2 : decide ((60 : Int) < (l.length : Int)) = true := by simp; omega
    clear hn60
    go_wp2_with (fail)
    go_ret
    exact ⟨rfl, hb1⟩
  have e2 : decide ((60 : Int) < (l.length : Int)) = false := by simp; omega
  go_wp2_with (fail)
  go_loop [3] (fun i => ShI l i) (fun i => l.length - (intOf i).toNat)
  case atStart => exact ⟨0, Nat.zero_le _, rfl, fun m hm => by rw [List.take_zero] at hm; cases hm⟩
  case round =>
    obtain ⟨k, hk, rfl, hsh⟩ := hrel
    have HSH := Lib.hid hsh
    clear hsh
    by_cases hlt : k < l.length
    · obtain ⟨b1, o1, rfl, hb1', c0, c1, c2, c3, c4⟩ := MvsAt.at_ hA0 hlt
      by_cases hx : l[k].m.s.size ≤ 30
      · have hx2 : decide ((30 : Int) < (l[k].m.s.size : Int)) = false := by simp; omega
        have HNX := Lib.hid (take_all hlt HSH.out hx)
        clear hx
        generalize l[k] = x at *
        go_wp2_with (fail)
        go_round
        case rel => exact ⟨k + 1, by omega, by go_num, HNX.out⟩
        case measure => simp [intOf]; omega
      · have hx2 : decide ((30 : Int) < (l[k].m.s.size : Int)) = true := by simp; omega
        clear hx
        generalize l[k] = x at *
        go_wp2_with (fail)
        go_ret
        exact ⟨rfl, hb1⟩
    · obtain rfl : k = l.length := by omega
      have hsh := HSH.out
      rw [List.take_length] at hsh
      have HSM := Lib.hid hsh
      have hrun := runL_kept l hn60 hsh
      have HRUN := Lib.hid hrun
      have hr0 : ∀ (A' : Option Addr) (r : List Mv) (c' : Nat) (W : World) (hr : ∀ m ∈ r, m ∈ l) (hl : r.length ≤ 60) (h : MvsAt W A' r), Calls Try.prog 27 #[.agg #[.slice none 0 0, .slice none 0 0, .slice none 0 0], .slice A' r.length c'] W (LnkE3 (runL Lz r) W) := fun A' r c' W hr hl h => RunOf_any none 0 none 0 none 0 Lz A' r c' W ⟨by simp [Lz], by simp [Lz], by simp [Lz], fun m hm => (by cases hm), fun m hm => (by cases hm), fun m hm => (by cases hm)⟩ lnkR_z (by omega) (fun x hx => by have := HSM.out x (hr x hx); omega) h
      have HR0 := Lib.hid hr0
      clear hr0
      clear hrun hsh HSH hlt hk
      go_wp2_with (fail)
      refine (CopyMoves_any A l ca _ (by omega) hA0).mono ?_
      rintro e w2 ⟨A2, c2, rfl, r2, hb2⟩
      have h2 := hb1.trans (hb2.mono hb1.size)
      replace hA0 := RowsAt.below hA0 hb2
      go_wp2_with (fail)
      with_reducible refine (HR0.out A2 l c2 _ (fun m hm => hm) hn60 r2).mono ?_
      rintro e w3 ⟨B1, d1, B2, d2, B3, d3, rfl, hlr, hb3⟩
      have h3 := h2.trans (hb3.mono h2.size)
      replace hA0 := RowsAt.below hA0 hb3
      clear r2 hb2 hb3
      generalize hQ : runL Lz l = Q at *
      obtain ⟨Q1, Q2, Q3⟩ := Q
      simp only at hlr
      obtain ⟨bb, hbb⟩ : ∃ bb, (Q3 != 0) = bb := ⟨_, rfl⟩
      clear hQ
      go_upto_region 11 with (fail)
      have hb4 : Below w3.heap.size w3 (w3.alloc (.cells #[.slice B1 Q1.box.length d1, .slice B3 Q1.wire.length d3, .slice B2 Q1.store.length d2] 41)) := below_alloc _ (Nat.le_refl _) (Below.refl _ _)
      have x0 : (w3.alloc (.cells #[.slice B1 Q1.box.length d1, .slice B3 Q1.wire.length d3, .slice B2 Q1.store.length d2] 41)).cell? ⟨w3.heap.size, 0, none⟩ = some (.slice B1 Q1.box.length d1) := cell_new (by simp) rfl
      have xf0 : (w3.alloc (.cells #[.slice B1 Q1.box.length d1, .slice B3 Q1.wire.length d3, .slice B2 Q1.store.length d2] 41)).frozen? ⟨w3.heap.size, 0, none⟩ = false := frozen_new (by simp)
      have x1 : (w3.alloc (.cells #[.slice B1 Q1.box.length d1, .slice B3 Q1.wire.length d3, .slice B2 Q1.store.length d2] 41)).cell? ⟨w3.heap.size, 1, none⟩ = some (.slice B3 Q1.wire.length d3) := cell_new (by simp) rfl
      have xf1 : (w3.alloc (.cells #[.slice B1 Q1.box.length d1, .slice B3 Q1.wire.length d3, .slice B2 Q1.store.length d2] 41)).frozen? ⟨w3.heap.size, 1, none⟩ = false := frozen_new (by simp)
      have x2 : (w3.alloc (.cells #[.slice B1 Q1.box.length d1, .slice B3 Q1.wire.length d3, .slice B2 Q1.store.length d2] 41)).cell? ⟨w3.heap.size, 2, none⟩ = some (.slice B2 Q1.store.length d2) := cell_new (by simp) rfl
      have xf2 : (w3.alloc (.cells #[.slice B1 Q1.box.length d1, .slice B3 Q1.wire.length d3, .slice B2 Q1.store.length d2] 41)).frozen? ⟨w3.heap.size, 2, none⟩ = false := frozen_new (by simp)
      have xk : (w3.alloc (.cells #[.slice B1 Q1.box.length d1, .slice B3 Q1.wire.length d3, .slice B2 Q1.store.length d2] 41)).heap[w3.heap.size]? = some (.cells #[.slice B1 Q1.box.length d1, .slice B3 Q1.wire.length d3, .slice B2 Q1.store.length d2] 41) := blk_new (by simp)
      have zx : w3.heap.size < (w3.alloc (.cells #[.slice B1 Q1.box.length d1, .slice B3 Q1.wire.length d3, .slice B2 Q1.store.length d2] 41)).heap.size := World.block_lt_of_cell? _ _ x0
      generalize (w3.alloc (.cells #[.slice B1 Q1.box.length d1, .slice B3 Q1.wire.length d3, .slice B2 Q1.store.length d2] 41)) = w4 at *
      have h4 := h3.trans (hb4.mono h3.size)
      replace hA0 := RowsAt.below hA0 hb4
      replace hlr := hlr.below hb4
      have hz3 := h3.size
      have HXK := Lib.hid xk
      clear hb4 xk
      go_upto_if 42 with (fail)
      go_cut [5, 7, 8, 9] from 43 to 63 (fun n a b c wx => ∃ (k : Nat) (Lf : Lnk) (C1 : Option Addr) (e1 : Nat) (C2 : Option Addr) (e2 : Nat) (C3 : Option Addr) (e3 : Nat), n = .int .i64 k ∧ k ≤ l.length ∧ KInv (l.take k) Lf ∧ Below w.heap.size w wx ∧ LkB w3.heap.size C1 Lf.box.length e1 C2 Lf.store.length e2 C3 Lf.wire.length e3 wx ∧ LnkR C1 C2 C3 Lf wx)
      case first =>
        rcases HRUN.out with ⟨Lf, eq1, hk⟩ | ⟨n, E, Lf, hn, hE, eq1, eq2, hk⟩
        · injection eq1 with q1 q2
          injection q2 with q2 q3
          subst q1 q2 q3
          subst hbb
          have HK := Lib.hid hk
          clear hk
          go_wp2_with (fail)
          go_meet
          case rel => exact ⟨l.length, Q1, B1, d1, B2, d2, B3, d3, rfl, Nat.le_refl _, by rw [List.take_length]; exact HK.out, h4, ⟨x0, x1, x2⟩, hlr⟩
        · injection eq1 with q1 q2
          injection q2 with q2 q3
          subst q1 q2 q3
          have hbt : bb = true := by rw [← hbb]; simpa using hE
          subst hbt
          obtain ⟨b1, o1, rfl, hb1', -⟩ := MvsAt.at_ hA0 hn
          have hln : (l.take n).length = n := by rw [List.length_take]; omega
          have hcm := fun W (h : MvsAt W (some ⟨b1, o1, none⟩) (l.take n)) => CopyMoves_any (some ⟨b1, o1, none⟩) (l.take n) ca W (by omega) h
          rw [hln] at hcm
          have HCM := Lib.hid hcm
          have hro := fun (A' : Option Addr) (c' : Nat) (W : World) (h : MvsAt W A' (l.take n)) => HR0.out A' (l.take n) c' W (fun m hm => List.mem_of_mem_take hm) (by omega) h
          rw [eq2] at hro
          have HRO := Lib.hid hro
          have HK := Lib.hid hk
          have hwi : withinB (n : Int) 0 ((l.length : Int) - 1) = true := withinB_true.2 ⟨by omega, by omega⟩
          have HWI := Lib.hid hwi
          have hnc : (n : Int) ≤ (ca : Int) := by omega
          have hn0 : (0 : Int) ≤ (n : Int) := by omega
          have HTK := Lib.hid (fun W (h : MvsAt W (some ⟨b1, o1, none⟩) l) => RowsAt.take h n)
          clear hcm hro hk hln eq2 hwi hlr
          generalize hrr : l.take n = r at *
          have HRR := Lib.hid hrr
          clear hrr
          go_wp2_with (go_at_call 22; refine (Within_any _ _ _ _).mono ?_; rintro e w' ⟨rfl, rfl⟩; rw [HWI.out])
          with_reducible refine (HCM.out _ (HTK.out _ hA0)).mono ?_
          rintro e w5 ⟨A5, c5, rfl, r5, hb5⟩
          have h5 := h4.trans (hb5.mono h4.size)
          go_wp2_with (fail)
          with_reducible refine (HRO.out A5 c5 _ r5).mono ?_
          rintro e w6 ⟨C1, e1, C2, e2', C3, e3, rfl, hlr6, hb6⟩
          simp only at hlr6
          have h6 := h5.trans (hb6.mono h5.size)
          have hy6 := hb5.trans (hb6.mono hb5.size)
          replace xf0 := frozen_below hy6 zx xf0
          replace xf1 := frozen_below hy6 zx xf1
          replace xf2 := frozen_below hy6 zx xf2
          replace x0 := cell_below' hy6 x0
          replace x1 := cell_below' hy6 x1
          replace x2 := cell_below' hy6 x2
          replace zx : w3.heap.size < w6.heap.size := World.block_lt_of_cell? _ _ x0
          have HXK6 := Lib.hid (blk_below' hy6 HXK.out)
          clear hb5 hb6 r5 hy6 hbb
          go_upto_region 17 with (fail)
          have hb7 : Below w6.heap.size w6 (w6.alloc (.cells #[.slice C1 Lf.box.length e1, .slice C3 Lf.wire.length e3, .slice C2 Lf.store.length e2'] 41)) := below_alloc _ (Nat.le_refl _) (Below.refl _ _)
          have y0 : (w6.alloc (.cells #[.slice C1 Lf.box.length e1, .slice C3 Lf.wire.length e3, .slice C2 Lf.store.length e2'] 41)).cell? ⟨w6.heap.size, 0, none⟩ = some (.slice C1 Lf.box.length e1) := cell_new (by simp) rfl
          have y1 : (w6.alloc (.cells #[.slice C1 Lf.box.length e1, .slice C3 Lf.wire.length e3, .slice C2 Lf.store.length e2'] 41)).cell? ⟨w6.heap.size, 1, none⟩ = some (.slice C3 Lf.wire.length e3) := cell_new (by simp) rfl
          have y2 : (w6.alloc (.cells #[.slice C1 Lf.box.length e1, .slice C3 Lf.wire.length e3, .slice C2 Lf.store.length e2'] 41)).cell? ⟨w6.heap.size, 2, none⟩ = some (.slice C2 Lf.store.length e2') := cell_new (by simp) rfl
          have zy : w6.heap.size < (w6.alloc (.cells #[.slice C1 Lf.box.length e1, .slice C3 Lf.wire.length e3, .slice C2 Lf.store.length e2'] 41)).heap.size := World.block_lt_of_cell? _ _ y0
          generalize (w6.alloc (.cells #[.slice C1 Lf.box.length e1, .slice C3 Lf.wire.length e3, .slice C2 Lf.store.length e2'] 41)) = w7 at *
          replace xf0 := frozen_below hb7 zx xf0
          replace xf1 := frozen_below hb7 zx xf1
          replace xf2 := frozen_below hb7 zx xf2
          replace x0 := cell_below' hb7 x0
          replace x1 := cell_below' hb7 x1
          replace x2 := cell_below' hb7 x2
          have h7 := h6.trans (hb7.mono h6.size)
          have hl7 := hlr6.below hb7
          have hk7 := blk_below' hb7 HXK6.out
          replace zx : w3.heap.size < w7.heap.size := World.block_lt_of_cell? _ _ x0
          clear hb7 hlr6
          go_wp2_with (fail)
          go_meet
          case rel =>
            obtain ⟨s0, s1, s2⟩ := set3 (v0 := .slice C1 Lf.box.length e1) (v1 := .slice C3 Lf.wire.length e3) (v2 := .slice C2 Lf.store.length e2') x0 x1 x2
            exact ⟨n, Lf, C1, e1, C2, e2', C3, e3, rfl, by omega, by rw [HRR.out]; exact HK.out, below_set _ hz3 (below_set _ hz3 (below_set _ hz3 h7)), ⟨s0, s1, s2⟩, lnk_far3 hl7 hk7⟩
      case rest =>
      obtain ⟨k, Lf, C1, e1, C2, e2', C3, e3, rfl, hk, hkv, hbc, hlk, hlr⟩ := hcut
      have hsm := hkv.sml
      have her := hkv.err
      have hb30 := hkv.ok.l1
      have hs30 := hkv.ok.l2
      have hw60 := hkv.ok.l3
      have HK := Lib.hid hkv
      have HSMA := Lib.hid (fun W (h : LnkR C1 C2 C3 Lf W) => small_any C1 e1 C2 e2' C3 e3 Lf W h)
      have HLE := Lib.hid (fun W (h : LnkR C1 C2 C3 Lf W) => LinkErr_any C1 e1 C2 e2' C3 e3 Lf W (by omega) (by omega) (by omega) h)
      rw [hsm] at HSMA
      rw [her] at HLE
      clear hsm her hkv x0 x1 x2 xf0 xf1 xf2 zx HXK HR0 HRUN hbb
      obtain ⟨k0, k1, k2⟩ := id hlk
      have zk := hlk.lt
      go_wp2_with (fail)
      refine (HSMA.out _ hlr).mono ?_
      rintro e w8 ⟨rfl, hb8⟩
      have h8 := hbc.trans (hb8.mono hbc.size)
      replace hlk := hlk.below hb8
      replace hlr := hlr.below hb8
      clear k0 k1 k2 zk
      obtain ⟨k0, k1, k2⟩ := id hlk
      have zk := hlk.lt
      go_wp2_with (fail)
      refine (HLE.out _ hlr).mono ?_
      rintro e w9 ⟨rfl, hb9⟩
      have h9 := h8.trans (hb9.mono h8.size)
      replace hlk := hlk.below hb9
      replace hlr := hlr.below hb9
      clear k0 k1 k2 zk hb8 hb9 HSMA HLE hbc h8
      have hkl : (k : Int) ≤ (l.length : Int) := by omega
      go_wp2_with (fail)
      go_loopw [10] (fun i wr => AoD w9 k i wr) (fun i _ => k - (intOf i).toNat)
      case atStart => exact ⟨0, Nat.zero_le _, rfl, Below.refl _ _⟩
      case round =>
        obtain ⟨i, hi, rfl, hbd⟩ := hrel
        have hbd2 := h9.trans (hbd.mono h9.size)
        have hlk2 := hlk.below hbd
        have hlr2 := hlr.below hbd
        by_cases hlt : i < k
        · have hil : i < l.length := by omega
          have hcov := HK.out.c (l[i]) (by rw [List.mem_take_iff_getElem]; exact ⟨i, by omega, rfl⟩)
          have HCOV := Lib.hid hcov
          obtain ⟨b1, o1, rfl, hb1', c0, c1, c2, c3, c4⟩ := MvsAt.at_ (RowsAt.below HAw.out hbd2) hil
          have hi1 : (i : Int) < (l.length : Int) := by omega
          clear hcov
          generalize l[i] = mv at *
          obtain ⟨mk, mi, m⟩ := mv
          simp only at c0 c1 c2 c3 c4
          by_cases hk0 : mk = 0
          rotate_left 1
          · have e3 : (mk != 0) = true := by simpa using hk0
            clear hk0 HCOV
            go_wp2_with (fail)
            go_roundw
            case rel => exact ⟨i + 1, by omega, by go_num, hbd⟩
            case measure => simp [intOf]; omega
          have e3 : (mk != 0) = false := by simpa using hk0
          have hcv := HCOV.out hk0
          simp only at hcv
          have HCV := Lib.hid hcv
          clear hk0 hcv HCOV
          go_upto_region 26 with (fail)
          have hb10 : Below wr.heap.size wr (wr.alloc (.cells #[.string m.s, .int .i64 m.v, .int .i64 m.l] 45)) := below_alloc _ (Nat.le_refl _) (Below.refl _ _)
          have y0 : (wr.alloc (.cells #[.string m.s, .int .i64 m.v, .int .i64 m.l] 45)).cell? ⟨wr.heap.size, 0, none⟩ = some (.string m.s) := cell_new (by simp) rfl
          have y1 : (wr.alloc (.cells #[.string m.s, .int .i64 m.v, .int .i64 m.l] 45)).cell? ⟨wr.heap.size, 1, none⟩ = some (.int .i64 m.v) := cell_new (by simp) rfl
          have y2 : (wr.alloc (.cells #[.string m.s, .int .i64 m.v, .int .i64 m.l] 45)).cell? ⟨wr.heap.size, 2, none⟩ = some (.int .i64 m.l) := cell_new (by simp) rfl
          have zy : wr.heap.size < (wr.alloc (.cells #[.string m.s, .int .i64 m.v, .int .i64 m.l] 45)).heap.size := World.block_lt_of_cell? _ _ y0
          generalize (wr.alloc (.cells #[.string m.s, .int .i64 m.v, .int .i64 m.l] 45)) = w10 at *
          have hbd3 := hbd.trans (hb10.mono hbd.size)
          replace hlk2 := hlk2.below hb10
          replace hlr2 := hlr2.below hb10
          obtain ⟨k0, k1, k2⟩ := id hlk2
          have zk := hlk2.lt
          obtain ⟨q1, q2, -⟩ := hlr2
          have hf1 := fun W (h : MsgsAt W C1 Lf.box) => Find_any C1 Lf.box e1 m.s W (by omega) h
          have hf2 := fun W (h : MsgsAt W C2 Lf.store) => Find_any C2 Lf.store e2' m.s W (by omega) h
          have hsto : ¬ Cov Lf.box m → ∃ (q : Nat) (z : Msg), Lf.store[q]? = some z ∧ findM m.s Lf.store 0 = (q : Int) ∧ m.v ≤ z.v := fun hn => by
            rcases HCV.out with hc | ⟨z, hz, e, v⟩
            · exact absurd hc hn
            · obtain ⟨q, hq⟩ := List.getElem?_of_mem hz
              exact ⟨q, z, hq, find_at HK.out.ok.s2 hq e, v⟩
          have HSTO := Lib.hid hsto
          clear hsto
          by_cases hbx : ∃ y ∈ Lf.box, y.s = m.s
          · obtain ⟨y, hy, hys⟩ := hbx
            obtain ⟨q, hq⟩ := List.getElem?_of_mem hy
            have hfd := find_at HK.out.ok.s1 hq hys
            obtain ⟨hqS, hqe⟩ := List.getElem?_eq_some_iff.1 hq
            obtain ⟨b2, o2, rfl, hb2', d0, d1, d2⟩ := MsgsAt.at_ q1 hqS
            rw [hqe] at d0 d1 d2
            rw [hfd] at hf1
            have HF1 := Lib.hid hf1
            have hqn : (q : Int) < (Lf.box.length : Int) := by omega
            have e4 : decide ((q : Int) < 0) = false := by simp
            clear hf1 hqe hfd
            by_cases hv : m.v ≤ y.v
            · have e5 : decide (y.v < m.v) = false := by simp; omega
              have HF2 := Lib.hid hf2
              clear hf2 hq hy hys hv
              generalize findM m.s Lf.store 0 = z2 at *
              have hx1 := d1
              (refine region_extx 10 (by kernel_rfl) (by kernel_rfl) fun hx => ?_; simp only [List.take_succ_cons, List.take_zero, List.drop_succ_cons, List.drop_zero]; (repeat (any_goals (first | go_big_quiet_step ((first | ((go_at_call 33; with_reducible exact ext_same (HF1.out _ (RowsAt.below q1 (ext_bel _ _))))) | ((go_at_call 33; with_reducible exact ext_same (HF2.out _ (RowsAt.below q2 (ext_bel _ _))))))) | quiet_step ((first | ((go_at_call 33; with_reducible exact ext_same (HF1.out _ (RowsAt.below q1 (ext_bel _ _))))) | ((go_at_call 33; with_reducible exact ext_same (HF2.out _ (RowsAt.below q2 (ext_bel _ _)))))))))))
              (refine wpQuiet_nil ?_; clear hx; intro u; have hbw12 := ext_bel _ u; have hxw12 := ext_cell _ u; generalize ext _ u = w12 at *; clear u; have hsw12 := hbw12.size; (try simp at hsw12))
              go_wp2_with (fail)
              (replace k0 := cell_below' hbw12 k0; replace k2 := cell_below' hbw12 k2; replace y1 := cell_below' hbw12 y1; (try replace d1 := cell_below' hbw12 d1); (try replace f1 := cell_below' hbw12 f1); replace zk := Nat.lt_of_lt_of_le zk hbw12.size; replace zy := Nat.lt_of_lt_of_le zy hbw12.size)
              (refine region_extx 27 (by kernel_rfl) (by kernel_rfl) fun hx => ?_; simp only [List.take_succ_cons, List.take_zero, List.drop_succ_cons, List.drop_zero]; (repeat (any_goals (first | go_big_quiet_step (fail) | quiet_step (fail)))))
              (refine wpQuiet_nil ?_; clear hx; intro u; have hbw13 := ext_bel _ u; have hxw13 := ext_cell _ u; generalize ext _ u = w13 at *; clear u; have hsw13 := hbw13.size; (try simp at hsw13))
              go_wp2_with (fail)
              go_roundw
              case rel => exact ⟨i + 1, by omega, by go_num, hbd3.trans ((hbw12.trans (hbw13.mono hbw12.size)).mono hbd3.size)⟩
              case measure => simp [intOf]; omega
            · have e5 : decide (y.v < m.v) = true := by simp; omega
              obtain ⟨q2', z, hz, hf, hvz⟩ := HSTO.out (fun hc => by
                obtain ⟨y2, hy2, e, v⟩ := hc
                have := srt_name HK.out.ok.s1 hy2 hy (e.trans hys.symm)
                rw [this] at v
                exact hv v)
              rw [hf] at hf2
              have HF2 := Lib.hid hf2
              obtain ⟨hqS2, hqe2⟩ := List.getElem?_eq_some_iff.1 hz
              obtain ⟨b3, o3, rfl, hb3', f0, f1, f2⟩ := MsgsAt.at_ q2 hqS2
              rw [hqe2] at f0 f1 f2
              have hqn2 : (q2' : Int) < (Lf.store.length : Int) := by omega
              have e6 : decide ((q2' : Int) < 0) = false := by simp
              have e7 : decide (z.v < m.v) = false := by simp; omega
              clear hf2 hq hy hys hv hz hf hvz hqe2
              (refine region_extx 10 (by kernel_rfl) (by kernel_rfl) fun hx => ?_; simp only [List.take_succ_cons, List.take_zero, List.drop_succ_cons, List.drop_zero]; (repeat (any_goals (first | go_big_quiet_step ((first | ((go_at_call 33; with_reducible exact ext_same (HF1.out _ (RowsAt.below q1 (ext_bel _ _))))) | ((go_at_call 33; with_reducible exact ext_same (HF2.out _ (RowsAt.below q2 (ext_bel _ _))))))) | quiet_step ((first | ((go_at_call 33; with_reducible exact ext_same (HF1.out _ (RowsAt.below q1 (ext_bel _ _))))) | ((go_at_call 33; with_reducible exact ext_same (HF2.out _ (RowsAt.below q2 (ext_bel _ _)))))))))))
              (refine wpQuiet_nil ?_; clear hx; intro u; have hbw12 := ext_bel _ u; have hxw12 := ext_cell _ u; generalize ext _ u = w12 at *; clear u; have hsw12 := hbw12.size; (try simp at hsw12))
              go_wp2_with (fail)
              (replace k0 := cell_below' hbw12 k0; replace k2 := cell_below' hbw12 k2; replace y1 := cell_below' hbw12 y1; (try replace d1 := cell_below' hbw12 d1); (try replace f1 := cell_below' hbw12 f1); replace zk := Nat.lt_of_lt_of_le zk hbw12.size; replace zy := Nat.lt_of_lt_of_le zy hbw12.size)
              (refine region_extx 27 (by kernel_rfl) (by kernel_rfl) fun hx => ?_; simp only [List.take_succ_cons, List.take_zero, List.drop_succ_cons, List.drop_zero]; (repeat (any_goals (first | go_big_quiet_step (fail) | quiet_step (fail)))))
              (refine wpQuiet_nil ?_; clear hx; intro u; have hbw13 := ext_bel _ u; have hxw13 := ext_cell _ u; generalize ext _ u = w13 at *; clear u; have hsw13 := hbw13.size; (try simp at hsw13))
              go_wp2_with (fail)
              go_roundw
              case rel => exact ⟨i + 1, by omega, by go_num, hbd3.trans ((hbw12.trans (hbw13.mono hbw12.size)).mono hbd3.size)⟩
              case measure => simp [intOf]; omega
          · have hfd : findM m.s Lf.box 0 = -1 := findM_none 0 (fun x hx e => hbx ⟨x, hx, e⟩)
            rw [hfd] at hf1
            have HF1 := Lib.hid hf1
            obtain ⟨q2', z, hz, hf, hvz⟩ := HSTO.out (fun hc => by
              obtain ⟨y2, hy2, e, v⟩ := hc
              exact hbx ⟨y2, hy2, e⟩)
            rw [hf] at hf2
            have HF2 := Lib.hid hf2
            obtain ⟨hqS2, hqe2⟩ := List.getElem?_eq_some_iff.1 hz
            obtain ⟨b3, o3, rfl, hb3', f0, f1, f2⟩ := MsgsAt.at_ q2 hqS2
            rw [hqe2] at f0 f1 f2
            have hqn2 : (q2' : Int) < (Lf.store.length : Int) := by omega
            have e6 : decide ((q2' : Int) < 0) = false := by simp
            have e7 : decide (z.v < m.v) = false := by simp; omega
            clear hf1 hf2 hbx hz hf hvz hqe2 hfd
            (refine region_extx 10 (by kernel_rfl) (by kernel_rfl) fun hx => ?_; simp only [List.take_succ_cons, List.take_zero, List.drop_succ_cons, List.drop_zero]; (repeat (any_goals (first | go_big_quiet_step ((first | ((go_at_call 33; with_reducible exact ext_same (HF1.out _ (RowsAt.below q1 (ext_bel _ _))))) | ((go_at_call 33; with_reducible exact ext_same (HF2.out _ (RowsAt.below q2 (ext_bel _ _))))))) | quiet_step ((first | ((go_at_call 33; with_reducible exact ext_same (HF1.out _ (RowsAt.below q1 (ext_bel _ _))))) | ((go_at_call 33; with_reducible exact ext_same (HF2.out _ (RowsAt.below q2 (ext_bel _ _)))))))))))
            (refine wpQuiet_nil ?_; clear hx; intro u; have hbw12 := ext_bel _ u; have hxw12 := ext_cell _ u; generalize ext _ u = w12 at *; clear u; have hsw12 := hbw12.size; (try simp at hsw12))
            go_wp2_with (fail)
            (replace k0 := cell_below' hbw12 k0; replace k2 := cell_below' hbw12 k2; replace y1 := cell_below' hbw12 y1; (try replace d1 := cell_below' hbw12 d1); (try replace f1 := cell_below' hbw12 f1); replace zk := Nat.lt_of_lt_of_le zk hbw12.size; replace zy := Nat.lt_of_lt_of_le zy hbw12.size)
            (refine region_extx 27 (by kernel_rfl) (by kernel_rfl) fun hx => ?_; simp only [List.take_succ_cons, List.take_zero, List.drop_succ_cons, List.drop_zero]; (repeat (any_goals (first | go_big_quiet_step (fail) | quiet_step (fail)))))
            (refine wpQuiet_nil ?_; clear hx; intro u; have hbw13 := ext_bel _ u; have hxw13 := ext_cell _ u; generalize ext _ u = w13 at *; clear u; have hsw13 := hbw13.size; (try simp at hsw13))
            go_wp2_with (fail)
            go_roundw
            case rel => exact ⟨i + 1, by omega, by go_num, hbd3.trans ((hbw12.trans (hbw13.mono hbw12.size)).mono hbd3.size)⟩
            case measure => simp [intOf]; omega
        · go_wp2_with (fail)
          go_ret
          exact ⟨rfl, hbd2⟩
end Go.Proofs.Ytcfbnmcdncndpaa
