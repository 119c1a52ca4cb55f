/-
  Chapter 8: the reference's Moved, sends and what is taken (printed by mk_rmv.py).
-/
import Derived.Test.YtcfbnmcdncndpaaWRmA
namespace Go.Proofs.Ytcfbnmcdncndpaa
open Go.ChangeShapes Go.WideShapes Go.ChangeAt Go.RowKit
set_option linter.unusedVariables false
set_option linter.unusedSimpArgs false

theorem movL_eq {x : List Msg} {z : List Pkt} {y : List Msg} {k i : Int} {m : Msg} (h : mvE0 ⟨k, i, m⟩ = 0) (h0 : k ≠ 0) : movL ⟨x, z, y⟩ ⟨k, i, m⟩ =
    if k = 1 then (match pickM x i with | none => (⟨x, z, y⟩, 6) | some m => sendL ⟨x, z, y⟩ ⟨m, false⟩)
    else match pickL z i with
      | none => (⟨x, z, y⟩, 6)
      | some p => if k = 2 then (⟨x, delL z i.toNat, y⟩, 0) else if k = 3 then sendL ⟨x, z, y⟩ p else takeL ⟨x, z, y⟩ i.toNat p := by
  unfold movL
  rw [if_neg (fun hn => hn h), if_neg h0]
  rfl
theorem mvE0_z {k i : Int} {m : Msg} (hk : withinB k 0 4 = true) (h0 : (k == 0) = false) (hz : isZ m = true) : mvE0 ⟨k, i, m⟩ = 0 := by
  unfold mvE0; simp only; rw [hk, h0, hz]; rfl
theorem pickM_some {x : List Msg} {j : Nat} (hj : j < x.length) : pickM x (j : Int) = some x[j] := by
  unfold pickM; rw [if_pos (by omega), Int.toNat_natCast, List.getElem?_eq_getElem hj]
theorem pickM_none {x : List Msg} {i : Int} (hi : withinB i 0 ((x.length : Int) - 1) = false) : pickM x i = none := by
  have h := withinB_false.1 hi
  unfold pickM
  split
  · rw [List.getElem?_eq_none]; omega
  · rfl
theorem pickL_some {x : List Pkt} {j : Nat} (hj : j < x.length) : pickL x (j : Int) = some x[j] := by
  unfold pickL; rw [if_pos (by omega), Int.toNat_natCast, List.getElem?_eq_getElem hj]
theorem pickL_none {x : List Pkt} {i : Int} (hi : withinB i 0 ((x.length : Int) - 1) = false) : pickL x i = none := by
  have h := withinB_false.1 hi
  unfold pickL
  split
  · rw [List.getElem?_eq_none]; omega
  · rfl
theorem rmv_sendL (L : Lnk) (mv : Mv) (L' : Lnk) (p : Pkt) (h : movL L mv = sendL L' p) : rmv L mv = if 60 ≤ L'.wire.length then (Lz, 16) else (⟨L'.box, L'.wire ++ [p], L'.store⟩, 0) := by
  unfold rmv
  rw [h]
  unfold sendL
  by_cases h6 : 60 ≤ L'.wire.length
  · rw [if_pos h6, if_pos h6, if_neg (show ¬ ((16 : Int) = 0) by decide)]
  · rw [if_neg h6, if_neg h6, if_pos rfl]
theorem rmv_send (x : List Msg) (z : List Pkt) (y : List Msg) (j : Nat) (m : Msg) (hj : j < x.length) (hz : isZ m = true) : rmv ⟨x, z, y⟩ ⟨1, j, m⟩ = if 60 ≤ z.length then (Lz, 16) else (⟨x, z ++ [⟨x[j], false⟩], y⟩, 0) := by
  refine rmv_sendL _ _ ⟨x, z, y⟩ ⟨x[j], false⟩ ?_
  rw [movL_eq (mvE0_z (by decide) (by decide) hz) (by decide), if_pos rfl, pickM_some hj]
theorem rmv_copy (x : List Msg) (z : List Pkt) (y : List Msg) (j : Nat) (m : Msg) (hj : j < z.length) (hz : isZ m = true) : rmv ⟨x, z, y⟩ ⟨3, j, m⟩ = if 60 ≤ z.length then (Lz, 16) else (⟨x, z ++ [z[j]], y⟩, 0) := by
  refine rmv_sendL _ _ ⟨x, z, y⟩ z[j] ?_
  rw [movL_eq (mvE0_z (by decide) (by decide) hz) (by decide), if_neg (show ¬ ((3 : Int) = 1) by decide), pickL_some hj]
  exact (if_neg (show ¬ ((3 : Int) = 2) by decide)).trans (if_pos rfl)
theorem rmv_lose (x : List Msg) (z : List Pkt) (y : List Msg) (j : Nat) (m : Msg) (hj : j < z.length) (hz : isZ m = true) : rmv ⟨x, z, y⟩ ⟨2, j, m⟩ = (⟨x, delL z j, y⟩, 0) := by
  have h : movL ⟨x, z, y⟩ ⟨2, j, m⟩ = (⟨x, delL z j, y⟩, 0) := by
    rw [movL_eq (mvE0_z (by decide) (by decide) hz) (by decide), if_neg (show ¬ ((2 : Int) = 1) by decide), pickL_some hj]
    exact if_pos rfl
  unfold rmv
  rw [h, if_pos rfl]
theorem movL_take (x : List Msg) (z : List Pkt) (y : List Msg) (j : Nat) (m : Msg) (hj : j < z.length) (hz : isZ m = true) : movL ⟨x, z, y⟩ ⟨4, j, m⟩ = takeL ⟨x, z, y⟩ j z[j] := by
  rw [movL_eq (mvE0_z (by decide) (by decide) hz) (by decide), if_neg (show ¬ ((4 : Int) = 1) by decide), pickL_some hj]
  exact (if_neg (show ¬ ((4 : Int) = 2) by decide)).trans (if_neg (show ¬ ((4 : Int) = 3) by decide))
theorem rmv_takeA (x : List Msg) (z : List Pkt) (y : List Msg) (j : Nat) (m : Msg) (hj : j < z.length) (hz : isZ m = true) (ha : z[j].a = true) : rmv ⟨x, z, y⟩ ⟨4, j, m⟩ = (⟨ackBox x z[j].m, delL z j, y⟩, 0) := by
  unfold rmv
  rw [movL_take x z y j m hj hz]
  unfold takeL
  rw [if_pos ha, if_pos rfl]
theorem rmv_takeN (x : List Msg) (z : List Pkt) (y : List Msg) (j : Nat) (m : Msg) (hj : j < z.length) (hz : isZ m = true) (ha : z[j].a = false) (hm : msgE z[j].m = 0) (hl : z.length ≤ 60) :
    rmv ⟨x, z, y⟩ ⟨4, j, m⟩ = if (rcv y z[j].m).2 = 0 then (⟨x, delL z j ++ [⟨z[j].m, true⟩], (rcv y z[j].m).1⟩, 0) else (Lz, (rcv y z[j].m).2) := by
  have h2 : rcv y z[j].m = if stepE y z[j].m = 0 then ((recvM y z[j].m).1, 0) else ([], stepE y z[j].m) := rfl
  have h3 : stepE y z[j].m = if msgE z[j].m = 0 then (recvM y z[j].m).2 else msgE z[j].m := rfl
  rw [h2, h3, if_pos hm]
  have h4 := delL_len hj
  have h5 : movL ⟨x, z, y⟩ ⟨4, j, m⟩ = if (recvM y z[j].m).2 = 0 then sendL ⟨x, delL z j, (recvM y z[j].m).1⟩ ⟨z[j].m, true⟩ else (⟨x, z, (recvM y z[j].m).1⟩, (recvM y z[j].m).2) := by
    rw [movL_take x z y j m hj hz]
    unfold takeL
    rw [if_neg (by rw [ha]; decide)]
  by_cases e2 : (recvM y z[j].m).2 = 0
  · rw [if_pos e2] at h5
    rw [if_pos e2, if_pos rfl, rmv_sendL _ _ _ _ h5, if_neg (show ¬ (60 ≤ (delL z j).length) by omega)]
  · rw [if_neg e2] at h5
    rw [if_neg e2, if_neg e2]
    unfold rmv
    rw [h5, if_neg e2]
theorem LnkO.app {B : Nat} {A1 : Option Addr} {c1 : Nat} {A2 : Option Addr} {c2 : Nat} {A3 : Option Addr} {c3 : Nat} {L : Lnk} {w v w5 : World} (h : LnkO B A1 c1 A2 c2 A3 c3 L w) (hg : v.grownBy w5 (Value.ownBlock (.slice A3 L.wire.length c3))) (hv : ∀ (g : Nat) (o : Obj), w.heap[g]? = some o → v.heap[g]? = some o) : MsgsAt w5 A1 L.box ∧ MsgsAt w5 A2 L.store :=
  ⟨rowsAt_of_own (own_atB h.o1 (fun g o e ho => (hg.block g (Array.getElem?_eq_some_iff.1 (hv g o ho)).1 (h.x13 g e).symm).trans (hv g o ho))) rfl (by decide), rowsAt_of_own (own_atB h.o2 (fun g o e ho => (hg.block g (Array.getElem?_eq_some_iff.1 (hv g o ho)).1 (h.x23 g e).symm).trans (hv g o ho))) rfl (by decide)⟩
theorem blk_B {B : Nat} {w w' : World} {b : Nat} {o : Obj} (hb : Below B w w') (hlt : b < B) (h : w.heap[b]? = some o) : w'.heap[b]? = some o := (hb.block b hlt).trans h
set_option maxRecDepth 100000 in
set_option maxHeartbeats 4000000 in
theorem RMovedM1_any (A1 : Option Addr) (c1 : Nat) (A2 : Option Addr) (c2 : Nat) (A3 : Option Addr) (c3 : Nat) (L : Lnk) (i : Int) (m : Msg) (w : World) (hR : LnkR A1 A2 A3 L w) (hok : OkL L) (hz : isZ m = true) (hi0 : withinB i 0 ((L.box.length : Int) - 1) = false) :
    Calls Try.prog 49 #[LnkV A1 c1 A2 c2 A3 c3 L, .agg #[.int .i64 1, .int .i64 i, .string m.s, .int .i64 m.v, .int .i64 m.l]] w (LnkE2 (rmv L ⟨1, i, m⟩) w) := by
  obtain ⟨x, z, y⟩ := L
  have hR0 : MsgsAt w A1 x ∧ MsgsAt w A2 y ∧ PktsAt w A3 z := ⟨hR.r1, hR.r2, hR.r3⟩
  have HC := Lib.hid (fun W (h : LnkR A1 A2 A3 ⟨x, z, y⟩ W) => CopyLink_own A1 c1 A2 c2 A3 c3 ⟨x, z, y⟩ W (by have := hok.l1; omega) (by have := hok.l2; omega) (by have := hok.l3; omega) h)
  have l1 : x.length ≤ 30 := hok.l1
  have l2 : y.length ≤ 30 := hok.l2
  have l3 : z.length ≤ 60 := hok.l3
  have HOK := Lib.hid hok
  have HRM : Hid (rmv ⟨x, z, y⟩ ⟨1, i, m⟩ = rmv ⟨x, z, y⟩ ⟨1, i, m⟩) := Lib.hid rfl
  clear hok hR0
  have hi : withinB i 0 ((x.length : Int) - 1) = false := hi0
  clear hi0
  simp only [LnkV]
  go_enter Try.func49, Try.ntmps49
  go_wp2_with (fail)
  have hb0 : Below w.heap.size w (((w.alloc (.cells #[.slice A1 x.length c1, .slice A3 z.length c3, .slice A2 y.length c2] 41)).alloc (.cells #[.int .i64 1, .int .i64 i, .string m.s, .int .i64 m.v, .int .i64 m.l] 47)).alloc (.cells #[.slice none 0 0, .slice none 0 0, .slice none 0 0] 41)) := below_alloc _ (Nat.le_refl _) (below_alloc _ (Nat.le_refl _) (below_alloc _ (Nat.le_refl _) (Below.refl _ _)))
  have p0 : (((w.alloc (.cells #[.slice A1 x.length c1, .slice A3 z.length c3, .slice A2 y.length c2] 41)).alloc (.cells #[.int .i64 1, .int .i64 i, .string m.s, .int .i64 m.v, .int .i64 m.l] 47)).alloc (.cells #[.slice none 0 0, .slice none 0 0, .slice none 0 0] 41)).cell? ⟨w.heap.size, 0, none⟩ = some (.slice A1 x.length c1) := cell_alloc _ (cell_alloc _ (cell_new (by simp) rfl))
  have p1 : (((w.alloc (.cells #[.slice A1 x.length c1, .slice A3 z.length c3, .slice A2 y.length c2] 41)).alloc (.cells #[.int .i64 1, .int .i64 i, .string m.s, .int .i64 m.v, .int .i64 m.l] 47)).alloc (.cells #[.slice none 0 0, .slice none 0 0, .slice none 0 0] 41)).cell? ⟨w.heap.size, 1, none⟩ = some (.slice A3 z.length c3) := cell_alloc _ (cell_alloc _ (cell_new (by simp) rfl))
  have p2 : (((w.alloc (.cells #[.slice A1 x.length c1, .slice A3 z.length c3, .slice A2 y.length c2] 41)).alloc (.cells #[.int .i64 1, .int .i64 i, .string m.s, .int .i64 m.v, .int .i64 m.l] 47)).alloc (.cells #[.slice none 0 0, .slice none 0 0, .slice none 0 0] 41)).cell? ⟨w.heap.size, 2, none⟩ = some (.slice A2 y.length c2) := cell_alloc _ (cell_alloc _ (cell_new (by simp) rfl))
  have pk : (((w.alloc (.cells #[.slice A1 x.length c1, .slice A3 z.length c3, .slice A2 y.length c2] 41)).alloc (.cells #[.int .i64 1, .int .i64 i, .string m.s, .int .i64 m.v, .int .i64 m.l] 47)).alloc (.cells #[.slice none 0 0, .slice none 0 0, .slice none 0 0] 41)).heap[w.heap.size]? = some (.cells #[.slice A1 x.length c1, .slice A3 z.length c3, .slice A2 y.length c2] 41) := blk_alloc _ (blk_alloc _ (blk_new (by simp)))
  have zp : w.heap.size < (((w.alloc (.cells #[.slice A1 x.length c1, .slice A3 z.length c3, .slice A2 y.length c2] 41)).alloc (.cells #[.int .i64 1, .int .i64 i, .string m.s, .int .i64 m.v, .int .i64 m.l] 47)).alloc (.cells #[.slice none 0 0, .slice none 0 0, .slice none 0 0] 41)).heap.size := World.block_lt_of_cell? _ _ p0
  have q0 : (((w.alloc (.cells #[.slice A1 x.length c1, .slice A3 z.length c3, .slice A2 y.length c2] 41)).alloc (.cells #[.int .i64 1, .int .i64 i, .string m.s, .int .i64 m.v, .int .i64 m.l] 47)).alloc (.cells #[.slice none 0 0, .slice none 0 0, .slice none 0 0] 41)).cell? ⟨w.heap.size + 1, 0, none⟩ = some (.int .i64 1) := cell_alloc _ (cell_new (by simp) rfl)
  have q1 : (((w.alloc (.cells #[.slice A1 x.length c1, .slice A3 z.length c3, .slice A2 y.length c2] 41)).alloc (.cells #[.int .i64 1, .int .i64 i, .string m.s, .int .i64 m.v, .int .i64 m.l] 47)).alloc (.cells #[.slice none 0 0, .slice none 0 0, .slice none 0 0] 41)).cell? ⟨w.heap.size + 1, 1, none⟩ = some (.int .i64 i) := cell_alloc _ (cell_new (by simp) rfl)
  have q2 : (((w.alloc (.cells #[.slice A1 x.length c1, .slice A3 z.length c3, .slice A2 y.length c2] 41)).alloc (.cells #[.int .i64 1, .int .i64 i, .string m.s, .int .i64 m.v, .int .i64 m.l] 47)).alloc (.cells #[.slice none 0 0, .slice none 0 0, .slice none 0 0] 41)).cell? ⟨w.heap.size + 1, 2, none⟩ = some (.string m.s) := cell_alloc _ (cell_new (by simp) rfl)
  have q3 : (((w.alloc (.cells #[.slice A1 x.length c1, .slice A3 z.length c3, .slice A2 y.length c2] 41)).alloc (.cells #[.int .i64 1, .int .i64 i, .string m.s, .int .i64 m.v, .int .i64 m.l] 47)).alloc (.cells #[.slice none 0 0, .slice none 0 0, .slice none 0 0] 41)).cell? ⟨w.heap.size + 1, 3, none⟩ = some (.int .i64 m.v) := cell_alloc _ (cell_new (by simp) rfl)
  have q4 : (((w.alloc (.cells #[.slice A1 x.length c1, .slice A3 z.length c3, .slice A2 y.length c2] 41)).alloc (.cells #[.int .i64 1, .int .i64 i, .string m.s, .int .i64 m.v, .int .i64 m.l] 47)).alloc (.cells #[.slice none 0 0, .slice none 0 0, .slice none 0 0] 41)).cell? ⟨w.heap.size + 1, 4, none⟩ = some (.int .i64 m.l) := cell_alloc _ (cell_new (by simp) rfl)
  have qk : (((w.alloc (.cells #[.slice A1 x.length c1, .slice A3 z.length c3, .slice A2 y.length c2] 41)).alloc (.cells #[.int .i64 1, .int .i64 i, .string m.s, .int .i64 m.v, .int .i64 m.l] 47)).alloc (.cells #[.slice none 0 0, .slice none 0 0, .slice none 0 0] 41)).heap[w.heap.size + 1]? = some (.cells #[.int .i64 1, .int .i64 i, .string m.s, .int .i64 m.v, .int .i64 m.l] 47) := blk_alloc _ (blk_new (by simp))
  have zq : w.heap.size + 1 < (((w.alloc (.cells #[.slice A1 x.length c1, .slice A3 z.length c3, .slice A2 y.length c2] 41)).alloc (.cells #[.int .i64 1, .int .i64 i, .string m.s, .int .i64 m.v, .int .i64 m.l] 47)).alloc (.cells #[.slice none 0 0, .slice none 0 0, .slice none 0 0] 41)).heap.size := World.block_lt_of_cell? _ _ q0
  have s0 : (((w.alloc (.cells #[.slice A1 x.length c1, .slice A3 z.length c3, .slice A2 y.length c2] 41)).alloc (.cells #[.int .i64 1, .int .i64 i, .string m.s, .int .i64 m.v, .int .i64 m.l] 47)).alloc (.cells #[.slice none 0 0, .slice none 0 0, .slice none 0 0] 41)).cell? ⟨w.heap.size + 1 + 1, 0, none⟩ = some (.slice none 0 0) := cell_new (by simp) rfl
  have s1 : (((w.alloc (.cells #[.slice A1 x.length c1, .slice A3 z.length c3, .slice A2 y.length c2] 41)).alloc (.cells #[.int .i64 1, .int .i64 i, .string m.s, .int .i64 m.v, .int .i64 m.l] 47)).alloc (.cells #[.slice none 0 0, .slice none 0 0, .slice none 0 0] 41)).cell? ⟨w.heap.size + 1 + 1, 1, none⟩ = some (.slice none 0 0) := cell_new (by simp) rfl
  have s2 : (((w.alloc (.cells #[.slice A1 x.length c1, .slice A3 z.length c3, .slice A2 y.length c2] 41)).alloc (.cells #[.int .i64 1, .int .i64 i, .string m.s, .int .i64 m.v, .int .i64 m.l] 47)).alloc (.cells #[.slice none 0 0, .slice none 0 0, .slice none 0 0] 41)).cell? ⟨w.heap.size + 1 + 1, 2, none⟩ = some (.slice none 0 0) := cell_new (by simp) rfl
  have sk : (((w.alloc (.cells #[.slice A1 x.length c1, .slice A3 z.length c3, .slice A2 y.length c2] 41)).alloc (.cells #[.int .i64 1, .int .i64 i, .string m.s, .int .i64 m.v, .int .i64 m.l] 47)).alloc (.cells #[.slice none 0 0, .slice none 0 0, .slice none 0 0] 41)).heap[w.heap.size + 1 + 1]? = some (.cells #[.slice none 0 0, .slice none 0 0, .slice none 0 0] 41) := blk_new (by simp)
  have zs : w.heap.size + 1 + 1 < (((w.alloc (.cells #[.slice A1 x.length c1, .slice A3 z.length c3, .slice A2 y.length c2] 41)).alloc (.cells #[.int .i64 1, .int .i64 i, .string m.s, .int .i64 m.v, .int .i64 m.l] 47)).alloc (.cells #[.slice none 0 0, .slice none 0 0, .slice none 0 0] 41)).heap.size := World.block_lt_of_cell? _ _ s0
  generalize (((w.alloc (.cells #[.slice A1 x.length c1, .slice A3 z.length c3, .slice A2 y.length c2] 41)).alloc (.cells #[.int .i64 1, .int .i64 i, .string m.s, .int .i64 m.v, .int .i64 m.l] 47)).alloc (.cells #[.slice none 0 0, .slice none 0 0, .slice none 0 0] 41)) = w0 at *
  refine (HC.out _ (hR.below hb0)).mono ?_
  rintro e w1 ⟨B1, d1, B2, d2, B3, d3, rfl, own, hb1, zw1⟩
  clear HC hR
  have hak := blk_below' hb1 pk
  have hbk := blk_below' hb1 qk
  have hck := blk_below' hb1 sk
  have zz := hb1.size
  have hbw1 : Below w.heap.size w w1 := hb0.trans (hb1.mono hb0.size)
  clear pk qk sk p0 p1 p2 q0 q1 q2 q3 q4 s0 s1 s2 hb0 hb1
  have p0 := blk_cell hak (j := 0) rfl
  have p1 := blk_cell hak (j := 1) rfl
  have p2 := blk_cell hak (j := 2) rfl
  have pf0 := blk_frozen (j := 0) hak
  have pf1 := blk_frozen (j := 1) hak
  have pf2 := blk_frozen (j := 2) hak
  have zx : w.heap.size + 2 < w1.heap.size := Nat.lt_of_lt_of_le zs zz
  go_upto_region 2 with (fail)
  have pk := blk_set3 (v0 := .slice B1 x.length d1) (v1 := .slice B3 z.length d3) (v2 := .slice B2 y.length d2) hak
  have qk := blk_far3 (b := w.heap.size) (v0 := .slice B1 x.length d1) (v1 := .slice B3 z.length d3) (v2 := .slice B2 y.length d2) (by omega) hbk
  have sk := blk_far3 (b := w.heap.size) (v0 := .slice B1 x.length d1) (v1 := .slice B3 z.length d3) (v2 := .slice B2 y.length d2) (by omega) hck
  have own2 := ((own.set (j := 0) (a := w.heap.size) (by omega) (.slice B1 x.length d1)).set (j := 1) (a := w.heap.size) (by omega) (.slice B3 z.length d3)).set (j := 2) (a := w.heap.size) (by omega) (.slice B2 y.length d2)
  have zB2 : w0.heap.size + 2 ≤ (((w1.setCell ⟨w.heap.size, 0, none⟩ (.slice B1 x.length d1)).setCell ⟨w.heap.size, 1, none⟩ (.slice B3 z.length d3)).setCell ⟨w.heap.size, 2, none⟩ (.slice B2 y.length d2)).heap.size := by simp; omega
  have hbw : Below w.heap.size w (((w1.setCell ⟨w.heap.size, 0, none⟩ (.slice B1 x.length d1)).setCell ⟨w.heap.size, 1, none⟩ (.slice B3 z.length d3)).setCell ⟨w.heap.size, 2, none⟩ (.slice B2 y.length d2)) := below_set _ (by simp) (below_set _ (by simp) (below_set _ (by simp) hbw1))
  have zx2 : w.heap.size + 2 < (((w1.setCell ⟨w.heap.size, 0, none⟩ (.slice B1 x.length d1)).setCell ⟨w.heap.size, 1, none⟩ (.slice B3 z.length d3)).setCell ⟨w.heap.size, 2, none⟩ (.slice B2 y.length d2)).heap.size := by simp; omega
  clear hak hbk hck p0 p1 p2 pf0 pf1 pf2 own hbw1 zx zz zw1
  generalize (((w1.setCell ⟨w.heap.size, 0, none⟩ (.slice B1 x.length d1)).setCell ⟨w.heap.size, 1, none⟩ (.slice B3 z.length d3)).setCell ⟨w.heap.size, 2, none⟩ (.slice B2 y.length d2)) = w2 at *
  have OWN := Lib.hid own2
  have zB : w.heap.size + 2 < w0.heap.size := zs
  have za2 : w.heap.size < w2.heap.size := by omega
  have zpB : w.heap.size < w0.heap.size + 2 := by omega
  have zqB : w.heap.size + 1 < w0.heap.size + 2 := by omega
  have zsB : w.heap.size + 1 + 1 < w0.heap.size + 2 := by omega
  have zb2 : w.heap.size + 1 < w2.heap.size := by omega
  clear own2 zp zq zs w1
  have p0 : w2.cell? ⟨w.heap.size, 0, none⟩ = some (.slice B1 x.length d1) := blk_cell pk (j := 0) rfl
  have pf0 := blk_frozen (j := 0) pk
  have p1 : w2.cell? ⟨w.heap.size, 1, none⟩ = some (.slice B3 z.length d3) := blk_cell pk (j := 1) rfl
  have pf1 := blk_frozen (j := 1) pk
  have p2 : w2.cell? ⟨w.heap.size, 2, none⟩ = some (.slice B2 y.length d2) := blk_cell pk (j := 2) rfl
  have pf2 := blk_frozen (j := 2) pk
  have q0 : w2.cell? ⟨w.heap.size + 1, 0, none⟩ = some (.int .i64 1) := blk_cell qk (j := 0) rfl
  have q1 : w2.cell? ⟨w.heap.size + 1, 1, none⟩ = some (.int .i64 i) := blk_cell qk (j := 1) rfl
  have q2 : w2.cell? ⟨w.heap.size + 1, 2, none⟩ = some (.string m.s) := blk_cell qk (j := 2) rfl
  have q3 : w2.cell? ⟨w.heap.size + 1, 3, none⟩ = some (.int .i64 m.v) := blk_cell qk (j := 3) rfl
  have q4 : w2.cell? ⟨w.heap.size + 1, 4, none⟩ = some (.int .i64 m.l) := blk_cell qk (j := 4) rfl
  have s0 : w2.cell? ⟨w.heap.size + 1 + 1, 0, none⟩ = some (.slice none 0 0) := blk_cell sk (j := 0) rfl
  have sf0 := blk_frozen (j := 0) sk
  have s1 : w2.cell? ⟨w.heap.size + 1 + 1, 1, none⟩ = some (.slice none 0 0) := blk_cell sk (j := 1) rfl
  have sf1 := blk_frozen (j := 1) sk
  have s2 : w2.cell? ⟨w.heap.size + 1 + 1, 2, none⟩ = some (.slice none 0 0) := blk_cell sk (j := 2) rfl
  have sf2 := blk_frozen (j := 2) sk
  have hq : rmv ⟨x, z, y⟩ ⟨1, i, m⟩ = (Lz, 6) := by
    have h1 : movL ⟨x, z, y⟩ ⟨1, i, m⟩ = (⟨x, z, y⟩, 6) := by
      rw [movL_eq (mvE0_z (by decide) (by decide) hz) (by decide), if_pos rfl, pickM_none hi]
    unfold rmv; rw [h1, if_neg (show ¬ ((6 : Int) = 0) by decide)]
  have HQ := Lib.hid hq
  clear hq HRM
  have iw : IntKind.i64.wrap ((x.length : Int) - 1) = (x.length : Int) - 1 := IntWalk.i64_in _ (by omega)
  have heq := neqZ m
  rw [hz] at heq
  go_wp2_with (go_at_call 22; refine (Within_any _ _ _ _).mono ?_; rintro e w' ⟨rfl, rfl⟩; (first | rw [show withinB 1 0 4 = true from rfl] | rw [hi]))
  refine bodyPost_ret (v := .tuple #[.agg #[.slice none 0 0, .slice none 0 0, .slice none 0 0], .int .i64 6]) (by simp [results, Try.results49, go_sem, s0, s1, s2, zx2]) rfl ?_
  rw [HQ.out]
  exact ⟨none, 0, none, 0, none, 0, rfl, lnkR_z, (by repeat (first | assumption | exact Below.refl _ _ | refine Below.drew ?_ | (refine below_alloc _ ?_ ?_; focus (first | omega | (simp; done) | (simp; omega) | (simp at *; omega))) | (refine below_set _ ?_ ?_; focus (first | omega | (simp; done) | (simp; omega) | (simp at *; omega))) | refine below_drewN ?_ _ | (refine below_call (by assumption) ?_ ?_; focus (first | omega | (simp; done) | (simp; omega) | (simp at *; omega))) | (refine below_call' (by assumption) ?_ ?_; focus (first | omega | (simp; done) | (simp; omega) | (simp at *; omega)))))⟩
set_option maxRecDepth 100000 in
set_option maxHeartbeats 4000000 in
theorem RMovedM2_any (A1 : Option Addr) (c1 : Nat) (A2 : Option Addr) (c2 : Nat) (A3 : Option Addr) (c3 : Nat) (L : Lnk) (k : Int) (i : Int) (m : Msg) (w : World) (hR : LnkR A1 A2 A3 L w) (hok : OkL L) (hk : withinB k 0 4 = true) (h0 : (k == 0) = false) (h1 : (k == 1) = false) (hz : isZ m = true) (hi0 : withinB i 0 ((L.wire.length : Int) - 1) = false) :
    Calls Try.prog 49 #[LnkV A1 c1 A2 c2 A3 c3 L, .agg #[.int .i64 k, .int .i64 i, .string m.s, .int .i64 m.v, .int .i64 m.l]] w (LnkE2 (rmv L ⟨k, i, m⟩) w) := by
  obtain ⟨x, z, y⟩ := L
  have hR0 : MsgsAt w A1 x ∧ MsgsAt w A2 y ∧ PktsAt w A3 z := ⟨hR.r1, hR.r2, hR.r3⟩
  have HC := Lib.hid (fun W (h : LnkR A1 A2 A3 ⟨x, z, y⟩ W) => CopyLink_own A1 c1 A2 c2 A3 c3 ⟨x, z, y⟩ W (by have := hok.l1; omega) (by have := hok.l2; omega) (by have := hok.l3; omega) h)
  have l1 : x.length ≤ 30 := hok.l1
  have l2 : y.length ≤ 30 := hok.l2
  have l3 : z.length ≤ 60 := hok.l3
  have HOK := Lib.hid hok
  have HRM : Hid (rmv ⟨x, z, y⟩ ⟨k, i, m⟩ = rmv ⟨x, z, y⟩ ⟨k, i, m⟩) := Lib.hid rfl
  clear hok hR0
  have hi : withinB i 0 ((z.length : Int) - 1) = false := hi0
  clear hi0
  simp only [LnkV]
  go_enter Try.func49, Try.ntmps49
  go_wp2_with (fail)
  have hb0 : Below w.heap.size w (((w.alloc (.cells #[.slice A1 x.length c1, .slice A3 z.length c3, .slice A2 y.length c2] 41)).alloc (.cells #[.int .i64 k, .int .i64 i, .string m.s, .int .i64 m.v, .int .i64 m.l] 47)).alloc (.cells #[.slice none 0 0, .slice none 0 0, .slice none 0 0] 41)) := below_alloc _ (Nat.le_refl _) (below_alloc _ (Nat.le_refl _) (below_alloc _ (Nat.le_refl _) (Below.refl _ _)))
  have p0 : (((w.alloc (.cells #[.slice A1 x.length c1, .slice A3 z.length c3, .slice A2 y.length c2] 41)).alloc (.cells #[.int .i64 k, .int .i64 i, .string m.s, .int .i64 m.v, .int .i64 m.l] 47)).alloc (.cells #[.slice none 0 0, .slice none 0 0, .slice none 0 0] 41)).cell? ⟨w.heap.size, 0, none⟩ = some (.slice A1 x.length c1) := cell_alloc _ (cell_alloc _ (cell_new (by simp) rfl))
  have p1 : (((w.alloc (.cells #[.slice A1 x.length c1, .slice A3 z.length c3, .slice A2 y.length c2] 41)).alloc (.cells #[.int .i64 k, .int .i64 i, .string m.s, .int .i64 m.v, .int .i64 m.l] 47)).alloc (.cells #[.slice none 0 0, .slice none 0 0, .slice none 0 0] 41)).cell? ⟨w.heap.size, 1, none⟩ = some (.slice A3 z.length c3) := cell_alloc _ (cell_alloc _ (cell_new (by simp) rfl))
  have p2 : (((w.alloc (.cells #[.slice A1 x.length c1, .slice A3 z.length c3, .slice A2 y.length c2] 41)).alloc (.cells #[.int .i64 k, .int .i64 i, .string m.s, .int .i64 m.v, .int .i64 m.l] 47)).alloc (.cells #[.slice none 0 0, .slice none 0 0, .slice none 0 0] 41)).cell? ⟨w.heap.size, 2, none⟩ = some (.slice A2 y.length c2) := cell_alloc _ (cell_alloc _ (cell_new (by simp) rfl))
  have pk : (((w.alloc (.cells #[.slice A1 x.length c1, .slice A3 z.length c3, .slice A2 y.length c2] 41)).alloc (.cells #[.int .i64 k, .int .i64 i, .string m.s, .int .i64 m.v, .int .i64 m.l] 47)).alloc (.cells #[.slice none 0 0, .slice none 0 0, .slice none 0 0] 41)).heap[w.heap.size]? = some (.cells #[.slice A1 x.length c1, .slice A3 z.length c3, .slice A2 y.length c2] 41) := blk_alloc _ (blk_alloc _ (blk_new (by simp)))
  have zp : w.heap.size < (((w.alloc (.cells #[.slice A1 x.length c1, .slice A3 z.length c3, .slice A2 y.length c2] 41)).alloc (.cells #[.int .i64 k, .int .i64 i, .string m.s, .int .i64 m.v, .int .i64 m.l] 47)).alloc (.cells #[.slice none 0 0, .slice none 0 0, .slice none 0 0] 41)).heap.size := World.block_lt_of_cell? _ _ p0
  have q0 : (((w.alloc (.cells #[.slice A1 x.length c1, .slice A3 z.length c3, .slice A2 y.length c2] 41)).alloc (.cells #[.int .i64 k, .int .i64 i, .string m.s, .int .i64 m.v, .int .i64 m.l] 47)).alloc (.cells #[.slice none 0 0, .slice none 0 0, .slice none 0 0] 41)).cell? ⟨w.heap.size + 1, 0, none⟩ = some (.int .i64 k) := cell_alloc _ (cell_new (by simp) rfl)
  have q1 : (((w.alloc (.cells #[.slice A1 x.length c1, .slice A3 z.length c3, .slice A2 y.length c2] 41)).alloc (.cells #[.int .i64 k, .int .i64 i, .string m.s, .int .i64 m.v, .int .i64 m.l] 47)).alloc (.cells #[.slice none 0 0, .slice none 0 0, .slice none 0 0] 41)).cell? ⟨w.heap.size + 1, 1, none⟩ = some (.int .i64 i) := cell_alloc _ (cell_new (by simp) rfl)
  have q2 : (((w.alloc (.cells #[.slice A1 x.length c1, .slice A3 z.length c3, .slice A2 y.length c2] 41)).alloc (.cells #[.int .i64 k, .int .i64 i, .string m.s, .int .i64 m.v, .int .i64 m.l] 47)).alloc (.cells #[.slice none 0 0, .slice none 0 0, .slice none 0 0] 41)).cell? ⟨w.heap.size + 1, 2, none⟩ = some (.string m.s) := cell_alloc _ (cell_new (by simp) rfl)
  have q3 : (((w.alloc (.cells #[.slice A1 x.length c1, .slice A3 z.length c3, .slice A2 y.length c2] 41)).alloc (.cells #[.int .i64 k, .int .i64 i, .string m.s, .int .i64 m.v, .int .i64 m.l] 47)).alloc (.cells #[.slice none 0 0, .slice none 0 0, .slice none 0 0] 41)).cell? ⟨w.heap.size + 1, 3, none⟩ = some (.int .i64 m.v) := cell_alloc _ (cell_new (by simp) rfl)
  have q4 : (((w.alloc (.cells #[.slice A1 x.length c1, .slice A3 z.length c3, .slice A2 y.length c2] 41)).alloc (.cells #[.int .i64 k, .int .i64 i, .string m.s, .int .i64 m.v, .int .i64 m.l] 47)).alloc (.cells #[.slice none 0 0, .slice none 0 0, .slice none 0 0] 41)).cell? ⟨w.heap.size + 1, 4, none⟩ = some (.int .i64 m.l) := cell_alloc _ (cell_new (by simp) rfl)
  have qk : (((w.alloc (.cells #[.slice A1 x.length c1, .slice A3 z.length c3, .slice A2 y.length c2] 41)).alloc (.cells #[.int .i64 k, .int .i64 i, .string m.s, .int .i64 m.v, .int .i64 m.l] 47)).alloc (.cells #[.slice none 0 0, .slice none 0 0, .slice none 0 0] 41)).heap[w.heap.size + 1]? = some (.cells #[.int .i64 k, .int .i64 i, .string m.s, .int .i64 m.v, .int .i64 m.l] 47) := blk_alloc _ (blk_new (by simp))
  have zq : w.heap.size + 1 < (((w.alloc (.cells #[.slice A1 x.length c1, .slice A3 z.length c3, .slice A2 y.length c2] 41)).alloc (.cells #[.int .i64 k, .int .i64 i, .string m.s, .int .i64 m.v, .int .i64 m.l] 47)).alloc (.cells #[.slice none 0 0, .slice none 0 0, .slice none 0 0] 41)).heap.size := World.block_lt_of_cell? _ _ q0
  have s0 : (((w.alloc (.cells #[.slice A1 x.length c1, .slice A3 z.length c3, .slice A2 y.length c2] 41)).alloc (.cells #[.int .i64 k, .int .i64 i, .string m.s, .int .i64 m.v, .int .i64 m.l] 47)).alloc (.cells #[.slice none 0 0, .slice none 0 0, .slice none 0 0] 41)).cell? ⟨w.heap.size + 1 + 1, 0, none⟩ = some (.slice none 0 0) := cell_new (by simp) rfl
  have s1 : (((w.alloc (.cells #[.slice A1 x.length c1, .slice A3 z.length c3, .slice A2 y.length c2] 41)).alloc (.cells #[.int .i64 k, .int .i64 i, .string m.s, .int .i64 m.v, .int .i64 m.l] 47)).alloc (.cells #[.slice none 0 0, .slice none 0 0, .slice none 0 0] 41)).cell? ⟨w.heap.size + 1 + 1, 1, none⟩ = some (.slice none 0 0) := cell_new (by simp) rfl
  have s2 : (((w.alloc (.cells #[.slice A1 x.length c1, .slice A3 z.length c3, .slice A2 y.length c2] 41)).alloc (.cells #[.int .i64 k, .int .i64 i, .string m.s, .int .i64 m.v, .int .i64 m.l] 47)).alloc (.cells #[.slice none 0 0, .slice none 0 0, .slice none 0 0] 41)).cell? ⟨w.heap.size + 1 + 1, 2, none⟩ = some (.slice none 0 0) := cell_new (by simp) rfl
  have sk : (((w.alloc (.cells #[.slice A1 x.length c1, .slice A3 z.length c3, .slice A2 y.length c2] 41)).alloc (.cells #[.int .i64 k, .int .i64 i, .string m.s, .int .i64 m.v, .int .i64 m.l] 47)).alloc (.cells #[.slice none 0 0, .slice none 0 0, .slice none 0 0] 41)).heap[w.heap.size + 1 + 1]? = some (.cells #[.slice none 0 0, .slice none 0 0, .slice none 0 0] 41) := blk_new (by simp)
  have zs : w.heap.size + 1 + 1 < (((w.alloc (.cells #[.slice A1 x.length c1, .slice A3 z.length c3, .slice A2 y.length c2] 41)).alloc (.cells #[.int .i64 k, .int .i64 i, .string m.s, .int .i64 m.v, .int .i64 m.l] 47)).alloc (.cells #[.slice none 0 0, .slice none 0 0, .slice none 0 0] 41)).heap.size := World.block_lt_of_cell? _ _ s0
  generalize (((w.alloc (.cells #[.slice A1 x.length c1, .slice A3 z.length c3, .slice A2 y.length c2] 41)).alloc (.cells #[.int .i64 k, .int .i64 i, .string m.s, .int .i64 m.v, .int .i64 m.l] 47)).alloc (.cells #[.slice none 0 0, .slice none 0 0, .slice none 0 0] 41)) = w0 at *
  refine (HC.out _ (hR.below hb0)).mono ?_
  rintro e w1 ⟨B1, d1, B2, d2, B3, d3, rfl, own, hb1, zw1⟩
  clear HC hR
  have hak := blk_below' hb1 pk
  have hbk := blk_below' hb1 qk
  have hck := blk_below' hb1 sk
  have zz := hb1.size
  have hbw1 : Below w.heap.size w w1 := hb0.trans (hb1.mono hb0.size)
  clear pk qk sk p0 p1 p2 q0 q1 q2 q3 q4 s0 s1 s2 hb0 hb1
  have p0 := blk_cell hak (j := 0) rfl
  have p1 := blk_cell hak (j := 1) rfl
  have p2 := blk_cell hak (j := 2) rfl
  have pf0 := blk_frozen (j := 0) hak
  have pf1 := blk_frozen (j := 1) hak
  have pf2 := blk_frozen (j := 2) hak
  have zx : w.heap.size + 2 < w1.heap.size := Nat.lt_of_lt_of_le zs zz
  go_upto_region 2 with (fail)
  have pk := blk_set3 (v0 := .slice B1 x.length d1) (v1 := .slice B3 z.length d3) (v2 := .slice B2 y.length d2) hak
  have qk := blk_far3 (b := w.heap.size) (v0 := .slice B1 x.length d1) (v1 := .slice B3 z.length d3) (v2 := .slice B2 y.length d2) (by omega) hbk
  have sk := blk_far3 (b := w.heap.size) (v0 := .slice B1 x.length d1) (v1 := .slice B3 z.length d3) (v2 := .slice B2 y.length d2) (by omega) hck
  have own2 := ((own.set (j := 0) (a := w.heap.size) (by omega) (.slice B1 x.length d1)).set (j := 1) (a := w.heap.size) (by omega) (.slice B3 z.length d3)).set (j := 2) (a := w.heap.size) (by omega) (.slice B2 y.length d2)
  have zB2 : w0.heap.size + 2 ≤ (((w1.setCell ⟨w.heap.size, 0, none⟩ (.slice B1 x.length d1)).setCell ⟨w.heap.size, 1, none⟩ (.slice B3 z.length d3)).setCell ⟨w.heap.size, 2, none⟩ (.slice B2 y.length d2)).heap.size := by simp; omega
  have hbw : Below w.heap.size w (((w1.setCell ⟨w.heap.size, 0, none⟩ (.slice B1 x.length d1)).setCell ⟨w.heap.size, 1, none⟩ (.slice B3 z.length d3)).setCell ⟨w.heap.size, 2, none⟩ (.slice B2 y.length d2)) := below_set _ (by simp) (below_set _ (by simp) (below_set _ (by simp) hbw1))
  have zx2 : w.heap.size + 2 < (((w1.setCell ⟨w.heap.size, 0, none⟩ (.slice B1 x.length d1)).setCell ⟨w.heap.size, 1, none⟩ (.slice B3 z.length d3)).setCell ⟨w.heap.size, 2, none⟩ (.slice B2 y.length d2)).heap.size := by simp; omega
  clear hak hbk hck p0 p1 p2 pf0 pf1 pf2 own hbw1 zx zz zw1
  generalize (((w1.setCell ⟨w.heap.size, 0, none⟩ (.slice B1 x.length d1)).setCell ⟨w.heap.size, 1, none⟩ (.slice B3 z.length d3)).setCell ⟨w.heap.size, 2, none⟩ (.slice B2 y.length d2)) = w2 at *
  have OWN := Lib.hid own2
  have zB : w.heap.size + 2 < w0.heap.size := zs
  have za2 : w.heap.size < w2.heap.size := by omega
  have zpB : w.heap.size < w0.heap.size + 2 := by omega
  have zqB : w.heap.size + 1 < w0.heap.size + 2 := by omega
  have zsB : w.heap.size + 1 + 1 < w0.heap.size + 2 := by omega
  have zb2 : w.heap.size + 1 < w2.heap.size := by omega
  clear own2 zp zq zs w1
  have p0 : w2.cell? ⟨w.heap.size, 0, none⟩ = some (.slice B1 x.length d1) := blk_cell pk (j := 0) rfl
  have pf0 := blk_frozen (j := 0) pk
  have p1 : w2.cell? ⟨w.heap.size, 1, none⟩ = some (.slice B3 z.length d3) := blk_cell pk (j := 1) rfl
  have pf1 := blk_frozen (j := 1) pk
  have p2 : w2.cell? ⟨w.heap.size, 2, none⟩ = some (.slice B2 y.length d2) := blk_cell pk (j := 2) rfl
  have pf2 := blk_frozen (j := 2) pk
  have q0 : w2.cell? ⟨w.heap.size + 1, 0, none⟩ = some (.int .i64 k) := blk_cell qk (j := 0) rfl
  have q1 : w2.cell? ⟨w.heap.size + 1, 1, none⟩ = some (.int .i64 i) := blk_cell qk (j := 1) rfl
  have q2 : w2.cell? ⟨w.heap.size + 1, 2, none⟩ = some (.string m.s) := blk_cell qk (j := 2) rfl
  have q3 : w2.cell? ⟨w.heap.size + 1, 3, none⟩ = some (.int .i64 m.v) := blk_cell qk (j := 3) rfl
  have q4 : w2.cell? ⟨w.heap.size + 1, 4, none⟩ = some (.int .i64 m.l) := blk_cell qk (j := 4) rfl
  have s0 : w2.cell? ⟨w.heap.size + 1 + 1, 0, none⟩ = some (.slice none 0 0) := blk_cell sk (j := 0) rfl
  have sf0 := blk_frozen (j := 0) sk
  have s1 : w2.cell? ⟨w.heap.size + 1 + 1, 1, none⟩ = some (.slice none 0 0) := blk_cell sk (j := 1) rfl
  have sf1 := blk_frozen (j := 1) sk
  have s2 : w2.cell? ⟨w.heap.size + 1 + 1, 2, none⟩ = some (.slice none 0 0) := blk_cell sk (j := 2) rfl
  have sf2 := blk_frozen (j := 2) sk
  have hq : rmv ⟨x, z, y⟩ ⟨k, i, m⟩ = (Lz, 6) := by
    have h1 : movL ⟨x, z, y⟩ ⟨k, i, m⟩ = (⟨x, z, y⟩, 6) := by
      rw [movL_eq (mvE0_z hk h0 hz) (by simpa using h0), if_neg (by simpa using h1), pickL_none hi]
    unfold rmv; rw [h1, if_neg (show ¬ ((6 : Int) = 0) by decide)]
  have HQ := Lib.hid hq
  clear hq HRM
  have iw : IntKind.i64.wrap ((z.length : Int) - 1) = (z.length : Int) - 1 := IntWalk.i64_in _ (by omega)
  have heq := neqZ m
  rw [hz] at heq
  have h02 : (k != 0) = true := by rw [bne, h0]; rfl
  go_wp2_with (go_at_call 22; refine (Within_any _ _ _ _).mono ?_; rintro e w' ⟨rfl, rfl⟩; (first | rw [hk] | rw [hi]))
  refine bodyPost_ret (v := .tuple #[.agg #[.slice none 0 0, .slice none 0 0, .slice none 0 0], .int .i64 6]) (by simp [results, Try.results49, go_sem, s0, s1, s2, zx2]) rfl ?_
  rw [HQ.out]
  exact ⟨none, 0, none, 0, none, 0, rfl, lnkR_z, (by repeat (first | assumption | exact Below.refl _ _ | refine Below.drew ?_ | (refine below_alloc _ ?_ ?_; focus (first | omega | (simp; done) | (simp; omega) | (simp at *; omega))) | (refine below_set _ ?_ ?_; focus (first | omega | (simp; done) | (simp; omega) | (simp at *; omega))) | refine below_drewN ?_ _ | (refine below_call (by assumption) ?_ ?_; focus (first | omega | (simp; done) | (simp; omega) | (simp at *; omega))) | (refine below_call' (by assumption) ?_ ?_; focus (first | omega | (simp; done) | (simp; omega) | (simp at *; omega)))))⟩
set_option maxRecDepth 100000 in
set_option maxHeartbeats 4000000 in
theorem RMovedS_any (A1 : Option Addr) (c1 : Nat) (A2 : Option Addr) (c2 : Nat) (A3 : Option Addr) (c3 : Nat) (L : Lnk) (j : Nat) (m : Msg) (w : World) (hR : LnkR A1 A2 A3 L w) (hok : OkL L) (hz : isZ m = true) (hj0 : j < L.box.length) :
    Calls Try.prog 49 #[LnkV A1 c1 A2 c2 A3 c3 L, .agg #[.int .i64 1, .int .i64 (j : Int), .string m.s, .int .i64 m.v, .int .i64 m.l]] w (LnkE2 (rmv L ⟨1, (j : Int), m⟩) w) := by
  obtain ⟨x, z, y⟩ := L
  have hR0 : MsgsAt w A1 x ∧ MsgsAt w A2 y ∧ PktsAt w A3 z := ⟨hR.r1, hR.r2, hR.r3⟩
  have HC := Lib.hid (fun W (h : LnkR A1 A2 A3 ⟨x, z, y⟩ W) => CopyLink_own A1 c1 A2 c2 A3 c3 ⟨x, z, y⟩ W (by have := hok.l1; omega) (by have := hok.l2; omega) (by have := hok.l3; omega) h)
  have l1 : x.length ≤ 30 := hok.l1
  have l2 : y.length ≤ 30 := hok.l2
  have l3 : z.length ≤ 60 := hok.l3
  have HOK := Lib.hid hok
  have HRM : Hid (rmv ⟨x, z, y⟩ ⟨1, (j : Int), m⟩ = rmv ⟨x, z, y⟩ ⟨1, (j : Int), m⟩) := Lib.hid rfl
  clear hok hR0
  have hj : j < x.length := hj0
  clear hj0
  simp only [LnkV]
  go_enter Try.func49, Try.ntmps49
  go_wp2_with (fail)
  have hb0 : Below w.heap.size w (((w.alloc (.cells #[.slice A1 x.length c1, .slice A3 z.length c3, .slice A2 y.length c2] 41)).alloc (.cells #[.int .i64 1, .int .i64 (j : Int), .string m.s, .int .i64 m.v, .int .i64 m.l] 47)).alloc (.cells #[.slice none 0 0, .slice none 0 0, .slice none 0 0] 41)) := below_alloc _ (Nat.le_refl _) (below_alloc _ (Nat.le_refl _) (below_alloc _ (Nat.le_refl _) (Below.refl _ _)))
  have p0 : (((w.alloc (.cells #[.slice A1 x.length c1, .slice A3 z.length c3, .slice A2 y.length c2] 41)).alloc (.cells #[.int .i64 1, .int .i64 (j : Int), .string m.s, .int .i64 m.v, .int .i64 m.l] 47)).alloc (.cells #[.slice none 0 0, .slice none 0 0, .slice none 0 0] 41)).cell? ⟨w.heap.size, 0, none⟩ = some (.slice A1 x.length c1) := cell_alloc _ (cell_alloc _ (cell_new (by simp) rfl))
  have p1 : (((w.alloc (.cells #[.slice A1 x.length c1, .slice A3 z.length c3, .slice A2 y.length c2] 41)).alloc (.cells #[.int .i64 1, .int .i64 (j : Int), .string m.s, .int .i64 m.v, .int .i64 m.l] 47)).alloc (.cells #[.slice none 0 0, .slice none 0 0, .slice none 0 0] 41)).cell? ⟨w.heap.size, 1, none⟩ = some (.slice A3 z.length c3) := cell_alloc _ (cell_alloc _ (cell_new (by simp) rfl))
  have p2 : (((w.alloc (.cells #[.slice A1 x.length c1, .slice A3 z.length c3, .slice A2 y.length c2] 41)).alloc (.cells #[.int .i64 1, .int .i64 (j : Int), .string m.s, .int .i64 m.v, .int .i64 m.l] 47)).alloc (.cells #[.slice none 0 0, .slice none 0 0, .slice none 0 0] 41)).cell? ⟨w.heap.size, 2, none⟩ = some (.slice A2 y.length c2) := cell_alloc _ (cell_alloc _ (cell_new (by simp) rfl))
  have pk : (((w.alloc (.cells #[.slice A1 x.length c1, .slice A3 z.length c3, .slice A2 y.length c2] 41)).alloc (.cells #[.int .i64 1, .int .i64 (j : Int), .string m.s, .int .i64 m.v, .int .i64 m.l] 47)).alloc (.cells #[.slice none 0 0, .slice none 0 0, .slice none 0 0] 41)).heap[w.heap.size]? = some (.cells #[.slice A1 x.length c1, .slice A3 z.length c3, .slice A2 y.length c2] 41) := blk_alloc _ (blk_alloc _ (blk_new (by simp)))
  have zp : w.heap.size < (((w.alloc (.cells #[.slice A1 x.length c1, .slice A3 z.length c3, .slice A2 y.length c2] 41)).alloc (.cells #[.int .i64 1, .int .i64 (j : Int), .string m.s, .int .i64 m.v, .int .i64 m.l] 47)).alloc (.cells #[.slice none 0 0, .slice none 0 0, .slice none 0 0] 41)).heap.size := World.block_lt_of_cell? _ _ p0
  have q0 : (((w.alloc (.cells #[.slice A1 x.length c1, .slice A3 z.length c3, .slice A2 y.length c2] 41)).alloc (.cells #[.int .i64 1, .int .i64 (j : Int), .string m.s, .int .i64 m.v, .int .i64 m.l] 47)).alloc (.cells #[.slice none 0 0, .slice none 0 0, .slice none 0 0] 41)).cell? ⟨w.heap.size + 1, 0, none⟩ = some (.int .i64 1) := cell_alloc _ (cell_new (by simp) rfl)
  have q1 : (((w.alloc (.cells #[.slice A1 x.length c1, .slice A3 z.length c3, .slice A2 y.length c2] 41)).alloc (.cells #[.int .i64 1, .int .i64 (j : Int), .string m.s, .int .i64 m.v, .int .i64 m.l] 47)).alloc (.cells #[.slice none 0 0, .slice none 0 0, .slice none 0 0] 41)).cell? ⟨w.heap.size + 1, 1, none⟩ = some (.int .i64 (j : Int)) := cell_alloc _ (cell_new (by simp) rfl)
  have q2 : (((w.alloc (.cells #[.slice A1 x.length c1, .slice A3 z.length c3, .slice A2 y.length c2] 41)).alloc (.cells #[.int .i64 1, .int .i64 (j : Int), .string m.s, .int .i64 m.v, .int .i64 m.l] 47)).alloc (.cells #[.slice none 0 0, .slice none 0 0, .slice none 0 0] 41)).cell? ⟨w.heap.size + 1, 2, none⟩ = some (.string m.s) := cell_alloc _ (cell_new (by simp) rfl)
  have q3 : (((w.alloc (.cells #[.slice A1 x.length c1, .slice A3 z.length c3, .slice A2 y.length c2] 41)).alloc (.cells #[.int .i64 1, .int .i64 (j : Int), .string m.s, .int .i64 m.v, .int .i64 m.l] 47)).alloc (.cells #[.slice none 0 0, .slice none 0 0, .slice none 0 0] 41)).cell? ⟨w.heap.size + 1, 3, none⟩ = some (.int .i64 m.v) := cell_alloc _ (cell_new (by simp) rfl)
  have q4 : (((w.alloc (.cells #[.slice A1 x.length c1, .slice A3 z.length c3, .slice A2 y.length c2] 41)).alloc (.cells #[.int .i64 1, .int .i64 (j : Int), .string m.s, .int .i64 m.v, .int .i64 m.l] 47)).alloc (.cells #[.slice none 0 0, .slice none 0 0, .slice none 0 0] 41)).cell? ⟨w.heap.size + 1, 4, none⟩ = some (.int .i64 m.l) := cell_alloc _ (cell_new (by simp) rfl)
  have qk : (((w.alloc (.cells #[.slice A1 x.length c1, .slice A3 z.length c3, .slice A2 y.length c2] 41)).alloc (.cells #[.int .i64 1, .int .i64 (j : Int), .string m.s, .int .i64 m.v, .int .i64 m.l] 47)).alloc (.cells #[.slice none 0 0, .slice none 0 0, .slice none 0 0] 41)).heap[w.heap.size + 1]? = some (.cells #[.int .i64 1, .int .i64 (j : Int), .string m.s, .int .i64 m.v, .int .i64 m.l] 47) := blk_alloc _ (blk_new (by simp))
  have zq : w.heap.size + 1 < (((w.alloc (.cells #[.slice A1 x.length c1, .slice A3 z.length c3, .slice A2 y.length c2] 41)).alloc (.cells #[.int .i64 1, .int .i64 (j : Int), .string m.s, .int .i64 m.v, .int .i64 m.l] 47)).alloc (.cells #[.slice none 0 0, .slice none 0 0, .slice none 0 0] 41)).heap.size := World.block_lt_of_cell? _ _ q0
  have s0 : (((w.alloc (.cells #[.slice A1 x.length c1, .slice A3 z.length c3, .slice A2 y.length c2] 41)).alloc (.cells #[.int .i64 1, .int .i64 (j : Int), .string m.s, .int .i64 m.v, .int .i64 m.l] 47)).alloc (.cells #[.slice none 0 0, .slice none 0 0, .slice none 0 0] 41)).cell? ⟨w.heap.size + 1 + 1, 0, none⟩ = some (.slice none 0 0) := cell_new (by simp) rfl
  have s1 : (((w.alloc (.cells #[.slice A1 x.length c1, .slice A3 z.length c3, .slice A2 y.length c2] 41)).alloc (.cells #[.int .i64 1, .int .i64 (j : Int), .string m.s, .int .i64 m.v, .int .i64 m.l] 47)).alloc (.cells #[.slice none 0 0, .slice none 0 0, .slice none 0 0] 41)).cell? ⟨w.heap.size + 1 + 1, 1, none⟩ = some (.slice none 0 0) := cell_new (by simp) rfl
  have s2 : (((w.alloc (.cells #[.slice A1 x.length c1, .slice A3 z.length c3, .slice A2 y.length c2] 41)).alloc (.cells #[.int .i64 1, .int .i64 (j : Int), .string m.s, .int .i64 m.v, .int .i64 m.l] 47)).alloc (.cells #[.slice none 0 0, .slice none 0 0, .slice none 0 0] 41)).cell? ⟨w.heap.size + 1 + 1, 2, none⟩ = some (.slice none 0 0) := cell_new (by simp) rfl
  have sk : (((w.alloc (.cells #[.slice A1 x.length c1, .slice A3 z.length c3, .slice A2 y.length c2] 41)).alloc (.cells #[.int .i64 1, .int .i64 (j : Int), .string m.s, .int .i64 m.v, .int .i64 m.l] 47)).alloc (.cells #[.slice none 0 0, .slice none 0 0, .slice none 0 0] 41)).heap[w.heap.size + 1 + 1]? = some (.cells #[.slice none 0 0, .slice none 0 0, .slice none 0 0] 41) := blk_new (by simp)
  have zs : w.heap.size + 1 + 1 < (((w.alloc (.cells #[.slice A1 x.length c1, .slice A3 z.length c3, .slice A2 y.length c2] 41)).alloc (.cells #[.int .i64 1, .int .i64 (j : Int), .string m.s, .int .i64 m.v, .int .i64 m.l] 47)).alloc (.cells #[.slice none 0 0, .slice none 0 0, .slice none 0 0] 41)).heap.size := World.block_lt_of_cell? _ _ s0
  generalize (((w.alloc (.cells #[.slice A1 x.length c1, .slice A3 z.length c3, .slice A2 y.length c2] 41)).alloc (.cells #[.int .i64 1, .int .i64 (j : Int), .string m.s, .int .i64 m.v, .int .i64 m.l] 47)).alloc (.cells #[.slice none 0 0, .slice none 0 0, .slice none 0 0] 41)) = w0 at *
  refine (HC.out _ (hR.below hb0)).mono ?_
  rintro e w1 ⟨B1, d1, B2, d2, B3, d3, rfl, own, hb1, zw1⟩
  clear HC hR
  have hak := blk_below' hb1 pk
  have hbk := blk_below' hb1 qk
  have hck := blk_below' hb1 sk
  have zz := hb1.size
  have hbw1 : Below w.heap.size w w1 := hb0.trans (hb1.mono hb0.size)
  clear pk qk sk p0 p1 p2 q0 q1 q2 q3 q4 s0 s1 s2 hb0 hb1
  have p0 := blk_cell hak (j := 0) rfl
  have p1 := blk_cell hak (j := 1) rfl
  have p2 := blk_cell hak (j := 2) rfl
  have pf0 := blk_frozen (j := 0) hak
  have pf1 := blk_frozen (j := 1) hak
  have pf2 := blk_frozen (j := 2) hak
  have zx : w.heap.size + 2 < w1.heap.size := Nat.lt_of_lt_of_le zs zz
  go_upto_region 2 with (fail)
  have pk := blk_set3 (v0 := .slice B1 x.length d1) (v1 := .slice B3 z.length d3) (v2 := .slice B2 y.length d2) hak
  have qk := blk_far3 (b := w.heap.size) (v0 := .slice B1 x.length d1) (v1 := .slice B3 z.length d3) (v2 := .slice B2 y.length d2) (by omega) hbk
  have sk := blk_far3 (b := w.heap.size) (v0 := .slice B1 x.length d1) (v1 := .slice B3 z.length d3) (v2 := .slice B2 y.length d2) (by omega) hck
  have own2 := ((own.set (j := 0) (a := w.heap.size) (by omega) (.slice B1 x.length d1)).set (j := 1) (a := w.heap.size) (by omega) (.slice B3 z.length d3)).set (j := 2) (a := w.heap.size) (by omega) (.slice B2 y.length d2)
  have zB2 : w0.heap.size + 2 ≤ (((w1.setCell ⟨w.heap.size, 0, none⟩ (.slice B1 x.length d1)).setCell ⟨w.heap.size, 1, none⟩ (.slice B3 z.length d3)).setCell ⟨w.heap.size, 2, none⟩ (.slice B2 y.length d2)).heap.size := by simp; omega
  have hbw : Below w.heap.size w (((w1.setCell ⟨w.heap.size, 0, none⟩ (.slice B1 x.length d1)).setCell ⟨w.heap.size, 1, none⟩ (.slice B3 z.length d3)).setCell ⟨w.heap.size, 2, none⟩ (.slice B2 y.length d2)) := below_set _ (by simp) (below_set _ (by simp) (below_set _ (by simp) hbw1))
  have zx2 : w.heap.size + 2 < (((w1.setCell ⟨w.heap.size, 0, none⟩ (.slice B1 x.length d1)).setCell ⟨w.heap.size, 1, none⟩ (.slice B3 z.length d3)).setCell ⟨w.heap.size, 2, none⟩ (.slice B2 y.length d2)).heap.size := by simp; omega
  clear hak hbk hck p0 p1 p2 pf0 pf1 pf2 own hbw1 zx zz zw1
  generalize (((w1.setCell ⟨w.heap.size, 0, none⟩ (.slice B1 x.length d1)).setCell ⟨w.heap.size, 1, none⟩ (.slice B3 z.length d3)).setCell ⟨w.heap.size, 2, none⟩ (.slice B2 y.length d2)) = w2 at *
  have OWN := Lib.hid own2
  have zB : w.heap.size + 2 < w0.heap.size := zs
  have za2 : w.heap.size < w2.heap.size := by omega
  have zpB : w.heap.size < w0.heap.size + 2 := by omega
  have zqB : w.heap.size + 1 < w0.heap.size + 2 := by omega
  have zsB : w.heap.size + 1 + 1 < w0.heap.size + 2 := by omega
  have zb2 : w.heap.size + 1 < w2.heap.size := by omega
  clear own2 zp zq zs w1
  have p0 : w2.cell? ⟨w.heap.size, 0, none⟩ = some (.slice B1 x.length d1) := blk_cell pk (j := 0) rfl
  have pf0 := blk_frozen (j := 0) pk
  have p1 : w2.cell? ⟨w.heap.size, 1, none⟩ = some (.slice B3 z.length d3) := blk_cell pk (j := 1) rfl
  have pf1 := blk_frozen (j := 1) pk
  have p2 : w2.cell? ⟨w.heap.size, 2, none⟩ = some (.slice B2 y.length d2) := blk_cell pk (j := 2) rfl
  have pf2 := blk_frozen (j := 2) pk
  have q0 : w2.cell? ⟨w.heap.size + 1, 0, none⟩ = some (.int .i64 1) := blk_cell qk (j := 0) rfl
  have q1 : w2.cell? ⟨w.heap.size + 1, 1, none⟩ = some (.int .i64 (j : Int)) := blk_cell qk (j := 1) rfl
  have q2 : w2.cell? ⟨w.heap.size + 1, 2, none⟩ = some (.string m.s) := blk_cell qk (j := 2) rfl
  have q3 : w2.cell? ⟨w.heap.size + 1, 3, none⟩ = some (.int .i64 m.v) := blk_cell qk (j := 3) rfl
  have q4 : w2.cell? ⟨w.heap.size + 1, 4, none⟩ = some (.int .i64 m.l) := blk_cell qk (j := 4) rfl
  have s0 : w2.cell? ⟨w.heap.size + 1 + 1, 0, none⟩ = some (.slice none 0 0) := blk_cell sk (j := 0) rfl
  have sf0 := blk_frozen (j := 0) sk
  have s1 : w2.cell? ⟨w.heap.size + 1 + 1, 1, none⟩ = some (.slice none 0 0) := blk_cell sk (j := 1) rfl
  have sf1 := blk_frozen (j := 1) sk
  have s2 : w2.cell? ⟨w.heap.size + 1 + 1, 2, none⟩ = some (.slice none 0 0) := blk_cell sk (j := 2) rfl
  have sf2 := blk_frozen (j := 2) sk
  have HQ := Lib.hid (rmv_send x z y j m hj hz)
  have hj1 : (j : Int) < (x.length : Int) := by omega
  have HW := Lib.hid (withinB_true.2 ⟨by omega, by omega⟩ : withinB (j : Int) 0 ((x.length : Int) - 1) = true)
  have iw : IntKind.i64.wrap ((x.length : Int) - 1) = (x.length : Int) - 1 := IntWalk.i64_in _ (by omega)
  have heq := neqZ m
  rw [hz] at heq
  obtain ⟨b1, o1, rfl, hb1, e0, e1, e2⟩ := MsgsAt.at_ OWN.out.reads.r1 hj
  clear HRM
  generalize x[j] = o at *
  go_wp2_with (go_at_call 22; refine (Within_any _ _ _ _).mono ?_; rintro e w' ⟨rfl, rfl⟩; (first | rw [show withinB 1 0 4 = true from rfl] | rw [HW.out]))
  go_region_law (refine step_appPkt _ rfl (.tmp 70) (.tmp 78) rfl (w0.heap.size + 2) B3 z.length d3 (cellsOf 4 pktC z) (by simp [Act.eval, Act.put]) (by first | exact World.ownsRow.alloc OWN.out.o3 _ | exact OWN.out.o3) (some ⟨_, 0, none⟩) 1 1 (cellsOf 4 pktC [⟨o, false⟩]) (by simp [Act.eval, Act.put]; rfl) rfl (fun e => by cases e) (fun ad e => by cases e; exact RowsAt.news (rows_blkW (f := pktC) (m := 4) (l := [⟨o, false⟩]) (blk_new rfl) rfl) (by decide)) mem_oneP (by omega) (by simp; omega) ?_; intro A5 d5 w5 own5 hg5 halt5; have hb5 : Below (w0.heap.size + 2) w2 w5 := (by exact below_own (below_alloc _ zB2 ((Below.refl _ w2).drew)) hg5 (World.ownsRow.alloc OWN.out.o3 _) (Nat.le_refl _) (by simp; omega)); have p15 := cell_below hb5 p1 zpB; have pf15 := frozen_below hb5 zpB pf1)
  all_goals
    have hL : z.length + 1 = (z ++ [Pkt.mk o false]).length := by simp
    rw [hL] at own5 ⊢
    rw [← cellsOf_append] at own5
    have hl' : (z ++ [Pkt.mk o false]).length = z.length + 1 := by simp
    obtain ⟨r1, r2⟩ := OWN.out.app hg5 (fun g o h => blk_alloc _ h)
    have r3 : PktsAt w5 A5 (z ++ [Pkt.mk o false]) := rowsAt_of_own own5 rfl (by decide)
    have HL := Lib.hid hl'
    clear hL own5 hl' hg5 halt5 OWN
    generalize z ++ [Pkt.mk o false] = z' at *
    replace pk := blk_B hb5 zpB pk
    replace qk := blk_B hb5 zqB qk
    replace sk := blk_B hb5 zsB sk
    replace hbw := hbw.trans (hb5.mono (by omega))
    replace zx2 := Nat.lt_of_lt_of_le zx2 hb5.size
    replace za2 := Nat.lt_of_lt_of_le za2 hb5.size
    replace zb2 := Nat.lt_of_lt_of_le zb2 hb5.size
    replace zB2 := Nat.le_trans zB2 hb5.size
    have pk' : (w5.setCell ⟨w.heap.size, 1, none⟩ (.slice A5 z'.length d5)).heap[w.heap.size]? = some (.cells #[.slice (some ⟨b1, o1, none⟩) x.length d1, .slice A5 z'.length d5, .slice B2 y.length d2] 41) := heap_set pk
    have qk' := blk_far (p := ⟨w.heap.size, 1, none⟩) (.slice A5 z'.length d5) (by show _ ≠ w.heap.size; omega) qk
    have sk' := blk_far (p := ⟨w.heap.size, 1, none⟩) (.slice A5 z'.length d5) (by show _ ≠ w.heap.size; omega) sk
    have hbw' : Below w.heap.size w (w5.setCell ⟨w.heap.size, 1, none⟩ (.slice A5 z'.length d5)) := below_set _ (by simp) hbw
    have zx' : w.heap.size + 2 < (w5.setCell ⟨w.heap.size, 1, none⟩ (.slice A5 z'.length d5)).heap.size := by simp; omega
    have zy' : w0.heap.size + 2 ≤ (w5.setCell ⟨w.heap.size, 1, none⟩ (.slice A5 z'.length d5)).heap.size := by simp; omega
    have hL2 := lnk_far1 (j := 1) (v := .slice A5 z'.length d5) (show LnkR (some ⟨b1, o1, none⟩) B2 A5 ⟨x, z', y⟩ w5 from ⟨r1, r2, r3⟩) pk
    clear pk qk sk hbw zx2 za2 zb2 zB2 p0 p1 p2 pf0 pf1 pf2 q0 q1 q2 q3 q4 s0 s1 s2 sf0 sf1 sf2
    generalize (w5.setCell ⟨w.heap.size, 1, none⟩ (.slice A5 z'.length d5)) = w6 at *
    have pk := pk'
    have qk := qk'
    have sk := sk'
    have hbw := hbw'
    have zx2 := zx'
    have zB2 := zy'
    have za2 : w.heap.size < w6.heap.size := by omega
    have zb2 : w.heap.size + 1 < w6.heap.size := by omega
    clear pk' qk' sk' hbw' zx' zy'
    have p0 : w6.cell? ⟨w.heap.size, 0, none⟩ = some (.slice (some ⟨b1, o1, none⟩) x.length d1) := blk_cell pk (j := 0) rfl
    have pf0 := blk_frozen (j := 0) pk
    have p1 : w6.cell? ⟨w.heap.size, 1, none⟩ = some (.slice A5 z'.length d5) := blk_cell pk (j := 1) rfl
    have pf1 := blk_frozen (j := 1) pk
    have p2 : w6.cell? ⟨w.heap.size, 2, none⟩ = some (.slice B2 y.length d2) := blk_cell pk (j := 2) rfl
    have pf2 := blk_frozen (j := 2) pk
    have q0 : w6.cell? ⟨w.heap.size + 1, 0, none⟩ = some (.int .i64 1) := blk_cell qk (j := 0) rfl
    have q1 : w6.cell? ⟨w.heap.size + 1, 1, none⟩ = some (.int .i64 (j : Int)) := blk_cell qk (j := 1) rfl
    have q2 : w6.cell? ⟨w.heap.size + 1, 2, none⟩ = some (.string m.s) := blk_cell qk (j := 2) rfl
    have q3 : w6.cell? ⟨w.heap.size + 1, 3, none⟩ = some (.int .i64 m.v) := blk_cell qk (j := 3) rfl
    have q4 : w6.cell? ⟨w.heap.size + 1, 4, none⟩ = some (.int .i64 m.l) := blk_cell qk (j := 4) rfl
    have s0 : w6.cell? ⟨w.heap.size + 1 + 1, 0, none⟩ = some (.slice none 0 0) := blk_cell sk (j := 0) rfl
    have sf0 := blk_frozen (j := 0) sk
    have s1 : w6.cell? ⟨w.heap.size + 1 + 1, 1, none⟩ = some (.slice none 0 0) := blk_cell sk (j := 1) rfl
    have sf1 := blk_frozen (j := 1) sk
    have s2 : w6.cell? ⟨w.heap.size + 1 + 1, 2, none⟩ = some (.slice none 0 0) := blk_cell sk (j := 2) rfl
    have sf2 := blk_frozen (j := 2) sk
    clear r1 r2 r3 hb5 p15 pf15
    have hq := HQ.out
    by_cases h6 : 60 ≤ z.length
    · rw [if_pos h6] at hq
      replace hq := Lib.hid hq
      have hg6 : (60 : Int) < (z'.length : Int) := by have := HL.out; omega
      clear HL h6
      go_wp2_with (fail)
      refine bodyPost_ret (v := .tuple #[.agg #[.slice none 0 0, .slice none 0 0, .slice none 0 0], .int .i64 16]) (by simp [results, Try.results49, go_sem, s0, s1, s2, zx2]) rfl ?_
      rw [hq.out]
      exact ⟨none, 0, none, 0, none, 0, rfl, lnkR_z, (by repeat (first | assumption | exact Below.refl _ _ | refine Below.drew ?_ | (refine below_alloc _ ?_ ?_; focus (first | omega | (simp; done) | (simp; omega) | (simp at *; omega))) | (refine below_set _ ?_ ?_; focus (first | omega | (simp; done) | (simp; omega) | (simp at *; omega))) | refine below_drewN ?_ _ | (refine below_call (by assumption) ?_ ?_; focus (first | omega | (simp; done) | (simp; omega) | (simp at *; omega))) | (refine below_call' (by assumption) ?_ ?_; focus (first | omega | (simp; done) | (simp; omega) | (simp at *; omega)))))⟩
    · rw [if_neg h6] at hq
      replace hq := Lib.hid hq
      have hg6 : ¬ ((60 : Int) < (z'.length : Int)) := by have := HL.out; omega
      clear HL h6
      go_wp2_with (fail)
      have hLF := lnk_farB (v0 := .slice (some ⟨b1, o1, none⟩) x.length d1) (v1 := .slice A5 z'.length d5) (v2 := .slice B2 y.length d2) hL2 sk
      refine bodyPost_ret (v := .tuple #[.agg #[.slice (some ⟨b1, o1, none⟩) x.length d1, .slice A5 z'.length d5, .slice B2 y.length d2], .int .i64 0]) (by simp [results, Try.results49, go_sem, s0, s1, s2, zx2]) rfl ?_
      rw [hq.out]
      exact ⟨some ⟨b1, o1, none⟩, d1, B2, d2, A5, d5, rfl, hLF, below_set _ (by simp; omega) (below_set _ (by simp; omega) (below_set _ (by simp; omega) hbw))⟩
end Go.Proofs.Ytcfbnmcdncndpaa
