/-
  Chapter 8: the reference's Moved: take, an acknowledgement (printed by mk_rmv.py).
-/
import Derived.Test.YtcfbnmcdncndpaaWRmC
namespace Go.Proofs.Ytcfbnmcdncndpaa
open Go.ChangeShapes Go.WideShapes Go.ChangeAt Go.RowKit
set_option linter.unusedVariables false
set_option linter.unusedSimpArgs false

theorem step_appMsg (w : World) {ops : Array Oper} {o : Oper} {a : Act} {K : Act → World → Prop} {Q : Exit → Act → World → Prop} {E : Prop} (hgd : o.guard = none) (s x : Operand)
    (ho : o.op = .call { callee := .builtin .append, args := #[s, x], argTypes := #[38, 38] })
    (base : Nat) (A0 : Option Addr) (n c0 : Nat) (xs : List Value) (hs : a.eval s = .slice A0 n c0) (hown : w.ownsRow base 45 3 (.slice A0 n c0) n xs)
    (A : Option Addr) (m c : Nat) (news : List Value) (hx : a.eval x = .slice A m c) (hl : news.length = m * 3) (hA : A = none → m = 0) (hnews : ∀ ad, A = some ad → ∀ j u, news[j]? = some u → w.cell? (ad.add j) = some u) (h1 : ∀ u ∈ news, u.oneCell' = true)
    (hnm : n + m ≤ 1000000) (hbase : base ≤ w.heap.size)
    (h : ∀ A' c' w', w'.ownsRow base 45 3 (.slice A' (n + m) c') (n + m) (xs ++ news) → w.grownBy w' (Value.ownBlock (.slice A0 n c0)) → (Value.ownBlock (.slice A' (n + m) c') = Value.ownBlock (.slice A0 n c0) ∨ Value.ownBlock (.slice A' (n + m) c') = some w.heap.size) → K (a.put o.dst (.slice A' (n + m) c')) w') :
    if Region.wanted o (yielded ops a.tmps) = true then Oper.wp Try.prog o a w K Q else E := by
  obtain ⟨i0, hi, hz0, hz1, hz2⟩ := infoMsg_
  exact step_append_rows w hgd s x 38 ho base 45 i0 (.agg #[.string ⟨#[]⟩, .int .i64 0, .int .i64 0]) 3 32 Try.underlying38 hi hz0 hz1 hz2 rfl (by decide) A0 n c0 xs hs hown A m c news hx hl hA hnews h1 (by unfold maxLen; omega) (by omega) hbase h
theorem rowsAt_drop' {α : Type} {m : Nat} {f : α → Nat → Value} {w : World} {b o : Nat} {l : List α} (h : RowsAt m f w (some ⟨b, o, none⟩) l) (n : Nat) : RowsAt m f w (some ⟨b, o + n * m, none⟩) (l.drop n) := fun k x hk => by
  rw [List.getElem?_drop] at hk
  obtain ⟨b', o', e, hlt, hc⟩ := h (n + k) x hk
  injection e with e
  injection e with e1 e2
  subst e1 e2
  exact ⟨b, o + n * m, rfl, hlt, fun j hj => by rw [show o + n * m + k * m + j = o + (n + k) * m + j by rw [Nat.add_mul]; omega]; exact hc j hj⟩
theorem own_capM {w : World} {B : Nat} {e : TypeId} {size : Nat} {A : Option Addr} {m c n : Nat} {xs : List Value} (h : w.ownsRow B e size (.slice A m c) n xs) : c ≤ maxLen := by
  obtain ⟨h1, h2⟩ := h
  rcases h2 with ⟨hv, hn, hx⟩ | ⟨g, cap, cur, hv, hg, hh, hle, hm, r⟩
  · injection hv with h3 h4 h5; omega
  · injection hv with h3 h4 h5; omega
set_option maxRecDepth 100000 in
set_option maxHeartbeats 4000000 in
theorem RMovedTA_any (A1 : Option Addr) (c1 : Nat) (A2 : Option Addr) (c2 : Nat) (A3 : Option Addr) (c3 : Nat) (L : Lnk) (j : Nat) (m : Msg) (w : World) (hR : LnkR A1 A2 A3 L w) (hok : OkL L) (hz : isZ m = true) (hj0 : j < L.wire.length) (ha : ∀ o, L.wire[j]? = some o → o.a = true) :
    Calls Try.prog 49 #[LnkV A1 c1 A2 c2 A3 c3 L, .agg #[.int .i64 4, .int .i64 (j : Int), .string m.s, .int .i64 m.v, .int .i64 m.l]] w (LnkE2 (rmv L ⟨4, (j : Int), m⟩) w) := by
  obtain ⟨x, z, y⟩ := L
  have hR0 : MsgsAt w A1 x ∧ MsgsAt w A2 y ∧ PktsAt w A3 z := ⟨hR.r1, hR.r2, hR.r3⟩
  have HC := Lib.hid (fun W (h : LnkR A1 A2 A3 ⟨x, z, y⟩ W) => CopyLink_own A1 c1 A2 c2 A3 c3 ⟨x, z, y⟩ W (by have := hok.l1; omega) (by have := hok.l2; omega) (by have := hok.l3; omega) h)
  have l1 : x.length ≤ 30 := hok.l1
  have l2 : y.length ≤ 30 := hok.l2
  have l3 : z.length ≤ 60 := hok.l3
  have HOK := Lib.hid hok
  have HRM : Hid (rmv ⟨x, z, y⟩ ⟨4, (j : Int), m⟩ = rmv ⟨x, z, y⟩ ⟨4, (j : Int), m⟩) := Lib.hid rfl
  clear hok hR0
  have hj : j < z.length := hj0
  have HA1 := Lib.hid (show z[j].a = true from ha _ (List.getElem?_eq_getElem hj))
  clear ha
  simp only [LnkV]
  go_enter Try.func49, Try.ntmps49
  go_wp2_with (fail)
  have hb0 : Below w.heap.size w (((w.alloc (.cells #[.slice A1 x.length c1, .slice A3 z.length c3, .slice A2 y.length c2] 41)).alloc (.cells #[.int .i64 4, .int .i64 (j : Int), .string m.s, .int .i64 m.v, .int .i64 m.l] 47)).alloc (.cells #[.slice none 0 0, .slice none 0 0, .slice none 0 0] 41)) := below_alloc _ (Nat.le_refl _) (below_alloc _ (Nat.le_refl _) (below_alloc _ (Nat.le_refl _) (Below.refl _ _)))
  have p0 : (((w.alloc (.cells #[.slice A1 x.length c1, .slice A3 z.length c3, .slice A2 y.length c2] 41)).alloc (.cells #[.int .i64 4, .int .i64 (j : Int), .string m.s, .int .i64 m.v, .int .i64 m.l] 47)).alloc (.cells #[.slice none 0 0, .slice none 0 0, .slice none 0 0] 41)).cell? ⟨w.heap.size, 0, none⟩ = some (.slice A1 x.length c1) := cell_alloc _ (cell_alloc _ (cell_new (by simp) rfl))
  have p1 : (((w.alloc (.cells #[.slice A1 x.length c1, .slice A3 z.length c3, .slice A2 y.length c2] 41)).alloc (.cells #[.int .i64 4, .int .i64 (j : Int), .string m.s, .int .i64 m.v, .int .i64 m.l] 47)).alloc (.cells #[.slice none 0 0, .slice none 0 0, .slice none 0 0] 41)).cell? ⟨w.heap.size, 1, none⟩ = some (.slice A3 z.length c3) := cell_alloc _ (cell_alloc _ (cell_new (by simp) rfl))
  have p2 : (((w.alloc (.cells #[.slice A1 x.length c1, .slice A3 z.length c3, .slice A2 y.length c2] 41)).alloc (.cells #[.int .i64 4, .int .i64 (j : Int), .string m.s, .int .i64 m.v, .int .i64 m.l] 47)).alloc (.cells #[.slice none 0 0, .slice none 0 0, .slice none 0 0] 41)).cell? ⟨w.heap.size, 2, none⟩ = some (.slice A2 y.length c2) := cell_alloc _ (cell_alloc _ (cell_new (by simp) rfl))
  have pk : (((w.alloc (.cells #[.slice A1 x.length c1, .slice A3 z.length c3, .slice A2 y.length c2] 41)).alloc (.cells #[.int .i64 4, .int .i64 (j : Int), .string m.s, .int .i64 m.v, .int .i64 m.l] 47)).alloc (.cells #[.slice none 0 0, .slice none 0 0, .slice none 0 0] 41)).heap[w.heap.size]? = some (.cells #[.slice A1 x.length c1, .slice A3 z.length c3, .slice A2 y.length c2] 41) := blk_alloc _ (blk_alloc _ (blk_new (by simp)))
  have zp : w.heap.size < (((w.alloc (.cells #[.slice A1 x.length c1, .slice A3 z.length c3, .slice A2 y.length c2] 41)).alloc (.cells #[.int .i64 4, .int .i64 (j : Int), .string m.s, .int .i64 m.v, .int .i64 m.l] 47)).alloc (.cells #[.slice none 0 0, .slice none 0 0, .slice none 0 0] 41)).heap.size := World.block_lt_of_cell? _ _ p0
  have q0 : (((w.alloc (.cells #[.slice A1 x.length c1, .slice A3 z.length c3, .slice A2 y.length c2] 41)).alloc (.cells #[.int .i64 4, .int .i64 (j : Int), .string m.s, .int .i64 m.v, .int .i64 m.l] 47)).alloc (.cells #[.slice none 0 0, .slice none 0 0, .slice none 0 0] 41)).cell? ⟨w.heap.size + 1, 0, none⟩ = some (.int .i64 4) := cell_alloc _ (cell_new (by simp) rfl)
  have q1 : (((w.alloc (.cells #[.slice A1 x.length c1, .slice A3 z.length c3, .slice A2 y.length c2] 41)).alloc (.cells #[.int .i64 4, .int .i64 (j : Int), .string m.s, .int .i64 m.v, .int .i64 m.l] 47)).alloc (.cells #[.slice none 0 0, .slice none 0 0, .slice none 0 0] 41)).cell? ⟨w.heap.size + 1, 1, none⟩ = some (.int .i64 (j : Int)) := cell_alloc _ (cell_new (by simp) rfl)
  have q2 : (((w.alloc (.cells #[.slice A1 x.length c1, .slice A3 z.length c3, .slice A2 y.length c2] 41)).alloc (.cells #[.int .i64 4, .int .i64 (j : Int), .string m.s, .int .i64 m.v, .int .i64 m.l] 47)).alloc (.cells #[.slice none 0 0, .slice none 0 0, .slice none 0 0] 41)).cell? ⟨w.heap.size + 1, 2, none⟩ = some (.string m.s) := cell_alloc _ (cell_new (by simp) rfl)
  have q3 : (((w.alloc (.cells #[.slice A1 x.length c1, .slice A3 z.length c3, .slice A2 y.length c2] 41)).alloc (.cells #[.int .i64 4, .int .i64 (j : Int), .string m.s, .int .i64 m.v, .int .i64 m.l] 47)).alloc (.cells #[.slice none 0 0, .slice none 0 0, .slice none 0 0] 41)).cell? ⟨w.heap.size + 1, 3, none⟩ = some (.int .i64 m.v) := cell_alloc _ (cell_new (by simp) rfl)
  have q4 : (((w.alloc (.cells #[.slice A1 x.length c1, .slice A3 z.length c3, .slice A2 y.length c2] 41)).alloc (.cells #[.int .i64 4, .int .i64 (j : Int), .string m.s, .int .i64 m.v, .int .i64 m.l] 47)).alloc (.cells #[.slice none 0 0, .slice none 0 0, .slice none 0 0] 41)).cell? ⟨w.heap.size + 1, 4, none⟩ = some (.int .i64 m.l) := cell_alloc _ (cell_new (by simp) rfl)
  have qk : (((w.alloc (.cells #[.slice A1 x.length c1, .slice A3 z.length c3, .slice A2 y.length c2] 41)).alloc (.cells #[.int .i64 4, .int .i64 (j : Int), .string m.s, .int .i64 m.v, .int .i64 m.l] 47)).alloc (.cells #[.slice none 0 0, .slice none 0 0, .slice none 0 0] 41)).heap[w.heap.size + 1]? = some (.cells #[.int .i64 4, .int .i64 (j : Int), .string m.s, .int .i64 m.v, .int .i64 m.l] 47) := blk_alloc _ (blk_new (by simp))
  have zq : w.heap.size + 1 < (((w.alloc (.cells #[.slice A1 x.length c1, .slice A3 z.length c3, .slice A2 y.length c2] 41)).alloc (.cells #[.int .i64 4, .int .i64 (j : Int), .string m.s, .int .i64 m.v, .int .i64 m.l] 47)).alloc (.cells #[.slice none 0 0, .slice none 0 0, .slice none 0 0] 41)).heap.size := World.block_lt_of_cell? _ _ q0
  have s0 : (((w.alloc (.cells #[.slice A1 x.length c1, .slice A3 z.length c3, .slice A2 y.length c2] 41)).alloc (.cells #[.int .i64 4, .int .i64 (j : Int), .string m.s, .int .i64 m.v, .int .i64 m.l] 47)).alloc (.cells #[.slice none 0 0, .slice none 0 0, .slice none 0 0] 41)).cell? ⟨w.heap.size + 1 + 1, 0, none⟩ = some (.slice none 0 0) := cell_new (by simp) rfl
  have s1 : (((w.alloc (.cells #[.slice A1 x.length c1, .slice A3 z.length c3, .slice A2 y.length c2] 41)).alloc (.cells #[.int .i64 4, .int .i64 (j : Int), .string m.s, .int .i64 m.v, .int .i64 m.l] 47)).alloc (.cells #[.slice none 0 0, .slice none 0 0, .slice none 0 0] 41)).cell? ⟨w.heap.size + 1 + 1, 1, none⟩ = some (.slice none 0 0) := cell_new (by simp) rfl
  have s2 : (((w.alloc (.cells #[.slice A1 x.length c1, .slice A3 z.length c3, .slice A2 y.length c2] 41)).alloc (.cells #[.int .i64 4, .int .i64 (j : Int), .string m.s, .int .i64 m.v, .int .i64 m.l] 47)).alloc (.cells #[.slice none 0 0, .slice none 0 0, .slice none 0 0] 41)).cell? ⟨w.heap.size + 1 + 1, 2, none⟩ = some (.slice none 0 0) := cell_new (by simp) rfl
  have sk : (((w.alloc (.cells #[.slice A1 x.length c1, .slice A3 z.length c3, .slice A2 y.length c2] 41)).alloc (.cells #[.int .i64 4, .int .i64 (j : Int), .string m.s, .int .i64 m.v, .int .i64 m.l] 47)).alloc (.cells #[.slice none 0 0, .slice none 0 0, .slice none 0 0] 41)).heap[w.heap.size + 1 + 1]? = some (.cells #[.slice none 0 0, .slice none 0 0, .slice none 0 0] 41) := blk_new (by simp)
  have zs : w.heap.size + 1 + 1 < (((w.alloc (.cells #[.slice A1 x.length c1, .slice A3 z.length c3, .slice A2 y.length c2] 41)).alloc (.cells #[.int .i64 4, .int .i64 (j : Int), .string m.s, .int .i64 m.v, .int .i64 m.l] 47)).alloc (.cells #[.slice none 0 0, .slice none 0 0, .slice none 0 0] 41)).heap.size := World.block_lt_of_cell? _ _ s0
  generalize (((w.alloc (.cells #[.slice A1 x.length c1, .slice A3 z.length c3, .slice A2 y.length c2] 41)).alloc (.cells #[.int .i64 4, .int .i64 (j : Int), .string m.s, .int .i64 m.v, .int .i64 m.l] 47)).alloc (.cells #[.slice none 0 0, .slice none 0 0, .slice none 0 0] 41)) = w0 at *
  refine (HC.out _ (hR.below hb0)).mono ?_
  rintro e w1 ⟨B1, d1, B2, d2, B3, d3, rfl, own, hb1, zw1⟩
  clear HC hR
  have hak := blk_below' hb1 pk
  have hbk := blk_below' hb1 qk
  have hck := blk_below' hb1 sk
  have zz := hb1.size
  have hbw1 : Below w.heap.size w w1 := hb0.trans (hb1.mono hb0.size)
  clear pk qk sk p0 p1 p2 q0 q1 q2 q3 q4 s0 s1 s2 hb0 hb1
  have p0 := blk_cell hak (j := 0) rfl
  have p1 := blk_cell hak (j := 1) rfl
  have p2 := blk_cell hak (j := 2) rfl
  have pf0 := blk_frozen (j := 0) hak
  have pf1 := blk_frozen (j := 1) hak
  have pf2 := blk_frozen (j := 2) hak
  have zx : w.heap.size + 2 < w1.heap.size := Nat.lt_of_lt_of_le zs zz
  go_upto_region 2 with (fail)
  have pk := blk_set3 (v0 := .slice B1 x.length d1) (v1 := .slice B3 z.length d3) (v2 := .slice B2 y.length d2) hak
  have qk := blk_far3 (b := w.heap.size) (v0 := .slice B1 x.length d1) (v1 := .slice B3 z.length d3) (v2 := .slice B2 y.length d2) (by omega) hbk
  have sk := blk_far3 (b := w.heap.size) (v0 := .slice B1 x.length d1) (v1 := .slice B3 z.length d3) (v2 := .slice B2 y.length d2) (by omega) hck
  have own2 := ((own.set (j := 0) (a := w.heap.size) (by omega) (.slice B1 x.length d1)).set (j := 1) (a := w.heap.size) (by omega) (.slice B3 z.length d3)).set (j := 2) (a := w.heap.size) (by omega) (.slice B2 y.length d2)
  have zB2 : w0.heap.size + 2 ≤ (((w1.setCell ⟨w.heap.size, 0, none⟩ (.slice B1 x.length d1)).setCell ⟨w.heap.size, 1, none⟩ (.slice B3 z.length d3)).setCell ⟨w.heap.size, 2, none⟩ (.slice B2 y.length d2)).heap.size := by simp; omega
  have hbw : Below w.heap.size w (((w1.setCell ⟨w.heap.size, 0, none⟩ (.slice B1 x.length d1)).setCell ⟨w.heap.size, 1, none⟩ (.slice B3 z.length d3)).setCell ⟨w.heap.size, 2, none⟩ (.slice B2 y.length d2)) := below_set _ (by simp) (below_set _ (by simp) (below_set _ (by simp) hbw1))
  have zx2 : w.heap.size + 2 < (((w1.setCell ⟨w.heap.size, 0, none⟩ (.slice B1 x.length d1)).setCell ⟨w.heap.size, 1, none⟩ (.slice B3 z.length d3)).setCell ⟨w.heap.size, 2, none⟩ (.slice B2 y.length d2)).heap.size := by simp; omega
  clear hak hbk hck p0 p1 p2 pf0 pf1 pf2 own hbw1 zx zz zw1
  generalize (((w1.setCell ⟨w.heap.size, 0, none⟩ (.slice B1 x.length d1)).setCell ⟨w.heap.size, 1, none⟩ (.slice B3 z.length d3)).setCell ⟨w.heap.size, 2, none⟩ (.slice B2 y.length d2)) = w2 at *
  have OWN := Lib.hid own2
  have zB : w.heap.size + 2 < w0.heap.size := zs
  have za2 : w.heap.size < w2.heap.size := by omega
  have zpB : w.heap.size < w0.heap.size + 2 := by omega
  have zqB : w.heap.size + 1 < w0.heap.size + 2 := by omega
  have zsB : w.heap.size + 1 + 1 < w0.heap.size + 2 := by omega
  have zb2 : w.heap.size + 1 < w2.heap.size := by omega
  clear own2 zp zq zs w1
  have p0 : w2.cell? ⟨w.heap.size, 0, none⟩ = some (.slice B1 x.length d1) := blk_cell pk (j := 0) rfl
  have pf0 := blk_frozen (j := 0) pk
  have p1 : w2.cell? ⟨w.heap.size, 1, none⟩ = some (.slice B3 z.length d3) := blk_cell pk (j := 1) rfl
  have pf1 := blk_frozen (j := 1) pk
  have p2 : w2.cell? ⟨w.heap.size, 2, none⟩ = some (.slice B2 y.length d2) := blk_cell pk (j := 2) rfl
  have pf2 := blk_frozen (j := 2) pk
  have q0 : w2.cell? ⟨w.heap.size + 1, 0, none⟩ = some (.int .i64 4) := blk_cell qk (j := 0) rfl
  have q1 : w2.cell? ⟨w.heap.size + 1, 1, none⟩ = some (.int .i64 (j : Int)) := blk_cell qk (j := 1) rfl
  have q2 : w2.cell? ⟨w.heap.size + 1, 2, none⟩ = some (.string m.s) := blk_cell qk (j := 2) rfl
  have q3 : w2.cell? ⟨w.heap.size + 1, 3, none⟩ = some (.int .i64 m.v) := blk_cell qk (j := 3) rfl
  have q4 : w2.cell? ⟨w.heap.size + 1, 4, none⟩ = some (.int .i64 m.l) := blk_cell qk (j := 4) rfl
  have s0 : w2.cell? ⟨w.heap.size + 1 + 1, 0, none⟩ = some (.slice none 0 0) := blk_cell sk (j := 0) rfl
  have sf0 := blk_frozen (j := 0) sk
  have s1 : w2.cell? ⟨w.heap.size + 1 + 1, 1, none⟩ = some (.slice none 0 0) := blk_cell sk (j := 1) rfl
  have sf1 := blk_frozen (j := 1) sk
  have s2 : w2.cell? ⟨w.heap.size + 1 + 1, 2, none⟩ = some (.slice none 0 0) := blk_cell sk (j := 2) rfl
  have sf2 := blk_frozen (j := 2) sk
  have zB20 := zB2
  have HQ := Lib.hid (rmv_takeA x z y j m hj hz HA1.out)
  have hj1 : (j : Int) < (z.length : Int) := by omega
  have HW := Lib.hid (withinB_true.2 ⟨by omega, by omega⟩ : withinB (j : Int) 0 ((z.length : Int) - 1) = true)
  have iw : IntKind.i64.wrap ((z.length : Int) - 1) = (z.length : Int) - 1 := IntWalk.i64_in _ (by omega)
  have heq := neqZ m
  rw [hz] at heq
  obtain ⟨b1, o1, rfl, hb1, e0, e1, e2, e3⟩ := PktsAt.at_ OWN.out.reads.r3 hj
  clear HRM
  generalize z[j] = o at *
  go_upto_region 19 with (go_at_call 22; refine (Within_any _ _ _ _).mono ?_; rintro e w' ⟨rfl, rfl⟩; (first | rw [show withinB 4 0 4 = true from rfl] | rw [HW.out]))
  have rk : (w2.alloc (.cells #[.string o.m.s, .int .i64 o.m.v, .int .i64 o.m.l, .bool o.a] 150)).heap[w2.heap.size]? = some (.cells #[.string o.m.s, .int .i64 o.m.v, .int .i64 o.m.l, .bool o.a] 150) := blk_new rfl
  have hb3 : Below w2.heap.size w2 (w2.alloc (.cells #[.string o.m.s, .int .i64 o.m.v, .int .i64 o.m.l, .bool o.a] 150)) := below_alloc _ (Nat.le_refl _) (Below.refl _ _)
  have zr : w2.heap.size < (w2.alloc (.cells #[.string o.m.s, .int .i64 o.m.v, .int .i64 o.m.l, .bool o.a] 150)).heap.size := by simp
  generalize (w2.alloc (.cells #[.string o.m.s, .int .i64 o.m.v, .int .i64 o.m.l, .bool o.a] 150)) = w3 at *
  clear p0 p1 p2 pf0 pf1 pf2 q0 q1 q2 q3 q4 s0 s1 s2 sf0 sf1 sf2
  replace pk := blk_below' hb3 pk
  replace qk := blk_below' hb3 qk
  replace sk := blk_below' hb3 sk
  replace hbw := hbw.trans (hb3.mono (by omega))
  replace zx2 := Nat.lt_of_lt_of_le zx2 hb3.size
  replace za2 := Nat.lt_of_lt_of_le za2 hb3.size
  replace zB2 := Nat.le_trans zB2 hb3.size
  replace zb2 := Nat.lt_of_lt_of_le zb2 hb3.size
  replace OWN := Lib.hid (OWN.out.below hb3)
  have p0 : w3.cell? ⟨w.heap.size, 0, none⟩ = some (.slice B1 x.length d1) := blk_cell pk (j := 0) rfl
  have pf0 := blk_frozen (j := 0) pk
  have p1 : w3.cell? ⟨w.heap.size, 1, none⟩ = some (.slice (some ⟨b1, o1, none⟩) z.length d3) := blk_cell pk (j := 1) rfl
  have pf1 := blk_frozen (j := 1) pk
  have p2 : w3.cell? ⟨w.heap.size, 2, none⟩ = some (.slice B2 y.length d2) := blk_cell pk (j := 2) rfl
  have pf2 := blk_frozen (j := 2) pk
  have q0 : w3.cell? ⟨w.heap.size + 1, 0, none⟩ = some (.int .i64 4) := blk_cell qk (j := 0) rfl
  have q1 : w3.cell? ⟨w.heap.size + 1, 1, none⟩ = some (.int .i64 (j : Int)) := blk_cell qk (j := 1) rfl
  have q2 : w3.cell? ⟨w.heap.size + 1, 2, none⟩ = some (.string m.s) := blk_cell qk (j := 2) rfl
  have q3 : w3.cell? ⟨w.heap.size + 1, 3, none⟩ = some (.int .i64 m.v) := blk_cell qk (j := 3) rfl
  have q4 : w3.cell? ⟨w.heap.size + 1, 4, none⟩ = some (.int .i64 m.l) := blk_cell qk (j := 4) rfl
  have s0 : w3.cell? ⟨w.heap.size + 1 + 1, 0, none⟩ = some (.slice none 0 0) := blk_cell sk (j := 0) rfl
  have sf0 := blk_frozen (j := 0) sk
  have s1 : w3.cell? ⟨w.heap.size + 1 + 1, 1, none⟩ = some (.slice none 0 0) := blk_cell sk (j := 1) rfl
  have sf1 := blk_frozen (j := 1) sk
  have s2 : w3.cell? ⟨w.heap.size + 1 + 1, 2, none⟩ = some (.slice none 0 0) := blk_cell sk (j := 2) rfl
  have sf2 := blk_frozen (j := 2) sk
  have r0 : w3.cell? ⟨w2.heap.size, 0, none⟩ = some (.string o.m.s) := blk_cell rk rfl
  have r1 : w3.cell? ⟨w2.heap.size, 1, none⟩ = some (.int .i64 o.m.v) := blk_cell rk rfl
  have r2 : w3.cell? ⟨w2.heap.size, 2, none⟩ = some (.int .i64 o.m.l) := blk_cell rk rfl
  have r3 : w3.cell? ⟨w2.heap.size, 3, none⟩ = some (.bool o.a) := blk_cell rk rfl
  have HB2 := Lib.hid (show w0.heap.size + 2 ≤ w2.heap.size by first | assumption | exact zB20)
  clear hb3 e0 e1 e2 e3 hb1
  have HWO := Lib.hid (fun W (h : PktsAt W (some ⟨b1, o1, none⟩) z) => without_any (some ⟨b1, o1, none⟩) z d3 j W (by omega) hj h)
  rw [HA1.out] at rk r3
  have zpB0 := zpB
  go_upto_region 26 with (go_at_call 103; (with_reducible refine (HWO.out _ ?_).mono ?_); (focus (exact OWN.out.reads.r3)); rintro e va ⟨A4, d4, rfl, own4, hb4⟩; have p14 := cell_below' hb4 p1; have pf14 := frozen_below hb4 za2 pf1)
  replace zB2 := Nat.le_refl w3.heap.size
  replace zpB : w.heap.size < w3.heap.size := za2
  replace zqB : w.heap.size + 1 < w3.heap.size := zb2
  replace zsB : w.heap.size + 1 + 1 < w3.heap.size := zx2
  clear p14 pf14 r0 r1 r2 r3
  have hx5 := Lib.hid (dis_of OWN.out.o1 own4 (Nat.le_refl _))
  clear p0 p1 p2 pf0 pf1 pf2 q0 q1 q2 q3 q4 s0 s1 s2 sf0 sf1 sf2
  replace pk := blk_below' hb4 pk
  replace qk := blk_below' hb4 qk
  replace sk := blk_below' hb4 sk
  replace hbw := hbw.trans (hb4.mono (by omega))
  replace zx2 := Nat.lt_of_lt_of_le zx2 hb4.size
  replace za2 := Nat.lt_of_lt_of_le za2 hb4.size
  replace zB2 := Nat.le_trans zB2 hb4.size
  replace zb2 := Nat.lt_of_lt_of_le zb2 hb4.size
  replace OWN := Lib.hid (OWN.out.below hb4)
  have p0 : va.cell? ⟨w.heap.size, 0, none⟩ = some (.slice B1 x.length d1) := blk_cell pk (j := 0) rfl
  have pf0 := blk_frozen (j := 0) pk
  have p1 : va.cell? ⟨w.heap.size, 1, none⟩ = some (.slice (some ⟨b1, o1, none⟩) z.length d3) := blk_cell pk (j := 1) rfl
  have pf1 := blk_frozen (j := 1) pk
  have p2 : va.cell? ⟨w.heap.size, 2, none⟩ = some (.slice B2 y.length d2) := blk_cell pk (j := 2) rfl
  have pf2 := blk_frozen (j := 2) pk
  have q0 : va.cell? ⟨w.heap.size + 1, 0, none⟩ = some (.int .i64 4) := blk_cell qk (j := 0) rfl
  have q1 : va.cell? ⟨w.heap.size + 1, 1, none⟩ = some (.int .i64 (j : Int)) := blk_cell qk (j := 1) rfl
  have q2 : va.cell? ⟨w.heap.size + 1, 2, none⟩ = some (.string m.s) := blk_cell qk (j := 2) rfl
  have q3 : va.cell? ⟨w.heap.size + 1, 3, none⟩ = some (.int .i64 m.v) := blk_cell qk (j := 3) rfl
  have q4 : va.cell? ⟨w.heap.size + 1, 4, none⟩ = some (.int .i64 m.l) := blk_cell qk (j := 4) rfl
  have s0 : va.cell? ⟨w.heap.size + 1 + 1, 0, none⟩ = some (.slice none 0 0) := blk_cell sk (j := 0) rfl
  have sf0 := blk_frozen (j := 0) sk
  have s1 : va.cell? ⟨w.heap.size + 1 + 1, 1, none⟩ = some (.slice none 0 0) := blk_cell sk (j := 1) rfl
  have sf1 := blk_frozen (j := 1) sk
  have s2 : va.cell? ⟨w.heap.size + 1 + 1, 2, none⟩ = some (.slice none 0 0) := blk_cell sk (j := 2) rfl
  have sf2 := blk_frozen (j := 2) sk
  have HLE := Lib.hid (delL_len hj)
  replace rk := blk_below' hb4 rk
  replace zr := Nat.lt_of_lt_of_le zr hb4.size
  clear hb4 HWO
  generalize delL z j = zd at *
  have pk' : (va.setCell ⟨w.heap.size, 1, none⟩ (.slice A4 zd.length d4)).heap[w.heap.size]? = some (.cells #[.slice B1 x.length d1, .slice A4 zd.length d4, .slice B2 y.length d2] 41) := heap_set pk
  have qk' := blk_far (p := ⟨w.heap.size, 1, none⟩) (.slice A4 zd.length d4) (by show _ ≠ w.heap.size; omega) qk
  have sk' := blk_far (p := ⟨w.heap.size, 1, none⟩) (.slice A4 zd.length d4) (by show _ ≠ w.heap.size; omega) sk
  have hbw' : Below w.heap.size w (va.setCell ⟨w.heap.size, 1, none⟩ (.slice A4 zd.length d4)) := below_set _ (by simp) hbw
  have zx' : w.heap.size + 2 < (va.setCell ⟨w.heap.size, 1, none⟩ (.slice A4 zd.length d4)).heap.size := by simp; omega
  have zy' : w3.heap.size ≤ (va.setCell ⟨w.heap.size, 1, none⟩ (.slice A4 zd.length d4)).heap.size := by simp; omega
  have own4' := own_set (p := ⟨w.heap.size, 1, none⟩) own4 (own_ne_lt own4 zpB) (.slice A4 zd.length d4)
  have OWN' := Lib.hid (OWN.out.set (a := w.heap.size) (j := 1) zpB0 (.slice A4 zd.length d4))
  have rk' := blk_far (p := ⟨w.heap.size, 1, none⟩) (.slice A4 zd.length d4) (by show _ ≠ w.heap.size; omega) rk
  clear pk qk sk hbw zx2 za2 zb2 zB2 p0 p1 p2 pf0 pf1 pf2 q0 q1 q2 q3 q4 s0 s1 s2 sf0 sf1 sf2
  generalize (va.setCell ⟨w.heap.size, 1, none⟩ (.slice A4 zd.length d4)) = vb at *
  have pk := pk'
  have qk := qk'
  have sk := sk'
  have hbw := hbw'
  have zx2 := zx'
  have zB2 := zy'
  have za2 : w.heap.size < vb.heap.size := by omega
  have zb2 : w.heap.size + 1 < vb.heap.size := by omega
  clear pk' qk' sk' hbw' zx' zy'
  have p0 : vb.cell? ⟨w.heap.size, 0, none⟩ = some (.slice B1 x.length d1) := blk_cell pk (j := 0) rfl
  have pf0 := blk_frozen (j := 0) pk
  have p1 : vb.cell? ⟨w.heap.size, 1, none⟩ = some (.slice A4 zd.length d4) := blk_cell pk (j := 1) rfl
  have pf1 := blk_frozen (j := 1) pk
  have p2 : vb.cell? ⟨w.heap.size, 2, none⟩ = some (.slice B2 y.length d2) := blk_cell pk (j := 2) rfl
  have pf2 := blk_frozen (j := 2) pk
  have q0 : vb.cell? ⟨w.heap.size + 1, 0, none⟩ = some (.int .i64 4) := blk_cell qk (j := 0) rfl
  have q1 : vb.cell? ⟨w.heap.size + 1, 1, none⟩ = some (.int .i64 (j : Int)) := blk_cell qk (j := 1) rfl
  have q2 : vb.cell? ⟨w.heap.size + 1, 2, none⟩ = some (.string m.s) := blk_cell qk (j := 2) rfl
  have q3 : vb.cell? ⟨w.heap.size + 1, 3, none⟩ = some (.int .i64 m.v) := blk_cell qk (j := 3) rfl
  have q4 : vb.cell? ⟨w.heap.size + 1, 4, none⟩ = some (.int .i64 m.l) := blk_cell qk (j := 4) rfl
  have s0 : vb.cell? ⟨w.heap.size + 1 + 1, 0, none⟩ = some (.slice none 0 0) := blk_cell sk (j := 0) rfl
  have sf0 := blk_frozen (j := 0) sk
  have s1 : vb.cell? ⟨w.heap.size + 1 + 1, 1, none⟩ = some (.slice none 0 0) := blk_cell sk (j := 1) rfl
  have sf1 := blk_frozen (j := 1) sk
  have s2 : vb.cell? ⟨w.heap.size + 1 + 1, 2, none⟩ = some (.slice none 0 0) := blk_cell sk (j := 2) rfl
  have sf2 := blk_frozen (j := 2) sk
  clear own4 OWN rk zr
  have OW4 := Lib.hid own4'
  have OWN := OWN'
  have rk := rk'
  clear own4' OWN' rk'
  have r0 : vb.cell? ⟨w2.heap.size, 0, none⟩ = some (.string o.m.s) := blk_cell rk rfl
  have r1 : vb.cell? ⟨w2.heap.size, 1, none⟩ = some (.int .i64 o.m.v) := blk_cell rk rfl
  have r2 : vb.cell? ⟨w2.heap.size, 2, none⟩ = some (.int .i64 o.m.l) := blk_cell rk rfl
  have r3 : vb.cell? ⟨w2.heap.size, 3, none⟩ = some (.bool true) := blk_cell rk rfl
  have hL0 : LnkR B1 B2 A4 ⟨x, zd, y⟩ vb := ⟨OWN.out.reads.r1, OWN.out.reads.r2, rowsAt_of_own OW4.out rfl (by decide)⟩
  have hg6 : ¬ ((60 : Int) < (zd.length : Int)) := by have := HLE.out; omega
  have hf := find_eq (s := o.m.s) HOK.out.s1
  have hack : ackBox x o.m = match hasM x o.m.s, x[posM x o.m.s]? with | true, some q => if q.v ≤ o.m.v then delL x (posM x o.m.s) else x | _, _ => x := rfl
  have hcap := own_cap OWN.out.o1
  cases hh : hasM x o.m.s
  · have HFD := Lib.hid (fun W (h : MsgsAt W B1 x) => Find_any B1 x d1 o.m.s W (by omega) h)
    rw [hh] at hf hack
    have hf1 : findM o.m.s x 0 = -1 := hf
    have HF := Lib.hid hf1
    have hq := HQ.out
    rw [show ackBox x o.m = x from hack] at hq
    have HQ2 := Lib.hid hq
    clear hq hf hf1 hack HQ hh
    go_wp2_with (go_at_call 33; (refine (HFD.out _ OWN.out.reads.r1).mono ?_); rintro e w' ⟨rfl, rfl⟩; rw [HF.out])
    go_quiet (fail)
    have hbn : Below vb.heap.size vb (vb.drewN nq) := below_drewN (Below.refl _ _) nq
    have hL9 := hL0.below hbn
    generalize vb.drewN nq = vn at *
    clear p0 p1 p2 pf0 pf1 pf2 q0 q1 q2 q3 q4 s0 s1 s2 sf0 sf1 sf2
    replace pk := blk_below' hbn pk
    replace qk := blk_below' hbn qk
    replace sk := blk_below' hbn sk
    replace hbw := hbw.trans (hbn.mono (by omega))
    replace zx2 := Nat.lt_of_lt_of_le zx2 hbn.size
    replace za2 := Nat.lt_of_lt_of_le za2 hbn.size
    replace zB2 := Nat.le_trans zB2 hbn.size
    replace zb2 := Nat.lt_of_lt_of_le zb2 hbn.size
    replace OWN := Lib.hid (OWN.out.below hbn)
    have p0 : vn.cell? ⟨w.heap.size, 0, none⟩ = some (.slice B1 x.length d1) := blk_cell pk (j := 0) rfl
    have pf0 := blk_frozen (j := 0) pk
    have p1 : vn.cell? ⟨w.heap.size, 1, none⟩ = some (.slice A4 zd.length d4) := blk_cell pk (j := 1) rfl
    have pf1 := blk_frozen (j := 1) pk
    have p2 : vn.cell? ⟨w.heap.size, 2, none⟩ = some (.slice B2 y.length d2) := blk_cell pk (j := 2) rfl
    have pf2 := blk_frozen (j := 2) pk
    have q0 : vn.cell? ⟨w.heap.size + 1, 0, none⟩ = some (.int .i64 4) := blk_cell qk (j := 0) rfl
    have q1 : vn.cell? ⟨w.heap.size + 1, 1, none⟩ = some (.int .i64 (j : Int)) := blk_cell qk (j := 1) rfl
    have q2 : vn.cell? ⟨w.heap.size + 1, 2, none⟩ = some (.string m.s) := blk_cell qk (j := 2) rfl
    have q3 : vn.cell? ⟨w.heap.size + 1, 3, none⟩ = some (.int .i64 m.v) := blk_cell qk (j := 3) rfl
    have q4 : vn.cell? ⟨w.heap.size + 1, 4, none⟩ = some (.int .i64 m.l) := blk_cell qk (j := 4) rfl
    have s0 : vn.cell? ⟨w.heap.size + 1 + 1, 0, none⟩ = some (.slice none 0 0) := blk_cell sk (j := 0) rfl
    have sf0 := blk_frozen (j := 0) sk
    have s1 : vn.cell? ⟨w.heap.size + 1 + 1, 1, none⟩ = some (.slice none 0 0) := blk_cell sk (j := 1) rfl
    have sf1 := blk_frozen (j := 1) sk
    have s2 : vn.cell? ⟨w.heap.size + 1 + 1, 2, none⟩ = some (.slice none 0 0) := blk_cell sk (j := 2) rfl
    have sf2 := blk_frozen (j := 2) sk
    clear hbn hL0
    go_wp2_with (fail)
    have hLF := lnk_farB (v0 := .slice B1 x.length d1) (v1 := .slice A4 zd.length d4) (v2 := .slice B2 y.length d2) hL9 sk
    refine bodyPost_ret (v := .tuple #[.agg #[.slice B1 x.length d1, .slice A4 zd.length d4, .slice B2 y.length d2], .int .i64 0]) (by simp [results, Try.results49, go_sem, s0, s1, s2, zx2]) rfl ?_
    rw [HQ2.out]
    exact ⟨B1, d1, B2, d2, A4, d4, rfl, hLF, below_set _ (by simp; omega) (below_set _ (by simp; omega) (below_set _ (by simp; omega) hbw))⟩
  · obtain ⟨u, hu, he⟩ := has_true hh
    have hp : posM x o.m.s < x.length := (List.getElem?_eq_some_iff.1 hu).1
    rw [hh] at hf hack
    rw [hu] at hack
    have hack2 : ackBox x o.m = if u.v ≤ o.m.v then delL x (posM x o.m.s) else x := hack
    have hf1 : findM o.m.s x 0 = (posM x o.m.s : Int) := hf
    obtain ⟨b5, o5, rfl, hb5, f0, f1, f2⟩ := MsgsAt.at_ OWN.out.reads.r1 hp
    have HFD := Lib.hid (fun W (h : MsgsAt W (some ⟨b5, o5, none⟩) x) => Find_any (some ⟨b5, o5, none⟩) x d1 o.m.s W (by omega) h)
    rw [List.getElem?_eq_getElem hp] at hu
    rw [Option.some.inj hu] at f0 f1 f2
    have HF := Lib.hid hf1
    have hp1 : ((posM x o.m.s : Nat) : Int) < (x.length : Int) := by omega
    clear hf hf1 hack hh he hu
    generalize posM x o.m.s = p at *
    by_cases hv : u.v ≤ o.m.v
    rotate_left 1
    · rw [if_neg hv] at hack2
      have hq := HQ.out
      rw [hack2] at hq
      have HQ2 := Lib.hid hq
      clear hq hack2 HQ
      go_wp2_with (go_at_call 33; (refine (HFD.out _ OWN.out.reads.r1).mono ?_); rintro e w' ⟨rfl, rfl⟩; rw [HF.out])
      go_quiet (fail)
      have hbn : Below vb.heap.size vb (vb.drewN nq) := below_drewN (Below.refl _ _) nq
      have hL9 := hL0.below hbn
      generalize vb.drewN nq = vn at *
      clear p0 p1 p2 pf0 pf1 pf2 q0 q1 q2 q3 q4 s0 s1 s2 sf0 sf1 sf2
      replace pk := blk_below' hbn pk
      replace qk := blk_below' hbn qk
      replace sk := blk_below' hbn sk
      replace hbw := hbw.trans (hbn.mono (by omega))
      replace zx2 := Nat.lt_of_lt_of_le zx2 hbn.size
      replace za2 := Nat.lt_of_lt_of_le za2 hbn.size
      replace zB2 := Nat.le_trans zB2 hbn.size
      replace zb2 := Nat.lt_of_lt_of_le zb2 hbn.size
      replace OWN := Lib.hid (OWN.out.below hbn)
      have p0 : vn.cell? ⟨w.heap.size, 0, none⟩ = some (.slice (some ⟨b5, o5, none⟩) x.length d1) := blk_cell pk (j := 0) rfl
      have pf0 := blk_frozen (j := 0) pk
      have p1 : vn.cell? ⟨w.heap.size, 1, none⟩ = some (.slice A4 zd.length d4) := blk_cell pk (j := 1) rfl
      have pf1 := blk_frozen (j := 1) pk
      have p2 : vn.cell? ⟨w.heap.size, 2, none⟩ = some (.slice B2 y.length d2) := blk_cell pk (j := 2) rfl
      have pf2 := blk_frozen (j := 2) pk
      have q0 : vn.cell? ⟨w.heap.size + 1, 0, none⟩ = some (.int .i64 4) := blk_cell qk (j := 0) rfl
      have q1 : vn.cell? ⟨w.heap.size + 1, 1, none⟩ = some (.int .i64 (j : Int)) := blk_cell qk (j := 1) rfl
      have q2 : vn.cell? ⟨w.heap.size + 1, 2, none⟩ = some (.string m.s) := blk_cell qk (j := 2) rfl
      have q3 : vn.cell? ⟨w.heap.size + 1, 3, none⟩ = some (.int .i64 m.v) := blk_cell qk (j := 3) rfl
      have q4 : vn.cell? ⟨w.heap.size + 1, 4, none⟩ = some (.int .i64 m.l) := blk_cell qk (j := 4) rfl
      have s0 : vn.cell? ⟨w.heap.size + 1 + 1, 0, none⟩ = some (.slice none 0 0) := blk_cell sk (j := 0) rfl
      have sf0 := blk_frozen (j := 0) sk
      have s1 : vn.cell? ⟨w.heap.size + 1 + 1, 1, none⟩ = some (.slice none 0 0) := blk_cell sk (j := 1) rfl
      have sf1 := blk_frozen (j := 1) sk
      have s2 : vn.cell? ⟨w.heap.size + 1 + 1, 2, none⟩ = some (.slice none 0 0) := blk_cell sk (j := 2) rfl
      have sf2 := blk_frozen (j := 2) sk
      clear hbn hL0 f0 f1 f2
      go_wp2_with (fail)
      have hLF := lnk_farB (v0 := .slice (some ⟨b5, o5, none⟩) x.length d1) (v1 := .slice A4 zd.length d4) (v2 := .slice B2 y.length d2) hL9 sk
      refine bodyPost_ret (v := .tuple #[.agg #[.slice (some ⟨b5, o5, none⟩) x.length d1, .slice A4 zd.length d4, .slice B2 y.length d2], .int .i64 0]) (by simp [results, Try.results49, go_sem, s0, s1, s2, zx2]) rfl ?_
      rw [HQ2.out]
      exact ⟨some ⟨b5, o5, none⟩, d1, B2, d2, A4, d4, rfl, hLF, below_set _ (by simp; omega) (below_set _ (by simp; omega) (below_set _ (by simp; omega) hbw))⟩
    · rw [if_pos hv] at hack2
      have hq := HQ.out
      rw [hack2] at hq
      have HQ2 := Lib.hid hq
      clear hq hack2 HQ
      go_wp2_with (go_at_call 33; (refine (HFD.out _ OWN.out.reads.r1).mono ?_); rintro e w' ⟨rfl, rfl⟩; rw [HF.out])
      go_quiet (fail)
      have hbn : Below vb.heap.size vb (vb.drewN nq) := below_drewN (Below.refl _ _) nq
      have hL9 := hL0.below hbn
      generalize vb.drewN nq = vn at *
      clear p0 p1 p2 pf0 pf1 pf2 q0 q1 q2 q3 q4 s0 s1 s2 sf0 sf1 sf2
      replace pk := blk_below' hbn pk
      replace qk := blk_below' hbn qk
      replace sk := blk_below' hbn sk
      replace hbw := hbw.trans (hbn.mono (by omega))
      replace zx2 := Nat.lt_of_lt_of_le zx2 hbn.size
      replace za2 := Nat.lt_of_lt_of_le za2 hbn.size
      replace zB2 := Nat.le_trans zB2 hbn.size
      replace zb2 := Nat.lt_of_lt_of_le zb2 hbn.size
      replace OWN := Lib.hid (OWN.out.below hbn)
      have p0 : vn.cell? ⟨w.heap.size, 0, none⟩ = some (.slice (some ⟨b5, o5, none⟩) x.length d1) := blk_cell pk (j := 0) rfl
      have pf0 := blk_frozen (j := 0) pk
      have p1 : vn.cell? ⟨w.heap.size, 1, none⟩ = some (.slice A4 zd.length d4) := blk_cell pk (j := 1) rfl
      have pf1 := blk_frozen (j := 1) pk
      have p2 : vn.cell? ⟨w.heap.size, 2, none⟩ = some (.slice B2 y.length d2) := blk_cell pk (j := 2) rfl
      have pf2 := blk_frozen (j := 2) pk
      have q0 : vn.cell? ⟨w.heap.size + 1, 0, none⟩ = some (.int .i64 4) := blk_cell qk (j := 0) rfl
      have q1 : vn.cell? ⟨w.heap.size + 1, 1, none⟩ = some (.int .i64 (j : Int)) := blk_cell qk (j := 1) rfl
      have q2 : vn.cell? ⟨w.heap.size + 1, 2, none⟩ = some (.string m.s) := blk_cell qk (j := 2) rfl
      have q3 : vn.cell? ⟨w.heap.size + 1, 3, none⟩ = some (.int .i64 m.v) := blk_cell qk (j := 3) rfl
      have q4 : vn.cell? ⟨w.heap.size + 1, 4, none⟩ = some (.int .i64 m.l) := blk_cell qk (j := 4) rfl
      have s0 : vn.cell? ⟨w.heap.size + 1 + 1, 0, none⟩ = some (.slice none 0 0) := blk_cell sk (j := 0) rfl
      have sf0 := blk_frozen (j := 0) sk
      have s1 : vn.cell? ⟨w.heap.size + 1 + 1, 1, none⟩ = some (.slice none 0 0) := blk_cell sk (j := 1) rfl
      have sf1 := blk_frozen (j := 1) sk
      have s2 : vn.cell? ⟨w.heap.size + 1 + 1, 2, none⟩ = some (.slice none 0 0) := blk_cell sk (j := 2) rfl
      have sf2 := blk_frozen (j := 2) sk
      clear hbn hL0 f0 f1 f2
      have hln : (x.take p).length = p := by rw [List.length_take]; omega
      have HLN := Lib.hid hln
      have HTK := Lib.hid (RowsAt.take hL9.r1 p)
      have hrd := rowsAt_drop' hL9.r1 (p + 1)
      have HDR := Lib.hid hrd
      have HCP := Lib.hid (fun W (h : MsgsAt W (some ⟨b5, o5, none⟩) (x.take p)) => (by have h2 := CopyMessages_any (some ⟨b5, o5, none⟩) (x.take p) d1 W (by rw [hln]; omega) h; rw [hln] at h2; exact h2 : Calls Try.prog 56 #[.slice (some ⟨b5, o5, none⟩) p d1] W (CopyMPost (x.take p) W)))
      have hp2 : ((p : Int) + 1) ≤ (x.length : Int) := by omega
      have hcap2 : (x.length : Int) ≤ (d1 : Int) := by omega
      have hcapM := own_capM OWN.out.o1
      have hpd : p ≤ d1 := by omega
      have hpx : p + 1 ≤ x.length := by omega
      have hpd1 : p + 1 ≤ d1 := by omega
      clear hln hrd
      have iw2 : IntKind.i64.wrap ((p : Int) + 1) = (p : Int) + 1 := IntWalk.i64_in _ (by omega)
      have ht2 : ((p : Int) + 1).toNat = p + 1 := by omega
      have h02 : (0 : Int) ≤ (p : Int) + 1 := by omega
      by_cases hd : d1 = p + 1
      · subst hd
        have hpp : (p : Int) ≤ (p : Int) + 1 := by omega
        have hrd : MsgsAt vn (some ⟨b5, o5, none⟩) (x.drop (p + 1)) := by rw [List.drop_eq_nil_of_le (by omega)]; exact RowsAt.nil
        have HDR := Lib.hid hrd
        clear hrd
        go_wp2_with (fail)
        go_region_law (first | (go_simp; go_at_call 56; (with_reducible refine (HCP.out _ ?_).mono ?_); (focus (exact RowsAt.below HTK.out (by repeat (first | assumption | exact Below.refl _ _ | refine Below.drew ?_ | (refine below_alloc _ ?_ ?_; focus (first | omega | (simp; done) | (simp; omega) | (simp at *; omega))) | (refine below_set _ ?_ ?_; focus (first | omega | (simp; done) | (simp; omega) | (simp at *; omega))) | refine below_drewN ?_ _ | (refine below_call (by assumption) ?_ ?_; focus (first | omega | (simp; done) | (simp; omega) | (simp at *; omega))) | (refine below_call' (by assumption) ?_ ?_; focus (first | omega | (simp; done) | (simp; omega) | (simp at *; omega))))))); rintro e ve ⟨A6, c6, he6, own6, hb6⟩; rw [HLN.out] at he6 own6; subst he6; have p06 := cell_below' hb6 (cell_drew p0); have pf06 := frozen_below hb6 za2 pf0; have hy6 : Below vn.heap.size vn ve := (Below.refl _ vn).drew.trans hb6) | (refine step_appMsg _ rfl (.tmp 171) (.tmp 176) rfl vn.heap.size A6 p c6 (cellsOf 3 msgC (x.take p)) (by simp [Act.eval, Act.put]) own6 (some ⟨b5, o5, none⟩) 0 (p + 1 - (p + 1)) (cellsOf 3 msgC (x.drop (p + 1))) (by first | (simp [Act.eval, Act.put]; done) | (simp [Act.eval, Act.put]; omega)) (by rw [cellsOf_length, List.length_drop]; omega) (fun e => by cases e) (fun ad e => by cases e; exact RowsAt.news (RowsAt.below HDR.out hy6) (by decide)) (cellsOf_one msgC_one (by decide) _) (by omega) hy6.size ?_; intro A7 c7 vf own7 hg7 halt7; have hb7 : Below vn.heap.size vn vf := below_own hy6 hg7 own6 (Nat.le_refl _) hy6.size; have p07 := cell_below' hb7 p0; have pf07 := frozen_below hb7 za2 pf0))
        all_goals
          have hLd : (p + 0) = (delL x p).length := by have := delL_len hp; omega
          have HLX := Lib.hid (show (delL x p).length = p by have := delL_len hp; omega)
          rw [hLd] at own7
          rw [← cellsOf_append, show x.take p ++ x.drop (p + 1) = delL x p from rfl] at own7
          have hL8 : LnkR A7 B2 A4 ⟨delL x p, zd, y⟩ vf := ⟨rowsAt_of_own own7 rfl (by decide), RowsAt.below hL9.r2 hb7, RowsAt.below hL9.r3 hb7⟩
          clear own7 hg7 halt7 own6 hb6 hy6 p06 pf06 p07 pf07 hLd HCP HTK HDR hL9
          clear p0 p1 p2 pf0 pf1 pf2 q0 q1 q2 q3 q4 s0 s1 s2 sf0 sf1 sf2
          replace pk := blk_below' hb7 pk
          replace qk := blk_below' hb7 qk
          replace sk := blk_below' hb7 sk
          replace hbw := hbw.trans (hb7.mono (by omega))
          replace zx2 := Nat.lt_of_lt_of_le zx2 hb7.size
          replace za2 := Nat.lt_of_lt_of_le za2 hb7.size
          replace zB2 := Nat.le_trans zB2 hb7.size
          replace zb2 := Nat.lt_of_lt_of_le zb2 hb7.size
          replace OWN := Lib.hid (OWN.out.below hb7)
          have p0 : vf.cell? ⟨w.heap.size, 0, none⟩ = some (.slice (some ⟨b5, o5, none⟩) x.length (p + 1)) := blk_cell pk (j := 0) rfl
          have pf0 := blk_frozen (j := 0) pk
          have p1 : vf.cell? ⟨w.heap.size, 1, none⟩ = some (.slice A4 zd.length d4) := blk_cell pk (j := 1) rfl
          have pf1 := blk_frozen (j := 1) pk
          have p2 : vf.cell? ⟨w.heap.size, 2, none⟩ = some (.slice B2 y.length d2) := blk_cell pk (j := 2) rfl
          have pf2 := blk_frozen (j := 2) pk
          have q0 : vf.cell? ⟨w.heap.size + 1, 0, none⟩ = some (.int .i64 4) := blk_cell qk (j := 0) rfl
          have q1 : vf.cell? ⟨w.heap.size + 1, 1, none⟩ = some (.int .i64 (j : Int)) := blk_cell qk (j := 1) rfl
          have q2 : vf.cell? ⟨w.heap.size + 1, 2, none⟩ = some (.string m.s) := blk_cell qk (j := 2) rfl
          have q3 : vf.cell? ⟨w.heap.size + 1, 3, none⟩ = some (.int .i64 m.v) := blk_cell qk (j := 3) rfl
          have q4 : vf.cell? ⟨w.heap.size + 1, 4, none⟩ = some (.int .i64 m.l) := blk_cell qk (j := 4) rfl
          have s0 : vf.cell? ⟨w.heap.size + 1 + 1, 0, none⟩ = some (.slice none 0 0) := blk_cell sk (j := 0) rfl
          have sf0 := blk_frozen (j := 0) sk
          have s1 : vf.cell? ⟨w.heap.size + 1 + 1, 1, none⟩ = some (.slice none 0 0) := blk_cell sk (j := 1) rfl
          have sf1 := blk_frozen (j := 1) sk
          have s2 : vf.cell? ⟨w.heap.size + 1 + 1, 2, none⟩ = some (.slice none 0 0) := blk_cell sk (j := 2) rfl
          have sf2 := blk_frozen (j := 2) sk
          clear hb7
          generalize delL x p = x' at *
          have pk' : (vf.setCell ⟨w.heap.size, 0, none⟩ (.slice A7 p c7)).heap[w.heap.size]? = some (.cells #[.slice A7 p c7, .slice A4 zd.length d4, .slice B2 y.length d2] 41) := heap_set pk
          have qk' := blk_far (p := ⟨w.heap.size, 0, none⟩) (.slice A7 p c7) (by show _ ≠ w.heap.size; omega) qk
          have sk' := blk_far (p := ⟨w.heap.size, 0, none⟩) (.slice A7 p c7) (by show _ ≠ w.heap.size; omega) sk
          have hbw' : Below w.heap.size w (vf.setCell ⟨w.heap.size, 0, none⟩ (.slice A7 p c7)) := below_set _ (by simp) hbw
          have zx' : w.heap.size + 2 < (vf.setCell ⟨w.heap.size, 0, none⟩ (.slice A7 p c7)).heap.size := by simp; omega
          have zy' : w3.heap.size ≤ (vf.setCell ⟨w.heap.size, 0, none⟩ (.slice A7 p c7)).heap.size := by simp; omega
          have hL7 := lnk_far1 (j := 0) (v := .slice A7 p c7) hL8 pk
          clear pk qk sk hbw zx2 za2 zb2 zB2 p0 p1 p2 pf0 pf1 pf2 q0 q1 q2 q3 q4 s0 s1 s2 sf0 sf1 sf2
          generalize (vf.setCell ⟨w.heap.size, 0, none⟩ (.slice A7 p c7)) = vg at *
          have pk := pk'
          have qk := qk'
          have sk := sk'
          have hbw := hbw'
          have zx2 := zx'
          have zB2 := zy'
          have za2 : w.heap.size < vg.heap.size := by omega
          have zb2 : w.heap.size + 1 < vg.heap.size := by omega
          clear pk' qk' sk' hbw' zx' zy'
          have p0 : vg.cell? ⟨w.heap.size, 0, none⟩ = some (.slice A7 p c7) := blk_cell pk (j := 0) rfl
          have pf0 := blk_frozen (j := 0) pk
          have p1 : vg.cell? ⟨w.heap.size, 1, none⟩ = some (.slice A4 zd.length d4) := blk_cell pk (j := 1) rfl
          have pf1 := blk_frozen (j := 1) pk
          have p2 : vg.cell? ⟨w.heap.size, 2, none⟩ = some (.slice B2 y.length d2) := blk_cell pk (j := 2) rfl
          have pf2 := blk_frozen (j := 2) pk
          have q0 : vg.cell? ⟨w.heap.size + 1, 0, none⟩ = some (.int .i64 4) := blk_cell qk (j := 0) rfl
          have q1 : vg.cell? ⟨w.heap.size + 1, 1, none⟩ = some (.int .i64 (j : Int)) := blk_cell qk (j := 1) rfl
          have q2 : vg.cell? ⟨w.heap.size + 1, 2, none⟩ = some (.string m.s) := blk_cell qk (j := 2) rfl
          have q3 : vg.cell? ⟨w.heap.size + 1, 3, none⟩ = some (.int .i64 m.v) := blk_cell qk (j := 3) rfl
          have q4 : vg.cell? ⟨w.heap.size + 1, 4, none⟩ = some (.int .i64 m.l) := blk_cell qk (j := 4) rfl
          have s0 : vg.cell? ⟨w.heap.size + 1 + 1, 0, none⟩ = some (.slice none 0 0) := blk_cell sk (j := 0) rfl
          have sf0 := blk_frozen (j := 0) sk
          have s1 : vg.cell? ⟨w.heap.size + 1 + 1, 1, none⟩ = some (.slice none 0 0) := blk_cell sk (j := 1) rfl
          have sf1 := blk_frozen (j := 1) sk
          have s2 : vg.cell? ⟨w.heap.size + 1 + 1, 2, none⟩ = some (.slice none 0 0) := blk_cell sk (j := 2) rfl
          have sf2 := blk_frozen (j := 2) sk
          clear hL8
          go_wp2_with (fail)
          have hLF := lnk_farB (v0 := .slice A7 p c7) (v1 := .slice A4 zd.length d4) (v2 := .slice B2 y.length d2) hL7 sk
          refine bodyPost_ret (v := .tuple #[.agg #[.slice A7 p c7, .slice A4 zd.length d4, .slice B2 y.length d2], .int .i64 0]) (by simp [results, Try.results49, go_sem, s0, s1, s2, zx2]) rfl ?_
          rw [HQ2.out]
          exact ⟨A7, c7, B2, d2, A4, d4, by simp [LnkV, HLX.out], hLF, below_set _ (by simp; omega) (below_set _ (by simp; omega) (below_set _ (by simp; omega) hbw))⟩
      have hd2 : ¬ (d1 = p + 1) := hd
      clear hd
      go_wp2_with (fail)
      go_region_law (first | (go_simp; go_at_call 56; (with_reducible refine (HCP.out _ ?_).mono ?_); (focus (exact RowsAt.below HTK.out (by repeat (first | assumption | exact Below.refl _ _ | refine Below.drew ?_ | (refine below_alloc _ ?_ ?_; focus (first | omega | (simp; done) | (simp; omega) | (simp at *; omega))) | (refine below_set _ ?_ ?_; focus (first | omega | (simp; done) | (simp; omega) | (simp at *; omega))) | refine below_drewN ?_ _ | (refine below_call (by assumption) ?_ ?_; focus (first | omega | (simp; done) | (simp; omega) | (simp at *; omega))) | (refine below_call' (by assumption) ?_ ?_; focus (first | omega | (simp; done) | (simp; omega) | (simp at *; omega))))))); rintro e ve ⟨A6, c6, he6, own6, hb6⟩; rw [HLN.out] at he6 own6; subst he6; have p06 := cell_below' hb6 (cell_drew p0); have pf06 := frozen_below hb6 za2 pf0; have hy6 : Below vn.heap.size vn ve := (Below.refl _ vn).drew.trans hb6) | (refine step_appMsg _ rfl (.tmp 171) (.tmp 176) rfl vn.heap.size A6 p c6 (cellsOf 3 msgC (x.take p)) (by simp [Act.eval, Act.put]) own6 (some ⟨b5, o5 + (p + 1) * 3, none⟩) (x.length - (p + 1)) (d1 - (p + 1)) (cellsOf 3 msgC (x.drop (p + 1))) (by first | (simp [Act.eval, Act.put]; done) | (simp [Act.eval, Act.put]; omega)) (by rw [cellsOf_length, List.length_drop]) (fun e => by cases e) (fun ad e => by cases e; exact RowsAt.news (RowsAt.below HDR.out hy6) (by decide)) (cellsOf_one msgC_one (by decide) _) (by omega) hy6.size ?_; intro A7 c7 vf own7 hg7 halt7; have hb7 : Below vn.heap.size vn vf := below_own hy6 hg7 own6 (Nat.le_refl _) hy6.size; have p07 := cell_below' hb7 p0; have pf07 := frozen_below hb7 za2 pf0))
      all_goals
        have hLd : p + (x.length - (p + 1)) = (delL x p).length := by have := delL_len hp; omega
        rw [hLd] at own7 ⊢
        rw [← cellsOf_append, show x.take p ++ x.drop (p + 1) = delL x p from rfl] at own7
        have hL8 : LnkR A7 B2 A4 ⟨delL x p, zd, y⟩ vf := ⟨rowsAt_of_own own7 rfl (by decide), RowsAt.below hL9.r2 hb7, RowsAt.below hL9.r3 hb7⟩
        clear own7 hg7 halt7 own6 hb6 hy6 p06 pf06 p07 pf07 hLd HCP HTK HDR hL9
        clear p0 p1 p2 pf0 pf1 pf2 q0 q1 q2 q3 q4 s0 s1 s2 sf0 sf1 sf2
        replace pk := blk_below' hb7 pk
        replace qk := blk_below' hb7 qk
        replace sk := blk_below' hb7 sk
        replace hbw := hbw.trans (hb7.mono (by omega))
        replace zx2 := Nat.lt_of_lt_of_le zx2 hb7.size
        replace za2 := Nat.lt_of_lt_of_le za2 hb7.size
        replace zB2 := Nat.le_trans zB2 hb7.size
        replace zb2 := Nat.lt_of_lt_of_le zb2 hb7.size
        replace OWN := Lib.hid (OWN.out.below hb7)
        have p0 : vf.cell? ⟨w.heap.size, 0, none⟩ = some (.slice (some ⟨b5, o5, none⟩) x.length d1) := blk_cell pk (j := 0) rfl
        have pf0 := blk_frozen (j := 0) pk
        have p1 : vf.cell? ⟨w.heap.size, 1, none⟩ = some (.slice A4 zd.length d4) := blk_cell pk (j := 1) rfl
        have pf1 := blk_frozen (j := 1) pk
        have p2 : vf.cell? ⟨w.heap.size, 2, none⟩ = some (.slice B2 y.length d2) := blk_cell pk (j := 2) rfl
        have pf2 := blk_frozen (j := 2) pk
        have q0 : vf.cell? ⟨w.heap.size + 1, 0, none⟩ = some (.int .i64 4) := blk_cell qk (j := 0) rfl
        have q1 : vf.cell? ⟨w.heap.size + 1, 1, none⟩ = some (.int .i64 (j : Int)) := blk_cell qk (j := 1) rfl
        have q2 : vf.cell? ⟨w.heap.size + 1, 2, none⟩ = some (.string m.s) := blk_cell qk (j := 2) rfl
        have q3 : vf.cell? ⟨w.heap.size + 1, 3, none⟩ = some (.int .i64 m.v) := blk_cell qk (j := 3) rfl
        have q4 : vf.cell? ⟨w.heap.size + 1, 4, none⟩ = some (.int .i64 m.l) := blk_cell qk (j := 4) rfl
        have s0 : vf.cell? ⟨w.heap.size + 1 + 1, 0, none⟩ = some (.slice none 0 0) := blk_cell sk (j := 0) rfl
        have sf0 := blk_frozen (j := 0) sk
        have s1 : vf.cell? ⟨w.heap.size + 1 + 1, 1, none⟩ = some (.slice none 0 0) := blk_cell sk (j := 1) rfl
        have sf1 := blk_frozen (j := 1) sk
        have s2 : vf.cell? ⟨w.heap.size + 1 + 1, 2, none⟩ = some (.slice none 0 0) := blk_cell sk (j := 2) rfl
        have sf2 := blk_frozen (j := 2) sk
        clear hb7
        generalize delL x p = x' at *
        have pk' : (vf.setCell ⟨w.heap.size, 0, none⟩ (.slice A7 x'.length c7)).heap[w.heap.size]? = some (.cells #[.slice A7 x'.length c7, .slice A4 zd.length d4, .slice B2 y.length d2] 41) := heap_set pk
        have qk' := blk_far (p := ⟨w.heap.size, 0, none⟩) (.slice A7 x'.length c7) (by show _ ≠ w.heap.size; omega) qk
        have sk' := blk_far (p := ⟨w.heap.size, 0, none⟩) (.slice A7 x'.length c7) (by show _ ≠ w.heap.size; omega) sk
        have hbw' : Below w.heap.size w (vf.setCell ⟨w.heap.size, 0, none⟩ (.slice A7 x'.length c7)) := below_set _ (by simp) hbw
        have zx' : w.heap.size + 2 < (vf.setCell ⟨w.heap.size, 0, none⟩ (.slice A7 x'.length c7)).heap.size := by simp; omega
        have zy' : w3.heap.size ≤ (vf.setCell ⟨w.heap.size, 0, none⟩ (.slice A7 x'.length c7)).heap.size := by simp; omega
        have hL7 := lnk_far1 (j := 0) (v := .slice A7 x'.length c7) hL8 pk
        clear pk qk sk hbw zx2 za2 zb2 zB2 p0 p1 p2 pf0 pf1 pf2 q0 q1 q2 q3 q4 s0 s1 s2 sf0 sf1 sf2
        generalize (vf.setCell ⟨w.heap.size, 0, none⟩ (.slice A7 x'.length c7)) = vg at *
        have pk := pk'
        have qk := qk'
        have sk := sk'
        have hbw := hbw'
        have zx2 := zx'
        have zB2 := zy'
        have za2 : w.heap.size < vg.heap.size := by omega
        have zb2 : w.heap.size + 1 < vg.heap.size := by omega
        clear pk' qk' sk' hbw' zx' zy'
        have p0 : vg.cell? ⟨w.heap.size, 0, none⟩ = some (.slice A7 x'.length c7) := blk_cell pk (j := 0) rfl
        have pf0 := blk_frozen (j := 0) pk
        have p1 : vg.cell? ⟨w.heap.size, 1, none⟩ = some (.slice A4 zd.length d4) := blk_cell pk (j := 1) rfl
        have pf1 := blk_frozen (j := 1) pk
        have p2 : vg.cell? ⟨w.heap.size, 2, none⟩ = some (.slice B2 y.length d2) := blk_cell pk (j := 2) rfl
        have pf2 := blk_frozen (j := 2) pk
        have q0 : vg.cell? ⟨w.heap.size + 1, 0, none⟩ = some (.int .i64 4) := blk_cell qk (j := 0) rfl
        have q1 : vg.cell? ⟨w.heap.size + 1, 1, none⟩ = some (.int .i64 (j : Int)) := blk_cell qk (j := 1) rfl
        have q2 : vg.cell? ⟨w.heap.size + 1, 2, none⟩ = some (.string m.s) := blk_cell qk (j := 2) rfl
        have q3 : vg.cell? ⟨w.heap.size + 1, 3, none⟩ = some (.int .i64 m.v) := blk_cell qk (j := 3) rfl
        have q4 : vg.cell? ⟨w.heap.size + 1, 4, none⟩ = some (.int .i64 m.l) := blk_cell qk (j := 4) rfl
        have s0 : vg.cell? ⟨w.heap.size + 1 + 1, 0, none⟩ = some (.slice none 0 0) := blk_cell sk (j := 0) rfl
        have sf0 := blk_frozen (j := 0) sk
        have s1 : vg.cell? ⟨w.heap.size + 1 + 1, 1, none⟩ = some (.slice none 0 0) := blk_cell sk (j := 1) rfl
        have sf1 := blk_frozen (j := 1) sk
        have s2 : vg.cell? ⟨w.heap.size + 1 + 1, 2, none⟩ = some (.slice none 0 0) := blk_cell sk (j := 2) rfl
        have sf2 := blk_frozen (j := 2) sk
        clear hL8
        go_wp2_with (fail)
        have hLF := lnk_farB (v0 := .slice A7 x'.length c7) (v1 := .slice A4 zd.length d4) (v2 := .slice B2 y.length d2) hL7 sk
        refine bodyPost_ret (v := .tuple #[.agg #[.slice A7 x'.length c7, .slice A4 zd.length d4, .slice B2 y.length d2], .int .i64 0]) (by simp [results, Try.results49, go_sem, s0, s1, s2, zx2]) rfl ?_
        rw [HQ2.out]
        exact ⟨A7, c7, B2, d2, A4, d4, rfl, hLF, below_set _ (by simp; omega) (below_set _ (by simp; omega) (below_set _ (by simp; omega) hbw))⟩
end Go.Proofs.Ytcfbnmcdncndpaa
