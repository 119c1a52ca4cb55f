/-
  Chapter 8: the reference's Moved, kind by kind (printed by mk_rmv.py).
-/
import Derived.Test.YtcfbnmcdncndpaaWCpL
import Derived.Test.YtcfbnmcdncndpaaWRrc
namespace Go.Proofs.Ytcfbnmcdncndpaa
open Go.ChangeShapes Go.WideShapes Go.ChangeAt Go.RowKit
set_option linter.unusedVariables false
set_option linter.unusedSimpArgs false

def rmv (L : Lnk) (mv : Mv) : Lnk × Int := if (movL L mv).2 = 0 then ((movL L mv).1, 0) else (Lz, (movL L mv).2)
theorem rows_far1 {α : Type} {m : Nat} {f : α → Nat → Value} {w : World} {A : Option Addr} {l : List α} {b j : Nat} {a1 a2 a3 : Option Addr} {n1 n2 n3 c1 c2 c3 : Nat} {T : TypeId} {fr : Nat × Nat} {v : Value} (hm : 0 < m) (h : RowsAt m f w A l) (hb : w.heap[b]? = some (.cells #[.slice a1 n1 c1, .slice a2 n2 c2, .slice a3 n3 c3] T fr)) (hne : ∀ x, ∃ s, f x 0 = .string s) :
    RowsAt m f (w.setCell ⟨b, j, none⟩ v) A l := fun k x hk => by
  obtain ⟨b', off, e, hlt, hc⟩ := h k x hk
  have hbb : b ≠ b' := by
    rintro rfl
    have h0 := hc 0 hm
    rw [cell_of_row _ _ _ _ T fr hb] at h0
    obtain ⟨s, hs⟩ := hne x
    rw [hs] at h0
    generalize off + k * m + 0 = q at h0
    match q, h0 with
    | 0, h0 => simp at h0
    | 1, h0 => simp at h0
    | 2, h0 => simp at h0
    | q + 3, h0 => simp at h0
  exact ⟨b', off, e, by simpa using hlt, fun q hq => cell_far (by simpa using hbb) (hc q hq)⟩
theorem neqZ (m : Msg) (w : World) : (binOp .neq 45 (.agg #[.string m.s, .int .i64 m.v, .int .i64 m.l]) (.agg #[.string ⟨#[]⟩, .int .i64 0, .int .i64 0])).run Try.prog w = .ok (.bool (!isZ m)) w := by
  have hS : Try.prog.underlying 45 = some (.struct (Try.prog.fieldsOf 45)) := by kernel_rfl
  have hp : Try.prog.stoodInHeld 45 = false := by kernel_rfl
  rw [run_neq_struct, show (10000 : Nat) = 9999 + 1 from rfl, run_equalIn_agg w 9999 45 _ _ hS hp]
  simp only [Program.fieldsOf, Try.underlying45]
  unfold isZ
  cases h0 : m.s.toList.isEmpty <;> cases h1 : (m.v == 0) <;> cases h2 : (m.l == 0) <;> go_simp
theorem msgC_s (x : Msg) : ∃ s, msgC x 0 = .string s := ⟨_, rfl⟩
theorem pktC_s (x : Pkt) : ∃ s, pktC x 0 = .string s := ⟨_, rfl⟩
theorem lnk_far1 {A1 A2 A3 : Option Addr} {L : Lnk} {w : World} {b j : Nat} {a1 a2 a3 : Option Addr} {n1 n2 n3 c1 c2 c3 : Nat} {T : TypeId} {fr : Nat × Nat} {v : Value} (h : LnkR A1 A2 A3 L w) (hb : w.heap[b]? = some (.cells #[.slice a1 n1 c1, .slice a2 n2 c2, .slice a3 n3 c3] T fr)) :
    LnkR A1 A2 A3 L (w.setCell ⟨b, j, none⟩ v) := ⟨rows_far1 (by decide) h.r1 hb msgC_s, rows_far1 (by decide) h.r2 hb msgC_s, rows_far1 (by decide) h.r3 hb pktC_s⟩
theorem own_ne_lt {w : World} {B : Nat} {e : TypeId} {size n : Nat} {v : Value} {xs : List Value} (h : w.ownsRow B e size v n xs) {a : Nat} (ha : a < B) : v.ownBlock ≠ some a := fun e => by have := (h.lt a e).1; omega
theorem LnkO.set {B : Nat} {A1 : Option Addr} {c1 : Nat} {A2 : Option Addr} {c2 : Nat} {A3 : Option Addr} {c3 : Nat} {L : Lnk} {w : World} (h : LnkO B A1 c1 A2 c2 A3 c3 L w) {a j : Nat} (ha : a < B) (v : Value) : LnkO B A1 c1 A2 c2 A3 c3 L (w.setCell ⟨a, j, none⟩ v) :=
  ⟨own_set h.o1 (own_ne_lt h.o1 ha) v, own_set h.o2 (own_ne_lt h.o2 ha) v, own_set h.o3 (own_ne_lt h.o3 ha) v, h.x12, h.x13, h.x23⟩
theorem LnkO.below {B : Nat} {A1 : Option Addr} {c1 : Nat} {A2 : Option Addr} {c2 : Nat} {A3 : Option Addr} {c3 : Nat} {L : Lnk} {w w' : World} (h : LnkO B A1 c1 A2 c2 A3 c3 L w) (hb : Below w.heap.size w w') : LnkO B A1 c1 A2 c2 A3 c3 L w' :=
  ⟨own_below h.o1 hb, own_below h.o2 hb, own_below h.o3 hb, h.x12, h.x13, h.x23⟩
theorem blk_set3 {w : World} {b : Nat} {u0 u1 u2 v0 v1 v2 : Value} {T : TypeId} (h : w.heap[b]? = some (.cells #[u0, u1, u2] T (0, 0))) : (((w.setCell ⟨b, 0, none⟩ v0).setCell ⟨b, 1, none⟩ v1).setCell ⟨b, 2, none⟩ v2).heap[b]? = some (.cells #[v0, v1, v2] T (0, 0)) := heap_set (heap_set (heap_set h))
theorem blk_far3 {w : World} {b c : Nat} {o : Obj} {v0 v1 v2 : Value} (hne : c ≠ b) (h : w.heap[c]? = some o) : (((w.setCell ⟨b, 0, none⟩ v0).setCell ⟨b, 1, none⟩ v1).setCell ⟨b, 2, none⟩ v2).heap[c]? = some o := blk_far _ hne (blk_far _ hne (blk_far _ hne h))
set_option maxRecDepth 100000 in
set_option maxHeartbeats 4000000 in
theorem RMovedK_any (A1 : Option Addr) (c1 : Nat) (A2 : Option Addr) (c2 : Nat) (A3 : Option Addr) (c3 : Nat) (L : Lnk) (k : Int) (i : Int) (m : Msg) (w : World) (hR : LnkR A1 A2 A3 L w) (hok : OkL L) (hk : withinB k 0 4 = false) :
    Calls Try.prog 49 #[LnkV A1 c1 A2 c2 A3 c3 L, .agg #[.int .i64 k, .int .i64 i, .string m.s, .int .i64 m.v, .int .i64 m.l]] w (LnkE2 (rmv L ⟨k, i, m⟩) w) := by
  obtain ⟨x, z, y⟩ := L
  have hR0 : MsgsAt w A1 x ∧ MsgsAt w A2 y ∧ PktsAt w A3 z := ⟨hR.r1, hR.r2, hR.r3⟩
  have HC := Lib.hid (fun W (h : LnkR A1 A2 A3 ⟨x, z, y⟩ W) => CopyLink_own A1 c1 A2 c2 A3 c3 ⟨x, z, y⟩ W (by have := hok.l1; omega) (by have := hok.l2; omega) (by have := hok.l3; omega) h)
  have l1 : x.length ≤ 30 := hok.l1
  have l2 : y.length ≤ 30 := hok.l2
  have l3 : z.length ≤ 60 := hok.l3
  have HOK := Lib.hid hok
  have HRM : Hid (rmv ⟨x, z, y⟩ ⟨k, i, m⟩ = rmv ⟨x, z, y⟩ ⟨k, i, m⟩) := Lib.hid rfl
  clear hok hR0
  simp only [LnkV]
  go_enter Try.func49, Try.ntmps49
  go_wp2_with (fail)
  have hb0 : Below w.heap.size w (((w.alloc (.cells #[.slice A1 x.length c1, .slice A3 z.length c3, .slice A2 y.length c2] 41)).alloc (.cells #[.int .i64 k, .int .i64 i, .string m.s, .int .i64 m.v, .int .i64 m.l] 47)).alloc (.cells #[.slice none 0 0, .slice none 0 0, .slice none 0 0] 41)) := below_alloc _ (Nat.le_refl _) (below_alloc _ (Nat.le_refl _) (below_alloc _ (Nat.le_refl _) (Below.refl _ _)))
  have p0 : (((w.alloc (.cells #[.slice A1 x.length c1, .slice A3 z.length c3, .slice A2 y.length c2] 41)).alloc (.cells #[.int .i64 k, .int .i64 i, .string m.s, .int .i64 m.v, .int .i64 m.l] 47)).alloc (.cells #[.slice none 0 0, .slice none 0 0, .slice none 0 0] 41)).cell? ⟨w.heap.size, 0, none⟩ = some (.slice A1 x.length c1) := cell_alloc _ (cell_alloc _ (cell_new (by simp) rfl))
  have p1 : (((w.alloc (.cells #[.slice A1 x.length c1, .slice A3 z.length c3, .slice A2 y.length c2] 41)).alloc (.cells #[.int .i64 k, .int .i64 i, .string m.s, .int .i64 m.v, .int .i64 m.l] 47)).alloc (.cells #[.slice none 0 0, .slice none 0 0, .slice none 0 0] 41)).cell? ⟨w.heap.size, 1, none⟩ = some (.slice A3 z.length c3) := cell_alloc _ (cell_alloc _ (cell_new (by simp) rfl))
  have p2 : (((w.alloc (.cells #[.slice A1 x.length c1, .slice A3 z.length c3, .slice A2 y.length c2] 41)).alloc (.cells #[.int .i64 k, .int .i64 i, .string m.s, .int .i64 m.v, .int .i64 m.l] 47)).alloc (.cells #[.slice none 0 0, .slice none 0 0, .slice none 0 0] 41)).cell? ⟨w.heap.size, 2, none⟩ = some (.slice A2 y.length c2) := cell_alloc _ (cell_alloc _ (cell_new (by simp) rfl))
  have pk : (((w.alloc (.cells #[.slice A1 x.length c1, .slice A3 z.length c3, .slice A2 y.length c2] 41)).alloc (.cells #[.int .i64 k, .int .i64 i, .string m.s, .int .i64 m.v, .int .i64 m.l] 47)).alloc (.cells #[.slice none 0 0, .slice none 0 0, .slice none 0 0] 41)).heap[w.heap.size]? = some (.cells #[.slice A1 x.length c1, .slice A3 z.length c3, .slice A2 y.length c2] 41) := blk_alloc _ (blk_alloc _ (blk_new (by simp)))
  have zp : w.heap.size < (((w.alloc (.cells #[.slice A1 x.length c1, .slice A3 z.length c3, .slice A2 y.length c2] 41)).alloc (.cells #[.int .i64 k, .int .i64 i, .string m.s, .int .i64 m.v, .int .i64 m.l] 47)).alloc (.cells #[.slice none 0 0, .slice none 0 0, .slice none 0 0] 41)).heap.size := World.block_lt_of_cell? _ _ p0
  have q0 : (((w.alloc (.cells #[.slice A1 x.length c1, .slice A3 z.length c3, .slice A2 y.length c2] 41)).alloc (.cells #[.int .i64 k, .int .i64 i, .string m.s, .int .i64 m.v, .int .i64 m.l] 47)).alloc (.cells #[.slice none 0 0, .slice none 0 0, .slice none 0 0] 41)).cell? ⟨w.heap.size + 1, 0, none⟩ = some (.int .i64 k) := cell_alloc _ (cell_new (by simp) rfl)
  have q1 : (((w.alloc (.cells #[.slice A1 x.length c1, .slice A3 z.length c3, .slice A2 y.length c2] 41)).alloc (.cells #[.int .i64 k, .int .i64 i, .string m.s, .int .i64 m.v, .int .i64 m.l] 47)).alloc (.cells #[.slice none 0 0, .slice none 0 0, .slice none 0 0] 41)).cell? ⟨w.heap.size + 1, 1, none⟩ = some (.int .i64 i) := cell_alloc _ (cell_new (by simp) rfl)
  have q2 : (((w.alloc (.cells #[.slice A1 x.length c1, .slice A3 z.length c3, .slice A2 y.length c2] 41)).alloc (.cells #[.int .i64 k, .int .i64 i, .string m.s, .int .i64 m.v, .int .i64 m.l] 47)).alloc (.cells #[.slice none 0 0, .slice none 0 0, .slice none 0 0] 41)).cell? ⟨w.heap.size + 1, 2, none⟩ = some (.string m.s) := cell_alloc _ (cell_new (by simp) rfl)
  have q3 : (((w.alloc (.cells #[.slice A1 x.length c1, .slice A3 z.length c3, .slice A2 y.length c2] 41)).alloc (.cells #[.int .i64 k, .int .i64 i, .string m.s, .int .i64 m.v, .int .i64 m.l] 47)).alloc (.cells #[.slice none 0 0, .slice none 0 0, .slice none 0 0] 41)).cell? ⟨w.heap.size + 1, 3, none⟩ = some (.int .i64 m.v) := cell_alloc _ (cell_new (by simp) rfl)
  have q4 : (((w.alloc (.cells #[.slice A1 x.length c1, .slice A3 z.length c3, .slice A2 y.length c2] 41)).alloc (.cells #[.int .i64 k, .int .i64 i, .string m.s, .int .i64 m.v, .int .i64 m.l] 47)).alloc (.cells #[.slice none 0 0, .slice none 0 0, .slice none 0 0] 41)).cell? ⟨w.heap.size + 1, 4, none⟩ = some (.int .i64 m.l) := cell_alloc _ (cell_new (by simp) rfl)
  have qk : (((w.alloc (.cells #[.slice A1 x.length c1, .slice A3 z.length c3, .slice A2 y.length c2] 41)).alloc (.cells #[.int .i64 k, .int .i64 i, .string m.s, .int .i64 m.v, .int .i64 m.l] 47)).alloc (.cells #[.slice none 0 0, .slice none 0 0, .slice none 0 0] 41)).heap[w.heap.size + 1]? = some (.cells #[.int .i64 k, .int .i64 i, .string m.s, .int .i64 m.v, .int .i64 m.l] 47) := blk_alloc _ (blk_new (by simp))
  have zq : w.heap.size + 1 < (((w.alloc (.cells #[.slice A1 x.length c1, .slice A3 z.length c3, .slice A2 y.length c2] 41)).alloc (.cells #[.int .i64 k, .int .i64 i, .string m.s, .int .i64 m.v, .int .i64 m.l] 47)).alloc (.cells #[.slice none 0 0, .slice none 0 0, .slice none 0 0] 41)).heap.size := World.block_lt_of_cell? _ _ q0
  have s0 : (((w.alloc (.cells #[.slice A1 x.length c1, .slice A3 z.length c3, .slice A2 y.length c2] 41)).alloc (.cells #[.int .i64 k, .int .i64 i, .string m.s, .int .i64 m.v, .int .i64 m.l] 47)).alloc (.cells #[.slice none 0 0, .slice none 0 0, .slice none 0 0] 41)).cell? ⟨w.heap.size + 1 + 1, 0, none⟩ = some (.slice none 0 0) := cell_new (by simp) rfl
  have s1 : (((w.alloc (.cells #[.slice A1 x.length c1, .slice A3 z.length c3, .slice A2 y.length c2] 41)).alloc (.cells #[.int .i64 k, .int .i64 i, .string m.s, .int .i64 m.v, .int .i64 m.l] 47)).alloc (.cells #[.slice none 0 0, .slice none 0 0, .slice none 0 0] 41)).cell? ⟨w.heap.size + 1 + 1, 1, none⟩ = some (.slice none 0 0) := cell_new (by simp) rfl
  have s2 : (((w.alloc (.cells #[.slice A1 x.length c1, .slice A3 z.length c3, .slice A2 y.length c2] 41)).alloc (.cells #[.int .i64 k, .int .i64 i, .string m.s, .int .i64 m.v, .int .i64 m.l] 47)).alloc (.cells #[.slice none 0 0, .slice none 0 0, .slice none 0 0] 41)).cell? ⟨w.heap.size + 1 + 1, 2, none⟩ = some (.slice none 0 0) := cell_new (by simp) rfl
  have sk : (((w.alloc (.cells #[.slice A1 x.length c1, .slice A3 z.length c3, .slice A2 y.length c2] 41)).alloc (.cells #[.int .i64 k, .int .i64 i, .string m.s, .int .i64 m.v, .int .i64 m.l] 47)).alloc (.cells #[.slice none 0 0, .slice none 0 0, .slice none 0 0] 41)).heap[w.heap.size + 1 + 1]? = some (.cells #[.slice none 0 0, .slice none 0 0, .slice none 0 0] 41) := blk_new (by simp)
  have zs : w.heap.size + 1 + 1 < (((w.alloc (.cells #[.slice A1 x.length c1, .slice A3 z.length c3, .slice A2 y.length c2] 41)).alloc (.cells #[.int .i64 k, .int .i64 i, .string m.s, .int .i64 m.v, .int .i64 m.l] 47)).alloc (.cells #[.slice none 0 0, .slice none 0 0, .slice none 0 0] 41)).heap.size := World.block_lt_of_cell? _ _ s0
  generalize (((w.alloc (.cells #[.slice A1 x.length c1, .slice A3 z.length c3, .slice A2 y.length c2] 41)).alloc (.cells #[.int .i64 k, .int .i64 i, .string m.s, .int .i64 m.v, .int .i64 m.l] 47)).alloc (.cells #[.slice none 0 0, .slice none 0 0, .slice none 0 0] 41)) = w0 at *
  refine (HC.out _ (hR.below hb0)).mono ?_
  rintro e w1 ⟨B1, d1, B2, d2, B3, d3, rfl, own, hb1, zw1⟩
  clear HC hR
  have hak := blk_below' hb1 pk
  have hbk := blk_below' hb1 qk
  have hck := blk_below' hb1 sk
  have zz := hb1.size
  have hbw1 : Below w.heap.size w w1 := hb0.trans (hb1.mono hb0.size)
  clear pk qk sk p0 p1 p2 q0 q1 q2 q3 q4 s0 s1 s2 hb0 hb1
  have p0 := blk_cell hak (j := 0) rfl
  have p1 := blk_cell hak (j := 1) rfl
  have p2 := blk_cell hak (j := 2) rfl
  have pf0 := blk_frozen (j := 0) hak
  have pf1 := blk_frozen (j := 1) hak
  have pf2 := blk_frozen (j := 2) hak
  have zx : w.heap.size + 2 < w1.heap.size := Nat.lt_of_lt_of_le zs zz
  go_upto_region 2 with (fail)
  have pk := blk_set3 (v0 := .slice B1 x.length d1) (v1 := .slice B3 z.length d3) (v2 := .slice B2 y.length d2) hak
  have qk := blk_far3 (b := w.heap.size) (v0 := .slice B1 x.length d1) (v1 := .slice B3 z.length d3) (v2 := .slice B2 y.length d2) (by omega) hbk
  have sk := blk_far3 (b := w.heap.size) (v0 := .slice B1 x.length d1) (v1 := .slice B3 z.length d3) (v2 := .slice B2 y.length d2) (by omega) hck
  have own2 := ((own.set (j := 0) (a := w.heap.size) (by omega) (.slice B1 x.length d1)).set (j := 1) (a := w.heap.size) (by omega) (.slice B3 z.length d3)).set (j := 2) (a := w.heap.size) (by omega) (.slice B2 y.length d2)
  have zB2 : w0.heap.size + 2 ≤ (((w1.setCell ⟨w.heap.size, 0, none⟩ (.slice B1 x.length d1)).setCell ⟨w.heap.size, 1, none⟩ (.slice B3 z.length d3)).setCell ⟨w.heap.size, 2, none⟩ (.slice B2 y.length d2)).heap.size := by simp; omega
  have hbw : Below w.heap.size w (((w1.setCell ⟨w.heap.size, 0, none⟩ (.slice B1 x.length d1)).setCell ⟨w.heap.size, 1, none⟩ (.slice B3 z.length d3)).setCell ⟨w.heap.size, 2, none⟩ (.slice B2 y.length d2)) := below_set _ (by simp) (below_set _ (by simp) (below_set _ (by simp) hbw1))
  have zx2 : w.heap.size + 2 < (((w1.setCell ⟨w.heap.size, 0, none⟩ (.slice B1 x.length d1)).setCell ⟨w.heap.size, 1, none⟩ (.slice B3 z.length d3)).setCell ⟨w.heap.size, 2, none⟩ (.slice B2 y.length d2)).heap.size := by simp; omega
  clear hak hbk hck p0 p1 p2 pf0 pf1 pf2 own hbw1 zx zz zw1
  generalize (((w1.setCell ⟨w.heap.size, 0, none⟩ (.slice B1 x.length d1)).setCell ⟨w.heap.size, 1, none⟩ (.slice B3 z.length d3)).setCell ⟨w.heap.size, 2, none⟩ (.slice B2 y.length d2)) = w2 at *
  have OWN := Lib.hid own2
  have zB : w.heap.size + 2 < w0.heap.size := zs
  have za2 : w.heap.size < w2.heap.size := by omega
  have zpB : w.heap.size < w0.heap.size + 2 := by omega
  have zqB : w.heap.size + 1 < w0.heap.size + 2 := by omega
  have zsB : w.heap.size + 1 + 1 < w0.heap.size + 2 := by omega
  have zb2 : w.heap.size + 1 < w2.heap.size := by omega
  clear own2 zp zq zs w1
  have p0 : w2.cell? ⟨w.heap.size, 0, none⟩ = some (.slice B1 x.length d1) := blk_cell pk (j := 0) rfl
  have pf0 := blk_frozen (j := 0) pk
  have p1 : w2.cell? ⟨w.heap.size, 1, none⟩ = some (.slice B3 z.length d3) := blk_cell pk (j := 1) rfl
  have pf1 := blk_frozen (j := 1) pk
  have p2 : w2.cell? ⟨w.heap.size, 2, none⟩ = some (.slice B2 y.length d2) := blk_cell pk (j := 2) rfl
  have pf2 := blk_frozen (j := 2) pk
  have q0 : w2.cell? ⟨w.heap.size + 1, 0, none⟩ = some (.int .i64 k) := blk_cell qk (j := 0) rfl
  have q1 : w2.cell? ⟨w.heap.size + 1, 1, none⟩ = some (.int .i64 i) := blk_cell qk (j := 1) rfl
  have q2 : w2.cell? ⟨w.heap.size + 1, 2, none⟩ = some (.string m.s) := blk_cell qk (j := 2) rfl
  have q3 : w2.cell? ⟨w.heap.size + 1, 3, none⟩ = some (.int .i64 m.v) := blk_cell qk (j := 3) rfl
  have q4 : w2.cell? ⟨w.heap.size + 1, 4, none⟩ = some (.int .i64 m.l) := blk_cell qk (j := 4) rfl
  have s0 : w2.cell? ⟨w.heap.size + 1 + 1, 0, none⟩ = some (.slice none 0 0) := blk_cell sk (j := 0) rfl
  have sf0 := blk_frozen (j := 0) sk
  have s1 : w2.cell? ⟨w.heap.size + 1 + 1, 1, none⟩ = some (.slice none 0 0) := blk_cell sk (j := 1) rfl
  have sf1 := blk_frozen (j := 1) sk
  have s2 : w2.cell? ⟨w.heap.size + 1 + 1, 2, none⟩ = some (.slice none 0 0) := blk_cell sk (j := 2) rfl
  have sf2 := blk_frozen (j := 2) sk
  have hq : rmv ⟨x, z, y⟩ ⟨k, i, m⟩ = (Lz, 15) := by
    have h0 : mvE0 ⟨k, i, m⟩ = 15 := by unfold mvE0; simp only; rw [hk]; rfl
    have h1 : movL ⟨x, z, y⟩ ⟨k, i, m⟩ = (⟨x, z, y⟩, 15) := by unfold movL; rw [if_pos (by rw [h0]; decide), h0]
    unfold rmv; rw [h1, if_neg (show ¬ ((15 : Int) = 0) by decide)]
  have HQ := Lib.hid hq
  clear hq HRM
  go_wp2_with (go_at_call 22; refine (Within_any _ _ _ _).mono ?_; rintro e w' ⟨rfl, rfl⟩; rw [hk])
  refine bodyPost_ret (v := .tuple #[.agg #[.slice none 0 0, .slice none 0 0, .slice none 0 0], .int .i64 15]) (by simp [results, Try.results49, go_sem, s0, s1, s2, zx2]) rfl ?_
  rw [HQ.out]
  exact ⟨none, 0, none, 0, none, 0, rfl, lnkR_z, (by repeat (first | assumption | exact Below.refl _ _ | refine Below.drew ?_ | (refine below_alloc _ ?_ ?_; focus (first | omega | (simp; done) | (simp; omega) | (simp at *; omega))) | (refine below_set _ ?_ ?_; focus (first | omega | (simp; done) | (simp; omega) | (simp at *; omega))) | refine below_drewN ?_ _ | (refine below_call (by assumption) ?_ ?_; focus (first | omega | (simp; done) | (simp; omega) | (simp at *; omega))) | (refine below_call' (by assumption) ?_ ?_; focus (first | omega | (simp; done) | (simp; omega) | (simp at *; omega)))))⟩
set_option maxRecDepth 100000 in
set_option maxHeartbeats 4000000 in
theorem RMovedF0_any (A1 : Option Addr) (c1 : Nat) (A2 : Option Addr) (c2 : Nat) (A3 : Option Addr) (c3 : Nat) (L : Lnk) (i : Int) (m : Msg) (w : World) (hR : LnkR A1 A2 A3 L w) (hok : OkL L) (hi : (i == 0) = false) :
    Calls Try.prog 49 #[LnkV A1 c1 A2 c2 A3 c3 L, .agg #[.int .i64 0, .int .i64 i, .string m.s, .int .i64 m.v, .int .i64 m.l]] w (LnkE2 (rmv L ⟨0, i, m⟩) w) := by
  obtain ⟨x, z, y⟩ := L
  have hR0 : MsgsAt w A1 x ∧ MsgsAt w A2 y ∧ PktsAt w A3 z := ⟨hR.r1, hR.r2, hR.r3⟩
  have HC := Lib.hid (fun W (h : LnkR A1 A2 A3 ⟨x, z, y⟩ W) => CopyLink_own A1 c1 A2 c2 A3 c3 ⟨x, z, y⟩ W (by have := hok.l1; omega) (by have := hok.l2; omega) (by have := hok.l3; omega) h)
  have l1 : x.length ≤ 30 := hok.l1
  have l2 : y.length ≤ 30 := hok.l2
  have l3 : z.length ≤ 60 := hok.l3
  have HOK := Lib.hid hok
  have HRM : Hid (rmv ⟨x, z, y⟩ ⟨0, i, m⟩ = rmv ⟨x, z, y⟩ ⟨0, i, m⟩) := Lib.hid rfl
  clear hok hR0
  simp only [LnkV]
  go_enter Try.func49, Try.ntmps49
  go_wp2_with (fail)
  have hb0 : Below w.heap.size w (((w.alloc (.cells #[.slice A1 x.length c1, .slice A3 z.length c3, .slice A2 y.length c2] 41)).alloc (.cells #[.int .i64 0, .int .i64 i, .string m.s, .int .i64 m.v, .int .i64 m.l] 47)).alloc (.cells #[.slice none 0 0, .slice none 0 0, .slice none 0 0] 41)) := below_alloc _ (Nat.le_refl _) (below_alloc _ (Nat.le_refl _) (below_alloc _ (Nat.le_refl _) (Below.refl _ _)))
  have p0 : (((w.alloc (.cells #[.slice A1 x.length c1, .slice A3 z.length c3, .slice A2 y.length c2] 41)).alloc (.cells #[.int .i64 0, .int .i64 i, .string m.s, .int .i64 m.v, .int .i64 m.l] 47)).alloc (.cells #[.slice none 0 0, .slice none 0 0, .slice none 0 0] 41)).cell? ⟨w.heap.size, 0, none⟩ = some (.slice A1 x.length c1) := cell_alloc _ (cell_alloc _ (cell_new (by simp) rfl))
  have p1 : (((w.alloc (.cells #[.slice A1 x.length c1, .slice A3 z.length c3, .slice A2 y.length c2] 41)).alloc (.cells #[.int .i64 0, .int .i64 i, .string m.s, .int .i64 m.v, .int .i64 m.l] 47)).alloc (.cells #[.slice none 0 0, .slice none 0 0, .slice none 0 0] 41)).cell? ⟨w.heap.size, 1, none⟩ = some (.slice A3 z.length c3) := cell_alloc _ (cell_alloc _ (cell_new (by simp) rfl))
  have p2 : (((w.alloc (.cells #[.slice A1 x.length c1, .slice A3 z.length c3, .slice A2 y.length c2] 41)).alloc (.cells #[.int .i64 0, .int .i64 i, .string m.s, .int .i64 m.v, .int .i64 m.l] 47)).alloc (.cells #[.slice none 0 0, .slice none 0 0, .slice none 0 0] 41)).cell? ⟨w.heap.size, 2, none⟩ = some (.slice A2 y.length c2) := cell_alloc _ (cell_alloc _ (cell_new (by simp) rfl))
  have pk : (((w.alloc (.cells #[.slice A1 x.length c1, .slice A3 z.length c3, .slice A2 y.length c2] 41)).alloc (.cells #[.int .i64 0, .int .i64 i, .string m.s, .int .i64 m.v, .int .i64 m.l] 47)).alloc (.cells #[.slice none 0 0, .slice none 0 0, .slice none 0 0] 41)).heap[w.heap.size]? = some (.cells #[.slice A1 x.length c1, .slice A3 z.length c3, .slice A2 y.length c2] 41) := blk_alloc _ (blk_alloc _ (blk_new (by simp)))
  have zp : w.heap.size < (((w.alloc (.cells #[.slice A1 x.length c1, .slice A3 z.length c3, .slice A2 y.length c2] 41)).alloc (.cells #[.int .i64 0, .int .i64 i, .string m.s, .int .i64 m.v, .int .i64 m.l] 47)).alloc (.cells #[.slice none 0 0, .slice none 0 0, .slice none 0 0] 41)).heap.size := World.block_lt_of_cell? _ _ p0
  have q0 : (((w.alloc (.cells #[.slice A1 x.length c1, .slice A3 z.length c3, .slice A2 y.length c2] 41)).alloc (.cells #[.int .i64 0, .int .i64 i, .string m.s, .int .i64 m.v, .int .i64 m.l] 47)).alloc (.cells #[.slice none 0 0, .slice none 0 0, .slice none 0 0] 41)).cell? ⟨w.heap.size + 1, 0, none⟩ = some (.int .i64 0) := cell_alloc _ (cell_new (by simp) rfl)
  have q1 : (((w.alloc (.cells #[.slice A1 x.length c1, .slice A3 z.length c3, .slice A2 y.length c2] 41)).alloc (.cells #[.int .i64 0, .int .i64 i, .string m.s, .int .i64 m.v, .int .i64 m.l] 47)).alloc (.cells #[.slice none 0 0, .slice none 0 0, .slice none 0 0] 41)).cell? ⟨w.heap.size + 1, 1, none⟩ = some (.int .i64 i) := cell_alloc _ (cell_new (by simp) rfl)
  have q2 : (((w.alloc (.cells #[.slice A1 x.length c1, .slice A3 z.length c3, .slice A2 y.length c2] 41)).alloc (.cells #[.int .i64 0, .int .i64 i, .string m.s, .int .i64 m.v, .int .i64 m.l] 47)).alloc (.cells #[.slice none 0 0, .slice none 0 0, .slice none 0 0] 41)).cell? ⟨w.heap.size + 1, 2, none⟩ = some (.string m.s) := cell_alloc _ (cell_new (by simp) rfl)
  have q3 : (((w.alloc (.cells #[.slice A1 x.length c1, .slice A3 z.length c3, .slice A2 y.length c2] 41)).alloc (.cells #[.int .i64 0, .int .i64 i, .string m.s, .int .i64 m.v, .int .i64 m.l] 47)).alloc (.cells #[.slice none 0 0, .slice none 0 0, .slice none 0 0] 41)).cell? ⟨w.heap.size + 1, 3, none⟩ = some (.int .i64 m.v) := cell_alloc _ (cell_new (by simp) rfl)
  have q4 : (((w.alloc (.cells #[.slice A1 x.length c1, .slice A3 z.length c3, .slice A2 y.length c2] 41)).alloc (.cells #[.int .i64 0, .int .i64 i, .string m.s, .int .i64 m.v, .int .i64 m.l] 47)).alloc (.cells #[.slice none 0 0, .slice none 0 0, .slice none 0 0] 41)).cell? ⟨w.heap.size + 1, 4, none⟩ = some (.int .i64 m.l) := cell_alloc _ (cell_new (by simp) rfl)
  have qk : (((w.alloc (.cells #[.slice A1 x.length c1, .slice A3 z.length c3, .slice A2 y.length c2] 41)).alloc (.cells #[.int .i64 0, .int .i64 i, .string m.s, .int .i64 m.v, .int .i64 m.l] 47)).alloc (.cells #[.slice none 0 0, .slice none 0 0, .slice none 0 0] 41)).heap[w.heap.size + 1]? = some (.cells #[.int .i64 0, .int .i64 i, .string m.s, .int .i64 m.v, .int .i64 m.l] 47) := blk_alloc _ (blk_new (by simp))
  have zq : w.heap.size + 1 < (((w.alloc (.cells #[.slice A1 x.length c1, .slice A3 z.length c3, .slice A2 y.length c2] 41)).alloc (.cells #[.int .i64 0, .int .i64 i, .string m.s, .int .i64 m.v, .int .i64 m.l] 47)).alloc (.cells #[.slice none 0 0, .slice none 0 0, .slice none 0 0] 41)).heap.size := World.block_lt_of_cell? _ _ q0
  have s0 : (((w.alloc (.cells #[.slice A1 x.length c1, .slice A3 z.length c3, .slice A2 y.length c2] 41)).alloc (.cells #[.int .i64 0, .int .i64 i, .string m.s, .int .i64 m.v, .int .i64 m.l] 47)).alloc (.cells #[.slice none 0 0, .slice none 0 0, .slice none 0 0] 41)).cell? ⟨w.heap.size + 1 + 1, 0, none⟩ = some (.slice none 0 0) := cell_new (by simp) rfl
  have s1 : (((w.alloc (.cells #[.slice A1 x.length c1, .slice A3 z.length c3, .slice A2 y.length c2] 41)).alloc (.cells #[.int .i64 0, .int .i64 i, .string m.s, .int .i64 m.v, .int .i64 m.l] 47)).alloc (.cells #[.slice none 0 0, .slice none 0 0, .slice none 0 0] 41)).cell? ⟨w.heap.size + 1 + 1, 1, none⟩ = some (.slice none 0 0) := cell_new (by simp) rfl
  have s2 : (((w.alloc (.cells #[.slice A1 x.length c1, .slice A3 z.length c3, .slice A2 y.length c2] 41)).alloc (.cells #[.int .i64 0, .int .i64 i, .string m.s, .int .i64 m.v, .int .i64 m.l] 47)).alloc (.cells #[.slice none 0 0, .slice none 0 0, .slice none 0 0] 41)).cell? ⟨w.heap.size + 1 + 1, 2, none⟩ = some (.slice none 0 0) := cell_new (by simp) rfl
  have sk : (((w.alloc (.cells #[.slice A1 x.length c1, .slice A3 z.length c3, .slice A2 y.length c2] 41)).alloc (.cells #[.int .i64 0, .int .i64 i, .string m.s, .int .i64 m.v, .int .i64 m.l] 47)).alloc (.cells #[.slice none 0 0, .slice none 0 0, .slice none 0 0] 41)).heap[w.heap.size + 1 + 1]? = some (.cells #[.slice none 0 0, .slice none 0 0, .slice none 0 0] 41) := blk_new (by simp)
  have zs : w.heap.size + 1 + 1 < (((w.alloc (.cells #[.slice A1 x.length c1, .slice A3 z.length c3, .slice A2 y.length c2] 41)).alloc (.cells #[.int .i64 0, .int .i64 i, .string m.s, .int .i64 m.v, .int .i64 m.l] 47)).alloc (.cells #[.slice none 0 0, .slice none 0 0, .slice none 0 0] 41)).heap.size := World.block_lt_of_cell? _ _ s0
  generalize (((w.alloc (.cells #[.slice A1 x.length c1, .slice A3 z.length c3, .slice A2 y.length c2] 41)).alloc (.cells #[.int .i64 0, .int .i64 i, .string m.s, .int .i64 m.v, .int .i64 m.l] 47)).alloc (.cells #[.slice none 0 0, .slice none 0 0, .slice none 0 0] 41)) = w0 at *
  refine (HC.out _ (hR.below hb0)).mono ?_
  rintro e w1 ⟨B1, d1, B2, d2, B3, d3, rfl, own, hb1, zw1⟩
  clear HC hR
  have hak := blk_below' hb1 pk
  have hbk := blk_below' hb1 qk
  have hck := blk_below' hb1 sk
  have zz := hb1.size
  have hbw1 : Below w.heap.size w w1 := hb0.trans (hb1.mono hb0.size)
  clear pk qk sk p0 p1 p2 q0 q1 q2 q3 q4 s0 s1 s2 hb0 hb1
  have p0 := blk_cell hak (j := 0) rfl
  have p1 := blk_cell hak (j := 1) rfl
  have p2 := blk_cell hak (j := 2) rfl
  have pf0 := blk_frozen (j := 0) hak
  have pf1 := blk_frozen (j := 1) hak
  have pf2 := blk_frozen (j := 2) hak
  have zx : w.heap.size + 2 < w1.heap.size := Nat.lt_of_lt_of_le zs zz
  go_upto_region 2 with (fail)
  have pk := blk_set3 (v0 := .slice B1 x.length d1) (v1 := .slice B3 z.length d3) (v2 := .slice B2 y.length d2) hak
  have qk := blk_far3 (b := w.heap.size) (v0 := .slice B1 x.length d1) (v1 := .slice B3 z.length d3) (v2 := .slice B2 y.length d2) (by omega) hbk
  have sk := blk_far3 (b := w.heap.size) (v0 := .slice B1 x.length d1) (v1 := .slice B3 z.length d3) (v2 := .slice B2 y.length d2) (by omega) hck
  have own2 := ((own.set (j := 0) (a := w.heap.size) (by omega) (.slice B1 x.length d1)).set (j := 1) (a := w.heap.size) (by omega) (.slice B3 z.length d3)).set (j := 2) (a := w.heap.size) (by omega) (.slice B2 y.length d2)
  have zB2 : w0.heap.size + 2 ≤ (((w1.setCell ⟨w.heap.size, 0, none⟩ (.slice B1 x.length d1)).setCell ⟨w.heap.size, 1, none⟩ (.slice B3 z.length d3)).setCell ⟨w.heap.size, 2, none⟩ (.slice B2 y.length d2)).heap.size := by simp; omega
  have hbw : Below w.heap.size w (((w1.setCell ⟨w.heap.size, 0, none⟩ (.slice B1 x.length d1)).setCell ⟨w.heap.size, 1, none⟩ (.slice B3 z.length d3)).setCell ⟨w.heap.size, 2, none⟩ (.slice B2 y.length d2)) := below_set _ (by simp) (below_set _ (by simp) (below_set _ (by simp) hbw1))
  have zx2 : w.heap.size + 2 < (((w1.setCell ⟨w.heap.size, 0, none⟩ (.slice B1 x.length d1)).setCell ⟨w.heap.size, 1, none⟩ (.slice B3 z.length d3)).setCell ⟨w.heap.size, 2, none⟩ (.slice B2 y.length d2)).heap.size := by simp; omega
  clear hak hbk hck p0 p1 p2 pf0 pf1 pf2 own hbw1 zx zz zw1
  generalize (((w1.setCell ⟨w.heap.size, 0, none⟩ (.slice B1 x.length d1)).setCell ⟨w.heap.size, 1, none⟩ (.slice B3 z.length d3)).setCell ⟨w.heap.size, 2, none⟩ (.slice B2 y.length d2)) = w2 at *
  have OWN := Lib.hid own2
  have zB : w.heap.size + 2 < w0.heap.size := zs
  have za2 : w.heap.size < w2.heap.size := by omega
  have zpB : w.heap.size < w0.heap.size + 2 := by omega
  have zqB : w.heap.size + 1 < w0.heap.size + 2 := by omega
  have zsB : w.heap.size + 1 + 1 < w0.heap.size + 2 := by omega
  have zb2 : w.heap.size + 1 < w2.heap.size := by omega
  clear own2 zp zq zs w1
  have p0 : w2.cell? ⟨w.heap.size, 0, none⟩ = some (.slice B1 x.length d1) := blk_cell pk (j := 0) rfl
  have pf0 := blk_frozen (j := 0) pk
  have p1 : w2.cell? ⟨w.heap.size, 1, none⟩ = some (.slice B3 z.length d3) := blk_cell pk (j := 1) rfl
  have pf1 := blk_frozen (j := 1) pk
  have p2 : w2.cell? ⟨w.heap.size, 2, none⟩ = some (.slice B2 y.length d2) := blk_cell pk (j := 2) rfl
  have pf2 := blk_frozen (j := 2) pk
  have q0 : w2.cell? ⟨w.heap.size + 1, 0, none⟩ = some (.int .i64 0) := blk_cell qk (j := 0) rfl
  have q1 : w2.cell? ⟨w.heap.size + 1, 1, none⟩ = some (.int .i64 i) := blk_cell qk (j := 1) rfl
  have q2 : w2.cell? ⟨w.heap.size + 1, 2, none⟩ = some (.string m.s) := blk_cell qk (j := 2) rfl
  have q3 : w2.cell? ⟨w.heap.size + 1, 3, none⟩ = some (.int .i64 m.v) := blk_cell qk (j := 3) rfl
  have q4 : w2.cell? ⟨w.heap.size + 1, 4, none⟩ = some (.int .i64 m.l) := blk_cell qk (j := 4) rfl
  have s0 : w2.cell? ⟨w.heap.size + 1 + 1, 0, none⟩ = some (.slice none 0 0) := blk_cell sk (j := 0) rfl
  have sf0 := blk_frozen (j := 0) sk
  have s1 : w2.cell? ⟨w.heap.size + 1 + 1, 1, none⟩ = some (.slice none 0 0) := blk_cell sk (j := 1) rfl
  have sf1 := blk_frozen (j := 1) sk
  have s2 : w2.cell? ⟨w.heap.size + 1 + 1, 2, none⟩ = some (.slice none 0 0) := blk_cell sk (j := 2) rfl
  have sf2 := blk_frozen (j := 2) sk
  have hq : rmv ⟨x, z, y⟩ ⟨0, i, m⟩ = (Lz, 3) := by
    have h0 : mvE0 ⟨0, i, m⟩ = 3 := by unfold mvE0; simp only; rw [hi]; rfl
    have h1 : movL ⟨x, z, y⟩ ⟨0, i, m⟩ = (⟨x, z, y⟩, 3) := by unfold movL; rw [if_pos (by rw [h0]; decide), h0]
    unfold rmv; rw [h1, if_neg (show ¬ ((3 : Int) = 0) by decide)]
  have HQ := Lib.hid hq
  clear hq HRM
  have hi2 : (i != 0) = true := by rw [bne, hi]; rfl
  go_wp2_with (go_at_call 22; refine (Within_any _ _ _ _).mono ?_; rintro e w' ⟨rfl, rfl⟩; rw [show withinB 0 0 4 = true from rfl])
  refine bodyPost_ret (v := .tuple #[.agg #[.slice none 0 0, .slice none 0 0, .slice none 0 0], .int .i64 3]) (by simp [results, Try.results49, go_sem, s0, s1, s2, zx2]) rfl ?_
  rw [HQ.out]
  exact ⟨none, 0, none, 0, none, 0, rfl, lnkR_z, (by repeat (first | assumption | exact Below.refl _ _ | refine Below.drew ?_ | (refine below_alloc _ ?_ ?_; focus (first | omega | (simp; done) | (simp; omega) | (simp at *; omega))) | (refine below_set _ ?_ ?_; focus (first | omega | (simp; done) | (simp; omega) | (simp at *; omega))) | refine below_drewN ?_ _ | (refine below_call (by assumption) ?_ ?_; focus (first | omega | (simp; done) | (simp; omega) | (simp at *; omega))) | (refine below_call' (by assumption) ?_ ?_; focus (first | omega | (simp; done) | (simp; omega) | (simp at *; omega)))))⟩
set_option maxRecDepth 100000 in
set_option maxHeartbeats 4000000 in
theorem RMovedF1_any (A1 : Option Addr) (c1 : Nat) (A2 : Option Addr) (c2 : Nat) (A3 : Option Addr) (c3 : Nat) (L : Lnk) (k : Int) (i : Int) (m : Msg) (w : World) (hR : LnkR A1 A2 A3 L w) (hok : OkL L) (hk : withinB k 0 4 = true) (h0 : (k == 0) = false) (hz : isZ m = false) :
    Calls Try.prog 49 #[LnkV A1 c1 A2 c2 A3 c3 L, .agg #[.int .i64 k, .int .i64 i, .string m.s, .int .i64 m.v, .int .i64 m.l]] w (LnkE2 (rmv L ⟨k, i, m⟩) w) := by
  obtain ⟨x, z, y⟩ := L
  have hR0 : MsgsAt w A1 x ∧ MsgsAt w A2 y ∧ PktsAt w A3 z := ⟨hR.r1, hR.r2, hR.r3⟩
  have HC := Lib.hid (fun W (h : LnkR A1 A2 A3 ⟨x, z, y⟩ W) => CopyLink_own A1 c1 A2 c2 A3 c3 ⟨x, z, y⟩ W (by have := hok.l1; omega) (by have := hok.l2; omega) (by have := hok.l3; omega) h)
  have l1 : x.length ≤ 30 := hok.l1
  have l2 : y.length ≤ 30 := hok.l2
  have l3 : z.length ≤ 60 := hok.l3
  have HOK := Lib.hid hok
  have HRM : Hid (rmv ⟨x, z, y⟩ ⟨k, i, m⟩ = rmv ⟨x, z, y⟩ ⟨k, i, m⟩) := Lib.hid rfl
  clear hok hR0
  simp only [LnkV]
  go_enter Try.func49, Try.ntmps49
  go_wp2_with (fail)
  have hb0 : Below w.heap.size w (((w.alloc (.cells #[.slice A1 x.length c1, .slice A3 z.length c3, .slice A2 y.length c2] 41)).alloc (.cells #[.int .i64 k, .int .i64 i, .string m.s, .int .i64 m.v, .int .i64 m.l] 47)).alloc (.cells #[.slice none 0 0, .slice none 0 0, .slice none 0 0] 41)) := below_alloc _ (Nat.le_refl _) (below_alloc _ (Nat.le_refl _) (below_alloc _ (Nat.le_refl _) (Below.refl _ _)))
  have p0 : (((w.alloc (.cells #[.slice A1 x.length c1, .slice A3 z.length c3, .slice A2 y.length c2] 41)).alloc (.cells #[.int .i64 k, .int .i64 i, .string m.s, .int .i64 m.v, .int .i64 m.l] 47)).alloc (.cells #[.slice none 0 0, .slice none 0 0, .slice none 0 0] 41)).cell? ⟨w.heap.size, 0, none⟩ = some (.slice A1 x.length c1) := cell_alloc _ (cell_alloc _ (cell_new (by simp) rfl))
  have p1 : (((w.alloc (.cells #[.slice A1 x.length c1, .slice A3 z.length c3, .slice A2 y.length c2] 41)).alloc (.cells #[.int .i64 k, .int .i64 i, .string m.s, .int .i64 m.v, .int .i64 m.l] 47)).alloc (.cells #[.slice none 0 0, .slice none 0 0, .slice none 0 0] 41)).cell? ⟨w.heap.size, 1, none⟩ = some (.slice A3 z.length c3) := cell_alloc _ (cell_alloc _ (cell_new (by simp) rfl))
  have p2 : (((w.alloc (.cells #[.slice A1 x.length c1, .slice A3 z.length c3, .slice A2 y.length c2] 41)).alloc (.cells #[.int .i64 k, .int .i64 i, .string m.s, .int .i64 m.v, .int .i64 m.l] 47)).alloc (.cells #[.slice none 0 0, .slice none 0 0, .slice none 0 0] 41)).cell? ⟨w.heap.size, 2, none⟩ = some (.slice A2 y.length c2) := cell_alloc _ (cell_alloc _ (cell_new (by simp) rfl))
  have pk : (((w.alloc (.cells #[.slice A1 x.length c1, .slice A3 z.length c3, .slice A2 y.length c2] 41)).alloc (.cells #[.int .i64 k, .int .i64 i, .string m.s, .int .i64 m.v, .int .i64 m.l] 47)).alloc (.cells #[.slice none 0 0, .slice none 0 0, .slice none 0 0] 41)).heap[w.heap.size]? = some (.cells #[.slice A1 x.length c1, .slice A3 z.length c3, .slice A2 y.length c2] 41) := blk_alloc _ (blk_alloc _ (blk_new (by simp)))
  have zp : w.heap.size < (((w.alloc (.cells #[.slice A1 x.length c1, .slice A3 z.length c3, .slice A2 y.length c2] 41)).alloc (.cells #[.int .i64 k, .int .i64 i, .string m.s, .int .i64 m.v, .int .i64 m.l] 47)).alloc (.cells #[.slice none 0 0, .slice none 0 0, .slice none 0 0] 41)).heap.size := World.block_lt_of_cell? _ _ p0
  have q0 : (((w.alloc (.cells #[.slice A1 x.length c1, .slice A3 z.length c3, .slice A2 y.length c2] 41)).alloc (.cells #[.int .i64 k, .int .i64 i, .string m.s, .int .i64 m.v, .int .i64 m.l] 47)).alloc (.cells #[.slice none 0 0, .slice none 0 0, .slice none 0 0] 41)).cell? ⟨w.heap.size + 1, 0, none⟩ = some (.int .i64 k) := cell_alloc _ (cell_new (by simp) rfl)
  have q1 : (((w.alloc (.cells #[.slice A1 x.length c1, .slice A3 z.length c3, .slice A2 y.length c2] 41)).alloc (.cells #[.int .i64 k, .int .i64 i, .string m.s, .int .i64 m.v, .int .i64 m.l] 47)).alloc (.cells #[.slice none 0 0, .slice none 0 0, .slice none 0 0] 41)).cell? ⟨w.heap.size + 1, 1, none⟩ = some (.int .i64 i) := cell_alloc _ (cell_new (by simp) rfl)
  have q2 : (((w.alloc (.cells #[.slice A1 x.length c1, .slice A3 z.length c3, .slice A2 y.length c2] 41)).alloc (.cells #[.int .i64 k, .int .i64 i, .string m.s, .int .i64 m.v, .int .i64 m.l] 47)).alloc (.cells #[.slice none 0 0, .slice none 0 0, .slice none 0 0] 41)).cell? ⟨w.heap.size + 1, 2, none⟩ = some (.string m.s) := cell_alloc _ (cell_new (by simp) rfl)
  have q3 : (((w.alloc (.cells #[.slice A1 x.length c1, .slice A3 z.length c3, .slice A2 y.length c2] 41)).alloc (.cells #[.int .i64 k, .int .i64 i, .string m.s, .int .i64 m.v, .int .i64 m.l] 47)).alloc (.cells #[.slice none 0 0, .slice none 0 0, .slice none 0 0] 41)).cell? ⟨w.heap.size + 1, 3, none⟩ = some (.int .i64 m.v) := cell_alloc _ (cell_new (by simp) rfl)
  have q4 : (((w.alloc (.cells #[.slice A1 x.length c1, .slice A3 z.length c3, .slice A2 y.length c2] 41)).alloc (.cells #[.int .i64 k, .int .i64 i, .string m.s, .int .i64 m.v, .int .i64 m.l] 47)).alloc (.cells #[.slice none 0 0, .slice none 0 0, .slice none 0 0] 41)).cell? ⟨w.heap.size + 1, 4, none⟩ = some (.int .i64 m.l) := cell_alloc _ (cell_new (by simp) rfl)
  have qk : (((w.alloc (.cells #[.slice A1 x.length c1, .slice A3 z.length c3, .slice A2 y.length c2] 41)).alloc (.cells #[.int .i64 k, .int .i64 i, .string m.s, .int .i64 m.v, .int .i64 m.l] 47)).alloc (.cells #[.slice none 0 0, .slice none 0 0, .slice none 0 0] 41)).heap[w.heap.size + 1]? = some (.cells #[.int .i64 k, .int .i64 i, .string m.s, .int .i64 m.v, .int .i64 m.l] 47) := blk_alloc _ (blk_new (by simp))
  have zq : w.heap.size + 1 < (((w.alloc (.cells #[.slice A1 x.length c1, .slice A3 z.length c3, .slice A2 y.length c2] 41)).alloc (.cells #[.int .i64 k, .int .i64 i, .string m.s, .int .i64 m.v, .int .i64 m.l] 47)).alloc (.cells #[.slice none 0 0, .slice none 0 0, .slice none 0 0] 41)).heap.size := World.block_lt_of_cell? _ _ q0
  have s0 : (((w.alloc (.cells #[.slice A1 x.length c1, .slice A3 z.length c3, .slice A2 y.length c2] 41)).alloc (.cells #[.int .i64 k, .int .i64 i, .string m.s, .int .i64 m.v, .int .i64 m.l] 47)).alloc (.cells #[.slice none 0 0, .slice none 0 0, .slice none 0 0] 41)).cell? ⟨w.heap.size + 1 + 1, 0, none⟩ = some (.slice none 0 0) := cell_new (by simp) rfl
  have s1 : (((w.alloc (.cells #[.slice A1 x.length c1, .slice A3 z.length c3, .slice A2 y.length c2] 41)).alloc (.cells #[.int .i64 k, .int .i64 i, .string m.s, .int .i64 m.v, .int .i64 m.l] 47)).alloc (.cells #[.slice none 0 0, .slice none 0 0, .slice none 0 0] 41)).cell? ⟨w.heap.size + 1 + 1, 1, none⟩ = some (.slice none 0 0) := cell_new (by simp) rfl
  have s2 : (((w.alloc (.cells #[.slice A1 x.length c1, .slice A3 z.length c3, .slice A2 y.length c2] 41)).alloc (.cells #[.int .i64 k, .int .i64 i, .string m.s, .int .i64 m.v, .int .i64 m.l] 47)).alloc (.cells #[.slice none 0 0, .slice none 0 0, .slice none 0 0] 41)).cell? ⟨w.heap.size + 1 + 1, 2, none⟩ = some (.slice none 0 0) := cell_new (by simp) rfl
  have sk : (((w.alloc (.cells #[.slice A1 x.length c1, .slice A3 z.length c3, .slice A2 y.length c2] 41)).alloc (.cells #[.int .i64 k, .int .i64 i, .string m.s, .int .i64 m.v, .int .i64 m.l] 47)).alloc (.cells #[.slice none 0 0, .slice none 0 0, .slice none 0 0] 41)).heap[w.heap.size + 1 + 1]? = some (.cells #[.slice none 0 0, .slice none 0 0, .slice none 0 0] 41) := blk_new (by simp)
  have zs : w.heap.size + 1 + 1 < (((w.alloc (.cells #[.slice A1 x.length c1, .slice A3 z.length c3, .slice A2 y.length c2] 41)).alloc (.cells #[.int .i64 k, .int .i64 i, .string m.s, .int .i64 m.v, .int .i64 m.l] 47)).alloc (.cells #[.slice none 0 0, .slice none 0 0, .slice none 0 0] 41)).heap.size := World.block_lt_of_cell? _ _ s0
  generalize (((w.alloc (.cells #[.slice A1 x.length c1, .slice A3 z.length c3, .slice A2 y.length c2] 41)).alloc (.cells #[.int .i64 k, .int .i64 i, .string m.s, .int .i64 m.v, .int .i64 m.l] 47)).alloc (.cells #[.slice none 0 0, .slice none 0 0, .slice none 0 0] 41)) = w0 at *
  refine (HC.out _ (hR.below hb0)).mono ?_
  rintro e w1 ⟨B1, d1, B2, d2, B3, d3, rfl, own, hb1, zw1⟩
  clear HC hR
  have hak := blk_below' hb1 pk
  have hbk := blk_below' hb1 qk
  have hck := blk_below' hb1 sk
  have zz := hb1.size
  have hbw1 : Below w.heap.size w w1 := hb0.trans (hb1.mono hb0.size)
  clear pk qk sk p0 p1 p2 q0 q1 q2 q3 q4 s0 s1 s2 hb0 hb1
  have p0 := blk_cell hak (j := 0) rfl
  have p1 := blk_cell hak (j := 1) rfl
  have p2 := blk_cell hak (j := 2) rfl
  have pf0 := blk_frozen (j := 0) hak
  have pf1 := blk_frozen (j := 1) hak
  have pf2 := blk_frozen (j := 2) hak
  have zx : w.heap.size + 2 < w1.heap.size := Nat.lt_of_lt_of_le zs zz
  go_upto_region 2 with (fail)
  have pk := blk_set3 (v0 := .slice B1 x.length d1) (v1 := .slice B3 z.length d3) (v2 := .slice B2 y.length d2) hak
  have qk := blk_far3 (b := w.heap.size) (v0 := .slice B1 x.length d1) (v1 := .slice B3 z.length d3) (v2 := .slice B2 y.length d2) (by omega) hbk
  have sk := blk_far3 (b := w.heap.size) (v0 := .slice B1 x.length d1) (v1 := .slice B3 z.length d3) (v2 := .slice B2 y.length d2) (by omega) hck
  have own2 := ((own.set (j := 0) (a := w.heap.size) (by omega) (.slice B1 x.length d1)).set (j := 1) (a := w.heap.size) (by omega) (.slice B3 z.length d3)).set (j := 2) (a := w.heap.size) (by omega) (.slice B2 y.length d2)
  have zB2 : w0.heap.size + 2 ≤ (((w1.setCell ⟨w.heap.size, 0, none⟩ (.slice B1 x.length d1)).setCell ⟨w.heap.size, 1, none⟩ (.slice B3 z.length d3)).setCell ⟨w.heap.size, 2, none⟩ (.slice B2 y.length d2)).heap.size := by simp; omega
  have hbw : Below w.heap.size w (((w1.setCell ⟨w.heap.size, 0, none⟩ (.slice B1 x.length d1)).setCell ⟨w.heap.size, 1, none⟩ (.slice B3 z.length d3)).setCell ⟨w.heap.size, 2, none⟩ (.slice B2 y.length d2)) := below_set _ (by simp) (below_set _ (by simp) (below_set _ (by simp) hbw1))
  have zx2 : w.heap.size + 2 < (((w1.setCell ⟨w.heap.size, 0, none⟩ (.slice B1 x.length d1)).setCell ⟨w.heap.size, 1, none⟩ (.slice B3 z.length d3)).setCell ⟨w.heap.size, 2, none⟩ (.slice B2 y.length d2)).heap.size := by simp; omega
  clear hak hbk hck p0 p1 p2 pf0 pf1 pf2 own hbw1 zx zz zw1
  generalize (((w1.setCell ⟨w.heap.size, 0, none⟩ (.slice B1 x.length d1)).setCell ⟨w.heap.size, 1, none⟩ (.slice B3 z.length d3)).setCell ⟨w.heap.size, 2, none⟩ (.slice B2 y.length d2)) = w2 at *
  have OWN := Lib.hid own2
  have zB : w.heap.size + 2 < w0.heap.size := zs
  have za2 : w.heap.size < w2.heap.size := by omega
  have zpB : w.heap.size < w0.heap.size + 2 := by omega
  have zqB : w.heap.size + 1 < w0.heap.size + 2 := by omega
  have zsB : w.heap.size + 1 + 1 < w0.heap.size + 2 := by omega
  have zb2 : w.heap.size + 1 < w2.heap.size := by omega
  clear own2 zp zq zs w1
  have p0 : w2.cell? ⟨w.heap.size, 0, none⟩ = some (.slice B1 x.length d1) := blk_cell pk (j := 0) rfl
  have pf0 := blk_frozen (j := 0) pk
  have p1 : w2.cell? ⟨w.heap.size, 1, none⟩ = some (.slice B3 z.length d3) := blk_cell pk (j := 1) rfl
  have pf1 := blk_frozen (j := 1) pk
  have p2 : w2.cell? ⟨w.heap.size, 2, none⟩ = some (.slice B2 y.length d2) := blk_cell pk (j := 2) rfl
  have pf2 := blk_frozen (j := 2) pk
  have q0 : w2.cell? ⟨w.heap.size + 1, 0, none⟩ = some (.int .i64 k) := blk_cell qk (j := 0) rfl
  have q1 : w2.cell? ⟨w.heap.size + 1, 1, none⟩ = some (.int .i64 i) := blk_cell qk (j := 1) rfl
  have q2 : w2.cell? ⟨w.heap.size + 1, 2, none⟩ = some (.string m.s) := blk_cell qk (j := 2) rfl
  have q3 : w2.cell? ⟨w.heap.size + 1, 3, none⟩ = some (.int .i64 m.v) := blk_cell qk (j := 3) rfl
  have q4 : w2.cell? ⟨w.heap.size + 1, 4, none⟩ = some (.int .i64 m.l) := blk_cell qk (j := 4) rfl
  have s0 : w2.cell? ⟨w.heap.size + 1 + 1, 0, none⟩ = some (.slice none 0 0) := blk_cell sk (j := 0) rfl
  have sf0 := blk_frozen (j := 0) sk
  have s1 : w2.cell? ⟨w.heap.size + 1 + 1, 1, none⟩ = some (.slice none 0 0) := blk_cell sk (j := 1) rfl
  have sf1 := blk_frozen (j := 1) sk
  have s2 : w2.cell? ⟨w.heap.size + 1 + 1, 2, none⟩ = some (.slice none 0 0) := blk_cell sk (j := 2) rfl
  have sf2 := blk_frozen (j := 2) sk
  have hq : rmv ⟨x, z, y⟩ ⟨k, i, m⟩ = (Lz, 3) := by
    have h0 : mvE0 ⟨k, i, m⟩ = 3 := by unfold mvE0; simp only; rw [hk, h0, hz]; rfl
    have h1 : movL ⟨x, z, y⟩ ⟨k, i, m⟩ = (⟨x, z, y⟩, 3) := by unfold movL; rw [if_pos (by rw [h0]; decide), h0]
    unfold rmv; rw [h1, if_neg (show ¬ ((3 : Int) = 0) by decide)]
  have HQ := Lib.hid hq
  clear hq HRM
  have h02 : (k != 0) = true := by rw [bne, h0]; rfl
  have heq := neqZ m
  rw [hz] at heq
  go_wp2_with (go_at_call 22; refine (Within_any _ _ _ _).mono ?_; rintro e w' ⟨rfl, rfl⟩; rw [hk])
  refine bodyPost_ret (v := .tuple #[.agg #[.slice none 0 0, .slice none 0 0, .slice none 0 0], .int .i64 3]) (by simp [results, Try.results49, go_sem, s0, s1, s2, zx2]) rfl ?_
  rw [HQ.out]
  exact ⟨none, 0, none, 0, none, 0, rfl, lnkR_z, (by repeat (first | assumption | exact Below.refl _ _ | refine Below.drew ?_ | (refine below_alloc _ ?_ ?_; focus (first | omega | (simp; done) | (simp; omega) | (simp at *; omega))) | (refine below_set _ ?_ ?_; focus (first | omega | (simp; done) | (simp; omega) | (simp at *; omega))) | refine below_drewN ?_ _ | (refine below_call (by assumption) ?_ ?_; focus (first | omega | (simp; done) | (simp; omega) | (simp at *; omega))) | (refine below_call' (by assumption) ?_ ?_; focus (first | omega | (simp; done) | (simp; omega) | (simp at *; omega)))))⟩
theorem rmv_put (x : List Msg) (z : List Pkt) (y : List Msg) (m : Msg) : rmv ⟨x, z, y⟩ ⟨0, 0, m⟩ = if (rcv x m).2 = 0 then (⟨(rcv x m).1, z, y⟩, 0) else (Lz, (rcv x m).2) := by
  have h1 : movL ⟨x, z, y⟩ ⟨0, 0, m⟩ = if msgE m = 0 then (⟨(recvM x m).1, z, y⟩, (recvM x m).2) else (⟨x, z, y⟩, msgE m) := rfl
  have h2 : rcv x m = if stepE x m = 0 then ((recvM x m).1, 0) else ([], stepE x m) := rfl
  have h3 : stepE x m = if msgE m = 0 then (recvM x m).2 else msgE m := rfl
  unfold rmv
  rw [h1, h2, h3]
  by_cases e1 : msgE m = 0
  · rw [if_pos e1, if_pos e1]
    by_cases e2 : (recvM x m).2 = 0
    · rw [if_pos e2, if_pos e2, if_pos rfl]
    · rw [if_neg e2, if_neg e2, if_neg e2]
  · rw [if_neg e1, if_neg e1, if_neg e1, if_neg e1, if_neg e1]
set_option maxRecDepth 100000 in
set_option maxHeartbeats 4000000 in
theorem RMovedP_any (A1 : Option Addr) (c1 : Nat) (A2 : Option Addr) (c2 : Nat) (A3 : Option Addr) (c3 : Nat) (L : Lnk) (m : Msg) (w : World) (hR : LnkR A1 A2 A3 L w) (hok : OkL L) :
    Calls Try.prog 49 #[LnkV A1 c1 A2 c2 A3 c3 L, .agg #[.int .i64 0, .int .i64 0, .string m.s, .int .i64 m.v, .int .i64 m.l]] w (LnkE2 (rmv L ⟨0, 0, m⟩) w) := by
  obtain ⟨x, z, y⟩ := L
  have hR0 : MsgsAt w A1 x ∧ MsgsAt w A2 y ∧ PktsAt w A3 z := ⟨hR.r1, hR.r2, hR.r3⟩
  have HC := Lib.hid (fun W (h : LnkR A1 A2 A3 ⟨x, z, y⟩ W) => CopyLink_own A1 c1 A2 c2 A3 c3 ⟨x, z, y⟩ W (by have := hok.l1; omega) (by have := hok.l2; omega) (by have := hok.l3; omega) h)
  have l1 : x.length ≤ 30 := hok.l1
  have l2 : y.length ≤ 30 := hok.l2
  have l3 : z.length ≤ 60 := hok.l3
  have HOK := Lib.hid hok
  have HRM : Hid (rmv ⟨x, z, y⟩ ⟨0, 0, m⟩ = rmv ⟨x, z, y⟩ ⟨0, 0, m⟩) := Lib.hid rfl
  clear hok hR0
  simp only [LnkV]
  go_enter Try.func49, Try.ntmps49
  go_wp2_with (fail)
  have hb0 : Below w.heap.size w (((w.alloc (.cells #[.slice A1 x.length c1, .slice A3 z.length c3, .slice A2 y.length c2] 41)).alloc (.cells #[.int .i64 0, .int .i64 0, .string m.s, .int .i64 m.v, .int .i64 m.l] 47)).alloc (.cells #[.slice none 0 0, .slice none 0 0, .slice none 0 0] 41)) := below_alloc _ (Nat.le_refl _) (below_alloc _ (Nat.le_refl _) (below_alloc _ (Nat.le_refl _) (Below.refl _ _)))
  have p0 : (((w.alloc (.cells #[.slice A1 x.length c1, .slice A3 z.length c3, .slice A2 y.length c2] 41)).alloc (.cells #[.int .i64 0, .int .i64 0, .string m.s, .int .i64 m.v, .int .i64 m.l] 47)).alloc (.cells #[.slice none 0 0, .slice none 0 0, .slice none 0 0] 41)).cell? ⟨w.heap.size, 0, none⟩ = some (.slice A1 x.length c1) := cell_alloc _ (cell_alloc _ (cell_new (by simp) rfl))
  have p1 : (((w.alloc (.cells #[.slice A1 x.length c1, .slice A3 z.length c3, .slice A2 y.length c2] 41)).alloc (.cells #[.int .i64 0, .int .i64 0, .string m.s, .int .i64 m.v, .int .i64 m.l] 47)).alloc (.cells #[.slice none 0 0, .slice none 0 0, .slice none 0 0] 41)).cell? ⟨w.heap.size, 1, none⟩ = some (.slice A3 z.length c3) := cell_alloc _ (cell_alloc _ (cell_new (by simp) rfl))
  have p2 : (((w.alloc (.cells #[.slice A1 x.length c1, .slice A3 z.length c3, .slice A2 y.length c2] 41)).alloc (.cells #[.int .i64 0, .int .i64 0, .string m.s, .int .i64 m.v, .int .i64 m.l] 47)).alloc (.cells #[.slice none 0 0, .slice none 0 0, .slice none 0 0] 41)).cell? ⟨w.heap.size, 2, none⟩ = some (.slice A2 y.length c2) := cell_alloc _ (cell_alloc _ (cell_new (by simp) rfl))
  have pk : (((w.alloc (.cells #[.slice A1 x.length c1, .slice A3 z.length c3, .slice A2 y.length c2] 41)).alloc (.cells #[.int .i64 0, .int .i64 0, .string m.s, .int .i64 m.v, .int .i64 m.l] 47)).alloc (.cells #[.slice none 0 0, .slice none 0 0, .slice none 0 0] 41)).heap[w.heap.size]? = some (.cells #[.slice A1 x.length c1, .slice A3 z.length c3, .slice A2 y.length c2] 41) := blk_alloc _ (blk_alloc _ (blk_new (by simp)))
  have zp : w.heap.size < (((w.alloc (.cells #[.slice A1 x.length c1, .slice A3 z.length c3, .slice A2 y.length c2] 41)).alloc (.cells #[.int .i64 0, .int .i64 0, .string m.s, .int .i64 m.v, .int .i64 m.l] 47)).alloc (.cells #[.slice none 0 0, .slice none 0 0, .slice none 0 0] 41)).heap.size := World.block_lt_of_cell? _ _ p0
  have q0 : (((w.alloc (.cells #[.slice A1 x.length c1, .slice A3 z.length c3, .slice A2 y.length c2] 41)).alloc (.cells #[.int .i64 0, .int .i64 0, .string m.s, .int .i64 m.v, .int .i64 m.l] 47)).alloc (.cells #[.slice none 0 0, .slice none 0 0, .slice none 0 0] 41)).cell? ⟨w.heap.size + 1, 0, none⟩ = some (.int .i64 0) := cell_alloc _ (cell_new (by simp) rfl)
  have q1 : (((w.alloc (.cells #[.slice A1 x.length c1, .slice A3 z.length c3, .slice A2 y.length c2] 41)).alloc (.cells #[.int .i64 0, .int .i64 0, .string m.s, .int .i64 m.v, .int .i64 m.l] 47)).alloc (.cells #[.slice none 0 0, .slice none 0 0, .slice none 0 0] 41)).cell? ⟨w.heap.size + 1, 1, none⟩ = some (.int .i64 0) := cell_alloc _ (cell_new (by simp) rfl)
  have q2 : (((w.alloc (.cells #[.slice A1 x.length c1, .slice A3 z.length c3, .slice A2 y.length c2] 41)).alloc (.cells #[.int .i64 0, .int .i64 0, .string m.s, .int .i64 m.v, .int .i64 m.l] 47)).alloc (.cells #[.slice none 0 0, .slice none 0 0, .slice none 0 0] 41)).cell? ⟨w.heap.size + 1, 2, none⟩ = some (.string m.s) := cell_alloc _ (cell_new (by simp) rfl)
  have q3 : (((w.alloc (.cells #[.slice A1 x.length c1, .slice A3 z.length c3, .slice A2 y.length c2] 41)).alloc (.cells #[.int .i64 0, .int .i64 0, .string m.s, .int .i64 m.v, .int .i64 m.l] 47)).alloc (.cells #[.slice none 0 0, .slice none 0 0, .slice none 0 0] 41)).cell? ⟨w.heap.size + 1, 3, none⟩ = some (.int .i64 m.v) := cell_alloc _ (cell_new (by simp) rfl)
  have q4 : (((w.alloc (.cells #[.slice A1 x.length c1, .slice A3 z.length c3, .slice A2 y.length c2] 41)).alloc (.cells #[.int .i64 0, .int .i64 0, .string m.s, .int .i64 m.v, .int .i64 m.l] 47)).alloc (.cells #[.slice none 0 0, .slice none 0 0, .slice none 0 0] 41)).cell? ⟨w.heap.size + 1, 4, none⟩ = some (.int .i64 m.l) := cell_alloc _ (cell_new (by simp) rfl)
  have qk : (((w.alloc (.cells #[.slice A1 x.length c1, .slice A3 z.length c3, .slice A2 y.length c2] 41)).alloc (.cells #[.int .i64 0, .int .i64 0, .string m.s, .int .i64 m.v, .int .i64 m.l] 47)).alloc (.cells #[.slice none 0 0, .slice none 0 0, .slice none 0 0] 41)).heap[w.heap.size + 1]? = some (.cells #[.int .i64 0, .int .i64 0, .string m.s, .int .i64 m.v, .int .i64 m.l] 47) := blk_alloc _ (blk_new (by simp))
  have zq : w.heap.size + 1 < (((w.alloc (.cells #[.slice A1 x.length c1, .slice A3 z.length c3, .slice A2 y.length c2] 41)).alloc (.cells #[.int .i64 0, .int .i64 0, .string m.s, .int .i64 m.v, .int .i64 m.l] 47)).alloc (.cells #[.slice none 0 0, .slice none 0 0, .slice none 0 0] 41)).heap.size := World.block_lt_of_cell? _ _ q0
  have s0 : (((w.alloc (.cells #[.slice A1 x.length c1, .slice A3 z.length c3, .slice A2 y.length c2] 41)).alloc (.cells #[.int .i64 0, .int .i64 0, .string m.s, .int .i64 m.v, .int .i64 m.l] 47)).alloc (.cells #[.slice none 0 0, .slice none 0 0, .slice none 0 0] 41)).cell? ⟨w.heap.size + 1 + 1, 0, none⟩ = some (.slice none 0 0) := cell_new (by simp) rfl
  have s1 : (((w.alloc (.cells #[.slice A1 x.length c1, .slice A3 z.length c3, .slice A2 y.length c2] 41)).alloc (.cells #[.int .i64 0, .int .i64 0, .string m.s, .int .i64 m.v, .int .i64 m.l] 47)).alloc (.cells #[.slice none 0 0, .slice none 0 0, .slice none 0 0] 41)).cell? ⟨w.heap.size + 1 + 1, 1, none⟩ = some (.slice none 0 0) := cell_new (by simp) rfl
  have s2 : (((w.alloc (.cells #[.slice A1 x.length c1, .slice A3 z.length c3, .slice A2 y.length c2] 41)).alloc (.cells #[.int .i64 0, .int .i64 0, .string m.s, .int .i64 m.v, .int .i64 m.l] 47)).alloc (.cells #[.slice none 0 0, .slice none 0 0, .slice none 0 0] 41)).cell? ⟨w.heap.size + 1 + 1, 2, none⟩ = some (.slice none 0 0) := cell_new (by simp) rfl
  have sk : (((w.alloc (.cells #[.slice A1 x.length c1, .slice A3 z.length c3, .slice A2 y.length c2] 41)).alloc (.cells #[.int .i64 0, .int .i64 0, .string m.s, .int .i64 m.v, .int .i64 m.l] 47)).alloc (.cells #[.slice none 0 0, .slice none 0 0, .slice none 0 0] 41)).heap[w.heap.size + 1 + 1]? = some (.cells #[.slice none 0 0, .slice none 0 0, .slice none 0 0] 41) := blk_new (by simp)
  have zs : w.heap.size + 1 + 1 < (((w.alloc (.cells #[.slice A1 x.length c1, .slice A3 z.length c3, .slice A2 y.length c2] 41)).alloc (.cells #[.int .i64 0, .int .i64 0, .string m.s, .int .i64 m.v, .int .i64 m.l] 47)).alloc (.cells #[.slice none 0 0, .slice none 0 0, .slice none 0 0] 41)).heap.size := World.block_lt_of_cell? _ _ s0
  generalize (((w.alloc (.cells #[.slice A1 x.length c1, .slice A3 z.length c3, .slice A2 y.length c2] 41)).alloc (.cells #[.int .i64 0, .int .i64 0, .string m.s, .int .i64 m.v, .int .i64 m.l] 47)).alloc (.cells #[.slice none 0 0, .slice none 0 0, .slice none 0 0] 41)) = w0 at *
  refine (HC.out _ (hR.below hb0)).mono ?_
  rintro e w1 ⟨B1, d1, B2, d2, B3, d3, rfl, own, hb1, zw1⟩
  clear HC hR
  have hak := blk_below' hb1 pk
  have hbk := blk_below' hb1 qk
  have hck := blk_below' hb1 sk
  have zz := hb1.size
  have hbw1 : Below w.heap.size w w1 := hb0.trans (hb1.mono hb0.size)
  clear pk qk sk p0 p1 p2 q0 q1 q2 q3 q4 s0 s1 s2 hb0 hb1
  have p0 := blk_cell hak (j := 0) rfl
  have p1 := blk_cell hak (j := 1) rfl
  have p2 := blk_cell hak (j := 2) rfl
  have pf0 := blk_frozen (j := 0) hak
  have pf1 := blk_frozen (j := 1) hak
  have pf2 := blk_frozen (j := 2) hak
  have zx : w.heap.size + 2 < w1.heap.size := Nat.lt_of_lt_of_le zs zz
  go_upto_region 2 with (fail)
  have pk := blk_set3 (v0 := .slice B1 x.length d1) (v1 := .slice B3 z.length d3) (v2 := .slice B2 y.length d2) hak
  have qk := blk_far3 (b := w.heap.size) (v0 := .slice B1 x.length d1) (v1 := .slice B3 z.length d3) (v2 := .slice B2 y.length d2) (by omega) hbk
  have sk := blk_far3 (b := w.heap.size) (v0 := .slice B1 x.length d1) (v1 := .slice B3 z.length d3) (v2 := .slice B2 y.length d2) (by omega) hck
  have own2 := ((own.set (j := 0) (a := w.heap.size) (by omega) (.slice B1 x.length d1)).set (j := 1) (a := w.heap.size) (by omega) (.slice B3 z.length d3)).set (j := 2) (a := w.heap.size) (by omega) (.slice B2 y.length d2)
  have zB2 : w0.heap.size + 2 ≤ (((w1.setCell ⟨w.heap.size, 0, none⟩ (.slice B1 x.length d1)).setCell ⟨w.heap.size, 1, none⟩ (.slice B3 z.length d3)).setCell ⟨w.heap.size, 2, none⟩ (.slice B2 y.length d2)).heap.size := by simp; omega
  have hbw : Below w.heap.size w (((w1.setCell ⟨w.heap.size, 0, none⟩ (.slice B1 x.length d1)).setCell ⟨w.heap.size, 1, none⟩ (.slice B3 z.length d3)).setCell ⟨w.heap.size, 2, none⟩ (.slice B2 y.length d2)) := below_set _ (by simp) (below_set _ (by simp) (below_set _ (by simp) hbw1))
  have zx2 : w.heap.size + 2 < (((w1.setCell ⟨w.heap.size, 0, none⟩ (.slice B1 x.length d1)).setCell ⟨w.heap.size, 1, none⟩ (.slice B3 z.length d3)).setCell ⟨w.heap.size, 2, none⟩ (.slice B2 y.length d2)).heap.size := by simp; omega
  clear hak hbk hck p0 p1 p2 pf0 pf1 pf2 own hbw1 zx zz zw1
  generalize (((w1.setCell ⟨w.heap.size, 0, none⟩ (.slice B1 x.length d1)).setCell ⟨w.heap.size, 1, none⟩ (.slice B3 z.length d3)).setCell ⟨w.heap.size, 2, none⟩ (.slice B2 y.length d2)) = w2 at *
  have OWN := Lib.hid own2
  have zB : w.heap.size + 2 < w0.heap.size := zs
  have za2 : w.heap.size < w2.heap.size := by omega
  have zpB : w.heap.size < w0.heap.size + 2 := by omega
  have zqB : w.heap.size + 1 < w0.heap.size + 2 := by omega
  have zsB : w.heap.size + 1 + 1 < w0.heap.size + 2 := by omega
  have zb2 : w.heap.size + 1 < w2.heap.size := by omega
  clear own2 zp zq zs w1
  have p0 : w2.cell? ⟨w.heap.size, 0, none⟩ = some (.slice B1 x.length d1) := blk_cell pk (j := 0) rfl
  have pf0 := blk_frozen (j := 0) pk
  have p1 : w2.cell? ⟨w.heap.size, 1, none⟩ = some (.slice B3 z.length d3) := blk_cell pk (j := 1) rfl
  have pf1 := blk_frozen (j := 1) pk
  have p2 : w2.cell? ⟨w.heap.size, 2, none⟩ = some (.slice B2 y.length d2) := blk_cell pk (j := 2) rfl
  have pf2 := blk_frozen (j := 2) pk
  have q0 : w2.cell? ⟨w.heap.size + 1, 0, none⟩ = some (.int .i64 0) := blk_cell qk (j := 0) rfl
  have q1 : w2.cell? ⟨w.heap.size + 1, 1, none⟩ = some (.int .i64 0) := blk_cell qk (j := 1) rfl
  have q2 : w2.cell? ⟨w.heap.size + 1, 2, none⟩ = some (.string m.s) := blk_cell qk (j := 2) rfl
  have q3 : w2.cell? ⟨w.heap.size + 1, 3, none⟩ = some (.int .i64 m.v) := blk_cell qk (j := 3) rfl
  have q4 : w2.cell? ⟨w.heap.size + 1, 4, none⟩ = some (.int .i64 m.l) := blk_cell qk (j := 4) rfl
  have s0 : w2.cell? ⟨w.heap.size + 1 + 1, 0, none⟩ = some (.slice none 0 0) := blk_cell sk (j := 0) rfl
  have sf0 := blk_frozen (j := 0) sk
  have s1 : w2.cell? ⟨w.heap.size + 1 + 1, 1, none⟩ = some (.slice none 0 0) := blk_cell sk (j := 1) rfl
  have sf1 := blk_frozen (j := 1) sk
  have s2 : w2.cell? ⟨w.heap.size + 1 + 1, 2, none⟩ = some (.slice none 0 0) := blk_cell sk (j := 2) rfl
  have sf2 := blk_frozen (j := 2) sk
  have HQ := Lib.hid (rmv_put x z y m)
  have HRC := Lib.hid (fun W (h : MsgsAt W B1 x) => RReceived_any B1 x d1 m W l1 HOK.out.s1 h)
  clear HRM
  go_wp2_with (go_at_call 22; refine (Within_any _ _ _ _).mono ?_; rintro e w' ⟨rfl, rfl⟩; rw [show withinB 0 0 4 = true from rfl])
  refine (HRC.out _ (OWN.out.reads.r1)).mono ?_
  rintro e w3 ⟨A', c', rfl, hA', hb3⟩
  clear p0 p1 p2 pf0 pf1 pf2 q0 q1 q2 q3 q4 s0 s1 s2 sf0 sf1 sf2
  replace pk := blk_below' hb3 pk
  replace qk := blk_below' hb3 qk
  replace sk := blk_below' hb3 sk
  replace hbw := hbw.trans (hb3.mono (by omega))
  replace zx2 := Nat.lt_of_lt_of_le zx2 hb3.size
  replace za2 := Nat.lt_of_lt_of_le za2 hb3.size
  replace zB2 := Nat.le_trans zB2 hb3.size
  replace zb2 := Nat.lt_of_lt_of_le zb2 hb3.size
  replace OWN := Lib.hid (OWN.out.below hb3)
  have p0 : w3.cell? ⟨w.heap.size, 0, none⟩ = some (.slice B1 x.length d1) := blk_cell pk (j := 0) rfl
  have pf0 := blk_frozen (j := 0) pk
  have p1 : w3.cell? ⟨w.heap.size, 1, none⟩ = some (.slice B3 z.length d3) := blk_cell pk (j := 1) rfl
  have pf1 := blk_frozen (j := 1) pk
  have p2 : w3.cell? ⟨w.heap.size, 2, none⟩ = some (.slice B2 y.length d2) := blk_cell pk (j := 2) rfl
  have pf2 := blk_frozen (j := 2) pk
  have q0 : w3.cell? ⟨w.heap.size + 1, 0, none⟩ = some (.int .i64 0) := blk_cell qk (j := 0) rfl
  have q1 : w3.cell? ⟨w.heap.size + 1, 1, none⟩ = some (.int .i64 0) := blk_cell qk (j := 1) rfl
  have q2 : w3.cell? ⟨w.heap.size + 1, 2, none⟩ = some (.string m.s) := blk_cell qk (j := 2) rfl
  have q3 : w3.cell? ⟨w.heap.size + 1, 3, none⟩ = some (.int .i64 m.v) := blk_cell qk (j := 3) rfl
  have q4 : w3.cell? ⟨w.heap.size + 1, 4, none⟩ = some (.int .i64 m.l) := blk_cell qk (j := 4) rfl
  have s0 : w3.cell? ⟨w.heap.size + 1 + 1, 0, none⟩ = some (.slice none 0 0) := blk_cell sk (j := 0) rfl
  have sf0 := blk_frozen (j := 0) sk
  have s1 : w3.cell? ⟨w.heap.size + 1 + 1, 1, none⟩ = some (.slice none 0 0) := blk_cell sk (j := 1) rfl
  have sf1 := blk_frozen (j := 1) sk
  have s2 : w3.cell? ⟨w.heap.size + 1 + 1, 2, none⟩ = some (.slice none 0 0) := blk_cell sk (j := 2) rfl
  have sf2 := blk_frozen (j := 2) sk
  have hL : LnkR A' B2 B3 ⟨(rcv x m).1, z, y⟩ w3 := ⟨hA', OWN.out.reads.r2, OWN.out.reads.r3⟩
  clear hb3 hA' HRC
  have hq := HQ.out
  by_cases hr : (rcv x m).2 = 0
  rotate_left 1
  · rw [if_neg hr] at hq
    have H3 := Lib.hid hq
    have hE1 : ((rcv x m).2 == 0) = false := by simpa using hr
    have hE2 : ((rcv x m).2 != 0) = true := by simpa using hr
    clear hr hq HQ hL
    generalize (rcv x m).2 = E at *
    go_wp2_with (fail)
    refine bodyPost_ret (v := .tuple #[.agg #[.slice none 0 0, .slice none 0 0, .slice none 0 0], .int .i64 E]) (by simp [results, Try.results49, go_sem, s0, s1, s2, zx2]) rfl ?_
    rw [H3.out]
    exact ⟨none, 0, none, 0, none, 0, rfl, lnkR_z, (by repeat (first | assumption | exact Below.refl _ _ | refine Below.drew ?_ | (refine below_alloc _ ?_ ?_; focus (first | omega | (simp; done) | (simp; omega) | (simp at *; omega))) | (refine below_set _ ?_ ?_; focus (first | omega | (simp; done) | (simp; omega) | (simp at *; omega))) | refine below_drewN ?_ _ | (refine below_call (by assumption) ?_ ?_; focus (first | omega | (simp; done) | (simp; omega) | (simp at *; omega))) | (refine below_call' (by assumption) ?_ ?_; focus (first | omega | (simp; done) | (simp; omega) | (simp at *; omega)))))⟩
  rw [if_pos hr] at hq
  have H3 := Lib.hid hq
  rw [hr]
  clear hr hq HQ
  generalize (rcv x m).1 = x' at *
  go_upto_region 11 with (fail)
  have pk' : (w3.setCell ⟨w.heap.size, 0, none⟩ (.slice A' x'.length c')).heap[w.heap.size]? = some (.cells #[.slice A' x'.length c', .slice B3 z.length d3, .slice B2 y.length d2] 41) := heap_set pk
  have qk' := blk_far (p := ⟨w.heap.size, 0, none⟩) (.slice A' x'.length c') (by show _ ≠ w.heap.size; omega) qk
  have sk' := blk_far (p := ⟨w.heap.size, 0, none⟩) (.slice A' x'.length c') (by show _ ≠ w.heap.size; omega) sk
  have hbw' : Below w.heap.size w (w3.setCell ⟨w.heap.size, 0, none⟩ (.slice A' x'.length c')) := below_set _ (by simp) hbw
  have zx' : w.heap.size + 2 < (w3.setCell ⟨w.heap.size, 0, none⟩ (.slice A' x'.length c')).heap.size := by simp; omega
  have zy' : w0.heap.size + 2 ≤ (w3.setCell ⟨w.heap.size, 0, none⟩ (.slice A' x'.length c')).heap.size := by simp; omega
  have hL2 := lnk_far1 (j := 0) (v := .slice A' x'.length c') hL pk
  clear pk qk sk hbw zx2 za2 zb2 zB2 p0 p1 p2 pf0 pf1 pf2 q0 q1 q2 q3 q4 s0 s1 s2 sf0 sf1 sf2
  generalize (w3.setCell ⟨w.heap.size, 0, none⟩ (.slice A' x'.length c')) = w4 at *
  have pk := pk'
  have qk := qk'
  have sk := sk'
  have hbw := hbw'
  have zx2 := zx'
  have zB2 := zy'
  have za2 : w.heap.size < w4.heap.size := by omega
  have zb2 : w.heap.size + 1 < w4.heap.size := by omega
  clear pk' qk' sk' hbw' zx' zy'
  have p0 : w4.cell? ⟨w.heap.size, 0, none⟩ = some (.slice A' x'.length c') := blk_cell pk (j := 0) rfl
  have pf0 := blk_frozen (j := 0) pk
  have p1 : w4.cell? ⟨w.heap.size, 1, none⟩ = some (.slice B3 z.length d3) := blk_cell pk (j := 1) rfl
  have pf1 := blk_frozen (j := 1) pk
  have p2 : w4.cell? ⟨w.heap.size, 2, none⟩ = some (.slice B2 y.length d2) := blk_cell pk (j := 2) rfl
  have pf2 := blk_frozen (j := 2) pk
  have q0 : w4.cell? ⟨w.heap.size + 1, 0, none⟩ = some (.int .i64 0) := blk_cell qk (j := 0) rfl
  have q1 : w4.cell? ⟨w.heap.size + 1, 1, none⟩ = some (.int .i64 0) := blk_cell qk (j := 1) rfl
  have q2 : w4.cell? ⟨w.heap.size + 1, 2, none⟩ = some (.string m.s) := blk_cell qk (j := 2) rfl
  have q3 : w4.cell? ⟨w.heap.size + 1, 3, none⟩ = some (.int .i64 m.v) := blk_cell qk (j := 3) rfl
  have q4 : w4.cell? ⟨w.heap.size + 1, 4, none⟩ = some (.int .i64 m.l) := blk_cell qk (j := 4) rfl
  have s0 : w4.cell? ⟨w.heap.size + 1 + 1, 0, none⟩ = some (.slice none 0 0) := blk_cell sk (j := 0) rfl
  have sf0 := blk_frozen (j := 0) sk
  have s1 : w4.cell? ⟨w.heap.size + 1 + 1, 1, none⟩ = some (.slice none 0 0) := blk_cell sk (j := 1) rfl
  have sf1 := blk_frozen (j := 1) sk
  have s2 : w4.cell? ⟨w.heap.size + 1 + 1, 2, none⟩ = some (.slice none 0 0) := blk_cell sk (j := 2) rfl
  have sf2 := blk_frozen (j := 2) sk
  clear hL OWN
  go_wp2_with (fail)
  have hLF := lnk_farB (v0 := .slice A' x'.length c') (v1 := .slice B3 z.length d3) (v2 := .slice B2 y.length d2) hL2 sk
  refine bodyPost_ret (v := .tuple #[.agg #[.slice A' x'.length c', .slice B3 z.length d3, .slice B2 y.length d2], .int .i64 0]) (by simp [results, Try.results49, go_sem, s0, s1, s2, zx2]) rfl ?_
  rw [H3.out]
  exact ⟨A', c', B2, d2, B3, d3, rfl, hLF, below_set _ (by simp; omega) (below_set _ (by simp; omega) (below_set _ (by simp; omega) hbw))⟩
end Go.Proofs.Ytcfbnmcdncndpaa
