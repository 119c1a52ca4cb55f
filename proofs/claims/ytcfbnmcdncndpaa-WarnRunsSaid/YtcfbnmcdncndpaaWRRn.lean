/-
  Chapter 8: the reference's Moved, all kinds.
  Chapter 8: the reference's Run.
-/
import Derived.Test.YtcfbnmcdncndpaaWRmC
import Derived.Test.YtcfbnmcdncndpaaWRmF
import Derived.Test.YtcfbnmcdncndpaaKepP
namespace Go.Proofs.Ytcfbnmcdncndpaa
section
open Go.ChangeShapes Go.WideShapes Go.ChangeAt Go.RowKit
set_option linter.unusedVariables false
set_option linter.unusedSimpArgs false

theorem RMoved_any (A1 : Option Addr) (c1 : Nat) (A2 : Option Addr) (c2 : Nat) (A3 : Option Addr) (c3 : Nat) (L : Lnk) (k i : Int) (m : Msg) (w : World) (hR : LnkR A1 A2 A3 L w) (hok : OkL L) (hm : ∀ p ∈ L.wire, msgE p.m = 0) :
    Calls Try.prog 49 #[LnkV A1 c1 A2 c2 A3 c3 L, .agg #[.int .i64 k, .int .i64 i, .string m.s, .int .i64 m.v, .int .i64 m.l]] w (LnkE2 (rmv L ⟨k, i, m⟩) w) := by
  cases hk : withinB k 0 4
  · exact RMovedK_any A1 c1 A2 c2 A3 c3 L k i m w hR hok hk
  cases h0 : (k == 0)
  rotate_left 1
  · obtain rfl : k = 0 := by simpa using h0
    cases hi : (i == 0)
    · exact RMovedF0_any A1 c1 A2 c2 A3 c3 L i m w hR hok hi
    · obtain rfl : i = 0 := by simpa using hi
      exact RMovedP_any A1 c1 A2 c2 A3 c3 L m w hR hok
  cases hz : isZ m
  · exact RMovedF1_any A1 c1 A2 c2 A3 c3 L k i m w hR hok hk h0 hz
  cases h1 : (k == 1)
  rotate_left 1
  · obtain rfl : k = 1 := by simpa using h1
    cases hi : withinB i 0 ((L.box.length : Int) - 1)
    · exact RMovedM1_any A1 c1 A2 c2 A3 c3 L i m w hR hok hz hi
    · have h := withinB_true.1 hi
      obtain ⟨j, rfl⟩ : ∃ j : Nat, i = j := ⟨i.toNat, by omega⟩
      exact RMovedS_any A1 c1 A2 c2 A3 c3 L j m w hR hok hz (by omega)
  cases hi : withinB i 0 ((L.wire.length : Int) - 1)
  · exact RMovedM2_any A1 c1 A2 c2 A3 c3 L k i m w hR hok hk h0 h1 hz hi
  have h := withinB_true.1 hi
  have hk4 := withinB_true.1 hk
  obtain ⟨j, rfl⟩ : ∃ j : Nat, i = j := ⟨i.toNat, by omega⟩
  have hj : j < L.wire.length := by omega
  have n0 : k ≠ 0 := by simpa using h0
  have n1 : k ≠ 1 := by simpa using h1
  by_cases h2 : k = 2
  · subst h2; exact RMovedL_any A1 c1 A2 c2 A3 c3 L j m w hR hok hz hj
  by_cases h3 : k = 3
  · subst h3; exact RMovedC_any A1 c1 A2 c2 A3 c3 L j m w hR hok hz hj
  obtain rfl : k = 4 := by omega
  have he : ∀ o, L.wire[j]? = some o → o = L.wire[j] := fun o ho => by rw [List.getElem?_eq_getElem hj] at ho; exact (Option.some.inj ho).symm
  cases ha : (L.wire[j]).a
  · exact RMovedTN_any A1 c1 A2 c2 A3 c3 L j m w hR hok hz hj (fun o ho => by rw [he o ho]; exact ha) (fun o ho => by rw [he o ho]; exact hm _ (List.getElem_mem hj))
  · exact RMovedTA_any A1 c1 A2 c2 A3 c3 L j m w hR hok hz hj (fun o ho => by rw [he o ho]; exact ha)
end
section
open Go.ChangeShapes Go.WideShapes Go.ChangeAt Go.RowKit
set_option linter.unusedVariables false
set_option linter.unusedSimpArgs false

def runR (L : Lnk) (l : List Mv) : Lnk × Int × Int := if l.length ≤ 200 then runGo l L 0 else (Lz, 0, 8)
set_option maxRecDepth 100000 in
set_option maxHeartbeats 4000000 in
theorem RRun_any (A1 : Option Addr) (c1 : Nat) (A2 : Option Addr) (c2 : Nat) (A3 : Option Addr) (c3 : Nat) (L : Lnk) (A : Option Addr) (l : List Mv) (cap : Nat) (w : World) (hR : LnkR A1 A2 A3 L w) (hv : VLk L) (hl : l.length ≤ 300) (hA : MvsAt w A l) :
    Calls Try.prog 32 #[LnkV A1 c1 A2 c2 A3 c3 L, .slice A l.length cap] w (LnkE3 (runR L l) w) := by
  have HV := Lib.hid hv
  have HC := Lib.hid (fun W (h : LnkR A1 A2 A3 L W) => CopyLink_own A1 c1 A2 c2 A3 c3 L W (by have := hv.ok.l1; omega) (by have := hv.ok.l2; omega) (by have := hv.ok.l3; omega) h)
  have hq : runR L l = if l.length ≤ 200 then runGo l L 0 else (Lz, 0, 8) := rfl
  have hl3 : (l.length : Int) ≤ 300 := by omega
  by_cases h2 : l.length ≤ 200
  rotate_left 1
  · rw [if_neg h2] at hq
    have HQ := Lib.hid hq
    have hg : (200 : Int) < (l.length : Int) := by omega
    clear hq h2
    simp only [LnkV]
    go_enter Try.func32, Try.ntmps32
    go_wp2_with (fail)
    refine bodyPost_ret (v := .tuple #[.agg #[.slice none 0 0, .slice none 0 0, .slice none 0 0], .int .i64 0, .int .i64 8]) (by simp [results, Try.results32, go_sem]) rfl ?_
    rw [HQ.out]
    exact ⟨none, 0, none, 0, none, 0, rfl, lnkR_z, (by repeat (first | assumption | exact Below.refl _ _ | refine Below.drew ?_ | (refine below_alloc _ ?_ ?_; focus (first | omega | (simp; done) | (simp; omega) | (simp at *; omega))) | (refine below_set _ ?_ ?_; focus (first | omega | (simp; done) | (simp; omega) | (simp at *; omega))) | refine below_drewN ?_ _ | (refine below_call (by assumption) ?_ ?_; focus (first | omega | (simp; done) | (simp; omega) | (simp at *; omega))) | (refine below_call' (by assumption) ?_ ?_; focus (first | omega | (simp; done) | (simp; omega) | (simp at *; omega)))))⟩
  rw [if_pos h2] at hq
  have HQ := Lib.hid hq
  have hg : ¬ ((200 : Int) < (l.length : Int)) := by omega
  clear hq h2 hv
  obtain ⟨x, z, y⟩ := L
  simp only [LnkV]
  go_enter Try.func32, Try.ntmps32
  go_wp2_with (fail)
  have hb0 : Below w.heap.size w ((w.alloc (.cells #[.slice A1 x.length c1, .slice A3 z.length c3, .slice A2 y.length c2] 41)).alloc (.cells #[.slice none 0 0, .slice none 0 0, .slice none 0 0] 41)) := below_alloc _ (Nat.le_refl _) (below_alloc _ (Nat.le_refl _) (Below.refl _ _))
  have p0 : ((w.alloc (.cells #[.slice A1 x.length c1, .slice A3 z.length c3, .slice A2 y.length c2] 41)).alloc (.cells #[.slice none 0 0, .slice none 0 0, .slice none 0 0] 41)).cell? ⟨w.heap.size, 0, none⟩ = some (.slice A1 x.length c1) := cell_alloc _ (cell_new (by simp) rfl)
  have p1 : ((w.alloc (.cells #[.slice A1 x.length c1, .slice A3 z.length c3, .slice A2 y.length c2] 41)).alloc (.cells #[.slice none 0 0, .slice none 0 0, .slice none 0 0] 41)).cell? ⟨w.heap.size, 1, none⟩ = some (.slice A3 z.length c3) := cell_alloc _ (cell_new (by simp) rfl)
  have p2 : ((w.alloc (.cells #[.slice A1 x.length c1, .slice A3 z.length c3, .slice A2 y.length c2] 41)).alloc (.cells #[.slice none 0 0, .slice none 0 0, .slice none 0 0] 41)).cell? ⟨w.heap.size, 2, none⟩ = some (.slice A2 y.length c2) := cell_alloc _ (cell_new (by simp) rfl)
  have pk : ((w.alloc (.cells #[.slice A1 x.length c1, .slice A3 z.length c3, .slice A2 y.length c2] 41)).alloc (.cells #[.slice none 0 0, .slice none 0 0, .slice none 0 0] 41)).heap[w.heap.size]? = some (.cells #[.slice A1 x.length c1, .slice A3 z.length c3, .slice A2 y.length c2] 41) := blk_alloc _ (blk_new (by simp))
  have zp : w.heap.size < ((w.alloc (.cells #[.slice A1 x.length c1, .slice A3 z.length c3, .slice A2 y.length c2] 41)).alloc (.cells #[.slice none 0 0, .slice none 0 0, .slice none 0 0] 41)).heap.size := World.block_lt_of_cell? _ _ p0
  have s0 : ((w.alloc (.cells #[.slice A1 x.length c1, .slice A3 z.length c3, .slice A2 y.length c2] 41)).alloc (.cells #[.slice none 0 0, .slice none 0 0, .slice none 0 0] 41)).cell? ⟨w.heap.size + 1, 0, none⟩ = some (.slice none 0 0) := cell_new (by simp) rfl
  have s1 : ((w.alloc (.cells #[.slice A1 x.length c1, .slice A3 z.length c3, .slice A2 y.length c2] 41)).alloc (.cells #[.slice none 0 0, .slice none 0 0, .slice none 0 0] 41)).cell? ⟨w.heap.size + 1, 1, none⟩ = some (.slice none 0 0) := cell_new (by simp) rfl
  have s2 : ((w.alloc (.cells #[.slice A1 x.length c1, .slice A3 z.length c3, .slice A2 y.length c2] 41)).alloc (.cells #[.slice none 0 0, .slice none 0 0, .slice none 0 0] 41)).cell? ⟨w.heap.size + 1, 2, none⟩ = some (.slice none 0 0) := cell_new (by simp) rfl
  have sk : ((w.alloc (.cells #[.slice A1 x.length c1, .slice A3 z.length c3, .slice A2 y.length c2] 41)).alloc (.cells #[.slice none 0 0, .slice none 0 0, .slice none 0 0] 41)).heap[w.heap.size + 1]? = some (.cells #[.slice none 0 0, .slice none 0 0, .slice none 0 0] 41) := blk_new (by simp)
  have zs : w.heap.size + 1 < ((w.alloc (.cells #[.slice A1 x.length c1, .slice A3 z.length c3, .slice A2 y.length c2] 41)).alloc (.cells #[.slice none 0 0, .slice none 0 0, .slice none 0 0] 41)).heap.size := World.block_lt_of_cell? _ _ s0
  generalize ((w.alloc (.cells #[.slice A1 x.length c1, .slice A3 z.length c3, .slice A2 y.length c2] 41)).alloc (.cells #[.slice none 0 0, .slice none 0 0, .slice none 0 0] 41)) = w0 at *
  refine (HC.out _ (hR.below hb0)).mono ?_
  rintro e w1 ⟨B1, d1, B2, d2, B3, d3, rfl, own, hb1, zw1⟩
  clear HC hR
  have hak := blk_below' hb1 pk
  have hck := blk_below' hb1 sk
  have zz := hb1.size
  have hbw1 : Below w.heap.size w w1 := hb0.trans (hb1.mono hb0.size)
  have hA1 := RowsAt.below hA (hb0.trans (hb1.mono hb0.size))
  clear pk sk p0 p1 p2 s0 s1 s2 hb0 hb1
  have p0 := blk_cell hak (j := 0) rfl
  have p1 := blk_cell hak (j := 1) rfl
  have p2 := blk_cell hak (j := 2) rfl
  have pf0 := blk_frozen (j := 0) hak
  have pf1 := blk_frozen (j := 1) hak
  have pf2 := blk_frozen (j := 2) hak
  have zx : w.heap.size + 1 < w1.heap.size := Nat.lt_of_lt_of_le zs zz
  go_upto_region 4 with (fail)
  have pk := blk_set3 (v0 := .slice B1 x.length d1) (v1 := .slice B3 z.length d3) (v2 := .slice B2 y.length d2) hak
  have sk := blk_far3 (b := w.heap.size) (v0 := .slice B1 x.length d1) (v1 := .slice B3 z.length d3) (v2 := .slice B2 y.length d2) (by omega) hck
  have hL2 := lnk_farB (v0 := .slice B1 x.length d1) (v1 := .slice B3 z.length d3) (v2 := .slice B2 y.length d2) own.reads hak
  have hbw : Below w.heap.size w (((w1.setCell ⟨w.heap.size, 0, none⟩ (.slice B1 x.length d1)).setCell ⟨w.heap.size, 1, none⟩ (.slice B3 z.length d3)).setCell ⟨w.heap.size, 2, none⟩ (.slice B2 y.length d2)) := below_set _ (by simp) (below_set _ (by simp) (below_set _ (by simp) hbw1))
  have zx2 : w.heap.size + 1 < (((w1.setCell ⟨w.heap.size, 0, none⟩ (.slice B1 x.length d1)).setCell ⟨w.heap.size, 1, none⟩ (.slice B3 z.length d3)).setCell ⟨w.heap.size, 2, none⟩ (.slice B2 y.length d2)).heap.size := by simp; omega
  have hA2 : MvsAt (((w1.setCell ⟨w.heap.size, 0, none⟩ (.slice B1 x.length d1)).setCell ⟨w.heap.size, 1, none⟩ (.slice B3 z.length d3)).setCell ⟨w.heap.size, 2, none⟩ (.slice B2 y.length d2)) A l := RowsAt.below hA hbw
  clear hak hck p0 p1 p2 pf0 pf1 pf2 own hbw1 zx zz zw1 hA1 zp zs
  generalize (((w1.setCell ⟨w.heap.size, 0, none⟩ (.slice B1 x.length d1)).setCell ⟨w.heap.size, 1, none⟩ (.slice B3 z.length d3)).setCell ⟨w.heap.size, 2, none⟩ (.slice B2 y.length d2)) = w2 at *
  clear w1
  go_wp2_with (fail)
  go_loopw [7] (fun i wr => ∃ (k : Nat) (Lk : Lnk) (C1 : Option Addr) (e1 : Nat) (C2 : Option Addr) (e2 : Nat) (C3 : Option Addr) (e3 : Nat), k ≤ l.length ∧ i = .int .i64 k ∧ runGo l ⟨x, z, y⟩ 0 = runGo (l.drop k) Lk k ∧ VLk Lk ∧ wr.heap[w.heap.size]? = some (.cells #[.slice C1 Lk.box.length e1, .slice C3 Lk.wire.length e3, .slice C2 Lk.store.length e2] 41) ∧ wr.heap[w.heap.size + 1]? = some (.cells #[.slice none 0 0, .slice none 0 0, .slice none 0 0] 41) ∧ LnkR C1 C2 C3 Lk wr ∧ Below w.heap.size w wr ∧ w.heap.size + 1 < wr.heap.size) (fun i _ => l.length - (intOf i).toNat)
  case atStart => exact ⟨0, ⟨x, z, y⟩, B1, d1, B2, d2, B3, d3, Nat.zero_le _, rfl, rfl, HV.out, pk, sk, hL2, hbw, zx2⟩
  case round =>
    obtain ⟨k, Lk, C1, e1, C2, e2, C3, e3, hk, rfl, hgo, hvk, pk, sk, hLk, hbr, zr⟩ := hrel
    have AR := RowsAt.below hA hbr
    have HGO := Lib.hid hgo
    have HVK := Lib.hid hvk
    have HLK := Lib.hid hLk
    clear hgo hvk hLk
    have p0 : wr.cell? ⟨w.heap.size, 0, none⟩ = some (.slice C1 Lk.box.length e1) := blk_cell pk rfl
    have p1 : wr.cell? ⟨w.heap.size, 1, none⟩ = some (.slice C3 Lk.wire.length e3) := blk_cell pk rfl
    have p2 : wr.cell? ⟨w.heap.size, 2, none⟩ = some (.slice C2 Lk.store.length e2) := blk_cell pk rfl
    have s0 : wr.cell? ⟨w.heap.size + 1, 0, none⟩ = some (.slice none 0 0) := blk_cell sk rfl
    have s1 : wr.cell? ⟨w.heap.size + 1, 1, none⟩ = some (.slice none 0 0) := blk_cell sk rfl
    have s2 : wr.cell? ⟨w.heap.size + 1, 2, none⟩ = some (.slice none 0 0) := blk_cell sk rfl
    have pf0 := blk_frozen (j := 0) pk
    have pf1 := blk_frozen (j := 1) pk
    have pf2 := blk_frozen (j := 2) pk
    have sf0 := blk_frozen (j := 0) sk
    have sf1 := blk_frozen (j := 1) sk
    have sf2 := blk_frozen (j := 2) sk
    have zr0 : w.heap.size < wr.heap.size := by omega
    by_cases hlt : k < l.length
    · obtain ⟨b1, o1, rfl, hb1, m0, m1, m2, m3, m4⟩ := MvsAt.at_ AR hlt
      have hk1 : (k : Int) < (l.length : Int) := by omega
      have hd : l.drop k = l[k] :: l.drop (k + 1) := List.drop_eq_getElem_cons hlt
      have h2 := HGO.out
      rw [hd] at h2
      have hg : runGo (l[k] :: l.drop (k + 1)) Lk k = if (movL Lk l[k]).2 = 0 then runGo (l.drop (k + 1)) (movL Lk l[k]).1 (k + 1) else (Lz, (k : Int), (movL Lk l[k]).2) := rfl
      have H2 := Lib.hid (h2.trans hg)
      clear HGO h2 hd hg AR
      generalize l[k] = mv at *
      have HM : Hid (∀ W, LnkR C1 C2 C3 Lk W → Calls Try.prog 49 #[.agg #[.slice C1 Lk.box.length e1, .slice C3 Lk.wire.length e3, .slice C2 Lk.store.length e2], .agg #[.int .i64 mv.k, .int .i64 mv.i, .string mv.m.s, .int .i64 mv.m.v, .int .i64 mv.m.l]] W (LnkE2 (rmv Lk mv) W)) := Lib.hid (fun W h => RMoved_any C1 e1 C2 e2 C3 e3 Lk mv.k mv.i mv.m W h HVK.out.ok HVK.out.w)
      go_upto_region 7 with (fail)
      go_cut [8, 9] from 22 to 30 (fun s e wx => ∃ (nb : Nat) (D1 : Option Addr) (f1 : Nat) (D2 : Option Addr) (f2 : Nat) (D3 : Option Addr) (f3 : Nat), s = .pointer (some ⟨nb, 0, none⟩) ∧ e = .int .i64 (rmv Lk mv).2 ∧ Below wr.heap.size wr wx ∧ wx.cell? ⟨nb, 0, none⟩ = some (.slice D1 (rmv Lk mv).1.box.length f1) ∧ wx.cell? ⟨nb, 1, none⟩ = some (.slice D3 (rmv Lk mv).1.wire.length f3) ∧ wx.cell? ⟨nb, 2, none⟩ = some (.slice D2 (rmv Lk mv).1.store.length f2) ∧ LnkR D1 D2 D3 (rmv Lk mv).1 wx)
      case first =>
        go_region_held3 (fun w' => w'.cell? ⟨w.heap.size, 0, none⟩ = some (.slice C1 Lk.box.length e1) ∧ w'.cell? ⟨w.heap.size, 1, none⟩ = some (.slice C3 Lk.wire.length e3) ∧ w'.cell? ⟨w.heap.size, 2, none⟩ = some (.slice C2 Lk.store.length e2) ∧ w'.cell? ⟨b1, o1 + k * 5, none⟩ = some (.int .i64 mv.k) ∧ w'.cell? ⟨b1, o1 + k * 5 + 1, none⟩ = some (.int .i64 mv.i) ∧ w'.cell? ⟨b1, o1 + k * 5 + 2, none⟩ = some (.string mv.m.s) ∧ w'.cell? ⟨b1, o1 + k * 5 + 3, none⟩ = some (.int .i64 mv.m.v) ∧ w'.cell? ⟨b1, o1 + k * 5 + 4, none⟩ = some (.int .i64 mv.m.l))
          ((((try go_split_ands); (repeat' (apply And.intro)) <;> (repeat (first | (with_reducible assumption) | (with_reducible refine cell_drew ?_) | (with_reducible refine cell_alloc _ ?_) | (with_reducible refine cell_below' (by with_reducible assumption) ?_) | (with_reducible refine cell_far ?_ ?_; focus (first | omega | (simp; omega) | (simp; done))))))))
          (first
            | (go_at_call 49; ((with_reducible refine (HM.out _ ?_).mono ?_); (focus (exact HLK.out.below (by repeat (first | assumption | exact Below.refl _ _ | refine Below.drew ?_ | (refine below_alloc _ ?_ ?_; focus (first | omega | (simp; done) | (simp; omega) | (simp at *; omega))) | (refine below_set _ ?_ ?_; focus (first | omega | (simp; done) | (simp; omega) | (simp at *; omega))) | refine below_drewN ?_ _ | (refine below_call (by assumption) ?_ ?_; focus (first | omega | (simp; done) | (simp; omega) | (simp at *; omega))) | (refine below_call' (by assumption) ?_ ?_; focus (first | omega | (simp; done) | (simp; omega) | (simp at *; omega))))))); rintro e w4 ⟨D1, f1, D2, f2, D3, f3, rfl, lk4, hb4⟩; have hy4 : Below wr.heap.size wr w4 := (by first | exact ((Below.refl _ wr).drew).trans hb4 | exact (below_alloc _ (Nat.le_refl _) ((Below.refl _ wr).drew)).trans (hb4.mono (by simp; try omega))); have hs4 := hb4.size; (try simp at hs4); (try have nk : w4.heap[wr.heap.size]? = some (.cells #[.slice none 0 0, .slice none 0 0, .slice none 0 0] 41) := blk_below' hb4 (blk_new (by simp))); (try have n0 : World.cell? w4 ⟨(wr).heap.size, 0, none⟩ = some (.slice none 0 0) := cell_below' hb4 (cell_new (by simp) rfl)); (try have n1 : World.cell? w4 ⟨(wr).heap.size, 1, none⟩ = some (.slice none 0 0) := cell_below' hb4 (cell_new (by simp) rfl)); (try have n2 : World.cell? w4 ⟨(wr).heap.size, 2, none⟩ = some (.slice none 0 0) := cell_below' hb4 (cell_new (by simp) rfl)); (try have nf0 : World.frozen? w4 ⟨(wr).heap.size, 0, none⟩ = false := frozen_below hb4 (by simp) (frozen_new (by simp))); (try have nf1 : World.frozen? w4 ⟨(wr).heap.size, 1, none⟩ = false := frozen_below hb4 (by simp) (frozen_new (by simp))); (try have nf2 : World.frozen? w4 ⟨(wr).heap.size, 2, none⟩ = false := frozen_below hb4 (by simp) (frozen_new (by simp))))))
        all_goals
          go_wp2_with (fail)
          go_meet
          first
            | exact ⟨_, D1, f1, D2, f2, D3, f3, rfl, rfl, below_alloc _ (Nat.le_refl _) hy4, cell_new rfl rfl, cell_new rfl rfl, cell_new rfl rfl, lk4.below (below_alloc _ (Nat.le_refl _) (Below.refl _ _))⟩
            | exact ⟨_, D1, f1, D2, f2, D3, f3, rfl, rfl, below_set _ (by simp; try omega) (below_set _ (by simp; try omega) (below_set _ (by simp; try omega) hy4)), (set3 n0 n1 n2).1, (set3 n0 n1 n2).2.1, (set3 n0 n1 n2).2.2, lnk_farB lk4 nk⟩
      case rest =>
      obtain ⟨nb, D1, f1, D2, f2, D3, f3, rfl, rfl, hbx, r0, r1, r2, hLx⟩ := hcut
      replace pk := blk_below' hbx pk
      replace sk := blk_below' hbx sk
      replace hbr := hbr.trans (hbx.mono (by omega))
      replace zr := Nat.lt_of_lt_of_le zr hbx.size
      replace zr0 := Nat.lt_of_lt_of_le zr0 hbx.size
      have zn : nb < wc.heap.size := World.block_lt_of_cell? _ _ r0
      clear hbx p0 p1 p2 s0 s1 s2 pf0 pf1 pf2 sf0 sf1 sf2 m0 m1 m2 m3 m4 HM HLK
      have p0 := blk_cell pk (j := 0) rfl
      have pf0 := blk_frozen (j := 0) pk
      have p1 := blk_cell pk (j := 1) rfl
      have pf1 := blk_frozen (j := 1) pk
      have p2 := blk_cell pk (j := 2) rfl
      have pf2 := blk_frozen (j := 2) pk
      have s0 : wc.cell? ⟨w.heap.size + 1, 0, none⟩ = some (.slice none 0 0) := blk_cell sk rfl
      have sf0 := blk_frozen (j := 0) sk
      have s1 : wc.cell? ⟨w.heap.size + 1, 1, none⟩ = some (.slice none 0 0) := blk_cell sk rfl
      have sf1 := blk_frozen (j := 1) sk
      have s2 : wc.cell? ⟨w.heap.size + 1, 2, none⟩ = some (.slice none 0 0) := blk_cell sk rfl
      have sf2 := blk_frozen (j := 2) sk
      have hrm : rmv Lk mv = if (movL Lk mv).2 = 0 then ((movL Lk mv).1, 0) else (Lz, (movL Lk mv).2) := rfl
      have hvm := HVK.out.move (mv := mv)
      by_cases hr : (movL Lk mv).2 = 0
      · rw [if_pos hr] at hrm
        have h2 := H2.out.trans (if_pos hr)
        rw [hrm] at hLx r0 r1 r2 ⊢
        have H3 := Lib.hid h2
        have HVM := Lib.hid hvm
        clear hrm h2 H2 hr hvm HVK
        generalize (movL Lk mv).1 = Ln at *
        have pk9 := blk_set3 (v0 := .slice D1 Ln.box.length f1) (v1 := .slice D3 Ln.wire.length f3) (v2 := .slice D2 Ln.store.length f2) pk
        have sk9 := blk_far3 (b := w.heap.size) (v0 := .slice D1 Ln.box.length f1) (v1 := .slice D3 Ln.wire.length f3) (v2 := .slice D2 Ln.store.length f2) (by omega) sk
        have hL9 := lnk_farB (v0 := .slice D1 Ln.box.length f1) (v1 := .slice D3 Ln.wire.length f3) (v2 := .slice D2 Ln.store.length f2) hLx pk
        go_wp2_with (fail)
        exact ⟨⟨k + 1, Ln, D1, f1, D2, f2, D3, f3, by omega, by go_num, H3.out, HVM.out, pk9, sk9, hL9, below_set _ (by simp) (below_set _ (by simp) (below_set _ (by simp) hbr)), by simp; omega⟩, by simp [intOf]; omega⟩
      · rw [if_neg hr] at hrm
        have h2 := HQ.out.trans (H2.out.trans (if_neg hr))
        have hE1 : ((movL Lk mv).2 == 0) = false := by simpa using hr
        have hE2 : ((movL Lk mv).2 != 0) = true := by simpa using hr
        rw [hrm] at hLx r0 r1 r2 ⊢
        have H3 := Lib.hid h2
        clear hrm h2 H2 hr hvm HVK
        generalize (movL Lk mv).2 = E at *
        go_wp2_with (fail)
        refine bodyPost_ret (v := .tuple #[.agg #[.slice none 0 0, .slice none 0 0, .slice none 0 0], .int .i64 k, .int .i64 E]) (by simp [results, Try.results32, go_sem, s0, s1, s2, zr]) rfl ?_
        rw [H3.out]
        exact ⟨none, 0, none, 0, none, 0, rfl, lnkR_z, (by repeat (first | assumption | exact Below.refl _ _ | refine Below.drew ?_ | (refine below_alloc _ ?_ ?_; focus (first | omega | (simp; done) | (simp; omega) | (simp at *; omega))) | (refine below_set _ ?_ ?_; focus (first | omega | (simp; done) | (simp; omega) | (simp at *; omega))) | refine below_drewN ?_ _ | (refine below_call (by assumption) ?_ ?_; focus (first | omega | (simp; done) | (simp; omega) | (simp at *; omega))) | (refine below_call' (by assumption) ?_ ?_; focus (first | omega | (simp; done) | (simp; omega) | (simp at *; omega)))))⟩
    · have hd : l.drop k = [] := List.drop_eq_nil_of_le (by omega)
      have h2 := HGO.out
      rw [hd, runGo] at h2
      have H2 := Lib.hid (HQ.out.trans h2)
      have hkl : ¬ ((k : Int) < (l.length : Int)) := by omega
      clear HGO h2 hd AR
      go_wp2_with (fail)
      have hLF := lnk_farB (v0 := .slice C1 Lk.box.length e1) (v1 := .slice C3 Lk.wire.length e3) (v2 := .slice C2 Lk.store.length e2) HLK.out sk
      refine bodyPost_ret (v := .tuple #[.agg #[.slice C1 Lk.box.length e1, .slice C3 Lk.wire.length e3, .slice C2 Lk.store.length e2], .int .i64 0, .int .i64 0]) (by simp [results, Try.results32, go_sem, s0, s1, s2, zr]) rfl ?_
      rw [H2.out]
      exact ⟨C1, e1, C2, e2, C3, e3, rfl, hLF, below_set _ (by simp) (below_set _ (by simp) (below_set _ (by simp) hbr))⟩
end
end Go.Proofs.Ytcfbnmcdncndpaa
