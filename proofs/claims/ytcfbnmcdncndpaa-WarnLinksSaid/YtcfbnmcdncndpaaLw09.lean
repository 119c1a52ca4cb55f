/-
  WarnLinks: the walk.
-/
import Derived.Test.YtcfbnmcdncndpaaWRPn
import Derived.Test.YtcfbnmcdncndpaaLw04
namespace Go.Proofs.Ytcfbnmcdncndpaa
open Go.ChangeShapes Go.WideShapes Go.ChangeAt Go.RowKit
set_option linter.unusedVariables false
set_option linter.unusedSimpArgs false

def skipK (sb : Bool) (n : Nat) : Bool := !sb || decide ((30 : Int) < (n : Int))
theorem skipK_false {sb : Bool} {n : Nat} (h : skipK sb n = false) : sb = true ∧ n ≤ 30 := by
  unfold skipK at h
  rw [Bool.or_eq_false_iff] at h
  obtain ⟨h1, h2⟩ := h
  exact ⟨by simpa using h1, by simp at h2; omega⟩
theorem movd_err {L : Lnk} {mv : Mv} (h : lnkE L ≠ 0) : movd L mv = (Lz, lnkE L) := by unfold movd; rw [if_pos h]
theorem movd_ok {L : Lnk} {mv : Mv} (h : lnkE L = 0) : movd L mv = rmv L mv := by unfold movd rmv; rw [if_neg (fun hn => hn h)]
theorem rmv_ok {L : Lnk} {mv : Mv} (h : VLk L) : VLk (rmv L mv).1 := by
  unfold rmv
  split
  · exact h.move
  · exact VLk.z
theorem Pend_err (A1 : Option Addr) (c1 : Nat) (A2 : Option Addr) (c2 : Nat) (A3 : Option Addr) (c3 : Nat) (L : Lnk) (w : World) (hf : FewL L) (hE : lnkE L ≠ 0) (hR : LnkR A1 A2 A3 L w) :
    Calls Try.prog 47 #[LnkV A1 c1 A2 c2 A3 c3 L] w fun e w' => (∃ A' c', e = .returned (.tuple #[.slice A' 0 c', .int .i64 (lnkE L)])) ∧ Below w.heap.size w w' := by
  refine (PendingIn_any A1 c1 A2 c2 A3 c3 L w hf hR).mono ?_
  rintro e w' ⟨A', c', rfl, -, hb⟩
  have hq : pendQ L = ([], lnkE L) := if_neg hE
  rw [hq]
  exact ⟨⟨A', c', rfl⟩, hb⟩
theorem Pend_ok (A1 : Option Addr) (c1 : Nat) (A2 : Option Addr) (c2 : Nat) (A3 : Option Addr) (c3 : Nat) (L : Lnk) (w : World) (hf : FewL L) (hE : lnkE L = 0) (hR : LnkR A1 A2 A3 L w) :
    Calls Try.prog 47 #[LnkV A1 c1 A2 c2 A3 c3 L] w fun e w' => (∃ A' c', e = .returned (.tuple #[.slice A' (pendL L).length c', .int .i64 0]) ∧ StrsAt w' A' (pendL L)) ∧ Below w.heap.size w w' := by
  refine (PendingIn_any A1 c1 A2 c2 A3 c3 L w hf hR).mono ?_
  rintro e w' ⟨A', c', rfl, hs, hb⟩
  have hq : pendQ L = (pendL L, 0) := if_pos hE
  rw [hq] at hs ⊢
  exact ⟨⟨A', c', rfl, hs⟩, hb⟩
theorem pendL_len (L : Lnk) : (pendL L).length ≤ L.box.length := by
  rw [← pendK_end]; exact pendK_len L _
set_option maxRecDepth 100000 in
set_option maxHeartbeats 8000000 in
theorem WarnLinks_any (A1 : Option Addr) (c1 : Nat) (A2 : Option Addr) (c2 : Nat) (A3 : Option Addr) (c3 : Nat) (L : Lnk) (mv : Mv) (w : World) (hR : LnkR A1 A2 A3 L w) :
    Calls Try.prog 9 #[LnkV A1 c1 A2 c2 A3 c3 L, .agg #[.int .i64 mv.k, .int .i64 mv.i, .string mv.m.s, .int .i64 mv.m.v, .int .i64 mv.m.l]] w fun e w' => e = .returned (.bool true) ∧ Below w.heap.size w w' := by
  go_enter Try.func9, Try.ntmps9
  go_wp2_with (fail)
  have hb0 : Below w.heap.size w ((w.alloc (.cells #[.slice A1 L.box.length c1, .slice A3 L.wire.length c3, .slice A2 L.store.length c2] 41)).alloc (.cells #[.int .i64 mv.k, .int .i64 mv.i, .string mv.m.s, .int .i64 mv.m.v, .int .i64 mv.m.l] 47)) := below_alloc _ (Nat.le_refl _) (below_alloc _ (Nat.le_refl _) (Below.refl _ _))
  have a0 : ((w.alloc (.cells #[.slice A1 L.box.length c1, .slice A3 L.wire.length c3, .slice A2 L.store.length c2] 41)).alloc (.cells #[.int .i64 mv.k, .int .i64 mv.i, .string mv.m.s, .int .i64 mv.m.v, .int .i64 mv.m.l] 47)).cell? ⟨w.heap.size, 0, none⟩ = some (.slice A1 L.box.length c1) := cell_alloc _ (cell_new (by simp) rfl)
  have a1 : ((w.alloc (.cells #[.slice A1 L.box.length c1, .slice A3 L.wire.length c3, .slice A2 L.store.length c2] 41)).alloc (.cells #[.int .i64 mv.k, .int .i64 mv.i, .string mv.m.s, .int .i64 mv.m.v, .int .i64 mv.m.l] 47)).cell? ⟨w.heap.size, 1, none⟩ = some (.slice A3 L.wire.length c3) := cell_alloc _ (cell_new (by simp) rfl)
  have a2 : ((w.alloc (.cells #[.slice A1 L.box.length c1, .slice A3 L.wire.length c3, .slice A2 L.store.length c2] 41)).alloc (.cells #[.int .i64 mv.k, .int .i64 mv.i, .string mv.m.s, .int .i64 mv.m.v, .int .i64 mv.m.l] 47)).cell? ⟨w.heap.size, 2, none⟩ = some (.slice A2 L.store.length c2) := cell_alloc _ (cell_new (by simp) rfl)
  have za : w.heap.size < ((w.alloc (.cells #[.slice A1 L.box.length c1, .slice A3 L.wire.length c3, .slice A2 L.store.length c2] 41)).alloc (.cells #[.int .i64 mv.k, .int .i64 mv.i, .string mv.m.s, .int .i64 mv.m.v, .int .i64 mv.m.l] 47)).heap.size := World.block_lt_of_cell? _ _ a0
  have b0 : ((w.alloc (.cells #[.slice A1 L.box.length c1, .slice A3 L.wire.length c3, .slice A2 L.store.length c2] 41)).alloc (.cells #[.int .i64 mv.k, .int .i64 mv.i, .string mv.m.s, .int .i64 mv.m.v, .int .i64 mv.m.l] 47)).cell? ⟨w.heap.size + 1, 0, none⟩ = some (.int .i64 mv.k) := cell_new (by simp) rfl
  have b1 : ((w.alloc (.cells #[.slice A1 L.box.length c1, .slice A3 L.wire.length c3, .slice A2 L.store.length c2] 41)).alloc (.cells #[.int .i64 mv.k, .int .i64 mv.i, .string mv.m.s, .int .i64 mv.m.v, .int .i64 mv.m.l] 47)).cell? ⟨w.heap.size + 1, 1, none⟩ = some (.int .i64 mv.i) := cell_new (by simp) rfl
  have b2 : ((w.alloc (.cells #[.slice A1 L.box.length c1, .slice A3 L.wire.length c3, .slice A2 L.store.length c2] 41)).alloc (.cells #[.int .i64 mv.k, .int .i64 mv.i, .string mv.m.s, .int .i64 mv.m.v, .int .i64 mv.m.l] 47)).cell? ⟨w.heap.size + 1, 2, none⟩ = some (.string mv.m.s) := cell_new (by simp) rfl
  have b3 : ((w.alloc (.cells #[.slice A1 L.box.length c1, .slice A3 L.wire.length c3, .slice A2 L.store.length c2] 41)).alloc (.cells #[.int .i64 mv.k, .int .i64 mv.i, .string mv.m.s, .int .i64 mv.m.v, .int .i64 mv.m.l] 47)).cell? ⟨w.heap.size + 1, 3, none⟩ = some (.int .i64 mv.m.v) := cell_new (by simp) rfl
  have b4 : ((w.alloc (.cells #[.slice A1 L.box.length c1, .slice A3 L.wire.length c3, .slice A2 L.store.length c2] 41)).alloc (.cells #[.int .i64 mv.k, .int .i64 mv.i, .string mv.m.s, .int .i64 mv.m.v, .int .i64 mv.m.l] 47)).cell? ⟨w.heap.size + 1, 4, none⟩ = some (.int .i64 mv.m.l) := cell_new (by simp) rfl
  have zb : w.heap.size + 1 < ((w.alloc (.cells #[.slice A1 L.box.length c1, .slice A3 L.wire.length c3, .slice A2 L.store.length c2] 41)).alloc (.cells #[.int .i64 mv.k, .int .i64 mv.i, .string mv.m.s, .int .i64 mv.m.v, .int .i64 mv.m.l] 47)).heap.size := World.block_lt_of_cell? _ _ b0
  generalize ((w.alloc (.cells #[.slice A1 L.box.length c1, .slice A3 L.wire.length c3, .slice A2 L.store.length c2] 41)).alloc (.cells #[.int .i64 mv.k, .int .i64 mv.i, .string mv.m.s, .int .i64 mv.m.v, .int .i64 mv.m.l] 47)) = w0 at *
  have hr0 := hR.below hb0
  clear hR
  refine (awake_any _).mono ?_
  rintro e w1 ⟨rfl, hb1⟩
  replace hr0 := hr0.below hb1
  have h1 : Below w.heap.size w w1 := (hb0).trans ((hb1).mono (hb0).size)
  replace a0 := cell_below' hb1 a0
  replace a1 := cell_below' hb1 a1
  replace a2 := cell_below' hb1 a2
  replace za := Nat.lt_of_lt_of_le za (hb1).size
  replace b0 := cell_below' hb1 b0
  replace b1 := cell_below' hb1 b1
  replace b2 := cell_below' hb1 b2
  replace b3 := cell_below' hb1 b3
  replace b4 := cell_below' hb1 b4
  replace zb := Nat.lt_of_lt_of_le zb (hb1).size
  clear hb1 hb0
  have HSM := Lib.hid (fun W (h : LnkR A1 A2 A3 L W) => small_any A1 c1 A2 c2 A3 c3 L W h)
  have hst := fun h => smallL_true (L := L) h
  have HST := Lib.hid hst
  clear hst
  generalize smallL L = sb at *
  go_upto_region 3 with (fail)
  go_cut [23] from 14 to 22 (fun t wx => t = .bool (skipK sb mv.m.s.size) ∧ Below w1.heap.size w1 wx)
  case first =>
    go_wp2_with (fail)
    refine (HSM.out _ hr0).mono ?_
    rintro e w2 ⟨rfl, hb2⟩
    have b2' := cell_below' hb2 b2
    have hsk : skipK sb mv.m.s.size = (!sb || decide ((30 : Int) < (mv.m.s.size : Int))) := rfl
    cases e30 : decide ((30 : Int) < (mv.m.s.size : Int)) <;> cases sb
    all_goals
      rw [e30] at hsk
      have HSK := Lib.hid hsk
      clear hsk
      go_wp2_with (fail)
      go_meet
      exact ⟨by rw [HSK.out] <;> rfl, hb2⟩
  case rest =>
  obtain ⟨rfl, hbc⟩ := hcut
  replace hr0 := hr0.below hbc
  have h2 : Below w.heap.size w wc := (h1).trans ((hbc).mono (h1).size)
  replace a0 := cell_below' hbc a0
  replace a1 := cell_below' hbc a1
  replace a2 := cell_below' hbc a2
  replace za := Nat.lt_of_lt_of_le za (hbc).size
  replace b0 := cell_below' hbc b0
  replace b1 := cell_below' hbc b1
  replace b2 := cell_below' hbc b2
  replace b3 := cell_below' hbc b3
  replace b4 := cell_below' hbc b4
  replace zb := Nat.lt_of_lt_of_le zb (hbc).size
  clear hbc h1
  by_cases hsk : skipK sb mv.m.s.size = true
  · rw [hsk]
    clear HSM HST hsk
    go_wp2_with (fail)
    go_ret
    exact ⟨rfl, h2⟩
  have hsf : skipK sb mv.m.s.size = false := by simpa using hsk
  obtain ⟨rfl, hs30⟩ := skipK_false hsf
  rw [hsf]
  have hsml := HST.out rfl
  have hl1 := hsml.l1
  have hl2 := hsml.l2
  have hl3 := hsml.l3
  have HSL := Lib.hid hsml
  clear HST HSM hsml hsk hsf
  have HCL := Lib.hid (fun W (h : LnkR A1 A2 A3 L W) => CopyLink_any A1 c1 A2 c2 A3 c3 L W (by omega) (by omega) (by omega) h)
  have HLE := Lib.hid (fun W (h : LnkR A1 A2 A3 L W) => LinkErr_any A1 c1 A2 c2 A3 c3 L W (by omega) (by omega) (by omega) h)
  have HCK := Lib.hid (fun (B1 : Option Addr) (d1 : Nat) (B2 : Option Addr) (d2 : Nat) (B3 : Option Addr) (d3 : Nat) W (h : LnkR B1 B2 B3 L W) => CheckLink_any B1 d1 B2 d2 B3 d3 L W HSL.out.few h)
  have HMV := Lib.hid (fun (B1 : Option Addr) (d1 : Nat) (B2 : Option Addr) (d2 : Nat) (B3 : Option Addr) (d3 : Nat) W (h : LnkR B1 B2 B3 L W) => Moved_any B1 d1 B2 d2 B3 d3 L mv W HSL.out.few h (by omega))
  obtain ⟨Q, hQ⟩ : ∃ Q, movd L mv = Q := ⟨_, rfl⟩
  rw [hQ] at HMV
  have HQ := Lib.hid hQ
  clear hQ
  obtain ⟨⟨x, z, y⟩, d⟩ := Q
  go_upto_region 5 with (fail)
  go_cut [5, 6] from 24 to 30 (fun s e wx => ∃ (nb : Nat) (D1 : Option Addr) (f1 : Nat) (D2 : Option Addr) (f2 : Nat) (D3 : Option Addr) (f3 : Nat), s = .pointer (some ⟨nb, 0, none⟩) ∧ e = .int .i64 d ∧ Below wc.heap.size wc wx ∧ wx.cell? ⟨nb, 0, none⟩ = some (.slice D1 x.length f1) ∧ wx.cell? ⟨nb, 1, none⟩ = some (.slice D3 z.length f3) ∧ wx.cell? ⟨nb, 2, none⟩ = some (.slice D2 y.length f2) ∧ LnkR D1 D2 D3 ⟨x, z, y⟩ wx)
  case first =>
    clear HLE HCK HQ HSL
    go_region_held3 (fun w' => w'.cell? ⟨w.heap.size, 0, none⟩ = some (.slice A1 L.box.length c1) ∧ w'.cell? ⟨w.heap.size, 1, none⟩ = some (.slice A3 L.wire.length c3) ∧ w'.cell? ⟨w.heap.size, 2, none⟩ = some (.slice A2 L.store.length c2) ∧ w'.cell? ⟨w.heap.size + 1, 0, none⟩ = some (.int .i64 mv.k) ∧ w'.cell? ⟨w.heap.size + 1, 1, none⟩ = some (.int .i64 mv.i) ∧ w'.cell? ⟨w.heap.size + 1, 2, none⟩ = some (.string mv.m.s) ∧ w'.cell? ⟨w.heap.size + 1, 3, none⟩ = some (.int .i64 mv.m.v) ∧ w'.cell? ⟨w.heap.size + 1, 4, none⟩ = some (.int .i64 mv.m.l))
      ((((try go_split_ands); (repeat' (apply And.intro)) <;> (repeat (first | (with_reducible assumption) | (with_reducible refine cell_drew ?_) | (with_reducible refine cell_alloc _ ?_) | (with_reducible refine cell_below' (by with_reducible assumption) ?_) | (with_reducible refine cell_far ?_ ?_; focus (first | omega | (simp; omega) | (simp; done))))))))
      (first
        | (go_at_call 28; ((with_reducible refine (HCL.out _ ?_).mono ?_); (focus (exact hr0.below (by repeat (first | assumption | exact Below.refl _ _ | refine Below.drew ?_ | (refine below_alloc _ ?_ ?_; focus (first | omega | (simp; done) | (simp; omega) | (simp at *; omega))) | (refine below_set _ ?_ ?_; focus (first | omega | (simp; done) | (simp; omega) | (simp at *; omega))) | refine below_drewN ?_ _ | (refine below_call (by assumption) ?_ ?_; focus (first | omega | (simp; done) | (simp; omega) | (simp at *; omega))) | (refine below_call' (by assumption) ?_ ?_; focus (first | omega | (simp; done) | (simp; omega) | (simp at *; omega))))))); rintro e w3 ⟨B1, d1, B2, d2, B3, d3, rfl, rb, hb3⟩; have hy3 : Below wc.heap.size wc w3 := (by first | exact ((Below.refl _ wc).drew).trans hb3 | exact (below_alloc _ (Nat.le_refl _) ((Below.refl _ wc).drew)).trans (hb3.mono (by simp; try omega))); have hs3 := hb3.size; (try simp at hs3); (try have nk : w3.heap[wc.heap.size]? = some (.cells #[.slice none 0 0, .slice none 0 0, .slice none 0 0] 41) := blk_below' hb3 (blk_new (by simp))); (try have n0 : World.cell? w3 ⟨(wc).heap.size, 0, none⟩ = some (.slice none 0 0) := cell_below' hb3 (cell_new (by simp) rfl)); (try have n1 : World.cell? w3 ⟨(wc).heap.size, 1, none⟩ = some (.slice none 0 0) := cell_below' hb3 (cell_new (by simp) rfl)); (try have n2 : World.cell? w3 ⟨(wc).heap.size, 2, none⟩ = some (.slice none 0 0) := cell_below' hb3 (cell_new (by simp) rfl)); (try have nf0 : World.frozen? w3 ⟨(wc).heap.size, 0, none⟩ = false := frozen_below hb3 (by simp) (frozen_new (by simp))); (try have nf1 : World.frozen? w3 ⟨(wc).heap.size, 1, none⟩ = false := frozen_below hb3 (by simp) (frozen_new (by simp))); (try have nf2 : World.frozen? w3 ⟨(wc).heap.size, 2, none⟩ = false := frozen_below hb3 (by simp) (frozen_new (by simp)))))
        | (go_at_call 46; ((with_reducible refine (HMV.out B1 d1 B2 d2 B3 d3 _ ?_).mono ?_); (focus (exact rb.below (by repeat (first | assumption | exact Below.refl _ _ | refine Below.drew ?_ | (refine below_alloc _ ?_ ?_; focus (first | omega | (simp; done) | (simp; omega) | (simp at *; omega))) | (refine below_set _ ?_ ?_; focus (first | omega | (simp; done) | (simp; omega) | (simp at *; omega))) | refine below_drewN ?_ _ | (refine below_call (by assumption) ?_ ?_; focus (first | omega | (simp; done) | (simp; omega) | (simp at *; omega))) | (refine below_call' (by assumption) ?_ ?_; focus (first | omega | (simp; done) | (simp; omega) | (simp at *; omega))))))); rintro e w4 ⟨D1, f1, D2, f2, D3, f3, rfl, lk4, hb4⟩; simp only at lk4; have hy4 : Below wc.heap.size wc w4 := (by first | exact hy3.trans (hb4.mono hy3.size) | exact (below_alloc _ (Nat.le_refl _) hy3).trans (hb4.mono (by have := hy3.size; simp; omega))); have hs4 := hb4.size; (try simp at hs4); (try replace nk := blk_below' hb4 nk); (try have nk : w4.heap[w3.heap.size]? = some (.cells #[.slice none 0 0, .slice none 0 0, .slice none 0 0] 41) := blk_below' hb4 (blk_new (by simp))); (try replace nf0 := frozen_below hb4 (World.block_lt_of_cell? _ _ n0) nf0); (try replace nf1 := frozen_below hb4 (World.block_lt_of_cell? _ _ n1) nf1); (try replace nf2 := frozen_below hb4 (World.block_lt_of_cell? _ _ n2) nf2); (try replace n0 := cell_below' hb4 n0); (try replace n1 := cell_below' hb4 n1); (try replace n2 := cell_below' hb4 n2); (try have n0 : World.cell? w4 ⟨(w3).heap.size, 0, none⟩ = some (.slice none 0 0) := cell_below' hb4 (cell_new (by simp) rfl)); (try have n1 : World.cell? w4 ⟨(w3).heap.size, 1, none⟩ = some (.slice none 0 0) := cell_below' hb4 (cell_new (by simp) rfl)); (try have n2 : World.cell? w4 ⟨(w3).heap.size, 2, none⟩ = some (.slice none 0 0) := cell_below' hb4 (cell_new (by simp) rfl)); (try have nf0 : World.frozen? w4 ⟨(w3).heap.size, 0, none⟩ = false := frozen_below hb4 (by simp) (frozen_new (by simp))); (try have nf1 : World.frozen? w4 ⟨(w3).heap.size, 1, none⟩ = false := frozen_below hb4 (by simp) (frozen_new (by simp))); (try have nf2 : World.frozen? w4 ⟨(w3).heap.size, 2, none⟩ = false := frozen_below hb4 (by simp) (frozen_new (by simp))))))
    all_goals
      go_wp2_with (fail)
      go_meet
      first
        | exact ⟨_, D1, f1, D2, f2, D3, f3, rfl, rfl, below_alloc _ (Nat.le_refl _) hy4, cell_new rfl rfl, cell_new rfl rfl, cell_new rfl rfl, lk4.below (below_alloc _ (Nat.le_refl _) (Below.refl _ _))⟩
        | exact ⟨_, D1, f1, D2, f2, D3, f3, rfl, rfl, below_set _ (by simp; try omega) (below_set _ (by simp; try omega) (below_set _ (by simp; try omega) hy4)), (set3 n0 n1 n2).1, (set3 n0 n1 n2).2.1, (set3 n0 n1 n2).2.2, lnk_farB lk4 nk⟩
  case rest =>
  obtain ⟨nb, D1, f1, D2, f2, D3, f3, rfl, rfl, hbx, r0, r1, r2, hLx⟩ := hcut
  have zr : nb < wc.heap.size := World.block_lt_of_cell? _ _ r0
  replace hr0 := hr0.below hbx
  have h3 : Below w.heap.size w wc := (h2).trans ((hbx).mono (h2).size)
  replace a0 := cell_below' hbx a0
  replace a1 := cell_below' hbx a1
  replace a2 := cell_below' hbx a2
  replace za := Nat.lt_of_lt_of_le za (hbx).size
  replace b0 := cell_below' hbx b0
  replace b1 := cell_below' hbx b1
  replace b2 := cell_below' hbx b2
  replace b3 := cell_below' hbx b3
  replace b4 := cell_below' hbx b4
  replace zb := Nat.lt_of_lt_of_le zb (hbx).size
  clear hbx h2
  clear HMV
  by_cases hE : lnkE L = 0
  rotate_left 1
  · have hq := HQ.out.symm.trans (movd_err hE)
    have hq1 : Lz = ⟨x, z, y⟩ := by rw [Prod.mk.injEq] at hq; exact hq.1.symm
    have hq2 : d = lnkE L := by rw [Prod.mk.injEq] at hq; exact hq.2
    unfold Lz at hq1
    rw [Lnk.mk.injEq] at hq1
    obtain ⟨rfl, rfl, rfl⟩ := hq1
    simp only [List.length_nil] at r0 r1 r2
    subst hq2
    have HPE := Lib.hid (fun (B1 : Option Addr) (d1 : Nat) (B2 : Option Addr) (d2 : Nat) (B3 : Option Addr) (d3 : Nat) W (h : LnkR B1 B2 B3 L W) => Pend_err B1 d1 B2 d2 B3 d3 L W HSL.out.few hE h)
    have hE2 : (lnkE L != 0) = true := by simpa using hE
    have hE3 : (lnkE L == lnkE L) = true := by simp
    have hE4 : (lnkE L != lnkE L) = false := by simp
    clear hq hE HQ HSL hLx
    generalize lnkE L = E at *
    go_wp2_with (fail)
    refine (HCL.out _ hr0).mono ?_
    rintro e w3 ⟨B1, d1, B2, d2, B3, d3, rfl, rb, hb3⟩
    replace hr0 := hr0.below hb3
    have h4 : Below w.heap.size w w3 := (h3).trans ((hb3).mono (h3).size)
    replace a0 := cell_below' hb3 a0
    replace a1 := cell_below' hb3 a1
    replace a2 := cell_below' hb3 a2
    replace za := Nat.lt_of_lt_of_le za (hb3).size
    replace r0 := cell_below' hb3 r0
    replace r1 := cell_below' hb3 r1
    replace r2 := cell_below' hb3 r2
    replace zr := Nat.lt_of_lt_of_le zr (hb3).size
    clear hb3 h3
    go_wp2_with (fail)
    refine (HPE.out B1 d1 B2 d2 B3 d3 _ rb).mono ?_
    rintro e w4 ⟨⟨P1, p1, rfl⟩, hb4⟩
    replace hr0 := hr0.below hb4
    have h5 : Below w.heap.size w w4 := (h4).trans ((hb4).mono (h4).size)
    replace a0 := cell_below' hb4 a0
    replace a1 := cell_below' hb4 a1
    replace a2 := cell_below' hb4 a2
    replace za := Nat.lt_of_lt_of_le za (hb4).size
    replace r0 := cell_below' hb4 r0
    replace r1 := cell_below' hb4 r1
    replace r2 := cell_below' hb4 r2
    replace zr := Nat.lt_of_lt_of_le zr (hb4).size
    clear hb4 h4
    clear rb HPE
    go_wp2_with (fail)
    refine (HLE.out _ hr0).mono ?_
    rintro e w5 ⟨rfl, hb5⟩
    replace hr0 := hr0.below hb5
    have h6 : Below w.heap.size w w5 := (h5).trans ((hb5).mono (h5).size)
    replace a0 := cell_below' hb5 a0
    replace a1 := cell_below' hb5 a1
    replace a2 := cell_below' hb5 a2
    replace za := Nat.lt_of_lt_of_le za (hb5).size
    replace r0 := cell_below' hb5 r0
    replace r1 := cell_below' hb5 r1
    replace r2 := cell_below' hb5 r2
    replace zr := Nat.lt_of_lt_of_le zr (hb5).size
    clear hb5 h5
    go_wp2_with (fail)
    refine (HCL.out _ hr0).mono ?_
    rintro e w6 ⟨B1, d1, B2, d2, B3, d3, rfl, rb, hb6⟩
    have h7 : Below w.heap.size w w6 := (h6).trans ((hb6).mono (h6).size)
    replace a0 := cell_below' hb6 a0
    replace a1 := cell_below' hb6 a1
    replace a2 := cell_below' hb6 a2
    replace za := Nat.lt_of_lt_of_le za (hb6).size
    replace r0 := cell_below' hb6 r0
    replace r1 := cell_below' hb6 r1
    replace r2 := cell_below' hb6 r2
    replace zr := Nat.lt_of_lt_of_le zr (hb6).size
    clear hb6 h6
    go_wp2_with (fail)
    refine (HCK.out B1 d1 B2 d2 B3 d3 _ rb).mono ?_
    rintro e w7 ⟨rfl, hb7⟩
    have h8 : Below w.heap.size w w7 := (h7).trans ((hb7).mono (h7).size)
    replace a0 := cell_below' hb7 a0
    replace a1 := cell_below' hb7 a1
    replace a2 := cell_below' hb7 a2
    replace za := Nat.lt_of_lt_of_le za (hb7).size
    replace r0 := cell_below' hb7 r0
    replace r1 := cell_below' hb7 r1
    replace r2 := cell_below' hb7 r2
    replace zr := Nat.lt_of_lt_of_le zr (hb7).size
    clear hb7 h7
    go_wp2_with (fail)
    refine (SameLink_z D1 f1 D2 f2 D3 f3 _).mono ?_
    rintro e w8 ⟨rfl, hb8⟩
    have h9 := h8.trans (hb8.mono h8.size)
    go_wp2_with (fail)
    go_ret
    exact ⟨rfl, h9⟩
  have hv := VLk.of hE
  have hq := (movd_ok (mv := mv) hE).symm.trans HQ.out
  have hvq : VLk ⟨x, z, y⟩ := by have := rmv_ok (mv := mv) hv; rw [hq] at this; exact this
  have hx := hvq.ok.l1
  have hy := hvq.ok.l2
  have hz := hvq.ok.l3
  simp only at hx hy hz
  have HPE := Lib.hid (fun (B1 : Option Addr) (d1 : Nat) (B2 : Option Addr) (d2 : Nat) (B3 : Option Addr) (d3 : Nat) W (h : LnkR B1 B2 B3 L W) => Pend_ok B1 d1 B2 d2 B3 d3 L W HSL.out.few hE h)
  have HRM := Lib.hid (fun W (h : LnkR A1 A2 A3 L W) => RMoved_any A1 c1 A2 c2 A3 c3 L mv.k mv.i mv.m W h hv.ok hv.w)
  have hmv : (⟨mv.k, mv.i, mv.m⟩ : Mv) = mv := rfl
  rw [hmv, hq] at HRM
  have HRP := Lib.hid (fun W (h : LnkR A1 A2 A3 L W) => RPendingIn_any A1 c1 A2 c2 A3 c3 L W hv h)
  have hpl : (pendL L).length ≤ 30 := Nat.le_trans (pendL_len L) hv.ok.l1
  have HTX := Lib.hid (fun (P1 P2 : Option Addr) (p1 p2 : Nat) W (h1 : StrsAt W P1 (pendL L)) (h2 : StrsAt W P2 (pendL L)) => Texts_refl P1 P2 (pendL L) p1 p2 W (by omega) h1 h2)
  have hd2 : (d == d) = true := by simp
  rw [hE] at HLE HCK
  clear hv hq hvq hmv HSL HQ hE
  generalize pendL L = pl at *
  go_wp2_with (fail)
  refine (HCL.out _ hr0).mono ?_
  rintro e w3 ⟨B1, d1, B2, d2, B3, d3, rfl, rb, hb3⟩
  replace hr0 := hr0.below hb3
  replace hLx := hLx.below hb3
  have h4 : Below w.heap.size w w3 := (h3).trans ((hb3).mono (h3).size)
  replace a0 := cell_below' hb3 a0
  replace a1 := cell_below' hb3 a1
  replace a2 := cell_below' hb3 a2
  replace za := Nat.lt_of_lt_of_le za (hb3).size
  replace b0 := cell_below' hb3 b0
  replace b1 := cell_below' hb3 b1
  replace b2 := cell_below' hb3 b2
  replace b3 := cell_below' hb3 b3
  replace b4 := cell_below' hb3 b4
  replace zb := Nat.lt_of_lt_of_le zb (hb3).size
  replace r0 := cell_below' hb3 r0
  replace r1 := cell_below' hb3 r1
  replace r2 := cell_below' hb3 r2
  replace zr := Nat.lt_of_lt_of_le zr (hb3).size
  clear hb3 h3
  go_wp2_with (fail)
  refine (HPE.out B1 d1 B2 d2 B3 d3 _ rb).mono ?_
  rintro e w4 ⟨⟨P1, p1, rfl, rp⟩, hb4⟩
  replace hr0 := hr0.below hb4
  replace hLx := hLx.below hb4
  have h5 : Below w.heap.size w w4 := (h4).trans ((hb4).mono (h4).size)
  replace a0 := cell_below' hb4 a0
  replace a1 := cell_below' hb4 a1
  replace a2 := cell_below' hb4 a2
  replace za := Nat.lt_of_lt_of_le za (hb4).size
  replace b0 := cell_below' hb4 b0
  replace b1 := cell_below' hb4 b1
  replace b2 := cell_below' hb4 b2
  replace b3 := cell_below' hb4 b3
  replace b4 := cell_below' hb4 b4
  replace zb := Nat.lt_of_lt_of_le zb (hb4).size
  replace r0 := cell_below' hb4 r0
  replace r1 := cell_below' hb4 r1
  replace r2 := cell_below' hb4 r2
  replace zr := Nat.lt_of_lt_of_le zr (hb4).size
  clear hb4 h4
  clear rb HPE
  go_wp2_with (fail)
  refine (HLE.out _ hr0).mono ?_
  rintro e w5 ⟨rfl, hb5⟩
  replace hr0 := hr0.below hb5
  replace hLx := hLx.below hb5
  have h6 : Below w.heap.size w w5 := (h5).trans ((hb5).mono (h5).size)
  replace a0 := cell_below' hb5 a0
  replace a1 := cell_below' hb5 a1
  replace a2 := cell_below' hb5 a2
  replace za := Nat.lt_of_lt_of_le za (hb5).size
  replace b0 := cell_below' hb5 b0
  replace b1 := cell_below' hb5 b1
  replace b2 := cell_below' hb5 b2
  replace b3 := cell_below' hb5 b3
  replace b4 := cell_below' hb5 b4
  replace zb := Nat.lt_of_lt_of_le zb (hb5).size
  replace r0 := cell_below' hb5 r0
  replace r1 := cell_below' hb5 r1
  replace r2 := cell_below' hb5 r2
  replace zr := Nat.lt_of_lt_of_le zr (hb5).size
  replace rp := RowsAt.below rp hb5
  clear hb5 h5
  go_wp2_with (fail)
  refine (HCL.out _ hr0).mono ?_
  rintro e w6 ⟨B1, d1, B2, d2, B3, d3, rfl, rb, hb6⟩
  replace hr0 := hr0.below hb6
  replace hLx := hLx.below hb6
  have h7 : Below w.heap.size w w6 := (h6).trans ((hb6).mono (h6).size)
  replace a0 := cell_below' hb6 a0
  replace a1 := cell_below' hb6 a1
  replace a2 := cell_below' hb6 a2
  replace za := Nat.lt_of_lt_of_le za (hb6).size
  replace b0 := cell_below' hb6 b0
  replace b1 := cell_below' hb6 b1
  replace b2 := cell_below' hb6 b2
  replace b3 := cell_below' hb6 b3
  replace b4 := cell_below' hb6 b4
  replace zb := Nat.lt_of_lt_of_le zb (hb6).size
  replace r0 := cell_below' hb6 r0
  replace r1 := cell_below' hb6 r1
  replace r2 := cell_below' hb6 r2
  replace zr := Nat.lt_of_lt_of_le zr (hb6).size
  replace rp := RowsAt.below rp hb6
  clear hb6 h6
  go_wp2_with (fail)
  refine (HCK.out B1 d1 B2 d2 B3 d3 _ rb).mono ?_
  rintro e w7 ⟨rfl, hb7⟩
  replace hr0 := hr0.below hb7
  replace hLx := hLx.below hb7
  have h8 : Below w.heap.size w w7 := (h7).trans ((hb7).mono (h7).size)
  replace a0 := cell_below' hb7 a0
  replace a1 := cell_below' hb7 a1
  replace a2 := cell_below' hb7 a2
  replace za := Nat.lt_of_lt_of_le za (hb7).size
  replace b0 := cell_below' hb7 b0
  replace b1 := cell_below' hb7 b1
  replace b2 := cell_below' hb7 b2
  replace b3 := cell_below' hb7 b3
  replace b4 := cell_below' hb7 b4
  replace zb := Nat.lt_of_lt_of_le zb (hb7).size
  replace r0 := cell_below' hb7 r0
  replace r1 := cell_below' hb7 r1
  replace r2 := cell_below' hb7 r2
  replace zr := Nat.lt_of_lt_of_le zr (hb7).size
  replace rp := RowsAt.below rp hb7
  clear hb7 h7
  clear rb HCK HCL HLE
  go_wp2_with (fail)
  refine (HRM.out _ hr0).mono ?_
  rintro e w8 ⟨Z1, z1, Z2, z2, Z3, z3, rfl, rz, hb8⟩
  simp only at rz
  replace hr0 := hr0.below hb8
  replace hLx := hLx.below hb8
  have h9 : Below w.heap.size w w8 := (h8).trans ((hb8).mono (h8).size)
  replace a0 := cell_below' hb8 a0
  replace a1 := cell_below' hb8 a1
  replace a2 := cell_below' hb8 a2
  replace za := Nat.lt_of_lt_of_le za (hb8).size
  replace r0 := cell_below' hb8 r0
  replace r1 := cell_below' hb8 r1
  replace r2 := cell_below' hb8 r2
  replace zr := Nat.lt_of_lt_of_le zr (hb8).size
  replace rp := RowsAt.below rp hb8
  clear hb8 h8
  clear HRM
  go_upto_region 13 with (fail)
  have hb9 : Below w8.heap.size w8 (w8.alloc (.cells #[.slice Z1 x.length z1, .slice Z3 z.length z3, .slice Z2 y.length z2] 41)) := below_alloc _ (Nat.le_refl _) (Below.refl _ _)
  have u0 : (w8.alloc (.cells #[.slice Z1 x.length z1, .slice Z3 z.length z3, .slice Z2 y.length z2] 41)).cell? ⟨w8.heap.size, 0, none⟩ = some (.slice Z1 x.length z1) := cell_new (by simp) rfl
  have u1 : (w8.alloc (.cells #[.slice Z1 x.length z1, .slice Z3 z.length z3, .slice Z2 y.length z2] 41)).cell? ⟨w8.heap.size, 1, none⟩ = some (.slice Z3 z.length z3) := cell_new (by simp) rfl
  have u2 : (w8.alloc (.cells #[.slice Z1 x.length z1, .slice Z3 z.length z3, .slice Z2 y.length z2] 41)).cell? ⟨w8.heap.size, 2, none⟩ = some (.slice Z2 y.length z2) := cell_new (by simp) rfl
  have zu : w8.heap.size < (w8.alloc (.cells #[.slice Z1 x.length z1, .slice Z3 z.length z3, .slice Z2 y.length z2] 41)).heap.size := World.block_lt_of_cell? _ _ u0
  generalize (w8.alloc (.cells #[.slice Z1 x.length z1, .slice Z3 z.length z3, .slice Z2 y.length z2] 41)) = w9 at *
  replace hr0 := hr0.below hb9
  replace hLx := hLx.below hb9
  replace rz := rz.below hb9
  have h10 : Below w.heap.size w w9 := (h9).trans ((hb9).mono (h9).size)
  replace a0 := cell_below' hb9 a0
  replace a1 := cell_below' hb9 a1
  replace a2 := cell_below' hb9 a2
  replace za := Nat.lt_of_lt_of_le za (hb9).size
  replace r0 := cell_below' hb9 r0
  replace r1 := cell_below' hb9 r1
  replace r2 := cell_below' hb9 r2
  replace zr := Nat.lt_of_lt_of_le zr (hb9).size
  replace rp := RowsAt.below rp hb9
  clear hb9 h9
  have HS := Lib.hid (SameLink_refl D1 f1 D2 f2 D3 f3 Z1 z1 Z2 z2 Z3 z3 ⟨x, z, y⟩ _ (by simp only; omega) (by simp only; omega) (by simp only; omega) hLx rz)
  simp only [LnkV] at HS
  clear rz hLx
  go_wp2_with (fail)
  refine HS.out.mono ?_
  rintro e w10 ⟨rfl, hb10⟩
  replace hr0 := hr0.below hb10
  have h11 : Below w.heap.size w w10 := (h10).trans ((hb10).mono (h10).size)
  replace a0 := cell_below' hb10 a0
  replace a1 := cell_below' hb10 a1
  replace a2 := cell_below' hb10 a2
  replace za := Nat.lt_of_lt_of_le za (hb10).size
  replace rp := RowsAt.below rp hb10
  clear hb10 h10
  go_wp2_with (fail)
  refine (HRP.out _ hr0).mono ?_
  rintro e w11 ⟨P2, p2, rfl, rp2, hb11⟩
  have h12 : Below w.heap.size w w11 := (h11).trans ((hb11).mono (h11).size)
  replace a0 := cell_below' hb11 a0
  replace a1 := cell_below' hb11 a1
  replace a2 := cell_below' hb11 a2
  replace za := Nat.lt_of_lt_of_le za (hb11).size
  replace rp := RowsAt.below rp hb11
  clear hb11 h11
  go_wp2_with (fail)
  refine (HTX.out P1 P2 p1 p2 _ rp rp2).mono ?_
  rintro e w12 ⟨rfl, hb12⟩
  have h13 := h12.trans (hb12.mono h12.size)
  go_wp2_with (fail)
  go_ret
  exact ⟨rfl, h13⟩
end Go.Proofs.Ytcfbnmcdncndpaa
