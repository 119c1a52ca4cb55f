/-
  Chapter 8: the reference's Events.
-/
import Derived.Test.YtcfbnmcdncndpaaWRsS
import Derived.Deep.DeepCutAuto
import Derived.Deep.CutBlock
namespace Go.Proofs.Ytcfbnmcdncndpaa
open Go.ChangeShapes Go.WideShapes Go.ChangeAt Go.RowKit
set_option linter.unusedVariables false
set_option linter.unusedSimpArgs false

def evK (u d : List Int) (hold : Int) (vs : List Int) (k : Nat) : List Ev := (chs u d hold 0 ⟨0, 0, 0⟩ (vs.take k)).map evOf
theorem evK_len (u d : List Int) (hold : Int) (vs : List Int) (k : Nat) : (evK u d hold vs k).length ≤ k := by
  unfold evK
  have := chs_len u d hold (vs.take k) 0 ⟨0, 0, 0⟩
  rw [List.length_take] at this
  rw [List.length_map]
  omega
theorem evK_end (u d : List Int) (hold : Int) (vs : List Int) : evK u d hold vs vs.length = evs u d hold vs := by
  unfold evK evs
  rw [List.take_length]
theorem evK_same {u d : List Int} {hold : Int} {vs : List Int} {k : Nat} (hk : k < vs.length) (h : (stepS u d hold (runS u d hold ⟨0, 0, 0⟩ (vs.take k)) vs[k]).v = (runS u d hold ⟨0, 0, 0⟩ (vs.take k)).v) : evK u d hold vs (k + 1) = evK u d hold vs k := by
  unfold evK
  rw [take_snoc' hk, chs_snoc, if_pos h, List.append_nil]
theorem evK_next {u d : List Int} {hold : Int} {vs : List Int} {k : Nat} (hk : k < vs.length) (h : (stepS u d hold (runS u d hold ⟨0, 0, 0⟩ (vs.take k)) vs[k]).v ≠ (runS u d hold ⟨0, 0, 0⟩ (vs.take k)).v) :
    evK u d hold vs (k + 1) = evK u d hold vs k ++ [⟨k, kindOf (runS u d hold ⟨0, 0, 0⟩ (vs.take k)).l (stepS u d hold (runS u d hold ⟨0, 0, 0⟩ (vs.take k)) vs[k]).l, (stepS u d hold (runS u d hold ⟨0, 0, 0⟩ (vs.take k)) vs[k]).l, (stepS u d hold (runS u d hold ⟨0, 0, 0⟩ (vs.take k)) vs[k]).v⟩] := by
  unfold evK
  rw [take_snoc' hk, chs_snoc, if_neg h, List.map_append, List.length_take, Nat.min_eq_left (by omega)]
  simp [evOf]
def EvsR (l : List Ev) (w : World) (e : Ending) (w' : World) : Prop := ∃ A' c', e = .returned (.slice A' l.length c') ∧ EvsAt w' A' l ∧ Below w.heap.size w w'
theorem own_at {w w' : World} {B : Nat} {e : TypeId} {size : Nat} {v : Value} {n : Nat} {xs : List Value} (h : w.ownsRow B e size v n xs) (hb : ∀ g o, v.ownBlock = some g → w.heap[g]? = some o → w'.heap[g]? = some o) : w'.ownsRow B e size v n xs := by
  obtain ⟨h1, h2⟩ := h
  refine ⟨h1, ?_⟩
  rcases h2 with h2 | ⟨g, cap, cur, hv, hg, hh, r⟩
  · exact Or.inl h2
  · exact Or.inr ⟨g, cap, cur, hv, hg, hb g _ (by rw [hv]; rfl) hh, r⟩
def REvI (w w0 : World) (u d : List Int) (hold : Int) (vs : List Int) (out i : Value) (wr : World) : Prop :=
  ∃ (k : Nat) (A' : Option Addr) (c' : Nat), k ≤ vs.length ∧ i = .int .i64 k ∧ out = .slice A' (evK u d hold vs k).length c' ∧ Below (w.heap.size + 1) w0 wr ∧ StaAt (w.heap.size + 1) (runS u d hold ⟨0, 0, 0⟩ (vs.take k)) wr ∧
    wr.ownsRow (w.heap.size + 1 + 1) 102 4 (.slice A' (evK u d hold vs k).length c') (evK u d hold vs k).length (cellsOf 4 evC (evK u d hold vs k))
set_option maxRecDepth 100000 in
set_option maxHeartbeats 4000000 in
theorem REvents_any (nm : ByteArray) (A : Option Addr) (u : List Int) (ca : Nat) (B : Option Addr) (d : List Int) (cb : Nat) (hold : Int) (V : Option Addr) (vs : List Int) (cv : Nat) (w : World) (ho : OkR nm u d hold) (hl : vs.length ≤ 1000) (hA : IntsAt w A u) (hB : IntsAt w B d) (hV : IntsAt w V vs) :
    Calls Try.prog 42 #[.agg #[.string nm, .slice A u.length ca, .slice B d.length cb, .int .i64 hold], .slice V vs.length cv] w (EvsR (evs u d hold vs) w) := by
  have HO := Lib.hid ho
  clear ho
  obtain ⟨i0, hi0, hz0', hz1', hz2'⟩ := infoEv_
  have HI := Lib.hid hi0
  have HZ0 := Lib.hid hz0'
  have HZ1 := Lib.hid hz1'
  have HZ2 := Lib.hid hz2'
  clear hi0 hz0' hz1' hz2'
  go_enter Try.func42, Try.ntmps42
  go_wp2_with (fail)
  have hs0 : ((w.alloc (.cells #[.string nm, .slice A u.length ca, .slice B d.length cb, .int .i64 hold] 24)).alloc (.cells #[.int .i64 0, .int .i64 0, .int .i64 0] 61)).heap.size = w.heap.size + 1 + 1 := by simp
  have hb0 : Below w.heap.size w ((w.alloc (.cells #[.string nm, .slice A u.length ca, .slice B d.length cb, .int .i64 hold] 24)).alloc (.cells #[.int .i64 0, .int .i64 0, .int .i64 0] 61)) := below_alloc _ (Nat.le_refl _) (below_alloc _ (Nat.le_refl _) (Below.refl _ _))
  have x0 : ((w.alloc (.cells #[.string nm, .slice A u.length ca, .slice B d.length cb, .int .i64 hold] 24)).alloc (.cells #[.int .i64 0, .int .i64 0, .int .i64 0] 61)).cell? ⟨w.heap.size, 0, none⟩ = some (.string nm) := cell_alloc _ (cell_new (by simp) rfl)
  have x1 : ((w.alloc (.cells #[.string nm, .slice A u.length ca, .slice B d.length cb, .int .i64 hold] 24)).alloc (.cells #[.int .i64 0, .int .i64 0, .int .i64 0] 61)).cell? ⟨w.heap.size, 1, none⟩ = some (.slice A u.length ca) := cell_alloc _ (cell_new (by simp) rfl)
  have x2 : ((w.alloc (.cells #[.string nm, .slice A u.length ca, .slice B d.length cb, .int .i64 hold] 24)).alloc (.cells #[.int .i64 0, .int .i64 0, .int .i64 0] 61)).cell? ⟨w.heap.size, 2, none⟩ = some (.slice B d.length cb) := cell_alloc _ (cell_new (by simp) rfl)
  have x3 : ((w.alloc (.cells #[.string nm, .slice A u.length ca, .slice B d.length cb, .int .i64 hold] 24)).alloc (.cells #[.int .i64 0, .int .i64 0, .int .i64 0] 61)).cell? ⟨w.heap.size, 3, none⟩ = some (.int .i64 hold) := cell_alloc _ (cell_new (by simp) rfl)
  have zx : w.heap.size < ((w.alloc (.cells #[.string nm, .slice A u.length ca, .slice B d.length cb, .int .i64 hold] 24)).alloc (.cells #[.int .i64 0, .int .i64 0, .int .i64 0] 61)).heap.size := World.block_lt_of_cell? _ _ x0
  have y0 : ((w.alloc (.cells #[.string nm, .slice A u.length ca, .slice B d.length cb, .int .i64 hold] 24)).alloc (.cells #[.int .i64 0, .int .i64 0, .int .i64 0] 61)).cell? ⟨w.heap.size + 1, 0, none⟩ = some (.int .i64 0) := cell_new (by simp) rfl
  have yf0 : ((w.alloc (.cells #[.string nm, .slice A u.length ca, .slice B d.length cb, .int .i64 hold] 24)).alloc (.cells #[.int .i64 0, .int .i64 0, .int .i64 0] 61)).frozen? ⟨w.heap.size + 1, 0, none⟩ = false := frozen_new (by simp)
  have y1 : ((w.alloc (.cells #[.string nm, .slice A u.length ca, .slice B d.length cb, .int .i64 hold] 24)).alloc (.cells #[.int .i64 0, .int .i64 0, .int .i64 0] 61)).cell? ⟨w.heap.size + 1, 1, none⟩ = some (.int .i64 0) := cell_new (by simp) rfl
  have yf1 : ((w.alloc (.cells #[.string nm, .slice A u.length ca, .slice B d.length cb, .int .i64 hold] 24)).alloc (.cells #[.int .i64 0, .int .i64 0, .int .i64 0] 61)).frozen? ⟨w.heap.size + 1, 1, none⟩ = false := frozen_new (by simp)
  have y2 : ((w.alloc (.cells #[.string nm, .slice A u.length ca, .slice B d.length cb, .int .i64 hold] 24)).alloc (.cells #[.int .i64 0, .int .i64 0, .int .i64 0] 61)).cell? ⟨w.heap.size + 1, 2, none⟩ = some (.int .i64 0) := cell_new (by simp) rfl
  have yf2 : ((w.alloc (.cells #[.string nm, .slice A u.length ca, .slice B d.length cb, .int .i64 hold] 24)).alloc (.cells #[.int .i64 0, .int .i64 0, .int .i64 0] 61)).frozen? ⟨w.heap.size + 1, 2, none⟩ = false := frozen_new (by simp)
  have zy : w.heap.size + 1 < ((w.alloc (.cells #[.string nm, .slice A u.length ca, .slice B d.length cb, .int .i64 hold] 24)).alloc (.cells #[.int .i64 0, .int .i64 0, .int .i64 0] 61)).heap.size := World.block_lt_of_cell? _ _ y0
  generalize ((w.alloc (.cells #[.string nm, .slice A u.length ca, .slice B d.length cb, .int .i64 hold] 24)).alloc (.cells #[.int .i64 0, .int .i64 0, .int .i64 0] 61)) = w0 at *
  have hsz0 : w0.heap.size = w.heap.size + 1 + 1 := hs0
  have hI0 : REvI w w0 u d hold vs (.slice none 0 0) (.int .i64 0) w0 := ⟨0, none, 0, Nat.zero_le _, rfl, rfl, Below.refl _ _, ⟨y0, y1, y2, yf0, yf1, yf2⟩, World.ownsRow_nil _ _ _ _⟩
  have hru0 : RulAt w.heap.size nm A u.length ca B d.length cb hold w0 := ⟨x0, x1, x2, x3⟩
  have HZ := Lib.hid hsz0
  clear x0 x1 x2 x3 y0 y1 y2 yf0 yf1 yf2 zx zy hs0 hsz0
  go_loopw [5, 7] (fun o i wr => REvI w w0 u d hold vs o i wr) (fun _ i _ => vs.length - (intOf i).toNat)
  case atStart => exact hI0
  case round =>
    obtain ⟨k, A', c', hk, rfl, rfl, hbr, hst, hown⟩ := hrel
    have hzr := hbr.size
    rw [HZ.out] at hzr
    have hbw : Below w.heap.size w wr := hb0.trans (hbr.mono (by omega))
    have hru : RulAt w.heap.size nm A u.length ca B d.length cb hold wr := ⟨cell_below hbr hru0.c0 (by simp), cell_below hbr hru0.c1 (by simp), cell_below hbr hru0.c2 (by simp), cell_below hbr hru0.c3 (by simp)⟩
    have hok := (runS_ok HO.out (vs.take k)).okS HO.out.h1 (by rw [List.length_take]; omega)
    have hbh := (runS_ok HO.out (vs.take k)).b1
    have hel := evK_len u d hold vs k
    by_cases hlt : k < vs.length
    · have hsn : runS u d hold ⟨0, 0, 0⟩ (vs.take (k + 1)) = stepS u d hold (runS u d hold ⟨0, 0, 0⟩ (vs.take k)) vs[k] := by rw [take_snoc' hlt, runS_snoc]
      have hs1 := fun h => evK_same (u := u) (d := d) (hold := hold) hlt h
      have hs2 := fun h => evK_next (u := u) (d := d) (hold := hold) hlt h
      have hver := step_ver u d hold (runS u d hold ⟨0, 0, 0⟩ (vs.take k)) vs[k] hok.l0
      rw [← hsn] at hs1 hs2 hver
      have HSN := Lib.hid hsn
      have HS1 := Lib.hid hs1
      have HS2 := Lib.hid hs2
      have HVER := Lib.hid hver
      obtain ⟨bb, off, rfl, hb, h1⟩ := IntsAt.at_ (hV.below hbw) hlt
      clear hsn hs1 hs2 hver
      generalize vs[k] = x at *
      generalize hE1 : evK u d hold vs (k + 1) = E' at *
      have HE1 := Lib.hid hE1
      clear hE1
      generalize evK u d hold vs k = E at *
      generalize hT : runS u d hold ⟨0, 0, 0⟩ (vs.take (k + 1)) = T at *
      have HT := Lib.hid hT
      clear hT
      generalize runS u d hold ⟨0, 0, 0⟩ (vs.take k) = S at *
      obtain ⟨l, b, v⟩ := S
      simp only at HS1 HS2 HVER
      have hA1 := hA.below hbw
      have hB1 := hB.below hbw
      have HSTEP := Lib.hid (fun W (hA' : IntsAt W A u) (hB' : IntsAt W B d) => RStep_any nm A u ca B d cb hold l b v x W HO.out hok hbh hA' hB')
      rw [← HSN.out] at HSTEP
      clear HSN hok hbh
      obtain ⟨x0, x1, x2, x3⟩ := id hru
      obtain ⟨y0, y1, y2, yf0, yf1, yf2⟩ := id hst
      have zx := hru.lt
      have zy := hst.lt
      go_wp2_with (fail)
      (refine region_alloc (T := ?_) (obj := (.cells #[.int .i64 0, .int .i64 0, .int .i64 0] 61)) (val := (fun nb => .pointer (some ⟨nb, 0, none⟩))) 7 8 (by kernel_rfl) (by kernel_rfl) rfl rfl rfl (Nat.le_of_ble_eq_true rfl) ?_ ?_ ?_; rotate_left 1)
      focus (intro W0 hB0 hx; simp only [List.take_succ_cons, List.take_zero]; (repeat (any_goals (first | go_big_quiet_step ((go_at_call 45; exact ext_call (HSTEP.out _ (RowsAt.below hA1 (hB0.trans ((ext_bel _ _).mono hB0.size))) (RowsAt.below hB1 (hB0.trans ((ext_bel _ _).mono hB0.size)))))) | quiet_step ((go_at_call 45; exact ext_call (HSTEP.out _ (RowsAt.below hA1 (hB0.trans ((ext_bel _ _).mono hB0.size))) (RowsAt.below hB1 (hB0.trans ((ext_bel _ _).mono hB0.size))))))))); refine wpQuiet_nil ?_; exact rfl)
      focus (intro W; go_simp; done)
      (intro W0 w3 hB0 hB1; obtain ⟨hbw3, hnw3, hsw3, hkw3⟩ := alloc_out hB0 hB1; clear hB0 hB1; simp only [List.drop_succ_cons, List.drop_zero]; generalize W0.heap.size = nb at *; clear W0)
      have hst3 := hst.below hbw3
      have hown3 := own_below hown hbw3
      have hbr3 : Below (w.heap.size + 1) w0 w3 := hbr.trans (hbw3.mono (by omega))
      have hg1 : some nb ≠ Value.ownBlock (.slice A' E.length c') := fun e => by have := (hown.lt _ e.symm).2; omega
      have hg2 : some (w.heap.size + 1) ≠ Value.ownBlock (.slice A' E.length c') := fun e => by have := (hown.lt _ e.symm).1; omega
      clear x0 x1 x2 x3 y0 y1 y2 yf0 yf1 yf2 zx zy hst hru hown hA1 hB1 HSTEP hbw
      obtain ⟨y0, y1, y2, yf0, yf1, yf2⟩ := id hst3
      have zy := hst3.lt
      have zn : nb < w3.heap.size := hsw3
      have k0 : w3.cell? ⟨nb, 0, none⟩ = some (.int .i64 0) := blk_cell hkw3 rfl
      have k1 : w3.cell? ⟨nb, 1, none⟩ = some (.int .i64 0) := blk_cell hkw3 rfl
      have k2 : w3.cell? ⟨nb, 2, none⟩ = some (.int .i64 0) := blk_cell hkw3 rfl
      have f0 : w3.frozen? ⟨nb, 0, none⟩ = false := blk_frozen hkw3
      have f1 : w3.frozen? ⟨nb, 1, none⟩ = false := blk_frozen hkw3
      have f2 : w3.frozen? ⟨nb, 2, none⟩ = false := blk_frozen hkw3
      have hnby : nb ≠ w.heap.size + 1 := by omega
      have hnbb : w.heap.size + 1 ≤ nb := by omega
      have hwb : w.heap.size + 1 + 1 ≤ w3.heap.size := by omega
      clear hkw3
      go_upto_region 7 with (fail)
      obtain ⟨s0, s1, s2⟩ := set3 (v0 := .int .i64 T.l) (v1 := .int .i64 T.b) (v2 := .int .i64 T.v) k0 k1 k2
      have hst4 : StaAt (w.heap.size + 1) ⟨l, b, v⟩ (((w3.setCell ⟨nb, 0, none⟩ (.int .i64 T.l)).setCell ⟨nb, 1, none⟩ (.int .i64 T.b)).setCell ⟨nb, 2, none⟩ (.int .i64 T.v)) := ((hst3.far hnby).far hnby).far hnby
      have hown4 := own_at (w' := (((w3.setCell ⟨nb, 0, none⟩ (.int .i64 T.l)).setCell ⟨nb, 1, none⟩ (.int .i64 T.b)).setCell ⟨nb, 2, none⟩ (.int .i64 T.v))) hown3 (fun g o hg h => blk_far _ (fun e => hg1 (by rw [hg, e])) (blk_far _ (fun e => hg1 (by rw [hg, e])) (blk_far _ (fun e => hg1 (by rw [hg, e])) h)))
      have hbr4 : Below (w.heap.size + 1) w0 (((w3.setCell ⟨nb, 0, none⟩ (.int .i64 T.l)).setCell ⟨nb, 1, none⟩ (.int .i64 T.b)).setCell ⟨nb, 2, none⟩ (.int .i64 T.v)) := below_set _ hnbb (below_set _ hnbb (below_set _ hnbb hbr3))
      have hz4 : w3.heap.size ≤ (((w3.setCell ⟨nb, 0, none⟩ (.int .i64 T.l)).setCell ⟨nb, 1, none⟩ (.int .i64 T.b)).setCell ⟨nb, 2, none⟩ (.int .i64 T.v)).heap.size := by simp
      clear hst3 hown3 hbr3 y0 y1 y2 yf0 yf1 yf2 k0 k1 k2 f0 f1 f2
      generalize (((w3.setCell ⟨nb, 0, none⟩ (.int .i64 T.l)).setCell ⟨nb, 1, none⟩ (.int .i64 T.b)).setCell ⟨nb, 2, none⟩ (.int .i64 T.v)) = W at *
      obtain ⟨y0, y1, y2, yf0, yf1, yf2⟩ := id hst4
      replace zy := hst4.lt
      replace zn : nb < W.heap.size := by omega
      by_cases hv : T.v = v
      · have hTl : T.l = l := by
          rcases HVER.out with h | h
          · exact h.2
          · omega
        have e1 : (T.l != l) = false := by simpa using hTl
        have hE := HS1.out hv
        subst hE
        clear hv hTl HS1 HS2 HVER
        go_wp2_with (fail)
        go_roundw
        case rel =>
          exact ⟨k + 1, A', c', by omega, by go_num, by rw [HE1.out], below_set _ (Nat.le_refl _) (below_set _ (Nat.le_refl _) (below_set _ (Nat.le_refl _) hbr4)), by rw [HT.out]; exact StaAt.put hst4, by rw [HE1.out]; exact own_at hown4 (fun g o hg h => blk_far _ (fun e => hg2 (by rw [hg, e])) (blk_far _ (fun e => hg2 (by rw [hg, e])) (blk_far _ (fun e => hg2 (by rw [hg, e])) h)))⟩
        case measure => simp [intOf]; omega
      · have hTl : T.l ≠ l := by
          rcases HVER.out with h | h
          · exact absurd h.1 hv
          · exact h.2
        have e1 : (T.l != l) = true := by simpa using hTl
        have hE := HS2.out hv
        clear hv HS1 HS2 HVER
        have HE := Lib.hid hE
        clear hE
        go_upto_block 2 with (fail)
        go_cut [9] from 28 to 41 (fun s wx => s = .int .i64 (kindOf l T.l) ∧ W = wx)
        case first =>
          by_cases hl0 : l = 0
          · have hk : kindOf l T.l = 0 := kindOf_zero.2 hl0
            have e2 : (l == 0) = true := by simpa using hl0
            clear hl0 hTl
            go_wp2_with (fail)
            go_meet
            case rel => exact ⟨by rw [hk], rfl⟩
          · have e2 : (l == 0) = false := by simpa using hl0
            by_cases ht0 : T.l = 0
            · have hk : kindOf l T.l = 3 := by unfold kindOf; rw [if_neg hl0, if_pos ht0]
              have e3 : (T.l == 0) = true := by simpa using ht0
              clear hl0 ht0 hTl
              go_wp2_with (fail)
              go_meet
              case rel => exact ⟨by rw [hk], rfl⟩
            · have e3 : (T.l == 0) = false := by simpa using ht0
              by_cases hlt2 : l < T.l
              · have hk : kindOf l T.l = 1 := by unfold kindOf; rw [if_neg hl0, if_neg ht0, if_pos hlt2]
                clear hl0 ht0 hTl
                go_wp2_with (fail)
                go_meet
                case rel => exact ⟨by rw [hk], rfl⟩
              · have hk : kindOf l T.l = 2 := by unfold kindOf; rw [if_neg hl0, if_neg ht0, if_neg hlt2]
                have e4 : decide (l < T.l) = false := by simpa using hlt2
                clear hl0 ht0 hTl
                go_wp2_with (fail)
                go_meet
                case rel => exact ⟨by rw [hk], rfl⟩
        case rest =>
        obtain ⟨rfl, rfl⟩ := hcut
        generalize kindOf l T.l = K at *
        have HWN := Lib.hid hown4
        clear hown4 hTl
        go_wp2_with (at_builtin; (refine wpList_append_rows _ rfl (.tmp 42) (.tmp 50) 65 rfl (w.heap.size + 1 + 1) 102 i0 (.agg #[.int .i64 0, .int .i64 0, .int .i64 0, .int .i64 0]) 4 32 Try.underlying65 HI.out HZ0.out HZ1.out HZ2.out rfl (by decide) A' E.length c' (cellsOf 4 evC E) rfl (World.ownsRow.alloc HWN.out _) (some ⟨_, 0, none⟩) 1 1 [.int .i64 k, .int .i64 K, .int .i64 T.l, .int .i64 T.v] rfl rfl (fun h => by cases h) (fun ad h => by cases h; exact newsE (e := ⟨k, K, T.l, T.v⟩) (blk_new rfl)) (fun u hu => by simp at hu; rcases hu with rfl | rfl | rfl | rfl <;> rfl) (by unfold maxLen; omega) (by omega) (by simp; omega) ?_; intro A2' c2' w4 q1 q2 q3; have n0 := cell_grown q2 (cell_alloc _ s0) hg1; have n1 := cell_grown q2 (cell_alloc _ s1) hg1; have n2 := cell_grown q2 (cell_alloc _ s2) hg1; have hst5 : StaAt (w.heap.size + 1) ⟨l, b, v⟩ w4 := hst4.of_block ((q2.block _ (by simp; omega) hg2).trans (Below.heap_alloc _ _ _ hst4.lt)); obtain ⟨m0, m1, m2, mf0, mf1, mf2⟩ := id hst5))
        have hbr5 : Below (w.heap.size + 1) w0 w4 := below_own (below_alloc _ (by rw [HZ.out]; omega) hbr4) q2 (World.ownsRow.alloc HWN.out _) (by omega) (by simp; omega)
        have hL : (E ++ [(⟨k, K, T.l, T.v⟩ : Ev)]).length = E.length + 1 := by simp
        have hg5 : some (w.heap.size + 1) ≠ Value.ownBlock (.slice A2' (E.length + 1) c2') := fun e => by have := (q1.lt _ e.symm).1; omega
        go_roundw
        case rel =>
          exact ⟨k + 1, A2', c2', by omega, by go_num, by rw [HE1.out, HE.out, hL], below_set _ (Nat.le_refl _) (below_set _ (Nat.le_refl _) (below_set _ (Nat.le_refl _) hbr5)), by rw [HT.out]; exact StaAt.put hst5, by rw [HE1.out, HE.out, hL, cellsOf_append]; exact own_at q1 (fun g o hg h => blk_far _ (fun e => hg5 (by rw [hg, e])) (blk_far _ (fun e => hg5 (by rw [hg, e])) (blk_far _ (fun e => hg5 (by rw [hg, e])) h)))⟩
        case measure => simp [intOf]; omega
    · obtain rfl : k = vs.length := by omega
      have he := evK_end u d hold vs
      have HEE := Lib.hid he
      rw [he] at hown
      clear he
      go_wp2_with (fail)
      go_ret
      exact ⟨A', c', ret_eq (show Value.slice A' (evK u d hold vs vs.length).length c' = _ by rw [HEE.out]), rowsAt_of_own hown rfl (by decide), hbw⟩
end Go.Proofs.Ytcfbnmcdncndpaa
