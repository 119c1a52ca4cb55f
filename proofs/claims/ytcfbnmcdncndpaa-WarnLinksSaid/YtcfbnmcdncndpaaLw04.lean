/-
  WarnRuns: the walk.
-/
import Derived.Test.YtcfbnmcdncndpaaWRRn
import Derived.Test.YtcfbnmcdncndpaaLwAo
namespace Go.Proofs.Ytcfbnmcdncndpaa
open Go.ChangeShapes Go.WideShapes Go.ChangeAt Go.RowKit
set_option linter.unusedVariables false
set_option linter.unusedSimpArgs false

theorem VLk.z : VLk Lz := ⟨⟨List.Pairwise.nil, List.Pairwise.nil, by simp [Lz], by simp [Lz], by simp [Lz]⟩, fun m hm => (by cases hm), fun m hm => (by cases hm), fun m hm => (by cases hm)⟩
theorem runGo_ok : ∀ (l : List Mv) (L : Lnk) (k : Nat), VLk L → VLk (runGo l L k).1
  | [], L, k, h => h
  | mv :: r, L, k, h => by
    rw [runGo]
    split
    · exact runGo_ok r _ _ h.move
    · exact VLk.z
theorem runR_ok {L : Lnk} (l : List Mv) (h : VLk L) : VLk (runR L l).1 := by
  unfold runR
  split
  · exact runGo_ok l L 0 h
  · exact VLk.z
theorem runL_runR {L : Lnk} (l : List Mv) (hE : lnkE L = 0) : runL L l = runR L l := by
  have h : runE0 L l.length = firstE [lnkE L, unl (decide (l.length ≤ 200)) 8] := rfl
  rw [hE] at h
  unfold runL runR
  by_cases h2 : l.length ≤ 200
  · rw [decide_eq_true h2] at h
    rw [h.trans (show firstE [0, unl true 8] = 0 from rfl), if_pos rfl, if_pos h2]
  · rw [decide_eq_false h2] at h
    rw [h.trans (show firstE [0, unl false 8] = 8 from rfl), if_neg h2, if_neg (by decide)]
theorem runL_err {L : Lnk} (l : List Mv) (hE : lnkE L ≠ 0) : runL L l = (Lz, 0, lnkE L) := by
  have h : runE0 L l.length = firstE [lnkE L, unl (decide (l.length ≤ 200)) 8] := rfl
  have h2 : runE0 L l.length = lnkE L := by
    rw [h]
    simp [firstE, hE]
  unfold runL
  rw [h2, if_neg hE]
theorem SameLink_z (A1 : Option Addr) (c1 : Nat) (A2 : Option Addr) (c2 : Nat) (A3 : Option Addr) (c3 : Nat) (w : World) :
    Calls Try.prog 31 #[.agg #[.slice A1 0 c1, .slice A3 0 c3, .slice A2 0 c2], .agg #[.slice none 0 0, .slice none 0 0, .slice none 0 0]] w fun e w' => e = .returned (.bool true) ∧ Below w.heap.size w w' :=
  SameLink_refl A1 c1 A2 c2 A3 c3 none 0 none 0 none 0 Lz w (by simp [Lz]) (by simp [Lz]) (by simp [Lz]) ⟨RowsAt.nil, RowsAt.nil, RowsAt.nil⟩ ⟨RowsAt.nil, RowsAt.nil, RowsAt.nil⟩
theorem RunOf_err (A1 : Option Addr) (c1 : Nat) (A2 : Option Addr) (c2 : Nat) (A3 : Option Addr) (c3 : Nat) (L : Lnk) (A : Option Addr) (l : List Mv) (cap : Nat) (w : World) (hf : FewL L) (hR : LnkR A1 A2 A3 L w) (hl : l.length ≤ 300) (hn : ∀ x ∈ l, x.m.s.size ≤ 1000) (hA : MvsAt w A l) (hE : lnkE L ≠ 0) :
    Calls Try.prog 27 #[LnkV A1 c1 A2 c2 A3 c3 L, .slice A l.length cap] w fun e w' => (∃ Y1 y1 Y2 y2 Y3 y3, e = .returned (.tuple #[.agg #[.slice Y1 0 y1, .slice Y3 0 y3, .slice Y2 0 y2], .int .i64 0, .int .i64 (lnkE L)])) ∧ Below w.heap.size w w' := by
  refine (RunOf_any A1 c1 A2 c2 A3 c3 L A l cap w hf hR hl hn hA).mono ?_
  rintro e w' ⟨Y1, y1, Y2, y2, Y3, y3, rfl, -, hb⟩
  rw [runL_err l hE]
  exact ⟨⟨Y1, y1, Y2, y2, Y3, y3, rfl⟩, hb⟩
def ShortU (l : List Mv) (k : Nat) : Prop := ∀ x ∈ l.take k, x.m.s.size ≤ 30
theorem ShortU.zero (l : List Mv) : ShortU l 0 := fun x hx => by rw [List.take_zero] at hx; cases hx
theorem ShortU.snoc {l : List Mv} {k : Nat} (h : ShortU l k) (hk : k < l.length) (hs : l[k].m.s.size ≤ 30) : ShortU l (k + 1) := fun x hx => by
  rw [List.take_succ_eq_append_getElem hk] at hx
  rcases List.mem_append.1 hx with h1 | h1
  · exact h x h1
  · rw [List.mem_singleton] at h1; rw [h1]; exact hs
theorem ShortU.all {l : List Mv} {k : Nat} (h : ShortU l k) (hk : l.length ≤ k) : ∀ x ∈ l, x.m.s.size ≤ 1000 := fun x hx => by
  have := h x (by rw [List.take_of_length_le hk]; exact hx)
  omega
def skipR (sb : Bool) (n : Nat) : Bool := !sb || ((decide ((60 : Int) < (n : Int)) && decide ((n : Int) ≤ 200)) || decide ((202 : Int) < (n : Int)))
theorem skipR_false {sb : Bool} {n : Nat} (h : skipR sb n = false) : sb = true ∧ n ≤ 202 := by
  unfold skipR at h
  rw [Bool.or_eq_false_iff, Bool.or_eq_false_iff] at h
  obtain ⟨h1, h2, h3⟩ := h
  exact ⟨by simpa using h1, by simp at h3; omega⟩
set_option maxRecDepth 100000 in
set_option maxHeartbeats 8000000 in
theorem WarnRuns_any (A1 : Option Addr) (c1 : Nat) (A2 : Option Addr) (c2 : Nat) (A3 : Option Addr) (c3 : Nat) (L : Lnk) (A : Option Addr) (l : List Mv) (ca : Nat) (w : World) (hR : LnkR A1 A2 A3 L w) (hA : MvsAt w A l) :
    Calls Try.prog 4 #[LnkV A1 c1 A2 c2 A3 c3 L, .slice A l.length ca] w fun e w' => e = .returned (.bool true) ∧ Below w.heap.size w w' := by
  go_enter Try.func4, Try.ntmps4
  go_wp2_with (fail)
  have hb0 : Below w.heap.size w (w.alloc (.cells #[.slice A1 L.box.length c1, .slice A3 L.wire.length c3, .slice A2 L.store.length c2] 41)) := below_alloc _ (Nat.le_refl _) (Below.refl _ _)
  have a0 : (w.alloc (.cells #[.slice A1 L.box.length c1, .slice A3 L.wire.length c3, .slice A2 L.store.length c2] 41)).cell? ⟨w.heap.size, 0, none⟩ = some (.slice A1 L.box.length c1) := cell_new (by simp) rfl
  have a1 : (w.alloc (.cells #[.slice A1 L.box.length c1, .slice A3 L.wire.length c3, .slice A2 L.store.length c2] 41)).cell? ⟨w.heap.size, 1, none⟩ = some (.slice A3 L.wire.length c3) := cell_new (by simp) rfl
  have a2 : (w.alloc (.cells #[.slice A1 L.box.length c1, .slice A3 L.wire.length c3, .slice A2 L.store.length c2] 41)).cell? ⟨w.heap.size, 2, none⟩ = some (.slice A2 L.store.length c2) := cell_new (by simp) rfl
  have za : w.heap.size < (w.alloc (.cells #[.slice A1 L.box.length c1, .slice A3 L.wire.length c3, .slice A2 L.store.length c2] 41)).heap.size := World.block_lt_of_cell? _ _ a0
  generalize (w.alloc (.cells #[.slice A1 L.box.length c1, .slice A3 L.wire.length c3, .slice A2 L.store.length c2] 41)) = w0 at *
  have hr0 := hR.below hb0
  have hA0 := RowsAt.below hA hb0
  clear hR hA
  refine (awake_any _).mono ?_
  rintro e w1 ⟨rfl, hb1⟩
  replace hr0 := hr0.below hb1
  have h1 : Below w.heap.size w w1 := (hb0).trans ((hb1).mono (hb0).size)
  replace a0 := cell_below' hb1 a0
  replace a1 := cell_below' hb1 a1
  replace a2 := cell_below' hb1 a2
  replace za := Nat.lt_of_lt_of_le za (hb1).size
  replace hA0 := RowsAt.below hA0 hb1
  clear hb1 hb0
  have HSM := Lib.hid (fun W (h : LnkR A1 A2 A3 L W) => small_any A1 c1 A2 c2 A3 c3 L W h)
  have hst := fun h => smallL_true (L := L) h
  have HST := Lib.hid hst
  clear hst
  generalize smallL L = sb at *
  go_upto_region 3 with (fail)
  go_cut [32] from 15 to 31 (fun t wx => t = .bool (skipR sb l.length) ∧ Below w1.heap.size w1 wx)
  case first =>
    go_wp2_with (fail)
    refine (HSM.out _ hr0).mono ?_
    rintro e w2 ⟨rfl, hb2⟩
    have hsk : skipR sb l.length = (!sb || ((decide ((60 : Int) < (l.length : Int)) && decide ((l.length : Int) ≤ 200)) || decide ((202 : Int) < (l.length : Int)))) := rfl
    cases e60 : decide ((60 : Int) < (l.length : Int)) <;> cases e200 : decide ((l.length : Int) ≤ 200) <;> cases e202 : decide ((202 : Int) < (l.length : Int)) <;> cases sb
    all_goals
      rw [e60, e200, e202] at hsk
      have HSK := Lib.hid hsk
      clear hsk
      go_wp2_with (fail)
      go_meet
      exact ⟨by rw [HSK.out] <;> rfl, hb2⟩
  case rest =>
  obtain ⟨rfl, hbc⟩ := hcut
  replace hr0 := hr0.below hbc
  have h2 : Below w.heap.size w wc := (h1).trans ((hbc).mono (h1).size)
  replace a0 := cell_below' hbc a0
  replace a1 := cell_below' hbc a1
  replace a2 := cell_below' hbc a2
  replace za := Nat.lt_of_lt_of_le za (hbc).size
  replace hA0 := RowsAt.below hA0 hbc
  clear hbc h1
  by_cases hsk : skipR sb l.length = true
  · rw [hsk]
    clear HSM HST hsk
    go_wp2_with (fail)
    go_ret
    exact ⟨rfl, h2⟩
  have hsf : skipR sb l.length = false := by simpa using hsk
  obtain ⟨rfl, hl202⟩ := skipR_false hsf
  rw [hsf]
  have hsml := HST.out rfl
  have hl1 := hsml.l1
  have hl2 := hsml.l2
  have hl3 := hsml.l3
  have HSL := Lib.hid hsml
  clear HST HSM hsml hsk hsf
  have HCL := Lib.hid (fun W (h : LnkR A1 A2 A3 L W) => CopyLink_any A1 c1 A2 c2 A3 c3 L W (by omega) (by omega) (by omega) h)
  have HLE := Lib.hid (fun W (h : LnkR A1 A2 A3 L W) => LinkErr_any A1 c1 A2 c2 A3 c3 L W (by omega) (by omega) (by omega) h)
  go_wp2_with (fail)
  go_loop [5] (fun i => ∃ k : Nat, k ≤ l.length ∧ i = .int .i64 k ∧ ShortU l k) (fun i => l.length - (intOf i).toNat)
  case atStart => exact ⟨0, Nat.zero_le _, rfl, ShortU.zero l⟩
  case round =>
    obtain ⟨k, hk, rfl, hn⟩ := hrel
    have HN := Lib.hid hn
    clear hn
    by_cases hlt : k < l.length
    · obtain ⟨b1, o1, rfl, hb1', g0, g1, g2, g3, g4⟩ := MvsAt.at_ hA0 hlt
      have hs := HN.out.snoc hlt
      have HS := Lib.hid hs
      clear hs
      generalize l[k] = mv at *
      by_cases hp : mv.m.s.size ≤ 30
      · have e7 : decide ((30 : Int) < (mv.m.s.size : Int)) = false := by simp; omega
        have HN2 := Lib.hid (HS.out hp)
        clear hp HS
        go_wp2_with (fail)
        go_round
        case rel => exact ⟨k + 1, by omega, by go_num, HN2.out⟩
        case measure => simp [intOf]; omega
      · have e7 : decide ((30 : Int) < (mv.m.s.size : Int)) = true := by simp; omega
        clear hp HS
        go_wp2_with (fail)
        go_ret
        exact ⟨rfl, h2⟩
    · have HNM := Lib.hid (HN.out.all (by omega))
      have hkl : l.length ≤ k := by omega
      clear HN
      go_wp2_with (fail)
      refine (HCL.out _ hr0).mono ?_
      rintro e w3 ⟨B1, d1, B2, d2, B3, d3, rfl, rb, hb3⟩
      replace hr0 := hr0.below hb3
      have h3 : Below w.heap.size w w3 := (h2).trans ((hb3).mono (h2).size)
      replace a0 := cell_below' hb3 a0
      replace a1 := cell_below' hb3 a1
      replace a2 := cell_below' hb3 a2
      replace za := Nat.lt_of_lt_of_le za (hb3).size
      replace hA0 := RowsAt.below hA0 hb3
      clear hb3 h2
      go_wp2_with (fail)
      refine (CopyMoves_any A l ca _ (by omega) hA0).mono ?_
      rintro e w4 ⟨M2, e2, rfl, rm2, hb4⟩
      replace hr0 := hr0.below hb4
      replace rb := rb.below hb4
      have h4 : Below w.heap.size w w4 := (h3).trans ((hb4).mono (h3).size)
      replace a0 := cell_below' hb4 a0
      replace a1 := cell_below' hb4 a1
      replace a2 := cell_below' hb4 a2
      replace za := Nat.lt_of_lt_of_le za (hb4).size
      replace hA0 := RowsAt.below hA0 hb4
      clear hb4 h3
      by_cases hE : lnkE L = 0
      rotate_left 1
      · have HRO := Lib.hid (RunOf_err B1 d1 B2 d2 B3 d3 L M2 l e2 w4 HSL.out.few rb (by omega) HNM.out rm2 hE)
        have hE2 : (lnkE L != 0) = true := by simpa using hE
        have hE3 : (lnkE L == lnkE L) = true := by simp
        clear rb rm2 hE HSL HNM
        generalize lnkE L = E at *
        go_wp2_with (fail)
        refine HRO.out.mono ?_
        rintro e w5 ⟨⟨Y1, y1, Y2, y2, Y3, y3, rfl⟩, hb5⟩
        replace hr0 := hr0.below hb5
        have h5 : Below w.heap.size w w5 := (h4).trans ((hb5).mono (h4).size)
        replace a0 := cell_below' hb5 a0
        replace a1 := cell_below' hb5 a1
        replace a2 := cell_below' hb5 a2
        replace za := Nat.lt_of_lt_of_le za (hb5).size
        replace hA0 := RowsAt.below hA0 hb5
        clear hb5 h4
        clear HRO
        go_upto_region 11 with (fail)
        have hb6 : Below w5.heap.size w5 (w5.alloc (.cells #[.slice Y1 0 y1, .slice Y3 0 y3, .slice Y2 0 y2] 41)) := below_alloc _ (Nat.le_refl _) (Below.refl _ _)
        have v0 : (w5.alloc (.cells #[.slice Y1 0 y1, .slice Y3 0 y3, .slice Y2 0 y2] 41)).cell? ⟨w5.heap.size, 0, none⟩ = some (.slice Y1 0 y1) := cell_new (by simp) rfl
        have v1 : (w5.alloc (.cells #[.slice Y1 0 y1, .slice Y3 0 y3, .slice Y2 0 y2] 41)).cell? ⟨w5.heap.size, 1, none⟩ = some (.slice Y3 0 y3) := cell_new (by simp) rfl
        have v2 : (w5.alloc (.cells #[.slice Y1 0 y1, .slice Y3 0 y3, .slice Y2 0 y2] 41)).cell? ⟨w5.heap.size, 2, none⟩ = some (.slice Y2 0 y2) := cell_new (by simp) rfl
        have zv : w5.heap.size < (w5.alloc (.cells #[.slice Y1 0 y1, .slice Y3 0 y3, .slice Y2 0 y2] 41)).heap.size := World.block_lt_of_cell? _ _ v0
        generalize (w5.alloc (.cells #[.slice Y1 0 y1, .slice Y3 0 y3, .slice Y2 0 y2] 41)) = w6 at *
        replace hr0 := hr0.below hb6
        have h6 : Below w.heap.size w w6 := (h5).trans ((hb6).mono (h5).size)
        replace a0 := cell_below' hb6 a0
        replace a1 := cell_below' hb6 a1
        replace a2 := cell_below' hb6 a2
        replace za := Nat.lt_of_lt_of_le za (hb6).size
        clear hb6 h5
        go_wp2_with (fail)
        refine (HLE.out _ hr0).mono ?_
        rintro e w7 ⟨rfl, hb7⟩
        have h7 : Below w.heap.size w w7 := (h6).trans ((hb7).mono (h6).size)
        replace a0 := cell_below' hb7 a0
        replace a1 := cell_below' hb7 a1
        replace a2 := cell_below' hb7 a2
        replace za := Nat.lt_of_lt_of_le za (hb7).size
        replace v0 := cell_below' hb7 v0
        replace v1 := cell_below' hb7 v1
        replace v2 := cell_below' hb7 v2
        replace zv := Nat.lt_of_lt_of_le zv (hb7).size
        clear hb7 h6
        go_wp2_with (fail)
        refine (SameLink_z Y1 y1 Y2 y2 Y3 y3 _).mono ?_
        rintro e w8 ⟨rfl, hb8⟩
        have h8 := h7.trans (hb8.mono h7.size)
        go_wp2_with (fail)
        go_ret
        exact ⟨rfl, h8⟩
      have hv := VLk.of hE
      have HRO := Lib.hid (RunOf_any B1 d1 B2 d2 B3 d3 L M2 l e2 w4 HSL.out.few rb (by omega) HNM.out rm2)
      rw [runL_runR l hE] at HRO
      have HRR := Lib.hid (fun W (h : LnkR A1 A2 A3 L W) (hA : MvsAt W A l) => RRun_any A1 c1 A2 c2 A3 c3 L A l ca W h hv (by omega) hA)
      have hok := (runR_ok l hv).ok
      rw [hE] at HLE
      clear rb rm2 hE HSL HNM hv
      generalize runR L l = q at *
      obtain ⟨⟨x, z, y⟩, i, d⟩ := q
      have hx := hok.l1
      have hy := hok.l2
      have hz := hok.l3
      simp only at hx hy hz
      have hi2 : (i == i) = true := by simp
      have hd2 : (d == d) = true := by simp
      clear hok
      go_wp2_with (fail)
      refine HRO.out.mono ?_
      rintro e w5 ⟨Y1, y1, Y2, y2, Y3, y3, rfl, ry, hb5⟩
      simp only at ry
      replace hr0 := hr0.below hb5
      have h5 : Below w.heap.size w w5 := (h4).trans ((hb5).mono (h4).size)
      replace a0 := cell_below' hb5 a0
      replace a1 := cell_below' hb5 a1
      replace a2 := cell_below' hb5 a2
      replace za := Nat.lt_of_lt_of_le za (hb5).size
      replace hA0 := RowsAt.below hA0 hb5
      clear hb5 h4
      clear HRO
      go_upto_region 11 with (fail)
      have hb6 : Below w5.heap.size w5 (w5.alloc (.cells #[.slice Y1 x.length y1, .slice Y3 z.length y3, .slice Y2 y.length y2] 41)) := below_alloc _ (Nat.le_refl _) (Below.refl _ _)
      have v0 : (w5.alloc (.cells #[.slice Y1 x.length y1, .slice Y3 z.length y3, .slice Y2 y.length y2] 41)).cell? ⟨w5.heap.size, 0, none⟩ = some (.slice Y1 x.length y1) := cell_new (by simp) rfl
      have v1 : (w5.alloc (.cells #[.slice Y1 x.length y1, .slice Y3 z.length y3, .slice Y2 y.length y2] 41)).cell? ⟨w5.heap.size, 1, none⟩ = some (.slice Y3 z.length y3) := cell_new (by simp) rfl
      have v2 : (w5.alloc (.cells #[.slice Y1 x.length y1, .slice Y3 z.length y3, .slice Y2 y.length y2] 41)).cell? ⟨w5.heap.size, 2, none⟩ = some (.slice Y2 y.length y2) := cell_new (by simp) rfl
      have zv : w5.heap.size < (w5.alloc (.cells #[.slice Y1 x.length y1, .slice Y3 z.length y3, .slice Y2 y.length y2] 41)).heap.size := World.block_lt_of_cell? _ _ v0
      generalize (w5.alloc (.cells #[.slice Y1 x.length y1, .slice Y3 z.length y3, .slice Y2 y.length y2] 41)) = w6 at *
      replace hr0 := hr0.below hb6
      replace ry := ry.below hb6
      have h6 : Below w.heap.size w w6 := (h5).trans ((hb6).mono (h5).size)
      replace a0 := cell_below' hb6 a0
      replace a1 := cell_below' hb6 a1
      replace a2 := cell_below' hb6 a2
      replace za := Nat.lt_of_lt_of_le za (hb6).size
      replace hA0 := RowsAt.below hA0 hb6
      clear hb6 h5
      go_wp2_with (fail)
      refine (HLE.out _ hr0).mono ?_
      rintro e w7 ⟨rfl, hb7⟩
      replace hr0 := hr0.below hb7
      replace ry := ry.below hb7
      have h7 : Below w.heap.size w w7 := (h6).trans ((hb7).mono (h6).size)
      replace a0 := cell_below' hb7 a0
      replace a1 := cell_below' hb7 a1
      replace a2 := cell_below' hb7 a2
      replace za := Nat.lt_of_lt_of_le za (hb7).size
      replace v0 := cell_below' hb7 v0
      replace v1 := cell_below' hb7 v1
      replace v2 := cell_below' hb7 v2
      replace zv := Nat.lt_of_lt_of_le zv (hb7).size
      replace hA0 := RowsAt.below hA0 hb7
      clear hb7 h6
      go_wp2_with (fail)
      refine (HRR.out _ hr0 hA0).mono ?_
      rintro e w8 ⟨Z1, z1, Z2, z2, Z3, z3, rfl, rz, hb8⟩
      simp only at rz
      replace ry := ry.below hb8
      have h8 : Below w.heap.size w w8 := (h7).trans ((hb8).mono (h7).size)
      replace a0 := cell_below' hb8 a0
      replace a1 := cell_below' hb8 a1
      replace a2 := cell_below' hb8 a2
      replace za := Nat.lt_of_lt_of_le za (hb8).size
      replace v0 := cell_below' hb8 v0
      replace v1 := cell_below' hb8 v1
      replace v2 := cell_below' hb8 v2
      replace zv := Nat.lt_of_lt_of_le zv (hb8).size
      clear hb8 h7
      clear HRR HCL HLE hr0 hA0
      go_upto_region 15 with (fail)
      have hb9 : Below w8.heap.size w8 (w8.alloc (.cells #[.slice Z1 x.length z1, .slice Z3 z.length z3, .slice Z2 y.length z2] 41)) := below_alloc _ (Nat.le_refl _) (Below.refl _ _)
      have u0 : (w8.alloc (.cells #[.slice Z1 x.length z1, .slice Z3 z.length z3, .slice Z2 y.length z2] 41)).cell? ⟨w8.heap.size, 0, none⟩ = some (.slice Z1 x.length z1) := cell_new (by simp) rfl
      have u1 : (w8.alloc (.cells #[.slice Z1 x.length z1, .slice Z3 z.length z3, .slice Z2 y.length z2] 41)).cell? ⟨w8.heap.size, 1, none⟩ = some (.slice Z3 z.length z3) := cell_new (by simp) rfl
      have u2 : (w8.alloc (.cells #[.slice Z1 x.length z1, .slice Z3 z.length z3, .slice Z2 y.length z2] 41)).cell? ⟨w8.heap.size, 2, none⟩ = some (.slice Z2 y.length z2) := cell_new (by simp) rfl
      have zu : w8.heap.size < (w8.alloc (.cells #[.slice Z1 x.length z1, .slice Z3 z.length z3, .slice Z2 y.length z2] 41)).heap.size := World.block_lt_of_cell? _ _ u0
      generalize (w8.alloc (.cells #[.slice Z1 x.length z1, .slice Z3 z.length z3, .slice Z2 y.length z2] 41)) = w9 at *
      replace ry := ry.below hb9
      replace rz := rz.below hb9
      have h9 : Below w.heap.size w w9 := (h8).trans ((hb9).mono (h8).size)
      replace a0 := cell_below' hb9 a0
      replace a1 := cell_below' hb9 a1
      replace a2 := cell_below' hb9 a2
      replace za := Nat.lt_of_lt_of_le za (hb9).size
      replace v0 := cell_below' hb9 v0
      replace v1 := cell_below' hb9 v1
      replace v2 := cell_below' hb9 v2
      replace zv := Nat.lt_of_lt_of_le zv (hb9).size
      clear hb9 h8
      have HS := Lib.hid (SameLink_refl Y1 y1 Y2 y2 Y3 y3 Z1 z1 Z2 z2 Z3 z3 ⟨x, z, y⟩ _ (by simp only; omega) (by simp only; omega) (by simp only; omega) ry rz)
      simp only [LnkV] at HS
      clear ry rz
      go_wp2_with (fail)
      refine HS.out.mono ?_
      rintro e w10 ⟨rfl, hb10⟩
      have h10 := h9.trans (hb10.mono h9.size)
      go_wp2_with (fail)
      go_ret
      exact ⟨rfl, h10⟩
end Go.Proofs.Ytcfbnmcdncndpaa
