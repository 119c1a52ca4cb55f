/-
  WarnFlushed: the walk.
-/
import Derived.Test.YtcfbnmcdncndpaaWFlu
import Derived.Test.YtcfbnmcdncndpaaLwAo
namespace Go.Proofs.Ytcfbnmcdncndpaa
open Go.ChangeShapes Go.WideShapes Go.ChangeAt Go.RowKit
set_option linter.unusedVariables false
set_option linter.unusedSimpArgs false

theorem flush_small {L : Lnk} {S : List Msg} (hs : SmlL L) (hE : lnkE L = 0) (hg : flushG L.box L.store = some S) : smallL ⟨[], [], S⟩ = true ∧ lnkE ⟨[], [], S⟩ = 0 ∧ Srt S ∧ S.length ≤ 30 ∧ ∀ m ∈ L.box, Cov S m := by
  obtain ⟨⟨m1, s1, l1⟩, ⟨m2, s2, l2⟩, l3⟩ := lnkE_parts hE
  obtain ⟨a, b, c, d, e⟩ := flushG_has L.box L.store S s2 l2 hg
  have hn : ∀ m ∈ S, msgE m = 0 ∧ m.s.size ≤ 30 := fun m hm => by
    rcases c m hm with h | h
    · exact ⟨m2 m h, hs.n2 m h⟩
    · exact ⟨m1 m h, hs.n1 m h⟩
  refine ⟨?_, ?_, a, b, e⟩
  · unfold smallL shortM shortW
    rw [Bool.and_eq_true, Bool.and_eq_true, Bool.and_eq_true, Bool.and_eq_true, Bool.and_eq_true, decide_eq_true_eq, decide_eq_true_eq, decide_eq_true_eq, List.all_eq_true, List.all_eq_true, List.all_eq_true]
    exact ⟨by simp, by simp; omega, by simp, fun m hm => (by cases hm), fun m hm => by simpa using (hn m hm).2, fun m hm => (by cases hm)⟩
  · unfold lnkE lnkE0
    rw [chkSE_zero (fun m hm => (by cases hm)) List.Pairwise.nil (by simp), chkSE_zero (fun m hm => (hn m hm).1) a b]
    rfl
theorem small_z (A1 : Option Addr) (c1 : Nat) (A2 : Option Addr) (c2 : Nat) (A3 : Option Addr) (c3 : Nat) (S : List Msg) (w : World) (hR : LnkR A1 A2 A3 ⟨[], [], S⟩ w) :
    Calls Try.prog 26 #[.agg #[.slice A1 0 c1, .slice A3 0 c3, .slice A2 S.length c2]] w fun e w' => e = .returned (.bool (smallL ⟨[], [], S⟩)) ∧ Below w.heap.size w w' :=
  small_any A1 c1 A2 c2 A3 c3 ⟨[], [], S⟩ w hR
theorem CopyLink_z (A1 : Option Addr) (c1 : Nat) (A2 : Option Addr) (c2 : Nat) (A3 : Option Addr) (c3 : Nat) (S : List Msg) (w : World) (h : S.length ≤ 300) (hR : LnkR A1 A2 A3 ⟨[], [], S⟩ w) :
    Calls Try.prog 28 #[.agg #[.slice A1 0 c1, .slice A3 0 c3, .slice A2 S.length c2]] w (LnkCopied ⟨[], [], S⟩ w) :=
  CopyLink_any A1 c1 A2 c2 A3 c3 ⟨[], [], S⟩ w (by simp) h (by simp) hR
theorem Pending_z (A1 : Option Addr) (c1 : Nat) (A2 : Option Addr) (c2 : Nat) (A3 : Option Addr) (c3 : Nat) (S : List Msg) (w : World) (hf : FewL ⟨[], [], S⟩) (hE : lnkE ⟨[], [], S⟩ = 0) (hR : LnkR A1 A2 A3 ⟨[], [], S⟩ w) :
    Calls Try.prog 47 #[LnkV A1 c1 A2 c2 A3 c3 ⟨[], [], S⟩] w fun e w' => (∃ A' c', e = .returned (.tuple #[.slice A' 0 c', .int .i64 0])) ∧ Below w.heap.size w w' := by
  refine (PendingIn_any A1 c1 A2 c2 A3 c3 ⟨[], [], S⟩ w hf hR).mono ?_
  rintro e w' ⟨A', c', rfl, -, hb⟩
  have hq : pendQ ⟨[], [], S⟩ = ([], 0) := if_pos hE
  rw [hq]
  exact ⟨⟨A', c', rfl⟩, hb⟩
def FmI (w1 : World) (l : List Mv) (i : Value) : Prop := ∃ k : Nat, k ≤ l.length ∧ i = .int .i64 k
set_option maxRecDepth 100000 in
set_option maxHeartbeats 8000000 in
theorem WarnFlushed_any (A1 : Option Addr) (c1 : Nat) (A2 : Option Addr) (c2 : Nat) (A3 : Option Addr) (c3 : Nat) (L : Lnk) (w : World) (hR : LnkR A1 A2 A3 L w) :
    Calls Try.prog 11 #[LnkV A1 c1 A2 c2 A3 c3 L] w fun e w' => e = .returned (.bool true) ∧ Below w.heap.size w w' := by
  go_enter Try.func11, Try.ntmps11
  go_wp2_with (fail)
  have hb0 : Below w.heap.size w (w.alloc (.cells #[.slice A1 L.box.length c1, .slice A3 L.wire.length c3, .slice A2 L.store.length c2] 41)) := below_alloc _ (Nat.le_refl _) (Below.refl _ _)
  have a0 : (w.alloc (.cells #[.slice A1 L.box.length c1, .slice A3 L.wire.length c3, .slice A2 L.store.length c2] 41)).cell? ⟨w.heap.size, 0, none⟩ = some (.slice A1 L.box.length c1) := cell_new (by simp) rfl
  have a1 : (w.alloc (.cells #[.slice A1 L.box.length c1, .slice A3 L.wire.length c3, .slice A2 L.store.length c2] 41)).cell? ⟨w.heap.size, 1, none⟩ = some (.slice A3 L.wire.length c3) := cell_new (by simp) rfl
  have a2 : (w.alloc (.cells #[.slice A1 L.box.length c1, .slice A3 L.wire.length c3, .slice A2 L.store.length c2] 41)).cell? ⟨w.heap.size, 2, none⟩ = some (.slice A2 L.store.length c2) := cell_new (by simp) rfl
  have za : w.heap.size < (w.alloc (.cells #[.slice A1 L.box.length c1, .slice A3 L.wire.length c3, .slice A2 L.store.length c2] 41)).heap.size := World.block_lt_of_cell? _ _ a0
  generalize (w.alloc (.cells #[.slice A1 L.box.length c1, .slice A3 L.wire.length c3, .slice A2 L.store.length c2] 41)) = w0 at *
  have hr0 := hR.below hb0
  clear hR
  refine (awake_any _).mono ?_
  rintro e w1 ⟨rfl, hb1⟩
  replace hr0 := hr0.below hb1
  have h1 : Below w.heap.size w w1 := (hb0).trans ((hb1).mono (hb0).size)
  replace a0 := cell_below' hb1 a0
  replace a1 := cell_below' hb1 a1
  replace a2 := cell_below' hb1 a2
  replace za := Nat.lt_of_lt_of_le za (hb1).size
  clear hb1 hb0
  have HSM := Lib.hid (fun W (h : LnkR A1 A2 A3 L W) => small_any A1 c1 A2 c2 A3 c3 L W h)
  have hst := fun h => smallL_true (L := L) h
  have HST := Lib.hid hst
  clear hst
  generalize smallL L = sb at *
  go_wp2_with (fail)
  refine (HSM.out _ hr0).mono ?_
  rintro e w2 ⟨rfl, hb2⟩
  replace hr0 := hr0.below hb2
  have h2 : Below w.heap.size w w2 := (h1).trans ((hb2).mono (h1).size)
  replace a0 := cell_below' hb2 a0
  replace a1 := cell_below' hb2 a1
  replace a2 := cell_below' hb2 a2
  replace za := Nat.lt_of_lt_of_le za (hb2).size
  clear hb2 h1
  cases sb
  · go_wp2_with (fail)
    go_ret
    exact ⟨rfl, h2⟩
  have hsml := HST.out rfl
  have hl1 := hsml.l1
  have hl2 := hsml.l2
  have hl3 := hsml.l3
  have HSL := Lib.hid hsml
  clear HST HSM hsml
  have HCL := Lib.hid (fun W (h : LnkR A1 A2 A3 L W) => CopyLink_any A1 c1 A2 c2 A3 c3 L W (by omega) (by omega) (by omega) h)
  have HLE := Lib.hid (fun W (h : LnkR A1 A2 A3 L W) => LinkErr_any A1 c1 A2 c2 A3 c3 L W (by omega) (by omega) (by omega) h)
  have HFO := Lib.hid (fun (B1 : Option Addr) (d1 : Nat) (B2 : Option Addr) (d2 : Nat) (B3 : Option Addr) (d3 : Nat) W (h : LnkR B1 B2 B3 L W) => FlushOf_any B1 d1 B2 d2 B3 d3 L W HSL.out.few h)
  have hq : flushQ L = if lnkE L = 0 then (if (flushG L.box L.store).isSome = true then (flushL L.wire.length L.box.length, 0) else ([], 12)) else ([], lnkE L) := rfl
  have HQ := Lib.hid hq
  clear hq
  go_wp2_with (fail)
  refine (HCL.out _ hr0).mono ?_
  rintro e w3 ⟨B1, d1, B2, d2, B3, d3, rfl, rb, hb3⟩
  replace hr0 := hr0.below hb3
  have h3 : Below w.heap.size w w3 := (h2).trans ((hb3).mono (h2).size)
  replace a0 := cell_below' hb3 a0
  replace a1 := cell_below' hb3 a1
  replace a2 := cell_below' hb3 a2
  replace za := Nat.lt_of_lt_of_le za (hb3).size
  clear hb3 h2
  go_wp2_with (fail)
  refine (HFO.out B1 d1 B2 d2 B3 d3 _ rb).mono ?_
  rintro e w4 ⟨M1, e1, rfl, rm, hb4⟩
  replace hr0 := hr0.below hb4
  have h4 : Below w.heap.size w w4 := (h3).trans ((hb4).mono (h3).size)
  replace a0 := cell_below' hb4 a0
  replace a1 := cell_below' hb4 a1
  replace a2 := cell_below' hb4 a2
  replace za := Nat.lt_of_lt_of_le za (hb4).size
  clear hb4 h3
  clear rb HFO
  go_wp2_with (fail)
  refine (HLE.out _ hr0).mono ?_
  rintro e w5 ⟨rfl, hb5⟩
  replace hr0 := hr0.below hb5
  replace rm := RowsAt.below rm hb5
  have h5 : Below w.heap.size w w5 := (h4).trans ((hb5).mono (h4).size)
  replace a0 := cell_below' hb5 a0
  replace a1 := cell_below' hb5 a1
  replace a2 := cell_below' hb5 a2
  replace za := Nat.lt_of_lt_of_le za (hb5).size
  clear hb5 h4
  by_cases hE : lnkE L = 0
  rotate_left 1
  · have h6 := HQ.out.trans (if_neg hE)
    rw [h6]
    have hE2 : (lnkE L != 0) = true := by simpa using hE
    have hE3 : (lnkE L == lnkE L) = true := by simp
    clear hE h6 HQ rm
    generalize lnkE L = E at *
    go_wp2_with (fail)
    go_ret
    exact ⟨rfl, h5⟩
  have HCF := Lib.hid (fun W (h : LnkR A1 A2 A3 L W) => CanFlush_any A1 c1 A2 c2 A3 c3 L W hE h)
  have h6 := HQ.out.trans (if_pos hE)
  have HE := Lib.hid hE
  have HQ2 := Lib.hid h6
  rw [hE]
  clear hE h6 HQ HLE
  have hru := fun S => run_flush (L := L) (S := S) HE.out
  have hfs := fun S => flush_small (L := L) (S := S) HSL.out HE.out
  have HRU := Lib.hid hru
  have HFS := Lib.hid hfs
  have hbl := (lnkE_parts HE.out).1.2.2
  have hwl := (lnkE_parts HE.out).2.2
  clear hru hfs
  generalize hg : flushG L.box L.store = G at *
  cases G with
  | none =>
    have h7 := HQ2.out
    rw [if_neg (by simp)] at h7
    rw [h7]
    rw [h7] at rm
    clear h7 HQ2 HRU HFS hg
    go_wp2_with (fail)
    refine (HCF.out _ hr0).mono ?_
    rintro e w6 ⟨rfl, hb6⟩
    have h6 := h5.trans (hb6.mono h5.size)
    rw [show (none : Option (List Msg)).isSome = false from rfl]
    go_wp2_with (fail)
    go_ret
    exact ⟨rfl, h6⟩
  | some S =>
    have h7 := HQ2.out
    rw [if_pos (show (some S).isSome = true from rfl)] at h7
    have HRUN := Lib.hid (HRU.out S rfl)
    obtain ⟨f1, f2, f3, f4, f5⟩ := HFS.out S rfl
    have HF1 := Lib.hid f1
    have HF2 := Lib.hid f2
    have HF3 := Lib.hid f3
    have HF5 := Lib.hid f5
    rw [h7]
    rw [h7] at rm
    simp only at rm
    have hfl : (flushL L.wire.length L.box.length).length ≤ 200 := by rw [flushL_len]; omega
    have hfk := flushL_k (n := L.wire.length) (j := L.box.length)
    have hfm := flushL_m (n := L.wire.length) (j := L.box.length)
    have HFK := Lib.hid hfk
    have HFM := Lib.hid hfm
    clear h7 HQ2 HRU HFS hg f1 f2 f3 f5 hfk hfm
    generalize flushL L.wire.length L.box.length = F at *
    have e200 : decide ((200 : Int) < (F.length : Int)) = false := by simp; omega
    go_wp2_with (fail)
    refine (HCF.out _ hr0).mono ?_
    rintro e w6 ⟨rfl, hb6⟩
    replace hr0 := hr0.below hb6
    replace rm := RowsAt.below rm hb6
    have h6 : Below w.heap.size w w6 := (h5).trans ((hb6).mono (h5).size)
    replace a0 := cell_below' hb6 a0
    replace a1 := cell_below' hb6 a1
    replace a2 := cell_below' hb6 a2
    replace za := Nat.lt_of_lt_of_le za (hb6).size
    clear hb6 h5
    rw [show (some S).isSome = true from rfl]
    clear HCF
    go_wp2_with (fail)
    go_loop [6] (fun i => FmI w6 F i) (fun i => F.length - (intOf i).toNat)
    case atStart => exact ⟨0, Nat.zero_le _, rfl⟩
    case round =>
      obtain ⟨k, hk, rfl⟩ := hrel
      by_cases hlt : k < F.length
      · obtain ⟨b1, o1, rfl, hb1', g0, g1, g2, g3, g4⟩ := MvsAt.at_ rm hlt
        have hkk := HFK.out F[k] (List.getElem_mem _)
        have e8 : (F[k].k == 0) = false := by simpa using hkk
        generalize F[k] = mv at *
        clear hkk
        go_wp2_with (fail)
        go_round
        case rel => exact ⟨k + 1, by omega, by go_num⟩
        case measure => simp [intOf]; omega
      · replace hlt : F.length ≤ k := by omega
        go_wp2_with (fail)
        refine (HCL.out _ hr0).mono ?_
        rintro e w7 ⟨C1, k1, C2, k2, C3, k3, rfl, rc, hb7⟩
        replace hr0 := hr0.below hb7
        replace rm := RowsAt.below rm hb7
        have h7 : Below w.heap.size w w7 := (h6).trans ((hb7).mono (h6).size)
        replace a0 := cell_below' hb7 a0
        replace a1 := cell_below' hb7 a1
        replace a2 := cell_below' hb7 a2
        replace za := Nat.lt_of_lt_of_le za (hb7).size
        clear hb7 h6
        go_wp2_with (fail)
        refine (CopyMoves_any M1 F e1 _ (by omega) rm).mono ?_
        rintro e w8 ⟨M2, e2, rfl, rm2, hb8⟩
        replace hr0 := hr0.below hb8
        replace rc := rc.below hb8
        have h8 : Below w.heap.size w w8 := (h7).trans ((hb8).mono (h7).size)
        replace a0 := cell_below' hb8 a0
        replace a1 := cell_below' hb8 a1
        replace a2 := cell_below' hb8 a2
        replace za := Nat.lt_of_lt_of_le za (hb8).size
        clear hb8 h7
        have HRO := Lib.hid (RunOf_any C1 k1 C2 k2 C3 k3 L M2 F e2 w8 HSL.out.few rc (by omega) (fun m hm => by have := HFM.out m hm; omega) rm2)
        rw [HRUN.out] at HRO
        clear rc rm2 rm
        go_wp2_with (fail)
        refine HRO.out.mono ?_
        rintro e w9 ⟨Y1, y1, Y2, y2, Y3, y3, rfl, ry, hb9⟩
        simp only at ry
        replace hr0 := hr0.below hb9
        have h9 : Below w.heap.size w w9 := (h8).trans ((hb9).mono (h8).size)
        replace a0 := cell_below' hb9 a0
        replace a1 := cell_below' hb9 a1
        replace a2 := cell_below' hb9 a2
        replace za := Nat.lt_of_lt_of_le za (hb9).size
        clear hb9 h8
        clear HRO
        go_upto_region 19 with (fail)
        have hb10 : Below w9.heap.size w9 (w9.alloc (.cells #[.slice Y1 0 y1, .slice Y3 0 y3, .slice Y2 S.length y2] 41)) := below_alloc _ (Nat.le_refl _) (Below.refl _ _)
        have v0 : (w9.alloc (.cells #[.slice Y1 0 y1, .slice Y3 0 y3, .slice Y2 S.length y2] 41)).cell? ⟨w9.heap.size, 0, none⟩ = some (.slice Y1 0 y1) := cell_new (by simp) rfl
        have v1 : (w9.alloc (.cells #[.slice Y1 0 y1, .slice Y3 0 y3, .slice Y2 S.length y2] 41)).cell? ⟨w9.heap.size, 1, none⟩ = some (.slice Y3 0 y3) := cell_new (by simp) rfl
        have v2 : (w9.alloc (.cells #[.slice Y1 0 y1, .slice Y3 0 y3, .slice Y2 S.length y2] 41)).cell? ⟨w9.heap.size, 2, none⟩ = some (.slice Y2 S.length y2) := cell_new (by simp) rfl
        have zv : w9.heap.size < (w9.alloc (.cells #[.slice Y1 0 y1, .slice Y3 0 y3, .slice Y2 S.length y2] 41)).heap.size := World.block_lt_of_cell? _ _ v0
        generalize (w9.alloc (.cells #[.slice Y1 0 y1, .slice Y3 0 y3, .slice Y2 S.length y2] 41)) = w10 at *
        replace ry := ry.below hb10
        replace hr0 := hr0.below hb10
        have h10 : Below w.heap.size w w10 := (h9).trans ((hb10).mono (h9).size)
        replace a0 := cell_below' hb10 a0
        replace a1 := cell_below' hb10 a1
        replace a2 := cell_below' hb10 a2
        replace za := Nat.lt_of_lt_of_le za (hb10).size
        clear hb10 h9
        have hss := small_z Y1 y1 Y2 y2 Y3 y3 S w10 ry
        rw [HF1.out] at hss
        have HSS := Lib.hid hss
        clear hss
        go_wp2_with (fail)
        with_reducible refine HSS.out.mono ?_
        rintro e w11 ⟨rfl, hb11⟩
        replace ry := ry.below hb11
        replace hr0 := hr0.below hb11
        have h11 : Below w.heap.size w w11 := (h10).trans ((hb11).mono (h10).size)
        replace a0 := cell_below' hb11 a0
        replace a1 := cell_below' hb11 a1
        replace a2 := cell_below' hb11 a2
        replace za := Nat.lt_of_lt_of_le za (hb11).size
        replace v0 := cell_below' hb11 v0
        replace v1 := cell_below' hb11 v1
        replace v2 := cell_below' hb11 v2
        replace zv := Nat.lt_of_lt_of_le zv (hb11).size
        clear hb11 h10
        clear HSS
        go_wp2_with (fail)
        go_loopw [10] (fun i wr => AoD w11 L.box.length i wr) (fun i _ => L.box.length - (intOf i).toNat)
        case atStart => exact ⟨0, Nat.zero_le _, rfl, Below.refl _ _⟩
        case round =>
          obtain ⟨j, hj, rfl, hbd⟩ := hrel
          have hbd2 := h11.trans (hbd.mono h11.size)
          have ryr := ry.below hbd
          have hrr := hr0.below hbd
          replace a0 := cell_below' hbd a0
          replace a1 := cell_below' hbd a1
          replace a2 := cell_below' hbd a2
          replace v0 := cell_below' hbd v0
          replace v1 := cell_below' hbd v1
          replace v2 := cell_below' hbd v2
          replace za : w.heap.size < wr.heap.size := World.block_lt_of_cell? _ _ a0
          replace zv : w9.heap.size < wr.heap.size := World.block_lt_of_cell? _ _ v0
          by_cases hlt : j < L.box.length
          · obtain ⟨y, hy, hys, hyv⟩ := HF5.out L.box[j] (List.getElem_mem _)
            obtain ⟨q, hq⟩ := List.getElem?_of_mem hy
            have hfd := find_at HF3.out hq hys
            obtain ⟨hqS, hqe⟩ := List.getElem?_eq_some_iff.1 hq
            have HFI := Lib.hid (fun W (h : MsgsAt W Y2 S) => Find_any Y2 S y2 L.box[j].s W (by omega) h)
            rw [hfd] at HFI
            have rs := ryr.r2
            obtain ⟨b1, o1, rfl, hb1', g0, g1, g2⟩ := MsgsAt.at_ hrr.r1 hlt
            obtain ⟨b2, o2, rfl, hb2', d0, d1', d2'⟩ := MsgsAt.at_ rs hqS
            simp only at d0 d1' d2'
            rw [hqe] at d0 d1' d2'
            generalize L.box[j] = x at *
            have e5 : decide (y.v < x.v) = false := by simp; omega
            have hj1 : (j : Int) < (L.box.length : Int) := by omega
            have hq1 : (q : Int) < (S.length : Int) := by omega
            have e6 : decide ((q : Int) < 0) = false := by simp
            clear hfd hqe hq hy hys hyv ryr hrr
            go_wp2_with (fail)
            (refine region_extx 9 (by kernel_rfl) (by kernel_rfl) fun hx => ?_; simp only [List.take_succ_cons, List.take_zero, List.drop_succ_cons, List.drop_zero]; (repeat (any_goals (first | go_big_quiet_step (((go_at_call 33; with_reducible exact ext_same (HFI.out _ (RowsAt.below rs (ext_bel _ _)))))) | quiet_step (((go_at_call 33; with_reducible exact ext_same (HFI.out _ (RowsAt.below rs (ext_bel _ _))))))))))
            (refine wpQuiet_nil ?_; clear hx; intro u; have hbw12 := ext_bel _ u; have hxw12 := ext_cell _ u; generalize ext _ u = w12 at *; clear u; have hsw12 := hbw12.size; (try simp at hsw12))
            go_wp2_with (fail)
            replace a0 := cell_below' hbw12 a0
            replace v2 := cell_below' hbw12 v2
            replace g1 := cell_below' hbw12 g1
            replace d1' := cell_below' hbw12 d1'
            replace za := Nat.lt_of_lt_of_le za hbw12.size
            replace zv := Nat.lt_of_lt_of_le zv hbw12.size
            (refine region_extx 16 (by kernel_rfl) (by kernel_rfl) fun hx => ?_; simp only [List.take_succ_cons, List.take_zero, List.drop_succ_cons, List.drop_zero]; (repeat (any_goals (first | go_big_quiet_step (fail) | quiet_step (fail)))))
            (refine wpQuiet_nil ?_; clear hx; intro u; have hbw13 := ext_bel _ u; have hxw13 := ext_cell _ u; generalize ext _ u = w13 at *; clear u; have hsw13 := hbw13.size; (try simp at hsw13))
            go_wp2_with (fail)
            go_roundw
            case rel => exact ⟨j + 1, by omega, by go_num, hbd.trans ((hbw12.trans (hbw13.mono hbw12.size)).mono hbd.size)⟩
            case measure => simp [intOf]; omega
          · replace hlt : L.box.length ≤ j := by omega
            have HFW := Lib.hid (show FewL ⟨[], [], S⟩ from (smallL_true HF1.out).few)
            clear hrr
            go_wp2_with (fail)
            refine (CopyLink_z Y1 y1 Y2 y2 Y3 y3 S _ (by omega) ryr).mono ?_
            rintro e w14 ⟨E1, k1', E2, k2', E3, k3', rfl, re, hb14⟩
            have h14 := hbd2.trans (hb14.mono hbd2.size)
            go_wp2_with (fail)
            refine (Pending_z E1 k1' E2 k2' E3 k3' S _ HFW.out HF2.out re).mono ?_
            rintro e w15 ⟨⟨P1, p1, rfl⟩, hb15⟩
            have h15 := h14.trans (hb15.mono h14.size)
            go_wp2_with (fail)
            go_ret
            exact ⟨rfl, h15⟩
end Go.Proofs.Ytcfbnmcdncndpaa
