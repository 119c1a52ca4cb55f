/-
  Chapter 2: EchoStrings, walked.
-/
import Derived.Test.YtlnbbioponmcfaaGreatDoorEStP
import Derived.Test.YtlnbbioponmcfaaGreatDoorEItQ
import Derived.Test.YtlnbbioponmcfaaGreatDoorEItS
import Derived.Test.YtlnbbioponmcfaaGreatDoorEItC
import Derived.Test.YtlnbbioponmcfaaGreatDoorEAwk
namespace Go.Proofs.YtlnbbioponmcfaaGreatDoor
open Go.ChangeShapes Go.WideShapes Go.ChangeAt Go.RowKit
set_option linter.unusedVariables false
set_option linter.unusedSimpArgs false

theorem neRu (a0 a1 a2 a3 a4 a5 a6 a7 a8 a9 : Int) (w : World) : (binOp .neq 27 (.agg #[.int .i64 a0, .int .i64 a1, .int .i64 a2, .int .i64 a3, .int .i64 a4, .int .i64 a5, .int .i64 a6, .int .i64 a7, .int .i64 a8, .int .i64 a9]) (.agg #[.int .i64 a0, .int .i64 a1, .int .i64 a2, .int .i64 a3, .int .i64 a4, .int .i64 a5, .int .i64 a6, .int .i64 a7, .int .i64 a8, .int .i64 a9])).run Tryz.prog w = .ok (.bool false) w := by
  go_simp
set_option maxRecDepth 100000 in
set_option maxHeartbeats 16000000 in
theorem EchoStrings_any (r : Ru) (A : Option Addr) (l : List It) (cap : Nat) (s : ByteArray) (w : World) (hE : Evn w.heap.size w) (hr : ∀ x ∈ ruL r, I64 x) (hok : ∀ x ∈ l, OkIt x) (hA : ItsAt w A l) :
    Calls Tryz.prog 4 #[ruv r, .slice A l.length cap, .string s] w fun e w' => e = .returned (.bool true) ∧ Below w.heap.size w w' := by
  have HE := Lib.hid hE
  have HR := Lib.hid hr
  have HOK := Lib.hid hok
  have HFR := Lib.hid (fun W (h : Tab W) => FormatRules_any r W hr h)
  have HRF := Lib.hid (fun W => RFormatRules_any r W hr)
  have HCR := Lib.hid (fun W => RCheckRules_any r W)
  have HWS := Lib.hid (wds_size (l := ruL r) (show 10 ≤ 100 by decide) hr)
  have HRB := Lib.hid (@rus_back r)
  clear hE hr hok
  obtain ⟨fr, hfr⟩ : ∃ x, x = wds (ruL r) := ⟨_, rfl⟩
  rw [← hfr] at HFR HRF HWS HRB
  have hfe : (fr.toList == fr.toList) = true := by simp
  clear hfr
  have hneR := fun (W : World) => neRu r.mo.re r.mo.im r.me.re r.me.im r.ra r.no r.po r.ce r.st r.du W
  obtain ⟨⟨a0, a1⟩, ⟨a2, a3⟩, a4, a5, a6, a7, a8, a9⟩ := r
  simp only at *
  by_cases hl20 : l.length ≤ 20
  rotate_left 1
  · have e1 : decide ((20 : Int) < (l.length : Int)) = true := decide_eq_true (by omega)
    have e2 : decide (20 < l.length) = true := decide_eq_true (by omega)
    clear hl20
    go_enter Tryz.func4, Tryz.ntmps4
    go_upto_region 1 with (fail)
    have hb0 : Below w.heap.size w (w.alloc (.cells #[.int .i64 a0, .int .i64 a1, .int .i64 a2, .int .i64 a3, .int .i64 a4, .int .i64 a5, .int .i64 a6, .int .i64 a7, .int .i64 a8, .int .i64 a9] 27)) := below_alloc _ (Nat.le_refl _) (Below.refl _ _)
    have x0 : (w.alloc (.cells #[.int .i64 a0, .int .i64 a1, .int .i64 a2, .int .i64 a3, .int .i64 a4, .int .i64 a5, .int .i64 a6, .int .i64 a7, .int .i64 a8, .int .i64 a9] 27)).cell? ⟨w.heap.size, 0, none⟩ = some (.int .i64 a0) := cell_new (by simp) rfl
    have x1 : (w.alloc (.cells #[.int .i64 a0, .int .i64 a1, .int .i64 a2, .int .i64 a3, .int .i64 a4, .int .i64 a5, .int .i64 a6, .int .i64 a7, .int .i64 a8, .int .i64 a9] 27)).cell? ⟨w.heap.size, 1, none⟩ = some (.int .i64 a1) := cell_new (by simp) rfl
    have x2 : (w.alloc (.cells #[.int .i64 a0, .int .i64 a1, .int .i64 a2, .int .i64 a3, .int .i64 a4, .int .i64 a5, .int .i64 a6, .int .i64 a7, .int .i64 a8, .int .i64 a9] 27)).cell? ⟨w.heap.size, 2, none⟩ = some (.int .i64 a2) := cell_new (by simp) rfl
    have x3 : (w.alloc (.cells #[.int .i64 a0, .int .i64 a1, .int .i64 a2, .int .i64 a3, .int .i64 a4, .int .i64 a5, .int .i64 a6, .int .i64 a7, .int .i64 a8, .int .i64 a9] 27)).cell? ⟨w.heap.size, 3, none⟩ = some (.int .i64 a3) := cell_new (by simp) rfl
    have x4 : (w.alloc (.cells #[.int .i64 a0, .int .i64 a1, .int .i64 a2, .int .i64 a3, .int .i64 a4, .int .i64 a5, .int .i64 a6, .int .i64 a7, .int .i64 a8, .int .i64 a9] 27)).cell? ⟨w.heap.size, 4, none⟩ = some (.int .i64 a4) := cell_new (by simp) rfl
    have x5 : (w.alloc (.cells #[.int .i64 a0, .int .i64 a1, .int .i64 a2, .int .i64 a3, .int .i64 a4, .int .i64 a5, .int .i64 a6, .int .i64 a7, .int .i64 a8, .int .i64 a9] 27)).cell? ⟨w.heap.size, 5, none⟩ = some (.int .i64 a5) := cell_new (by simp) rfl
    have x6 : (w.alloc (.cells #[.int .i64 a0, .int .i64 a1, .int .i64 a2, .int .i64 a3, .int .i64 a4, .int .i64 a5, .int .i64 a6, .int .i64 a7, .int .i64 a8, .int .i64 a9] 27)).cell? ⟨w.heap.size, 6, none⟩ = some (.int .i64 a6) := cell_new (by simp) rfl
    have x7 : (w.alloc (.cells #[.int .i64 a0, .int .i64 a1, .int .i64 a2, .int .i64 a3, .int .i64 a4, .int .i64 a5, .int .i64 a6, .int .i64 a7, .int .i64 a8, .int .i64 a9] 27)).cell? ⟨w.heap.size, 7, none⟩ = some (.int .i64 a7) := cell_new (by simp) rfl
    have x8 : (w.alloc (.cells #[.int .i64 a0, .int .i64 a1, .int .i64 a2, .int .i64 a3, .int .i64 a4, .int .i64 a5, .int .i64 a6, .int .i64 a7, .int .i64 a8, .int .i64 a9] 27)).cell? ⟨w.heap.size, 8, none⟩ = some (.int .i64 a8) := cell_new (by simp) rfl
    have x9 : (w.alloc (.cells #[.int .i64 a0, .int .i64 a1, .int .i64 a2, .int .i64 a3, .int .i64 a4, .int .i64 a5, .int .i64 a6, .int .i64 a7, .int .i64 a8, .int .i64 a9] 27)).cell? ⟨w.heap.size, 9, none⟩ = some (.int .i64 a9) := cell_new (by simp) rfl
    have zx : w.heap.size < (w.alloc (.cells #[.int .i64 a0, .int .i64 a1, .int .i64 a2, .int .i64 a3, .int .i64 a4, .int .i64 a5, .int .i64 a6, .int .i64 a7, .int .i64 a8, .int .i64 a9] 27)).heap.size := World.block_lt_of_cell? _ _ x0
    generalize (w.alloc (.cells #[.int .i64 a0, .int .i64 a1, .int .i64 a2, .int .i64 a3, .int .i64 a4, .int .i64 a5, .int .i64 a6, .int .i64 a7, .int .i64 a8, .int .i64 a9] 27)) = w0 at *
    go_wp2_with (fail)
    refine (awake_any w0 (HE.out.low hb0).t).mono ?_
    rintro e w1 ⟨rfl, k1⟩
    have h1 : Below w.heap.size w w1 := (hb0).trans ((k1).mono (hb0).size)
    replace x0 := cell_below' k1 x0
    replace x1 := cell_below' k1 x1
    replace x2 := cell_below' k1 x2
    replace x3 := cell_below' k1 x3
    replace x4 := cell_below' k1 x4
    replace x5 := cell_below' k1 x5
    replace x6 := cell_below' k1 x6
    replace x7 := cell_below' k1 x7
    replace x8 := cell_below' k1 x8
    replace x9 := cell_below' k1 x9
    replace zx := Nat.lt_of_lt_of_le zx (k1).size
    clear k1 hb0
    go_wp2_with (fail)
    go_ret
    exact ⟨rfl, h1⟩
  have e1 : decide ((20 : Int) < (l.length : Int)) = false := decide_eq_false (by omega)
  have e2 : decide (20 < l.length) = false := decide_eq_false (by omega)
  by_cases hs300 : s.size ≤ 300
  rotate_left 1
  · have e3 : decide ((300 : Int) < (s.size : Int)) = true := decide_eq_true (by omega)
    have e4 : decide (300 < s.size) = true := decide_eq_true (by omega)
    clear hs300
    go_enter Tryz.func4, Tryz.ntmps4
    go_upto_region 1 with (fail)
    have hb0 : Below w.heap.size w (w.alloc (.cells #[.int .i64 a0, .int .i64 a1, .int .i64 a2, .int .i64 a3, .int .i64 a4, .int .i64 a5, .int .i64 a6, .int .i64 a7, .int .i64 a8, .int .i64 a9] 27)) := below_alloc _ (Nat.le_refl _) (Below.refl _ _)
    have x0 : (w.alloc (.cells #[.int .i64 a0, .int .i64 a1, .int .i64 a2, .int .i64 a3, .int .i64 a4, .int .i64 a5, .int .i64 a6, .int .i64 a7, .int .i64 a8, .int .i64 a9] 27)).cell? ⟨w.heap.size, 0, none⟩ = some (.int .i64 a0) := cell_new (by simp) rfl
    have x1 : (w.alloc (.cells #[.int .i64 a0, .int .i64 a1, .int .i64 a2, .int .i64 a3, .int .i64 a4, .int .i64 a5, .int .i64 a6, .int .i64 a7, .int .i64 a8, .int .i64 a9] 27)).cell? ⟨w.heap.size, 1, none⟩ = some (.int .i64 a1) := cell_new (by simp) rfl
    have x2 : (w.alloc (.cells #[.int .i64 a0, .int .i64 a1, .int .i64 a2, .int .i64 a3, .int .i64 a4, .int .i64 a5, .int .i64 a6, .int .i64 a7, .int .i64 a8, .int .i64 a9] 27)).cell? ⟨w.heap.size, 2, none⟩ = some (.int .i64 a2) := cell_new (by simp) rfl
    have x3 : (w.alloc (.cells #[.int .i64 a0, .int .i64 a1, .int .i64 a2, .int .i64 a3, .int .i64 a4, .int .i64 a5, .int .i64 a6, .int .i64 a7, .int .i64 a8, .int .i64 a9] 27)).cell? ⟨w.heap.size, 3, none⟩ = some (.int .i64 a3) := cell_new (by simp) rfl
    have x4 : (w.alloc (.cells #[.int .i64 a0, .int .i64 a1, .int .i64 a2, .int .i64 a3, .int .i64 a4, .int .i64 a5, .int .i64 a6, .int .i64 a7, .int .i64 a8, .int .i64 a9] 27)).cell? ⟨w.heap.size, 4, none⟩ = some (.int .i64 a4) := cell_new (by simp) rfl
    have x5 : (w.alloc (.cells #[.int .i64 a0, .int .i64 a1, .int .i64 a2, .int .i64 a3, .int .i64 a4, .int .i64 a5, .int .i64 a6, .int .i64 a7, .int .i64 a8, .int .i64 a9] 27)).cell? ⟨w.heap.size, 5, none⟩ = some (.int .i64 a5) := cell_new (by simp) rfl
    have x6 : (w.alloc (.cells #[.int .i64 a0, .int .i64 a1, .int .i64 a2, .int .i64 a3, .int .i64 a4, .int .i64 a5, .int .i64 a6, .int .i64 a7, .int .i64 a8, .int .i64 a9] 27)).cell? ⟨w.heap.size, 6, none⟩ = some (.int .i64 a6) := cell_new (by simp) rfl
    have x7 : (w.alloc (.cells #[.int .i64 a0, .int .i64 a1, .int .i64 a2, .int .i64 a3, .int .i64 a4, .int .i64 a5, .int .i64 a6, .int .i64 a7, .int .i64 a8, .int .i64 a9] 27)).cell? ⟨w.heap.size, 7, none⟩ = some (.int .i64 a7) := cell_new (by simp) rfl
    have x8 : (w.alloc (.cells #[.int .i64 a0, .int .i64 a1, .int .i64 a2, .int .i64 a3, .int .i64 a4, .int .i64 a5, .int .i64 a6, .int .i64 a7, .int .i64 a8, .int .i64 a9] 27)).cell? ⟨w.heap.size, 8, none⟩ = some (.int .i64 a8) := cell_new (by simp) rfl
    have x9 : (w.alloc (.cells #[.int .i64 a0, .int .i64 a1, .int .i64 a2, .int .i64 a3, .int .i64 a4, .int .i64 a5, .int .i64 a6, .int .i64 a7, .int .i64 a8, .int .i64 a9] 27)).cell? ⟨w.heap.size, 9, none⟩ = some (.int .i64 a9) := cell_new (by simp) rfl
    have zx : w.heap.size < (w.alloc (.cells #[.int .i64 a0, .int .i64 a1, .int .i64 a2, .int .i64 a3, .int .i64 a4, .int .i64 a5, .int .i64 a6, .int .i64 a7, .int .i64 a8, .int .i64 a9] 27)).heap.size := World.block_lt_of_cell? _ _ x0
    generalize (w.alloc (.cells #[.int .i64 a0, .int .i64 a1, .int .i64 a2, .int .i64 a3, .int .i64 a4, .int .i64 a5, .int .i64 a6, .int .i64 a7, .int .i64 a8, .int .i64 a9] 27)) = w0 at *
    go_wp2_with (fail)
    refine (awake_any w0 (HE.out.low hb0).t).mono ?_
    rintro e w1 ⟨rfl, k1⟩
    have h1 : Below w.heap.size w w1 := (hb0).trans ((k1).mono (hb0).size)
    replace x0 := cell_below' k1 x0
    replace x1 := cell_below' k1 x1
    replace x2 := cell_below' k1 x2
    replace x3 := cell_below' k1 x3
    replace x4 := cell_below' k1 x4
    replace x5 := cell_below' k1 x5
    replace x6 := cell_below' k1 x6
    replace x7 := cell_below' k1 x7
    replace x8 := cell_below' k1 x8
    replace x9 := cell_below' k1 x9
    replace zx := Nat.lt_of_lt_of_le zx (k1).size
    clear k1 hb0
    go_wp2_with (fail)
    go_ret
    exact ⟨rfl, h1⟩
  have e3 : decide ((300 : Int) < (s.size : Int)) = false := decide_eq_false (by omega)
  have e4 : decide (300 < s.size) = false := decide_eq_false (by omega)
  have HFS := Lib.hid (fmtE_size hl20 HOK.out)
  have HFE := Lib.hid (fun (X : Option Addr) (c : Nat) W (h : ItsAt W X l) (ht : Tab W) => FormatEchoes_any X l c W (by omega) HOK.out h ht)
  have HRE := Lib.hid (fun (X : Option Addr) (c : Nat) W (h : ItsAt W X l) => RFormatEchoes_any X l c W (by omega) HOK.out h)
  have HEB := Lib.hid (@its_back l)
  have HEER := Lib.hid (fun (X : Option Addr) (c : Nat) W (h : ItsAt W X l) => EchoesErr_any X l c W (by omega) h)
  have HCP := Lib.hid (fun (X : Option Addr) (c : Nat) W (h : ItsAt W X l) => CopyIt_any X l c W (by omega) h)
  have HPR := Lib.hid (fun W (h : Evn w.heap.size W) (hz : w.heap.size ≤ W.heap.size) => ParseRules_any s W h hz (by omega))
  have HPE := Lib.hid (fun W (h : Evn w.heap.size W) (hz : w.heap.size ≤ W.heap.size) => ParseEchoes_any s W h hz (by omega))
  have HRPR := Lib.hid (fun W => RParseRules_any s W (by omega))
  have HRPE := Lib.hid (fun W => RParseEchoes_any s W (by omega))
  have HPR2 := Lib.hid (fun W (h : Evn w.heap.size W) (hz : w.heap.size ≤ W.heap.size) => ParseRules_any fr W h hz (Nat.le_trans HWS.out (by decide)))
  have HPE2 := Lib.hid (fun W (h : Evn w.heap.size W) (hz : w.heap.size ≤ W.heap.size) => ParseEchoes_any (fmtE l) W h hz HFS.out)
  have HSM := Lib.hid (fun (X Y : Option Addr) (c d : Nat) W (h : ItsAt W X (itsQ s).1) (h' : ItsAt W Y (itsQ s).1) (hz : (itsQ s).1.length ≤ 1000) => SameEchoes_refl X Y (itsQ s).1 c d W hz h h')
  have HSM2 := Lib.hid (fun (X Y : Option Addr) (c d : Nat) W (h : ItsAt W X l) (h' : ItsAt W Y l) => SameEchoes_refl X Y l c d W (by omega) h h')
  have HQL : Hid ((itsQ s).1.length ≤ 1000) := Lib.hid (by
    unfold itsQ
    split
    · simp
    · split
      · simp
      · rename_i q hq
        have e1 := itsP_len hq
        have e2 := (cutB_small 44 s).1
        split
        · show q.length ≤ 1000
          omega
        · simp)
  obtain ⟨fe, hfe2⟩ : ∃ x, x = fmtE l := ⟨_, rfl⟩
  rw [← hfe2] at HFS HFE HRE HEB HPE2
  have hfee : (fe.toList == fe.toList) = true := by simp
  clear hfe2 hl20 hs300 HFS
  obtain ⟨RQ, hRQ⟩ : ∃ x, x = rusQ s := ⟨_, rfl⟩
  rw [← hRQ] at HPR HRPR
  obtain ⟨IQ, hIQ⟩ : ∃ x, x = itsQ s := ⟨_, rfl⟩
  rw [← hIQ] at HPE HRPE HSM HQL
  clear hRQ hIQ
  obtain ⟨⟨⟨b0, b1⟩, ⟨b2, b3⟩, b4, b5, b6, b7, b8, b9⟩, rc⟩ := RQ
  obtain ⟨il, ic⟩ := IQ
  simp only [ruv] at HPR HRPR HPE HRPE HSM HQL
  have hneB := fun (W : World) => neRu b0 b1 b2 b3 b4 b5 b6 b7 b8 b9 W
  have E1 := Lib.hid e1
  have E2 := Lib.hid e2
  have E3 := Lib.hid e3
  have E4 := Lib.hid e4
  go_enter Tryz.func4, Tryz.ntmps4
  go_upto_region 1 with (fail)
  have hb0 : Below w.heap.size w (w.alloc (.cells #[.int .i64 a0, .int .i64 a1, .int .i64 a2, .int .i64 a3, .int .i64 a4, .int .i64 a5, .int .i64 a6, .int .i64 a7, .int .i64 a8, .int .i64 a9] 27)) := below_alloc _ (Nat.le_refl _) (Below.refl _ _)
  have x0 : (w.alloc (.cells #[.int .i64 a0, .int .i64 a1, .int .i64 a2, .int .i64 a3, .int .i64 a4, .int .i64 a5, .int .i64 a6, .int .i64 a7, .int .i64 a8, .int .i64 a9] 27)).cell? ⟨w.heap.size, 0, none⟩ = some (.int .i64 a0) := cell_new (by simp) rfl
  have x1 : (w.alloc (.cells #[.int .i64 a0, .int .i64 a1, .int .i64 a2, .int .i64 a3, .int .i64 a4, .int .i64 a5, .int .i64 a6, .int .i64 a7, .int .i64 a8, .int .i64 a9] 27)).cell? ⟨w.heap.size, 1, none⟩ = some (.int .i64 a1) := cell_new (by simp) rfl
  have x2 : (w.alloc (.cells #[.int .i64 a0, .int .i64 a1, .int .i64 a2, .int .i64 a3, .int .i64 a4, .int .i64 a5, .int .i64 a6, .int .i64 a7, .int .i64 a8, .int .i64 a9] 27)).cell? ⟨w.heap.size, 2, none⟩ = some (.int .i64 a2) := cell_new (by simp) rfl
  have x3 : (w.alloc (.cells #[.int .i64 a0, .int .i64 a1, .int .i64 a2, .int .i64 a3, .int .i64 a4, .int .i64 a5, .int .i64 a6, .int .i64 a7, .int .i64 a8, .int .i64 a9] 27)).cell? ⟨w.heap.size, 3, none⟩ = some (.int .i64 a3) := cell_new (by simp) rfl
  have x4 : (w.alloc (.cells #[.int .i64 a0, .int .i64 a1, .int .i64 a2, .int .i64 a3, .int .i64 a4, .int .i64 a5, .int .i64 a6, .int .i64 a7, .int .i64 a8, .int .i64 a9] 27)).cell? ⟨w.heap.size, 4, none⟩ = some (.int .i64 a4) := cell_new (by simp) rfl
  have x5 : (w.alloc (.cells #[.int .i64 a0, .int .i64 a1, .int .i64 a2, .int .i64 a3, .int .i64 a4, .int .i64 a5, .int .i64 a6, .int .i64 a7, .int .i64 a8, .int .i64 a9] 27)).cell? ⟨w.heap.size, 5, none⟩ = some (.int .i64 a5) := cell_new (by simp) rfl
  have x6 : (w.alloc (.cells #[.int .i64 a0, .int .i64 a1, .int .i64 a2, .int .i64 a3, .int .i64 a4, .int .i64 a5, .int .i64 a6, .int .i64 a7, .int .i64 a8, .int .i64 a9] 27)).cell? ⟨w.heap.size, 6, none⟩ = some (.int .i64 a6) := cell_new (by simp) rfl
  have x7 : (w.alloc (.cells #[.int .i64 a0, .int .i64 a1, .int .i64 a2, .int .i64 a3, .int .i64 a4, .int .i64 a5, .int .i64 a6, .int .i64 a7, .int .i64 a8, .int .i64 a9] 27)).cell? ⟨w.heap.size, 7, none⟩ = some (.int .i64 a7) := cell_new (by simp) rfl
  have x8 : (w.alloc (.cells #[.int .i64 a0, .int .i64 a1, .int .i64 a2, .int .i64 a3, .int .i64 a4, .int .i64 a5, .int .i64 a6, .int .i64 a7, .int .i64 a8, .int .i64 a9] 27)).cell? ⟨w.heap.size, 8, none⟩ = some (.int .i64 a8) := cell_new (by simp) rfl
  have x9 : (w.alloc (.cells #[.int .i64 a0, .int .i64 a1, .int .i64 a2, .int .i64 a3, .int .i64 a4, .int .i64 a5, .int .i64 a6, .int .i64 a7, .int .i64 a8, .int .i64 a9] 27)).cell? ⟨w.heap.size, 9, none⟩ = some (.int .i64 a9) := cell_new (by simp) rfl
  have zx : w.heap.size < (w.alloc (.cells #[.int .i64 a0, .int .i64 a1, .int .i64 a2, .int .i64 a3, .int .i64 a4, .int .i64 a5, .int .i64 a6, .int .i64 a7, .int .i64 a8, .int .i64 a9] 27)).heap.size := World.block_lt_of_cell? _ _ x0
  generalize (w.alloc (.cells #[.int .i64 a0, .int .i64 a1, .int .i64 a2, .int .i64 a3, .int .i64 a4, .int .i64 a5, .int .i64 a6, .int .i64 a7, .int .i64 a8, .int .i64 a9] 27)) = w0 at *
  go_wp2_with (fail)
  refine (awake_any w0 (HE.out.low hb0).t).mono ?_
  rintro e w1 ⟨rfl, k1⟩
  have h1 : Below w.heap.size w w1 := (hb0).trans ((k1).mono (hb0).size)
  replace x0 := cell_below' k1 x0
  replace x1 := cell_below' k1 x1
  replace x2 := cell_below' k1 x2
  replace x3 := cell_below' k1 x3
  replace x4 := cell_below' k1 x4
  replace x5 := cell_below' k1 x5
  replace x6 := cell_below' k1 x6
  replace x7 := cell_below' k1 x7
  replace x8 := cell_below' k1 x8
  replace x9 := cell_below' k1 x9
  replace zx := Nat.lt_of_lt_of_le zx (k1).size
  clear k1 hb0
  clear e1 e2 e3 e4
  have e1 : decide ((20 : Int) < (l.length : Int)) = false := E1.out
  have e2 : decide (20 < l.length) = false := E2.out
  have e3 : decide ((300 : Int) < (s.size : Int)) = false := E3.out
  have e4 : decide (300 < s.size) = false := E4.out
  go_wp2_with (fail)
  refine (HFR.out _ (HE.out.low h1).t).mono ?_
  rintro e w2 ⟨rfl, k2⟩
  have h2 : Below w.heap.size w w2 := (h1).trans ((k2).mono (h1).size)
  replace x0 := cell_below' k2 x0
  replace x1 := cell_below' k2 x1
  replace x2 := cell_below' k2 x2
  replace x3 := cell_below' k2 x3
  replace x4 := cell_below' k2 x4
  replace x5 := cell_below' k2 x5
  replace x6 := cell_below' k2 x6
  replace x7 := cell_below' k2 x7
  replace x8 := cell_below' k2 x8
  replace x9 := cell_below' k2 x9
  replace zx := Nat.lt_of_lt_of_le zx (k2).size
  clear k2 h1
  clear e1 e2 e3 e4
  go_wp2_with (fail)
  refine (HCP.out _ _ _ (RowsAt.below hA h2)).mono ?_
  rintro e w3 ⟨A3, c3, rfl, o3, k3⟩
  have hI3 : ItsAt w3 A3 l := rowsAt_of_own o3 rfl (by decide)
  clear o3
  have h3 : Below w.heap.size w w3 := (h2).trans ((k3).mono (h2).size)
  replace x0 := cell_below' k3 x0
  replace x1 := cell_below' k3 x1
  replace x2 := cell_below' k3 x2
  replace x3 := cell_below' k3 x3
  replace x4 := cell_below' k3 x4
  replace x5 := cell_below' k3 x5
  replace x6 := cell_below' k3 x6
  replace x7 := cell_below' k3 x7
  replace x8 := cell_below' k3 x8
  replace x9 := cell_below' k3 x9
  replace zx := Nat.lt_of_lt_of_le zx (k3).size
  clear k3 h2
  go_wp2_with (fail)
  refine (HFE.out _ _ _ hI3 (HE.out.low h3).t).mono ?_
  rintro e w4 ⟨rfl, k4⟩
  clear hI3
  have h4 : Below w.heap.size w w4 := (h3).trans ((k4).mono (h3).size)
  replace x0 := cell_below' k4 x0
  replace x1 := cell_below' k4 x1
  replace x2 := cell_below' k4 x2
  replace x3 := cell_below' k4 x3
  replace x4 := cell_below' k4 x4
  replace x5 := cell_below' k4 x5
  replace x6 := cell_below' k4 x6
  replace x7 := cell_below' k4 x7
  replace x8 := cell_below' k4 x8
  replace x9 := cell_below' k4 x9
  replace zx := Nat.lt_of_lt_of_le zx (k4).size
  clear k4 h3
  go_wp2_with (fail)
  refine (HPR.out _ (HE.out.low h4) h4.size).mono ?_
  rintro e w5 ⟨rfl, k5⟩
  have h5 : Below w.heap.size w w5 := (h4).trans ((k5).mono (h4).size)
  replace x0 := cell_below' k5 x0
  replace x1 := cell_below' k5 x1
  replace x2 := cell_below' k5 x2
  replace x3 := cell_below' k5 x3
  replace x4 := cell_below' k5 x4
  replace x5 := cell_below' k5 x5
  replace x6 := cell_below' k5 x6
  replace x7 := cell_below' k5 x7
  replace x8 := cell_below' k5 x8
  replace x9 := cell_below' k5 x9
  replace zx := Nat.lt_of_lt_of_le zx (k5).size
  clear k5 h4
  clear HFR HCP HFE HPR
  go_upto_region 7 with (fail)
  have hb6 : Below w5.heap.size w5 (w5.alloc (.cells #[.int .i64 b0, .int .i64 b1, .int .i64 b2, .int .i64 b3, .int .i64 b4, .int .i64 b5, .int .i64 b6, .int .i64 b7, .int .i64 b8, .int .i64 b9] 27)) := below_alloc _ (Nat.le_refl _) (Below.refl _ _)
  have y0 : (w5.alloc (.cells #[.int .i64 b0, .int .i64 b1, .int .i64 b2, .int .i64 b3, .int .i64 b4, .int .i64 b5, .int .i64 b6, .int .i64 b7, .int .i64 b8, .int .i64 b9] 27)).cell? ⟨w5.heap.size, 0, none⟩ = some (.int .i64 b0) := cell_new (by simp) rfl
  have y1 : (w5.alloc (.cells #[.int .i64 b0, .int .i64 b1, .int .i64 b2, .int .i64 b3, .int .i64 b4, .int .i64 b5, .int .i64 b6, .int .i64 b7, .int .i64 b8, .int .i64 b9] 27)).cell? ⟨w5.heap.size, 1, none⟩ = some (.int .i64 b1) := cell_new (by simp) rfl
  have y2 : (w5.alloc (.cells #[.int .i64 b0, .int .i64 b1, .int .i64 b2, .int .i64 b3, .int .i64 b4, .int .i64 b5, .int .i64 b6, .int .i64 b7, .int .i64 b8, .int .i64 b9] 27)).cell? ⟨w5.heap.size, 2, none⟩ = some (.int .i64 b2) := cell_new (by simp) rfl
  have y3 : (w5.alloc (.cells #[.int .i64 b0, .int .i64 b1, .int .i64 b2, .int .i64 b3, .int .i64 b4, .int .i64 b5, .int .i64 b6, .int .i64 b7, .int .i64 b8, .int .i64 b9] 27)).cell? ⟨w5.heap.size, 3, none⟩ = some (.int .i64 b3) := cell_new (by simp) rfl
  have y4 : (w5.alloc (.cells #[.int .i64 b0, .int .i64 b1, .int .i64 b2, .int .i64 b3, .int .i64 b4, .int .i64 b5, .int .i64 b6, .int .i64 b7, .int .i64 b8, .int .i64 b9] 27)).cell? ⟨w5.heap.size, 4, none⟩ = some (.int .i64 b4) := cell_new (by simp) rfl
  have y5 : (w5.alloc (.cells #[.int .i64 b0, .int .i64 b1, .int .i64 b2, .int .i64 b3, .int .i64 b4, .int .i64 b5, .int .i64 b6, .int .i64 b7, .int .i64 b8, .int .i64 b9] 27)).cell? ⟨w5.heap.size, 5, none⟩ = some (.int .i64 b5) := cell_new (by simp) rfl
  have y6 : (w5.alloc (.cells #[.int .i64 b0, .int .i64 b1, .int .i64 b2, .int .i64 b3, .int .i64 b4, .int .i64 b5, .int .i64 b6, .int .i64 b7, .int .i64 b8, .int .i64 b9] 27)).cell? ⟨w5.heap.size, 6, none⟩ = some (.int .i64 b6) := cell_new (by simp) rfl
  have y7 : (w5.alloc (.cells #[.int .i64 b0, .int .i64 b1, .int .i64 b2, .int .i64 b3, .int .i64 b4, .int .i64 b5, .int .i64 b6, .int .i64 b7, .int .i64 b8, .int .i64 b9] 27)).cell? ⟨w5.heap.size, 7, none⟩ = some (.int .i64 b7) := cell_new (by simp) rfl
  have y8 : (w5.alloc (.cells #[.int .i64 b0, .int .i64 b1, .int .i64 b2, .int .i64 b3, .int .i64 b4, .int .i64 b5, .int .i64 b6, .int .i64 b7, .int .i64 b8, .int .i64 b9] 27)).cell? ⟨w5.heap.size, 8, none⟩ = some (.int .i64 b8) := cell_new (by simp) rfl
  have y9 : (w5.alloc (.cells #[.int .i64 b0, .int .i64 b1, .int .i64 b2, .int .i64 b3, .int .i64 b4, .int .i64 b5, .int .i64 b6, .int .i64 b7, .int .i64 b8, .int .i64 b9] 27)).cell? ⟨w5.heap.size, 9, none⟩ = some (.int .i64 b9) := cell_new (by simp) rfl
  have zy : w5.heap.size < (w5.alloc (.cells #[.int .i64 b0, .int .i64 b1, .int .i64 b2, .int .i64 b3, .int .i64 b4, .int .i64 b5, .int .i64 b6, .int .i64 b7, .int .i64 b8, .int .i64 b9] 27)).heap.size := World.block_lt_of_cell? _ _ y0
  generalize (w5.alloc (.cells #[.int .i64 b0, .int .i64 b1, .int .i64 b2, .int .i64 b3, .int .i64 b4, .int .i64 b5, .int .i64 b6, .int .i64 b7, .int .i64 b8, .int .i64 b9] 27)) = w6 at *
  have h6 : Below w.heap.size w w6 := (h5).trans ((hb6).mono (h5).size)
  replace x0 := cell_below' hb6 x0
  replace x1 := cell_below' hb6 x1
  replace x2 := cell_below' hb6 x2
  replace x3 := cell_below' hb6 x3
  replace x4 := cell_below' hb6 x4
  replace x5 := cell_below' hb6 x5
  replace x6 := cell_below' hb6 x6
  replace x7 := cell_below' hb6 x7
  replace x8 := cell_below' hb6 x8
  replace x9 := cell_below' hb6 x9
  replace zx := Nat.lt_of_lt_of_le zx (hb6).size
  clear hb6 h5
  go_wp2_with (fail)
  refine (HPE.out _ (HE.out.low h6) h6.size).mono ?_
  rintro e w7 ⟨A7, c7, rfl, I7, k7⟩
  have h7 : Below w.heap.size w w7 := (h6).trans ((k7).mono (h6).size)
  replace x0 := cell_below' k7 x0
  replace x1 := cell_below' k7 x1
  replace x2 := cell_below' k7 x2
  replace x3 := cell_below' k7 x3
  replace x4 := cell_below' k7 x4
  replace x5 := cell_below' k7 x5
  replace x6 := cell_below' k7 x6
  replace x7 := cell_below' k7 x7
  replace x8 := cell_below' k7 x8
  replace x9 := cell_below' k7 x9
  replace zx := Nat.lt_of_lt_of_le zx (k7).size
  replace y0 := cell_below' k7 y0
  replace y1 := cell_below' k7 y1
  replace y2 := cell_below' k7 y2
  replace y3 := cell_below' k7 y3
  replace y4 := cell_below' k7 y4
  replace y5 := cell_below' k7 y5
  replace y6 := cell_below' k7 y6
  replace y7 := cell_below' k7 y7
  replace y8 := cell_below' k7 y8
  replace y9 := cell_below' k7 y9
  replace zy := Nat.lt_of_lt_of_le zy (k7).size
  clear k7 h6
  go_wp2_with (fail)
  refine (HRPR.out _).mono ?_
  rintro e w8 ⟨rfl, k8⟩
  have I8 := RowsAt.below I7 k8
  clear I7 HPE HRPR
  have h8 : Below w.heap.size w w8 := (h7).trans ((k8).mono (h7).size)
  replace x0 := cell_below' k8 x0
  replace x1 := cell_below' k8 x1
  replace x2 := cell_below' k8 x2
  replace x3 := cell_below' k8 x3
  replace x4 := cell_below' k8 x4
  replace x5 := cell_below' k8 x5
  replace x6 := cell_below' k8 x6
  replace x7 := cell_below' k8 x7
  replace x8 := cell_below' k8 x8
  replace x9 := cell_below' k8 x9
  replace zx := Nat.lt_of_lt_of_le zx (k8).size
  replace y0 := cell_below' k8 y0
  replace y1 := cell_below' k8 y1
  replace y2 := cell_below' k8 y2
  replace y3 := cell_below' k8 y3
  replace y4 := cell_below' k8 y4
  replace y5 := cell_below' k8 y5
  replace y6 := cell_below' k8 y6
  replace y7 := cell_below' k8 y7
  replace y8 := cell_below' k8 y8
  replace y9 := cell_below' k8 y9
  replace zy := Nat.lt_of_lt_of_le zy (k8).size
  clear k8 h7
  go_upto_region 9 with (fail)
  have hb9 : Below w8.heap.size w8 (w8.alloc (.cells #[.int .i64 b0, .int .i64 b1, .int .i64 b2, .int .i64 b3, .int .i64 b4, .int .i64 b5, .int .i64 b6, .int .i64 b7, .int .i64 b8, .int .i64 b9] 27)) := below_alloc _ (Nat.le_refl _) (Below.refl _ _)
  have z0 : (w8.alloc (.cells #[.int .i64 b0, .int .i64 b1, .int .i64 b2, .int .i64 b3, .int .i64 b4, .int .i64 b5, .int .i64 b6, .int .i64 b7, .int .i64 b8, .int .i64 b9] 27)).cell? ⟨w8.heap.size, 0, none⟩ = some (.int .i64 b0) := cell_new (by simp) rfl
  have z1 : (w8.alloc (.cells #[.int .i64 b0, .int .i64 b1, .int .i64 b2, .int .i64 b3, .int .i64 b4, .int .i64 b5, .int .i64 b6, .int .i64 b7, .int .i64 b8, .int .i64 b9] 27)).cell? ⟨w8.heap.size, 1, none⟩ = some (.int .i64 b1) := cell_new (by simp) rfl
  have z2 : (w8.alloc (.cells #[.int .i64 b0, .int .i64 b1, .int .i64 b2, .int .i64 b3, .int .i64 b4, .int .i64 b5, .int .i64 b6, .int .i64 b7, .int .i64 b8, .int .i64 b9] 27)).cell? ⟨w8.heap.size, 2, none⟩ = some (.int .i64 b2) := cell_new (by simp) rfl
  have z3 : (w8.alloc (.cells #[.int .i64 b0, .int .i64 b1, .int .i64 b2, .int .i64 b3, .int .i64 b4, .int .i64 b5, .int .i64 b6, .int .i64 b7, .int .i64 b8, .int .i64 b9] 27)).cell? ⟨w8.heap.size, 3, none⟩ = some (.int .i64 b3) := cell_new (by simp) rfl
  have z4 : (w8.alloc (.cells #[.int .i64 b0, .int .i64 b1, .int .i64 b2, .int .i64 b3, .int .i64 b4, .int .i64 b5, .int .i64 b6, .int .i64 b7, .int .i64 b8, .int .i64 b9] 27)).cell? ⟨w8.heap.size, 4, none⟩ = some (.int .i64 b4) := cell_new (by simp) rfl
  have z5 : (w8.alloc (.cells #[.int .i64 b0, .int .i64 b1, .int .i64 b2, .int .i64 b3, .int .i64 b4, .int .i64 b5, .int .i64 b6, .int .i64 b7, .int .i64 b8, .int .i64 b9] 27)).cell? ⟨w8.heap.size, 5, none⟩ = some (.int .i64 b5) := cell_new (by simp) rfl
  have z6 : (w8.alloc (.cells #[.int .i64 b0, .int .i64 b1, .int .i64 b2, .int .i64 b3, .int .i64 b4, .int .i64 b5, .int .i64 b6, .int .i64 b7, .int .i64 b8, .int .i64 b9] 27)).cell? ⟨w8.heap.size, 6, none⟩ = some (.int .i64 b6) := cell_new (by simp) rfl
  have z7 : (w8.alloc (.cells #[.int .i64 b0, .int .i64 b1, .int .i64 b2, .int .i64 b3, .int .i64 b4, .int .i64 b5, .int .i64 b6, .int .i64 b7, .int .i64 b8, .int .i64 b9] 27)).cell? ⟨w8.heap.size, 7, none⟩ = some (.int .i64 b7) := cell_new (by simp) rfl
  have z8 : (w8.alloc (.cells #[.int .i64 b0, .int .i64 b1, .int .i64 b2, .int .i64 b3, .int .i64 b4, .int .i64 b5, .int .i64 b6, .int .i64 b7, .int .i64 b8, .int .i64 b9] 27)).cell? ⟨w8.heap.size, 8, none⟩ = some (.int .i64 b8) := cell_new (by simp) rfl
  have z9 : (w8.alloc (.cells #[.int .i64 b0, .int .i64 b1, .int .i64 b2, .int .i64 b3, .int .i64 b4, .int .i64 b5, .int .i64 b6, .int .i64 b7, .int .i64 b8, .int .i64 b9] 27)).cell? ⟨w8.heap.size, 9, none⟩ = some (.int .i64 b9) := cell_new (by simp) rfl
  have zz : w8.heap.size < (w8.alloc (.cells #[.int .i64 b0, .int .i64 b1, .int .i64 b2, .int .i64 b3, .int .i64 b4, .int .i64 b5, .int .i64 b6, .int .i64 b7, .int .i64 b8, .int .i64 b9] 27)).heap.size := World.block_lt_of_cell? _ _ z0
  generalize (w8.alloc (.cells #[.int .i64 b0, .int .i64 b1, .int .i64 b2, .int .i64 b3, .int .i64 b4, .int .i64 b5, .int .i64 b6, .int .i64 b7, .int .i64 b8, .int .i64 b9] 27)) = w9 at *
  have I9 := RowsAt.below I8 hb9
  clear I8
  have h9 : Below w.heap.size w w9 := (h8).trans ((hb9).mono (h8).size)
  replace x0 := cell_below' hb9 x0
  replace x1 := cell_below' hb9 x1
  replace x2 := cell_below' hb9 x2
  replace x3 := cell_below' hb9 x3
  replace x4 := cell_below' hb9 x4
  replace x5 := cell_below' hb9 x5
  replace x6 := cell_below' hb9 x6
  replace x7 := cell_below' hb9 x7
  replace x8 := cell_below' hb9 x8
  replace x9 := cell_below' hb9 x9
  replace zx := Nat.lt_of_lt_of_le zx (hb9).size
  replace y0 := cell_below' hb9 y0
  replace y1 := cell_below' hb9 y1
  replace y2 := cell_below' hb9 y2
  replace y3 := cell_below' hb9 y3
  replace y4 := cell_below' hb9 y4
  replace y5 := cell_below' hb9 y5
  replace y6 := cell_below' hb9 y6
  replace y7 := cell_below' hb9 y7
  replace y8 := cell_below' hb9 y8
  replace y9 := cell_below' hb9 y9
  replace zy := Nat.lt_of_lt_of_le zy (hb9).size
  clear hb9 h8
  go_wp2_with (fail)
  refine (HRPE.out _).mono ?_
  rintro e w10 ⟨A10, c10, rfl, J10, k10⟩
  have I10 := RowsAt.below I9 k10
  clear I9 HRPE
  have h10 : Below w.heap.size w w10 := (h9).trans ((k10).mono (h9).size)
  replace x0 := cell_below' k10 x0
  replace x1 := cell_below' k10 x1
  replace x2 := cell_below' k10 x2
  replace x3 := cell_below' k10 x3
  replace x4 := cell_below' k10 x4
  replace x5 := cell_below' k10 x5
  replace x6 := cell_below' k10 x6
  replace x7 := cell_below' k10 x7
  replace x8 := cell_below' k10 x8
  replace x9 := cell_below' k10 x9
  replace zx := Nat.lt_of_lt_of_le zx (k10).size
  replace y0 := cell_below' k10 y0
  replace y1 := cell_below' k10 y1
  replace y2 := cell_below' k10 y2
  replace y3 := cell_below' k10 y3
  replace y4 := cell_below' k10 y4
  replace y5 := cell_below' k10 y5
  replace y6 := cell_below' k10 y6
  replace y7 := cell_below' k10 y7
  replace y8 := cell_below' k10 y8
  replace y9 := cell_below' k10 y9
  replace zy := Nat.lt_of_lt_of_le zy (k10).size
  replace z0 := cell_below' k10 z0
  replace z1 := cell_below' k10 z1
  replace z2 := cell_below' k10 z2
  replace z3 := cell_below' k10 z3
  replace z4 := cell_below' k10 z4
  replace z5 := cell_below' k10 z5
  replace z6 := cell_below' k10 z6
  replace z7 := cell_below' k10 z7
  replace z8 := cell_below' k10 z8
  replace z9 := cell_below' k10 z9
  replace zz := Nat.lt_of_lt_of_le zz (k10).size
  clear k10 h9
  go_wp2_with (fail)
  refine (HRF.out _).mono ?_
  rintro e w11 ⟨rfl, k11⟩
  have I11 := RowsAt.below I10 k11
  have J11 := RowsAt.below J10 k11
  clear I10 J10 HRF
  have h11 : Below w.heap.size w w11 := (h10).trans ((k11).mono (h10).size)
  replace x0 := cell_below' k11 x0
  replace x1 := cell_below' k11 x1
  replace x2 := cell_below' k11 x2
  replace x3 := cell_below' k11 x3
  replace x4 := cell_below' k11 x4
  replace x5 := cell_below' k11 x5
  replace x6 := cell_below' k11 x6
  replace x7 := cell_below' k11 x7
  replace x8 := cell_below' k11 x8
  replace x9 := cell_below' k11 x9
  replace zx := Nat.lt_of_lt_of_le zx (k11).size
  replace y0 := cell_below' k11 y0
  replace y1 := cell_below' k11 y1
  replace y2 := cell_below' k11 y2
  replace y3 := cell_below' k11 y3
  replace y4 := cell_below' k11 y4
  replace y5 := cell_below' k11 y5
  replace y6 := cell_below' k11 y6
  replace y7 := cell_below' k11 y7
  replace y8 := cell_below' k11 y8
  replace y9 := cell_below' k11 y9
  replace zy := Nat.lt_of_lt_of_le zy (k11).size
  replace z0 := cell_below' k11 z0
  replace z1 := cell_below' k11 z1
  replace z2 := cell_below' k11 z2
  replace z3 := cell_below' k11 z3
  replace z4 := cell_below' k11 z4
  replace z5 := cell_below' k11 z5
  replace z6 := cell_below' k11 z6
  replace z7 := cell_below' k11 z7
  replace z8 := cell_below' k11 z8
  replace z9 := cell_below' k11 z9
  replace zz := Nat.lt_of_lt_of_le zz (k11).size
  clear k11 h10
  go_wp2_with (fail)
  refine (HRE.out _ _ _ (RowsAt.below hA h11)).mono ?_
  rintro e w12 ⟨rfl, k12⟩
  have I12 := RowsAt.below I11 k12
  have J12 := RowsAt.below J11 k12
  clear I11 J11 HRE
  have h12 : Below w.heap.size w w12 := (h11).trans ((k12).mono (h11).size)
  replace x0 := cell_below' k12 x0
  replace x1 := cell_below' k12 x1
  replace x2 := cell_below' k12 x2
  replace x3 := cell_below' k12 x3
  replace x4 := cell_below' k12 x4
  replace x5 := cell_below' k12 x5
  replace x6 := cell_below' k12 x6
  replace x7 := cell_below' k12 x7
  replace x8 := cell_below' k12 x8
  replace x9 := cell_below' k12 x9
  replace zx := Nat.lt_of_lt_of_le zx (k12).size
  replace y0 := cell_below' k12 y0
  replace y1 := cell_below' k12 y1
  replace y2 := cell_below' k12 y2
  replace y3 := cell_below' k12 y3
  replace y4 := cell_below' k12 y4
  replace y5 := cell_below' k12 y5
  replace y6 := cell_below' k12 y6
  replace y7 := cell_below' k12 y7
  replace y8 := cell_below' k12 y8
  replace y9 := cell_below' k12 y9
  replace zy := Nat.lt_of_lt_of_le zy (k12).size
  replace z0 := cell_below' k12 z0
  replace z1 := cell_below' k12 z1
  replace z2 := cell_below' k12 z2
  replace z3 := cell_below' k12 z3
  replace z4 := cell_below' k12 z4
  replace z5 := cell_below' k12 z5
  replace z6 := cell_below' k12 z6
  replace z7 := cell_below' k12 z7
  replace z8 := cell_below' k12 z8
  replace z9 := cell_below' k12 z9
  replace zz := Nat.lt_of_lt_of_le zz (k12).size
  clear k12 h11
  go_wp2_with (fail)
  refine (HSM.out _ _ _ _ _ I12 J12 HQL.out).mono ?_
  rintro e w13 ⟨rfl, k13⟩
  clear I12 J12 HSM hneB
  have h13 : Below w.heap.size w w13 := (h12).trans ((k13).mono (h12).size)
  replace x0 := cell_below' k13 x0
  replace x1 := cell_below' k13 x1
  replace x2 := cell_below' k13 x2
  replace x3 := cell_below' k13 x3
  replace x4 := cell_below' k13 x4
  replace x5 := cell_below' k13 x5
  replace x6 := cell_below' k13 x6
  replace x7 := cell_below' k13 x7
  replace x8 := cell_below' k13 x8
  replace x9 := cell_below' k13 x9
  replace zx := Nat.lt_of_lt_of_le zx (k13).size
  clear k13 h12
  clear y0 y1 y2 y3 y4 y5 y6 y7 y8 y9 z0 z1 z2 z3 z4 z5 z6 z7 z8 z9 zy zz
  by_cases hE : ruE ⟨⟨a0, a1⟩, ⟨a2, a3⟩, a4, a5, a6, a7, a8, a9⟩ = 0
  · have HB := Lib.hid (HRB.out hE)
    rw [HB.out] at HPR2
    rw [hE] at HCR
    have HPR3 : Hid (∀ W, Evn w.heap.size W → w.heap.size ≤ W.heap.size → Calls Tryz.prog 7 #[.string fr] W fun e w' => e = .returned (.tuple #[ruv ⟨⟨a0, a1⟩, ⟨a2, a3⟩, a4, a5, a6, a7, a8, a9⟩, .int .i64 0]) ∧ Below W.heap.size W w') := Lib.hid HPR2.out
    clear hE HPR2 HRB
    go_wp2_with (fail)
    refine (HCR.out _).mono ?_
    rintro e w14 ⟨rfl, k14⟩
    have h14 : Below w.heap.size w w14 := (h13).trans ((k14).mono (h13).size)
    replace x0 := cell_below' k14 x0
    replace x1 := cell_below' k14 x1
    replace x2 := cell_below' k14 x2
    replace x3 := cell_below' k14 x3
    replace x4 := cell_below' k14 x4
    replace x5 := cell_below' k14 x5
    replace x6 := cell_below' k14 x6
    replace x7 := cell_below' k14 x7
    replace x8 := cell_below' k14 x8
    replace x9 := cell_below' k14 x9
    replace zx := Nat.lt_of_lt_of_le zx (k14).size
    clear k14 h13
    go_wp2_with (fail)
    refine (HPR3.out _ (HE.out.low h14) h14.size).mono ?_
    rintro e w15 ⟨rfl, k15⟩
    have h15 : Below w.heap.size w w15 := (h14).trans ((k15).mono (h14).size)
    replace x0 := cell_below' k15 x0
    replace x1 := cell_below' k15 x1
    replace x2 := cell_below' k15 x2
    replace x3 := cell_below' k15 x3
    replace x4 := cell_below' k15 x4
    replace x5 := cell_below' k15 x5
    replace x6 := cell_below' k15 x6
    replace x7 := cell_below' k15 x7
    replace x8 := cell_below' k15 x8
    replace x9 := cell_below' k15 x9
    replace zx := Nat.lt_of_lt_of_le zx (k15).size
    clear k15 h14
    clear HCR HPR3
    go_upto_region 14 with (fail)
    have hb16 : Below w15.heap.size w15 (w15.alloc (.cells #[.int .i64 a0, .int .i64 a1, .int .i64 a2, .int .i64 a3, .int .i64 a4, .int .i64 a5, .int .i64 a6, .int .i64 a7, .int .i64 a8, .int .i64 a9] 27)) := below_alloc _ (Nat.le_refl _) (Below.refl _ _)
    have v0 : (w15.alloc (.cells #[.int .i64 a0, .int .i64 a1, .int .i64 a2, .int .i64 a3, .int .i64 a4, .int .i64 a5, .int .i64 a6, .int .i64 a7, .int .i64 a8, .int .i64 a9] 27)).cell? ⟨w15.heap.size, 0, none⟩ = some (.int .i64 a0) := cell_new (by simp) rfl
    have v1 : (w15.alloc (.cells #[.int .i64 a0, .int .i64 a1, .int .i64 a2, .int .i64 a3, .int .i64 a4, .int .i64 a5, .int .i64 a6, .int .i64 a7, .int .i64 a8, .int .i64 a9] 27)).cell? ⟨w15.heap.size, 1, none⟩ = some (.int .i64 a1) := cell_new (by simp) rfl
    have v2 : (w15.alloc (.cells #[.int .i64 a0, .int .i64 a1, .int .i64 a2, .int .i64 a3, .int .i64 a4, .int .i64 a5, .int .i64 a6, .int .i64 a7, .int .i64 a8, .int .i64 a9] 27)).cell? ⟨w15.heap.size, 2, none⟩ = some (.int .i64 a2) := cell_new (by simp) rfl
    have v3 : (w15.alloc (.cells #[.int .i64 a0, .int .i64 a1, .int .i64 a2, .int .i64 a3, .int .i64 a4, .int .i64 a5, .int .i64 a6, .int .i64 a7, .int .i64 a8, .int .i64 a9] 27)).cell? ⟨w15.heap.size, 3, none⟩ = some (.int .i64 a3) := cell_new (by simp) rfl
    have v4 : (w15.alloc (.cells #[.int .i64 a0, .int .i64 a1, .int .i64 a2, .int .i64 a3, .int .i64 a4, .int .i64 a5, .int .i64 a6, .int .i64 a7, .int .i64 a8, .int .i64 a9] 27)).cell? ⟨w15.heap.size, 4, none⟩ = some (.int .i64 a4) := cell_new (by simp) rfl
    have v5 : (w15.alloc (.cells #[.int .i64 a0, .int .i64 a1, .int .i64 a2, .int .i64 a3, .int .i64 a4, .int .i64 a5, .int .i64 a6, .int .i64 a7, .int .i64 a8, .int .i64 a9] 27)).cell? ⟨w15.heap.size, 5, none⟩ = some (.int .i64 a5) := cell_new (by simp) rfl
    have v6 : (w15.alloc (.cells #[.int .i64 a0, .int .i64 a1, .int .i64 a2, .int .i64 a3, .int .i64 a4, .int .i64 a5, .int .i64 a6, .int .i64 a7, .int .i64 a8, .int .i64 a9] 27)).cell? ⟨w15.heap.size, 6, none⟩ = some (.int .i64 a6) := cell_new (by simp) rfl
    have v7 : (w15.alloc (.cells #[.int .i64 a0, .int .i64 a1, .int .i64 a2, .int .i64 a3, .int .i64 a4, .int .i64 a5, .int .i64 a6, .int .i64 a7, .int .i64 a8, .int .i64 a9] 27)).cell? ⟨w15.heap.size, 7, none⟩ = some (.int .i64 a7) := cell_new (by simp) rfl
    have v8 : (w15.alloc (.cells #[.int .i64 a0, .int .i64 a1, .int .i64 a2, .int .i64 a3, .int .i64 a4, .int .i64 a5, .int .i64 a6, .int .i64 a7, .int .i64 a8, .int .i64 a9] 27)).cell? ⟨w15.heap.size, 8, none⟩ = some (.int .i64 a8) := cell_new (by simp) rfl
    have v9 : (w15.alloc (.cells #[.int .i64 a0, .int .i64 a1, .int .i64 a2, .int .i64 a3, .int .i64 a4, .int .i64 a5, .int .i64 a6, .int .i64 a7, .int .i64 a8, .int .i64 a9] 27)).cell? ⟨w15.heap.size, 9, none⟩ = some (.int .i64 a9) := cell_new (by simp) rfl
    have zv : w15.heap.size < (w15.alloc (.cells #[.int .i64 a0, .int .i64 a1, .int .i64 a2, .int .i64 a3, .int .i64 a4, .int .i64 a5, .int .i64 a6, .int .i64 a7, .int .i64 a8, .int .i64 a9] 27)).heap.size := World.block_lt_of_cell? _ _ v0
    generalize (w15.alloc (.cells #[.int .i64 a0, .int .i64 a1, .int .i64 a2, .int .i64 a3, .int .i64 a4, .int .i64 a5, .int .i64 a6, .int .i64 a7, .int .i64 a8, .int .i64 a9] 27)) = w16 at *
    have h16 : Below w.heap.size w w16 := (h15).trans ((hb16).mono (h15).size)
    replace x0 := cell_below' hb16 x0
    replace x1 := cell_below' hb16 x1
    replace x2 := cell_below' hb16 x2
    replace x3 := cell_below' hb16 x3
    replace x4 := cell_below' hb16 x4
    replace x5 := cell_below' hb16 x5
    replace x6 := cell_below' hb16 x6
    replace x7 := cell_below' hb16 x7
    replace x8 := cell_below' hb16 x8
    replace x9 := cell_below' hb16 x9
    replace zx := Nat.lt_of_lt_of_le zx (hb16).size
    clear hb16 h15
    by_cases hE2 : itsE (-1) l = 0
    · have HB2 := Lib.hid (HEB.out hE2)
      rw [HB2.out] at HPE2
      rw [hE2] at HEER
      have HPE3 : Hid (∀ W, Evn w.heap.size W → w.heap.size ≤ W.heap.size → Calls Tryz.prog 17 #[.string fe] W fun e w' => ∃ (A : Option Addr) (c : Nat), e = .returned (.tuple #[.slice A l.length c, .int .i64 0]) ∧ ItsAt w' A l ∧ Below W.heap.size W w') := Lib.hid HPE2.out
      clear hE2 HPE2
      go_wp2_with (fail)
      refine (HEER.out _ _ _ (RowsAt.below hA h16)).mono ?_
      rintro e u1 ⟨rfl, j1⟩
      have g1 := h16.trans (j1.mono h16.size)
      go_wp2_with (fail)
      refine (HPE3.out _ (HE.out.low g1) g1.size).mono ?_
      rintro e u2 ⟨Au, cu, rfl, Iu, j2⟩
      have g2 := g1.trans (j2.mono g1.size)
      go_wp2_with (fail)
      refine (HSM2.out _ _ _ _ _ Iu (RowsAt.below hA g2)).mono ?_
      rintro e u3 ⟨rfl, j3⟩
      have g3 := g2.trans (j3.mono g2.size)
      go_wp2_with (fail)
      go_ret
      exact ⟨rfl, g3⟩
    · have e8 : (itsE (-1) l != 0) = true := by simpa using hE2
      generalize itsE (-1) l = E2 at *
      clear hE2
      go_wp2_with (fail)
      refine (HEER.out _ _ _ (RowsAt.below hA h16)).mono ?_
      rintro e u1 ⟨rfl, j1⟩
      have g1 := h16.trans (j1.mono h16.size)
      go_wp2_with (fail)
      go_ret
      exact ⟨rfl, g1⟩
  · have e7 : (ruE ⟨⟨a0, a1⟩, ⟨a2, a3⟩, a4, a5, a6, a7, a8, a9⟩ == 0) = false := by simpa using hE
    generalize ruE ⟨⟨a0, a1⟩, ⟨a2, a3⟩, a4, a5, a6, a7, a8, a9⟩ = E at *
    clear hE HPR2 HRB
    go_wp2_with (fail)
    refine (HCR.out _).mono ?_
    rintro e w14 ⟨rfl, k14⟩
    have h14 : Below w.heap.size w w14 := (h13).trans ((k14).mono (h13).size)
    replace x0 := cell_below' k14 x0
    replace x1 := cell_below' k14 x1
    replace x2 := cell_below' k14 x2
    replace x3 := cell_below' k14 x3
    replace x4 := cell_below' k14 x4
    replace x5 := cell_below' k14 x5
    replace x6 := cell_below' k14 x6
    replace x7 := cell_below' k14 x7
    replace x8 := cell_below' k14 x8
    replace x9 := cell_below' k14 x9
    replace zx := Nat.lt_of_lt_of_le zx (k14).size
    clear k14 h13
    clear HCR
    by_cases hE2 : itsE (-1) l = 0
    · have HB2 := Lib.hid (HEB.out hE2)
      rw [HB2.out] at HPE2
      rw [hE2] at HEER
      have HPE3 : Hid (∀ W, Evn w.heap.size W → w.heap.size ≤ W.heap.size → Calls Tryz.prog 17 #[.string fe] W fun e w' => ∃ (A : Option Addr) (c : Nat), e = .returned (.tuple #[.slice A l.length c, .int .i64 0]) ∧ ItsAt w' A l ∧ Below W.heap.size W w') := Lib.hid HPE2.out
      clear hE2 HPE2
      go_wp2_with (fail)
      refine (HEER.out _ _ _ (RowsAt.below hA h14)).mono ?_
      rintro e u1 ⟨rfl, j1⟩
      have g1 := h14.trans (j1.mono h14.size)
      go_wp2_with (fail)
      refine (HPE3.out _ (HE.out.low g1) g1.size).mono ?_
      rintro e u2 ⟨Au, cu, rfl, Iu, j2⟩
      have g2 := g1.trans (j2.mono g1.size)
      go_wp2_with (fail)
      refine (HSM2.out _ _ _ _ _ Iu (RowsAt.below hA g2)).mono ?_
      rintro e u3 ⟨rfl, j3⟩
      have g3 := g2.trans (j3.mono g2.size)
      go_wp2_with (fail)
      go_ret
      exact ⟨rfl, g3⟩
    · have e8 : (itsE (-1) l != 0) = true := by simpa using hE2
      generalize itsE (-1) l = E2 at *
      clear hE2
      go_wp2_with (fail)
      refine (HEER.out _ _ _ (RowsAt.below hA h14)).mono ?_
      rintro e u1 ⟨rfl, j1⟩
      have g1 := h14.trans (j1.mono h14.size)
      go_wp2_with (fail)
      go_ret
      exact ⟨rfl, g1⟩
end Go.Proofs.YtlnbbioponmcfaaGreatDoor
