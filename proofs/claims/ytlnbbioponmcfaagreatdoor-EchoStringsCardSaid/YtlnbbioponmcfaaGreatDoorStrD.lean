/-
  The strings' small functions: a number written (Decimal).
-/
import Derived.Test.YtlnbbioponmcfaaGreatDoorStrP
import Derived.Lib.ItoaLen
import Derived.Test.YtlnbbioponmcfaaGreatDoorESmp
import Derived.Test.YtlnbbioponmcfaaGreatDoorEFmt
namespace Go.Proofs.YtlnbbioponmcfaaGreatDoor
open Go.ChangeShapes Go.WideShapes Go.ChangeAt Go.RowKit
set_option linter.unusedVariables false
set_option linter.unusedSimpArgs false

theorem one_byte_str (c : Nat) (hc : c < 256) (W : World) (t : TypeId) :
    (convert 140 9 (.slice (some ⟨W.heap.size, 0, none⟩) 1 1)).run Tryz.prog (W.alloc (.cells #[.int .u8 (c : Int)] t)) = .ok (.string ⟨#[UInt8.ofNat c]⟩) (W.alloc (.cells #[.int .u8 (c : Int)] t)) := by
  have h := run_convert_bytes_back (P := Tryz.prog) (W.alloc (.cells #[.int .u8 (c : Int)] t)) 140 9 5 ⟨W.heap.size, 0, none⟩ 1 [UInt8.ofNat c] Tryz.underlying140 Tryz.underlying5 Tryz.underlying9 (fun j hj => by
    obtain rfl : j = 0 := by simpa using hj
    have : (UInt8.ofNat c).toNat = c := by rw [UInt8.toNat_ofNat']; omega
    show (W.alloc (.cells #[.int .u8 (c : Int)] t)).cell? (⟨W.heap.size, 0, none⟩ : Addr) = some (Value.int .u8 ((UInt8.ofNat c).toNat : Int))
    rw [this]
    exact cell_new (by simp) rfl)
  simpa using h
theorem one_byte_str' {c : Nat} {x : Int} (hx : x = (c : Int)) (hc : c < 256) (W : World) (t : TypeId) :
    (convert 140 9 (.slice (some ⟨W.heap.size, 0, none⟩) 1 1)).run Tryz.prog (W.alloc (.cells #[.int .u8 x] t)) = .ok (.string ⟨#[UInt8.ofNat c]⟩) (W.alloc (.cells #[.int .u8 x] t)) := by
  subst hx
  exact one_byte_str c hc W t
/-- the digits of what is left -/
def ndz (u : Nat) : Nat := if u = 0 then 0 else Lib.nDigits u
theorem ndz_step {u : Nat} (h : u ≠ 0) : ndz (u / 10) + 1 = ndz u := by
  unfold ndz
  rw [if_neg h]
  by_cases h1 : u < 10
  · rw [if_pos (by omega), Lib.nDigits_small h1]
  · rw [if_neg (by omega), Lib.nDigits_big h1]
theorem decStep {u : Nat} (h : u ≠ 0) (r : List UInt8) : Lib.decDigits u ++ r = (if u / 10 = 0 then [] else Lib.decDigits (u / 10)) ++ (UInt8.ofNat (48 + u % 10) :: r) := by
  by_cases h1 : u < 10
  · rw [Lib.decDigits_one h1, if_pos (by omega), show u % 10 = u by omega]
    rfl
  · rw [decDigits_ge (by omega), if_neg (by omega)]
    simp
theorem wd_zero : wd 0 = ⟨#[48]⟩ := by
  unfold wd
  rw [itoa_nonneg (by omega)]
  show (⟨(Lib.decDigits 0).toArray⟩ : ByteArray) = _
  rw [Lib.decDigits_one (by decide)]
  rfl
theorem ba_cons (x : UInt8) (r : List UInt8) : (⟨#[x]⟩ : ByteArray) ++ ⟨r.toArray⟩ = ⟨(x :: r).toArray⟩ := by
  apply ByteArray.ext
  simp
set_option maxHeartbeats 4000000 in
theorem Decimal_any (n : Int) (w : World) (hn : I64 n) :
    Calls Tryz.prog 86 #[.int .i64 n] w fun e w' => e = .returned (.string (wd n)) ∧ Below w.heap.size w w' := by
  obtain ⟨hn0, hn1⟩ := hn
  obtain ⟨out, ho⟩ : ∃ o, o = wd n := ⟨_, rfl⟩
  rw [← ho]
  have HO := Lib.hid ho
  clear ho
  by_cases h0 : n = 0
  · subst h0
    have HZ := Lib.hid (HO.out.trans wd_zero)
    go_enter Tryz.func86, Tryz.ntmps86
    go_wp2_with (fail)
    go_ret
    exact ⟨by rw [HZ.out]; rfl, Below.refl _ _⟩
  have e1 : (n == 0) = false := by rw [beq_eq_false_iff_ne]; exact h0
  obtain ⟨sg, hsg⟩ : ∃ s : ByteArray, s = if n < 0 then ⟨#[45]⟩ else ⟨#[]⟩ := ⟨_, rfl⟩
  have hsgz : sg.size ≤ 1 := by rw [hsg]; split <;> decide
  have HSG := Lib.hid hsg
  clear hsg
  obtain ⟨b, hb⟩ : ∃ b, decide (n < 0) = b := ⟨_, rfl⟩
  have HB := Lib.hid hb
  go_enter Tryz.func86, Tryz.ntmps86
  go_upto_if 9 with (fail)
  go_cut [4] from 8 to 9 (fun t wx => t = .string sg ∧ wx = w)
  case first =>
    cases b
    rotate_left 1
    · have HS2 := Lib.hid (HSG.out.trans (if_pos (of_decide_eq_true HB.out)))
      clear hb
      go_wp2_with (fail)
      go_meet
      exact ⟨by rw [HS2.out], rfl⟩
    · have HS2 := Lib.hid (HSG.out.trans (if_neg (of_decide_eq_false HB.out)))
      clear hb
      go_wp2_with (fail)
      go_meet
      exact ⟨by rw [HS2.out], rfl⟩
  case rest =>
  obtain ⟨rfl, rfl⟩ := hcut
  clear e1 hb
  go_wp2_with (fail)
  go_loopw [0, 3] (fun i s wr => ∃ (z : Int) (S : ByteArray), i = .int .i64 z ∧ s = .string S ∧ (-9223372036854775808 ≤ z ∧ z ≤ 9223372036854775807) ∧ S.size + ndz z.natAbs ≤ 22 ∧ Lib.decDigits n.natAbs = (if z.natAbs = 0 then [] else Lib.decDigits z.natAbs) ++ S.data.toList ∧ Below wc.heap.size wc wr) (fun i _ _ => (intOf i).natAbs)
  case atStart => exact ⟨n, ⟨#[]⟩, rfl, rfl, ⟨hn0, hn1⟩, by have h1 := Lib.nDigits_le20 n.natAbs (by omega); have h2 : ndz n.natAbs ≤ 20 := (by unfold ndz; split <;> omega); show 0 + _ ≤ 22; omega, by rw [if_neg (by omega)]; simp, Below.refl _ _⟩
  case round =>
    obtain ⟨z, S, rfl, rfl, ⟨hz0, hz1⟩, hS, hd, hbr⟩ := hrel
    obtain ⟨wo, rfl⟩ : ∃ wo : World, wo = wr := ⟨_, rfl⟩
    have HD := Lib.hid hd
    clear hd
    by_cases hz : z = 0
    · subst hz
      have e2 : ((0 : Int) != 0) = false := by decide
      have HE : Hid (sg ++ S = out) := Lib.hid (by
        have hd := HD.out
        simp only [Int.natAbs_zero, if_true, List.nil_append] at hd
        rw [HO.out, HSG.out]
        unfold wd
        by_cases hneg : n < 0
        · rw [if_pos hneg, itoa_neg hneg, hd]
          apply ByteArray.ext
          simp
        · rw [if_neg hneg, itoa_nonneg (by omega), show n.toNat = n.natAbs by omega, hd]
          apply ByteArray.ext
          simp)
      have hS2 : S.size ≤ 22 := by omega
      clear hS
      go_wp2_with (fail)
      go_ret
      exact ⟨by rw [HE.out]; rfl, hbr⟩
    · have e2 : (z != 0) = true := by simpa using hz
      have hu : z.natAbs ≠ 0 := by omega
      have hst := decStep hu S.data.toList
      have hd1 : (z.tmod 10).natAbs = z.natAbs % 10 := Int.natAbs_tmod z 10
      have hq1 : (z.tdiv 10).natAbs = z.natAbs / 10 := Int.natAbs_tdiv z 10
      have hd2 : -10 < z.tmod 10 ∧ z.tmod 10 < 10 := by omega
      have hq2 : -9223372036854775808 ≤ z.tdiv 10 ∧ z.tdiv 10 ≤ 9223372036854775807 := by omega
      have HS3 : Hid (Lib.decDigits n.natAbs = (if z.natAbs / 10 = 0 then [] else Lib.decDigits (z.natAbs / 10)) ++ (UInt8.ofNat (48 + z.natAbs % 10) :: S.data.toList)) := Lib.hid (by
        have hd := HD.out
        rw [if_neg hu] at hd
        rw [hd, hst])
      have hnz := ndz_step hu
      have HNZ := Lib.hid (show S.size + 1 + ndz (z.natAbs / 10) ≤ 22 by omega)
      have hS9 : S.size ≤ 22 := by omega
      clear hst hS hnz
      have HSZ := Lib.hid (fun W => Size_any (z.tmod 10) W (by omega) (by omega))
      have habs : absI (z.tmod 10) = ((z.natAbs % 10 : Nat) : Int) := by rw [← hd1]; unfold absI; split <;> omega
      rw [habs] at HSZ
      obtain ⟨dd, hdd⟩ : ∃ d, d = z.natAbs % 10 := ⟨_, rfl⟩
      rw [← hdd] at HSZ HS3
      have hdd9 : dd ≤ 9 := by omega
      have hcv := fun (W : World) (t : TypeId) => one_byte_str' (c := 48 + dd) (x := 48 + (dd : Int)) (by omega) (by omega) W t
      have hw8 : IntKind.u8.wrap (48 + (dd : Int)) = 48 + (dd : Int) := by rw [IntKind.wrap_u8]; omega
      have hw9 : IntKind.i64.wrap (48 + (dd : Int)) = 48 + (dd : Int) := by rw [IntKind.wrap_i64]; omega
      obtain ⟨zq, hzq⟩ : ∃ q, q = z.tdiv 10 := ⟨_, rfl⟩
      obtain ⟨zr, hzr⟩ : ∃ q, q = z.tmod 10 := ⟨_, rfl⟩
      rw [← hzq] at hq1 hq2
      rw [← hzr] at HSZ
      have HQ := Lib.hid hq1
      have HU := Lib.hid hu
      clear hd1 hd2 habs hq1 hdd hu hz
      have hzq' := hzq.symm
      have hzr' := hzr.symm
      clear hzq hzr
      obtain ⟨x8, hx8⟩ : ∃ x : UInt8, x = UInt8.ofNat (48 + dd) := ⟨_, rfl⟩
      rw [← hx8] at HS3 hcv
      have hx1 : (⟨#[x8]⟩ : ByteArray).size = 1 := rfl
      clear hx8
      go_wp2_with (go_at_call 94; refine (HSZ.out _).mono ?_; rintro e w5 ⟨rfl, rfl⟩)
      exact ⟨⟨zq, ⟨#[x8]⟩ ++ S, rfl, rfl, hq2, by rw [HQ.out, ByteArray.size_append, hx1]; have := HNZ.out; omega, by rw [HS3.out, HQ.out]; simp, below_alloc _ (by have := hbr.size; omega) hbr⟩, by have h1 := HQ.out; have h2 := HU.out; show zq.natAbs < z.natAbs; omega⟩
end Go.Proofs.YtlnbbioponmcfaaGreatDoor
