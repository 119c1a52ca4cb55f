/-
  WarnLasts: the walk.
-/
import Derived.Test.YtcfbnmcdncndpaaLw06
import Derived.Test.YtcfbnmcdncndpaaStd
import Derived.IntWalk
namespace Go.Proofs.Ytcfbnmcdncndpaa
open Go.ChangeShapes Go.WideShapes Go.ChangeAt Go.RowKit
set_option linter.unusedVariables false
set_option linter.unusedSimpArgs false

def lastL (bs af : List Int) (t : Int) (i : Nat) : List Int := bs ++ (af.take i).map (fun a => max t a)
theorem lastL_len (bs af : List Int) (t : Int) (i : Nat) : (lastL bs af t i).length ≤ bs.length + af.length := by
  unfold lastL
  rw [List.length_append, List.length_map, List.length_take]
  omega
theorem lastL_next {bs af : List Int} {t : Int} {i : Nat} (h : i < af.length) : lastL bs af t (i + 1) = lastL bs af t i ++ [max t af[i]] := by
  unfold lastL
  rw [List.take_succ_eq_append_getElem h, List.map_append, List.append_assoc]
  rfl
theorem lastL_end {bs af : List Int} {t : Int} {i : Nat} (h : af.length ≤ i) : lastL bs af t (i + 1) = lastL bs af t i := by
  unfold lastL
  rw [List.take_of_length_le h, List.take_of_length_le (by omega)]
theorem isV_iff {x : Int} : isV x = true ↔ -1000000 ≤ x ∧ x ≤ 1000000 := withinB_true
theorem lastL_val {nm : ByteArray} {u d : List Int} {hold : Int} {bs af : List Int} {t : Int} (i : Nat) (hC : chkRE nm u d hold = 0) (hb : vlsE bs = 0) (ha : vlsE af = 0) (h1 : bs.length ≤ 60) (h2 : af.length ≤ 60) (ht : -1000000 ≤ t ∧ t ≤ 1000000) : valE nm u d hold (lastL bs af t i) = 0 := by
  rw [valE_vls, if_pos hC]
  have hl := lastL_len bs af t i
  have hb' := (vlsE_ok hb).2
  have ha' := (vlsE_ok ha).2
  unfold vlsE
  rw [firstE2, unl_zero (by decide), unl_zero (by decide), decide_eq_true_eq, Bool.not_eq_true', oddV_false]
  refine ⟨by omega, fun x hx => ?_⟩
  unfold lastL at hx
  rcases List.mem_append.1 hx with hx | hx
  · exact hb' x hx
  · obtain ⟨a, ha2, rfl⟩ := List.mem_map.1 hx
    have := isV_iff.1 (ha' a (List.mem_of_mem_take ha2))
    exact isV_iff.2 (by omega)
theorem lastL_run {nm : ByteArray} {u d : List Int} {hold : Int} (ho : OkR nm u d hold) {bs af : List Int} {k : Nat} (i : Nat) (hn : 0 < bs.length) (hk : reach u (bs[bs.length - 1]'(by omega)) = k) :
    (k : Int) ≤ (runS u d hold ⟨0, 0, 0⟩ (lastL bs af (gt d (k - 1)) i)).l ∧ (runS u d hold ⟨0, 0, 0⟩ (lastL bs af (gt d (k - 1)) i)).l ≤ u.length := by
  have e : bs = bs.take (bs.length - 1) ++ [bs[bs.length - 1]'(by omega)] := by
    have h := List.take_succ_eq_append_getElem (l := bs) (i := bs.length - 1) (by omega)
    rw [← h, List.take_of_length_le (by omega)]
  have h := run_lasts ho (bs.take (bs.length - 1)) ((af.take i).map (fun a => max (gt d (k - 1)) a)) _ hk (fun y hy => by
    obtain ⟨a, _, rfl⟩ := List.mem_map.1 hy
    exact .inr (by omega))
  rw [← e] at h
  exact h
def LastI (w : World) (nm : ByteArray) (A : Option Addr) (lu ca : Nat) (B : Option Addr) (ld cb : Nat) (hold : Int) (B0 : Nat) (bs af : List Int) (t : Int) (v i : Value) (wr : World) : Prop :=
  ∃ (k : Nat) (A' : Option Addr) (c' : Nat), k ≤ af.length + 1 ∧ i = .int .i64 k ∧ v = .slice A' (lastL bs af t k).length c' ∧ Below w.heap.size w wr ∧ B0 ≤ wr.heap.size ∧ RulAt w.heap.size nm A lu ca B ld cb hold wr ∧
    wr.ownsRow B0 3 1 (.slice A' (lastL bs af t k).length c') (lastL bs af t k).length (cellsOf 1 intC (lastL bs af t k))
theorem news1i {w : World} {vb : Nat} {x : Int} (hv : w.heap[vb]? = some (.cells #[.int .i64 x] 3)) : ∀ j u, [Value.int .i64 x][j]? = some u → w.cell? ((⟨vb, 0, none⟩ : Addr).add j) = some u := fun j u hu => by
  rw [Addr.add_lit, Nat.zero_add]
  exact blk_cell hv (by simpa using hu)
set_option maxRecDepth 100000 in
set_option maxHeartbeats 4000000 in
theorem WarnLasts_any (nm : ByteArray) (A : Option Addr) (u : List Int) (ca : Nat) (B : Option Addr) (d : List Int) (cb : Nat) (hold : Int) (V1 : Option Addr) (bs : List Int) (cv1 : Nat) (V2 : Option Addr) (af : List Int) (cv2 : Nat) (w : World) (hA : IntsAt w A u) (hB : IntsAt w B d) (hV : IntsAt w V1 bs) (hW : IntsAt w V2 af) :
    Calls Try.prog 7 #[.agg #[.string nm, .slice A u.length ca, .slice B d.length cb, .int .i64 hold], .slice V1 bs.length cv1, .slice V2 af.length cv2] w fun e w' => e = .returned (.bool true) ∧ Below w.heap.size w w' := by
  obtain ⟨i0, hi0, hz0', hz1', hz2'⟩ := infoInt_
  have HI := Lib.hid hi0
  have HZ0 := Lib.hid hz0'
  have HZ1 := Lib.hid hz1'
  have HZ2 := Lib.hid hz2'
  clear hi0 hz0' hz1' hz2'
  go_enter Try.func7, Try.ntmps7
  go_wp2_with (fail)
  have hb0 : Below w.heap.size w (w.alloc (.cells #[.string nm, .slice A u.length ca, .slice B d.length cb, .int .i64 hold] 24)) := below_alloc _ (Nat.le_refl _) (Below.refl _ _)
  have x0 : (w.alloc (.cells #[.string nm, .slice A u.length ca, .slice B d.length cb, .int .i64 hold] 24)).cell? ⟨w.heap.size, 0, none⟩ = some (.string nm) := cell_new (by simp) rfl
  have x1 : (w.alloc (.cells #[.string nm, .slice A u.length ca, .slice B d.length cb, .int .i64 hold] 24)).cell? ⟨w.heap.size, 1, none⟩ = some (.slice A u.length ca) := cell_new (by simp) rfl
  have x2 : (w.alloc (.cells #[.string nm, .slice A u.length ca, .slice B d.length cb, .int .i64 hold] 24)).cell? ⟨w.heap.size, 2, none⟩ = some (.slice B d.length cb) := cell_new (by simp) rfl
  have x3 : (w.alloc (.cells #[.string nm, .slice A u.length ca, .slice B d.length cb, .int .i64 hold] 24)).cell? ⟨w.heap.size, 3, none⟩ = some (.int .i64 hold) := cell_new (by simp) rfl
  have zx : w.heap.size < (w.alloc (.cells #[.string nm, .slice A u.length ca, .slice B d.length cb, .int .i64 hold] 24)).heap.size := World.block_lt_of_cell? _ _ x0
  generalize (w.alloc (.cells #[.string nm, .slice A u.length ca, .slice B d.length cb, .int .i64 hold] 24)) = w0 at *
  have hA0 := RowsAt.below hA hb0
  have hB0 := RowsAt.below hB hb0
  have hV0 := RowsAt.below hV hb0
  have hW0 := RowsAt.below hW hb0
  have HAw := Lib.hid hA
  have HBw := Lib.hid hB
  have HWw := Lib.hid hW
  clear hA hB hV hW
  refine (awake_any _).mono ?_
  rintro e w1 ⟨rfl, hb1⟩
  have h1 : Below w.heap.size w w1 := (hb0).trans ((hb1).mono (hb0).size)
  replace x0 := cell_below' hb1 x0
  replace x1 := cell_below' hb1 x1
  replace x2 := cell_below' hb1 x2
  replace x3 := cell_below' hb1 x3
  replace zx := Nat.lt_of_lt_of_le zx (hb1).size
  replace hA0 := RowsAt.below hA0 hb1
  replace hB0 := RowsAt.below hB0 hb1
  replace hV0 := RowsAt.below hV0 hb1
  replace hW0 := RowsAt.below hW0 hb1
  clear hb1 hb0
  go_wp2_with (fail)
  refine (few_any nm A u ca B d cb hold _).mono ?_
  rintro e w2 ⟨rfl, hb2⟩
  have h2 : Below w.heap.size w w2 := (h1).trans ((hb2).mono (h1).size)
  replace x0 := cell_below' hb2 x0
  replace x1 := cell_below' hb2 x1
  replace x2 := cell_below' hb2 x2
  replace x3 := cell_below' hb2 x3
  replace zx := Nat.lt_of_lt_of_le zx (hb2).size
  replace hA0 := RowsAt.below hA0 hb2
  replace hB0 := RowsAt.below hB0 hb2
  replace hV0 := RowsAt.below hV0 hb2
  replace hW0 := RowsAt.below hW0 hb2
  clear hb2 h1
  cases hf : fewB nm u d
  · clear hf
    go_wp2_with (fail)
    go_ret
    exact ⟨rfl, h2⟩
  obtain ⟨hu6, hd6, hn30⟩ := fewB_true hf
  clear hf
  go_wp2_with (fail)
  refine (RulesErr_any nm A u ca B d cb hold _ (by omega) (by omega) (by omega) hA0 hB0).mono ?_
  rintro e w3 ⟨rfl, hb3⟩
  have h3 : Below w.heap.size w w3 := (h2).trans ((hb3).mono (h2).size)
  replace x0 := cell_below' hb3 x0
  replace x1 := cell_below' hb3 x1
  replace x2 := cell_below' hb3 x2
  replace x3 := cell_below' hb3 x3
  replace zx := Nat.lt_of_lt_of_le zx (hb3).size
  replace hA0 := RowsAt.below hA0 hb3
  replace hB0 := RowsAt.below hB0 hb3
  replace hV0 := RowsAt.below hV0 hb3
  replace hW0 := RowsAt.below hW0 hb3
  clear hb3 h2
  by_cases hC : chkRE nm u d hold = 0
  rotate_left 1
  · have e2 : (chkRE nm u d hold != 0) = true := by simpa using hC
    generalize chkRE nm u d hold = C at *
    clear hC
    go_wp2_with (fail)
    go_ret
    exact ⟨rfl, h3⟩
  have HC := Lib.hid hC
  rw [hC]
  by_cases hn0 : bs.length = 0
  · have e1 : ((bs.length : Int) == 0) = true := by simp [hn0]
    clear hn0 hC
    go_wp2_with (fail)
    go_ret
    exact ⟨rfl, h3⟩
  have e1 : ((bs.length : Int) == 0) = false := by simp only [beq_eq_false_iff_ne]; omega
  by_cases hn60 : bs.length ≤ 60
  rotate_left 1
  · have e2 : decide ((60 : Int) < (bs.length : Int)) = true := by simp; omega
    clear hn60 hC
    go_wp2_with (fail)
    go_ret
    exact ⟨rfl, h3⟩
  have e2 : decide ((60 : Int) < (bs.length : Int)) = false := by simp; omega
  by_cases ha60 : af.length ≤ 60
  rotate_left 1
  · have e3 : decide ((60 : Int) < (af.length : Int)) = true := by simp; omega
    clear ha60 hC hn60
    go_wp2_with (fail)
    go_ret
    exact ⟨rfl, h3⟩
  have e3 : decide ((60 : Int) < (af.length : Int)) = false := by simp; omega
  have HV1 := Lib.hid (fun W (h : IntsAt W V1 bs) => ValuesErr_any V1 bs cv1 W (by omega) h)
  have HV2 := Lib.hid (fun W (h : IntsAt W V2 af) => ValuesErr_any V2 af cv2 W (by omega) h)
  by_cases hG1 : vlsE bs = 0
  rotate_left 1
  · have e4 : (vlsE bs != 0) = true := by simpa using hG1
    generalize vlsE bs = G1 at *
    clear hG1 hC
    go_wp2_with (go_at_call 39; refine (HV1.out _ hV0).mono ?_; rintro e w' ⟨rfl, rfl⟩)
    go_ret
    exact ⟨rfl, h3⟩
  have HG1 := Lib.hid hG1
  rw [hG1] at HV1
  clear hG1
  by_cases hG2 : vlsE af = 0
  rotate_left 1
  · have e4 : (vlsE af != 0) = true := by simpa using hG2
    generalize vlsE af = G2 at *
    clear hG2 hC
    go_wp2_with (go_at_call 39; first | (with_reducible refine (HV1.out _ hV0).mono ?_; rintro e w' ⟨rfl, rfl⟩) | (refine (HV2.out _ hW0).mono ?_; rintro e w' ⟨rfl, rfl⟩))
    go_ret
    exact ⟨rfl, h3⟩
  have HG2 := Lib.hid hG2
  rw [hG2] at HV2
  clear hG2 hC
  have HO := Lib.hid (okR_of HC.out)
  have HRUN := Lib.hid (fun (k : Nat) (i : Nat) (hk : reach u (bs[bs.length - 1]'(by omega)) = k) => lastL_run (af := af) HO.out i (by omega) hk)
  have hyv := isV_iff.1 ((vlsE_ok HG1.out).2 (bs[bs.length - 1]'(by omega)) (List.getElem_mem _))
  obtain ⟨bb, off, rfl, hbb, hcl⟩ := IntsAt.at_ hV0 (k := bs.length - 1) (by omega)
  generalize (bs[bs.length - 1]'(by omega)) = y at *
  have hlF : levF nm u d hold y = 0 := by
    unfold levF
    rw [HC.out, firstE_z, show withinB y (-1000000) 1000000 = true from withinB_true.2 hyv]
    rfl
  have hlV : levV nm u d hold y = reach u y := by
    unfold levV
    rw [if_pos hlF]
  have HLF := Lib.hid (fun (A' : Option Addr) (ca' : Nat) (B' : Option Addr) (cb' : Nat) (W : World) (hA' : IntsAt W A' u) (hB' : IntsAt W B' d) => LevelFrom_v nm A' u ca' B' d cb' hold y W (by omega) (by omega) (by omega) hA' hB')
  rw [hlF, hlV] at HLF
  have hrb := reach_bd u y
  have hbs0 : (1 : Int) ≤ (bs.length : Int) := by omega
  clear hlF hlV
  have hwr : IntKind.i64.wrap ((bs.length : Int) - 1) = (bs.length : Int) - 1 := IntWalk.i64_in _ (by omega)
  have hbs1 : (bs.length : Int) - 1 < (bs.length : Int) := by omega
  have hbs2 : ((bs.length : Int) - 1).toNat = bs.length - 1 := by omega
  go_upto_region 5 with (go_at_call 39; first | (with_reducible refine (HV1.out _ hV0).mono ?_; rintro e w' ⟨rfl, rfl⟩) | (refine (HV2.out _ hW0).mono ?_; rintro e w' ⟨rfl, rfl⟩))
  go_region_held3 (fun w' => w'.cell? ⟨w.heap.size, 0, none⟩ = some (.string nm) ∧ w'.cell? ⟨w.heap.size, 1, none⟩ = some (.slice A u.length ca) ∧ w'.cell? ⟨w.heap.size, 2, none⟩ = some (.slice B d.length cb) ∧ w'.cell? ⟨w.heap.size, 3, none⟩ = some (.int .i64 hold) ∧ w'.cell? ⟨bb, off + (bs.length - 1), none⟩ = some (.int .i64 y))
    ((((try go_split_ands); (repeat' (apply And.intro)) <;> (repeat (first | (with_reducible assumption) | (with_reducible refine cell_drew ?_) | (with_reducible refine cell_alloc _ ?_) | (with_reducible refine cell_below' (by with_reducible assumption) ?_) | (with_reducible refine cell_far ?_ ?_; focus (first | omega | (simp; omega) | (simp; done))))))))
    (first
      | (go_at_call 18; ((with_reducible refine (CopyRules_any nm A u ca B d cb hold _ (by omega) (by omega) ?_ ?_).mono ?_); (focus (exact RowsAt.below hA0 (Below.refl _ w3).drew)); (focus (exact RowsAt.below hB0 (Below.refl _ w3).drew)); rintro e w4 ⟨A4, ca4, B4, cb4, rfl, ra, rb, hcb4, hb4⟩; have hy4 : Below w3.heap.size w3 w4 := ((Below.refl _ w3).drew).trans hb4))
      | (go_at_call 19; ((with_reducible refine (HLF.out A4 ca4 B4 cb4 _ ra rb).mono ?_); rintro e w5 ⟨rfl, hb5⟩; have hy5 : Below w3.heap.size w3 w5 := hy4.trans (hb5.mono hy4.size))))
  clear hwr hbs1 hbs2 HLF ra rb hb5 hb4 hy4 HV1 HV2
  have h5 : Below w.heap.size w w5 := (h3).trans ((hy5).mono (h3).size)
  replace x0 := cell_below' hy5 x0
  replace x1 := cell_below' hy5 x1
  replace x2 := cell_below' hy5 x2
  replace x3 := cell_below' hy5 x3
  replace zx := Nat.lt_of_lt_of_le zx (hy5).size
  replace hA0 := RowsAt.below hA0 hy5
  replace hB0 := RowsAt.below hB0 hy5
  replace hV0 := RowsAt.below hV0 hy5
  replace hW0 := RowsAt.below hW0 hy5
  clear hy5 h3
  clear hcl w4
  have hz5 : w.heap.size < w5.heap.size := zx
  have hwi : withinB (reach u y) 0 u.length = true := withinB_true.2 hrb
  have HWI := Lib.hid hwi
  clear hwi
  by_cases hk0 : reach u y = 0
  · rw [hk0] at HWI ⊢
    clear HRUN hk0 hrb
    go_wp2_with (go_at_call 22; refine (Within_any _ _ _ _).mono ?_; rintro e w' ⟨rfl, rfl⟩; rw [HWI.out])
    go_ret
    exact ⟨rfl, h5⟩
  obtain ⟨k, hk⟩ : ∃ k : Nat, reach u y = ((k + 1 : Nat) : Int) := ⟨(reach u y).toNat - 1, by omega⟩
  have HR2 := Lib.hid (fun i => HRUN.out (k + 1) i hk)
  have hk' : reach u y = (k : Int) + 1 := by omega
  have hku : k < u.length := by omega
  rw [hk'] at HWI ⊢
  clear HRUN hk0 hk hk' hrb
  have hdl := HO.out.dl
  have hkd : k < d.length := by omega
  have hdr := HO.out.dr k hku
  have hk1 : (k : Int) < (d.length : Int) := by omega
  have hk0 : ((k : Int) + 1 == 0) = false := by simp only [beq_eq_false_iff_ne]; omega
  clear hdl
  have HVA := Lib.hid (fun i => lastL_val (u := u) (d := d) (nm := nm) (hold := hold) (t := gt d k) i HC.out HG1.out HG2.out hn60 ha60 hdr)
  go_wp2_with (go_at_call 22; refine (Within_any _ _ _ _).mono ?_; rintro e w' ⟨rfl, rfl⟩; rw [HWI.out])
  refine (CopyInts_any (some ⟨bb, off, none⟩) bs cv1 _ (by omega) hV0).mono ?_
  rintro e w6 ⟨A6, c6, rfl, own6, hb6⟩
  have hz56 := hb6.size
  have h6 : Below w.heap.size w w6 := (h5).trans ((hb6).mono (h5).size)
  replace x0 := cell_below' hb6 x0
  replace x1 := cell_below' hb6 x1
  replace x2 := cell_below' hb6 x2
  replace x3 := cell_below' hb6 x3
  replace zx := Nat.lt_of_lt_of_le zx (hb6).size
  replace hA0 := RowsAt.below hA0 hb6
  replace hB0 := RowsAt.below hB0 hb6
  replace hV0 := RowsAt.below hV0 hb6
  replace hW0 := RowsAt.below hW0 hb6
  clear hb6 h5
  clear HWI hV0 hdr
  have hI0 : LastI w nm A u.length ca B d.length cb hold w5.heap.size bs af (gt d k) (.slice A6 bs.length c6) (.int .i64 0) w6 := by
    have e : lastL bs af (gt d k) 0 = bs := by simp [lastL]
    refine ⟨0, A6, c6, by omega, rfl, by rw [e], h6, hz56, ⟨x0, x1, x2, x3⟩, ?_⟩
    rw [e]
    exact own6
  clear own6 x0 x1 x2 x3 hz56 e1
  go_wp2_with (fail)
  go_loopw [9, 10] (fun v i wr => LastI w nm A u.length ca B d.length cb hold w5.heap.size bs af (gt d k) v i wr) (fun _ i _ => af.length + 1 - (intOf i).toNat)
  case atStart => exact hI0
  case round =>
    obtain ⟨i, A', c', hi, rfl, rfl, hbw, hbz, hru, hown⟩ := hrel
    obtain ⟨x0, x1, x2, x3⟩ := id hru
    have zx := hru.lt
    by_cases hle : i ≤ af.length
    rotate_left 1
    · replace hle : af.length < i := by omega
      go_wp2_with (fail)
      go_ret
      exact ⟨rfl, hbw⟩
    have hll := lastL_len bs af (gt d k) i
    have hA1 := RowsAt.below HAw.out hbw
    have hB1 := RowsAt.below HBw.out hbw
    have hrun := HR2.out i
    rw [Nat.add_sub_cancel] at hrun
    have hval := HVA.out i
    have hsta : okSta nm u d hold (lastL bs af (gt d k) i) = runS u d hold ⟨0, 0, 0⟩ (lastL bs af (gt d k) i) := if_pos hval
    have HST := Lib.hid (fun (A' : Option Addr) (ca' : Nat) (B' : Option Addr) (cb' : Nat) (V' : Option Addr) (cv' : Nat) (W : World) (hcb' : d.length ≤ cb') (hA' : IntsAt W A' u) (hB' : IntsAt W B' d) (hV' : IntsAt W V' (lastL bs af (gt d k) i)) => StateOf_v nm A' u ca' B' d cb' hold V' (lastL bs af (gt d k) i) cv' W (by omega) (by omega) (by omega) hcb' (by omega) hA' hB' hV')
    rw [hval, hsta] at HST
    have HNX := Lib.hid (fun h : i < af.length => lastL_next (bs := bs) (t := gt d k) h)
    have HEN := Lib.hid (fun h : af.length ≤ i => lastL_end (bs := bs) (t := gt d k) h)
    clear hval hsta
    generalize runS u d hold ⟨0, 0, 0⟩ (lastL bs af (gt d k) i) = T at *
    generalize hL : lastL bs af (gt d k) i = L at *
    have HL := Lib.hid hL
    clear hL
    obtain ⟨hr1, hr2⟩ := hrun
    have e6 : decide (T.l < (k : Int) + 1) = false := by simp; omega
    have e7 : decide ((u.length : Int) < T.l) = false := by simp; omega
    go_wp2_with (fail)
    refine (CopyRules_any nm A u ca B d cb hold _ (by omega) (by omega) hA1 hB1).mono ?_
    rintro e w7 ⟨A7, ca7, B7, cb7, rfl, ra, rb, hcb7, hb7⟩
    have hz67 := hb7.size
    have own7 := own_below hown hb7
    have h7 : Below w.heap.size w w7 := (hbw).trans ((hb7).mono (hbw).size)
    replace x0 := cell_below' hb7 x0
    replace x1 := cell_below' hb7 x1
    replace x2 := cell_below' hb7 x2
    replace x3 := cell_below' hb7 x3
    replace zx := Nat.lt_of_lt_of_le zx (hb7).size
    replace hA1 := RowsAt.below hA1 hb7
    replace hB1 := RowsAt.below hB1 hb7
    clear hb7 hbw
    go_wp2_with (fail)
    refine (CopyInts_any A' L c' _ (by omega) (rowsAt_of_own (f := intC) own7 rfl (by decide))).mono ?_
    rintro e w8 ⟨A8, c8, rfl, own8, hb8⟩
    have hz78 := hb8.size
    replace ra := RowsAt.below ra hb8
    replace rb := RowsAt.below rb hb8
    replace own7 := own_below own7 hb8
    have h8 : Below w.heap.size w w8 := (h7).trans ((hb8).mono (h7).size)
    replace x0 := cell_below' hb8 x0
    replace x1 := cell_below' hb8 x1
    replace x2 := cell_below' hb8 x2
    replace x3 := cell_below' hb8 x3
    replace zx := Nat.lt_of_lt_of_le zx (hb8).size
    replace hA1 := RowsAt.below hA1 hb8
    replace hB1 := RowsAt.below hB1 hb8
    clear hb8 h7
    go_wp2_with (fail)
    refine (HST.out A7 ca7 B7 cb7 A8 c8 _ hcb7 ra rb (rowsAt_of_own (f := intC) own8 rfl (by decide))).mono ?_
    rintro e w9 ⟨rfl, hb9⟩
    have hz89 := hb9.size
    replace own7 := own_below own7 hb9
    have h9 : Below w.heap.size w w9 := (h8).trans ((hb9).mono (h8).size)
    replace x0 := cell_below' hb9 x0
    replace x1 := cell_below' hb9 x1
    replace x2 := cell_below' hb9 x2
    replace x3 := cell_below' hb9 x3
    replace zx := Nat.lt_of_lt_of_le zx (hb9).size
    replace hA1 := RowsAt.below hA1 hb9
    replace hB1 := RowsAt.below hB1 hb9
    clear hb9 h8
    clear ra rb own8 HST hown
    by_cases hil : i < af.length
    rotate_left 1
    · replace hil : af.length ≤ i := by omega
      have hE := HEN.out (by omega)
      have HE := Lib.hid hE
      clear hE HNX HEN
      go_wp2_with (fail)
      go_roundw
      case rel =>
        refine ⟨i + 1, A', c', by omega, by go_num, by rw [HE.out], below_alloc _ (Nat.le_refl _) h9, by simp; omega, ⟨cell_alloc _ x0, cell_alloc _ x1, cell_alloc _ x2, cell_alloc _ x3⟩, ?_⟩
        rw [HE.out]
        exact World.ownsRow.alloc own7 _
      case measure => simp [intOf]; omega
    · have hE := HNX.out hil
      have HE := Lib.hid hE
      clear hE HNX HEN
      obtain ⟨b2, o2, rfl, hb2, c2⟩ := IntsAt.at_ (RowsAt.below HWw.out h9) hil
      have hkB : k < d.length := hkd
      obtain ⟨b3, o3, rfl, hb3, c3⟩ := IntsAt.at_ hB1 hkB
      rw [gt_get hkB] at c3
      generalize af[i] = a at *
      generalize ht : gt d k = t at *
      have HT := Lib.hid ht
      clear ht
      have hi1 : (i : Int) < (af.length : Int) := by omega
      go_upto_region 18 with (fail)
      have hb10 : Below w9.heap.size w9 (w9.alloc (.cells #[.int .i64 T.l, .int .i64 T.b, .int .i64 T.v] 61)) := below_alloc _ (Nat.le_refl _) (Below.refl _ _)
      have r0 : (w9.alloc (.cells #[.int .i64 T.l, .int .i64 T.b, .int .i64 T.v] 61)).cell? ⟨w9.heap.size, 0, none⟩ = some (.int .i64 T.l) := cell_new (by simp) rfl
      have r1 : (w9.alloc (.cells #[.int .i64 T.l, .int .i64 T.b, .int .i64 T.v] 61)).cell? ⟨w9.heap.size, 1, none⟩ = some (.int .i64 T.b) := cell_new (by simp) rfl
      have r2 : (w9.alloc (.cells #[.int .i64 T.l, .int .i64 T.b, .int .i64 T.v] 61)).cell? ⟨w9.heap.size, 2, none⟩ = some (.int .i64 T.v) := cell_new (by simp) rfl
      have zr : w9.heap.size < (w9.alloc (.cells #[.int .i64 T.l, .int .i64 T.b, .int .i64 T.v] 61)).heap.size := World.block_lt_of_cell? _ _ r0
      generalize (w9.alloc (.cells #[.int .i64 T.l, .int .i64 T.b, .int .i64 T.v] 61)) = w10 at *
      have hz910 := hb10.size
      replace own7 := own_below own7 hb10
      replace c2 := cell_below' hb10 c2
      replace c3 := cell_below' hb10 c3
      have h10 : Below w.heap.size w w10 := (h9).trans ((hb10).mono (h9).size)
      replace x0 := cell_below' hb10 x0
      replace x1 := cell_below' hb10 x1
      replace x2 := cell_below' hb10 x2
      replace x3 := cell_below' hb10 x3
      replace zx := Nat.lt_of_lt_of_le zx (hb10).size
      replace hB1 := RowsAt.below hB1 hb10
      clear hb10 h9
      clear r0 r1 r2 zr
      (refine region_alloc (T := ?_) (obj := (.cells #[.int .i64 (max t a)] 3)) (val := (fun nb => .slice (some ⟨nb, 0, none⟩) 1 1)) 12 120 (by kernel_rfl) (by kernel_rfl) rfl rfl rfl (Nat.le_of_ble_eq_true rfl) ?_ ?_ ?_; rotate_left 1)
      focus (intro W0 hB0 hx; simp only [List.take_succ_cons, List.take_zero]; (repeat (any_goals (first | go_big_quiet_step (fail) | quiet_step (fail)))); refine wpQuiet_nil ?_; exact rfl)
      focus (intro W; go_simp; done)
      (intro W0 w11 hB0 hB1; obtain ⟨hbw11, hnw11, hsw11, hkw11⟩ := alloc_out hB0 hB1; clear hB0 hB1; simp only [List.drop_succ_cons, List.drop_zero]; generalize W0.heap.size = nb at *; clear W0)
      have own11 := own_below own7 hbw11
      have h11 : Below w.heap.size w w11 := h10.trans (hbw11.mono h10.size)
      have hru11 : RulAt w.heap.size nm A u.length ca (some ⟨b3, o3, none⟩) d.length cb hold w11 := ⟨cell_below' hbw11 x0, cell_below' hbw11 x1, cell_below' hbw11 x2, cell_below' hbw11 x3⟩
      have OWN := Lib.hid own11
      have HKW := Lib.hid hkw11
      clear own11 hkw11 own7
      go_wp2_with (at_builtin; (refine wpList_append_rows _ rfl (.tmp 108) (.tmp 120) 22 rfl w5.heap.size 3 i0 (.int .i64 0) 1 8 Try.underlying22 HI.out HZ0.out HZ1.out HZ2.out rfl (by decide) A' L.length c' (cellsOf 1 intC L) rfl OWN.out (some ⟨nb, 0, none⟩) 1 1 [.int .i64 (max t a)] rfl rfl (fun h => by cases h) (fun ad h => by cases h; exact news1i HKW.out) (fun u hu => by simp at hu; subst hu; rfl) (by unfold maxLen; omega) (by omega) (by omega) ?_; intro A2' c2' w12 q1 q2 q3))
      have hL : (L ++ [max t a]).length = L.length + 1 := by simp
      have hg5 : some w.heap.size ≠ Value.ownBlock (.slice A' L.length c') := fun e => by have := (OWN.out.lt _ e.symm).1; omega
      have hru12 : RulAt w.heap.size nm A u.length ca (some ⟨b3, o3, none⟩) d.length cb hold w12 := ⟨cell_grown q2 hru11.c0 hg5, cell_grown q2 hru11.c1 hg5, cell_grown q2 hru11.c2 hg5, cell_grown q2 hru11.c3 hg5⟩
      have h12 : Below w.heap.size w w12 := below_own h11 q2 OWN.out (by omega) (by omega)
      have hz12 := q2.size
      go_roundw
      case rel =>
        refine ⟨i + 1, A2', c2', by omega, by go_num, by rw [HT.out, HE.out, hL], h12, by omega, hru12, ?_⟩
        rw [HT.out, HE.out, hL, cellsOf_append]
        exact q1
      case measure => simp [intOf]; omega
end Go.Proofs.Ytcfbnmcdncndpaa
