/-
  Chapter 2: Candidates and the reference's; copies and comparisons of integers.
-/
import Derived.Test.YtlnbbioponmcfaaDoorECan
namespace Go.Proofs.YtlnbbioponmcfaaDoor
open Go.ChangeShapes Go.WideShapes Go.ChangeAt Go.RowKit
set_option linter.unusedVariables false
set_option linter.unusedSimpArgs false

def CopyIntsPost (l : List Int) (w : World) (e : Ending) (w' : World) : Prop :=
  ∃ A' c', e = .returned (.slice A' l.length c') ∧ w'.ownsRow w.heap.size 3 1 (.slice A' l.length c') l.length (cellsOf 1 intC l) ∧ Below w.heap.size w w'
set_option maxHeartbeats 1000000 in
theorem CopyInts_any (B : Option Addr) (l : List Int) (cap : Nat) (w : World) (hl : l.length ≤ 1000) (hB : IntsAt w B l) :
    Calls Tryd.prog 12 #[.slice B l.length cap] w (CopyIntsPost l w) := by
  have hB' : RowsAt 1 intC w B l := hB
  obtain ⟨i0, hi0, hz0, hz1, hz2⟩ := infoInt_
  go_enter Tryd.func12, Tryd.ntmps12
  go_wp2_with (at_builtin; (refine wpList_append_rows _ rfl (.tmp 3) (.tmp 4) 23 rfl w.heap.size 3 i0 (.int .i64 0) 1 8 Tryd.underlying23 hi0 hz0 hz1 hz2 rfl (by decide) (some ⟨w.heap.size, 0, none⟩) 0 0 [] rfl (own_empty (Nat.le_refl _) (heap_alloc_new _ _)) B l.length cap (cellsOf 1 intC l) rfl (cellsOf_length l) (fun e => by subst e; exact RowsAt.nil_len hB) (fun ad e => by subst e; exact RowsAt.news (RowsAt.below hB' (by repeat (first | assumption | exact Below.refl _ _ | refine Below.drew ?_ | (refine below_alloc _ ?_ ?_; focus (first | omega | (simp; done) | (simp; omega) | (simp at *; omega))) | (refine below_set _ ?_ ?_; focus (first | omega | (simp; done) | (simp; omega) | (simp at *; omega))) | refine below_drewN ?_ _ | (refine below_call (by assumption) ?_ ?_; focus (first | omega | (simp; done) | (simp; omega) | (simp at *; omega))) | (refine below_call' (by assumption) ?_ ?_; focus (first | omega | (simp; done) | (simp; omega) | (simp at *; omega)))))) (by decide)) (cellsOf_one intC_one (by decide) l) (by unfold maxLen; omega) (by omega) (by simp) ?_; intro A' c' w1 hown hg _; rw [Nat.zero_add, List.nil_append] at hown; (try rw [Nat.zero_add]); have hb1 : Below w.heap.size w w1 := grown_below hg (by omega) (by omega) (by repeat (first | assumption | exact Below.refl _ _ | refine Below.drew ?_ | (refine below_alloc _ ?_ ?_; focus (first | omega | (simp; done) | (simp; omega) | (simp at *; omega))) | (refine below_set _ ?_ ?_; focus (first | omega | (simp; done) | (simp; omega) | (simp at *; omega))) | refine below_drewN ?_ _ | (refine below_call (by assumption) ?_ ?_; focus (first | omega | (simp; done) | (simp; omega) | (simp at *; omega))) | (refine below_call' (by assumption) ?_ ?_; focus (first | omega | (simp; done) | (simp; omega) | (simp at *; omega))))); clear hg))
  go_ret
  exact ⟨A', c', rfl, hown, hb1⟩
set_option maxHeartbeats 1000000 in
theorem Ints_refl (A B : Option Addr) (l : List Int) (ca cb : Nat) (w : World) (hl : l.length ≤ 1000) (hA : IntsAt w A l) (hB : IntsAt w B l) :
    Calls Tryd.prog 23 #[.slice A l.length ca, .slice B l.length cb] w fun e w' => e = .returned (.bool true) ∧ Below w.heap.size w w' := by
  go_enter Tryd.func23, Tryd.ntmps23
  go_wp2
  go_loopw [5] (fun i wr => ∃ k : Nat, k ≤ l.length ∧ i = .int .i64 k ∧ Below w.heap.size w wr) (fun i _ => l.length - (intOf i).toNat)
  case atStart => exact ⟨0, Nat.zero_le _, rfl, Below.refl _ _⟩
  case round =>
    obtain ⟨k, hk, rfl, hbw⟩ := hrel
    have hAr := hA.below hbw
    have hBr := hB.below hbw
    by_cases hlt : k < l.length
    · obtain ⟨b1, o1, rfl, hb1, c0⟩ := IntsAt.at_ hAr hlt
      obtain ⟨b2, o2, rfl, hb2, d0⟩ := IntsAt.at_ hBr hlt
      generalize l[k] = p at *
      go_wp2
      go_quiet (fail)
      go_wp2
      go_roundw
      case rel => exact ⟨k + 1, by omega, by go_num, (by repeat (first | assumption | exact Below.refl _ _ | refine Below.drew ?_ | (refine below_alloc _ ?_ ?_; focus (first | omega | (simp; done) | (simp; omega) | (simp at *; omega))) | (refine below_set _ ?_ ?_; focus (first | omega | (simp; done) | (simp; omega) | (simp at *; omega))) | refine below_drewN ?_ _ | (refine below_call (by assumption) ?_ ?_; focus (first | omega | (simp; done) | (simp; omega) | (simp at *; omega))) | (refine below_call' (by assumption) ?_ ?_; focus (first | omega | (simp; done) | (simp; omega) | (simp at *; omega)))))⟩
      case measure => simp [intOf]; omega
    · go_wp2
      go_ret
      exact ⟨rfl, (by repeat (first | assumption | exact Below.refl _ _ | refine Below.drew ?_ | (refine below_alloc _ ?_ ?_; focus (first | omega | (simp; done) | (simp; omega) | (simp at *; omega))) | (refine below_set _ ?_ ?_; focus (first | omega | (simp; done) | (simp; omega) | (simp at *; omega))) | refine below_drewN ?_ _ | (refine below_call (by assumption) ?_ ?_; focus (first | omega | (simp; done) | (simp; omega) | (simp at *; omega))) | (refine below_call' (by assumption) ?_ ?_; focus (first | omega | (simp; done) | (simp; omega) | (simp at *; omega)))))⟩
/-- the readings of a set -/
def subUp : List Rd → Nat → Nat → List Rd
  | [], _, _ => []
  | r :: t, set, i => if set.testBit i then r :: subUp t set (i + 1) else subUp t set (i + 1)
def agA (l : List Rd) (d : Int) : Bool := l.all fun r => agr r d
theorem agUp_sub : ∀ (l : List Rd) (set : Nat) (d : Int) (i : Nat), agUp l set d i = agA (subUp l set i) d
  | [], _, _, _ => rfl
  | r :: t, set, d, i => by
    rw [agUp, subUp, agUp_sub t set d (i + 1)]
    cases set.testBit i
    · rw [if_neg (by decide)]; simp
    · rw [if_pos rfl]; simp [agA]
def candAK (l : List Rd) (j : Nat) : List Int := ((List.range j).map fun (i : Nat) => (i : Int) - 90).filter fun d => agA l d
/-- the candidates of all readings -/
def candA (l : List Rd) : List Int := candAK l 181
theorem candS_eq (l : List Rd) (set : Nat) : candS l set = candA (subUp l set 0) := by
  unfold candS candA candK candAK
  simp only [agUp_sub]
theorem subUp_all : ∀ (l : List Rd) (n i : Nat), i + l.length ≤ n → subUp l (2 ^ n - 1) i = l
  | [], _, _, _ => rfl
  | r :: t, n, i, h => by
    have h1 : i < n := by simp at h; omega
    have h2 : i + 1 + t.length ≤ n := by simp at h; omega
    rw [subUp, Nat.testBit_two_pow_sub_one, decide_eq_true h1, if_pos rfl, subUp_all t n (i + 1) h2]
theorem candS_all (l : List Rd) : candS l (2 ^ l.length - 1) = candA l := by rw [candS_eq, subUp_all l l.length 0 (by omega)]
theorem candA_len (l : List Rd) : (candA l).length ≤ 181 := by
  rw [← candS_all]; exact candK_len l _ 181
theorem candAK_yes {l : List Rd} {j : Nat} (h : agA l ((j : Int) - 90) = true) : candAK l j ++ [(j : Int) - 90] = candAK l (j + 1) := by
  unfold candAK
  rw [List.range_succ, List.map_append, List.filter_append]
  simp [h]
theorem candAK_no {l : List Rd} {j : Nat} (h : agA l ((j : Int) - 90) = false) : candAK l j = candAK l (j + 1) := by
  unfold candAK
  rw [List.range_succ, List.map_append, List.filter_append]
  simp [h]
theorem candAK_len (l : List Rd) (j : Nat) : (candAK l j).length ≤ j := by
  unfold candAK
  refine Nat.le_trans (List.length_filter_le _ _) ?_
  simp
theorem candA_mem {l : List Rd} {d : Int} : d ∈ candA l ↔ (-90 ≤ d ∧ d ≤ 90) ∧ agA l d = true := by
  unfold candA candAK
  rw [List.mem_filter, List.mem_map]
  constructor
  · rintro ⟨⟨i, hi, rfl⟩, h⟩
    rw [List.mem_range] at hi
    exact ⟨by omega, h⟩
  · rintro ⟨⟨h1, h2⟩, h⟩
    exact ⟨⟨(d + 90).toNat, by rw [List.mem_range]; omega, by omega⟩, h⟩
theorem candA_bd {l : List Rd} : ∀ d ∈ candA l, -90 ≤ d ∧ d ≤ 90 := fun d hd => (candA_mem.1 hd).1
theorem pow_bd {n : Nat} (h : n ≤ 8) : 1 ≤ 2 ^ n ∧ 2 ^ n ≤ 256 := by
  refine ⟨Nat.one_le_two_pow, ?_⟩
  exact Nat.pow_le_pow_right (by decide) h
theorem every_any (n : Nat) (w : World) (h : n ≤ 8) :
    Calls Tryd.prog 38 #[.int .i64 n] w fun e w' => e = .returned (.int .u64 ((2 ^ n - 1 : Nat) : Int)) ∧ w = w' := by
  have hn : n = 0 ∨ n = 1 ∨ n = 2 ∨ n = 3 ∨ n = 4 ∨ n = 5 ∨ n = 6 ∨ n = 7 ∨ n = 8 := by omega
  rcases hn with rfl | rfl | rfl | rfl | rfl | rfl | rfl | rfl | rfl
  all_goals
    go_enter Tryd.func38, Tryd.ntmps38
    go_wp2
    go_ret
    exact ⟨rfl, rfl⟩
/-- candidates, or the error -/
def candQ (l : List Rd) : List Int × Int := if rdsE l = 0 then (candA l, unl (decide (0 < (candA l).length)) 12) else ([], rdsE l)
def IntsE (q : List Int × Int) (w : World) (e : Ending) (w' : World) : Prop := ∃ A' c', e = .returned (.tuple #[.slice A' q.1.length c', .int .i64 q.2]) ∧ IntsAt w' A' q.1 ∧ Below w.heap.size w w'
set_option maxHeartbeats 1000000 in
theorem Candidates_any (A : Option Addr) (l : List Rd) (cap : Nat) (w : World) (hl : l.length ≤ 1000) (hA : RdsAt w A l) :
    Calls Tryd.prog 15 #[.slice A l.length cap] w (IntsE (candQ l) w) := by
  have hq : candQ l = if rdsE l = 0 then (candA l, unl (decide (0 < (candA l).length)) 12) else ([], rdsE l) := rfl
  have HE := Lib.hid (fun W (h : RdsAt W A l) => readingsErr_any A l cap W hl h)
  by_cases h0 : rdsE l = 0
  · obtain ⟨h8, hok⟩ := rdsE_zero h0
    rw [if_pos h0] at hq
    rw [h0] at HE
    have HQ := Lib.hid hq
    have HC := Lib.hid (fun W (h : RdsAt W A l) => candidates_any A l cap (2 ^ l.length - 1) W h8 (by have := pow_bd h8; omega) hok h)
    rw [candS_all] at HC
    have HV := Lib.hid (fun W => every_any l.length W h8)
    have hlen := candA_len l
    clear hq h0 hok
    generalize candA l = c at *
    go_enter Tryd.func15, Tryd.ntmps15
    go_wp2_with (fail)
    refine (HE.out _ hA).mono ?_
    rintro e w1 ⟨rfl, hb1⟩
    have hA1 := RowsAt.below hA hb1
    go_wp2_with (go_at_call 38; with_reducible refine (HV.out _).mono ?_; rintro e w' ⟨rfl, rfl⟩)
    refine (HC.out _ hA1).mono ?_
    rintro e w2 ⟨A', c', rfl, hc, hb2⟩
    have hb12 := hb1.trans (hb2.mono hb1.size)
    go_wp2_with (go_at_call 28; refine (unless_any _ _ _).mono ?_; rintro e w' ⟨rfl, rfl⟩)
    go_ret2
    rw [HQ.out]
    exact ⟨A', c', rfl, hc, hb12⟩
  · rw [if_neg h0] at hq
    have HQ := Lib.hid hq
    have e1 : (rdsE l != 0) = true := by simpa using h0
    clear hq h0
    generalize rdsE l = E at *
    go_enter Tryd.func15, Tryd.ntmps15
    go_wp2_with (fail)
    refine (HE.out _ hA).mono ?_
    rintro e w1 ⟨rfl, hb1⟩
    go_wp2_with (fail)
    go_ret2
    rw [HQ.out]
    exact ⟨none, 0, rfl, RowsAt.nil, hb1⟩
theorem dstP_mod (a b : Int) : dstP (a % 720) b = dstP a b := by
  have h : (a % 720 - b) % 720 = (a - b) % 720 := by omega
  unfold dstP
  rw [h]end Go.Proofs.YtlnbbioponmcfaaDoor
