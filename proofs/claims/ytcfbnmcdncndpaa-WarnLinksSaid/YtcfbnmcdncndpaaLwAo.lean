/-
  WarnAnyOrder: the walk.
-/
import Derived.Test.YtcfbnmcdncndpaaKepP
import Derived.Test.YtcfbnmcdncndpaaLw13
import Derived.Deep.DeepCutAuto
import Derived.Deep.CutBlock
import Derived.IntWalk
namespace Go.Proofs.Ytcfbnmcdncndpaa
open Go.ChangeShapes Go.WideShapes Go.ChangeAt Go.RowKit
set_option linter.unusedVariables false
set_option linter.unusedSimpArgs false

theorem Mod_any (x b : Int) (w : World) (h1 : 0 < b) (h2 : b ≤ 1000) :
    Calls Try.prog 54 #[.int .i64 x, .int .i64 b] w fun e w' => e = .returned (.int .i64 (x % b)) ∧ w = w' := by
  have hm0 := Int.emod_nonneg x (show b ≠ 0 by omega)
  have hm1 := Int.emod_lt_of_pos x h1
  have ht : x.tmod b = x % b ∨ x.tmod b = x % b - b := by
    have h := Int.tmod_eq_emod (a := x) (b := b)
    split at h
    · left; omega
    · right; omega
  by_cases hs : x.tmod b < 0
  · have e1 : decide (x.tmod b < 0) = true := by simpa using hs
    have e2 : x.tmod b + b = x % b := by omega
    have hb : -1000 ≤ x.tmod b := by omega
    have hu : x.tmod b ≤ 1000 := by omega
    have E2 := Lib.hid e2
    clear ht e2 hs
    go_enter Try.func54, Try.ntmps54
    go_wp2
    go_ret
    exact ⟨ret_int E2.out, rfl⟩
  · have e1 : decide (x.tmod b < 0) = false := by simpa using hs
    have e2 : x.tmod b = x % b := by omega
    have E2 := Lib.hid e2
    clear ht e2 hs
    go_enter Try.func54, Try.ntmps54
    go_wp2
    go_ret
    exact ⟨ret_int E2.out, rfl⟩
theorem badS_zero : ∀ {l : List Msg} {p : Option Msg} (i : Nat), (∀ m ∈ l, msgE m = 0) → Srt l → (∀ q, p = some q → ∀ m ∈ l, blt q.s m.s = true) → badS p l i = (0, 0)
  | [], p, i, _, _, _ => by unfold badS; rfl
  | m :: r, p, i, h1, h2, h3 => by
    obtain ⟨h4, h5⟩ := List.pairwise_cons.1 h2
    have hr : rowS p m = 0 := by
      unfold rowS
      rw [firstE2, unl_zero (by decide)]
      refine ⟨h1 m (List.mem_cons_self ..), ?_⟩
      unfold ordS
      cases p with
      | none => rfl
      | some q => exact h3 q rfl m (List.mem_cons_self ..)
    unfold badS
    rw [if_pos hr]
    exact badS_zero (i + 1) (fun x hx => h1 x (List.mem_cons_of_mem _ hx)) h5 (fun q hq x hx => by cases hq; exact h4 x hx)
theorem chkSE_zero {l : List Msg} (h1 : ∀ m ∈ l, msgE m = 0) (h2 : Srt l) (h3 : l.length ≤ 30) : chkSE l = 0 := by
  unfold chkSE chkS
  rw [if_neg (by omega), badS_zero 0 h1 h2 (fun q h => by cases h)]
/-- pairs that agree: the one at j with those before it -/
def PairsJ (l : List Msg) (x : Msg) (t : Nat) : Prop := ∀ (i : Nat) (y : Msg), i < t → l[i]? = some y → y.s = x.s → y.v = x.v → y.l = x.l
structure BackOk (l : List Msg) (k : Nat) : Prop where
  e : ∀ m ∈ l.drop k, msgE m = 0
  p : ∀ (j : Nat) (x : Msg), k ≤ j → l[j]? = some x → PairsJ l x j
theorem BackOk.cns {l : List Msg} (h : BackOk l 0) : Cns l := by
  intro x hx y hy hs hv
  obtain ⟨i, hi⟩ := List.getElem?_of_mem hx
  obtain ⟨j, hj⟩ := List.getElem?_of_mem hy
  rcases Nat.lt_trichotomy i j with hlt | heq | hlt
  · exact h.p j y (Nat.zero_le _) hj i x hlt hi hs hv
  · rw [heq, hj] at hi
    rw [Option.some.inj hi]
  · exact (h.p i x (Nat.zero_le _) hi j y hlt hj hs.symm hv.symm).symm
theorem BackOk.next {l : List Msg} {j : Nat} (h : BackOk l (j + 1)) (hj : j < l.length) (h1 : msgE l[j] = 0) (h2 : PairsJ l l[j] j) : BackOk l j where
  e := fun m hm => by
    rw [List.drop_eq_getElem_cons hj] at hm
    rcases List.mem_cons.1 hm with rfl | hm
    · exact h1
    · exact h.e m hm
  p := fun i x hi hx => by
    rcases Nat.lt_or_ge j i with h3 | h3
    · exact h.p i x (by omega) hx
    · obtain rfl : i = j := by omega
      obtain ⟨_, rfl⟩ := List.getElem?_eq_some_iff.1 hx
      exact h2
theorem rev_next {l : List Msg} {j : Nat} (hj : j < l.length) : (l.drop j).reverse = (l.drop (j + 1)).reverse ++ [l[j]] := by
  rw [List.drop_eq_getElem_cons hj, List.reverse_cons]
def AoI (w w1 : World) (l : List Msg) (bk i : Value) (wr : World) : Prop :=
  ∃ (k : Nat) (A' : Option Addr) (c' : Nat), k ≤ l.length ∧ i = .int .i64 ((k : Int) - 1) ∧ bk = .slice A' (l.drop k).reverse.length c' ∧ Below w1.heap.size w1 wr ∧ BackOk l k ∧
    wr.ownsRow w1.heap.size 45 3 (.slice A' (l.drop k).reverse.length c') (l.drop k).reverse.length (cellsOf 3 msgC (l.drop k).reverse)
def AoJ (wb : World) (l : List Msg) (x : Msg) (j : Nat) (k : Value) (wr : World) : Prop := ∃ t : Nat, t ≤ j ∧ k = .int .i64 t ∧ Below wb.heap.size wb wr ∧ PairsJ l x t
theorem find_at {l : List Msg} {q : Nat} {x : Msg} {s : ByteArray} (h : Srt l) (hx : l[q]? = some x) (he : x.s = s) : findM s l 0 = (q : Int) := by
  rw [findM_at 0 hx he fun t y ht hy => by rw [← he]; exact blt_ne (srt_lt h hy hx ht)]
  simp
def AoD (wb : World) (n : Nat) (i : Value) (wr : World) : Prop := ∃ k : Nat, k ≤ n ∧ i = .int .i64 k ∧ Below wb.heap.size wb wr
def AoC (w1 : World) (l : List Msg) (n : Nat) (bk i : Value) (wr : World) : Prop :=
  ∃ (k : Nat) (A' : Option Addr) (o : List Msg) (c' : Nat), k ≤ n ∧ i = .int .i64 k ∧ bk = .slice A' o.length c' ∧ Below w1.heap.size w1 wr ∧ o.length ≤ l.length + k ∧ (∀ m ∈ o, m ∈ l) ∧ (∀ m ∈ l, m ∈ o) ∧
    wr.ownsRow w1.heap.size 45 3 (.slice A' o.length c') o.length (cellsOf 3 msgC o)
set_option maxRecDepth 100000 in
set_option maxHeartbeats 8000000 in
theorem WarnAnyOrder_any (A : Option Addr) (l : List Msg) (ca : Nat) (B : Option Addr) (ag : List Int) (cb : Nat) (w : World) (hA : MsgsAt w A l) (hB : IntsAt w B ag) :
    Calls Try.prog 10 #[.slice A l.length ca, .slice B ag.length cb] w fun e w' => e = .returned (.bool true) ∧ Below w.heap.size w w' := by
  obtain ⟨i0, hi0, hz0', hz1', hz2'⟩ := infoMsg_
  have HI := Lib.hid hi0
  have HZ0 := Lib.hid hz0'
  have HZ1 := Lib.hid hz1'
  have HZ2 := Lib.hid hz2'
  clear hi0 hz0' hz1' hz2'
  go_enter Try.func10, Try.ntmps10
  go_wp2_with (fail)
  refine (awake_any _).mono ?_
  rintro e w1 ⟨rfl, hb1⟩
  have hA0 := RowsAt.below hA hb1
  have hB0 := RowsAt.below hB hb1
  clear hA hB
  by_cases hn30 : l.length ≤ 30
  rotate_left 1
  · have e2 : decide ((30 : Int) < (l.length : Int)) = true := by simp; omega
    clear hn30
    go_wp2_with (fail)
    go_ret
    exact ⟨rfl, hb1⟩
  have e2 : decide ((30 : Int) < (l.length : Int)) = false := by simp; omega
  have HSN1 := Lib.hid (fun W (h : MsgsAt W A l) => shortNames_any A l ca W (by omega) h)
  have hsl0 := fun h => shortM_true (l := l) h
  have HSL := Lib.hid hsl0
  clear hsl0
  generalize shortM l = s1 at *
  cases s1
  · go_wp2_with (go_at_call 52; refine (HSN1.out _ hA0).mono ?_; rintro e w' ⟨rfl, rfl⟩)
    go_ret
    exact ⟨rfl, hb1⟩
  by_cases hn20 : ag.length ≤ 20
  rotate_left 1
  · have e3 : decide ((20 : Int) < (ag.length : Int)) = true := by simp; omega
    clear hn20
    go_wp2_with (go_at_call 52; refine (HSN1.out _ hA0).mono ?_; rintro e w' ⟨rfl, rfl⟩)
    go_ret
    exact ⟨rfl, hb1⟩
  have e3 : decide ((20 : Int) < (ag.length : Int)) = false := by simp; omega
  have HS30 := Lib.hid (HSL.out rfl)
  clear HSL
  go_wp2_with (go_at_call 52; refine (HSN1.out _ hA0).mono ?_; rintro e w' ⟨rfl, rfl⟩)
  clear HSN1
  have hI0 : AoI w w1 l (.slice none 0 0) (.int .i64 ((l.length : Int) - 1)) w1 := by
    have e : l.drop l.length = [] := List.drop_length
    refine ⟨l.length, none, 0, Nat.le_refl _, rfl, by rw [e]; rfl, Below.refl _ _, ⟨fun m hm => (by rw [e] at hm; cases hm), fun j x hj hx => (by have := (List.getElem?_eq_some_iff.1 hx).1; omega)⟩, ?_⟩
    rw [e]
    exact World.ownsRow_nil _ _ _ _
  go_loopw [5, 6] (fun bk i wr => AoI w w1 l bk i wr) (fun _ i _ => (intOf i + 1).toNat)
  case atStart => exact hI0
  case round =>
    obtain ⟨k, A', c', hk, rfl, rfl, hbw, hok, hown⟩ := hrel
    cases k with
    | succ j =>
      rw [show (((j + 1 : Nat)) : Int) - 1 = (j : Int) by omega]
      have hj : j < l.length := by omega
      have hrv := rev_next hj
      have hnx := fun h1 h2 => BackOk.next hok hj h1 h2
      have HRV := Lib.hid hrv
      have HNX := Lib.hid hnx
      have hAr := RowsAt.below hA0 hbw
      obtain ⟨b1, o1, rfl, hb1', c0, c1, c2⟩ := MsgsAt.at_ hAr hj
      have hrl : (l.drop (j + 1)).reverse.length ≤ 30 := by simp; omega
      generalize (l.drop (j + 1)).reverse = R at *
      have HLJ := Lib.hid (List.getElem?_eq_getElem hj)
      clear hrv hnx hok
      generalize l[j] = x at *
      have hj1 : (j : Int) < (l.length : Int) := by omega
      by_cases hx : msgE x = 0
      rotate_left 1
      · have e4 : (msgE x != 0) = true := by simpa using hx
        clear hx HNX
        go_wp2_with (fail)
        refine (MessageErr_any x _).mono ?_
        rintro e w2 ⟨rfl, hb2⟩
        go_wp2_with (fail)
        go_ret
        exact ⟨rfl, hb1.trans ((hbw.trans (hb2.mono hbw.size)).mono hb1.size)⟩
      have HX0 := Lib.hid hx
      have HN2 := Lib.hid (HNX.out hx)
      go_wp2_with (fail)
      refine (MessageErr_any x _).mono ?_
      rintro e w2 ⟨rfl, hb2⟩
      rw [hx]
      clear hx HNX
      have hbw2 := hbw.trans (hb2.mono hbw.size)
      have own2 := own_below hown hb2
      replace c0 := cell_below' hb2 c0
      replace c1 := cell_below' hb2 c1
      replace c2 := cell_below' hb2 c2
      clear hown hb2 hAr
      have hI1 : AoJ w2 l x j (.int .i64 0) w2 := ⟨0, Nat.zero_le _, rfl, Below.refl _ _, fun i y hi => by omega⟩
      go_wp2_with (fail)
      go_loopw [7] (fun kk wr => AoJ w2 l x j kk wr) (fun kk _ => j - (intOf kk).toNat)
      case atStart => exact hI1
      case round =>
        obtain ⟨t, ht, rfl, hbi, hpr⟩ := hrel
        have hbi2 := hbw2.trans (hbi.mono hbw2.size)
        have owni := own_below own2 hbi
        replace c0 := cell_below' hbi c0
        replace c1 := cell_below' hbi c1
        replace c2 := cell_below' hbi c2
        have HPR := Lib.hid hpr
        clear hpr
        by_cases hlt : t < j
        · have htl : t < l.length := by omega
          obtain ⟨b2, o2, e5, hb2', d0, d1, d2⟩ := MsgsAt.at_ (RowsAt.below hA0 hbi2) htl
          injection e5 with e5
          injection e5 with e6 e7 e8
          subst e6 e7
          have HLT := Lib.hid (List.getElem?_eq_getElem htl)
          generalize l[t] = y at *
          have ht1 : (t : Int) < (l.length : Int) := by omega
          have hnx : (y.s = x.s → y.v = x.v → y.l = x.l) → PairsJ l x (t + 1) := fun h i z hi hz => by
            rcases Nat.lt_or_ge i t with h1 | h1
            · exact HPR.out i z h1 hz
            · obtain rfl : i = t := by omega
              rw [HLT.out] at hz
              obtain rfl := Option.some.inj hz
              exact h
          have HNX := Lib.hid hnx
          clear e8 hnx
          by_cases hs : y.s = x.s
          · have es : (y.s.toList == x.s.toList) = true := by rw [hs]; simp
            by_cases hv : y.v = x.v
            · have ev : (y.v == x.v) = true := by simpa using hv
              by_cases hl : y.l = x.l
              · have el : (y.l != x.l) = false := by simpa using hl
                have HP2 := Lib.hid (HNX.out fun _ _ => hl)
                clear hs hv hl HNX
                go_wp2_with (fail)
                (refine region_extx 36 (by kernel_rfl) (by kernel_rfl) fun hx => ?_; simp only [List.take_succ_cons, List.take_zero, List.drop_succ_cons, List.drop_zero]; (repeat (any_goals (first | go_big_quiet_step (fail) | quiet_step (fail)))))
                (refine wpQuiet_nil ?_; clear hx; intro u; have hbw12 := ext_bel _ u; have hxw12 := ext_cell _ u; generalize ext _ u = w12 at *; clear u; have hsw12 := hbw12.size; (try simp at hsw12))
                go_wp2_with (fail)
                go_roundw
                case rel => exact ⟨t + 1, by omega, by go_num, hbi.trans (hbw12.mono hbi.size), HP2.out⟩
                case measure => simp [intOf]; omega
              · have el : (y.l != x.l) = true := by simpa using hl
                clear hs hv hl HNX
                go_wp2_with (fail)
                (refine region_extx 36 (by kernel_rfl) (by kernel_rfl) fun hx => ?_; simp only [List.take_succ_cons, List.take_zero, List.drop_succ_cons, List.drop_zero]; (repeat (any_goals (first | go_big_quiet_step (fail) | quiet_step (fail)))))
                (refine wpQuiet_nil ?_; clear hx; intro u; have hbw12 := ext_bel _ u; have hxw12 := ext_cell _ u; generalize ext _ u = w12 at *; clear u; have hsw12 := hbw12.size; (try simp at hsw12))
                go_wp2_with (fail)
                go_ret
                exact ⟨rfl, hb1.trans ((hbi2.trans (hbw12.mono hbi2.size)).mono hb1.size)⟩
            · have ev : (y.v == x.v) = false := by simpa using hv
              have HP2 := Lib.hid (HNX.out fun _ h => absurd h hv)
              clear hs hv HNX
              go_wp2_with (fail)
              (refine region_extx 36 (by kernel_rfl) (by kernel_rfl) fun hx => ?_; simp only [List.take_succ_cons, List.take_zero, List.drop_succ_cons, List.drop_zero]; (repeat (any_goals (first | go_big_quiet_step (fail) | quiet_step (fail)))))
              (refine wpQuiet_nil ?_; clear hx; intro u; have hbw12 := ext_bel _ u; have hxw12 := ext_cell _ u; generalize ext _ u = w12 at *; clear u; have hsw12 := hbw12.size; (try simp at hsw12))
              go_wp2_with (fail)
              go_roundw
              case rel => exact ⟨t + 1, by omega, by go_num, hbi.trans (hbw12.mono hbi.size), HP2.out⟩
              case measure => simp [intOf]; omega
          · have es : (y.s.toList == x.s.toList) = false := by
              simp only [beq_eq_false_iff_ne]; exact fun e => hs (toList_inj e)
            have HP2 := Lib.hid (HNX.out fun h => absurd h hs)
            clear hs HNX
            go_wp2_with (fail)
            (refine region_extx 36 (by kernel_rfl) (by kernel_rfl) fun hx => ?_; simp only [List.take_succ_cons, List.take_zero, List.drop_succ_cons, List.drop_zero]; (repeat (any_goals (first | go_big_quiet_step (fail) | quiet_step (fail)))))
            (refine wpQuiet_nil ?_; clear hx; intro u; have hbw12 := ext_bel _ u; have hxw12 := ext_cell _ u; generalize ext _ u = w12 at *; clear u; have hsw12 := hbw12.size; (try simp at hsw12))
            go_wp2_with (fail)
            go_roundw
            case rel => exact ⟨t + 1, by omega, by go_num, hbi.trans (hbw12.mono hbi.size), HP2.out⟩
            case measure => simp [intOf]; omega
        · obtain rfl : t = j := by omega
          have OWI := Lib.hid owni
          have HBK := Lib.hid (HN2.out HPR.out)
          have hz12 := hbi2.size
          clear owni own2 HN2 HPR
          go_wp2_with (at_builtin; (refine wpList_append_rows _ rfl (.tmp 87) (.tmp 92) 38 rfl w1.heap.size 45 i0 (.agg #[.string ⟨#[]⟩, .int .i64 0, .int .i64 0]) 3 32 Try.underlying38 HI.out HZ0.out HZ1.out HZ2.out rfl (by decide) A' (List.length R) c' (cellsOf 3 msgC R) rfl (World.ownsRow.alloc OWI.out _) (some ⟨_, 0, none⟩) 1 1 [.string (Msg.s x), .int .i64 (Msg.v x), .int .i64 (Msg.l x)] rfl rfl (fun h => by cases h) (fun ad h => by cases h; exact news3 (blk_new rfl)) (mem3 x) (by unfold maxLen; omega) (by omega) (by simp; omega) ?_; intro A2 c2' w3 h1 h2 h3))
          obtain ⟨q4, q5⟩ := app_end hbi2 OWI.out h1 h2
          have hL : (R ++ [x]).length = R.length + 1 := by simp
          go_roundw
          case rel =>
            refine ⟨t, A2, c2', by omega, rfl, by rw [HRV.out, hL], q5, HBK.out, ?_⟩
            rw [HRV.out]
            exact q4
          case measure => simp [intOf]
    | zero =>
      rw [show ((0 : Nat) : Int) - 1 = -1 by omega]
      have hcns := hok.cns
      have hme := hok.e
      rw [List.drop_zero] at hown hme
      have HCN := Lib.hid hcns
      have HME := Lib.hid hme
      have hI2 : AoC w1 l ag.length (.slice A' (l.drop 0).reverse.length c') (.int .i64 0) wr := by
        rw [List.drop_zero]
        exact ⟨0, A', l.reverse, c', Nat.zero_le _, rfl, rfl, hbw, by simp, fun m hm => List.mem_reverse.1 hm, fun m hm => List.mem_reverse.2 hm, hown⟩
      clear hcns hme hown hok hbw
      go_wp2_with (fail)
      go_loopw [5, 8] (fun bk i wr => AoC w1 l ag.length bk i wr) (fun _ i _ => ag.length - (intOf i).toNat)
      case atStart => exact hI2
      case round =>
        obtain ⟨k, A2, o, c2, hk, rfl, rfl, hbw, hol, hm1, hm2, hown⟩ := hrel
        have HM1 := Lib.hid hm1
        have HM2 := Lib.hid hm2
        clear hm1 hm2
        by_cases hc : k < ag.length ∧ 0 < l.length
        · obtain ⟨hc1, hc2⟩ := hc
          have hAr := RowsAt.below hA0 hbw
          obtain ⟨b3, o3, rfl, hb3', g0⟩ := IntsAt.at_ (RowsAt.below hB0 hbw) hc1
          generalize ag[k] = z at *
          have hm0 := Int.emod_nonneg z (show (l.length : Int) ≠ 0 by omega)
          have hm1 := Int.emod_lt_of_pos z (show 0 < (l.length : Int) by omega)
          have HMOD := Lib.hid (fun W => Mod_any z (l.length : Int) W (by omega) (by omega))
          obtain ⟨q, hq⟩ : ∃ q : Nat, z % (l.length : Int) = q := ⟨(z % (l.length : Int)).toNat, by omega⟩
          rw [hq] at HMOD hm1
          have hql : q < l.length := by omega
          clear hm0 hq
          obtain ⟨b1, o1, rfl, hb1', c0, c1, c2'⟩ := MsgsAt.at_ hAr hql
          have hmem : l[q] ∈ l := List.getElem_mem _
          generalize l[q] = x at *
          have HMEM := Lib.hid hmem
          have hzb := hbw.size
          have OWN := Lib.hid hown
          clear hmem hown hAr
          go_wp2_with (first | (go_at_call 54; refine (HMOD.out _).mono ?_; rintro e w' ⟨rfl, rfl⟩) | (at_builtin; (refine wpList_append_rows _ rfl (.tmp 105) (.tmp 116) 38 rfl w1.heap.size 45 i0 (.agg #[.string ⟨#[]⟩, .int .i64 0, .int .i64 0]) 3 32 Try.underlying38 HI.out HZ0.out HZ1.out HZ2.out rfl (by decide) A2 (List.length o) c2 (cellsOf 3 msgC o) rfl (World.ownsRow.alloc OWN.out _) (some ⟨_, 0, none⟩) 1 1 [.string (Msg.s x), .int .i64 (Msg.v x), .int .i64 (Msg.l x)] rfl rfl (fun h => by cases h) (fun ad h => by cases h; exact news3 (blk_new rfl)) (mem3 x) (by unfold maxLen; omega) (by omega) (by simp; omega) ?_; intro A3 c3 w3 h1 h2 h3)))
          obtain ⟨q4, q5⟩ := app_end hbw OWN.out h1 h2
          have hL : (o ++ [x]).length = o.length + 1 := by simp
          go_roundw
          case rel =>
            refine ⟨k + 1, A3, o ++ [x], c3, by omega, by go_num, by rw [hL], q5, by rw [hL]; omega, fun m hm => ?_, fun m hm => List.mem_append_left _ (HM2.out m hm), q4⟩
            rcases List.mem_append.1 hm with hm | hm
            · exact HM1.out m hm
            · rw [List.mem_singleton] at hm
              rw [hm]; exact HMEM.out
          case measure => simp [intOf]; omega
        · obtain ⟨b5, g5⟩ : ∃ b, decide (k < ag.length) = b := ⟨_, rfl⟩
          obtain ⟨b6, g6⟩ : ∃ b, decide (0 < l.length) = b := ⟨_, rfl⟩
          have g5' : decide ((k : Int) < (ag.length : Int)) = b5 := by rw [← g5]; simp
          have g6' : decide ((0 : Int) < (l.length : Int)) = b6 := by rw [← g6]; simp
          have hbb : b5 = false ∨ (b5 = true ∧ b6 = false) := by
            cases b5
            · exact .inl rfl
            · cases b6
              · exact .inr ⟨rfl, rfl⟩
              · simp at g5 g6; exact absurd ⟨g5, by omega⟩ hc
          clear hc
          obtain ⟨S, e8, e9, hhas⟩ := newest_same (L := l) (M := o) hn30 (by omega) HCN.out HME.out HM1.out HM2.out
          have hz := chkSE_zero (fun m hm => HME.out m (hhas.sub m hm)) hhas.srt hhas.len
          have hSl := hhas.len
          have HN1 := Lib.hid (fun (A' : Option Addr) (c' : Nat) (W : World) (h : MsgsAt W A' l) => NewestOf_any A' l c' W (by omega) (fun x hx => by have := HS30.out x hx; omega) h)
          have HN2 := Lib.hid (fun (W : World) (h : MsgsAt W A2 o) => NewestOf_any A2 o c2 W (by omega) (fun x hx => by have := HS30.out x (HM1.out x hx); omega) h)
          rw [e8] at HN1
          rw [e9] at HN2
          have HSE := Lib.hid (fun (A' : Option Addr) (c' : Nat) (W : World) (h : MsgsAt W A' S) => StoreErr_any A' S c' W (by omega) h)
          rw [hz] at HSE
          have HHAS := Lib.hid hhas
          have hO := rowsAt_of_own (f := msgC) hown rfl (by decide)
          clear e8 e9 hz hhas hown HM1 HM2 HCN HME
          go_upto_region 18 with (fail)
          go_cut [102] from 94 to 101 (fun s wx => s = .bool false ∧ wr = wx)
          case first =>
            rcases hbb with rfl | ⟨rfl, rfl⟩
            all_goals
              go_wp2_with (fail)
              go_meet
              case rel => exact ⟨rfl, rfl⟩
          case rest =>
          obtain ⟨rfl, rfl⟩ := hcut
          clear g5 g6 g5' g6' hbb
          have hAr := RowsAt.below hA0 hbw
          go_wp2_with (fail)
          refine (CopyMessages_any A l ca _ (by omega) hAr).mono ?_
          rintro e w3 ⟨A3, c3, rfl, own3, hb3⟩
          replace hO := RowsAt.below hO hb3
          replace hAr := RowsAt.below hAr hb3
          replace hbw := hbw.trans (hb3.mono hbw.size)
          go_wp2_with (fail)
          refine (HN1.out A3 c3 _ (rowsAt_of_own own3 rfl (by decide))).mono ?_
          rintro e w4 ⟨A4, c4, rfl, r4, hb4⟩
          simp only at r4
          replace hO := RowsAt.below hO hb4
          replace hAr := RowsAt.below hAr hb4
          replace hbw := hbw.trans (hb4.mono hbw.size)
          clear own3 hb3 hb4 HN1
          go_wp2_with (fail)
          refine (HN2.out _ hO).mono ?_
          rintro e w5 ⟨A5, c5, rfl, r5, hb5⟩
          simp only at r5
          replace r4 := RowsAt.below r4 hb5
          replace hAr := RowsAt.below hAr hb5
          replace hbw := hbw.trans (hb5.mono hbw.size)
          clear hO hb5 HN2
          go_wp2_with (fail)
          refine (SameM_refl A4 A5 S c4 c5 _ (by omega) r4 r5).mono ?_
          rintro e w6 ⟨rfl, hb6⟩
          replace r4 := RowsAt.below r4 hb6
          replace hAr := RowsAt.below hAr hb6
          replace hbw := hbw.trans (hb6.mono hbw.size)
          clear r5 hb6
          go_wp2_with (fail)
          refine (HSE.out A4 c4 _ r4).mono ?_
          rintro e w7 ⟨rfl, hb7⟩
          replace r4 := RowsAt.below r4 hb7
          replace hAr := RowsAt.below hAr hb7
          replace hbw := hbw.trans (hb7.mono hbw.size)
          clear HSE hb7
          go_wp2_with (fail)
          go_loopw [15] (fun i wr => AoD w7 l.length i wr) (fun i _ => l.length - (intOf i).toNat)
          case atStart => exact ⟨0, Nat.zero_le _, rfl, Below.refl _ _⟩
          case round =>
            obtain ⟨i, hi, rfl, hbd⟩ := hrel
            have hbd2 := hbw.trans (hbd.mono hbw.size)
            have r4r := RowsAt.below r4 hbd
            have hArr := RowsAt.below hAr hbd
            by_cases hlt : i < l.length
            · obtain ⟨y, hy, hys, hyv⟩ := HHAS.out.all l[i] (List.getElem_mem _)
              obtain ⟨q, hq⟩ := List.getElem?_of_mem hy
              have hfd := find_at HHAS.out.srt hq hys
              obtain ⟨hqS, hqe⟩ := List.getElem?_eq_some_iff.1 hq
              have HFI := Lib.hid (fun W (h : MsgsAt W A4 S) => Find_any A4 S c4 l[i].s W (by omega) h)
              rw [hfd] at HFI
              obtain ⟨b1, o1, rfl, hb1', c0, c1, c2'⟩ := MsgsAt.at_ hArr hlt
              obtain ⟨b2, o2, rfl, hb2', d0, d1, d2⟩ := MsgsAt.at_ r4r hqS
              rw [hqe] at d0 d1 d2
              generalize l[i] = x at *
              have e5 : decide (y.v < x.v) = false := by simp; omega
              have hi1 : (i : Int) < (l.length : Int) := by omega
              have hq1 : (q : Int) < (S.length : Int) := by omega
              have e6 : decide ((q : Int) < 0) = false := by simp
              clear hfd hqe hq hy hys hyv
              go_wp2_with (go_at_call 33; refine (HFI.out _ r4r).mono ?_; rintro e w' ⟨rfl, rfl⟩)
              (refine region_extx 14 (by kernel_rfl) (by kernel_rfl) fun hx => ?_; simp only [List.take_succ_cons, List.take_zero, List.drop_succ_cons, List.drop_zero]; (repeat (any_goals (first | go_big_quiet_step (fail) | quiet_step (fail)))))
              (refine wpQuiet_nil ?_; clear hx; intro u; have hbw12 := ext_bel _ u; have hxw12 := ext_cell _ u; generalize ext _ u = w12 at *; clear u; have hsw12 := hbw12.size; (try simp at hsw12))
              go_wp2_with (fail)
              go_roundw
              case rel => exact ⟨i + 1, by omega, by go_num, hbd.trans (hbw12.mono hbd.size)⟩
              case measure => simp [intOf]; omega
            · go_wp2_with (fail)
              go_ret
              exact ⟨rfl, hb1.trans (hbd2.mono hb1.size)⟩
end Go.Proofs.Ytcfbnmcdncndpaa
