/-
  Chapter 2: the candidates of readings.
-/
import Derived.Test.YtlnbbioponmcfaaDoorERea
import Derived.Laws.Shifts
namespace Go.Proofs.YtlnbbioponmcfaaDoor
open Go.ChangeShapes Go.WideShapes Go.ChangeAt Go.RowKit
set_option linter.unusedVariables false
set_option linter.unusedSimpArgs false

abbrev IntsAt := RowsAt 1 (fun (x : Int) _ => Value.int .i64 x)
theorem IntsAt.at_ {w : World} {A : Option Addr} {l : List Int} (h : IntsAt w A l) {k : Nat} (hk : k < l.length) :
    ∃ b off, A = some ⟨b, off, none⟩ ∧ b < w.heap.size ∧ w.cell? ⟨b, off + k, none⟩ = some (.int .i64 l[k]) := by
  obtain ⟨b, off, e, hb, hc⟩ := h k l[k] (List.getElem?_eq_getElem hk)
  exact ⟨b, off, e, hb, by have := hc 0 (by omega); simpa using this⟩
def intC (x : Int) (_ : Nat) : Value := .int .i64 x
theorem intC_one (x : Int) (i : Nat) : (intC x i).oneCell' = true := rfl
theorem infoInt : (Tryd.prog.info? 3).map (fun i => (i.zero, i.size, i.bytes)) = some (some (.int .i64 0), 1, 8) := by kernel_rfl
theorem infoInt_ : ∃ i : TypeInfo, Tryd.prog.info? 3 = some i ∧ i.zero = some (.int .i64 0) ∧ i.size = 1 ∧ i.bytes = 8 := by
  have h := infoInt
  cases hi : Tryd.prog.info? 3 with
  | none => rw [hi] at h; cases h
  | some i =>
    rw [hi] at h
    simp only [Option.map_some, Option.some.injEq, Prod.mk.injEq] at h
    exact ⟨i, rfl, h.1, h.2.1, h.2.2⟩
theorem newsI {w : World} {vb : Nat} {s : Int} (hv : w.heap[vb]? = some (.cells #[.int .i64 s] 3)) : ∀ j u, [Value.int .i64 s][j]? = some u → w.cell? ((⟨vb, 0, none⟩ : Addr).add j) = some u := fun j u hu => by
  rw [Addr.add_lit, Nat.zero_add]
  exact blk_cell hv (by simpa using hu)
/-- a reading agrees with a direction -/
def agr (r : Rd) (d : Int) : Bool := decide (dstP (r.s * d) r.p ≤ r.e)
def agUp : List Rd → Nat → Int → Nat → Bool
  | [], _, _, _ => true
  | r :: t, set, d, i => (!(set.testBit i) || agr r d) && agUp t set d (i + 1)
def candK (l : List Rd) (set : Nat) (j : Nat) : List Int := ((List.range j).map fun (i : Nat) => (i : Int) - 90).filter fun d => agUp l set d 0
/-- the candidates of some of the readings -/
def candS (l : List Rd) (set : Nat) : List Int := candK l set 181
theorem candK_yes {l : List Rd} {set j : Nat} (h : agUp l set ((j : Int) - 90) 0 = true) : candK l set j ++ [(j : Int) - 90] = candK l set (j + 1) := by
  unfold candK
  rw [List.range_succ, List.map_append, List.filter_append]
  simp [h]
theorem candK_no {l : List Rd} {set j : Nat} (h : agUp l set ((j : Int) - 90) 0 = false) : candK l set j = candK l set (j + 1) := by
  unfold candK
  rw [List.range_succ, List.map_append, List.filter_append]
  simp [h]
theorem candK_len (l : List Rd) (set j : Nat) : (candK l set j).length ≤ j := by
  unfold candK
  refine Nat.le_trans (List.length_filter_le _ _) ?_
  simp
theorem bit_fact (set k : Nat) (hs : set < 18446744073709551616) : (bits BinOp.and IntKind.u64 ((set : Int) / 2 ^ k) 1 == 0) = !(set.testBit k) := by
  have e : (set : Int) / 2 ^ k = ((set / 2 ^ k : Nat) : Int) := by simp
  have hle : set / 2 ^ k ≤ set := Nat.div_le_self _ _
  rw [e, Nat.testBit_eq_decide_div_mod_eq]
  clear e
  generalize set / 2 ^ k = q at *
  rw [and_one_u64 (q : Int) (by omega) (by omega)]
  by_cases h : q % 2 = 1
  · rw [decide_eq_true h]
    simp
    omega
  · rw [decide_eq_false h]
    simp
    omega
def IntsX (q : List Int) (w : World) (e : Ending) (w' : World) : Prop := ∃ A' c', e = .returned (.slice A' q.length c') ∧ IntsAt w' A' q ∧ Below w.heap.size w w'
set_option maxRecDepth 100000 in
set_option maxHeartbeats 4000000 in
theorem candidates_any (A : Option Addr) (l : List Rd) (cap : Nat) (set : Nat) (w : World) (hl : l.length ≤ 8) (hs : set < 18446744073709551616) (hok : ∀ x ∈ l, OkRd x) (hA : RdsAt w A l) :
    Calls Tryd.prog 37 #[.slice A l.length cap, .int .u64 set] w (IntsX (candS l set) w) := by
  obtain ⟨i0, hi0, hz0, hz1, hz2⟩ := infoInt_
  have HI := Lib.hid hi0
  have HZ0 := Lib.hid hz0
  have HZ1 := Lib.hid hz1
  have HZ2 := Lib.hid hz2
  have HOK := Lib.hid hok
  clear hi0 hz0 hz1 hz2 hok
  go_enter Tryd.func37, Tryd.ntmps37
  go_wp2_with (fail)
  go_loopw [5, 6] (fun o i wr => ∃ (j : Nat) (A' : Option Addr) (c' : Nat), j ≤ 181 ∧ i = .int .i64 ((j : Int) - 90) ∧ o = .slice A' (candK l set j).length c' ∧ wr.ownsRow w.heap.size 3 1 (.slice A' (candK l set j).length c') (candK l set j).length (cellsOf 1 intC (candK l set j)) ∧ Below w.heap.size w wr) (fun _ i _ => (91 - intOf i).toNat)
  case atStart => exact ⟨0, none, 0, Nat.zero_le _, rfl, rfl, World.ownsRow_nil _ _ _ _, Below.refl _ _⟩
  case round =>
    obtain ⟨j, A', c', hj, rfl, rfl, own, hbr⟩ := hrel
    obtain ⟨wo, rfl⟩ : ∃ wo : World, wo = wr := ⟨_, rfl⟩
    have AR := RowsAt.below hA hbr
    have hil := candK_len l set j
    have OWN := Lib.hid own
    clear own
    have hj0 : (-90 : Int) ≤ (j : Int) - 90 := by omega
    have hj1 : (j : Int) - 90 ≤ 91 := by omega
    by_cases hlt : j < 181
    · have hd1 : (j : Int) - 90 ≤ 90 := by omega
      have hyes := @candK_yes l set j
      have hno := @candK_no l set j
      have HYES := Lib.hid hyes
      have HNO := Lib.hid hno
      clear hyes hno
      have hj3 : (j : Int) ≤ 180 := by omega
      have hj2 : ((j : Int) - 90) + 1 = ((j + 1 : Nat) : Int) - 90 := by omega
      have HJ := Lib.hid hj2
      clear hj2
      obtain ⟨d, hd⟩ : ∃ d : Int, d = (j : Int) - 90 := ⟨_, rfl⟩
      rw [← hd] at HYES HNO HJ hj0 hj1 hd1 ⊢
      have HD := Lib.hid hd
      clear hd
      go_wp2_with (fail)
      go_loopw [7, 16] (fun t i wx => ∃ (k : Nat) (b : Bool), k ≤ l.length ∧ i = .int .i64 k ∧ t = .bool b ∧ agUp l set d 0 = (b && agUp (l.drop k) set d k) ∧ Below wo.heap.size wo wx) (fun _ i _ => l.length - (intOf i).toNat)
      case atStart => exact ⟨0, true, Nat.zero_le _, rfl, rfl, rfl, Below.refl _ _⟩
      case round =>
        obtain ⟨k, b, hk, rfl, rfl, hag, hbx⟩ := hrel
        have HAG := Lib.hid hag
        have AX := RowsAt.below AR hbx
        clear hag
        by_cases hkl : k < l.length
        · have hok := HOK.out _ (List.getElem_mem hkl)
          have hd2 : l.drop k = l[k] :: l.drop (k + 1) := List.drop_eq_getElem_cons hkl
          rw [hd2, agUp] at HAG
          clear hd2
          obtain ⟨b1, o1, rfl, hb1, c0, c1, c2⟩ := RdsAt.at_ AX hkl
          generalize l[k] = r at *
          have hk1 : (k : Int) < (l.length : Int) := by omega
          have hk8 : (k : Int) ≤ 8 := by omega
          obtain ⟨s0, s1, p0, p1, e0, e1⟩ := hok
          obtain ⟨m0, m1⟩ := mul_bd s0 s1 hj0 hd1
          have hq : agr r d = decide (dstP (r.s * d) r.p ≤ r.e) := rfl
          have HQ := Lib.hid hq
          have HDI := Lib.hid (fun W => distance_any (r.s * d) r.p W (by omega) (by omega) (by omega) (by omega))
          clear hq
          generalize agr r d = ab at *
          generalize dstP (r.s * d) r.p = dd at *
          cases b
          · go_wp2_with (fail)
            (refine region_extx 20 (by kernel_rfl) (by kernel_rfl) fun hx => ?_; simp only [List.take_succ_cons, List.take_zero, List.drop_succ_cons, List.drop_zero]; (repeat (any_goals (first | go_big_quiet_step (fail) | quiet_step (fail)))))
            (refine wpQuiet_nil ?_; clear hx; intro u; have hbw2 := ext_bel _ u; have hxw2 := ext_cell _ u; generalize ext _ u = w2 at *; clear u; have hsw2 := hbw2.size; (try simp at hsw2))
            have hbw2' : Below wo.heap.size wo w2 := (by repeat (first | assumption | exact Below.refl _ _ | refine Below.drew ?_ | (refine below_alloc _ ?_ ?_; focus (first | omega | (simp; done) | (simp; omega) | (simp at *; omega))) | (refine below_set _ ?_ ?_; focus (first | omega | (simp; done) | (simp; omega) | (simp at *; omega))) | refine below_drewN ?_ _ | (refine below_call (by assumption) ?_ ?_; focus (first | omega | (simp; done) | (simp; omega) | (simp at *; omega))) | (refine below_call' (by assumption) ?_ ?_; focus (first | omega | (simp; done) | (simp; omega) | (simp at *; omega)))))
            go_wp2_with (fail)
            exact ⟨⟨k + 1, false, by omega, by go_num, rfl, by rw [HAG.out, Bool.false_and, Bool.false_and], hbw2'⟩, by simp [intOf]; omega⟩
          · have hbf := bit_fact set k hs
            cases hbit : set.testBit k
            · rw [hbit] at HAG hbf
              simp only [Bool.not_false] at hbf
              clear hbit
              go_wp2_with (fail)
              (refine region_extx 20 (by kernel_rfl) (by kernel_rfl) fun hx => ?_; simp only [List.take_succ_cons, List.take_zero, List.drop_succ_cons, List.drop_zero]; (repeat (any_goals (first | go_big_quiet_step (fail) | quiet_step (fail)))))
              (refine wpQuiet_nil ?_; clear hx; intro u; have hbw2 := ext_bel _ u; have hxw2 := ext_cell _ u; generalize ext _ u = w2 at *; clear u; have hsw2 := hbw2.size; (try simp at hsw2))
              have hbw2' : Below wo.heap.size wo w2 := (by repeat (first | assumption | exact Below.refl _ _ | refine Below.drew ?_ | (refine below_alloc _ ?_ ?_; focus (first | omega | (simp; done) | (simp; omega) | (simp at *; omega))) | (refine below_set _ ?_ ?_; focus (first | omega | (simp; done) | (simp; omega) | (simp at *; omega))) | refine below_drewN ?_ _ | (refine below_call (by assumption) ?_ ?_; focus (first | omega | (simp; done) | (simp; omega) | (simp at *; omega))) | (refine below_call' (by assumption) ?_ ?_; focus (first | omega | (simp; done) | (simp; omega) | (simp at *; omega)))))
              go_wp2_with (fail)
              exact ⟨⟨k + 1, true, by omega, by go_num, rfl, by rw [HAG.out]; simp, hbw2'⟩, by simp [intOf]; omega⟩
            · rw [hbit] at HAG hbf
              simp only [Bool.not_true] at hbf
              clear hbit
              go_wp2_with (fail)
              (refine region_extx 20 (by kernel_rfl) (by kernel_rfl) fun hx => ?_; simp only [List.take_succ_cons, List.take_zero, List.drop_succ_cons, List.drop_zero]; (repeat (any_goals (first | go_big_quiet_step (((go_at_call 41; with_reducible exact ext_same (HDI.out _)))) | quiet_step (((go_at_call 41; with_reducible exact ext_same (HDI.out _))))))))
              (refine wpQuiet_nil ?_; clear hx; intro u; have hbw2 := ext_bel _ u; have hxw2 := ext_cell _ u; generalize ext _ u = w2 at *; clear u; have hsw2 := hbw2.size; (try simp at hsw2))
              have hbw2' : Below wo.heap.size wo w2 := (by repeat (first | assumption | exact Below.refl _ _ | refine Below.drew ?_ | (refine below_alloc _ ?_ ?_; focus (first | omega | (simp; done) | (simp; omega) | (simp at *; omega))) | (refine below_set _ ?_ ?_; focus (first | omega | (simp; done) | (simp; omega) | (simp at *; omega))) | refine below_drewN ?_ _ | (refine below_call (by assumption) ?_ ?_; focus (first | omega | (simp; done) | (simp; omega) | (simp at *; omega))) | (refine below_call' (by assumption) ?_ ?_; focus (first | omega | (simp; done) | (simp; omega) | (simp at *; omega)))))
              go_wp2_with (fail)
              exact ⟨⟨k + 1, ab, by omega, by go_num, by rw [HQ.out] <;> rfl, by rw [HAG.out]; simp, hbw2'⟩, by simp [intOf]; omega⟩
        · have hd2 : l.drop k = [] := List.drop_eq_nil_of_le (by omega)
          rw [hd2, agUp, Bool.and_true] at HAG
          clear hd2 AX
          have hkl2 : l.length ≤ k := by omega
          have hbx2 : Below w.heap.size w wr := hbr.trans (hbx.mono hbr.size)
          have OWN2 := Lib.hid (own_below OWN.out hbx)
          have zx : w.heap.size ≤ wr.heap.size := hbx2.size
          clear OWN hbx hbr AR hkl
          cases b
          · have H5 := Lib.hid (HNO.out HAG.out)
            go_wp2_with (fail)
            exact ⟨⟨j + 1, A', c', by omega, by rw [HJ.out], by rw [← H5.out], by rw [← H5.out]; exact OWN2.out, hbx2⟩, by simp [intOf]; omega⟩
          · have H5 := Lib.hid (HYES.out HAG.out)
            generalize candK l set j = out at *
            go_wp2_with (at_builtin; (refine wpList_append_rows _ rfl (.tmp 43) (.tmp 45) 23 rfl w.heap.size 3 i0 (.int .i64 0) 1 8 Tryd.underlying23 HI.out HZ0.out HZ1.out HZ2.out rfl (by decide) A' out.length c' (cellsOf 1 intC out) rfl (World.ownsRow.alloc OWN2.out _) (some ⟨_, 0, none⟩) 1 1 [.int .i64 d] rfl rfl (fun h => by cases h) (fun ad h => by cases h; exact newsI (blk_new rfl)) (fun u hu => by simp at hu; subst hu; rfl) (by unfold maxLen; omega) (by omega) (by simp; omega) ?_; intro A2' c2' w3 h1 h2 h3))
            have hL : (out ++ [d]).length = out.length + 1 := by simp
            have h4 : w3.ownsRow w.heap.size 3 1 (.slice A2' (out ++ [d]).length c2') (out ++ [d]).length (cellsOf 1 intC (out ++ [d])) := by rw [hL, cellsOf_append]; exact h1
            have h5 : Below w.heap.size w w3 := below_own (below_alloc _ (Nat.le_refl _) hbx2) h2 (World.ownsRow.alloc OWN2.out _) (Nat.le_refl _) (by simp; omega)
            rw [H5.out] at h4 hL
            have HL := Lib.hid hL
            clear h1 h2 h3 hL H5 OWN2
            go_wp2_with (fail)
            exact ⟨⟨j + 1, A2', c2', by omega, by rw [HJ.out], by rw [HL.out], h4, h5⟩, by simp [intOf]; omega⟩
    · obtain rfl : j = 181 := by omega
      have hA3 : IntsAt wo A' (candK l set 181) := rowsAt_of_own OWN.out rfl (by decide)
      clear OWN AR
      go_wp2_with (fail)
      go_ret
      exact ⟨A', c', rfl, hA3, hbr⟩
end Go.Proofs.YtlnbbioponmcfaaDoor
