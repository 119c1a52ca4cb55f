/-
  Chapter 2: the indexes in a set; comparing lists of numbers.
-/
import Derived.Test.YtppghnbabnhnbaaDoorECtL
import Derived.Test.YtppghnbabnhnbaaDoorERng
namespace Go.Proofs.YtppghnbabnhnbaaDoor
open Go.ChangeShapes Go.WideShapes Go.ChangeAt Go.RowKit
set_option linter.unusedVariables false
set_option linter.unusedSimpArgs false

set_option maxRecDepth 100000 in
theorem len8_key : ∀ y : Fin 256, ∀ h : y.val < Lib.len8tab.size, wrap64 (wrap64 ((Lib.len8tab[y.val]'h).toNat : Int)) = ((Lib.bitLen y.val : Nat) : Int) := by decide +kernel
set_option maxRecDepth 100000 in
set_option maxHeartbeats 4000000 in
theorem Len64_any (x : Nat) (hx : x < 256) (w : World) :
    Calls Tryd.prog 140 #[.int .u64 x] w fun e w' => e = .returned (.int .i64 (Lib.bitLen x : Nat)) ∧ w = w' := by
  have e1 : decide ((4294967296 : Int) ≤ (x : Int)) = false := decide_eq_false (by omega)
  have e2 : decide ((65536 : Int) ≤ (x : Int)) = false := decide_eq_false (by omega)
  have e3 : decide ((256 : Int) ≤ (x : Int)) = false := decide_eq_false (by omega)
  have hxI : (x : Int) < 256 := by omega
  go_enter Tryd.func140, Tryd.ntmps140
  go_wp2_with (fail)
  go_ret
  refine ⟨congrArg Ending.returned (congrArg (Value.int IntKind.i64) ?_), rfl⟩
  exact len8_key ⟨x, hx⟩ _
set_option maxRecDepth 100000 in
set_option maxHeartbeats 4000000 in
theorem Len_any (x : Nat) (hx : x < 256) (w : World) :
    Calls Tryd.prog 133 #[.int .u64 x] w fun e w' => e = .returned (.int .i64 (Lib.bitLen x : Nat)) ∧ w = w' := by
  have H := Lib.hid (fun W => Len64_any x hx W)
  go_enter Tryd.func133, Tryd.ntmps133
  go_wp2_with (fail)
  refine (H.out _).mono ?_
  rintro e w' ⟨rfl, rfl⟩
  go_wp2_with (fail)
  go_ret
  exact ⟨rfl, rfl⟩
/-- compares two numbers -/
def cmpI (x y : Int) : Int := if x = y then 0 else if x < y then -1 else 1
set_option maxHeartbeats 1000000 in
theorem isNaN_any (x : Int) (w : World) : Calls Tryd.prog 141 #[.int .i64 x] w fun e w' => e = .returned (.bool false) ∧ w = w' := by
  have e1 : (x != x) = false := by simp
  go_enter Tryd.func141, Tryd.ntmps141
  go_wp2_with (fail)
  go_ret
  exact ⟨rfl, rfl⟩
set_option maxRecDepth 100000 in
set_option maxHeartbeats 4000000 in
theorem cmpI_any (x y : Int) (w : World) : Calls Tryd.prog 134 #[.int .i64 x, .int .i64 y] w fun e w' => e = .returned (.int .i64 (cmpI x y)) ∧ w = w' := by
  have hq : cmpI x y = if x = y then 0 else if x < y then -1 else 1 := rfl
  have HQ := Lib.hid hq
  clear hq
  by_cases h1 : x = y
  · subst h1
    have h2 : ¬ x < x := by omega
    have h3 : decide (x < x) = false := decide_eq_false h2
    have h4 : decide (x > x) = false := decide_eq_false h2
    go_enter Tryd.func134, Tryd.ntmps134
    go_wp2_with (go_at_call 141; refine (isNaN_any _ _).mono ?_; rintro e w' ⟨rfl, rfl⟩)
    go_ret
    exact ⟨ret_int (by rw [HQ.out]; simp), rfl⟩
  · by_cases h2 : x < y
    · have h3 : decide (x < y) = true := decide_eq_true h2
      go_enter Tryd.func134, Tryd.ntmps134
      go_wp2_with (go_at_call 141; refine (isNaN_any _ _).mono ?_; rintro e w' ⟨rfl, rfl⟩)
      go_ret
      exact ⟨ret_int (by rw [HQ.out, if_neg h1, if_pos h2]), rfl⟩
    · have h3 : decide (x < y) = false := decide_eq_false h2
      have h4 : decide (y < x) = true := decide_eq_true (by omega)
      go_enter Tryd.func134, Tryd.ntmps134
      go_wp2_with (go_at_call 141; refine (isNaN_any _ _).mono ?_; rintro e w' ⟨rfl, rfl⟩)
      go_ret
      exact ⟨ret_int (by rw [HQ.out, if_neg h1, if_neg (by omega)]), rfl⟩
theorem bit_one (set k : Nat) (hs : set < 18446744073709551616) : (bits BinOp.and IntKind.u64 ((set : Int) / 2 ^ k) 1 == 1) = set.testBit k := by
  have e : (set : Int) / 2 ^ k = ((set / 2 ^ k : Nat) : Int) := by simp
  have hle : set / 2 ^ k ≤ set := Nat.div_le_self _ _
  rw [e, Nat.testBit_eq_decide_div_mod_eq]
  clear e
  generalize set / 2 ^ k = q at *
  rw [and_one_u64 (q : Int) (by omega) (by omega)]
  by_cases h : q % 2 = 1
  · rw [decide_eq_true h]
    simp
    omega
  · rw [decide_eq_false h]
    simp
    omega
theorem bitLen_lt : ∀ y : Fin 256, y.val < 2 ^ Lib.bitLen y.val := by decide +kernel
theorem idxS_bl {set n : Nat} (hn : n ≤ 8) (hs : set < 2 ^ n) : idxS set (Lib.bitLen set) = idxS set n ∧ Lib.bitLen set ≤ n := by
  have h256 : set < 256 := Nat.lt_of_lt_of_le hs (Nat.pow_le_pow_right (by decide) hn)
  have hle := Lib.bitLen_le set n (by omega) hs
  refine ⟨?_, hle⟩
  have h1 := idxS_more (bitLen_lt ⟨set, h256⟩) (n - Lib.bitLen set)
  simp only at h1
  rw [show Lib.bitLen set + (n - Lib.bitLen set) = n by omega] at h1
  exact h1.symm
set_option maxRecDepth 100000 in
set_option maxHeartbeats 4000000 in
theorem indexes_any (set n : Nat) (w : World) (hn : n ≤ 8) (hs : set < 2 ^ n) :
    Calls Tryd.prog 123 #[.int .u64 set] w (IntsX (idxS set n) w) := by
  have h256 : set < 256 := Nat.lt_of_lt_of_le hs (Nat.pow_le_pow_right (by decide) hn)
  obtain ⟨hbl, hbn⟩ := idxS_bl hn hs
  have HBL := Lib.hid hbl
  have HLN := Lib.hid (fun W => Len_any set h256 W)
  obtain ⟨i0, hi0, hz0, hz1, hz2⟩ := infoInt_
  have HI := Lib.hid hi0
  have HZ0 := Lib.hid hz0
  have HZ1 := Lib.hid hz1
  have HZ2 := Lib.hid hz2
  have hsI : (set : Int) < 256 := by omega
  clear hi0 hz0 hz1 hz2 hbl hs
  generalize Lib.bitLen set = bl at *
  have hbI : (bl : Int) ≤ 8 := by omega
  go_enter Tryd.func123, Tryd.ntmps123
  go_wp2_with (fail)
  refine (HLN.out _).mono ?_
  rintro e w' ⟨rfl, rfl⟩
  go_wp2_with (fail)
  go_loopw [3, 7] (fun o i wr => ∃ (k : Nat) (A' : Option Addr) (c' : Nat), k ≤ bl ∧ i = .int .i64 k ∧ o = .slice A' (idxS set k).length c' ∧ wr.ownsRow w.heap.size 3 1 (.slice A' (idxS set k).length c') (idxS set k).length (cellsOf 1 intC (idxS set k)) ∧ Below w.heap.size w wr) (fun _ i _ => bl - (intOf i).toNat)
  case atStart => exact ⟨0, none, 0, Nat.zero_le _, rfl, rfl, World.ownsRow_nil _ _ _ _, Below.refl _ _⟩
  case round =>
    obtain ⟨k, A', c', hk, rfl, rfl, own, hbr⟩ := hrel
    obtain ⟨wo, rfl⟩ : ∃ wo : World, wo = wr := ⟨_, rfl⟩
    have OWN := Lib.hid own
    have hil := idxS_len set k
    have zw : w.heap.size ≤ wo.heap.size := hbr.size
    clear own
    by_cases hlt : k < bl
    · have hk1 : (k : Int) < (bl : Int) := by omega
      have hbf := bit_one set k (by omega)
      have hst := idxS_succ set k
      cases hbit : set.testBit k
      · rw [hbit] at hbf hst
        rw [if_neg (by decide)] at hst
        have HST := Lib.hid hst
        clear hst hbit
        go_wp2_with (fail)
        exact ⟨⟨k + 1, A', c', by omega, by go_num, by rw [HST.out], by rw [HST.out]; exact OWN.out, hbr⟩, by simp [intOf]; omega⟩
      · rw [hbit] at hbf hst
        rw [if_pos rfl] at hst
        have HST := Lib.hid hst
        clear hst hbit
        generalize idxS set k = out at *
        go_wp2_with (at_builtin; (refine wpList_append_rows _ rfl (.tmp 15) (.tmp 17) 22 rfl w.heap.size 3 i0 (.int .i64 0) 1 8 Tryd.underlying22 HI.out HZ0.out HZ1.out HZ2.out rfl (by decide) A' out.length c' (cellsOf 1 intC out) rfl (World.ownsRow.alloc OWN.out _) (some ⟨_, 0, none⟩) 1 1 [.int .i64 k] rfl rfl (fun h => by cases h) (fun ad h => by cases h; exact newsI (blk_new rfl)) (fun u hu => by simp at hu; subst hu; rfl) (by unfold maxLen; omega) (by omega) (by simp; omega) ?_; intro A2' c2' w3 h1 h2 h3))
        have hL : (out ++ [(k : Int)]).length = out.length + 1 := by simp
        have h4 : w3.ownsRow w.heap.size 3 1 (.slice A2' (out ++ [(k : Int)]).length c2') (out ++ [(k : Int)]).length (cellsOf 1 intC (out ++ [(k : Int)])) := by rw [hL, cellsOf_append]; exact h1
        have h5 : Below w.heap.size w w3 := below_own (below_alloc _ (Nat.le_refl _) hbr) h2 (World.ownsRow.alloc OWN.out _) (Nat.le_refl _) (by simp; omega)
        rw [← HST.out] at h4 hL
        have HL := Lib.hid hL
        clear h1 h2 h3 hL HST OWN
        go_wp2_with (fail)
        exact ⟨⟨k + 1, A2', c2', by omega, by go_num, by rw [HL.out], h4, h5⟩, by simp [intOf]; omega⟩
    · obtain rfl : k = bl := by omega
      have hA3 : IntsAt wo A' (idxS set k) := rowsAt_of_own OWN.out rfl (by decide)
      rw [HBL.out] at hA3
      have HBL2 := Lib.hid (congrArg List.length HBL.out)
      clear OWN
      go_wp2_with (fail)
      go_ret
      exact ⟨A', c', by rw [← HBL2.out]; rfl, hA3, hbr⟩
set_option maxRecDepth 100000 in
set_option maxHeartbeats 4000000 in
theorem CompareL_any (A B : Option Addr) (a b : List Int) (ca cb : Nat) (w : World) (hl : a.length ≤ 1000) (hl2 : b.length ≤ 1000) (hA : IntsAt w A a) (hB : IntsAt w B b) :
    Calls Tryd.prog 124 #[.slice A a.length ca, .slice B b.length cb] w fun e w' => e = .returned (.int .i64 (lexC a b)) ∧ Below w.heap.size w w' := by
  have hai : (a.length : Int) ≤ 1000 := by omega
  have hbi : (b.length : Int) ≤ 1000 := by omega
  go_enter Tryd.func124, Tryd.ntmps124
  go_wp2_with (fail)
  go_loopw [11] (fun i wr => ∃ k : Nat, k ≤ a.length ∧ k ≤ b.length ∧ i = .int .i64 k ∧ lexC a b = lexC (a.drop k) (b.drop k) ∧ Below w.heap.size w wr) (fun i _ => a.length - (intOf i).toNat)
  case atStart => exact ⟨0, Nat.zero_le _, Nat.zero_le _, rfl, rfl, Below.refl _ _⟩
  case round =>
    obtain ⟨k, hk, hkb, rfl, he, hbr⟩ := hrel
    obtain ⟨wo, rfl⟩ : ∃ wo : World, wo = wr := ⟨_, rfl⟩
    have H := Lib.hid he
    clear he
    by_cases hlt : k < a.length
    · have hd : a.drop k = a[k] :: a.drop (k + 1) := List.drop_eq_getElem_cons hlt
      have hk1 : (k : Int) < (a.length : Int) := by omega
      obtain ⟨b1, o1, rfl, hb1, c0⟩ := IntsAt.at_ (RowsAt.below hA hbr) hlt
      by_cases hlb : k < b.length
      · have hd2 : b.drop k = b[k] :: b.drop (k + 1) := List.drop_eq_getElem_cons hlb
        have e1 : decide ((b.length : Int) ≤ (k : Int)) = false := decide_eq_false (by omega)
        have hkB : (k : Int) < (b.length : Int) := by omega
        obtain ⟨b2, o2, rfl, hb2, c1⟩ := IntsAt.at_ (RowsAt.below hB hbr) hlb
        rw [hd, hd2, lexC] at H
        clear hd hd2
        have HC := Lib.hid (fun W => cmpI_any a[k] b[k] W)
        generalize a[k] = x at *
        generalize b[k] = y at *
        have hq : cmpI x y = if x = y then 0 else if x < y then -1 else 1 := rfl
        by_cases hxy : x = y
        · rw [if_pos hxy] at H hq
          rw [hq] at HC
          clear hq hxy
          go_wp2_with (fail)
          refine (HC.out _).mono ?_
          rintro e w' ⟨rfl, rfl⟩
          go_wp2_with (fail)
          exact ⟨⟨k + 1, by omega, by omega, by go_num, H.out, hbr⟩, by simp [intOf]; omega⟩
        · rw [if_neg hxy] at H hq
          rw [← hq] at H
          have hnz : (cmpI x y != 0) = true := by
            rw [hq]; split <;> rfl
          clear hq hxy
          generalize cmpI x y = cc at *
          go_wp2_with (fail)
          refine (HC.out _).mono ?_
          rintro e w' ⟨rfl, rfl⟩
          go_wp2_with (fail)
          go_ret
          exact ⟨ret_int (by rw [H.out]), hbr⟩
      · have hd2 : b.drop k = [] := List.drop_eq_nil_of_le (by omega)
        have e1 : decide ((b.length : Int) ≤ (k : Int)) = true := decide_eq_true (by omega)
        rw [hd, hd2, lexC] at H
        clear hd hd2
        go_wp2_with (fail)
        go_ret
        exact ⟨ret_int (by rw [H.out]), hbr⟩
    · obtain rfl : k = a.length := by omega
      have hd : a.drop a.length = [] := List.drop_eq_nil_of_le (by omega)
      rw [hd] at H
      clear hd
      by_cases hlb : a.length < b.length
      · have e1 : decide ((a.length : Int) < (b.length : Int)) = true := decide_eq_true (by omega)
        rw [List.drop_eq_getElem_cons hlb, lexC] at H
        go_wp2_with (fail)
        go_ret
        exact ⟨ret_int (by rw [H.out]), hbr⟩
      · have e1 : decide ((a.length : Int) < (b.length : Int)) = false := decide_eq_false (by omega)
        rw [List.drop_eq_nil_of_le (by omega), lexC] at H
        go_wp2_with (fail)
        go_ret
        exact ⟨ret_int (by rw [H.out]), hbr⟩
set_option maxRecDepth 100000 in
set_option maxHeartbeats 4000000 in
theorem Before_any (A B : Option Addr) (a b : List Int) (ca cb : Nat) (w : World) (hl : a.length ≤ 1000) (hl2 : b.length ≤ 1000) (hA : IntsAt w A a) (hB : IntsAt w B b) :
    Calls Tryd.prog 125 #[.slice A a.length ca, .slice B b.length cb] w fun e w' => e = .returned (.bool (lexB a b)) ∧ Below w.heap.size w w' := by
  have hai : (a.length : Int) ≤ 1000 := by omega
  have hbi : (b.length : Int) ≤ 1000 := by omega
  go_enter Tryd.func125, Tryd.ntmps125
  go_wp2_with (fail)
  go_loopw [5] (fun i wr => ∃ k : Nat, k ≤ a.length ∧ k ≤ b.length ∧ i = .int .i64 k ∧ lexB a b = lexB (a.drop k) (b.drop k) ∧ Below w.heap.size w wr) (fun i _ => a.length - (intOf i).toNat)
  case atStart => exact ⟨0, Nat.zero_le _, Nat.zero_le _, rfl, rfl, Below.refl _ _⟩
  case round =>
    obtain ⟨k, hk, hkb, rfl, he, hbr⟩ := hrel
    obtain ⟨wo, rfl⟩ : ∃ wo : World, wo = wr := ⟨_, rfl⟩
    have H := Lib.hid he
    clear he
    by_cases hlt : k < a.length
    · have hd : a.drop k = a[k] :: a.drop (k + 1) := List.drop_eq_getElem_cons hlt
      have hk1 : (k : Int) < (a.length : Int) := by omega
      obtain ⟨b1, o1, rfl, hb1, c0⟩ := IntsAt.at_ (RowsAt.below hA hbr) hlt
      by_cases hlb : k < b.length
      · have hd2 : b.drop k = b[k] :: b.drop (k + 1) := List.drop_eq_getElem_cons hlb
        have hkB : (k : Int) < (b.length : Int) := by omega
        obtain ⟨b2, o2, rfl, hb2, c1⟩ := IntsAt.at_ (RowsAt.below hB hbr) hlb
        rw [hd, hd2, lexB] at H
        clear hd hd2
        generalize a[k] = x at *
        generalize b[k] = y at *
        by_cases hxy : x = y
        · rw [if_pos hxy] at H
          have e1 : (x != y) = false := by simpa using hxy
          clear hxy
          go_upto_region 4 with (fail)
          (refine region_extx 8 (by kernel_rfl) (by kernel_rfl) fun hx => ?_; simp only [List.take_succ_cons, List.take_zero, List.drop_succ_cons, List.drop_zero]; (repeat (any_goals (first | go_big_quiet_step (fail) | quiet_step (fail)))))
          (refine wpQuiet_nil ?_; clear hx; intro u; have hbw2 := ext_bel _ u; have hxw2 := ext_cell _ u; generalize ext _ u = w2 at *; clear u; have hsw2 := hbw2.size; (try simp at hsw2))
          have hbw := hbr.trans (hbw2.mono hbr.size)
          go_wp2_with (fail)
          exact ⟨⟨k + 1, by omega, by omega, by go_num, H.out, hbw⟩, by simp [intOf]; omega⟩
        · rw [if_neg hxy] at H
          have e1 : (x != y) = true := by simpa using hxy
          clear hxy
          go_upto_region 4 with (fail)
          (refine region_extx 8 (by kernel_rfl) (by kernel_rfl) fun hx => ?_; simp only [List.take_succ_cons, List.take_zero, List.drop_succ_cons, List.drop_zero]; (repeat (any_goals (first | go_big_quiet_step (fail) | quiet_step (fail)))))
          (refine wpQuiet_nil ?_; clear hx; intro u; have hbw2 := ext_bel _ u; have hxw2 := ext_cell _ u; generalize ext _ u = w2 at *; clear u; have hsw2 := hbw2.size; (try simp at hsw2))
          have hbw := hbr.trans (hbw2.mono hbr.size)
          replace c0 := cell_below' hbw2 c0
          replace c1 := cell_below' hbw2 c1
          clear hxw2 hsw2 hbw2
          go_upto_region 5 with (fail)
          (refine region_extx 8 (by kernel_rfl) (by kernel_rfl) fun hx => ?_; simp only [List.take_succ_cons, List.take_zero, List.drop_succ_cons, List.drop_zero]; (repeat (any_goals (first | go_big_quiet_step (fail) | quiet_step (fail)))))
          (refine wpQuiet_nil ?_; clear hx; intro u; have hbw3 := ext_bel _ u; have hxw3 := ext_cell _ u; generalize ext _ u = w3 at *; clear u; have hsw3 := hbw3.size; (try simp at hsw3))
          have hbx := hbw.trans (hbw3.mono hbw.size)
          go_wp2_with (fail)
          go_ret
          exact ⟨ret_bool (by rw [H.out]), hbx⟩
      · obtain rfl : k = b.length := by omega
        have hd2 : b.drop b.length = [] := List.drop_eq_nil_of_le (by omega)
        have e1 : decide ((a.length : Int) < (b.length : Int)) = false := decide_eq_false (by omega)
        rw [hd, hd2, lexB] at H
        clear hd hd2
        go_wp2_with (fail)
        go_ret
        exact ⟨ret_bool (by rw [H.out] <;> first | rfl | (simp; omega)), hbr⟩
    · obtain rfl : k = a.length := by omega
      have hd : a.drop a.length = [] := List.drop_eq_nil_of_le (by omega)
      rw [hd] at H
      clear hd
      by_cases hlb : a.length < b.length
      · have e1 : decide ((a.length : Int) < (b.length : Int)) = true := decide_eq_true (by omega)
        rw [List.drop_eq_getElem_cons hlb, lexB] at H
        go_wp2_with (fail)
        go_ret
        exact ⟨ret_bool (by rw [H.out] <;> first | rfl | (simp; omega)), hbr⟩
      · have e1 : decide ((a.length : Int) < (b.length : Int)) = false := decide_eq_false (by omega)
        rw [List.drop_eq_nil_of_le (by omega), lexB] at H
        go_wp2_with (fail)
        go_ret
        exact ⟨ret_bool (by rw [H.out] <;> first | rfl | (simp; omega)), hbr⟩
end Go.Proofs.YtppghnbabnhnbaaDoor
