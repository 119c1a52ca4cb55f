/-
  Chapter 2: numbers as ranges; DirectionsOf, and the reference's ranges.
-/
import Derived.Test.YtppghnbabnhnbaaDoorECnd
import Derived.Test.YtppghnbabnhnbaaDoorEFmt
namespace Go.Proofs.YtppghnbabnhnbaaDoor
open Go.ChangeShapes Go.WideShapes Go.ChangeAt Go.RowKit
set_option linter.unusedVariables false
set_option linter.unusedSimpArgs false

section
variable {w : World} {B n size : Nat} {e : TypeId} {xs : List Value}
theorem own_open' {A : Option Addr} {c : Nat} (h : w.ownsRow B e size (.slice A n c) n xs) (hn : 0 < n) : ∃ g, A = some ⟨g, 0, none⟩ ∧ B ≤ g ∧ g < w.heap.size ∧ n ≤ c := by
  rcases h.2 with ⟨_, h0⟩ | ⟨g, cap, cur, hv, r⟩
  · omega
  · injection hv with h1 h2 h3
    subst h1 h3
    refine ⟨g, rfl, r.1, ?_, r.2.2.1⟩
    rcases Nat.lt_or_ge g w.heap.size with h' | h'
    · exact h'
    · have := r.2.1
      rw [Array.getElem?_eq_none h'] at this; cases this
end
theorem rng_cell {w : World} {B : Nat} {T : TypeId} {g n c : Nat} {sl : List Gs} {x : Gs} (h : w.ownsRow B T 2 (.slice (some ⟨g, 0, none⟩) (n + 1) c) (n + 1) (cellsOf 2 gC (sl ++ [x]))) (hl : sl.length = n) :
    w.cell? ⟨g, n * 2 + 1, none⟩ = some (.int .i64 x.im) ∧ w.frozen? ⟨g, n * 2 + 1, none⟩ = false := by
  have hk : (sl ++ [x])[n]? = some x := by subst hl; simp
  exact ⟨(h.cellAt _ (by omega)).trans (cellsOf_get (f := gC) hk (by omega)), h.frozenAt _⟩
theorem rng_set (sl : List Gs) (x : Gs) (u : Int) : (cellsOf 2 gC (sl ++ [x])).set (sl.length * 2 + 1) (.int .i64 u) = cellsOf 2 gC (sl ++ [⟨x.re, u⟩]) := by
  rw [cellsOf_append, cellsOf_append, List.set_append_right _ _ (by rw [cellsOf_length]; omega), cellsOf_length]
  rw [show sl.length * 2 + 1 - sl.length * 2 = 1 by omega]
  rfl
theorem rng_store {w : World} {B : Nat} {T : TypeId} {g n c : Nat} {sl : List Gs} {x : Gs} (h : w.ownsRow B T 2 (.slice (some ⟨g, 0, none⟩) (n + 1) c) (n + 1) (cellsOf 2 gC (sl ++ [x]))) (hl : sl.length = n) (u : Int) :
    (w.setCell ⟨g, n * 2 + 1, none⟩ (.int .i64 u)).ownsRow B T 2 (.slice (some ⟨g, 0, none⟩) (n + 1) c) (n + 1) (cellsOf 2 gC (sl ++ [⟨x.re, u⟩])) := by
  have := h.stored (n * 2 + 1) (.int .i64 u)
  subst hl
  rw [rng_set] at this
  exact this.1
theorem newsRg {w : World} {vb : Nat} {x : Gs} (hv : w.heap[vb]? = some (.cells #[.int .i64 x.re, .int .i64 x.im] 60)) : ∀ j u, [Value.int .i64 x.re, .int .i64 x.im][j]? = some u → w.cell? ((⟨vb, 0, none⟩ : Addr).add j) = some u := fun j u hu => by
  rw [Addr.add_lit, Nat.zero_add]
  exact blk_cell hv (by simpa using hu)
theorem infoRg : (Tryd.prog.info? 60).map (fun i => (i.zero, i.size, i.bytes)) = some (some (.agg #[.int .i64 0, .int .i64 0]), 2, 16) := by kernel_rfl
theorem infoRg_ : ∃ i : TypeInfo, Tryd.prog.info? 60 = some i ∧ i.zero = some (.agg #[.int .i64 0, .int .i64 0]) ∧ i.size = 2 ∧ i.bytes = 16 := by
  have h := infoRg
  cases hi : Tryd.prog.info? 60 with
  | none => rw [hi] at h; cases h
  | some i =>
    rw [hi] at h
    simp only [Option.map_some, Option.some.injEq, Prod.mk.injEq] at h
    exact ⟨i, rfl, h.1, h.2.1, h.2.2⟩
/-- a number joins the last range, or begins one -/
def rngU (out : List Gs) (d : Int) : List Gs := match out.reverse with
  | [] => [⟨d, d⟩]
  | x :: p => if x.im = d - 1 then p.reverse ++ [⟨x.re, d⟩] else out ++ [⟨d, d⟩]
theorem rngU_nil (d : Int) : rngU [] d = [] ++ [⟨d, d⟩] := rfl
theorem rngU_1 {p : List Gs} {x : Gs} {d : Int} (h : x.im = d - 1) : rngU (p ++ [x]) d = p ++ [⟨x.re, d⟩] := by
  unfold rngU
  rw [List.reverse_append, List.reverse_singleton, List.singleton_append]
  simp only
  rw [if_pos h, List.reverse_reverse]
theorem rngU_2 {p : List Gs} {x : Gs} {d : Int} (h : x.im ≠ d - 1) : rngU (p ++ [x]) d = (p ++ [x]) ++ [⟨d, d⟩] := by
  unfold rngU
  rw [List.reverse_append, List.reverse_singleton, List.singleton_append]
  simp only
  rw [if_neg h]
/-- the ranges of the first k numbers -/
def rngK (c : List Int) : Nat → List Gs
  | 0 => []
  | k + 1 => rngU (rngK c k) (c.getD k 0)
theorem rngU_len (l : List Gs) (d : Int) : (rngU l d).length ≤ l.length + 1 := by
  rcases List.eq_nil_or_concat l with rfl | ⟨p, x, rfl⟩
  · exact Nat.le_refl _
  · by_cases h : x.im = d - 1
    · rw [List.concat_eq_append, rngU_1 h]; simp
    · rw [List.concat_eq_append, rngU_2 h]; simp
theorem rngK_len (c : List Int) : ∀ k, (rngK c k).length ≤ k
  | 0 => Nat.le_refl _
  | k + 1 => by
    have h1 := rngU_len (rngK c k) (c.getD k 0)
    have h2 := rngK_len c k
    rw [rngK]
    omega
def rngA (c : List Int) : List Gs := rngK c c.length
def RngX (q : List Gs) (w : World) (e : Ending) (w' : World) : Prop := ∃ A' c', e = .returned (.slice A' q.length c') ∧ GsAt w' A' q ∧ Below w.heap.size w w'
set_option maxRecDepth 100000 in
set_option maxHeartbeats 8000000 in
theorem RRanges_any (A : Option Addr) (c : List Int) (ca : Nat) (w : World) (hc : c.length ≤ 1000) (hd : ∀ x ∈ c, -1000 ≤ x ∧ x ≤ 1000) (hA : IntsAt w A c) :
    Calls Tryd.prog 80 #[.slice A c.length ca] w (RngX (rngA c) w) := by
  obtain ⟨i0, hi0, hz0, hz1, hz2⟩ := infoRg_
  have HI := Lib.hid hi0
  have HZ0 := Lib.hid hz0
  have HZ1 := Lib.hid hz1
  have HZ2 := Lib.hid hz2
  have HD := Lib.hid hd
  have hci : (c.length : Int) ≤ 1000 := by omega
  clear hi0 hz0 hz1 hz2 hd
  go_enter Tryd.func80, Tryd.ntmps80
  go_wp2_with (fail)
  go_loopw [3, 4] (fun o i wr => ∃ (k : Nat) (A' : Option Addr) (c' : Nat), k ≤ c.length ∧ i = .int .i64 k ∧ o = .slice A' (rngK c k).length c' ∧ wr.ownsRow w.heap.size 60 2 (.slice A' (rngK c k).length c') (rngK c k).length (cellsOf 2 gC (rngK c k)) ∧ Below w.heap.size w wr) (fun _ i _ => c.length - (intOf i).toNat)
  case atStart => exact ⟨0, none, 0, Nat.zero_le _, rfl, rfl, World.ownsRow_nil _ _ _ _, Below.refl _ _⟩
  case round =>
    obtain ⟨k, A', c', hk, rfl, rfl, own, hbr⟩ := hrel
    obtain ⟨wo, rfl⟩ : ∃ wo : World, wo = wr := ⟨_, rfl⟩
    have hrl := rngK_len c k
    have OWN := Lib.hid own
    have zw : w.heap.size ≤ wo.heap.size := hbr.size
    clear own
    by_cases hlt : k < c.length
    · obtain ⟨b1, o1, rfl, hb1, c0⟩ := IntsAt.at_ (RowsAt.below hA hbr) hlt
      obtain ⟨d0, d1⟩ := HD.out _ (List.getElem_mem hlt)
      have hst : rngK c (k + 1) = rngU (rngK c k) c[k] := by rw [rngK]; simp [hlt]
      have HST := Lib.hid hst
      have hk1 : (k : Int) < (c.length : Int) := by omega
      clear hst
      generalize c[k] = d at *
      generalize rngK c k = out at *
      rcases List.eq_nil_or_concat out with rfl | ⟨p, x, rfl⟩
      · rw [rngU_nil] at HST
        simp only [List.length_nil] at OWN hrl ⊢
        go_upto_region 6 with (fail)
        (refine region_extx 15 (by kernel_rfl) (by kernel_rfl) fun hx => ?_; simp only [List.take_succ_cons, List.take_zero, List.drop_succ_cons, List.drop_zero]; (repeat (any_goals (first | go_big_quiet_step (fail) | quiet_step (fail)))))
        (refine wpQuiet_nil ?_; clear hx; intro u; have hbw5 := ext_bel _ u; have hxw5 := ext_cell _ u; generalize ext _ u = w5 at *; clear u; have hsw5 := hbw5.size; (try simp at hsw5))
        have OWN5 := Lib.hid (own_below OWN.out hbw5)
        replace c0 := cell_below' hbw5 c0
        replace hb1 := Nat.lt_of_lt_of_le hb1 hbw5.size
        have hbr5 := hbr.trans (hbw5.mono hbr.size)
        clear hxw5 hsw5 hbw5 hbr OWN
        go_upto_region 8 with (fail)
        (refine region_alloc (T := ?_) (obj := (.cells #[.int .i64 d, .int .i64 d] 60)) (val := (fun nb => .slice (some ⟨nb, 0, none⟩) 1 1)) 10 49 (by kernel_rfl) (by kernel_rfl) rfl rfl rfl (Nat.le_of_ble_eq_true rfl) ?_ ?_ ?_; rotate_left 1)
        focus (intro W0 hB0 hx; simp only [List.take_succ_cons, List.take_zero]; (repeat (any_goals (first | go_big_quiet_step (fail) | quiet_step (fail)))); refine wpQuiet_nil ?_; exact rfl)
        focus (intro W; go_simp; done)
        (intro W0 w6 hB0 hB1; obtain ⟨hbw6, hnw6, hsw6, hkw6⟩ := alloc_out hB0 hB1; clear hB0 hB1; simp only [List.drop_succ_cons, List.drop_zero]; generalize W0.heap.size = nb at *; clear W0)
        have hbr6 : Below w.heap.size w w6 := hbr5.trans (hbw6.mono hbr5.size)
        have z6 := hbr6.size
        have HNW := Lib.hid (newsRg (x := ⟨d, d⟩) hkw6)
        have OWN6 := Lib.hid (own_below OWN5.out hbw6)
        clear hbw6 hbr5 hkw6 hnw6 hsw6 OWN5
        go_wp2_with (at_builtin; (refine wpList_append_rows _ rfl (.tmp 39) (.tmp 49) 124 rfl w.heap.size 60 i0 (.agg #[.int .i64 0, .int .i64 0]) 2 16 Tryd.underlying124 HI.out HZ0.out HZ1.out HZ2.out rfl (by decide) A' 0 c' (cellsOf 2 gC []) rfl OWN6.out (some ⟨nb, 0, none⟩) 1 1 [.int .i64 d, .int .i64 d] rfl rfl (fun h => by cases h) (fun ad h => by cases h; exact HNW.out) (fun u hu => by simp at hu; rcases hu with rfl | rfl <;> rfl) (by unfold maxLen; omega) (by omega) (by omega) ?_; intro A2' c2' w7 h1 h2 h3))
        have h4 : w7.ownsRow w.heap.size 60 2 (.slice A2' (rngK c (k + 1)).length c2') (rngK c (k + 1)).length (cellsOf 2 gC (rngK c (k + 1))) := by rw [HST.out]; exact h1
        have h5 : Below w.heap.size w w7 := below_own hbr6 h2 OWN6.out (Nat.le_refl _) (by omega)
        have hL : (rngK c (k + 1)).length = 1 := by rw [HST.out]; rfl
        have HL := Lib.hid hL
        clear h1 h2 h3 hL OWN6
        go_wp2_with (fail)
        exact ⟨⟨k + 1, A2', c2', by omega, by go_num, by rw [HL.out], h4, h5⟩, by simp [intOf]; omega⟩
      · rw [List.concat_eq_append] at *
        obtain ⟨m, hm⟩ : ∃ m, m = p.length := ⟨_, rfl⟩
        have hL0 : (p ++ [x]).length = m + 1 := by simp [hm]
        rw [hL0] at OWN hrl
        rw [hL0]
        obtain ⟨g, rfl, hgB, hgz, hgc⟩ := own_open' OWN.out (by omega)
        obtain ⟨l1, lf1⟩ := rng_cell OWN.out hm.symm
        have hm1 : (1 : Int) ≤ ((m + 1 : Nat) : Int) := by omega
        have hm2 : (((m + 1 : Nat) : Int) - 1) = (m : Int) := by omega
        have hmI : (m : Int) ≤ 1000 := by omega
        have e0 : decide ((0 : Int) < ((m + 1 : Nat) : Int)) = true := decide_eq_true (by omega)
        have hmm : (m : Int) < ((m + 1 : Nat) : Int) := by omega
        by_cases hx : x.im = d - 1
        · rw [rngU_1 hx] at HST
          have e1 : (x.im == d - 1) = true := by rw [beq_iff_eq]; exact hx
          have hL : (rngK c (k + 1)).length = m + 1 := by rw [HST.out]; simp [hm]
          have HL := Lib.hid hL
          have HM := Lib.hid hm.symm
          clear hx hL hL0 hm
          go_upto_region 6 with (fail)
          (refine region_extx 15 (by kernel_rfl) (by kernel_rfl) fun hx => ?_; simp only [List.take_succ_cons, List.take_zero, List.drop_succ_cons, List.drop_zero]; (repeat (any_goals (first | go_big_quiet_step (fail) | quiet_step (fail)))))
          (refine wpQuiet_nil ?_; clear hx; intro u; have hbw5 := ext_bel _ u; have hxw5 := ext_cell _ u; generalize ext _ u = w5 at *; clear u; have hsw5 := hbw5.size; (try simp at hsw5))
          have OWN5 := Lib.hid (own_below OWN.out hbw5)
          replace l1 := cell_below' hbw5 l1
          replace lf1 := frozen_below hbw5 hgz lf1
          replace c0 := cell_below' hbw5 c0
          replace hgz := Nat.lt_of_lt_of_le hgz hbw5.size
          have hbr5 := hbr.trans (hbw5.mono hbr.size)
          clear hxw5 hsw5 hbw5 hbr OWN
          go_upto_region 4 with (fail)
          have h4 := rng_store OWN5.out HM.out d
          have h4' : (w5.setCell ⟨g, m * 2 + 1, none⟩ (.int .i64 d)).ownsRow w.heap.size 60 2 (.slice (some ⟨g, 0, none⟩) (rngK c (k + 1)).length c') (rngK c (k + 1)).length (cellsOf 2 gC (rngK c (k + 1))) := by rw [HL.out, HST.out]; exact h4
          have h5 : Below w.heap.size w (w5.setCell ⟨g, m * 2 + 1, none⟩ (.int .i64 d)) := below_set _ hgB hbr5
          have H4 := Lib.hid h4'
          clear h4 h4' l1 lf1 OWN5
          generalize (w5.setCell ⟨g, m * 2 + 1, none⟩ (.int .i64 d)) = w6 at *
          go_wp2_with (fail)
          exact ⟨⟨k + 1, some ⟨g, 0, none⟩, c', by omega, by go_num, by rw [HL.out], H4.out, h5⟩, by simp [intOf]; omega⟩
        · rw [rngU_2 hx] at HST
          have e1 : (x.im == d - 1) = false := by rw [beq_eq_false_iff_ne]; exact hx
          have hL : (rngK c (k + 1)).length = m + 1 + 1 := by rw [HST.out]; simp [hm]
          have HL := Lib.hid hL
          clear hx hL hL0 hm
          go_upto_region 6 with (fail)
          (refine region_extx 15 (by kernel_rfl) (by kernel_rfl) fun hx => ?_; simp only [List.take_succ_cons, List.take_zero, List.drop_succ_cons, List.drop_zero]; (repeat (any_goals (first | go_big_quiet_step (fail) | quiet_step (fail)))))
          (refine wpQuiet_nil ?_; clear hx; intro u; have hbw5 := ext_bel _ u; have hxw5 := ext_cell _ u; generalize ext _ u = w5 at *; clear u; have hsw5 := hbw5.size; (try simp at hsw5))
          have OWN5 := Lib.hid (own_below OWN.out hbw5)
          replace c0 := cell_below' hbw5 c0
          replace hb1 := Nat.lt_of_lt_of_le hb1 hbw5.size
          have hbr5 := hbr.trans (hbw5.mono hbr.size)
          clear hxw5 hsw5 hbw5 hbr OWN l1 lf1
          go_upto_region 8 with (fail)
          (refine region_alloc (T := ?_) (obj := (.cells #[.int .i64 d, .int .i64 d] 60)) (val := (fun nb => .slice (some ⟨nb, 0, none⟩) 1 1)) 10 49 (by kernel_rfl) (by kernel_rfl) rfl rfl rfl (Nat.le_of_ble_eq_true rfl) ?_ ?_ ?_; rotate_left 1)
          focus (intro W0 hB0 hx; simp only [List.take_succ_cons, List.take_zero]; (repeat (any_goals (first | go_big_quiet_step (fail) | quiet_step (fail)))); refine wpQuiet_nil ?_; exact rfl)
          focus (intro W; go_simp; done)
          (intro W0 w6 hB0 hB1; obtain ⟨hbw6, hnw6, hsw6, hkw6⟩ := alloc_out hB0 hB1; clear hB0 hB1; simp only [List.drop_succ_cons, List.drop_zero]; generalize W0.heap.size = nb at *; clear W0)
          have hbr6 : Below w.heap.size w w6 := hbr5.trans (hbw6.mono hbr5.size)
          have z6 := hbr6.size
          have HNW := Lib.hid (newsRg (x := ⟨d, d⟩) hkw6)
          have OWN6 := Lib.hid (own_below OWN5.out hbw6)
          clear hbw6 hbr5 hkw6 hnw6 hsw6 OWN5
          go_wp2_with (at_builtin; (refine wpList_append_rows _ rfl (.tmp 39) (.tmp 49) 124 rfl w.heap.size 60 i0 (.agg #[.int .i64 0, .int .i64 0]) 2 16 Tryd.underlying124 HI.out HZ0.out HZ1.out HZ2.out rfl (by decide) (some ⟨g, 0, none⟩) (m + 1) c' (cellsOf 2 gC (p ++ [x])) rfl OWN6.out (some ⟨nb, 0, none⟩) 1 1 [.int .i64 d, .int .i64 d] rfl rfl (fun h => by cases h) (fun ad h => by cases h; exact HNW.out) (fun u hu => by simp at hu; rcases hu with rfl | rfl <;> rfl) (by unfold maxLen; omega) (by omega) (by omega) ?_; intro A2' c2' w7 h1 h2 h3))
          have h4 : w7.ownsRow w.heap.size 60 2 (.slice A2' (rngK c (k + 1)).length c2') (rngK c (k + 1)).length (cellsOf 2 gC (rngK c (k + 1))) := by rw [HL.out, HST.out, cellsOf_append]; exact h1
          have h5 : Below w.heap.size w w7 := below_own hbr6 h2 OWN6.out (Nat.le_refl _) (by omega)
          clear h1 h2 h3 OWN6
          go_wp2_with (fail)
          exact ⟨⟨k + 1, A2', c2', by omega, by go_num, by rw [HL.out], h4, h5⟩, by simp [intOf]; omega⟩
    · obtain rfl : k = c.length := by omega
      have hA3 : GsAt wo A' (rngK c c.length) := rowsAt_of_own OWN.out rfl (by decide)
      clear OWN
      go_wp2_with (fail)
      go_ret
      exact ⟨A', c', rfl, hA3, hbr⟩
/-- the candidates as ranges, or the error -/
def dirQ (l : List Rd) : List Gs × Int := if (candQ l).2 = 0 then (rngA (candA l), 0) else ([], (candQ l).2)
def RngE (q : List Gs × Int) (w : World) (e : Ending) (w' : World) : Prop := ∃ A' c', e = .returned (.tuple #[.slice A' q.1.length c', .int .i64 q.2]) ∧ GsAt w' A' q.1 ∧ Below w.heap.size w w'
theorem candQ_1 {l : List Rd} (h : (candQ l).2 = 0) : (candQ l).1 = candA l := by
  unfold candQ at *
  split at h
  · rename_i h0; rw [if_pos h0]
  · rename_i h0; exact absurd h h0
set_option maxRecDepth 100000 in
set_option maxHeartbeats 8000000 in
theorem DirectionsOf_any (A : Option Addr) (l : List Rd) (ca : Nat) (w : World) (hl : l.length ≤ 1000) (hA : RdsAt w A l) :
    Calls Tryd.prog 77 #[.slice A l.length ca] w (RngE (dirQ l) w) := by
  have HC := Lib.hid (fun W (h : RdsAt W A l) => Candidates_any A l ca W hl h)
  have hq : dirQ l = if (candQ l).2 = 0 then (rngA (candA l), 0) else ([], (candQ l).2) := rfl
  have h1q := @candQ_1 l
  have hbd : ∀ x ∈ candA l, -1000 ≤ x ∧ x ≤ 1000 := fun x hx => by have := candA_bd x hx; omega
  have hcl := candA_len l
  rcases hcq : candQ l with ⟨q, e⟩
  rw [hcq] at HC hq h1q
  simp only at hq h1q
  by_cases he : e = 0
  rotate_left 1
  · rw [if_neg he] at hq
    have e9 : (e != 0) = true := by simpa using he
    have HQ := Lib.hid hq
    clear he hq h1q hcq hbd hcl
    go_enter Tryd.func77, Tryd.ntmps77
    go_wp2_with (fail)
    refine (HC.out _ hA).mono ?_
    rintro e' w1 ⟨A1, c1, rfl, hi, hb1⟩
    go_wp2_with (fail)
    go_ret2
    rw [HQ.out]
    exact ⟨none, 0, rfl, RowsAt.nil, hb1⟩
  subst he
  obtain rfl := h1q rfl
  rw [if_pos rfl] at hq
  have HQ := Lib.hid hq
  clear hq h1q hcq
  have HD := Lib.hid hbd
  have hra : rngA (candA l) = rngK (candA l) (candA l).length := rfl
  have HRA := Lib.hid hra
  clear hbd hra
  generalize candA l = c at *
  have hci : (c.length : Int) ≤ 181 := by omega
  obtain ⟨i0, hi0, hz0, hz1, hz2⟩ := infoRg_
  have HI := Lib.hid hi0
  have HZ0 := Lib.hid hz0
  have HZ1 := Lib.hid hz1
  have HZ2 := Lib.hid hz2
  clear hi0 hz0 hz1 hz2
  go_enter Tryd.func77, Tryd.ntmps77
  go_wp2_with (fail)
  refine (HC.out _ hA).mono ?_
  rintro e' w1 ⟨A1, c1, rfl, hi, hb1⟩
  simp only at hi
  clear HC hA
  go_wp2_with (fail)
  go_loopw [6, 20] (fun o i wr => ∃ (k : Nat) (A' : Option Addr) (c' : Nat), k ≤ c.length ∧ i = .int .i64 k ∧ o = .slice A' (rngK c k).length c' ∧ wr.ownsRow w1.heap.size 60 2 (.slice A' (rngK c k).length c') (rngK c k).length (cellsOf 2 gC (rngK c k)) ∧ Below w1.heap.size w1 wr) (fun _ i _ => c.length - (intOf i).toNat)
  case atStart => exact ⟨0, none, 0, Nat.zero_le _, rfl, rfl, World.ownsRow_nil _ _ _ _, Below.refl _ _⟩
  case round =>
    obtain ⟨k, A', c', hk, rfl, rfl, own, hbr⟩ := hrel
    obtain ⟨wo, rfl⟩ : ∃ wo : World, wo = wr := ⟨_, rfl⟩
    have hrl := rngK_len c k
    have OWN := Lib.hid own
    have zw : w1.heap.size ≤ wo.heap.size := hbr.size
    clear own
    by_cases hlt : k < c.length
    · obtain ⟨b1, o1, rfl, hb1', c0⟩ := IntsAt.at_ (RowsAt.below hi hbr) hlt
      obtain ⟨d0, d1⟩ := HD.out _ (List.getElem_mem hlt)
      have hst : rngK c (k + 1) = rngU (rngK c k) c[k] := by rw [rngK]; simp [hlt]
      have HST := Lib.hid hst
      have hk1 : (k : Int) < (c.length : Int) := by omega
      clear hst
      generalize c[k] = d at *
      generalize rngK c k = out at *
      rcases List.eq_nil_or_concat out with rfl | ⟨p, x, rfl⟩
      · rw [rngU_nil] at HST
        simp only [List.length_nil] at OWN hrl ⊢
        go_wp2_with (at_builtin; (refine wpList_append_rows _ rfl (.tmp 45) (.tmp 49) 124 rfl w1.heap.size 60 i0 (.agg #[.int .i64 0, .int .i64 0]) 2 16 Tryd.underlying124 HI.out HZ0.out HZ1.out HZ2.out rfl (by decide) A' 0 c' (cellsOf 2 gC []) rfl (World.ownsRow.alloc OWN.out _) (some ⟨_, 0, none⟩) 1 1 [.int .i64 d, .int .i64 d] rfl rfl (fun h => by cases h) (fun ad h => by cases h; exact newsRg (x := ⟨d, d⟩) (blk_new rfl)) (fun u hu => by simp at hu; rcases hu with rfl | rfl <;> rfl) (by unfold maxLen; omega) (by omega) (by simp; omega) ?_; intro A2' c2' w7 h1 h2 h3))
        have h4 : w7.ownsRow w1.heap.size 60 2 (.slice A2' (rngK c (k + 1)).length c2') (rngK c (k + 1)).length (cellsOf 2 gC (rngK c (k + 1))) := by rw [HST.out]; exact h1
        have h5 : Below w1.heap.size w1 w7 := below_own (below_alloc _ (Nat.le_refl _) hbr) h2 (World.ownsRow.alloc OWN.out _) (Nat.le_refl _) (by simp; omega)
        have hL : (rngK c (k + 1)).length = 1 := by rw [HST.out]; rfl
        have HL := Lib.hid hL
        clear h1 h2 h3 hL OWN
        go_wp2_with (fail)
        exact ⟨⟨k + 1, A2', c2', by omega, by go_num, by rw [HL.out], h4, h5⟩, by simp [intOf]; omega⟩
      · rw [List.concat_eq_append] at *
        obtain ⟨m, hm⟩ : ∃ m, m = p.length := ⟨_, rfl⟩
        have hL0 : (p ++ [x]).length = m + 1 := by simp [hm]
        rw [hL0] at OWN hrl
        rw [hL0]
        obtain ⟨g, rfl, hgB, hgz, hgc⟩ := own_open' OWN.out (by omega)
        obtain ⟨l1, lf1⟩ := rng_cell OWN.out hm.symm
        have hm1 : (1 : Int) ≤ ((m + 1 : Nat) : Int) := by omega
        have hm2 : (((m + 1 : Nat) : Int) - 1) = (m : Int) := by omega
        have hmI : (m : Int) ≤ 1000 := by omega
        have e0 : decide ((0 : Int) < ((m + 1 : Nat) : Int)) = true := decide_eq_true (by omega)
        have hmm : (m : Int) < ((m + 1 : Nat) : Int) := by omega
        by_cases hx : x.im = d - 1
        · rw [rngU_1 hx] at HST
          have e1 : (x.im == d - 1) = true := by rw [beq_iff_eq]; exact hx
          have hL : (rngK c (k + 1)).length = m + 1 := by rw [HST.out]; simp [hm]
          have HL := Lib.hid hL
          have HM := Lib.hid hm.symm
          clear hx hL hL0 hm
          go_upto_region 12 with (fail)
          have h4 := rng_store OWN.out HM.out d
          have h4' : (wo.setCell ⟨g, m * 2 + 1, none⟩ (.int .i64 d)).ownsRow w1.heap.size 60 2 (.slice (some ⟨g, 0, none⟩) (rngK c (k + 1)).length c') (rngK c (k + 1)).length (cellsOf 2 gC (rngK c (k + 1))) := by rw [HL.out, HST.out]; exact h4
          have h5 : Below w1.heap.size w1 (wo.setCell ⟨g, m * 2 + 1, none⟩ (.int .i64 d)) := below_set _ hgB hbr
          have H4 := Lib.hid h4'
          clear h4 h4' l1 lf1 OWN
          generalize (wo.setCell ⟨g, m * 2 + 1, none⟩ (.int .i64 d)) = w6 at *
          go_wp2_with (fail)
          exact ⟨⟨k + 1, some ⟨g, 0, none⟩, c', by omega, by go_num, by rw [HL.out], H4.out, h5⟩, by simp [intOf]; omega⟩
        · rw [rngU_2 hx] at HST
          have e1 : (x.im == d - 1) = false := by rw [beq_eq_false_iff_ne]; exact hx
          have hL : (rngK c (k + 1)).length = m + 1 + 1 := by rw [HST.out]; simp [hm]
          have HL := Lib.hid hL
          clear hx hL hL0 hm
          go_wp2_with (at_builtin; (refine wpList_append_rows _ rfl (.tmp 45) (.tmp 49) 124 rfl w1.heap.size 60 i0 (.agg #[.int .i64 0, .int .i64 0]) 2 16 Tryd.underlying124 HI.out HZ0.out HZ1.out HZ2.out rfl (by decide) (some ⟨g, 0, none⟩) (m + 1) c' (cellsOf 2 gC (p ++ [x])) rfl (World.ownsRow.alloc OWN.out _) (some ⟨_, 0, none⟩) 1 1 [.int .i64 d, .int .i64 d] rfl rfl (fun h => by cases h) (fun ad h => by cases h; exact newsRg (x := ⟨d, d⟩) (blk_new rfl)) (fun u hu => by simp at hu; rcases hu with rfl | rfl <;> rfl) (by unfold maxLen; omega) (by omega) (by simp; omega) ?_; intro A2' c2' w7 h1 h2 h3))
          have h4 : w7.ownsRow w1.heap.size 60 2 (.slice A2' (rngK c (k + 1)).length c2') (rngK c (k + 1)).length (cellsOf 2 gC (rngK c (k + 1))) := by rw [HL.out, HST.out, cellsOf_append]; exact h1
          have h5 : Below w1.heap.size w1 w7 := below_own (below_alloc _ (Nat.le_refl _) hbr) h2 (World.ownsRow.alloc OWN.out _) (Nat.le_refl _) (by simp; omega)
          clear h1 h2 h3 OWN l1 lf1
          go_wp2_with (fail)
          exact ⟨⟨k + 1, A2', c2', by omega, by go_num, by rw [HL.out], h4, h5⟩, by simp [intOf]; omega⟩
    · obtain rfl : k = c.length := by omega
      have hA3 : GsAt wo A' (rngK c c.length) := rowsAt_of_own OWN.out rfl (by decide)
      have hbw := hb1.trans (hbr.mono hb1.size)
      rw [← HRA.out] at hA3
      clear OWN
      go_wp2_with (fail)
      go_ret2
      rw [HQ.out]
      exact ⟨A', c', (by rw [HRA.out]; rfl), hA3, hbw⟩
end Go.Proofs.YtppghnbabnhnbaaDoor
