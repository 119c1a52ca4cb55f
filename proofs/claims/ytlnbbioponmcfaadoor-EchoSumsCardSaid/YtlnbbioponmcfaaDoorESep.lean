/-
  Chapter 2: divisors; the separation of a sample.
-/
import Derived.Test.YtlnbbioponmcfaaDoorECan
import Derived.Deep.RegionHeld3
namespace Go.Proofs.YtlnbbioponmcfaaDoor
open Go.ChangeShapes Go.WideShapes Go.ChangeAt Go.RowKit
set_option linter.unusedVariables false
set_option linter.unusedSimpArgs false

theorem gcd_tmod (a b : Int) : Nat.gcd b.natAbs (a.tmod b).natAbs = Nat.gcd a.natAbs b.natAbs := by
  rw [Int.natAbs_tmod, Nat.gcd_comm b.natAbs, ← Nat.gcd_rec, Nat.gcd_comm]
theorem tmod_lt (a b : Int) (h : b ≠ 0) : (a.tmod b).natAbs < b.natAbs := by
  rw [Int.natAbs_tmod]
  exact Nat.mod_lt _ (by omega)
/-- the greatest common divisor of sizes -/
def gcdL : List Int → Nat → Nat
  | [], g => g
  | b :: r, g => gcdL r (Nat.gcd g b.natAbs)
theorem gcdL_dvd : ∀ (l : List Int) (g : Nat), gcdL l g ∣ g ∧ ∀ x ∈ l, gcdL l g ∣ x.natAbs
  | [], g => ⟨Nat.dvd_refl _, fun x hx => by cases hx⟩
  | b :: r, g => by
    obtain ⟨h1, h2⟩ := gcdL_dvd r (Nat.gcd g b.natAbs)
    rw [gcdL]
    refine ⟨Nat.dvd_trans h1 (Nat.gcd_dvd_left _ _), fun x hx => ?_⟩
    rcases List.mem_cons.1 hx with rfl | hx
    · exact Nat.dvd_trans h1 (Nat.gcd_dvd_right _ _)
    · exact h2 x hx
theorem gcdL_max : ∀ (l : List Int) (g k : Nat), k ∣ g → (∀ x ∈ l, k ∣ x.natAbs) → k ∣ gcdL l g
  | [], g, k, h, _ => h
  | b :: r, g, k, h, h2 => by
    rw [gcdL]
    exact gcdL_max r _ k (Nat.dvd_gcd h (h2 b (List.mem_cons_self ..))) fun x hx => h2 x (List.mem_cons_of_mem _ hx)
theorem cell_next {w : World} {b i j : Nat} {u v : Value} (hne : i ≠ j) (h : w.cell? ⟨b, j, none⟩ = some v) : (w.setCell ⟨b, i, none⟩ u).cell? ⟨b, j, none⟩ = some v :=
  (World.cell?_setCell_other w ⟨b, i, none⟩ ⟨b, j, none⟩ u (fun e => hne (by injection e))).trans h
theorem set2 {w : World} {b : Nat} {a0 a1 v0 v1 : Value} (h0 : w.cell? ⟨b, 0, none⟩ = some a0) (h1 : w.cell? ⟨b, 1, none⟩ = some a1) :
    ((w.setCell ⟨b, 0, none⟩ v0).setCell ⟨b, 1, none⟩ v1).cell? ⟨b, 0, none⟩ = some v0 ∧ ((w.setCell ⟨b, 0, none⟩ v0).setCell ⟨b, 1, none⟩ v1).cell? ⟨b, 1, none⟩ = some v1 :=
  ⟨cell_next (by decide) (cell_same h0), cell_same (cell_next (by decide) h1)⟩
/-- one step of a divisor -/
theorem gcd_zero (a : Int) : Nat.gcd a.natAbs (0 : Int).natAbs = a.natAbs := by simp
set_option maxHeartbeats 1000000 in
theorem divisor_any (A : Option Addr) (l : List Int) (cap : Nat) (w : World) (hl : l.length ≤ 100) (hb : ∀ x ∈ l, -1000000000000 ≤ x ∧ x ≤ 1000000000000) (hA : IntsAt w A l) :
    Calls Tryd.prog 63 #[.slice A l.length cap] w fun e w' => e = .returned (.int .i64 (gcdL l 0 : Nat)) ∧ Below w.heap.size w w' := by
  have HB := Lib.hid hb
  clear hb
  go_enter Tryd.func63, Tryd.ntmps63
  go_wp2_with (fail)
  go_loopw [3, 8] (fun a i wr => ∃ (k : Nat) (x : Int), k ≤ l.length ∧ i = .int .i64 k ∧ a = .int .i64 x ∧ -1000000000000 ≤ x ∧ x ≤ 1000000000000 ∧ gcdL l 0 = gcdL (l.drop k) x.natAbs ∧ Below w.heap.size w wr) (fun _ i _ => l.length - (intOf i).toNat)
  case atStart => exact ⟨0, 0, Nat.zero_le _, rfl, rfl, by decide, by decide, rfl, Below.refl _ _⟩
  case round =>
    obtain ⟨k, x, hk, rfl, rfl, hx0, hx1, he, hbr⟩ := hrel
    obtain ⟨wo, rfl⟩ : ∃ wo : World, wo = wr := ⟨_, rfl⟩
    have H := Lib.hid he
    clear he
    by_cases hlt : k < l.length
    · obtain ⟨hy0, hy1⟩ := HB.out _ (List.getElem_mem hlt)
      have hd : l.drop k = l[k] :: l.drop (k + 1) := List.drop_eq_getElem_cons hlt
      rw [hd, gcdL] at H
      clear hd
      obtain ⟨b1, o1, rfl, hb1, c0⟩ := IntsAt.at_ (RowsAt.below hA hbr) hlt
      generalize l[k] = y at *
      have hk1 : (k : Int) < (l.length : Int) := by omega
      go_wp2_with (fail)
      go_loopw [3, 5] (fun a b wx => ∃ (p q : Int), a = .int .i64 p ∧ b = .int .i64 q ∧ -1000000000000 ≤ p ∧ p ≤ 1000000000000 ∧ -1000000000000 ≤ q ∧ q ≤ 1000000000000 ∧ Nat.gcd x.natAbs y.natAbs = Nat.gcd p.natAbs q.natAbs ∧ Below w.heap.size w wx) (fun _ b _ => (intOf b).natAbs)
      case atStart => exact ⟨x, y, rfl, rfl, hx0, hx1, hy0, hy1, rfl, hbr⟩
      case round =>
        obtain ⟨p, q, rfl, rfl, hp0, hp1, hq0, hq1, hg, hbx⟩ := hrel
        have HG := Lib.hid hg
        clear hg
        by_cases hq : q = 0
        · subst hq
          have h2 := HG.out
          rw [gcd_zero] at h2
          rw [h2] at H
          clear h2 HG
          go_wp2_with (fail)
          exact ⟨⟨k + 1, p, by omega, by go_num, rfl, hp0, hp1, H.out, hbx⟩, by simp [intOf]; omega⟩
        · have hqn : (q != 0) = true := by simpa using hq
          have hqn2 : (q == 0) = false := by simpa using hq
          have hlt2 := tmod_lt p q hq
          have h2 := HG.out.trans (gcd_tmod p q).symm
          have H2 := Lib.hid h2
          have ht0 : -1000000000000 ≤ p.tmod q := by omega
          have ht1 : p.tmod q ≤ 1000000000000 := by omega
          have HL := Lib.hid hlt2
          clear h2 HG hlt2
          go_wp2_with (fail)
          go_region
          all_goals
            go_wp2_with (fail)
            go_roundw
            case rel => exact ⟨q, p.tmod q, rfl, rfl, hq0, hq1, ht0, ht1, H2.out, (by repeat (first | assumption | exact Below.refl _ _ | refine Below.drew ?_ | (refine below_alloc _ ?_ ?_; focus (first | omega | (simp; done) | (simp; omega) | (simp at *; omega))) | (refine below_set _ ?_ ?_; focus (first | omega | (simp; done) | (simp; omega) | (simp at *; omega))) | refine below_drewN ?_ _ | (refine below_call (by assumption) ?_ ?_; focus (first | omega | (simp; done) | (simp; omega) | (simp at *; omega))) | (refine below_call' (by assumption) ?_ ?_; focus (first | omega | (simp; done) | (simp; omega) | (simp at *; omega)))))⟩
            case measure => simp only [intOf]; exact HL.out
    · have e : l.drop k = [] := List.drop_eq_nil_of_le (by omega)
      rw [e, gcdL] at H
      have hkl : l.length ≤ k := by omega
      clear e
      by_cases hx : x < -x
      · have hm : (x.natAbs : Int) = -x := by omega
        have HM := Lib.hid hm
        clear hm
        go_wp2_with (fail)
        all_goals
          go_ret
          exact ⟨ret_int (by rw [H.out]; have := HM.out; omega), hbr⟩
      · have hm : (x.natAbs : Int) = x := by omega
        have HM := Lib.hid hm
        clear hm
        go_wp2_with (fail)
        all_goals
          go_ret
          exact ⟨ret_int (by rw [H.out]; have := HM.out; omega), hbr⟩
/-- a whole number, divided -/
def gover (g : Gs) (by_ : Int) : Gs := ⟨g.re.tdiv by_, g.im.tdiv by_⟩
theorem tdiv_bd (n b M : Int) (hb : 1 ≤ b) (h0 : -M ≤ n) (h1 : n ≤ M) : -M ≤ n.tdiv b ∧ n.tdiv b ≤ M := by
  have h := Int.natAbs_tdiv_le_natAbs n b
  omega
theorem Sz.over {M : Int} {g : Gs} {b : Int} (h : Sz M g) (hb : 1 ≤ b) : Sz M (gover g b) := by
  obtain ⟨h0, h1, h2, h3⟩ := h
  have a := tdiv_bd g.re b M hb h0 h1
  have c := tdiv_bd g.im b M hb h2 h3
  exact ⟨a.1, a.2, c.1, c.2⟩
set_option maxHeartbeats 1000000 in
theorem over_any (g : Gs) (b : Int) (w : World) (h : Sz 1000000000000 g) (hb : 1 ≤ b) (hb2 : b ≤ 1000000000000) :
    Calls Tryd.prog 64 #[gv g, .int .i64 b] w fun e w' => e = .returned (gv (gover g b)) ∧ Below w.heap.size w w' := by
  obtain ⟨h0, h1, h2, h3⟩ := h
  have a := tdiv_bd g.re b _ hb h0 h1
  have c := tdiv_bd g.im b _ hb h2 h3
  obtain ⟨x, y⟩ := g
  simp only [gv, gover] at *
  have hbn : (b == 0) = false := by simp; omega
  have hbn2 : ¬ b = 0 := by omega
  go_enter Tryd.func64, Tryd.ntmps64
  go_wp2_with (fail)
  have hb0 : Below w.heap.size w ((w.alloc (.cells #[.int .i64 x, .int .i64 y] 81)).alloc (.cells #[.int .i64 0, .int .i64 0] 81)) := below_alloc _ (Nat.le_refl _) (below_alloc _ (Nat.le_refl _) (Below.refl _ _))
  have a0 : ((w.alloc (.cells #[.int .i64 x, .int .i64 y] 81)).alloc (.cells #[.int .i64 0, .int .i64 0] 81)).cell? ⟨w.heap.size, 0, none⟩ = some (.int .i64 x) := cell_alloc _ (cell_new (by simp) rfl)
  have a1 : ((w.alloc (.cells #[.int .i64 x, .int .i64 y] 81)).alloc (.cells #[.int .i64 0, .int .i64 0] 81)).cell? ⟨w.heap.size, 1, none⟩ = some (.int .i64 y) := cell_alloc _ (cell_new (by simp) rfl)
  have za : w.heap.size < ((w.alloc (.cells #[.int .i64 x, .int .i64 y] 81)).alloc (.cells #[.int .i64 0, .int .i64 0] 81)).heap.size := World.block_lt_of_cell? _ _ a0
  have c0 : ((w.alloc (.cells #[.int .i64 x, .int .i64 y] 81)).alloc (.cells #[.int .i64 0, .int .i64 0] 81)).cell? ⟨w.heap.size + 1, 0, none⟩ = some (.int .i64 0) := cell_new (by simp) rfl
  have cf0 : ((w.alloc (.cells #[.int .i64 x, .int .i64 y] 81)).alloc (.cells #[.int .i64 0, .int .i64 0] 81)).frozen? ⟨w.heap.size + 1, 0, none⟩ = false := frozen_new (by simp)
  have c1 : ((w.alloc (.cells #[.int .i64 x, .int .i64 y] 81)).alloc (.cells #[.int .i64 0, .int .i64 0] 81)).cell? ⟨w.heap.size + 1, 1, none⟩ = some (.int .i64 0) := cell_new (by simp) rfl
  have cf1 : ((w.alloc (.cells #[.int .i64 x, .int .i64 y] 81)).alloc (.cells #[.int .i64 0, .int .i64 0] 81)).frozen? ⟨w.heap.size + 1, 1, none⟩ = false := frozen_new (by simp)
  have zc : w.heap.size + 1 < ((w.alloc (.cells #[.int .i64 x, .int .i64 y] 81)).alloc (.cells #[.int .i64 0, .int .i64 0] 81)).heap.size := World.block_lt_of_cell? _ _ c0
  generalize ((w.alloc (.cells #[.int .i64 x, .int .i64 y] 81)).alloc (.cells #[.int .i64 0, .int .i64 0] 81)) = w0 at *
  (refine region_extx 8 (by kernel_rfl) (by kernel_rfl) fun hx => ?_; simp only [List.take_succ_cons, List.take_zero, List.drop_succ_cons, List.drop_zero]; (repeat (any_goals (first | go_big_quiet_step (fail) | quiet_step (fail)))))
  (refine wpQuiet_nil ?_; clear hx; intro u; have hbw2 := ext_bel _ u; have hxw2 := ext_cell _ u; generalize ext _ u = w2 at *; clear u; have hsw2 := hbw2.size; (try simp at hsw2))
  have h1' : Below w.heap.size w w2 := (hb0).trans ((hbw2).mono (hb0).size)
  replace cf0 := frozen_below hbw2 (World.block_lt_of_cell? _ _ c0) cf0
  replace cf1 := frozen_below hbw2 (World.block_lt_of_cell? _ _ c1) cf1
  replace c0 := cell_below' hbw2 c0
  replace c1 := cell_below' hbw2 c1
  replace zc := Nat.lt_of_lt_of_le zc (hbw2).size
  clear hbw2 hb0
  go_wp2_with (fail)
  obtain ⟨s0, s1⟩ := set2 (v0 := .int .i64 (x.tdiv b)) (v1 := .int .i64 (y.tdiv b)) c0 c1
  refine bodyPost_ret (v := .agg #[.int .i64 (x.tdiv b), .int .i64 (y.tdiv b)]) (by simp [results, Tryd.results64, go_sem, s0, s1]) rfl ?_
  exact ⟨rfl, below_set _ (by simp) (below_set _ (by simp) h1')⟩
end Go.Proofs.YtlnbbioponmcfaaDoor
