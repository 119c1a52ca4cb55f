/-
  Chapter 2: the reference of the separation.
-/
import Derived.Test.YtppghnbabnhnbaaGreatDoorEMod
namespace Go.Proofs.YtppghnbabnhnbaaGreatDoor
open Go.ChangeShapes Go.WideShapes Go.ChangeAt Go.RowKit
set_option linter.unusedVariables false
set_option linter.unusedSimpArgs false

theorem absI_nat (p : Int) : absI p = (p.natAbs : Int) := by
  unfold absI
  split <;> omega
set_option maxHeartbeats 2000000 in
theorem Gcd_any (a b : Int) (w : World) (a0 : -1000000000000 ≤ a) (a1 : a ≤ 1000000000000) (b0 : -1000000000000 ≤ b) (b1 : b ≤ 1000000000000) :
    Calls Tryz.prog 137 #[.int .i64 a, .int .i64 b] w fun e w' => e = .returned (.int .i64 (Nat.gcd a.natAbs b.natAbs : Nat)) ∧ Below w.heap.size w w' := by
  go_enter Tryz.func137, Tryz.ntmps137
  go_wp2_with (fail)
  go_loopw [0, 1] (fun x y wx => ∃ (p q : Int), x = .int .i64 p ∧ y = .int .i64 q ∧ -1000000000000 ≤ p ∧ p ≤ 1000000000000 ∧ -1000000000000 ≤ q ∧ q ≤ 1000000000000 ∧ Nat.gcd a.natAbs b.natAbs = Nat.gcd p.natAbs q.natAbs ∧ Below w.heap.size w wx) (fun _ y _ => (intOf y).natAbs)
  case atStart => exact ⟨a, b, rfl, rfl, a0, a1, b0, b1, rfl, Below.refl _ _⟩
  case round =>
    obtain ⟨p, q, rfl, rfl, hp0, hp1, hq0, hq1, hg, hbx⟩ := hrel
    have HG := Lib.hid hg
    clear hg
    by_cases hq : q = 0
    · subst hq
      have h2 := HG.out
      rw [gcd_zero] at h2
      have H2 := Lib.hid h2
      have HS := Lib.hid (fun W => Size_any p W hp0 hp1)
      rw [absI_nat] at HS
      clear h2 HG
      go_wp2_with (fail)
      refine (HS.out _).mono ?_
      rintro e w' ⟨rfl, rfl⟩
      go_wp2_with (fail)
      go_ret
      exact ⟨ret_int (by rw [H2.out]), hbx⟩
    · have hqn : (q != 0) = true := by simpa using hq
      have hqn2 : (q == 0) = false := by simpa using hq
      have hlt2 := tmod_lt p q hq
      have h2 := HG.out.trans (gcd_tmod p q).symm
      have H2 := Lib.hid h2
      have ht0 : -1000000000000 ≤ p.tmod q := by omega
      have ht1 : p.tmod q ≤ 1000000000000 := by omega
      have HL := Lib.hid hlt2
      clear h2 HG hlt2
      go_wp2_with (fail)
      go_region
      all_goals
        go_wp2_with (fail)
        go_roundw
        case rel => exact ⟨q, p.tmod q, rfl, rfl, hq0, hq1, ht0, ht1, H2.out, (by repeat (first | assumption | exact Below.refl _ _ | refine Below.drew ?_ | (refine below_alloc _ ?_ ?_; focus (first | omega | (simp; done) | (simp; omega) | (simp at *; omega))) | (refine below_set _ ?_ ?_; focus (first | omega | (simp; done) | (simp; omega) | (simp at *; omega))) | refine below_drewN ?_ _ | (refine below_call (by assumption) ?_ ?_; focus (first | omega | (simp; done) | (simp; omega) | (simp at *; omega))) | (refine below_call' (by assumption) ?_ ?_; focus (first | omega | (simp; done) | (simp; omega) | (simp at *; omega)))))⟩
        case measure => simp only [intOf]; exact HL.out
theorem gcdL_bd : ∀ (l : List Int) (g : Nat) (M : Nat), g ≤ M → (∀ x ∈ l, x.natAbs ≤ M) → gcdL l g ≤ M
  | [], g, M, h, _ => h
  | b :: r, g, M, h, h2 => by
    rw [gcdL]
    refine gcdL_bd r _ M ?_ fun x hx => h2 x (List.mem_cons_of_mem _ hx)
    have hb := h2 b (List.mem_cons_self ..)
    by_cases hg : g = 0
    · subst hg; rw [Nat.gcd_zero_left]; exact hb
    · exact Nat.le_trans (Nat.gcd_le_left _ (by omega)) h
theorem rows_blk {α : Type} {m : Nat} {f : α → Nat → Value} {w : World} {b : Nat} {cs : Array Value} {T : TypeId} {l : List α} (h : w.heap[b]? = some (.cells cs T)) (hc : cs.toList = cellsOf m f l) : RowsAt m f w (some ⟨b, 0, none⟩) l := fun k x hk => by
  refine ⟨b, 0, rfl, ?_, fun j hj => ?_⟩
  · rcases Nat.lt_or_ge b w.heap.size with h' | h'
    · exact h'
    · rw [Array.getElem?_eq_none h'] at h; cases h
  · rw [Nat.zero_add]
    refine blk_cell h ?_
    rw [← Array.getElem?_toList, hc]
    exact cellsOf_get hk hj
def spl4 (s : Spl) : List Int := [s.o.re, s.o.im, s.e.re, s.e.im]
set_option maxRecDepth 100000 in
set_option maxHeartbeats 4000000 in
theorem RDivisor_any (s : Spl) (w : World) (ho : Sz 1000000000000 s.o) (he : Sz 1000000000000 s.e) (d0 : -1000000000000 ≤ s.d) (d1 : s.d ≤ 1000000000000) :
    Calls Tryz.prog 123 #[spv s] w fun e w' => e = .returned (.int .i64 (gcdL (spl4 s) s.d.natAbs : Nat)) ∧ Below w.heap.size w w' := by
  have HB : Hid (∀ x ∈ spl4 s, -1000000000000 ≤ x ∧ x ≤ 1000000000000) := Lib.hid fun x hx => by
    simp [spl4] at hx
    obtain ⟨a0, a1, a2, a3⟩ := ho
    obtain ⟨c0, c1, c2, c3⟩ := he
    rcases hx with rfl | rfl | rfl | rfl <;> exact ⟨by assumption, by assumption⟩
  have hlen : (spl4 s).length = 4 := rfl
  obtain ⟨⟨o0, o1⟩, ⟨e0, e1⟩, d⟩ := s
  simp only [spv] at *
  go_enter Tryz.func123, Tryz.ntmps123
  go_upto_region 3 with (fail)
  have hL : IntsAt ((w.alloc (.cells #[.int .i64 o0, .int .i64 o1, .int .i64 e0, .int .i64 e1, .int .i64 d] 48)).alloc (.cells #[.int .i64 o0, .int .i64 o1, .int .i64 e0, .int .i64 e1] 3)) (some ⟨w.heap.size + 1, 0, none⟩) (spl4 ⟨⟨o0, o1⟩, ⟨e0, e1⟩, d⟩) := rows_blk (blk_new (by simp)) rfl
  have h1 : Below w.heap.size w ((w.alloc (.cells #[.int .i64 o0, .int .i64 o1, .int .i64 e0, .int .i64 e1, .int .i64 d] 48)).alloc (.cells #[.int .i64 o0, .int .i64 o1, .int .i64 e0, .int .i64 e1] 3)) := below_alloc _ (Nat.le_refl _) (below_alloc _ (Nat.le_refl _) (Below.refl _ _))
  have H0 : Hid (gcdL (spl4 ⟨⟨o0, o1⟩, ⟨e0, e1⟩, d⟩) d.natAbs = gcdL ((spl4 ⟨⟨o0, o1⟩, ⟨e0, e1⟩, d⟩).drop 0) d.natAbs) := Lib.hid rfl
  generalize hl : spl4 ⟨⟨o0, o1⟩, ⟨e0, e1⟩, d⟩ = l at HB hlen hL H0
  have HLL := Lib.hid hl
  clear hl
  generalize ((w.alloc (.cells #[.int .i64 o0, .int .i64 o1, .int .i64 e0, .int .i64 e1, .int .i64 d] 48)).alloc (.cells #[.int .i64 o0, .int .i64 o1, .int .i64 e0, .int .i64 e1] 3)) = w1 at *
  go_wp2_with (fail)
  go_loopw [3, 5] (fun g i wx => ∃ (k : Nat) (x : Int), k ≤ 4 ∧ i = .int .i64 k ∧ g = .int .i64 x ∧ -1000000000000 ≤ x ∧ x ≤ 1000000000000 ∧ gcdL l d.natAbs = gcdL (l.drop k) x.natAbs ∧ (0 < k → 0 ≤ x) ∧ Below w1.heap.size w1 wx) (fun _ i _ => 4 - (intOf i).toNat)
  case atStart => exact ⟨0, d, Nat.zero_le _, rfl, rfl, d0, d1, H0.out, fun h => absurd h (by decide), Below.refl _ _⟩
  case round =>
    obtain ⟨k, x, hk, rfl, rfl, hx0, hx1, hg, hp, hbx⟩ := hrel
    have HG := Lib.hid hg
    have HP := Lib.hid hp
    clear hg hp
    by_cases hlt : k < 4
    · have hlt2 : k < l.length := by omega
      have hd : l.drop k = l[k] :: l.drop (k + 1) := List.drop_eq_getElem_cons hlt2
      rw [hd, gcdL] at HG
      clear hd
      obtain ⟨y0, y1⟩ := HB.out _ (List.getElem_mem hlt2)
      obtain ⟨b1, q1, hA, hz1, c0⟩ := IntsAt.at_ (RowsAt.below hL hbx) hlt2
      obtain ⟨rfl, rfl⟩ : w.heap.size + 1 = b1 ∧ 0 = q1 := by simpa using hA
      rw [Nat.zero_add] at c0
      generalize l[k] = y at *
      have hk1 : (k : Int) < 4 := by omega
      have HC := Lib.hid (fun W => Gcd_any x y W hx0 hx1 y0 y1)
      have hgb : Nat.gcd x.natAbs y.natAbs ≤ 1000000000000 := by
        have := gcdL_bd [y] x.natAbs 1000000000000 (by omega) (fun z hz => by simp at hz; subst hz; omega)
        simpa [gcdL] using this
      generalize Nat.gcd x.natAbs y.natAbs = gn at *
      clear hA HP
      go_wp2_with (fail)
      refine (HC.out _).mono ?_
      rintro e w3 ⟨rfl, hb3⟩
      have hbx3 := hbx.trans (hb3.mono hbx.size)
      go_wp2_with (fail)
      exact ⟨⟨k + 1, (gn : Int), by omega, by go_num, rfl, by omega, by omega, by rw [Int.natAbs_natCast]; exact HG.out, fun _ => by omega, hbx3⟩, by simp [intOf]; omega⟩
    · obtain rfl : k = 4 := by omega
      have hx := HP.out (by decide)
      have hd : l.drop 4 = [] := List.drop_eq_nil_of_le (by omega)
      rw [hd, gcdL] at HG
      clear HP hd
      go_wp2_with (fail)
      go_ret
      exact ⟨ret_int (by rw [HLL.out, HG.out]; omega), h1.trans (hbx.mono h1.size)⟩
end Go.Proofs.YtppghnbabnhnbaaGreatDoor
