/-
  The layers of a profile: the program's.
-/
import Derived.Test.YtoegpaolbkcleaaRLy
namespace Go.Proofs.Ytoegpaolbkcleaa
open Go.ChangeShapes Go.WideShapes Go.ChangeAt Go.RowKit
set_option linter.unusedVariables false
set_option linter.unusedSimpArgs false

def layV (base : Int) (l : List Slb) : List Int := if chkE base l = 0 then lays l else []
def LayPost (base : Int) (l : List Slb) (w : World) (e : Ending) (w' : World) : Prop :=
  ∃ A' c', e = .returned (.tuple #[.slice A' (layV base l).length c', .int .i64 (chkE base l)]) ∧ w'.ownsRow w.heap.size 3 1 (.slice A' (layV base l).length c') (layV base l).length (cellsOf 1 intC (layV base l)) ∧ Below w.heap.size w w'
theorem tix_snoc {l : List Slb} {k : Nat} (h : k < l.length) : tix 0 (l.take (k + 1)) = if 0 < thAt l k then tix 0 (l.take k) ++ [(k : Int)] else tix 0 (l.take k) := by
  rw [take_snoc l k h, tix_append, thAt_eq h, List.length_take, Nat.min_eq_left (by omega), Nat.zero_add]
  simp only [tix]
  split <;> simp

set_option maxRecDepth 100000 in
set_option maxHeartbeats 1000000 in
theorem square_K (base : Int) (A : Option Addr) (l : List Slb) (cap : Nat) (TA : Option Addr) (T : List Int) (tc tb sb : Nat) (j : Int) (w : World) (hT : ∀ z ∈ T, 0 ≤ z ∧ z < l.length) (hl : T.length ≤ 100)
    (ht : w.cell? ⟨tb, 0, none⟩ = some (.slice TA T.length tc)) (hs1 : w.cell? ⟨sb, 1, none⟩ = some (.slice A l.length cap)) (hA : SlabsAt w A l) (hTA : IntsAt w TA T) :
    Calls Try.prog 93 #[.int .i64 j, .pointer (some ⟨tb, 0, none⟩), .pointer (some ⟨sb, 0, none⟩)] w fun e w' => e = .returned (.int .i64 (sqK l T j)) ∧ Below w.heap.size w w' := by
  have hk : sqK l T j = if j < 0 ∨ (T.length : Int) ≤ j then 0 else sqAt l (T.getD j.toNat 0).toNat := rfl
  by_cases h0 : j < 0
  · rw [if_pos (.inl h0)] at hk
    have HK := Lib.hid hk
    clear hk
    go_enter Try.func93, Try.ntmps93
    go_wp2
    go_ret
    exact ⟨ret_eq (by rw [HK.out]; rfl), (by repeat (first | assumption | exact Below.refl _ _ | refine Below.drew ?_ | (refine below_alloc _ ?_ ?_; focus (first | omega | (simp; done) | (simp; omega) | (simp at *; omega))) | (refine below_set _ ?_ ?_; focus (first | omega | (simp; done) | (simp; omega) | (simp at *; omega))) | refine below_drewN ?_ _ | (refine below_call (by assumption) ?_ ?_; focus (first | omega | (simp; done) | (simp; omega) | (simp at *; omega))) | (refine below_call' (by assumption) ?_ ?_; focus (first | omega | (simp; done) | (simp; omega) | (simp at *; omega)))))⟩
  have h0' : decide (j < 0) = false := by simpa using h0
  by_cases h1 : (T.length : Int) ≤ j
  · rw [if_pos (.inr h1)] at hk
    have HK := Lib.hid hk
    clear hk h0
    go_enter Try.func93, Try.ntmps93
    go_wp2
    go_ret
    exact ⟨ret_eq (by rw [HK.out]; rfl), (by repeat (first | assumption | exact Below.refl _ _ | refine Below.drew ?_ | (refine below_alloc _ ?_ ?_; focus (first | omega | (simp; done) | (simp; omega) | (simp at *; omega))) | (refine below_set _ ?_ ?_; focus (first | omega | (simp; done) | (simp; omega) | (simp at *; omega))) | refine below_drewN ?_ _ | (refine below_call (by assumption) ?_ ?_; focus (first | omega | (simp; done) | (simp; omega) | (simp at *; omega))) | (refine below_call' (by assumption) ?_ ?_; focus (first | omega | (simp; done) | (simp; omega) | (simp at *; omega)))))⟩
  have h1' : decide ((T.length : Int) ≤ j) = false := by simpa using h1
  rw [if_neg (by omega)] at hk
  obtain ⟨k, rfl⟩ := Int.eq_ofNat_of_zero_le (show 0 ≤ j by omega)
  have hkT : k < T.length := by omega
  have hz := hT T[k] (List.getElem_mem hkT)
  rw [Int.toNat_natCast, show T.getD k 0 = T[k] by simp [List.getD, List.getElem?_eq_getElem hkT]] at hk
  obtain ⟨gb, og, rfl, hgb, tk⟩ := IntsAt.at_ hTA hkT
  obtain ⟨m, hm⟩ := Int.eq_ofNat_of_zero_le hz.1
  rw [hm] at hk tk hz
  have hml : m < l.length := by omega
  rw [Int.toNat_natCast] at hk
  obtain ⟨bb, off, rfl, hb, _, _⟩ := SlabsAt.at_ hA hml
  have e0 := slab_sq hA hml
  have HK := Lib.hid hk
  clear hk h0 h1 hT hTA hA hm hz
  go_enter Try.func93, Try.ntmps93
  go_wp2_with (fail)
  go_quiet (fail)
  go_wp2
  go_ret
  exact ⟨ret_eq (by rw [HK.out, sqAt_eq hml]; rfl), (by repeat (first | assumption | exact Below.refl _ _ | refine Below.drew ?_ | (refine below_alloc _ ?_ ?_; focus (first | omega | (simp; done) | (simp; omega) | (simp at *; omega))) | (refine below_set _ ?_ ?_; focus (first | omega | (simp; done) | (simp; omega) | (simp at *; omega))) | refine below_drewN ?_ _ | (refine below_call (by assumption) ?_ ?_; focus (first | omega | (simp; done) | (simp; omega) | (simp at *; omega))) | (refine below_call' (by assumption) ?_ ?_; focus (first | omega | (simp; done) | (simp; omega) | (simp at *; omega)))))⟩

set_option maxRecDepth 100000 in
set_option maxHeartbeats 4000000 in
theorem LayersOf_any (base : Int) (A : Option Addr) (l : List Slb) (cap : Nat) (w : World) (hl : l.length ≤ 100) (hA : SlabsAt w A l) :
    Calls Try.prog 59 #[.agg #[.int .i64 base, .slice A l.length cap]] w (LayPost base l w) := by
  have h1 : layV base l = if chkE base l = 0 then lays l else [] := rfl
  go_enter Try.func59, Try.ntmps59
  have H1 := Lib.hid h1
  clear h1
  go_wp2_with (fail)
  refine (open_any base A l cap _ hl (hA.below (by repeat (first | assumption | exact Below.refl _ _ | refine Below.drew ?_ | (refine below_alloc _ ?_ ?_; focus (first | omega | (simp; done) | (simp; omega) | (simp at *; omega))) | (refine below_set _ ?_ ?_; focus (first | omega | (simp; done) | (simp; omega) | (simp at *; omega))) | refine below_drewN ?_ _ | (refine below_call (by assumption) ?_ ?_; focus (first | omega | (simp; done) | (simp; omega) | (simp at *; omega))) | (refine below_call' (by assumption) ?_ ?_; focus (first | omega | (simp; done) | (simp; omega) | (simp at *; omega))))))).mono ?_
  rintro e w1 ⟨rfl, hb1⟩
  have hbw1 : Below w.heap.size w w1 := (by repeat (first | assumption | exact Below.refl _ _ | refine Below.drew ?_ | (refine below_alloc _ ?_ ?_; focus (first | omega | (simp; done) | (simp; omega) | (simp at *; omega))) | (refine below_set _ ?_ ?_; focus (first | omega | (simp; done) | (simp; omega) | (simp at *; omega))) | refine below_drewN ?_ _ | (refine below_call (by assumption) ?_ ?_; focus (first | omega | (simp; done) | (simp; omega) | (simp at *; omega))) | (refine below_call' (by assumption) ?_ ?_; focus (first | omega | (simp; done) | (simp; omega) | (simp at *; omega)))))
  have hA1 := hA.below hbw1
  have hz1 : w.heap.size < w1.heap.size := by have := hb1.size; simp at this; omega
  clear hb1
  by_cases h0 : chkE base l = 0
  rotate_left 1
  · have h1 := H1.out
    rw [if_neg h0] at h1
    have H1' := Lib.hid h1
    have h0' : (chkE base l == 0) = false := by simpa using h0
    have h0'' : (chkE base l != 0) = true := by simpa using h0
    clear h0 h1 H1
    go_wp2
    go_ret2
    unfold LayPost
    rw [H1'.out]
    exact ⟨none, 0, rfl, World.ownsRow_nil _ _ _ _, (by repeat (first | assumption | exact Below.refl _ _ | refine Below.drew ?_ | (refine below_alloc _ ?_ ?_; focus (first | omega | (simp; done) | (simp; omega) | (simp at *; omega))) | (refine below_set _ ?_ ?_; focus (first | omega | (simp; done) | (simp; omega) | (simp at *; omega))) | refine below_drewN ?_ _ | (refine below_call (by assumption) ?_ ?_; focus (first | omega | (simp; done) | (simp; omega) | (simp at *; omega))) | (refine below_call' (by assumption) ?_ ?_; focus (first | omega | (simp; done) | (simp; omega) | (simp at *; omega)))))⟩
  have HO := Lib.hid (ok_of_chk h0)
  have hn0 := HO.out.n0
  have hn1 := HO.out.n1
  have h1 := H1.out
  rw [if_pos h0] at h1
  rw [h0]
  have HC0 := Lib.hid h0
  have H1' := Lib.hid h1
  clear h0 h1 H1
  obtain ⟨bb, off, rfl, hb, _, _⟩ := SlabsAt.at_ hA1 hn0
  go_wp2
  have hv : (w1.alloc (.cells #[.int .i64 base, .slice (some ⟨bb, off, none⟩) l.length cap] 113)).heap.size = w1.heap.size + 1 := by simp
  have S0 : (w1.alloc (.cells #[.int .i64 base, .slice (some ⟨bb, off, none⟩) l.length cap] 113)).cell? ⟨w1.heap.size, 0, none⟩ = some (.int .i64 base) := (by repeat (first | assumption | (refine cell_new ?_ rfl; focus (simp; done)) | refine cell_drew ?_ | refine cell_alloc _ ?_ | refine cell_drewN _ ?_ | (refine cell_far ?_ ?_; focus (first | omega | (simp; omega) | (simp; done))) | refine cell_below' (by assumption) ?_))
  have S1 : (w1.alloc (.cells #[.int .i64 base, .slice (some ⟨bb, off, none⟩) l.length cap] 113)).cell? ⟨w1.heap.size, 1, none⟩ = some (.slice (some ⟨bb, off, none⟩) l.length cap) := (by repeat (first | assumption | (refine cell_new ?_ rfl; focus (simp; done)) | refine cell_drew ?_ | refine cell_alloc _ ?_ | refine cell_drewN _ ?_ | (refine cell_far ?_ ?_; focus (first | omega | (simp; omega) | (simp; done))) | refine cell_below' (by assumption) ?_))
  have hbv : Below w.heap.size w (w1.alloc (.cells #[.int .i64 base, .slice (some ⟨bb, off, none⟩) l.length cap] 113)) := (by repeat (first | assumption | exact Below.refl _ _ | refine Below.drew ?_ | (refine below_alloc _ ?_ ?_; focus (first | omega | (simp; done) | (simp; omega) | (simp at *; omega))) | (refine below_set _ ?_ ?_; focus (first | omega | (simp; done) | (simp; omega) | (simp at *; omega))) | refine below_drewN ?_ _ | (refine below_call (by assumption) ?_ ?_; focus (first | omega | (simp; done) | (simp; omega) | (simp at *; omega))) | (refine below_call' (by assumption) ?_ ?_; focus (first | omega | (simp; done) | (simp; omega) | (simp at *; omega)))))
  rw [← hv]
  generalize (w1.alloc (.cells #[.int .i64 base, .slice (some ⟨bb, off, none⟩) l.length cap] 113)) = v1 at *
  have hs1 : w1.heap.size < v1.heap.size := by omega
  have hs0 : w.heap.size < v1.heap.size := by omega
  have AV : SlabsAt v1 (some ⟨bb, off, none⟩) l := RowsAt.below hA hbv
  clear hv hz1 hb hA1 hbw1
  go_loopw [25] (fun i wr => ∃ (k : Nat) (T : List Int) (n : Nat) (A' : Option Addr) (c' : Nat), k ≤ l.length ∧ i = .int .i64 k ∧ tix 0 (l.take k) = T ∧ T.length = n ∧ n ≤ k ∧ wr.cell? ⟨v1.heap.size, 0, none⟩ = some (.slice A' n c') ∧ wr.frozen? ⟨v1.heap.size, 0, none⟩ = false ∧ wr.ownsRow (v1.heap.size + 1) 3 1 (.slice A' n c') n (cellsOf 1 intC T) ∧ Below v1.heap.size v1 wr ∧ v1.heap.size < wr.heap.size) (fun i _ => l.length - (intOf i).toNat)
  case atStart => exact ⟨0, [], 0, none, 0, Nat.zero_le _, rfl, rfl, rfl, Nat.le_refl _, cell_new rfl rfl, frozen_new rfl, World.ownsRow_nil _ _ _ _, (by repeat (first | assumption | exact Below.refl _ _ | refine Below.drew ?_ | (refine below_alloc _ ?_ ?_; focus (first | omega | (simp; done) | (simp; omega) | (simp at *; omega))) | (refine below_set _ ?_ ?_; focus (first | omega | (simp; done) | (simp; omega) | (simp at *; omega))) | refine below_drewN ?_ _ | (refine below_call (by assumption) ?_ ?_; focus (first | omega | (simp; done) | (simp; omega) | (simp at *; omega))) | (refine below_call' (by assumption) ?_ ?_; focus (first | omega | (simp; done) | (simp; omega) | (simp at *; omega))))), by simp⟩
  case round =>
    obtain ⟨k, T, n, A', c', hk, rfl, htx, hlen, hnk, s0, y0, hown, hbw, hsz⟩ := hrel
    have HTX := Lib.hid htx
    have HLEN := Lib.hid hlen
    clear htx hlen
    by_cases hlt : k < l.length
    · obtain ⟨b2, o2, e2, hb2, e0, e1⟩ := SlabsAt.at_ (RowsAt.below AV hbw) hlt
      injection e2 with e2
      injection e2 with e21 e22
      subst e21 e22
      have hst := tix_snoc hlt
      rw [HTX.out, thAt_eq hlt] at hst
      generalize l[k] = x at *
      by_cases ht : 0 < x.th
      rotate_left 1
      · rw [if_neg ht] at hst
        have HST := Lib.hid hst
        have ht' : decide (0 < x.th) = false := by simpa using ht
        clear hst ht
        go_wp2
        go_roundw
        case rel => exact ⟨k + 1, T, n, A', c', by omega, by go_num, HST.out, HLEN.out, by omega, cell_alloc _ s0, frozen_alloc _ (by omega) y0, hown.alloc _, (by repeat (first | assumption | exact Below.refl _ _ | refine Below.drew ?_ | (refine below_alloc _ ?_ ?_; focus (first | omega | (simp; done) | (simp; omega) | (simp at *; omega))) | (refine below_set _ ?_ ?_; focus (first | omega | (simp; done) | (simp; omega) | (simp at *; omega))) | refine below_drewN ?_ _ | (refine below_call (by assumption) ?_ ?_; focus (first | omega | (simp; done) | (simp; omega) | (simp at *; omega))) | (refine below_call' (by assumption) ?_ ?_; focus (first | omega | (simp; done) | (simp; omega) | (simp at *; omega))))), by simp; omega⟩
        case measure => simp [intOf]; omega
      · rw [if_pos ht] at hst
        have HST := Lib.hid hst
        clear hst
        have hlt2 := hown.lt
        have hn1' : some v1.heap.size ≠ Value.ownBlock (.slice A' n c') := fun e => by have := hlt2 _ e.symm; omega
        clear hlt2
        go_wp2_with (at_builtin; refine wpList_appInt _ rfl (.tmp 33) (.tmp 35) rfl (v1.heap.size + 1) A' n c' (cellsOf 1 intC T) rfl ((hown.alloc _).alloc _) (some ⟨wr.heap.size + 1, 0, none⟩) 1 1 (cellsOf 1 intC [(k : Int)]) rfl rfl (fun e => by cases e) (fun ad e => by cases e; exact RowsAt.news (rows_blk (m := 1) (f := intC) (l := [(k : Int)]) (blk_new (by simp)) rfl) (by decide)) (cellsOf_one intC_one (by decide) _) (by omega) (by simp; omega) ?_; intro A4 c5 w5 hown5 hg halt; rw [← cellsOf_append] at hown5; have hz7 := hg.size; simp at hz7; have hb5 : Below v1.heap.size v1 w5 := below_own (below_alloc _ (by (first | omega | (simp; done) | (simp; omega) | (simp at *; omega))) (below_alloc _ (by (first | omega | (simp; done) | (simp; omega) | (simp at *; omega))) hbw)) hg ((hown.alloc _).alloc _) (by omega) (by (first | omega | (simp; done) | (simp; omega) | (simp at *; omega))); have u0 := cell_grown hg (cell_alloc _ (cell_alloc _ s0)) hn1'; have uy0 := frozen_grown hg (frozen_alloc _ (by simp; omega) (frozen_alloc _ (by omega) y0)) (by simp; omega) hn1'; clear hg halt hown s0 y0 hn1')
        go_roundw
        case rel => exact ⟨k + 1, _, n + 1, A4, c5, by omega, by go_num, HST.out, by simp [HLEN.out], by omega, cell_same u0, frozen_set _ _ uy0, ownsRow_setCell_below hown5 (by simp) _, below_set _ (Nat.le_refl _) hb5, by simp; omega⟩
        case measure => simp [intOf]; omega
    · obtain rfl : k = l.length := by omega
      obtain ⟨wo, rfl⟩ : ∃ wo, wo = wr := ⟨wr, rfl⟩
      have htT : tix 0 l = T := by have := HTX.out; rwa [List.take_length] at this
      have HTT := Lib.hid htT
      clear htT HTX
      go_wp2
      go_loopw [10, 41] (fun o i wr => ∃ (k : Nat) (out : List Int) (p : Nat) (B' : Option Addr) (d' : Nat), k ≤ n ∧ i = .int .i64 k ∧ o = .slice B' p d' ∧ layT l T k = out ∧ out.length = p ∧ p ≤ k ∧ wr.ownsRow wo.heap.size 3 1 (.slice B' p d') p (cellsOf 1 intC out) ∧ Below wo.heap.size wo wr) (fun _ i _ => n - (intOf i).toNat)
      case atStart => exact ⟨0, [], 0, none, 0, Nat.zero_le _, rfl, rfl, rfl, rfl, Nat.le_refl _, World.ownsRow_nil _ _ _ _, Below.refl _ _⟩
      case round =>
        obtain ⟨k, out, p, B', d', hk, rfl, rfl, hlr, hlen2, hpk, hown2, hbo⟩ := hrel
        have HLR := Lib.hid hlr
        have HLEN2 := Lib.hid hlen2
        clear hlr hlen2
        have q0 := cell_below' hbo s0
        have t0 := cell_below' hbo (cell_below' hbw S0)
        have t1 := cell_below' hbo (cell_below' hbw S1)
        have hownT := own_below hown hbo
        have hzo := hbo.size
        have hq0 : v1.heap.size < wr.heap.size := by omega
        have hq1 : w1.heap.size < wr.heap.size := by omega
        by_cases hlt2 : k < n
        · have hIT : IntsAt wr A' T := rowsAt_of_own hownT HLEN.out (by decide)
          have hltT : k < T.length := by rw [HLEN.out]; exact hlt2
          obtain ⟨g, og, rfl, hbg, tk⟩ := IntsAt.at_ hIT hltT
          have hgd : T.getD k 0 = T[k] := by simp [List.getD, List.getElem?_eq_getElem hltT]
          have hst : layT l T (k + 1) = if (decide (sqK l T ((k : Int) - 1) < sqK l T k) && decide (sqK l T ((k : Int) + 1) < sqK l T k)) then out ++ [T[k]] else out := by rw [layT, HLR.out, hgd]; rfl
          have hbT : ∀ z ∈ T, 0 ≤ z ∧ z < l.length := fun z hz => by have := tix_bd l 0 z (by rw [HTT.out]; exact hz); omega
          have hT100 : T.length ≤ 100 := by have := HLEN.out; omega
          have hsq : ∀ (j : Int) (W : World), W.cell? ⟨v1.heap.size, 0, none⟩ = some (.slice (some ⟨g, og, none⟩) n c') → W.cell? ⟨w1.heap.size, 1, none⟩ = some (.slice (some ⟨bb, off, none⟩) l.length cap) → SlabsAt W (some ⟨bb, off, none⟩) l → IntsAt W (some ⟨g, og, none⟩) T → Calls Try.prog 93 #[.int .i64 j, .pointer (some ⟨v1.heap.size, 0, none⟩), .pointer (some ⟨w1.heap.size, 0, none⟩)] W fun e w' => e = .returned (.int .i64 (sqK l T j)) ∧ Below W.heap.size W w' := fun j W k1 k2 k3 k4 => square_K base _ l cap _ T c' _ _ j W hbT hT100 (by rw [HLEN.out]; exact k1) k2 k3 k4
          have HQ0 := Lib.hid (hsq k)
          have HQ1 := Lib.hid (hsq ((k : Int) - 1))
          have HQ2 := Lib.hid (hsq ((k : Int) + 1))
          have hAr : SlabsAt wr (some ⟨bb, off, none⟩) l := RowsAt.below (RowsAt.below AV hbw) hbo
          clear hsq hbT hT100 hgd
          generalize T[k] = z at *
          generalize sqK l T ((k : Int) - 1) = sp at *
          generalize sqK l T ((k : Int) + 1) = sn at *
          generalize sqK l T k = sk at *
          go_wp2_with (fail)
          refine (HQ0.out _ q0 t1 hAr hIT).mono ?_
          rintro e y1 ⟨rfl, hc1⟩
          replace q0 := cell_below' hc1 q0
          replace t1 := cell_below' hc1 t1
          replace hAr := RowsAt.below hAr hc1
          replace hIT := RowsAt.below hIT hc1
          replace hown2 := own_below hown2 hc1
          replace hq0 : v1.heap.size < y1.heap.size := by have := hc1.size; omega
          replace hq1 : w1.heap.size < y1.heap.size := by have := hc1.size; omega
          replace hbo : Below wo.heap.size wo y1 := hbo.trans (hc1.mono (by omega))
          replace hzo : wo.heap.size ≤ y1.heap.size := by have := hc1.size; omega
          clear hc1
          go_wp2_with (fail)
          refine (HQ1.out _ q0 t1 hAr hIT).mono ?_
          rintro e y2 ⟨rfl, hc2⟩
          replace q0 := cell_below' hc2 q0
          replace t1 := cell_below' hc2 t1
          replace hAr := RowsAt.below hAr hc2
          replace hIT := RowsAt.below hIT hc2
          replace hown2 := own_below hown2 hc2
          replace hq0 : v1.heap.size < y2.heap.size := by have := hc2.size; omega
          replace hq1 : w1.heap.size < y2.heap.size := by have := hc2.size; omega
          replace hbo : Below wo.heap.size wo y2 := hbo.trans (hc2.mono (by omega))
          replace hzo : wo.heap.size ≤ y2.heap.size := by have := hc2.size; omega
          clear hc2
          by_cases hp : sp < sk
          rotate_left 1
          · have hp' : decide (sp < sk) = false := by simpa using hp
            rw [hp', Bool.false_and] at hst
            have HST := Lib.hid hst
            clear hst hp
            go_wp2_with (fail)
            go_roundw
            case rel => exact ⟨k + 1, out, p, B', d', by omega, by go_num, rfl, HST.out, HLEN2.out, by omega, hown2, hbo⟩
            case measure => simp [intOf]; omega
          rw [decide_eq_true hp, Bool.true_and] at hst
          go_wp2_with (fail)
          refine (HQ0.out _ q0 t1 hAr hIT).mono ?_
          rintro e y3 ⟨rfl, hc3⟩
          replace q0 := cell_below' hc3 q0
          replace t1 := cell_below' hc3 t1
          replace hAr := RowsAt.below hAr hc3
          replace hIT := RowsAt.below hIT hc3
          replace hown2 := own_below hown2 hc3
          replace hq0 : v1.heap.size < y3.heap.size := by have := hc3.size; omega
          replace hq1 : w1.heap.size < y3.heap.size := by have := hc3.size; omega
          replace hbo : Below wo.heap.size wo y3 := hbo.trans (hc3.mono (by omega))
          replace hzo : wo.heap.size ≤ y3.heap.size := by have := hc3.size; omega
          clear hc3
          go_wp2_with (fail)
          refine (HQ2.out _ q0 t1 hAr hIT).mono ?_
          rintro e y4 ⟨rfl, hc4⟩
          replace q0 := cell_below' hc4 q0
          replace t1 := cell_below' hc4 t1
          replace hAr := RowsAt.below hAr hc4
          replace hIT := RowsAt.below hIT hc4
          replace hown2 := own_below hown2 hc4
          replace hq0 : v1.heap.size < y4.heap.size := by have := hc4.size; omega
          replace hq1 : w1.heap.size < y4.heap.size := by have := hc4.size; omega
          replace hbo : Below wo.heap.size wo y4 := hbo.trans (hc4.mono (by omega))
          replace hzo : wo.heap.size ≤ y4.heap.size := by have := hc4.size; omega
          clear hc4
          by_cases hn : sn < sk
          rotate_left 1
          · have hn' : decide (sn < sk) = false := by simpa using hn
            rw [hn'] at hst
            have HST := Lib.hid hst
            clear hst hn
            go_wp2_with (fail)
            go_roundw
            case rel => exact ⟨k + 1, out, p, B', d', by omega, by go_num, rfl, HST.out, HLEN2.out, by omega, hown2, hbo⟩
            case measure => simp [intOf]; omega
          rw [decide_eq_true hn, if_pos rfl] at hst
          have HST := Lib.hid hst
          clear hst
          go_wp2_with (at_builtin; refine wpList_appInt _ rfl (.tmp 64) (.tmp 66) rfl wo.heap.size B' p d' (cellsOf 1 intC out) rfl (hown2.alloc _) (some ⟨y4.heap.size, 0, none⟩) 1 1 (cellsOf 1 intC [z]) rfl rfl (fun e => by cases e) (fun ad e => by cases e; exact RowsAt.news (rows_blk (m := 1) (f := intC) (l := [z]) (blk_new (by simp)) rfl) (by decide)) (cellsOf_one intC_one (by decide) _) (by omega) (by simp; omega) ?_; intro A4 c5 w5 hown5 hg halt; rw [← cellsOf_append] at hown5; have hb5 : Below wo.heap.size wo w5 := below_own (below_alloc _ (by (first | omega | (simp; done) | (simp; omega) | (simp at *; omega))) hbo) hg (hown2.alloc _) (by omega) (by (first | omega | (simp; done) | (simp; omega) | (simp at *; omega))); clear hg halt hown2)
          go_roundw
          case rel => exact ⟨k + 1, _, p + 1, A4, c5, by omega, by go_num, rfl, HST.out, by simp [HLEN2.out], by omega, hown5, hb5⟩
          case measure => simp [intOf]; omega
        · obtain rfl : k = n := by omega
          have hlv : lays l = out := by unfold lays; rw [HTT.out, HLEN.out]; exact HLR.out
          have HLV := Lib.hid hlv
          clear hlv
          go_wp2
          go_ret2
          unfold LayPost
          rw [H1'.out, HLV.out, HLEN2.out, HC0.out]
          exact ⟨B', d', rfl, own_mono hown2 (by omega), (by repeat (first | assumption | exact Below.refl _ _ | refine Below.drew ?_ | (refine below_alloc _ ?_ ?_; focus (first | omega | (simp; done) | (simp; omega) | (simp at *; omega))) | (refine below_set _ ?_ ?_; focus (first | omega | (simp; done) | (simp; omega) | (simp at *; omega))) | refine below_drewN ?_ _ | (refine below_call (by assumption) ?_ ?_; focus (first | omega | (simp; done) | (simp; omega) | (simp at *; omega))) | (refine below_call' (by assumption) ?_ ?_; focus (first | omega | (simp; done) | (simp; omega) | (simp at *; omega)))))⟩
end Go.Proofs.Ytoegpaolbkcleaa
