/-
  The layers of a profile: the reference's.
-/
import Derived.Test.YtoegpaolbkcleaaLayR
import Derived.Test.YtoegpaolbkcleaaDst
namespace Go.Proofs.Ytoegpaolbkcleaa
open Go.ChangeShapes Go.WideShapes Go.ChangeAt Go.RowKit
set_option linter.unusedVariables false
set_option linter.unusedSimpArgs false

def RLayPost (l : List Slb) (w : World) (e : Ending) (w' : World) : Prop :=
  ∃ A' c', e = .returned (.slice A' (lays l).length c') ∧ w'.ownsRow w.heap.size 3 1 (.slice A' (lays l).length c') (lays l).length (cellsOf 1 intC (lays l)) ∧ Below w.heap.size w w'

set_option maxRecDepth 100000 in
set_option maxHeartbeats 4000000 in
theorem RLayers_any (base : Int) (A : Option Addr) (l : List Slb) (cap : Nat) (w : World) (ho : Ok base l) (hA : SlabsAt w A l) :
    Calls Try.prog 62 #[.agg #[.int .i64 base, .slice A l.length cap]] w (RLayPost l w) := by
  have HL := Lib.hid (lays_eq l)
  have hn0 := ho.n0
  have hn1 := ho.n1
  clear ho
  obtain ⟨bb, off, rfl, hb, f0, f1⟩ := SlabsAt.at_ hA hn0
  clear f0 f1
  go_enter Try.func62, Try.ntmps62
  go_wp2
  go_loopw [3, 4] (fun o i wr => ∃ (k : Nat) (out : List Int) (n : Nat) (A' : Option Addr) (c' : Nat), k ≤ l.length ∧ i = .int .i64 k ∧ o = .slice A' n c' ∧ layR l k = out ∧ out.length = n ∧ n ≤ k ∧ wr.ownsRow (w.heap.size + 1) 3 1 (.slice A' n c') n (cellsOf 1 intC out) ∧ Below (w.heap.size + 1) (w.alloc (.cells #[.int .i64 base, .slice (some ⟨bb, off, none⟩) l.length cap] 24)) wr) (fun _ i _ => l.length - (intOf i).toNat)
  case atStart => exact ⟨0, [], 0, none, 0, Nat.zero_le _, rfl, rfl, rfl, rfl, Nat.le_refl _, World.ownsRow_nil _ _ _ _, Below.refl _ _⟩
  case round =>
    obtain ⟨k, out, n, A', c', hk, rfl, rfl, hlr, hlen, hnk, hown, hbw⟩ := hrel
    have HLR := Lib.hid hlr
    have HLEN := Lib.hid hlen
    have hbr : Below w.heap.size w wr := (by repeat (first | assumption | exact Below.refl _ _ | refine Below.drew ?_ | (refine below_alloc _ ?_ ?_; focus (first | omega | (simp; done) | (simp; omega) | (simp at *; omega))) | (refine below_set _ ?_ ?_; focus (first | omega | (simp; done) | (simp; omega) | (simp at *; omega))) | refine below_drewN ?_ _ | (refine below_call (by assumption) ?_ ?_; focus (first | omega | (simp; done) | (simp; omega) | (simp at *; omega))) | (refine below_call' (by assumption) ?_ ?_; focus (first | omega | (simp; done) | (simp; omega) | (simp at *; omega)))))
    have hAr : SlabsAt wr (some ⟨bb, off, none⟩) l := RowsAt.below hA hbr
    have hzr := hbw.size
    simp at hzr
    have hzr1 : w.heap.size < wr.heap.size := by omega
    have s0 : wr.cell? ⟨w.heap.size, 0, none⟩ = some (.int .i64 base) := cell_below hbw (by repeat (first | assumption | (refine cell_new ?_ rfl; focus (simp; done)) | refine cell_drew ?_ | refine cell_alloc _ ?_ | refine cell_drewN _ ?_ | (refine cell_far ?_ ?_; focus (first | omega | (simp; omega) | (simp; done))) | refine cell_below' (by assumption) ?_)) (by simp)
    have s1 : wr.cell? ⟨w.heap.size, 1, none⟩ = some (.slice (some ⟨bb, off, none⟩) l.length cap) := cell_below hbw (by repeat (first | assumption | (refine cell_new ?_ rfl; focus (simp; done)) | refine cell_drew ?_ | refine cell_alloc _ ?_ | refine cell_drewN _ ?_ | (refine cell_far ?_ ?_; focus (first | omega | (simp; omega) | (simp; done))) | refine cell_below' (by assumption) ?_)) (by simp)
    clear hlr hlen
    by_cases hlt : k < l.length
    · have e0 := slab_sq hAr hlt
      have e1 := slab_th hAr hlt
      have hbb2 : bb < wr.heap.size := World.block_lt_of_cell? _ _ e0
      have hst : layR l (k + 1) = if 0 < thAt l k ∧ dnS l k < sqAt l k ∧ upS (l.drop (k + 1)) < sqAt l k then out ++ [(k : Int)] else out := by rw [layR, HLR.out]
      have hdn := fun W hW => beside_dn base (some ⟨bb, off, none⟩) l cap k W (by omega) hlt hW
      have hup := fun W hW => beside_up base (some ⟨bb, off, none⟩) l cap k W (by omega) hlt hW
      have HDN := Lib.hid hdn
      have HUP := Lib.hid hup
      clear hdn hup
      generalize dnS l k = dn at *
      generalize upS (l.drop (k + 1)) = up at *
      generalize thAt l k = t at *
      generalize sqAt l k = q at *
      by_cases ht : 0 < t
      rotate_left 1
      · rw [if_neg (fun h => ht h.1)] at hst
        have HST := Lib.hid hst
        have ht' : decide (0 < t) = false := by simpa using ht
        clear hst ht
        go_wp2_with (fail)
        (refine region_full (by kernel_rfl) (by kernel_rfl) fun hx => ?_; (repeat (any_goals (first | go_big_quiet_step (fail) | quiet_step (fail)))))
        (refine wpQuiet_nil ?_; clear hx; intro u; have hbw3 := ext_bel _ u; have hxw3 := ext_cell _ u; generalize ext _ u = w3 at *; clear u; have hsw3 := hbw3.size; (try simp at hsw3))
        have hb3 : Below (w.heap.size + 1) _ w3 := hbw.trans ((below_alloc _ (Nat.le_refl _) (Below.refl _ wr)).trans (hbw3.mono (by simp)) |>.mono (by omega))
        have hown3 := own_below (hown.alloc (.cells #[.int .i64 q, .int .i64 t] 45)) hbw3
        go_wp2
        go_roundw
        case rel => exact ⟨k + 1, out, n, A', c', by omega, by go_num, rfl, HST.out, HLEN.out, by omega, hown3, hb3⟩
        case measure => simp [intOf]; omega
      by_cases hd : dn < q
      rotate_left 1
      · rw [if_neg (fun h => hd h.2.1)] at hst
        have HST := Lib.hid hst
        have hd' : decide (dn < q) = false := by simpa using hd
        clear hst hd
        go_wp2_with (fail)
        (refine region_full (by kernel_rfl) (by kernel_rfl) fun hx => ?_; (repeat (any_goals (first | go_big_quiet_step ((go_at_call 94; with_reducible exact ext_call (HDN.out _ ((hAr.below (below_alloc _ (Nat.le_refl _) (Below.refl _ _))).below (ext_bel _ _))))) | quiet_step ((go_at_call 94; with_reducible exact ext_call (HDN.out _ ((hAr.below (below_alloc _ (Nat.le_refl _) (Below.refl _ _))).below (ext_bel _ _)))))))))
        (refine wpQuiet_nil ?_; clear hx; intro u; have hbw3 := ext_bel _ u; have hxw3 := ext_cell _ u; generalize ext _ u = w3 at *; clear u; have hsw3 := hbw3.size; (try simp at hsw3))
        have hb3 : Below (w.heap.size + 1) _ w3 := hbw.trans ((below_alloc _ (Nat.le_refl _) (Below.refl _ wr)).trans (hbw3.mono (by simp)) |>.mono (by omega))
        have hown3 := own_below (hown.alloc (.cells #[.int .i64 q, .int .i64 t] 45)) hbw3
        go_wp2
        go_roundw
        case rel => exact ⟨k + 1, out, n, A', c', by omega, by go_num, rfl, HST.out, HLEN.out, by omega, hown3, hb3⟩
        case measure => simp [intOf]; omega
      by_cases hu : up < q
      rotate_left 1
      · rw [if_neg (fun h => hu h.2.2)] at hst
        have HST := Lib.hid hst
        have hu' : decide (up < q) = false := by simpa using hu
        clear hst hu
        go_wp2_with (fail)
        (refine region_full (by kernel_rfl) (by kernel_rfl) fun hx => ?_; (repeat (any_goals (first | go_big_quiet_step (first | (go_at_call 94; with_reducible exact ext_call (HDN.out _ ((hAr.below (below_alloc _ (Nat.le_refl _) (Below.refl _ _))).below (ext_bel _ _)))) | (go_at_call 94; with_reducible exact ext_call (HUP.out _ ((hAr.below (below_alloc _ (Nat.le_refl _) (Below.refl _ _))).below (ext_bel _ _))))) | quiet_step (first | (go_at_call 94; with_reducible exact ext_call (HDN.out _ ((hAr.below (below_alloc _ (Nat.le_refl _) (Below.refl _ _))).below (ext_bel _ _)))) | (go_at_call 94; with_reducible exact ext_call (HUP.out _ ((hAr.below (below_alloc _ (Nat.le_refl _) (Below.refl _ _))).below (ext_bel _ _)))))))))
        (refine wpQuiet_nil ?_; clear hx; intro u; have hbw3 := ext_bel _ u; have hxw3 := ext_cell _ u; generalize ext _ u = w3 at *; clear u; have hsw3 := hbw3.size; (try simp at hsw3))
        have hb3 : Below (w.heap.size + 1) _ w3 := hbw.trans ((below_alloc _ (Nat.le_refl _) (Below.refl _ wr)).trans (hbw3.mono (by simp)) |>.mono (by omega))
        have hown3 := own_below (hown.alloc (.cells #[.int .i64 q, .int .i64 t] 45)) hbw3
        go_wp2
        go_roundw
        case rel => exact ⟨k + 1, out, n, A', c', by omega, by go_num, rfl, HST.out, HLEN.out, by omega, hown3, hb3⟩
        case measure => simp [intOf]; omega
      rw [if_pos ⟨ht, hd, hu⟩] at hst
      have HST := Lib.hid hst
      clear hst
      go_wp2_with (fail)
      (refine region_full (by kernel_rfl) (by kernel_rfl) fun hx => ?_; (repeat (any_goals (first | go_big_quiet_step (first | (go_at_call 94; with_reducible exact ext_call (HDN.out _ ((hAr.below (below_alloc _ (Nat.le_refl _) (Below.refl _ _))).below (ext_bel _ _)))) | (go_at_call 94; with_reducible exact ext_call (HUP.out _ ((hAr.below (below_alloc _ (Nat.le_refl _) (Below.refl _ _))).below (ext_bel _ _))))) | quiet_step (first | (go_at_call 94; with_reducible exact ext_call (HDN.out _ ((hAr.below (below_alloc _ (Nat.le_refl _) (Below.refl _ _))).below (ext_bel _ _)))) | (go_at_call 94; with_reducible exact ext_call (HUP.out _ ((hAr.below (below_alloc _ (Nat.le_refl _) (Below.refl _ _))).below (ext_bel _ _)))))))))
      (refine wpQuiet_nil ?_; clear hx; intro u; have hbw3 := ext_bel _ u; have hxw3 := ext_cell _ u; generalize ext _ u = w3 at *; clear u; have hsw3 := hbw3.size; (try simp at hsw3))
      have hb3 : Below (w.heap.size + 1) (w.alloc (.cells #[.int .i64 base, .slice (some ⟨bb, off, none⟩) l.length cap] 24)) w3 := hbw.trans ((below_alloc _ (Nat.le_refl _) (Below.refl _ wr)).trans (hbw3.mono (by simp)) |>.mono (by omega))
      have hown3 := own_below (hown.alloc (.cells #[.int .i64 q, .int .i64 t] 45)) hbw3
      have hz3 : w.heap.size + 1 ≤ w3.heap.size := by have := hbw3.size; simp at this; omega
      go_wp2_with (at_builtin; refine wpList_appInt _ rfl (.tmp 37) (.tmp 39) rfl (w.heap.size + 1) A' n c' (cellsOf 1 intC out) rfl (hown3.alloc _) (some ⟨w3.heap.size, 0, none⟩) 1 1 (cellsOf 1 intC [(k : Int)]) rfl rfl (fun e => by cases e) (fun ad e => by cases e; exact RowsAt.news (rows_blk (m := 1) (f := intC) (l := [(k : Int)]) (blk_new (by simp)) rfl) (by decide)) (cellsOf_one intC_one (by decide) _) (by omega) (by simp; omega) ?_; intro A4 c5 w5 hown5 hg halt; rw [← cellsOf_append] at hown5; have hb5 : Below (w.heap.size + 1) (w.alloc (.cells #[.int .i64 base, .slice (some ⟨bb, off, none⟩) l.length cap] 24)) w5 := below_own (below_alloc _ (by simp) hb3) hg (hown3.alloc _) (Nat.le_refl _) (by simp; omega); clear hg halt hown3)
      go_roundw
      case rel => exact ⟨k + 1, _, n + 1, A4, c5, by omega, by go_num, rfl, HST.out, by simp [HLEN.out], by omega, hown5, hb5⟩
      case measure => simp [intOf]; omega
    · obtain rfl : k = l.length := by omega
      have ho : lays l = out := HL.out.symm.trans HLR.out
      have HO2 := Lib.hid ho
      clear ho
      go_wp2
      go_ret
      unfold RLayPost
      rw [HO2.out, HLEN.out]
      exact ⟨A', c', rfl, own_mono hown (by omega), (by repeat (first | assumption | exact Below.refl _ _ | refine Below.drew ?_ | (refine below_alloc _ ?_ ?_; focus (first | omega | (simp; done) | (simp; omega) | (simp at *; omega))) | (refine below_set _ ?_ ?_; focus (first | omega | (simp; done) | (simp; omega) | (simp at *; omega))) | refine below_drewN ?_ _ | (refine below_call (by assumption) ?_ ?_; focus (first | omega | (simp; done) | (simp; omega) | (simp at *; omega))) | (refine below_call' (by assumption) ?_ ?_; focus (first | omega | (simp; done) | (simp; omega) | (simp at *; omega)))))⟩
end Go.Proofs.Ytoegpaolbkcleaa
