/-
  A copy of integers; two traces that are the same.
-/
import Derived.Test.YtoegpaolbkcleaaTofR
namespace Go.Proofs.Ytoegpaolbkcleaa
open Go.ChangeShapes Go.WideShapes Go.ChangeAt Go.RowKit
set_option linter.unusedVariables false
set_option linter.unusedSimpArgs false

def intC (x : Int) (_ : Nat) : Value := .int .i64 x
theorem intC_one (x : Int) (i : Nat) : (intC x i).oneCell' = true := rfl
def CopyIntsPost (l : List Int) (w : World) (e : Ending) (w' : World) : Prop :=
  ∃ A' c', e = .returned (.slice A' l.length c') ∧ w'.ownsRow w.heap.size 3 1 (.slice A' l.length c') l.length (cellsOf 1 intC l) ∧ Below w.heap.size w w'
set_option maxHeartbeats 1000000 in
theorem CopyInts_any (B : Option Addr) (l : List Int) (cap : Nat) (w : World) (hl : l.length ≤ 100) (hB : IntsAt w B l) :
    Calls Try.prog 39 #[.slice B l.length cap] w (CopyIntsPost l w) := by
  have hB' : RowsAt 1 intC w B l := hB
  go_enter Try.func39, Try.ntmps39
  go_wp2_with (at_builtin; refine wpList_appInt _ rfl (.tmp 3) (.tmp 4) rfl w.heap.size (some ⟨w.heap.size, 0, none⟩) 0 0 [] rfl (own_empty (Nat.le_refl _) (heap_alloc_new _ _)) B l.length cap (cellsOf 1 intC l) rfl (cellsOf_length l) (fun e => by subst e; exact RowsAt.nil_len hB) (fun ad e => by subst e; exact RowsAt.news (RowsAt.below hB' (by repeat (first | assumption | exact Below.refl _ _ | refine Below.drew ?_ | (refine below_alloc _ ?_ ?_; focus (first | omega | (simp; done) | (simp; omega) | (simp at *; omega))) | (refine below_set _ ?_ ?_; focus (first | omega | (simp; done) | (simp; omega) | (simp at *; omega))) | refine below_drewN ?_ _ | (refine below_call (by assumption) ?_ ?_; focus (first | omega | (simp; done) | (simp; omega) | (simp at *; omega))) | (refine below_call' (by assumption) ?_ ?_; focus (first | omega | (simp; done) | (simp; omega) | (simp at *; omega)))))) (by decide)) (cellsOf_one intC_one (by decide) l) (by omega) (by simp) ?_; intro A' c' w1 hown hg _; rw [Nat.zero_add, List.nil_append] at hown; (try rw [Nat.zero_add]); have hb1 : Below w.heap.size w w1 := grown_below hg (by omega) (by omega) (by repeat (first | assumption | exact Below.refl _ _ | refine Below.drew ?_ | (refine below_alloc _ ?_ ?_; focus (first | omega | (simp; done) | (simp; omega) | (simp at *; omega))) | (refine below_set _ ?_ ?_; focus (first | omega | (simp; done) | (simp; omega) | (simp at *; omega))) | refine below_drewN ?_ _ | (refine below_call (by assumption) ?_ ?_; focus (first | omega | (simp; done) | (simp; omega) | (simp at *; omega))) | (refine below_call' (by assumption) ?_ ?_; focus (first | omega | (simp; done) | (simp; omega) | (simp at *; omega))))); clear hg)
  go_ret
  exact ⟨A', c', rfl, hown, hb1⟩

theorem trGo_len (base : Int) (sl : List Slb) : ∀ (fl : List Int) (i : Nat) (last : Int) (out : List Pt), (trGo base sl fl i last out).1.length ≤ out.length + fl.length
  | [], _, _, out => by simp [trGo]
  | f :: r, i, last, out => by
    unfold trGo
    split
    · simp
    · have := trGo_len base sl r (i + 1) f (out ++ [trP base sl f])
      simp only [List.length_append, List.length_cons, List.length_nil] at this ⊢
      omega
theorem tof_len (base : Int) (sl : List Slb) (fl : List Int) (h : fl.length ≤ 100) : (tof base sl fl).1.length ≤ 100 := by
  unfold tof
  split
  · simp
  · have := trGo_len base sl fl 0 0 []
    simp at this
    omega
set_option maxHeartbeats 1000000 in
theorem SameTrace_refl (A B : Option Addr) (l : List Pt) (ca cb : Nat) (x y : Int) (w : World) (hl : l.length ≤ 100) (hA : PtsAt w A l) (hB : PtsAt w B l) :
    Calls Try.prog 40 #[.agg #[.slice A l.length ca, .int .i64 x, .int .i64 y], .agg #[.slice B l.length cb, .int .i64 x, .int .i64 y]] w fun e w' => e = .returned (.bool true) ∧ Below w.heap.size w w' := by
  go_enter Try.func40, Try.ntmps40
  go_wp2
  go_loopw [5] (fun i wr => ∃ k : Nat, k ≤ l.length ∧ i = .int .i64 k ∧ Below (w.heap.size + 2) ((w.alloc (.cells #[.slice A l.length ca, .int .i64 x, .int .i64 y] 53)).alloc (.cells #[.slice B l.length cb, .int .i64 x, .int .i64 y] 53)) wr) (fun i _ => l.length - (intOf i).toNat)
  case atStart => exact ⟨0, Nat.zero_le _, rfl, Below.refl _ _⟩
  case round =>
    obtain ⟨k, hk, rfl, hbw⟩ := hrel
    have hbr : Below w.heap.size w wr := (by repeat (first | assumption | exact Below.refl _ _ | refine Below.drew ?_ | (refine below_alloc _ ?_ ?_; focus (first | omega | (simp; done) | (simp; omega) | (simp at *; omega))) | (refine below_set _ ?_ ?_; focus (first | omega | (simp; done) | (simp; omega) | (simp at *; omega))) | refine below_drewN ?_ _ | (refine below_call (by assumption) ?_ ?_; focus (first | omega | (simp; done) | (simp; omega) | (simp at *; omega))) | (refine below_call' (by assumption) ?_ ?_; focus (first | omega | (simp; done) | (simp; omega) | (simp at *; omega)))))
    have hzr := hbw.size
    simp at hzr
    have hz1 : w.heap.size < wr.heap.size := by omega
    have hz2 : w.heap.size + 1 < wr.heap.size := by omega
    have a0 : wr.cell? ⟨w.heap.size, 0, none⟩ = some (.slice A l.length ca) := cell_below hbw (by repeat (first | assumption | (refine cell_new ?_ rfl; focus (simp; done)) | refine cell_drew ?_ | refine cell_alloc _ ?_ | refine cell_drewN _ ?_ | (refine cell_far ?_ ?_; focus (first | omega | (simp; omega) | (simp; done))) | refine cell_below' (by assumption) ?_)) (by simp)
    have b0 : wr.cell? ⟨w.heap.size + 1, 0, none⟩ = some (.slice B l.length cb) := cell_below hbw (by repeat (first | assumption | (refine cell_new ?_ rfl; focus (simp; done)) | refine cell_drew ?_ | refine cell_alloc _ ?_ | refine cell_drewN _ ?_ | (refine cell_far ?_ ?_; focus (first | omega | (simp; omega) | (simp; done))) | refine cell_below' (by assumption) ?_)) (by simp)
    have hAr := hA.below hbr
    have hBr := hB.below hbr
    by_cases hlt : k < l.length
    · obtain ⟨b1, o1, rfl, hb1, c0, c1, c2⟩ := PtsAt.at_ hAr hlt
      obtain ⟨b2, o2, rfl, hb2, d0, d1, d2⟩ := PtsAt.at_ hBr hlt
      generalize l[k] = p at *
      go_wp2
      go_quiet (fail)
      go_wp2
      go_roundw
      case rel => exact ⟨k + 1, by omega, by go_num, (by repeat (first | assumption | exact Below.refl _ _ | refine Below.drew ?_ | (refine below_alloc _ ?_ ?_; focus (first | omega | (simp; done) | (simp; omega) | (simp at *; omega))) | (refine below_set _ ?_ ?_; focus (first | omega | (simp; done) | (simp; omega) | (simp at *; omega))) | refine below_drewN ?_ _ | (refine below_call (by assumption) ?_ ?_; focus (first | omega | (simp; done) | (simp; omega) | (simp at *; omega))) | (refine below_call' (by assumption) ?_ ?_; focus (first | omega | (simp; done) | (simp; omega) | (simp at *; omega)))))⟩
      case measure => simp [intOf]; omega
    · go_wp2
      go_ret
      exact ⟨rfl, (by repeat (first | assumption | exact Below.refl _ _ | refine Below.drew ?_ | (refine below_alloc _ ?_ ?_; focus (first | omega | (simp; done) | (simp; omega) | (simp at *; omega))) | (refine below_set _ ?_ ?_; focus (first | omega | (simp; done) | (simp; omega) | (simp at *; omega))) | refine below_drewN ?_ _ | (refine below_call (by assumption) ?_ ?_; focus (first | omega | (simp; done) | (simp; omega) | (simp at *; omega))) | (refine below_call' (by assumption) ?_ ?_; focus (first | omega | (simp; done) | (simp; omega) | (simp at *; omega)))))⟩
end Go.Proofs.Ytoegpaolbkcleaa
