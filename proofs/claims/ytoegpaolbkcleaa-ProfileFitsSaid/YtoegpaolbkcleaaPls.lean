/-
  The square at a height: the program's walk over the borders.
-/
import Derived.Test.YtoegpaolbkcleaaVirtR
namespace Go.Proofs.Ytoegpaolbkcleaa
open Go.ChangeShapes Go.WideShapes Go.ChangeAt Go.RowKit
set_option linter.unusedVariables false
set_option linter.unusedSimpArgs false
attribute [local go_sem] Oper.semAt_some

def plGo (h : Int) : Int → List Slb → Int
  | _, [] => 0
  | a, x :: r => if withinB h a (a + x.th - 1) then x.sq else plGo h (a + x.th) r
def plas (base : Int) (l : List Slb) (h : Int) : Int := plGo h base l
theorem bords_at : ∀ (l : List Slb) (i : Nat) (h : Int) (k : Nat) (p : Int × Int), (bords i h l)[k]? = some p → p.2 = h + sumTh (l.take k)
  | [], _, _, _, _, hp => by simp [bords] at hp
  | x :: r, i, h, 0, p, hp => by simp [bords] at hp; subst hp; simp [sumTh]
  | x :: r, i, h, k + 1, p, hp => by
    simp [bords] at hp
    rw [bords_at r (i + 1) (h + x.th) k p hp]
    simp only [List.take_succ_cons, sumTh]
    omega
def PlasI (base : Int) (A : Option Addr) (l : List Slb) (cap : Nat) (h : Int) (w : World) (pre : List (Int × Int)) (W : World) : Prop :=
  plGo h base l = plGo h (base + sumTh (l.take pre.length)) (l.drop pre.length) ∧ SlabsAt W A l ∧ Below w.heap.size w W ∧
  W.cell? ⟨w.heap.size, 0, none⟩ = some (.int .i64 base) ∧ W.cell? ⟨w.heap.size, 1, none⟩ = some (.slice A l.length cap) ∧ W.cell? ⟨w.heap.size + 1, 0, none⟩ = some (.int .i64 h) ∧
  W.cell? ⟨w.heap.size + 1 + 1, 0, none⟩ = some (.int .i64 0) ∧ W.frozen? ⟨w.heap.size + 1 + 1, 0, none⟩ = false
def PlasX (base : Int) (l : List Slb) (h : Int) (w : World) (c : Code) (pre : List (Int × Int)) (W : World) : Prop :=
  c = .ret ∧ Below w.heap.size w W ∧ W.cell? ⟨w.heap.size + 1 + 1, 0, none⟩ = some (.int .i64 (plGo h base l))

set_option maxRecDepth 100000 in
set_option maxHeartbeats 2000000 in
theorem plasma_any (base : Int) (A : Option Addr) (l : List Slb) (cap : Nat) (h : Int) (w : World) (ho : Ok base l) (hA : SlabsAt w A l) :
    Calls Try.prog 89 #[.agg #[.int .i64 base, .slice A l.length cap], .int .i64 h] w fun e w' => e = .returned (.int .i64 (plas base l h)) ∧ Below w.heap.size w w' := by
  refine (callsIn_wide (n := 9)).1 ?_
  refine callsIn_of_wp_marks Try.func89 rfl trivial ?_ rfl
  simp only [Try.ntmps89, List.size_toArray, List.length_cons, List.length_nil, Nat.reduceAdd, Nat.reduceSub, Array.replicate_succ, Array.replicate_zero, List.push_toArray, List.append_toArray, List.nil_append, List.cons_append]
  gi_wp2
  have c0 : PlasI base A l cap h w [] (((w.alloc (.cells #[.int .i64 base, .slice A l.length cap] 113)).alloc (.cells #[.int .i64 h] 3)).alloc (.cells #[.int .i64 0] 3)) :=
    ⟨by simp [sumTh], hA.below (by repeat (first | assumption | exact Below.refl _ _ | refine Below.drew ?_ | (refine below_alloc _ ?_ ?_; focus (first | omega | (simp; done) | (simp; omega) | (simp at *; omega))) | (refine below_set _ ?_ ?_; focus (first | omega | (simp; done) | (simp; omega) | (simp at *; omega))) | refine below_drewN ?_ _ | (refine below_call (by assumption) ?_ ?_; focus (first | omega | (simp; done) | (simp; omega) | (simp at *; omega))) | (refine below_call' (by assumption) ?_ ?_; focus (first | omega | (simp; done) | (simp; omega) | (simp at *; omega))))), (by repeat (first | assumption | exact Below.refl _ _ | refine Below.drew ?_ | (refine below_alloc _ ?_ ?_; focus (first | omega | (simp; done) | (simp; omega) | (simp at *; omega))) | (refine below_set _ ?_ ?_; focus (first | omega | (simp; done) | (simp; omega) | (simp at *; omega))) | refine below_drewN ?_ _ | (refine below_call (by assumption) ?_ ?_; focus (first | omega | (simp; done) | (simp; omega) | (simp at *; omega))) | (refine below_call' (by assumption) ?_ ?_; focus (first | omega | (simp; done) | (simp; omega) | (simp at *; omega))))), (by repeat (first | assumption | (refine cell_new ?_ rfl; focus (simp; done)) | refine cell_drew ?_ | refine cell_alloc _ ?_ | refine cell_drewN _ ?_ | (refine cell_far ?_ ?_; focus (first | omega | (simp; omega) | (simp; done))) | refine cell_below' (by assumption) ?_)), (by repeat (first | assumption | (refine cell_new ?_ rfl; focus (simp; done)) | refine cell_drew ?_ | refine cell_alloc _ ?_ | refine cell_drewN _ ?_ | (refine cell_far ?_ ?_; focus (first | omega | (simp; omega) | (simp; done))) | refine cell_below' (by assumption) ?_)), (by repeat (first | assumption | (refine cell_new ?_ rfl; focus (simp; done)) | refine cell_drew ?_ | refine cell_alloc _ ?_ | refine cell_drewN _ ?_ | (refine cell_far ?_ ?_; focus (first | omega | (simp; omega) | (simp; done))) | refine cell_below' (by assumption) ?_)), (by repeat (first | assumption | (refine cell_new ?_ rfl; focus (simp; done)) | refine cell_drew ?_ | refine cell_alloc _ ?_ | refine cell_drewN _ ?_ | (refine cell_far ?_ ?_; focus (first | omega | (simp; omega) | (simp; done))) | refine cell_below' (by assumption) ?_)), (by repeat (first | assumption | (refine frozen_new ?_; focus (simp; done)) | refine frozen_drew ?_ | (refine frozen_alloc _ ?_ ?_; focus (first | (simp; done) | (simp; omega))) | refine frozen_drewN _ ?_ | refine frozen_set _ _ ?_ | (refine frozen_below (by assumption) ?_ ?_; focus (first | (simp; done) | (simp; omega)))))⟩
  obtain ⟨W0, hW0⟩ : ∃ W0, ((w.alloc (.cells #[.int .i64 base, .slice A l.length cap] 113)).alloc (.cells #[.int .i64 h] 3)).alloc (.cells #[.int .i64 0] 3) = W0 := ⟨_, rfl⟩
  have hs0 : W0.heap.size = w.heap.size + 3 := by rw [← hW0]; simp
  rw [hW0] at c0 ⊢
  have HW := Lib.hid hW0
  clear hW0
  refine range_law (gf := 96) (first := #[.agg #[.int .i64 base, .slice A l.length cap]]) (lb := #[]) rfl (enters_of Try.func96 (by kernel_rfl) rfl)
    (borders_it 8 base A l cap W0 ho c0.2.1) (fun B X X' hB h => h.mono hB) (Below.refl _ _) (fun _ => rfl) cellsKept_t (fun X X' h p v hp => h.cell hp)
    (PlasI base A l cap h w) (PlasX base l h w) ?ic ?xc ?is ?xs c0
    (fun x => { tmps := #[.agg #[.int .i64 base, .slice A l.length cap], .int .i64 h, .pointer (some ⟨w.heap.size, 0, none⟩), .pointer (some ⟨w.heap.size + 1, 0, none⟩), .pointer (some ⟨w.heap.size + 1 + 1, 0, none⟩), .int .i64 x.1, .int .i64 x.2, .agg #[.int .i64 base, .slice A l.length cap], .func (.func 96) #[.agg #[.int .i64 base, .slice A l.length cap]] #[], .int .i64 x.1, .int .i64 x.2, undef, undef, undef, undef, undef, undef, undef, undef, undef, undef, undef, undef, undef, undef, undef, undef, undef, undef, undef, undef], defers := [] }) ?assign ?body ?done ?stop
  case ic =>
    rintro s X X' ⟨h1, h2, h3, h4, h5, h6, h7, h8⟩ h
    exact ⟨h1, h2.keep h.size (fun p v hp => h.cell hp), CK.below h3 ⟨h.os, h.tape, h.output, h.size, fun k o hk hx => h.same k o hk (hx.imp (fun hk => by omega) id)⟩ (Nat.le_refl _), h.cell h4, h.cell h5, h.cell h6, h.cell h7, (h.frozen h7).trans h8⟩
  case xc =>
    rintro c s X X' ⟨h1, h2, h4⟩ h
    exact ⟨h1, CK.below h2 ⟨h.os, h.tape, h.output, h.size, fun k o hk hx => h.same k o hk (hx.imp (fun hk => by omega) id)⟩ (Nat.le_refl _), h.cell h4⟩
  case is =>
    rintro B s X X' hB ⟨h1, h2, h3, h4, h5, h6, h7, h8⟩ _ h
    exact ⟨h1, h2.below h, ext_below h3 h (Nat.le_refl _), cell_below' h h4, cell_below' h h5, cell_below' h h6, cell_below' h h7, frozen_below h (World.block_lt_of_cell? _ _ h7) h8⟩
  case xs =>
    rintro B c s X X' hB ⟨h1, h2, h4⟩ _ h
    exact ⟨h1, ext_below h2 h (Nat.le_refl _), cell_below' h h4⟩
  case assign =>
    intro lp x W K hK
    gi_wp2
    exact hK
  case body =>
    rintro lp pre x W ⟨h1, h2, h3, h4, h5, h6, h7, h8⟩ hv
    obtain ⟨rest, hrest⟩ := hv
    have hx : (bords 0 base l)[pre.length]? = some x := by rw [← hrest]; simp
    obtain ⟨hx1, hlt⟩ := bords_get _ _ _ _ _ hx
    have hx2 := bords_at _ _ _ _ _ hx
    obtain ⟨x1, x2⟩ := x
    simp only [Nat.zero_add] at hx1
    simp only at hx2
    subst hx1
    rw [← hx2] at h1
    obtain ⟨b, off, rfl, hb, c1, c2⟩ := SlabsAt.at_ h2 hlt
    have ht := ho.th pre.length
    have hs := ho.sl l[pre.length] (List.getElem_mem hlt)
    have hbb := And.intro ho.b0 ho.b1
    have hd : l.drop pre.length = l[pre.length] :: l.drop (pre.length + 1) := List.drop_eq_getElem_cons hlt
    have e1 : base + sumTh (l.take (pre.length + 1)) = x2 + l[pre.length].th := by rw [take_snoc l _ hlt, sumTh_append, hx2]; simp [sumTh, Int.add_assoc]
    rw [hd, plGo] at h1
    have hx20 : 0 ≤ x2 ∧ x2 ≤ 6500 := by omega
    have H1 := Lib.hid h1
    have E1 := Lib.hid e1
    clear h1 hx hrest hd e1 hx2 ht
    generalize l[pre.length] = q at *
    obtain ⟨hx21, hx22⟩ := hx20
    obtain ⟨s1, s2, s3, s4⟩ := hs
    cases hwb : withinB h x2 (x2 + q.th - 1)
    · have hq : ∀ W, Calls Try.prog 75 #[.int .i64 h, .int .i64 x2, .int .i64 (x2 + q.th - 1)] W fun e w' => e = .returned (.bool false) ∧ w' = W := fun W => (hwb ▸ within_any _ _ _ W : Calls Try.prog 75 #[.int .i64 h, .int .i64 x2, .int .i64 (x2 + q.th - 1)] W fun e w' => e = .returned (.bool false) ∧ W = w').mono fun _ _ ⟨he, hw⟩ => ⟨he, hw.symm⟩
      have HQ := Lib.hid hq
      rw [hwb] at H1
      clear hq hwb
      gi_wp2_with (fail)
      (refine round_quiet (by kernel_rfl) (by kernel_rfl) rfl ?_; (repeat (any_goals (first | go_big_quiet_step ((go_at_call 75; exact Calls.quiet_of_same (HQ.out _))) | quiet_step ((go_at_call 75; exact Calls.quiet_of_same (HQ.out _)))))); refine wpQuiet_nil ?_; intro _ hw'; obtain ⟨nq, hw''⟩ := hw'; subst hw'')
      gi_wp2
      refine ⟨keepsOthers_drewN _ _, fun p v hp => hp, ?_, h2, (by repeat (first | assumption | exact Below.refl _ _ | refine Below.drew ?_ | (refine below_alloc _ ?_ ?_; focus (first | omega | (simp; done) | (simp; omega) | (simp at *; omega))) | (refine below_set _ ?_ ?_; focus (first | omega | (simp; done) | (simp; omega) | (simp at *; omega))) | refine below_drewN ?_ _ | (refine below_call (by assumption) ?_ ?_; focus (first | omega | (simp; done) | (simp; omega) | (simp at *; omega))) | (refine below_call' (by assumption) ?_ ?_; focus (first | omega | (simp; done) | (simp; omega) | (simp at *; omega))))), h4, h5, h6, h7, h8⟩
      rw [H1.out, List.length_append]
      simp only [List.length_cons, List.length_nil, Nat.zero_add]
      rw [E1.out]
      rfl
    · have hq : ∀ W, Calls Try.prog 75 #[.int .i64 h, .int .i64 x2, .int .i64 (x2 + q.th - 1)] W fun e w' => e = .returned (.bool true) ∧ w' = W := fun W => (hwb ▸ within_any _ _ _ W : Calls Try.prog 75 #[.int .i64 h, .int .i64 x2, .int .i64 (x2 + q.th - 1)] W fun e w' => e = .returned (.bool true) ∧ W = w').mono fun _ _ ⟨he, hw⟩ => ⟨he, hw.symm⟩
      have HQ := Lib.hid hq
      rw [hwb] at H1
      clear hq hwb
      gi_wp2_with (fail)
      (refine round_quiet (by kernel_rfl) (by kernel_rfl) rfl ?_; (repeat (any_goals (first | go_big_quiet_step ((go_at_call 75; exact Calls.quiet_of_same (HQ.out _))) | quiet_step ((go_at_call 75; exact Calls.quiet_of_same (HQ.out _)))))); refine wpQuiet_nil ?_; intro _ hw'; obtain ⟨nq, hw''⟩ := hw'; subst hw'')
      gi_wp2
      exact ⟨(keepsOthers_drewN _ _).trans (KeepsOthers.setCell _ _ _), rfl, (by repeat (first | assumption | exact Below.refl _ _ | refine Below.drew ?_ | (refine below_alloc _ ?_ ?_; focus (first | omega | (simp; done) | (simp; omega) | (simp at *; omega))) | (refine below_set _ ?_ ?_; focus (first | omega | (simp; done) | (simp; omega) | (simp at *; omega))) | refine below_drewN ?_ _ | (refine below_call (by assumption) ?_ ?_; focus (first | omega | (simp; done) | (simp; omega) | (simp at *; omega))) | (refine below_call' (by assumption) ?_ ?_; focus (first | omega | (simp; done) | (simp; omega) | (simp at *; omega))))), by rw [H1.out]; exact cell_same (cell_drewN _ h7)⟩
  case done =>
    rintro D xs W hD rfl ⟨h1, h2, h3, h4, h5, h6, h7, h8⟩ hK
    rw [bords_length, List.drop_length] at h1
    have HR := Lib.hid h1
    clear h1
    gi_wp2
    have hK1 := (KeepsOthers.setCell W ⟨w.heap.size + 1 + 1, 0, none⟩ (.int .i64 0)).same D _ hK rfl
    refine ⟨by simp, .inl ⟨_, _, rfl, run_takeDeferred hK1, ?_⟩⟩
    have hck : CK W0.heap.size _ (World.putObj _ D (.deferred none)) := CK.put (.deferred none) hD hK1 rfl
    have r1 := hck.cell (p := ⟨w.heap.size + 1 + 1, 0, none⟩) (v := .int .i64 0) (cell_same h7)
    refine ⟨.int .i64 0, by simp [results, Try.f89, go_sem, r1], ret_eq (by rw [plas, HR.out]; rfl), ?_⟩
    exact CK.below (B := w.heap.size) (by repeat (first | assumption | exact Below.refl _ _ | refine Below.drew ?_ | (refine below_alloc _ ?_ ?_; focus (first | omega | (simp; done) | (simp; omega) | (simp at *; omega))) | (refine below_set _ ?_ ?_; focus (first | omega | (simp; done) | (simp; omega) | (simp at *; omega))) | refine below_drewN ?_ _ | (refine below_call (by assumption) ?_ ?_; focus (first | omega | (simp; done) | (simp; omega) | (simp at *; omega))) | (refine below_call' (by assumption) ?_ ?_; focus (first | omega | (simp; done) | (simp; omega) | (simp at *; omega))))) ⟨hck.os, hck.tape, hck.output, hck.size, fun k o hk hx => hck.same k o hk (hx.imp (fun hk => by omega) id)⟩ (Nat.le_refl _)
  case stop =>
    rintro D c pre W hD hv ⟨rfl, h2, h4⟩ hK
    gi_wp2
    refine ⟨by simp, .inl ⟨_, _, rfl, run_takeDeferred hK, ?_⟩⟩
    have hck : CK W0.heap.size W (World.putObj W D (.deferred none)) := CK.put (.deferred none) hD hK rfl
    have r1 := hck.cell h4
    refine ⟨.int .i64 (plGo h base l), by simp [results, Try.f89, go_sem, r1], rfl, ?_⟩
    exact CK.below (B := w.heap.size) h2 ⟨hck.os, hck.tape, hck.output, hck.size, fun k o hk hx => hck.same k o hk (hx.imp (fun hk => by omega) id)⟩ (Nat.le_refl _)
end Go.Proofs.Ytoegpaolbkcleaa
