/-
  Chapter 8: StateOf: the last state over a list of values.
-/
import Derived.Test.YtcfbnmcdncndpaaWChg
import Derived.Test.YtcfbnmcdncndpaaWVal
namespace Go.Proofs.Ytcfbnmcdncndpaa
open Go.ChangeShapes Go.WideShapes Go.ChangeAt Go.RowKit
set_option linter.unusedVariables false
set_option linter.unusedSimpArgs false
attribute [local go_sem] Oper.semAt_some

theorem valE_ok {s : ByteArray} {u d : List Int} {hold : Int} {vs : List Int} (h : valE s u d hold vs = 0) : chkRE s u d hold = 0 ∧ vs.length ≤ 500 ∧ ∀ x ∈ vs, isV x = true := by
  unfold valE at h
  rw [firstE3, unl_zero (by decide), unl_zero (by decide), decide_eq_true_eq, Bool.not_eq_true', oddV_false] at h
  exact h
theorem changes_any (nm : ByteArray) (A : Option Addr) (la ca : Nat) (B : Option Addr) (lb cb : Nat) (hold : Int) (V : Option Addr) (lv cv : Nat) (p : Addr) (w : World) :
    Calls Try.prog 98 #[.agg #[.string nm, .slice A la ca, .slice B lb cb, .int .i64 hold], .slice V lv cv, .pointer (some p)] w fun e w' =>
      e = .returned (.func (.func 125) #[] #[.pointer (some ⟨w.heap.size + 1, 0, none⟩), .pointer (some ⟨w.heap.size + 1 + 1, 0, none⟩), .pointer (some ⟨w.heap.size, 0, none⟩)]) ∧
      w' = ((w.alloc (.cells #[.string nm, .slice A la ca, .slice B lb cb, .int .i64 hold] 143)).alloc (.cells #[.slice V lv cv] 22)).alloc (.cells #[.pointer (some p)] 161) := by
  go_enter Try.func98, Try.ntmps98
  go_wp2
  go_ret
  exact ⟨rfl, rfl⟩
/-- StateOf carries: the box of its result -/
def StaI (w : World) (rb : Nat) (_ : List (Nat × Sta × Sta)) (W : World) : Prop := Below w.heap.size w W ∧ StaAt rb ⟨0, 0, 0⟩ W
theorem CK.belowW {B : Nat} {w A A' : World} (hb : Below w.heap.size w A) (h : CK B A A') (hB : w.heap.size ≤ B) : Below w.heap.size w A' :=
  CK.below hb ⟨h.os, h.tape, h.output, h.size, fun k o hk hx => h.same k o hk (hx.imp (fun hk => by omega) id)⟩ (Nat.le_refl _)
def okSta (nm : ByteArray) (u d : List Int) (hold : Int) (vs : List Int) : Sta := if valE nm u d hold vs = 0 then runS u d hold ⟨0, 0, 0⟩ vs else ⟨0, 0, 0⟩
set_option maxRecDepth 100000 in
set_option maxHeartbeats 4000000 in
theorem StateOf_any (nm : ByteArray) (A : Option Addr) (u : List Int) (ca : Nat) (B : Option Addr) (d : List Int) (cb : Nat) (hold : Int) (V : Option Addr) (vs : List Int) (cv : Nat) (w : World) (hs : nm.size ≤ 1000) (hu : u.length ≤ 100) (hd : d.length ≤ 100) (hcb : d.length ≤ cb) (hv : vs.length ≤ 1000000)
    (hA : IntsAt w A u) (hB : IntsAt w B d) (hV : IntsAt w V vs) :
    Calls Try.prog 35 #[.agg #[.string nm, .slice A u.length ca, .slice B d.length cb, .int .i64 hold], .slice V vs.length cv] w fun e w' => e = .returned (.tuple #[staC (okSta nm u d hold vs), .int .i64 (valE nm u d hold vs)]) ∧ Below w.heap.size w w' := by
  have hz0 : (w.alloc (.cells #[.string nm, .slice A u.length ca, .slice B d.length cb, .int .i64 hold] 143)).heap.size = w.heap.size + 1 := by simp
  by_cases h0 : valE nm u d hold vs = 0
  · refine (callsIn_wide (n := 9)).1 ?_
    have hq : okSta nm u d hold vs = runS u d hold ⟨0, 0, 0⟩ vs := if_pos h0
    obtain ⟨hc0, hv5, -⟩ := valE_ok h0
    have hok := okR_of hc0
    rw [h0]
    have HQ := Lib.hid hq
    have H0 := Lib.hid h0
    clear h0 hq hc0
    refine callsIn_of_wp_marks Try.func35 rfl trivial ?_ rfl
    simp only [Try.ntmps35, List.size_toArray, List.length_cons, List.length_nil, Nat.reduceAdd, Nat.reduceSub, Array.replicate_succ, Array.replicate_zero, List.push_toArray, List.append_toArray, List.nil_append, List.cons_append]
    gi_wp2_with (fail)
    refine ⟨trivial, (callsIn_wide.2 (openValues_any nm A u ca B d cb hold V vs cv _ hs hu hd hv (hA.below (by repeat (first | assumption | exact Below.refl _ _ | refine Below.drew ?_ | (refine below_alloc _ ?_ ?_; focus (first | omega | (simp; done) | (simp; omega) | (simp at *; omega))) | (refine below_set _ ?_ ?_; focus (first | omega | (simp; done) | (simp; omega) | (simp at *; omega))) | refine below_drewN ?_ _ | (refine below_call (by assumption) ?_ ?_; focus (first | omega | (simp; done) | (simp; omega) | (simp at *; omega))) | (refine below_call' (by assumption) ?_ ?_; focus (first | omega | (simp; done) | (simp; omega) | (simp at *; omega)))))) (hB.below (by repeat (first | assumption | exact Below.refl _ _ | refine Below.drew ?_ | (refine below_alloc _ ?_ ?_; focus (first | omega | (simp; done) | (simp; omega) | (simp at *; omega))) | (refine below_set _ ?_ ?_; focus (first | omega | (simp; done) | (simp; omega) | (simp at *; omega))) | refine below_drewN ?_ _ | (refine below_call (by assumption) ?_ ?_; focus (first | omega | (simp; done) | (simp; omega) | (simp at *; omega))) | (refine below_call' (by assumption) ?_ ?_; focus (first | omega | (simp; done) | (simp; omega) | (simp at *; omega)))))) (hV.below (by repeat (first | assumption | exact Below.refl _ _ | refine Below.drew ?_ | (refine below_alloc _ ?_ ?_; focus (first | omega | (simp; done) | (simp; omega) | (simp at *; omega))) | (refine below_set _ ?_ ?_; focus (first | omega | (simp; done) | (simp; omega) | (simp at *; omega))) | refine below_drewN ?_ _ | (refine below_call (by assumption) ?_ ?_; focus (first | omega | (simp; done) | (simp; omega) | (simp at *; omega))) | (refine below_call' (by assumption) ?_ ?_; focus (first | omega | (simp; done) | (simp; omega) | (simp at *; omega)))))))).mono ?_⟩
    rintro e w1 ⟨rfl, hb1⟩
    rw [H0.out]
    have hz := hb1.size
    simp at hz
    have z0 : w.heap.size < w1.heap.size := by omega
    have z1 : w.heap.size + 1 < w1.heap.size := by omega
    have hbw : Below w.heap.size w w1 := (by repeat (first | assumption | exact Below.refl _ _ | refine Below.drew ?_ | (refine below_alloc _ ?_ ?_; focus (first | omega | (simp; done) | (simp; omega) | (simp at *; omega))) | (refine below_set _ ?_ ?_; focus (first | omega | (simp; done) | (simp; omega) | (simp at *; omega))) | refine below_drewN ?_ _ | (refine below_call (by assumption) ?_ ?_; focus (first | omega | (simp; done) | (simp; omega) | (simp at *; omega))) | (refine below_call' (by assumption) ?_ ?_; focus (first | omega | (simp; done) | (simp; omega) | (simp at *; omega)))))
    have hrb : StaAt (w.heap.size + 1) ⟨0, 0, 0⟩ w1 := StaAt.below ⟨cell_new (by simp) rfl, cell_new (by simp) rfl, cell_new (by simp) rfl, frozen_new (by simp), frozen_new (by simp), frozen_new (by simp)⟩ hb1
    have HRB := Lib.hid hrb
    clear hb1 hz hrb hz0
    have hA1 := hA.below hbw
    have hB1 := hB.below hbw
    have hV1 := hV.below hbw
    gi_wp2_with (fail)
    refine ⟨trivial, (callsIn_wide.2 (changes_any nm A u.length ca B d.length cb hold V vs.length cv _ _)).mono ?_⟩
    rintro e w2 ⟨rfl, rfl⟩
    gi_wp2_with (fail)
    have hbW : Below w1.heap.size w1 (((((w1.alloc (Obj.cells #[Value.string nm, Value.slice A u.length ca, Value.slice B d.length cb, Value.int IntKind.i64 hold] 143)).alloc (Obj.cells #[Value.int IntKind.i64 0, Value.int IntKind.i64 0, Value.int IntKind.i64 0] 61)).alloc (Obj.cells #[Value.string nm, Value.slice A u.length ca, Value.slice B d.length cb, Value.int IntKind.i64 hold] 143)).alloc (Obj.cells #[Value.slice V vs.length cv] 22)).alloc (Obj.cells #[Value.pointer (some { block := w1.heap.size + 1, off := 0 })] 161)) := (by repeat (first | assumption | exact Below.refl _ _ | refine Below.drew ?_ | (refine below_alloc _ ?_ ?_; focus (first | omega | (simp; done) | (simp; omega) | (simp at *; omega))) | (refine below_set _ ?_ ?_; focus (first | omega | (simp; done) | (simp; omega) | (simp at *; omega))) | refine below_drewN ?_ _ | (refine below_call (by assumption) ?_ ?_; focus (first | omega | (simp; done) | (simp; omega) | (simp at *; omega))) | (refine below_call' (by assumption) ?_ ?_; focus (first | omega | (simp; done) | (simp; omega) | (simp at *; omega)))))
    have hsW : (((((w1.alloc (Obj.cells #[Value.string nm, Value.slice A u.length ca, Value.slice B d.length cb, Value.int IntKind.i64 hold] 143)).alloc (Obj.cells #[Value.int IntKind.i64 0, Value.int IntKind.i64 0, Value.int IntKind.i64 0] 61)).alloc (Obj.cells #[Value.string nm, Value.slice A u.length ca, Value.slice B d.length cb, Value.int IntKind.i64 hold] 143)).alloc (Obj.cells #[Value.slice V vs.length cv] 22)).alloc (Obj.cells #[Value.pointer (some { block := w1.heap.size + 1, off := 0 })] 161)).heap.size = w1.heap.size + 5 := by simp
    have hst : StaAt (w1.heap.size + 1) ⟨0, 0, 0⟩ (((((w1.alloc (Obj.cells #[Value.string nm, Value.slice A u.length ca, Value.slice B d.length cb, Value.int IntKind.i64 hold] 143)).alloc (Obj.cells #[Value.int IntKind.i64 0, Value.int IntKind.i64 0, Value.int IntKind.i64 0] 61)).alloc (Obj.cells #[Value.string nm, Value.slice A u.length ca, Value.slice B d.length cb, Value.int IntKind.i64 hold] 143)).alloc (Obj.cells #[Value.slice V vs.length cv] 22)).alloc (Obj.cells #[Value.pointer (some { block := w1.heap.size + 1, off := 0 })] 161)) := ⟨(by repeat (first | assumption | (refine cell_new ?_ rfl; focus (simp; done)) | refine cell_drew ?_ | refine cell_alloc _ ?_ | refine cell_drewN _ ?_ | (refine cell_far ?_ ?_; focus (first | omega | (simp; omega) | (simp; done))) | refine cell_below' (by assumption) ?_)), (by repeat (first | assumption | (refine cell_new ?_ rfl; focus (simp; done)) | refine cell_drew ?_ | refine cell_alloc _ ?_ | refine cell_drewN _ ?_ | (refine cell_far ?_ ?_; focus (first | omega | (simp; omega) | (simp; done))) | refine cell_below' (by assumption) ?_)), (by repeat (first | assumption | (refine cell_new ?_ rfl; focus (simp; done)) | refine cell_drew ?_ | refine cell_alloc _ ?_ | refine cell_drewN _ ?_ | (refine cell_far ?_ ?_; focus (first | omega | (simp; omega) | (simp; done))) | refine cell_below' (by assumption) ?_)), (by repeat (first | assumption | (refine frozen_new ?_; focus (simp; done)) | refine frozen_drew ?_ | (refine frozen_alloc _ ?_ ?_; focus (first | (simp; done) | (simp; omega))) | refine frozen_drewN _ ?_ | refine frozen_set _ _ ?_ | (refine frozen_below (by assumption) ?_ ?_; focus (first | (simp; done) | (simp; omega))))), (by repeat (first | assumption | (refine frozen_new ?_; focus (simp; done)) | refine frozen_drew ?_ | (refine frozen_alloc _ ?_ ?_; focus (first | (simp; done) | (simp; omega))) | refine frozen_drewN _ ?_ | refine frozen_set _ _ ?_ | (refine frozen_below (by assumption) ?_ ?_; focus (first | (simp; done) | (simp; omega))))), (by repeat (first | assumption | (refine frozen_new ?_; focus (simp; done)) | refine frozen_drew ?_ | (refine frozen_alloc _ ?_ ?_; focus (first | (simp; done) | (simp; omega))) | refine frozen_drewN _ ?_ | refine frozen_set _ _ ?_ | (refine frozen_below (by assumption) ?_ ?_; focus (first | (simp; done) | (simp; omega)))))⟩
    have k1 : (((((w1.alloc (Obj.cells #[Value.string nm, Value.slice A u.length ca, Value.slice B d.length cb, Value.int IntKind.i64 hold] 143)).alloc (Obj.cells #[Value.int IntKind.i64 0, Value.int IntKind.i64 0, Value.int IntKind.i64 0] 61)).alloc (Obj.cells #[Value.string nm, Value.slice A u.length ca, Value.slice B d.length cb, Value.int IntKind.i64 hold] 143)).alloc (Obj.cells #[Value.slice V vs.length cv] 22)).alloc (Obj.cells #[Value.pointer (some { block := w1.heap.size + 1, off := 0 })] 161)).cell? ⟨w1.heap.size + 1 + 1, 0, none⟩ = some (.string nm) := (by repeat (first | assumption | (refine cell_new ?_ rfl; focus (simp; done)) | refine cell_drew ?_ | refine cell_alloc _ ?_ | refine cell_drewN _ ?_ | (refine cell_far ?_ ?_; focus (first | omega | (simp; omega) | (simp; done))) | refine cell_below' (by assumption) ?_))
    have k2 : (((((w1.alloc (Obj.cells #[Value.string nm, Value.slice A u.length ca, Value.slice B d.length cb, Value.int IntKind.i64 hold] 143)).alloc (Obj.cells #[Value.int IntKind.i64 0, Value.int IntKind.i64 0, Value.int IntKind.i64 0] 61)).alloc (Obj.cells #[Value.string nm, Value.slice A u.length ca, Value.slice B d.length cb, Value.int IntKind.i64 hold] 143)).alloc (Obj.cells #[Value.slice V vs.length cv] 22)).alloc (Obj.cells #[Value.pointer (some { block := w1.heap.size + 1, off := 0 })] 161)).cell? ⟨w1.heap.size + 1 + 1, 1, none⟩ = some (.slice A u.length ca) := (by repeat (first | assumption | (refine cell_new ?_ rfl; focus (simp; done)) | refine cell_drew ?_ | refine cell_alloc _ ?_ | refine cell_drewN _ ?_ | (refine cell_far ?_ ?_; focus (first | omega | (simp; omega) | (simp; done))) | refine cell_below' (by assumption) ?_))
    have k3 : (((((w1.alloc (Obj.cells #[Value.string nm, Value.slice A u.length ca, Value.slice B d.length cb, Value.int IntKind.i64 hold] 143)).alloc (Obj.cells #[Value.int IntKind.i64 0, Value.int IntKind.i64 0, Value.int IntKind.i64 0] 61)).alloc (Obj.cells #[Value.string nm, Value.slice A u.length ca, Value.slice B d.length cb, Value.int IntKind.i64 hold] 143)).alloc (Obj.cells #[Value.slice V vs.length cv] 22)).alloc (Obj.cells #[Value.pointer (some { block := w1.heap.size + 1, off := 0 })] 161)).cell? ⟨w1.heap.size + 1 + 1, 2, none⟩ = some (.slice B d.length cb) := (by repeat (first | assumption | (refine cell_new ?_ rfl; focus (simp; done)) | refine cell_drew ?_ | refine cell_alloc _ ?_ | refine cell_drewN _ ?_ | (refine cell_far ?_ ?_; focus (first | omega | (simp; omega) | (simp; done))) | refine cell_below' (by assumption) ?_))
    have k4 : (((((w1.alloc (Obj.cells #[Value.string nm, Value.slice A u.length ca, Value.slice B d.length cb, Value.int IntKind.i64 hold] 143)).alloc (Obj.cells #[Value.int IntKind.i64 0, Value.int IntKind.i64 0, Value.int IntKind.i64 0] 61)).alloc (Obj.cells #[Value.string nm, Value.slice A u.length ca, Value.slice B d.length cb, Value.int IntKind.i64 hold] 143)).alloc (Obj.cells #[Value.slice V vs.length cv] 22)).alloc (Obj.cells #[Value.pointer (some { block := w1.heap.size + 1, off := 0 })] 161)).cell? ⟨w1.heap.size + 1 + 1, 3, none⟩ = some (.int .i64 hold) := (by repeat (first | assumption | (refine cell_new ?_ rfl; focus (simp; done)) | refine cell_drew ?_ | refine cell_alloc _ ?_ | refine cell_drewN _ ?_ | (refine cell_far ?_ ?_; focus (first | omega | (simp; omega) | (simp; done))) | refine cell_below' (by assumption) ?_))
    have k5 : (((((w1.alloc (Obj.cells #[Value.string nm, Value.slice A u.length ca, Value.slice B d.length cb, Value.int IntKind.i64 hold] 143)).alloc (Obj.cells #[Value.int IntKind.i64 0, Value.int IntKind.i64 0, Value.int IntKind.i64 0] 61)).alloc (Obj.cells #[Value.string nm, Value.slice A u.length ca, Value.slice B d.length cb, Value.int IntKind.i64 hold] 143)).alloc (Obj.cells #[Value.slice V vs.length cv] 22)).alloc (Obj.cells #[Value.pointer (some { block := w1.heap.size + 1, off := 0 })] 161)).cell? ⟨w1.heap.size + 1 + 1 + 1, 0, none⟩ = some (.slice V vs.length cv) := (by repeat (first | assumption | (refine cell_new ?_ rfl; focus (simp; done)) | refine cell_drew ?_ | refine cell_alloc _ ?_ | refine cell_drewN _ ?_ | (refine cell_far ?_ ?_; focus (first | omega | (simp; omega) | (simp; done))) | refine cell_below' (by assumption) ?_))
    have k6 : (((((w1.alloc (Obj.cells #[Value.string nm, Value.slice A u.length ca, Value.slice B d.length cb, Value.int IntKind.i64 hold] 143)).alloc (Obj.cells #[Value.int IntKind.i64 0, Value.int IntKind.i64 0, Value.int IntKind.i64 0] 61)).alloc (Obj.cells #[Value.string nm, Value.slice A u.length ca, Value.slice B d.length cb, Value.int IntKind.i64 hold] 143)).alloc (Obj.cells #[Value.slice V vs.length cv] 22)).alloc (Obj.cells #[Value.pointer (some { block := w1.heap.size + 1, off := 0 })] 161)).cell? ⟨w1.heap.size + 1 + 1 + 1 + 1, 0, none⟩ = some (.pointer (some ⟨w1.heap.size + 1, 0, none⟩)) := (by repeat (first | assumption | (refine cell_new ?_ rfl; focus (simp; done)) | refine cell_drew ?_ | refine cell_alloc _ ?_ | refine cell_drewN _ ?_ | (refine cell_far ?_ ?_; focus (first | omega | (simp; omega) | (simp; done))) | refine cell_below' (by assumption) ?_))
    generalize (((((w1.alloc (Obj.cells #[Value.string nm, Value.slice A u.length ca, Value.slice B d.length cb, Value.int IntKind.i64 hold] 143)).alloc (Obj.cells #[Value.int IntKind.i64 0, Value.int IntKind.i64 0, Value.int IntKind.i64 0] 61)).alloc (Obj.cells #[Value.string nm, Value.slice A u.length ca, Value.slice B d.length cb, Value.int IntKind.i64 hold] 143)).alloc (Obj.cells #[Value.slice V vs.length cv] 22)).alloc (Obj.cells #[Value.pointer (some { block := w1.heap.size + 1, off := 0 })] 161)) = W0 at *
    have hch : ChW nm A u ca B d cb hold V vs cv (w1.heap.size + 1 + 1 + 1) (w1.heap.size + 1 + 1 + 1 + 1) (w1.heap.size + 1 + 1) (w1.heap.size + 1) W0 := ⟨hA1.below hbW, hB1.below hbW, hV1.below hbW, k5, k6, k1, k2, k3, k4⟩
    have hck : ChK W0.heap.size w.heap.size (w1.heap.size + 1 + 1 + 1) (w1.heap.size + 1 + 1 + 1 + 1) (w1.heap.size + 1 + 1) (w1.heap.size + 1) W0.heap.size := ⟨by omega, by omega, by omega, ⟨by omega, by omega, by omega⟩, ⟨by omega, by omega, by omega⟩, ⟨by omega, by omega, by omega⟩, by omega, by omega⟩
    have hbW0 : Below w.heap.size w W0 := hbw.trans (hbW.mono (by omega))
    have hrb0 : StaAt (w.heap.size + 1) ⟨0, 0, 0⟩ W0 := HRB.out.below hbW
    have hit := changes_it 8 nm A u ca B d cb hold V vs cv _ _ _ _ _ w W0 hok hcb hv5 hA hB hV hbW0 hck hch hst
    have HIT := Lib.hid hit
    clear hit hst k1 k2 k3 k4 k5 k6 hch hbW HRB hA1 hB1 hV1 hA hB hV
    refine range_law2 (gf := 125) (first := #[]) (lb := #[.pointer (some ⟨w1.heap.size + 1 + 1 + 1, 0, none⟩), .pointer (some ⟨w1.heap.size + 1 + 1 + 1 + 1, 0, none⟩), .pointer (some ⟨w1.heap.size + 1 + 1, 0, none⟩)]) rfl (enters_of Try.func125 (by kernel_rfl) rfl)
      HIT.out ?hst (fun _ => rfl) kpO_t ?kc (StaI w (w.heap.size + 1)) (fun _ _ _ => False) ?ic ?xc ?is ?xs ?fc ⟨hbW0, hrb0⟩ (fun _ _ _ => True) (fun _ _ _ _ _ _ => trivial) ?assign ?body ?done ?stop
    case hst => exact fun B X X' k o h1 h2 h3 h h5 => (h.block k (by omega) (by omega)).trans h5
    case kc => exact fun X X' h => KpO.ck h
    case ic =>
      rintro s X X' ⟨h1, h2⟩ h
      exact ⟨CK.belowW h1 h (by omega), h2.ck h⟩
    case xc => exact fun _ _ _ _ h _ => h
    case is =>
      rintro B s X X' hB ⟨h1, h2⟩ _ h
      exact ⟨StL.below h1 h (Nat.le_refl _) (by omega), h2.stL h (by omega)⟩
    case xs => exact fun _ _ _ _ _ _ h _ _ => h
    case fc => exact fun _ X X' h k => h.ck k
    case assign =>
      intro lp x W K hW hK
      gi_wp2
      exact hK _ _ (KeepsOthers.refl _) (CK.refl _ _) trivial
    case body =>
      rintro lp pre x act W hI hv _
      gi_wp2
      exact ⟨KeepsOthers.refl _, fun _ _ _ _ h => h, hI⟩
    case done =>
      rintro D xs W hD rfl ⟨h1, h2⟩ hF hK
      have hl : w1.heap.size + 1 ≠ w.heap.size + 1 := by omega
      generalize runS u d hold ⟨0, 0, 0⟩ vs = T at *
      obtain ⟨f0, f1, f2, -, -, -⟩ := hF
      have h2' := h2.put (t := T)
      obtain ⟨r0, r1, r2, g0, g1, g2⟩ := h2
      gi_wp2
      obtain ⟨s0, s1, s2, -, -, -⟩ := h2'
      have hbf : Below w.heap.size w (((W.setCell ⟨w.heap.size + 1, 0, none⟩ (.int .i64 T.l)).setCell ⟨w.heap.size + 1, 1, none⟩ (.int .i64 T.b)).setCell ⟨w.heap.size + 1, 2, none⟩ (.int .i64 T.v)) := below_set _ (by simp) (below_set _ (by simp) (below_set _ (by simp) h1))
      have hK1 := ((KeepsOthers.setCell W ⟨w.heap.size + 1, 0, none⟩ (.int .i64 T.l)).trans ((KeepsOthers.setCell _ ⟨w.heap.size + 1, 1, none⟩ (.int .i64 T.b)).trans (KeepsOthers.setCell _ ⟨w.heap.size + 1, 2, none⟩ (.int .i64 T.v)))).same D _ hK rfl
      generalize (((W.setCell ⟨w.heap.size + 1, 0, none⟩ (.int .i64 T.l)).setCell ⟨w.heap.size + 1, 1, none⟩ (.int .i64 T.b)).setCell ⟨w.heap.size + 1, 2, none⟩ (.int .i64 T.v)) = W9 at *
      refine ⟨by simp, .inl ⟨_, _, rfl, run_takeDeferred hK1, ?_⟩⟩
      have hck9 : CK W0.heap.size W9 (World.putObj W9 D (.deferred none)) := CK.put (.deferred none) hD hK1 rfl
      have q0 := hck9.cell s0
      have q1 := hck9.cell s1
      have q2 := hck9.cell s2
      refine ⟨.tuple #[.agg #[.int .i64 T.l, .int .i64 T.b, .int .i64 T.v], .int .i64 0], by simp [results, Try.f35, go_sem, q0, q1, q2], ret_eq (by rw [HQ.out]; rfl), ?_⟩
      exact CK.belowW hbf hck9 (by omega)
    case stop => exact fun D c pre W hD hv h hK => h.elim
  · have hq : okSta nm u d hold vs = ⟨0, 0, 0⟩ := if_neg h0
    have hne : (valE nm u d hold vs == 0) = false := by simpa using h0
    have hne2 : (valE nm u d hold vs != 0) = true := by simpa using h0
    rw [hq]
    clear hq h0
    have ho := openValues_any nm A u ca B d cb hold V vs cv
    have HO := Lib.hid ho
    clear ho
    generalize valE nm u d hold vs = E at *
    go_enter Try.func35, Try.ntmps35
    go_wp2_with (fail)
    refine (HO.out _ hs hu hd hv (hA.below (by repeat (first | assumption | exact Below.refl _ _ | refine Below.drew ?_ | (refine below_alloc _ ?_ ?_; focus (first | omega | (simp; done) | (simp; omega) | (simp at *; omega))) | (refine below_set _ ?_ ?_; focus (first | omega | (simp; done) | (simp; omega) | (simp at *; omega))) | refine below_drewN ?_ _ | (refine below_call (by assumption) ?_ ?_; focus (first | omega | (simp; done) | (simp; omega) | (simp at *; omega))) | (refine below_call' (by assumption) ?_ ?_; focus (first | omega | (simp; done) | (simp; omega) | (simp at *; omega)))))) (hB.below (by repeat (first | assumption | exact Below.refl _ _ | refine Below.drew ?_ | (refine below_alloc _ ?_ ?_; focus (first | omega | (simp; done) | (simp; omega) | (simp at *; omega))) | (refine below_set _ ?_ ?_; focus (first | omega | (simp; done) | (simp; omega) | (simp at *; omega))) | refine below_drewN ?_ _ | (refine below_call (by assumption) ?_ ?_; focus (first | omega | (simp; done) | (simp; omega) | (simp at *; omega))) | (refine below_call' (by assumption) ?_ ?_; focus (first | omega | (simp; done) | (simp; omega) | (simp at *; omega)))))) (hV.below (by repeat (first | assumption | exact Below.refl _ _ | refine Below.drew ?_ | (refine below_alloc _ ?_ ?_; focus (first | omega | (simp; done) | (simp; omega) | (simp at *; omega))) | (refine below_set _ ?_ ?_; focus (first | omega | (simp; done) | (simp; omega) | (simp at *; omega))) | refine below_drewN ?_ _ | (refine below_call (by assumption) ?_ ?_; focus (first | omega | (simp; done) | (simp; omega) | (simp at *; omega))) | (refine below_call' (by assumption) ?_ ?_; focus (first | omega | (simp; done) | (simp; omega) | (simp at *; omega))))))).mono ?_
    rintro e w1 ⟨rfl, hb1⟩
    have hz := hb1.size
    simp at hz
    have z1 : w.heap.size + 1 < w1.heap.size := by omega
    have hbw : Below w.heap.size w w1 := (by repeat (first | assumption | exact Below.refl _ _ | refine Below.drew ?_ | (refine below_alloc _ ?_ ?_; focus (first | omega | (simp; done) | (simp; omega) | (simp at *; omega))) | (refine below_set _ ?_ ?_; focus (first | omega | (simp; done) | (simp; omega) | (simp at *; omega))) | refine below_drewN ?_ _ | (refine below_call (by assumption) ?_ ?_; focus (first | omega | (simp; done) | (simp; omega) | (simp at *; omega))) | (refine below_call' (by assumption) ?_ ?_; focus (first | omega | (simp; done) | (simp; omega) | (simp at *; omega)))))
    have hrb : StaAt (w.heap.size + 1) ⟨0, 0, 0⟩ w1 := StaAt.below ⟨cell_new (by simp) rfl, cell_new (by simp) rfl, cell_new (by simp) rfl, frozen_new (by simp), frozen_new (by simp), frozen_new (by simp)⟩ hb1
    obtain ⟨r0, r1, r2, g0, g1, g2⟩ := hrb
    clear hb1 hz hz0
    go_wp2_with (fail)
    refine bodyPost_ret (v := .tuple #[.agg #[.int .i64 0, .int .i64 0, .int .i64 0], .int .i64 E]) (by simp [results, Try.results35, go_sem, r0, r1, r2, z1]) rfl ?_
    exact ⟨rfl, (by repeat (first | assumption | exact Below.refl _ _ | refine Below.drew ?_ | (refine below_alloc _ ?_ ?_; focus (first | omega | (simp; done) | (simp; omega) | (simp at *; omega))) | (refine below_set _ ?_ ?_; focus (first | omega | (simp; done) | (simp; omega) | (simp at *; omega))) | refine below_drewN ?_ _ | (refine below_call (by assumption) ?_ ?_; focus (first | omega | (simp; done) | (simp; omega) | (simp at *; omega))) | (refine below_call' (by assumption) ?_ ?_; focus (first | omega | (simp; done) | (simp; omega) | (simp at *; omega)))))⟩
end Go.Proofs.Ytcfbnmcdncndpaa
