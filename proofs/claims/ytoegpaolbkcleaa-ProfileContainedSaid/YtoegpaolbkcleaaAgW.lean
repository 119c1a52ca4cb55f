/-
  The answers of a profile for the points of a trace; whether integers have one.
-/
import Derived.Test.YtoegpaolbkcleaaAgr
namespace Go.Proofs.Ytoegpaolbkcleaa
open Go.ChangeShapes Go.WideShapes Go.ChangeAt Go.RowKit
set_option linter.unusedVariables false
set_option linter.unusedSimpArgs false

def agwE (base : Int) (l : List Slb) (ps : List Pt) (after width : Int) : Int := firstE [chkE base l, chkTE ps after width]
def agw (base : Int) (l : List Slb) (ps : List Pt) (after width : Int) : List Int := if agwE base l ps after width = 0 then ps.map (ansI base l) else []
def AgwPost (base : Int) (l : List Slb) (ps : List Pt) (after width : Int) (w : World) (e : Ending) (w' : World) : Prop :=
  ∃ A' c', e = .returned (.tuple #[.slice A' (agw base l ps after width).length c', .int .i64 (agwE base l ps after width)]) ∧ w'.ownsRow w.heap.size 3 1 (.slice A' (agw base l ps after width).length c') (agw base l ps after width).length (cellsOf 1 intC (agw base l ps after width)) ∧ Below w.heap.size w w'

set_option maxRecDepth 100000 in
set_option maxHeartbeats 2000000 in
theorem AgreesWith_any (base : Int) (A : Option Addr) (l : List Slb) (cap : Nat) (B : Option Addr) (ps : List Pt) (capB : Nat) (after width : Int) (w : World) (hl : l.length ≤ 100) (hcap : l.length ≤ cap) (hps : ps.length ≤ 100) (hA : SlabsAt w A l) (hB : PtsAt w B ps) :
    Calls Try.prog 43 #[.agg #[.int .i64 base, .slice A l.length cap], .agg #[.slice B ps.length capB, .int .i64 after, .int .i64 width]] w (AgwPost base l ps after width w) := by
  have h1 : agwE base l ps after width = firstE [chkE base l, chkTE ps after width] := rfl
  have h2 : agw base l ps after width = if agwE base l ps after width = 0 then ps.map (ansI base l) else [] := rfl
  go_enter Try.func43, Try.ntmps43
  have H1 := Lib.hid h1
  have H2 := Lib.hid h2
  clear h1 h2
  go_wp2_with (fail)
  refine (open_any base A l cap _ hl (hA.below (by repeat (first | assumption | exact Below.refl _ _ | refine Below.drew ?_ | (refine below_alloc _ ?_ ?_; focus (first | omega | (simp; done) | (simp; omega) | (simp at *; omega))) | (refine below_set _ ?_ ?_; focus (first | omega | (simp; done) | (simp; omega) | (simp at *; omega))) | refine below_drewN ?_ _ | (refine below_call (by assumption) ?_ ?_; focus (first | omega | (simp; done) | (simp; omega) | (simp at *; omega))) | (refine below_call' (by assumption) ?_ ?_; focus (first | omega | (simp; done) | (simp; omega) | (simp at *; omega))))))).mono ?_
  rintro e w1 ⟨rfl, hb1⟩
  have hz1 : w.heap.size + 1 < w1.heap.size := by have := hb1.size; simp at this; omega
  have d0 : w1.cell? ⟨w.heap.size + 1, 0, none⟩ = some (.slice B ps.length capB) := cell_below' hb1 (by repeat (first | assumption | (refine cell_new ?_ rfl; focus (simp; done)) | refine cell_drew ?_ | refine cell_alloc _ ?_ | refine cell_drewN _ ?_ | (refine cell_far ?_ ?_; focus (first | omega | (simp; omega) | (simp; done))) | refine cell_below' (by assumption) ?_))
  have d1 : w1.cell? ⟨w.heap.size + 1, 1, none⟩ = some (.int .i64 after) := cell_below' hb1 (by repeat (first | assumption | (refine cell_new ?_ rfl; focus (simp; done)) | refine cell_drew ?_ | refine cell_alloc _ ?_ | refine cell_drewN _ ?_ | (refine cell_far ?_ ?_; focus (first | omega | (simp; omega) | (simp; done))) | refine cell_below' (by assumption) ?_))
  have d2 : w1.cell? ⟨w.heap.size + 1, 2, none⟩ = some (.int .i64 width) := cell_below' hb1 (by repeat (first | assumption | (refine cell_new ?_ rfl; focus (simp; done)) | refine cell_drew ?_ | refine cell_alloc _ ?_ | refine cell_drewN _ ?_ | (refine cell_far ?_ ?_; focus (first | omega | (simp; omega) | (simp; done))) | refine cell_below' (by assumption) ?_))
  have hbw1 : Below w.heap.size w w1 := (by repeat (first | assumption | exact Below.refl _ _ | refine Below.drew ?_ | (refine below_alloc _ ?_ ?_; focus (first | omega | (simp; done) | (simp; omega) | (simp at *; omega))) | (refine below_set _ ?_ ?_; focus (first | omega | (simp; done) | (simp; omega) | (simp at *; omega))) | refine below_drewN ?_ _ | (refine below_call (by assumption) ?_ ?_; focus (first | omega | (simp; done) | (simp; omega) | (simp at *; omega))) | (refine below_call' (by assumption) ?_ ?_; focus (first | omega | (simp; done) | (simp; omega) | (simp at *; omega)))))
  clear hb1
  go_wp2_with (fail)
  refine (openTrace_any B ps capB after width _ hps (hB.below (by repeat (first | assumption | exact Below.refl _ _ | refine Below.drew ?_ | (refine below_alloc _ ?_ ?_; focus (first | omega | (simp; done) | (simp; omega) | (simp at *; omega))) | (refine below_set _ ?_ ?_; focus (first | omega | (simp; done) | (simp; omega) | (simp at *; omega))) | refine below_drewN ?_ _ | (refine below_call (by assumption) ?_ ?_; focus (first | omega | (simp; done) | (simp; omega) | (simp at *; omega))) | (refine below_call' (by assumption) ?_ ?_; focus (first | omega | (simp; done) | (simp; omega) | (simp at *; omega))))))).mono ?_
  rintro e w2 ⟨rfl, hb2⟩
  have hz2 : w1.heap.size < w2.heap.size := by have := hb2.size; simp at this; omega
  have hz20 : w.heap.size + 1 < w2.heap.size := by omega
  have hz22 : w.heap.size < w2.heap.size := by omega
  have s0 : w2.cell? ⟨w1.heap.size, 0, none⟩ = some (.int .i64 base) := cell_below' hb2 (by repeat (first | assumption | (refine cell_new ?_ rfl; focus (simp; done)) | refine cell_drew ?_ | refine cell_alloc _ ?_ | refine cell_drewN _ ?_ | (refine cell_far ?_ ?_; focus (first | omega | (simp; omega) | (simp; done))) | refine cell_below' (by assumption) ?_))
  have s1 : w2.cell? ⟨w1.heap.size, 1, none⟩ = some (.slice A l.length cap) := cell_below' hb2 (by repeat (first | assumption | (refine cell_new ?_ rfl; focus (simp; done)) | refine cell_drew ?_ | refine cell_alloc _ ?_ | refine cell_drewN _ ?_ | (refine cell_far ?_ ?_; focus (first | omega | (simp; omega) | (simp; done))) | refine cell_below' (by assumption) ?_))
  replace d0 := cell_below' hb2 (cell_alloc _ d0)
  replace d1 := cell_below' hb2 (cell_alloc _ d1)
  replace d2 := cell_below' hb2 (cell_alloc _ d2)
  have hbw2 : Below w.heap.size w w2 := (by repeat (first | assumption | exact Below.refl _ _ | refine Below.drew ?_ | (refine below_alloc _ ?_ ?_; focus (first | omega | (simp; done) | (simp; omega) | (simp at *; omega))) | (refine below_set _ ?_ ?_; focus (first | omega | (simp; done) | (simp; omega) | (simp at *; omega))) | refine below_drewN ?_ _ | (refine below_call (by assumption) ?_ ?_; focus (first | omega | (simp; done) | (simp; omega) | (simp at *; omega))) | (refine below_call' (by assumption) ?_ ?_; focus (first | omega | (simp; done) | (simp; omega) | (simp at *; omega)))))
  clear hb2 hbw1
  go_wp2_with (fail)
  refine (first2 (chkE base l) (chkTE ps after width) _ _ (by simp) (by repeat (first | assumption | (refine cell_new ?_ rfl; focus (simp; done)) | refine cell_drew ?_ | refine cell_alloc _ ?_ | refine cell_drewN _ ?_ | (refine cell_far ?_ ?_; focus (first | omega | (simp; omega) | (simp; done))) | refine cell_below' (by assumption) ?_)) (by repeat (first | assumption | (refine cell_new ?_ rfl; focus (simp; done)) | refine cell_drew ?_ | refine cell_alloc _ ?_ | refine cell_drewN _ ?_ | (refine cell_far ?_ ?_; focus (first | omega | (simp; omega) | (simp; done))) | refine cell_below' (by assumption) ?_))).mono ?_
  rintro e w3 ⟨rfl, rfl⟩
  rw [← H1.out]
  by_cases h0 : agwE base l ps after width = 0
  · have h00 := h0
    unfold agwE at h00
    rw [firstE2] at h00
    have HO := Lib.hid (ok_of_chk h00.1)
    have HT := Lib.hid (okT_of_chk h00.2)
    have h2 := H2.out
    rw [if_pos h0] at h2
    rw [h0]
    have H2' := Lib.hid h2
    have H0 := Lib.hid h0
    have hn1 := HT.out.n1
    clear h0 h00 h2 H1 H2
    have hbv : Below w.heap.size w ((w2.alloc (.cells #[.slice B ps.length capB, .int .i64 after, .int .i64 width] 123)).alloc (.cells #[.int .i64 (chkE base l), .int .i64 (chkTE ps after width)] 27)) := (by repeat (first | assumption | exact Below.refl _ _ | refine Below.drew ?_ | (refine below_alloc _ ?_ ?_; focus (first | omega | (simp; done) | (simp; omega) | (simp at *; omega))) | (refine below_set _ ?_ ?_; focus (first | omega | (simp; done) | (simp; omega) | (simp at *; omega))) | refine below_drewN ?_ _ | (refine below_call (by assumption) ?_ ?_; focus (first | omega | (simp; done) | (simp; omega) | (simp at *; omega))) | (refine below_call' (by assumption) ?_ ?_; focus (first | omega | (simp; done) | (simp; omega) | (simp at *; omega)))))
    have S0 := cell_alloc (.cells #[.int .i64 (chkE base l), .int .i64 (chkTE ps after width)] 27) (cell_alloc (.cells #[.slice B ps.length capB, .int .i64 after, .int .i64 width] 123) s0)
    have S1 := cell_alloc (.cells #[.int .i64 (chkE base l), .int .i64 (chkTE ps after width)] 27) (cell_alloc (.cells #[.slice B ps.length capB, .int .i64 after, .int .i64 width] 123) s1)
    have hv1 : w1.heap.size < ((w2.alloc (.cells #[.slice B ps.length capB, .int .i64 after, .int .i64 width] 123)).alloc (.cells #[.int .i64 (chkE base l), .int .i64 (chkTE ps after width)] 27)).heap.size := by simp; omega
    go_wp2
    generalize ((w2.alloc (.cells #[.slice B ps.length capB, .int .i64 after, .int .i64 width] 123)).alloc (.cells #[.int .i64 (chkE base l), .int .i64 (chkTE ps after width)] 27)) = v at *
    clear s0 s1 d0 d1 d2 hz2 hz20 hz22
    have AV := hA.below hbv
    have BV := hB.below hbv
    go_loopw [10, 33] (fun o i wr => ∃ (k : Nat) (A' : Option Addr) (c' : Nat), k ≤ ps.length ∧ i = .int .i64 k ∧ o = .slice A' k c' ∧ wr.ownsRow v.heap.size 3 1 (.slice A' k c') k (cellsOf 1 intC ((ps.take k).map (ansI base l))) ∧ Below v.heap.size v wr) (fun _ i _ => ps.length - (intOf i).toNat)
    case atStart => exact ⟨0, none, 0, Nat.zero_le _, rfl, rfl, World.ownsRow_nil _ _ _ _, Below.refl _ _⟩
    case round =>
      obtain ⟨k, A', c', hk, rfl, rfl, hown, hbw⟩ := hrel
      have hzr := hbw.size
      have t0 := cell_below' hbw S0
      have t1 := cell_below' hbw S1
      have hv2 : w1.heap.size < wr.heap.size := by omega
      by_cases hlt : k < ps.length
      · obtain ⟨bb, oo, rfl, hbb, e0, e1, e2⟩ := PtsAt.at_ (RowsAt.below BV hbw) hlt
        have hp := HT.out.pt ps[k] (List.getElem_mem hlt)
        have hst : (ps.take (k + 1)).map (ansI base l) = (ps.take k).map (ansI base l) ++ [ansI base l ps[k]] := by rw [take_snoc ps k hlt, List.map_append]; rfl
        have hAr := RowsAt.below AV hbw
        have han := fun W hW => answer_any base A l cap ps[k] W HO.out hcap hp.1 hp.2.1 hW
        have HAN := Lib.hid han
        have HST := Lib.hid hst
        clear han hst hp
        generalize (ps.take k).map (ansI base l) = out at *
        generalize ansI base l ps[k] = z at *
        generalize ps[k] = p at *
        go_wp2_with (fail)
        refine (HAN.out _ (RowsAt.below hAr (by repeat (first | assumption | exact Below.refl _ _ | refine Below.drew ?_ | (refine below_alloc _ ?_ ?_; focus (first | omega | (simp; done) | (simp; omega) | (simp at *; omega))) | (refine below_set _ ?_ ?_; focus (first | omega | (simp; done) | (simp; omega) | (simp at *; omega))) | refine below_drewN ?_ _ | (refine below_call (by assumption) ?_ ?_; focus (first | omega | (simp; done) | (simp; omega) | (simp at *; omega))) | (refine below_call' (by assumption) ?_ ?_; focus (first | omega | (simp; done) | (simp; omega) | (simp at *; omega))))))).mono ?_
        rintro e w4 ⟨rfl, hb4⟩
        have hown4 := own_below (hown.alloc (.cells #[.int .i64 p.f, .int .i64 p.lo, .int .i64 p.hi] 75)) hb4
        have hz4 : wr.heap.size < w4.heap.size := by have := hb4.size; simp at this; omega
        have hbx : Below v.heap.size v w4 := hbw.trans ((below_alloc _ (Nat.le_refl _) (Below.refl _ wr)).trans (hb4.mono (by simp)) |>.mono (by omega))
        clear hb4 hown
        go_wp2_with (at_builtin; refine wpList_appInt _ rfl (.tmp 37) (.tmp 41) rfl v.heap.size A' k c' (cellsOf 1 intC out) rfl (hown4.alloc _) (some ⟨w4.heap.size, 0, none⟩) 1 1 (cellsOf 1 intC [z]) rfl rfl (fun e => by cases e) (fun ad e => by cases e; exact RowsAt.news (rows_blk (m := 1) (f := intC) (l := [z]) (blk_new (by simp)) rfl) (by decide)) (cellsOf_one intC_one (by decide) _) (by omega) (by (first | omega | (simp; done) | (simp; omega) | (simp at *; omega))) ?_; intro A4 c5 w5 hown5 hg halt; rw [← cellsOf_append] at hown5; have hb5 : Below v.heap.size v w5 := below_own (below_alloc _ (by (first | omega | (simp; done) | (simp; omega) | (simp at *; omega))) hbx) hg (hown4.alloc _) (by omega) (by (first | omega | (simp; done) | (simp; omega) | (simp at *; omega))); clear hg halt hown4)
        go_roundw
        case rel => exact ⟨k + 1, A4, c5, by omega, by go_num, rfl, by rw [HST.out]; exact hown5, hb5⟩
        case measure => simp [intOf]; omega
      · obtain rfl : k = ps.length := by omega
        rw [List.take_length] at hown
        have hlen : (ps.map (ansI base l)).length = ps.length := by simp
        have HLN := Lib.hid hlen
        clear hlen
        go_wp2
        go_ret2
        unfold AgwPost
        rw [H2'.out, H0.out, HLN.out]
        exact ⟨A', c', rfl, own_mono hown (by have := hbv.size; omega), (by repeat (first | assumption | exact Below.refl _ _ | refine Below.drew ?_ | (refine below_alloc _ ?_ ?_; focus (first | omega | (simp; done) | (simp; omega) | (simp at *; omega))) | (refine below_set _ ?_ ?_; focus (first | omega | (simp; done) | (simp; omega) | (simp at *; omega))) | refine below_drewN ?_ _ | (refine below_call (by assumption) ?_ ?_; focus (first | omega | (simp; done) | (simp; omega) | (simp at *; omega))) | (refine below_call' (by assumption) ?_ ?_; focus (first | omega | (simp; done) | (simp; omega) | (simp at *; omega)))))⟩
  · have h2 := H2.out
    rw [if_neg h0] at h2
    have H2' := Lib.hid h2
    have h0' : (agwE base l ps after width == 0) = false := by simpa using h0
    have h0'' : (agwE base l ps after width != 0) = true := by simpa using h0
    clear h0 h2 H1 H2
    go_wp2
    go_ret2
    unfold AgwPost
    rw [H2'.out]
    exact ⟨none, 0, rfl, World.ownsRow_nil _ _ _ _, (by repeat (first | assumption | exact Below.refl _ _ | refine Below.drew ?_ | (refine below_alloc _ ?_ ?_; focus (first | omega | (simp; done) | (simp; omega) | (simp at *; omega))) | (refine below_set _ ?_ ?_; focus (first | omega | (simp; done) | (simp; omega) | (simp at *; omega))) | refine below_drewN ?_ _ | (refine below_call (by assumption) ?_ ?_; focus (first | omega | (simp; done) | (simp; omega) | (simp at *; omega))) | (refine below_call' (by assumption) ?_ ?_; focus (first | omega | (simp; done) | (simp; omega) | (simp at *; omega)))))⟩

set_option maxHeartbeats 1000000 in
theorem Has_no (A : Option Addr) (l : List Int) (cap : Nat) (n : Int) (w : World) (hl : l.length ≤ 100) (hA : IntsAt w A l) (hn : ∀ z ∈ l, z ≠ n) :
    Calls Try.prog 47 #[.slice A l.length cap, .int .i64 n] w fun e w' => e = .returned (.bool false) ∧ Below w.heap.size w w' := by
  have HN := Lib.hid hn
  clear hn
  go_enter Try.func47, Try.ntmps47
  go_wp2
  go_loopw [5] (fun i wr => ∃ k : Nat, k ≤ l.length ∧ i = .int .i64 k ∧ Below w.heap.size w wr) (fun i _ => l.length - (intOf i).toNat)
  case atStart => exact ⟨0, Nat.zero_le _, rfl, (by repeat (first | assumption | exact Below.refl _ _ | refine Below.drew ?_ | (refine below_alloc _ ?_ ?_; focus (first | omega | (simp; done) | (simp; omega) | (simp at *; omega))) | (refine below_set _ ?_ ?_; focus (first | omega | (simp; done) | (simp; omega) | (simp at *; omega))) | refine below_drewN ?_ _ | (refine below_call (by assumption) ?_ ?_; focus (first | omega | (simp; done) | (simp; omega) | (simp at *; omega))) | (refine below_call' (by assumption) ?_ ?_; focus (first | omega | (simp; done) | (simp; omega) | (simp at *; omega)))))⟩
  case round =>
    obtain ⟨k, hk, rfl, hbw⟩ := hrel
    have hAr := RowsAt.below hA hbw
    by_cases hlt : k < l.length
    · obtain ⟨b1', o1, rfl, hb1, c0⟩ := IntsAt.at_ hAr hlt
      have hz := HN.out l[k] (List.getElem_mem hlt)
      generalize l[k] = p at *
      have hz' : (p == n) = false := by simpa using hz
      clear hz
      go_wp2
      go_roundw
      case rel => exact ⟨k + 1, by omega, by go_num, (by repeat (first | assumption | exact Below.refl _ _ | refine Below.drew ?_ | (refine below_alloc _ ?_ ?_; focus (first | omega | (simp; done) | (simp; omega) | (simp at *; omega))) | (refine below_set _ ?_ ?_; focus (first | omega | (simp; done) | (simp; omega) | (simp at *; omega))) | refine below_drewN ?_ _ | (refine below_call (by assumption) ?_ ?_; focus (first | omega | (simp; done) | (simp; omega) | (simp at *; omega))) | (refine below_call' (by assumption) ?_ ?_; focus (first | omega | (simp; done) | (simp; omega) | (simp at *; omega)))))⟩
      case measure => simp [intOf]; omega
    · go_wp2
      go_ret
      exact ⟨rfl, (by repeat (first | assumption | exact Below.refl _ _ | refine Below.drew ?_ | (refine below_alloc _ ?_ ?_; focus (first | omega | (simp; done) | (simp; omega) | (simp at *; omega))) | (refine below_set _ ?_ ?_; focus (first | omega | (simp; done) | (simp; omega) | (simp at *; omega))) | refine below_drewN ?_ _ | (refine below_call (by assumption) ?_ ?_; focus (first | omega | (simp; done) | (simp; omega) | (simp at *; omega))) | (refine below_call' (by assumption) ?_ ?_; focus (first | omega | (simp; done) | (simp; omega) | (simp at *; omega)))))⟩
end Go.Proofs.Ytoegpaolbkcleaa
