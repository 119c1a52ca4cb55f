/-
  The true heights of the points of a trace: the program's and the reference's.
-/
import Derived.Test.YtoegpaolbkcleaaSml
import Derived.Test.YtoegpaolbkcleaaLamR
namespace Go.Proofs.Ytoegpaolbkcleaa
open Go.ChangeShapes Go.WideShapes Go.ChangeAt Go.RowKit
set_option linter.unusedVariables false
set_option linter.unusedSimpArgs false

theorem lamA_le {f : Int} (f0 : 0 ≤ f) (f1 : f ≤ 3000) : ∀ (l : List Pt) (out : List Rng) (a : Int), (∀ i (hi : i < l.length), i < out.length → 0 ≤ l[i].f * l[i].f ∧ l[i].f * l[i].f < f * f) → RB out → lamA f l out a ≤ a
  | [], _, _, _, _ => by simp [lamA]
  | p :: ps, [], a, _, _ => by simp [lamA]
  | p :: ps, r :: rs, a, h, hb => by
    have h0 := h 0 (by simp) (by simp)
    simp only [List.getElem_cons_zero] at h0
    have hr := hb r (List.mem_cons_self ..)
    have h1 := idxLo_bd (p.f * p.f) f h0.1 h0.2 f0 f1
    have h2 := idxHi_bd (p.f * p.f) f h0.1 h0.2 f0 f1
    have hm := Int.mul_nonneg hr.2.2.1 (show 0 ≤ idxHi (p.f * p.f) f by omega)
    have ih := lamA_le f0 f1 ps rs (a - r.hi * idxHi (p.f * p.f) f) (fun i hi ho => h (i + 1) (by simpa using hi) (by simpa using ho)) (fun x hx => hb x (List.mem_cons_of_mem _ hx))
    simp only [lamA]
    omega
theorem lamB_le {f : Int} (f0 : 0 ≤ f) (f1 : f ≤ 3000) : ∀ (l : List Pt) (out : List Rng) (a : Int), (∀ i (hi : i < l.length), i < out.length → 0 ≤ l[i].f * l[i].f ∧ l[i].f * l[i].f < f * f) → RB out → lamB f l out a ≤ a
  | [], _, _, _, _ => by simp [lamB]
  | p :: ps, [], a, _, _ => by simp [lamB]
  | p :: ps, r :: rs, a, h, hb => by
    have h0 := h 0 (by simp) (by simp)
    simp only [List.getElem_cons_zero] at h0
    have hr := hb r (List.mem_cons_self ..)
    have h1 := idxLo_bd (p.f * p.f) f h0.1 h0.2 f0 f1
    have hm := Int.mul_nonneg hr.1 (show 0 ≤ idxLo (p.f * p.f) f by omega)
    have ih := lamB_le f0 f1 ps rs (a - r.lo * idxLo (p.f * p.f) f) (fun i hi ho => h (i + 1) (by simpa using hi) (by simpa using ho)) (fun x hx => hb x (List.mem_cons_of_mem _ hx))
    simp only [lamB]
    omega
theorem lamGo_ok {l : List Pt} {after width : Int} (hO : OkT l after width) {p0 : Pt} (hp0 : 0 ≤ p0.lo ∧ p0.lo ≤ p0.hi ∧ p0.hi ≤ 20000) : ∀ (r : List Pt) (k : Nat) (out : List Rng), r = l.drop (k + 1) → out.length = k → k + 1 ≤ l.length → RB out → RB (lamGo l after width p0 r k out).1 ∧ (lamGo l after width p0 r k out).1.length ≤ l.length
  | [], k, out, hr, hl, hk, hb => by
    unfold lamGo
    exact ⟨hb, by show out.length ≤ _; omega⟩
  | p :: r, k, out, hr, hl, hk, hb => by
    have hlt : k + 1 < l.length := by
      rcases Nat.lt_or_ge (k + 1) l.length with h | h
      · exact h
      · rw [List.drop_eq_nil_of_le h] at hr; cases hr
    rw [List.drop_eq_getElem_cons hlt] at hr
    injection hr with hp hr
    unfold lamGo
    split
    · exact ⟨RB.nil, by simp⟩
    · rename_i hB
      refine lamGo_ok hO hp0 r (k + 1) _ hr (by simp [hl]) (by omega) (RB.snoc hb ?_)
      have hpp := hO.pt l[k + 1] (List.getElem_mem hlt)
      rw [← hp] at hpp
      have hsq : ∀ i (hi : i < l.length), i < k + 1 → 0 ≤ l[i].f * l[i].f ∧ l[i].f * l[i].f < p.f * p.f := fun i hi hik => by
        have := hO.sq hi hlt hik
        rw [← hp] at this
        exact this
      have hA := lamA_le (f := p.f) (by omega) hpp.2.1 l out (1000 * (p.lo - p0.hi)) (fun i hi ho => hsq i hi (by omega)) hb
      have hB2 := lamB_le (f := p.f) (by omega) hpp.2.1 l out (1000 * (p.hi - p0.lo)) (fun i hi ho => hsq i hi (by omega)) hb
      have hk' : k < l.length := by omega
      have hs := hsq k hk' (by omega)
      have i1 := idxLo_bd _ p.f hs.1 hs.2 (by omega) hpp.2.1
      have i2 := idxHi_bd _ p.f hs.1 hs.2 (by omega) hpp.2.1
      have hv : 0 ≤ valI after width (k + 1) * idxHi (fAt l after.toNat * fAt l after.toNat) p.f := by
        unfold valI
        by_cases ha : after < ((k + 1 : Nat) : Int)
        · rw [if_pos ha]
          have h0 := hO.a0
          have han : after.toNat < l.length := by omega
          have hs2 := hsq after.toNat han (by omega)
          rw [fAt_eq han]
          have i3 := idxLo_bd _ p.f hs2.1 hs2.2 (by omega) hpp.2.1
          have i4 := idxHi_bd _ p.f hs2.1 hs2.2 (by omega) hpp.2.1
          exact Int.mul_nonneg hO.w0 (by omega)
        · rw [if_neg ha]; simp
      unfold ownLo ownHi
      rw [fAt_eq hk']
      exact own_bd (by omega) (by omega) (by omega) i1.1 (by omega)
theorem lam_ok {l : List Pt} {after width : Int} (hO : OkT l after width) : RB (lam l after width).1 ∧ (lam l after width).1.length ≤ 8 := by
  have hn0 := hO.n0
  have hn1 := hO.n1
  have h := hO.pt l[0] (List.getElem_mem hn0)
  have hg : l.getD 0 ⟨0, 0, 0⟩ = l[0] := by rw [List.getD_eq_getElem?_getD, List.getElem?_eq_getElem hn0]; rfl
  have := lamGo_ok hO (p0 := l[0]) h.2.2 (l.drop 1) 0 [] rfl rfl (by omega) RB.nil
  unfold lam
  rw [hg]
  exact ⟨this.1, by omega⟩

def htA (after width : Int) : List Rng → Nat → Int → Int → List Rng → List Rng
  | [], _, _, _, out => out
  | r :: rs, k, lo, hi, out => htA after width rs (k + 1) (lo + r.lo) (hi + r.hi) (out ++ [⟨lo + r.lo, hi + r.hi + valI after width (k + 1)⟩])
def hts (l : List Pt) (after width : Int) (sl : List Rng) : List Rng := htA after width sl 0 (l.getD 0 ⟨0, 0, 0⟩).lo (l.getD 0 ⟨0, 0, 0⟩).hi [⟨(l.getD 0 ⟨0, 0, 0⟩).lo, (l.getD 0 ⟨0, 0, 0⟩).hi⟩]
theorem htA_len (after width : Int) : ∀ (sl : List Rng) (k : Nat) (lo hi : Int) (out : List Rng), (htA after width sl k lo hi out).length = out.length + sl.length
  | [], _, _, _, _ => by simp [htA]
  | r :: rs, k, lo, hi, out => by
    rw [htA, htA_len]
    simp
    omega
theorem hts_len (l : List Pt) (after width : Int) (sl : List Rng) : (hts l after width sl).length = sl.length + 1 := by
  unfold hts
  rw [htA_len]
  simp
  omega
theorem own_row1 {w : World} {B b : Nat} {T : TypeId} {lo hi : Int} (hB : B ≤ b) (h : w.heap[b]? = some (.cells #[.int .i64 lo, .int .i64 hi] T (0, 0))) : w.ownsRow B T 2 (.slice (some ⟨b, 0, none⟩) 1 1) 1 (cellsOf 2 rngC [⟨lo, hi⟩]) :=
  ⟨rfl, .inr ⟨b, 1, _, rfl, hB, h, Nat.le_refl _, by decide, rfl, rfl⟩⟩

def htsV (l : List Pt) (after width : Int) : List Rng := if lamdE l after width = 0 then hts l after width (lam l after width).1 else []
def HtsPost (l : List Pt) (after width : Int) (w : World) (e : Ending) (w' : World) : Prop :=
  ∃ A' c', e = .returned (.tuple #[.slice A' (htsV l after width).length c', .int .i64 (lamdE l after width)]) ∧ w'.ownsRow w.heap.size 32 2 (.slice A' (htsV l after width).length c') (htsV l after width).length (cellsOf 2 rngC (htsV l after width)) ∧ Below w.heap.size w w'

set_option maxRecDepth 100000 in
set_option maxHeartbeats 2000000 in
theorem HeightsOf_any (A : Option Addr) (l : List Pt) (cap : Nat) (after width : Int) (w : World) (hl : l.length ≤ 100) (hcap : l.length ≤ cap) (hA : PtsAt w A l) :
    Calls Try.prog 31 #[.agg #[.slice A l.length cap, .int .i64 after, .int .i64 width]] w (HtsPost l after width w) := by
  have h1 : lamdE l after width = if chkTE l after width ≠ 0 then chkTE l after width else unl (lam l after width).2.2 13 := rfl
  have h2 : htsV l after width = if lamdE l after width = 0 then hts l after width (lam l after width).1 else [] := rfl
  go_enter Try.func31, Try.ntmps31
  have H1 := Lib.hid h1
  have H2 := Lib.hid h2
  clear h1 h2
  go_wp2_with (fail)
  refine (openTrace_any A l cap after width _ hl (hA.below (by repeat (first | assumption | exact Below.refl _ _ | refine Below.drew ?_ | (refine below_alloc _ ?_ ?_; focus (first | omega | (simp; done) | (simp; omega) | (simp at *; omega))) | (refine below_set _ ?_ ?_; focus (first | omega | (simp; done) | (simp; omega) | (simp at *; omega))) | refine below_drewN ?_ _ | (refine below_call (by assumption) ?_ ?_; focus (first | omega | (simp; done) | (simp; omega) | (simp at *; omega))) | (refine below_call' (by assumption) ?_ ?_; focus (first | omega | (simp; done) | (simp; omega) | (simp at *; omega))))))).mono ?_
  rintro e w1 ⟨rfl, hb1⟩
  have hbw1 : Below w.heap.size w w1 := (by repeat (first | assumption | exact Below.refl _ _ | refine Below.drew ?_ | (refine below_alloc _ ?_ ?_; focus (first | omega | (simp; done) | (simp; omega) | (simp at *; omega))) | (refine below_set _ ?_ ?_; focus (first | omega | (simp; done) | (simp; omega) | (simp at *; omega))) | refine below_drewN ?_ _ | (refine below_call (by assumption) ?_ ?_; focus (first | omega | (simp; done) | (simp; omega) | (simp at *; omega))) | (refine below_call' (by assumption) ?_ ?_; focus (first | omega | (simp; done) | (simp; omega) | (simp at *; omega)))))
  have hA1 := hA.below hbw1
  have hz1 : w.heap.size < w1.heap.size := by have := hb1.size; simp at this; omega
  have k0 : w1.cell? ⟨w.heap.size, 0, none⟩ = some (.slice A l.length cap) := cell_below' hb1 (by repeat (first | assumption | (refine cell_new ?_ rfl; focus (simp; done)) | refine cell_drew ?_ | refine cell_alloc _ ?_ | refine cell_drewN _ ?_ | (refine cell_far ?_ ?_; focus (first | omega | (simp; omega) | (simp; done))) | refine cell_below' (by assumption) ?_))
  have k1 : w1.cell? ⟨w.heap.size, 1, none⟩ = some (.int .i64 after) := cell_below' hb1 (by repeat (first | assumption | (refine cell_new ?_ rfl; focus (simp; done)) | refine cell_drew ?_ | refine cell_alloc _ ?_ | refine cell_drewN _ ?_ | (refine cell_far ?_ ?_; focus (first | omega | (simp; omega) | (simp; done))) | refine cell_below' (by assumption) ?_))
  have k2 : w1.cell? ⟨w.heap.size, 2, none⟩ = some (.int .i64 width) := cell_below' hb1 (by repeat (first | assumption | (refine cell_new ?_ rfl; focus (simp; done)) | refine cell_drew ?_ | refine cell_alloc _ ?_ | refine cell_drewN _ ?_ | (refine cell_far ?_ ?_; focus (first | omega | (simp; omega) | (simp; done))) | refine cell_below' (by assumption) ?_))
  clear hb1
  by_cases h0 : chkTE l after width = 0
  · have h1 := H1.out
    rw [if_neg (by simp [h0])] at h1
    have HO := Lib.hid (okT_of_chk h0)
    have hlk := lam_ok HO.out
    have hn0 := HO.out.n0
    have hn1 := HO.out.n1
    have hw0 := HO.out.w0
    have hw1 := HO.out.w1
    rw [h0]
    have H1' := Lib.hid h1
    clear h0 h1 H1
    go_wp2_with (fail)
    refine (laminated_any A l cap after width _ HO.out hcap (hA1.below (by repeat (first | assumption | exact Below.refl _ _ | refine Below.drew ?_ | (refine below_alloc _ ?_ ?_; focus (first | omega | (simp; done) | (simp; omega) | (simp at *; omega))) | (refine below_set _ ?_ ?_; focus (first | omega | (simp; done) | (simp; omega) | (simp at *; omega))) | refine below_drewN ?_ _ | (refine below_call (by assumption) ?_ ?_; focus (first | omega | (simp; done) | (simp; omega) | (simp at *; omega))) | (refine below_call' (by assumption) ?_ ?_; focus (first | omega | (simp; done) | (simp; omega) | (simp at *; omega))))))).mono ?_
    rintro e w2 ⟨A', c', rfl, hown, hb2⟩
    have hz2 : w1.heap.size < w2.heap.size := by have := hb2.size; simp at this; omega
    have hz20 : w.heap.size < w2.heap.size := by omega
    replace k0 := cell_below' hb2 (cell_alloc _ k0)
    replace k1 := cell_below' hb2 (cell_alloc _ k1)
    replace k2 := cell_below' hb2 (cell_alloc _ k2)
    have n0 : w2.cell? ⟨w1.heap.size, 0, none⟩ = some (.slice A l.length cap) := cell_below' hb2 (by repeat (first | assumption | (refine cell_new ?_ rfl; focus (simp; done)) | refine cell_drew ?_ | refine cell_alloc _ ?_ | refine cell_drewN _ ?_ | (refine cell_far ?_ ?_; focus (first | omega | (simp; omega) | (simp; done))) | refine cell_below' (by assumption) ?_))
    have n1 : w2.cell? ⟨w1.heap.size, 1, none⟩ = some (.int .i64 after) := cell_below' hb2 (by repeat (first | assumption | (refine cell_new ?_ rfl; focus (simp; done)) | refine cell_drew ?_ | refine cell_alloc _ ?_ | refine cell_drewN _ ?_ | (refine cell_far ?_ ?_; focus (first | omega | (simp; omega) | (simp; done))) | refine cell_below' (by assumption) ?_))
    have n2 : w2.cell? ⟨w1.heap.size, 2, none⟩ = some (.int .i64 width) := cell_below' hb2 (by repeat (first | assumption | (refine cell_new ?_ rfl; focus (simp; done)) | refine cell_drew ?_ | refine cell_alloc _ ?_ | refine cell_drewN _ ?_ | (refine cell_far ?_ ?_; focus (first | omega | (simp; omega) | (simp; done))) | refine cell_below' (by assumption) ?_))
    have hbw2 : Below w.heap.size w w2 := (by repeat (first | assumption | exact Below.refl _ _ | refine Below.drew ?_ | (refine below_alloc _ ?_ ?_; focus (first | omega | (simp; done) | (simp; omega) | (simp at *; omega))) | (refine below_set _ ?_ ?_; focus (first | omega | (simp; done) | (simp; omega) | (simp at *; omega))) | refine below_drewN ?_ _ | (refine below_call (by assumption) ?_ ?_; focus (first | omega | (simp; done) | (simp; omega) | (simp at *; omega))) | (refine below_call' (by assumption) ?_ ?_; focus (first | omega | (simp; done) | (simp; omega) | (simp at *; omega)))))
    have hA2 := hA.below hbw2
    have hR : RngsAt w2 A' (lam l after width).1 := rowsAt_of_own hown rfl (by decide)
    clear hb2 hown hA1 hbw1
    generalize lam l after width = q at *
    obtain ⟨q1, q2, q3⟩ := q
    simp only at hR hlk H1' H2
    cases q3
    · have he : lamdE l after width = 13 := by rw [H1'.out]; rfl
      have hv : htsV l after width = [] := by rw [H2.out, he]; rfl
      have HE := Lib.hid he
      have HV := Lib.hid hv
      clear he hv
      go_wp2
      go_ret2
      unfold HtsPost
      rw [HE.out, HV.out]
      exact ⟨none, 0, rfl, World.ownsRow_nil _ _ _ _, (by repeat (first | assumption | exact Below.refl _ _ | refine Below.drew ?_ | (refine below_alloc _ ?_ ?_; focus (first | omega | (simp; done) | (simp; omega) | (simp at *; omega))) | (refine below_set _ ?_ ?_; focus (first | omega | (simp; done) | (simp; omega) | (simp at *; omega))) | refine below_drewN ?_ _ | (refine below_call (by assumption) ?_ ?_; focus (first | omega | (simp; done) | (simp; omega) | (simp at *; omega))) | (refine below_call' (by assumption) ?_ ?_; focus (first | omega | (simp; done) | (simp; omega) | (simp at *; omega)))))⟩
    · have he : lamdE l after width = 0 := by rw [H1'.out]; rfl
      have hv : htsV l after width = hts l after width q1 := by rw [H2.out, he]; rfl
      have HE := Lib.hid he
      obtain ⟨hRB, hq8⟩ := hlk
      have HRB := Lib.hid hRB
      have hp0 := HO.out.pt l[0] (List.getElem_mem hn0)
      have hg : hts l after width q1 = htA after width q1 0 l[0].lo l[0].hi [⟨l[0].lo, l[0].hi⟩] := by unfold hts; rw [List.getD_eq_getElem?_getD, List.getElem?_eq_getElem hn0]; rfl
      rw [hg] at hv
      have HV := Lib.hid hv
      clear he hv H1' H2 hg hRB
      obtain ⟨b, off, rfl, hb, c0, c1, c2⟩ := PtsAt.at_ hA2 hn0
      generalize l[0] = p0 at *
      simp only [Nat.zero_mul, Nat.add_zero] at c0 c1 c2
      obtain ⟨q1', q2', q3', q4', q5'⟩ := hp0
      go_wp2
      go_loopw [10, 38] (fun o i wr => ∃ (k : Nat) (lo hi : Int) (out : List Rng) (A'' : Option Addr) (c'' : Nat), k ≤ q1.length ∧ i = .int .i64 k ∧ o = .slice A'' (k + 1) c'' ∧ out.length = k + 1 ∧ htsV l after width = htA after width (q1.drop k) k lo hi out ∧ (0 ≤ lo ∧ lo ≤ 20000 + 20000 * k ∧ 0 ≤ hi ∧ hi ≤ 20000 + 20000 * k) ∧ wr.cell? ⟨w2.heap.size, 0, none⟩ = some (.int .i64 lo) ∧ wr.cell? ⟨w2.heap.size, 1, none⟩ = some (.int .i64 hi) ∧ wr.frozen? ⟨w2.heap.size, 0, none⟩ = false ∧ wr.frozen? ⟨w2.heap.size, 1, none⟩ = false ∧ wr.ownsRow (w2.heap.size + 1) 32 2 (.slice A'' (k + 1) c'') (k + 1) (cellsOf 2 rngC out) ∧ Below w2.heap.size w2 wr ∧ w2.heap.size < wr.heap.size) (fun _ i _ => q1.length - (intOf i).toNat)
      case atStart => exact ⟨0, p0.lo, p0.hi, [⟨p0.lo, p0.hi⟩], _, _, Nat.zero_le _, rfl, rfl, rfl, HV.out, ⟨by omega, by omega, by omega, by omega⟩, (by repeat (first | assumption | (refine cell_new ?_ rfl; focus (simp; done)) | refine cell_drew ?_ | refine cell_alloc _ ?_ | refine cell_drewN _ ?_ | (refine cell_far ?_ ?_; focus (first | omega | (simp; omega) | (simp; done))) | refine cell_below' (by assumption) ?_)), (by repeat (first | assumption | (refine cell_new ?_ rfl; focus (simp; done)) | refine cell_drew ?_ | refine cell_alloc _ ?_ | refine cell_drewN _ ?_ | (refine cell_far ?_ ?_; focus (first | omega | (simp; omega) | (simp; done))) | refine cell_below' (by assumption) ?_)), (by repeat (first | assumption | (refine frozen_new ?_; focus (simp; done)) | refine frozen_drew ?_ | (refine frozen_alloc _ ?_ ?_; focus (first | (simp; done) | (simp; omega))) | refine frozen_drewN _ ?_ | refine frozen_set _ _ ?_ | (refine frozen_below (by assumption) ?_ ?_; focus (first | (simp; done) | (simp; omega))))), (by repeat (first | assumption | (refine frozen_new ?_; focus (simp; done)) | refine frozen_drew ?_ | (refine frozen_alloc _ ?_ ?_; focus (first | (simp; done) | (simp; omega))) | refine frozen_drewN _ ?_ | refine frozen_set _ _ ?_ | (refine frozen_below (by assumption) ?_ ?_; focus (first | (simp; done) | (simp; omega))))), own_row1 (by simp) (blk_new (by simp)), (by repeat (first | assumption | exact Below.refl _ _ | refine Below.drew ?_ | (refine below_alloc _ ?_ ?_; focus (first | omega | (simp; done) | (simp; omega) | (simp at *; omega))) | (refine below_set _ ?_ ?_; focus (first | omega | (simp; done) | (simp; omega) | (simp at *; omega))) | refine below_drewN ?_ _ | (refine below_call (by assumption) ?_ ?_; focus (first | omega | (simp; done) | (simp; omega) | (simp at *; omega))) | (refine below_call' (by assumption) ?_ ?_; focus (first | omega | (simp; done) | (simp; omega) | (simp at *; omega))))), by simp; omega⟩
      case round =>
        obtain ⟨k, lo, hi, out, A'', c'', hk, rfl, rfl, hlen, hh, hbd, s0, s1, y0, y1, hown, hbw, hsz⟩ := hrel
        obtain ⟨b1, b2, b3, b4⟩ := hbd
        have HM := Lib.hid hh
        have HLEN := Lib.hid hlen
        clear hh hlen
        have hz3 : w1.heap.size < wr.heap.size := by omega
        have hz4 : w.heap.size < wr.heap.size := by omega
        by_cases hlt : k < q1.length
        · obtain ⟨bb, oo, rfl, hbb, e0, e1⟩ := RngsAt.at_ (RowsAt.below hR hbw) hlt
          have hr := HRB.out q1[k] (List.getElem_mem hlt)
          rw [List.drop_eq_getElem_cons hlt, htA] at HM
          generalize q1[k] = r at *
          obtain ⟨r1, r2, r3, r4⟩ := hr
          have m0 := cell_below' hbw n0
          have m1 := cell_below' hbw n1
          have m2 := cell_below' hbw n2
          have hne1 : ¬ w1.heap.size = w2.heap.size := by omega
          have hne2 : ¬ w2.heap.size = w1.heap.size := by omega
          have hval : ∀ W, Calls Try.prog 82 #[.agg #[.slice (some ⟨b, off, none⟩) l.length cap, .int .i64 after, .int .i64 width], .int .i64 ((k : Int) + 1)] W fun e w' => e = .returned (.int .i64 (valI after width (k + 1))) ∧ Below W.heap.size W w' := fun W => by
            have h := valley_any (some ⟨b, off, none⟩) l.length cap (k + 1) after width W
            rw [show ((k + 1 : Nat) : Int) = (k : Int) + 1 by omega] at h
            exact h
          have HVAL := Lib.hid hval
          have hvb : 0 ≤ valI after width (k + 1) ∧ valI after width (k + 1) ≤ 500 := by unfold valI; split <;> omega
          clear hval
          generalize valI after width (k + 1) = vv at *
          obtain ⟨hv0, hv1⟩ := hvb
          go_wp2
          obtain ⟨x0', x1'⟩ := set2 (w := wr) (u := .int .i64 (lo + r.lo)) (v := .int .i64 (hi + r.hi)) s0 s1
          have x0 := cell_alloc (.cells #[.int .i64 r.lo, .int .i64 r.hi] 32) x0'
          have x1 := cell_alloc (.cells #[.int .i64 r.lo, .int .i64 r.hi] 32) x1'
          clear x0' x1'
          have hb3 : Below w2.heap.size w2 (((wr.setCell ⟨w2.heap.size, 0, none⟩ (.int .i64 (lo + r.lo))).setCell ⟨w2.heap.size, 1, none⟩ (.int .i64 (hi + r.hi))).alloc (.cells #[.int .i64 r.lo, .int .i64 r.hi] 32)) := (by repeat (first | assumption | exact Below.refl _ _ | refine Below.drew ?_ | (refine below_alloc _ ?_ ?_; focus (first | omega | (simp; done) | (simp; omega) | (simp at *; omega))) | (refine below_set _ ?_ ?_; focus (first | omega | (simp; done) | (simp; omega) | (simp at *; omega))) | refine below_drewN ?_ _ | (refine below_call (by assumption) ?_ ?_; focus (first | omega | (simp; done) | (simp; omega) | (simp at *; omega))) | (refine below_call' (by assumption) ?_ ?_; focus (first | omega | (simp; done) | (simp; omega) | (simp at *; omega)))))
          have hown3 := (ownsRow_setCell_below (ownsRow_setCell_below hown (a := ⟨w2.heap.size, 0, none⟩) (by simp) (.int .i64 (lo + r.lo))) (a := ⟨w2.heap.size, 1, none⟩) (by simp) (.int .i64 (hi + r.hi))).alloc (.cells #[.int .i64 r.lo, .int .i64 r.hi] 32)
          have y03 : (((wr.setCell ⟨w2.heap.size, 0, none⟩ (.int .i64 (lo + r.lo))).setCell ⟨w2.heap.size, 1, none⟩ (.int .i64 (hi + r.hi))).alloc (.cells #[.int .i64 r.lo, .int .i64 r.hi] 32)).frozen? ⟨w2.heap.size, 0, none⟩ = false := frozen_alloc _ (by simp; omega) (frozen_set _ _ (frozen_set _ _ y0))
          have y13 : (((wr.setCell ⟨w2.heap.size, 0, none⟩ (.int .i64 (lo + r.lo))).setCell ⟨w2.heap.size, 1, none⟩ (.int .i64 (hi + r.hi))).alloc (.cells #[.int .i64 r.lo, .int .i64 r.hi] 32)).frozen? ⟨w2.heap.size, 1, none⟩ = false := frozen_alloc _ (by simp; omega) (frozen_set _ _ (frozen_set _ _ y1))
          have m03 : (((wr.setCell ⟨w2.heap.size, 0, none⟩ (.int .i64 (lo + r.lo))).setCell ⟨w2.heap.size, 1, none⟩ (.int .i64 (hi + r.hi))).alloc (.cells #[.int .i64 r.lo, .int .i64 r.hi] 32)).cell? ⟨w1.heap.size, 0, none⟩ = some (.slice (some ⟨b, off, none⟩) l.length cap) := (by repeat (first | assumption | (refine cell_new ?_ rfl; focus (simp; done)) | refine cell_drew ?_ | refine cell_alloc _ ?_ | refine cell_drewN _ ?_ | (refine cell_far ?_ ?_; focus (first | omega | (simp; omega) | (simp; done))) | refine cell_below' (by assumption) ?_))
          have m13 : (((wr.setCell ⟨w2.heap.size, 0, none⟩ (.int .i64 (lo + r.lo))).setCell ⟨w2.heap.size, 1, none⟩ (.int .i64 (hi + r.hi))).alloc (.cells #[.int .i64 r.lo, .int .i64 r.hi] 32)).cell? ⟨w1.heap.size, 1, none⟩ = some (.int .i64 after) := (by repeat (first | assumption | (refine cell_new ?_ rfl; focus (simp; done)) | refine cell_drew ?_ | refine cell_alloc _ ?_ | refine cell_drewN _ ?_ | (refine cell_far ?_ ?_; focus (first | omega | (simp; omega) | (simp; done))) | refine cell_below' (by assumption) ?_))
          have m23 : (((wr.setCell ⟨w2.heap.size, 0, none⟩ (.int .i64 (lo + r.lo))).setCell ⟨w2.heap.size, 1, none⟩ (.int .i64 (hi + r.hi))).alloc (.cells #[.int .i64 r.lo, .int .i64 r.hi] 32)).cell? ⟨w1.heap.size, 2, none⟩ = some (.int .i64 width) := (by repeat (first | assumption | (refine cell_new ?_ rfl; focus (simp; done)) | refine cell_drew ?_ | refine cell_alloc _ ?_ | refine cell_drewN _ ?_ | (refine cell_far ?_ ?_; focus (first | omega | (simp; omega) | (simp; done))) | refine cell_below' (by assumption) ?_))
          have hsz3 : w2.heap.size < (((wr.setCell ⟨w2.heap.size, 0, none⟩ (.int .i64 (lo + r.lo))).setCell ⟨w2.heap.size, 1, none⟩ (.int .i64 (hi + r.hi))).alloc (.cells #[.int .i64 r.lo, .int .i64 r.hi] 32)).heap.size := by simp; omega
          generalize (((wr.setCell ⟨w2.heap.size, 0, none⟩ (.int .i64 (lo + r.lo))).setCell ⟨w2.heap.size, 1, none⟩ (.int .i64 (hi + r.hi))).alloc (.cells #[.int .i64 r.lo, .int .i64 r.hi] 32)) = w3 at *
          clear s0 s1 y0 y1 hown e0 e1 m0 m1 m2
          have hz5 : w1.heap.size < w3.heap.size := by omega

          (refine region_alloc (T := ?_) (obj := (.cells #[.int .i64 (lo + r.lo), .int .i64 (hi + r.hi + vv)] 32)) (val := (fun nb => .slice (some ⟨nb, 0, none⟩) 1 1)) 11 65 (by kernel_rfl) (by kernel_rfl) rfl rfl rfl (Nat.le_of_ble_eq_true rfl) ?_ ?_ ?_; rotate_left 1)
          focus (intro W0 hB0 hx; simp only [List.take_succ_cons, List.take_zero]; (repeat (any_goals (first | go_big_quiet_step ((go_at_call 82; exact ext_call (HVAL.out _))) | quiet_step ((go_at_call 82; exact ext_call (HVAL.out _)))))); refine wpQuiet_nil ?_; exact rfl)
          focus (intro W; go_simp; done)
          (intro W0 w4 hB0 hB1; obtain ⟨hbw4, hnw4, hsw4, hkw4⟩ := alloc_out hB0 hB1; clear hB0 hB1; simp only [List.drop_succ_cons, List.drop_zero]; generalize W0.heap.size = nb at *; clear W0)
          have hb4 : Below w2.heap.size w2 w4 := hb3.trans (hbw4.mono (by omega))
          have hrow := rows_one hkw4
          have hown4 := own_below hown3 hbw4
          replace x0 := cell_below' hbw4 x0
          replace x1 := cell_below' hbw4 x1
          have y0 := frozen_below hbw4 (show _ from hsz3) y03
          have y1 := frozen_below hbw4 (show _ from hsz3) y13
          have hlt2 := hown4.lt
          have hn1' : some w2.heap.size ≠ Value.ownBlock (.slice A'' (k + 1) c'') := fun e => by have := hlt2 _ e.symm; omega
          refine wpList_appRange w4 rfl (.tmp 54) (.tmp 65) rfl (w2.heap.size + 1) A'' (k + 1) c'' (cellsOf 2 rngC out) rfl hown4 (some ⟨nb, 0, none⟩) 1 1 (cellsOf 2 rngC [⟨lo + r.lo, hi + r.hi + vv⟩]) rfl rfl (fun e => by cases e) (fun ad e => by cases e; exact RowsAt.news hrow (by decide)) (cellsOf_one rngC_one (by decide) _) (by omega) (by omega) ?_
          intro A4 c4 w5 hown5 hg halt
          rw [← cellsOf_append] at hown5
          have hb5 : Below w2.heap.size w2 w5 := below_own hb4 hg hown4 (by omega) (by omega)
          have hsz5 : w2.heap.size < w5.heap.size := by have := hg.size; omega
          replace x0 := cell_grown hg x0 hn1'
          replace x1 := cell_grown hg x1 hn1'
          replace y0 := frozen_grown hg y0 (by simp; omega) hn1'
          replace y1 := frozen_grown hg y1 (by simp; omega) hn1'
          clear hg halt
          go_wp2
          go_roundw
          case rel => exact ⟨k + 1, _, _, _, A4, c4, by omega, by go_num, rfl, by simp [HLEN.out], HM.out, ⟨by omega, by omega, by omega, by omega⟩, x0, x1, y0, y1, hown5, hb5, hsz5⟩
          case measure => simp [intOf]; omega
        · obtain rfl : k = q1.length := by omega
          rw [List.drop_length, htA] at HM
          go_wp2
          go_ret2
          have hk2 := HLEN.out
          unfold HtsPost
          rw [HM.out, HE.out, hk2]
          exact ⟨A'', c'', rfl, own_mono hown (by omega), (by repeat (first | assumption | exact Below.refl _ _ | refine Below.drew ?_ | (refine below_alloc _ ?_ ?_; focus (first | omega | (simp; done) | (simp; omega) | (simp at *; omega))) | (refine below_set _ ?_ ?_; focus (first | omega | (simp; done) | (simp; omega) | (simp at *; omega))) | refine below_drewN ?_ _ | (refine below_call (by assumption) ?_ ?_; focus (first | omega | (simp; done) | (simp; omega) | (simp at *; omega))) | (refine below_call' (by assumption) ?_ ?_; focus (first | omega | (simp; done) | (simp; omega) | (simp at *; omega)))))⟩
  · have h1 := H1.out
    rw [if_pos h0] at h1
    have h2 := H2.out
    rw [h1, if_neg h0] at h2
    have H1' := Lib.hid h1
    have H2' := Lib.hid h2
    have h0' : (chkTE l after width == 0) = false := by simpa using h0
    have h0'' : (chkTE l after width != 0) = true := by simpa using h0
    clear h0 h1 h2 H1 H2
    go_wp2
    go_ret2
    unfold HtsPost
    rw [H1'.out, H2'.out]
    exact ⟨none, 0, rfl, World.ownsRow_nil _ _ _ _, (by repeat (first | assumption | exact Below.refl _ _ | refine Below.drew ?_ | (refine below_alloc _ ?_ ?_; focus (first | omega | (simp; done) | (simp; omega) | (simp at *; omega))) | (refine below_set _ ?_ ?_; focus (first | omega | (simp; done) | (simp; omega) | (simp at *; omega))) | refine below_drewN ?_ _ | (refine below_call (by assumption) ?_ ?_; focus (first | omega | (simp; done) | (simp; omega) | (simp at *; omega))) | (refine below_call' (by assumption) ?_ ?_; focus (first | omega | (simp; done) | (simp; omega) | (simp at *; omega)))))⟩
end Go.Proofs.Ytoegpaolbkcleaa
