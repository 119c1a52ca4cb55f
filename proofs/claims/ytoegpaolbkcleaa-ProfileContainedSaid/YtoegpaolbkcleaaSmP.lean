/-
  The profile of a sample, with its valley: what it answers (plain).
-/
import Derived.Test.YtoegpaolbkcleaaCtP
namespace Go.Proofs.Ytoegpaolbkcleaa
open Go.ChangeShapes Go.WideShapes Go.ChangeAt Go.RowKit
set_option linter.unusedVariables false
set_option linter.unusedSimpArgs false

/-- a sample that is one -/
structure Smp (fs ths wds : List Int) (base after width sq : Int) : Prop where
  n0 : 0 < fs.length
  n1 : fs.length ≤ 8
  nt : ths.length = fs.length
  nw : wds.length = fs.length
  b0 : 0 ≤ base
  b1 : base ≤ 500
  a0 : 0 ≤ after
  a1 : after < fs.length
  w0 : 0 ≤ width
  w1 : width ≤ 500
  fr : ∀ i (h : i < fs.length), 1 ≤ fs[i] ∧ fs[i] ≤ 3000
  inc : ∀ i (h : i + 1 < fs.length), fs[i] < fs[i + 1]
  th : ∀ i (h : i < ths.length), 0 ≤ ths[i] ∧ ths[i] ≤ 500
  wd : ∀ i (h : i < wds.length), 0 ≤ wds[i] ∧ wds[i] ≤ 1000
  s0 : 0 ≤ sq
  s1 : ∀ h : after.toNat < fs.length, sq < fs[after.toNat] * fs[after.toNat]
def smS (fs ths : List Int) : List Slb := List.zipWith (fun f t => (⟨f * f, t⟩ : Slb)) fs ths
theorem Smp.inc' {fs ths wds : List Int} {base after width sq : Int} (h : Smp fs ths wds base after width sq) : ∀ (d i : Nat) (hj : i + d + 1 < fs.length), fs[i] < fs[i + d + 1]
  | 0, i, hj => h.inc i hj
  | d + 1, i, hj => by
    have h1 := Smp.inc' h d i (by omega)
    have h2 := h.inc (i + d + 1) (by omega)
    have e : i + (d + 1) + 1 = i + d + 1 + 1 := by omega
    simp only [e]
    omega
theorem Smp.lt {fs ths wds : List Int} {base after width sq : Int} (h : Smp fs ths wds base after width sq) {i j : Nat} (hi : i < fs.length) (hj : j < fs.length) (hij : i < j) : 0 ≤ fs[i] * fs[i] ∧ fs[i] * fs[i] < fs[j] * fs[j] := by
  have h1 := h.inc' (j - i - 1) i (by omega)
  have e : i + (j - i - 1) + 1 = j := by omega
  simp only [e] at h1
  have h2 := h.fr i hi
  exact ⟨Int.mul_nonneg (by omega) (by omega), sq_lt (by omega) h1⟩
theorem smS_len {fs ths wds : List Int} {base after width sq : Int} (h : Smp fs ths wds base after width sq) : (smS fs ths).length = fs.length := by
  unfold smS
  rw [List.length_zipWith, h.nt, Nat.min_self]
theorem smS_get (fs ths : List Int) {i : Nat} (h : i < (smS fs ths).length) (h1 : i < fs.length) (h2 : i < ths.length) : (smS fs ths)[i] = ⟨fs[i] * fs[i], ths[i]⟩ := by
  unfold smS
  exact List.getElem_zipWith
/-- the slabs with a valley -/
def vly (S : List Slb) (a : Nat) (sq wv : Int) : List Slb := if a + 1 < S.length ∧ 0 < wv then S.take (a + 1) ++ ⟨sq, wv⟩ :: S.drop (a + 1) else S
def vA (n a : Nat) (wv : Int) (i : Nat) : Int := if a + 1 < n ∧ 0 < wv ∧ a < i then wv else 0
theorem refl_split {base f : Int} {l P Q : List Slb} {x : Slb} (he : l = P ++ x :: Q) (hc : chkE base l = 0) (f0 : 1 ≤ f) (f1 : f ≤ 3000) (hP : ∀ y ∈ P, y.sq < f * f) (hx : f * f ≤ x.sq) :
    reflAtE base l f = 0 ∧ reflAt1 base l f = base + sumTh P ∧ vatLo base l f = (1000 * base + sumLo f P) / 1000 ∧ vatHi base l f = ceilI (1000 * base + sumHi f P) 1000 := by
  subst he
  have ht : (P ++ x :: Q).take P.length = P := by simp
  have := reflAt_of (base := base) (l := P ++ x :: Q) (f := f) (k := P.length) hc f0 f1 (by simp) (fun j hj hjk => by rw [List.getElem_append_left hjk]; exact hP _ (List.getElem_mem hjk)) (by simpa using hx)
  obtain ⟨h0, h2, h1⟩ := this
  rw [ht] at h1
  refine ⟨h0, h1, ?_, ?_⟩
  · unfold vatLo virtLo; rw [if_pos h0, h2, Int.toNat_natCast, ht]
  · unfold vatHi virtHi; rw [if_pos h0, h2, Int.toNat_natCast, ht]
theorem split_at {α : Type} (l : List α) (i : Nat) (h : i < l.length) : l = l.take i ++ l[i] :: l.drop (i + 1) := by
  rw [← List.drop_eq_getElem_cons h, List.take_append_drop]
theorem Smp.mem {fs ths wds : List Int} {base after width sq : Int} (h : Smp fs ths wds base after width sq) : ∀ x ∈ smS fs ths, 0 ≤ x.sq ∧ x.sq ≤ 9000000 ∧ 0 ≤ x.th ∧ x.th ≤ 500 := fun x hx => by
  obtain ⟨i, hi, rfl⟩ := List.getElem_of_mem hx
  have hl := smS_len h
  have hn := h.nt
  rw [smS_get fs ths hi (by omega) (by omega)]
  have h1 := h.fr i (by omega)
  have h2 := h.th i (by omega)
  have h3 := sq_bd fs[i] (by omega) h1.2
  exact ⟨h3.1, h3.2, h2.1, h2.2⟩
theorem vly_ok {fs ths wds : List Int} {base after width sq : Int} (h : Smp fs ths wds base after width sq) {wv : Int} (v1 : wv ≤ width) : Ok base (vly (smS fs ths) after.toNat sq wv) := by
  have hl := smS_len h
  have n0 := h.n0
  have n1 := h.n1
  have w1 := h.w1
  have a0 := h.a0
  have a1 := h.a1
  unfold vly
  split
  · rename_i hv
    refine ⟨h.b0, h.b1, by simp; omega, by simp; omega, fun x hx => ?_⟩
    rcases List.mem_append.1 hx with hx | hx
    · exact h.mem x (List.mem_of_mem_take hx)
    · rcases List.mem_cons.1 hx with hx | hx
      · subst hx
        have s0 := h.s0
        have s1 := h.s1 (by omega)
        have hf := h.fr after.toNat (by omega)
        have := sq_bd fs[after.toNat] (by omega) hf.2
        exact ⟨s0, by show sq ≤ _; omega, by show 0 ≤ wv; omega, by show wv ≤ 500; omega⟩
      · exact h.mem x (List.mem_of_mem_drop hx)
  · exact ⟨h.b0, h.b1, by omega, by omega, h.mem⟩
/-- what a profile of a sample, with its valley, answers at a frequency of it -/
theorem vly_at {fs ths wds : List Int} {base after width sq : Int} (h : Smp fs ths wds base after width sq) {wv : Int} (v0 : 0 ≤ wv) (v1 : wv ≤ width) {i : Nat} (hi : i < fs.length) :
    reflAtE base (vly (smS fs ths) after.toNat sq wv) fs[i] = 0 ∧ reflAt1 base (vly (smS fs ths) after.toNat sq wv) fs[i] = base + sumTh ((smS fs ths).take i) + vA fs.length after.toNat wv i ∧
    vatLo base (vly (smS fs ths) after.toNat sq wv) fs[i] = (1000 * base + sumLo fs[i] ((smS fs ths).take i) + vA fs.length after.toNat wv i * idxLo sq fs[i]) / 1000 ∧
    vatHi base (vly (smS fs ths) after.toNat sq wv) fs[i] = ceilI (1000 * base + sumHi fs[i] ((smS fs ths).take i) + vA fs.length after.toNat wv i * idxHi sq fs[i]) 1000 := by
  have hl := smS_len h
  have hn := h.nt
  have hc := chk_of_ok (vly_ok h v1)
  have hf := h.fr i hi
  have a0 := h.a0
  have a1 := h.a1
  have hiS : i < (smS fs ths).length := by omega
  have hg := smS_get fs ths hiS hi (by omega)
  have hx : fs[i] * fs[i] ≤ (smS fs ths)[i].sq := by rw [hg]; exact Int.le_refl _
  have hP : ∀ y ∈ (smS fs ths).take i, y.sq < fs[i] * fs[i] := fun y hy => by
    obtain ⟨j, hj, rfl⟩ := List.getElem_of_mem hy
    simp only [List.length_take] at hj
    rw [List.getElem_take, smS_get fs ths (by omega) (by omega) (by omega)]
    exact (h.lt (i := j) (j := i) (by omega) hi (by omega)).2
  have hs := split_at (smS fs ths) i hiS
  by_cases hv : after.toNat + 1 < fs.length ∧ 0 < wv
  · have hvl : vly (smS fs ths) after.toNat sq wv = (smS fs ths).take (after.toNat + 1) ++ ⟨sq, wv⟩ :: (smS fs ths).drop (after.toNat + 1) := by unfold vly; rw [if_pos ⟨by omega, hv.2⟩]
    by_cases hai : after.toNat < i
    · have hA : vA fs.length after.toNat wv i = wv := by unfold vA; rw [if_pos ⟨hv.1, hv.2, hai⟩]
      have s1 := h.s1 (by omega)
      have hlt := h.lt (i := after.toNat) (j := i) (by omega) hi hai
      obtain ⟨m, rfl⟩ : ∃ m, i = after.toNat + 1 + m := ⟨i - (after.toNat + 1), by omega⟩
      have hm : m < ((smS fs ths).drop (after.toNat + 1)).length := by simp; omega
      have hB := split_at ((smS fs ths).drop (after.toNat + 1)) m hm
      rw [List.getElem_drop] at hB
      have ht : (smS fs ths).take (after.toNat + 1 + m) = (smS fs ths).take (after.toNat + 1) ++ ((smS fs ths).drop (after.toNat + 1)).take m := List.take_add
      have he : vly (smS fs ths) after.toNat sq wv = ((smS fs ths).take (after.toNat + 1) ++ ⟨sq, wv⟩ :: ((smS fs ths).drop (after.toNat + 1)).take m) ++ (smS fs ths)[after.toNat + 1 + m] :: ((smS fs ths).drop (after.toNat + 1)).drop (m + 1) := by
        rw [hvl, List.append_assoc, List.cons_append, ← hB]
      rw [ht] at hP ⊢
      obtain ⟨r0, r1, r2, r3⟩ := refl_split he hc hf.1 hf.2 (fun y hy => by
        rcases List.mem_append.1 hy with hy | hy
        · exact hP y (List.mem_append_left _ hy)
        · rcases List.mem_cons.1 hy with hy | hy
          · subst hy; show sq < _; omega
          · exact hP y (List.mem_append_right _ hy)) hx
      simp only [sumTh_append, sumLo_append, sumHi_append, sumTh, sumLo, sumHi] at r1 r2 r3 ⊢
      rw [hA]
      refine ⟨r0, by rw [r1]; omega, ?_, ?_⟩
      · rw [r2]; congr 1; omega
      · rw [r3]; congr 1; omega
    · have hA : vA fs.length after.toNat wv i = 0 := by unfold vA; rw [if_neg (by omega)]
      have hiT : i < ((smS fs ths).take (after.toNat + 1)).length := by simp; omega
      have hT := split_at ((smS fs ths).take (after.toNat + 1)) i hiT
      rw [List.getElem_take, List.take_take, Nat.min_eq_left (by omega)] at hT
      have he : vly (smS fs ths) after.toNat sq wv = (smS fs ths).take i ++ (smS fs ths)[i] :: (((smS fs ths).take (after.toNat + 1)).drop (i + 1) ++ ⟨sq, wv⟩ :: (smS fs ths).drop (after.toNat + 1)) := by
        rw [hvl]
        generalize (⟨sq, wv⟩ : Slb) :: (smS fs ths).drop (after.toNat + 1) = Z
        rw [← List.cons_append, ← List.append_assoc, ← hT]
      obtain ⟨r0, r1, r2, r3⟩ := refl_split he hc hf.1 hf.2 hP hx
      rw [hA]
      simp only [Int.add_zero, Int.zero_mul]
      exact ⟨r0, r1, r2, r3⟩
  · have hvl : vly (smS fs ths) after.toNat sq wv = smS fs ths := by unfold vly; rw [if_neg (by omega)]
    have hA : vA fs.length after.toNat wv i = 0 := by unfold vA; rw [if_neg (by omega)]
    rw [hvl] at hc ⊢
    obtain ⟨r0, r1, r2, r3⟩ := refl_split hs hc hf.1 hf.2 hP hx
    rw [hA]
    simp only [Int.add_zero, Int.zero_mul]
    exact ⟨r0, r1, r2, r3⟩
theorem vat_big {base : Int} {l : List Slb} {f : Int} (h : reflAtE base l f = 0) : vatHi base l f ≤ 20000000 := by
  obtain ⟨k, h2, hk, hp, f0, hs, h1⟩ := reflAt_said h
  have b1 := hp.ok.b1
  have hb := hp.bd k (Nat.le_refl _)
  unfold vatHi virtHi ceilI
  rw [if_pos h, h2, Int.toNat_natCast]
  omega
theorem vA_bd (n a : Nat) {wv : Int} (v0 : 0 ≤ wv) (i : Nat) : 0 ≤ vA n a wv i ∧ vA n a wv i ≤ wv := by
  unfold vA; split <;> omega
def maxZ (x : Int) : Int := if 0 ≤ x then x else 0
/-- the pixel of a point of a sample -/
def smPt (base : Int) (lp : List Slb) (f wd : Int) : Pt := ⟨f, maxZ (vatLo base lp f - wd), vatHi base lp f + wd⟩
theorem smp_cont {fs ths wds : List Int} {base after width sq : Int} (h : Smp fs ths wds base after width sq) {wv : Int} (v0 : 0 ≤ wv) (v1 : wv ≤ width) {l : List Pt} (hl : l.length = fs.length)
    (hp : ∀ i (hi : i < l.length) (hf : i < fs.length) (hw : i < wds.length), l[i] = smPt base (vly (smS fs ths) after.toNat sq wv) fs[i] wds[i]) (hc : chkTE l after width = 0) :
    Cont l after width base (smS fs ths) := by
  have hO := okT_of_chk hc
  have hS := smS_len h
  have hn := h.nt
  have hnw := h.nw
  have a0 := h.a0
  have a1 := h.a1
  have hb0 := h.b0
  have key : ∀ i (hi : i < l.length) (hf : i < fs.length), l[i].f = fs[i] ∧ 1000 * l[i].lo ≤ 1000 * base + sumLo fs[i] ((smS fs ths).take i) + vA fs.length after.toNat wv i * idxLo sq fs[i] ∧ 1000 * base + sumHi fs[i] ((smS fs ths).take i) + vA fs.length after.toNat wv i * idxHi sq fs[i] ≤ 1000 * l[i].hi := fun i hi hf => by
    obtain ⟨r0, r1, r2, r3⟩ := vly_at h v0 v1 hf
    have hw := h.wd i (by omega)
    have h1 := thk_one r0
    rw [hp i hi hf (by omega)]
    refine ⟨rfl, ?_, ?_⟩
    · show 1000 * maxZ _ ≤ _
      unfold maxZ
      split <;> omega
    · show _ ≤ 1000 * (vatHi base (vly (smS fs ths) after.toNat sq wv) fs[i] + wds[i])
      rw [r3]
      unfold ceilI
      omega
  refine ⟨hO, ⟨by omega, fun i hi hk => ?_⟩, fun s hs => (h.mem s hs).2.2, fun h0 => ?_, fun h0 => ?_, fun k hk => ?_, fun k hk => ?_⟩
  · rw [smS_get fs ths hk (by omega) (by omega), (key i hi (by omega)).1]
  · obtain ⟨_, k1, _⟩ := key 0 h0 (by omega)
    have : vA fs.length after.toNat wv 0 = 0 := by unfold vA; rw [if_neg (by omega)]
    rw [this] at k1
    simp only [List.take_zero, sumLo, Int.zero_mul] at k1
    omega
  · obtain ⟨_, _, k1⟩ := key 0 h0 (by omega)
    have : vA fs.length after.toNat wv 0 = 0 := by unfold vA; rw [if_neg (by omega)]
    rw [this] at k1
    simp only [List.take_zero, sumHi, Int.zero_mul] at k1
    omega
  · obtain ⟨k0, k1, _⟩ := key (k + 1) hk (by omega)
    rw [k0]
    have hf := h.fr (k + 1) (by omega)
    have : vA fs.length after.toNat wv (k + 1) * idxLo sq fs[k + 1] ≤ valI after width (k + 1) * idxHi (fAt l after.toNat * fAt l after.toNat) fs[k + 1] := by
      unfold vA valI
      by_cases ha : after < ((k + 1 : Nat) : Int)
      · rw [if_pos ha]
        have hlt := h.lt (i := after.toNat) (j := k + 1) (by omega) (by omega) (by omega)
        have s1 := h.s1 (by omega)
        have s0 := h.s0
        rw [fAt_eq (by omega), (key after.toNat (by omega) (by omega)).1]
        have m1 := idxLo_mono (f := fs[k + 1]) s0 (by omega : sq ≤ fs[after.toNat] * fs[after.toNat]) hlt.2 (by omega) hf.2
        have b1 := idxLo_bd sq fs[k + 1] s0 (by omega) (by omega) hf.2
        have b2 := idxLo_bd (fs[after.toNat] * fs[after.toNat]) fs[k + 1] hlt.1 hlt.2 (by omega) hf.2
        have b3 := idxHi_bd (fs[after.toNat] * fs[after.toNat]) fs[k + 1] hlt.1 hlt.2 (by omega) hf.2
        refine Int.mul_le_mul ?_ (by omega) (by omega) h.w0
        have := h.w0
        split <;> omega
      · rw [if_neg ha, if_neg (by omega)]; simp
    omega
  · obtain ⟨k0, _, k1⟩ := key (k + 1) hk (by omega)
    rw [k0]
    have hf := h.fr (k + 1) (by omega)
    have : 0 ≤ vA fs.length after.toNat wv (k + 1) * idxHi sq fs[k + 1] := by
      unfold vA
      by_cases ha : after.toNat + 1 < fs.length ∧ 0 < wv ∧ after.toNat < k + 1
      · rw [if_pos ha]
        have hlt := h.lt (i := after.toNat) (j := k + 1) (by omega) (by omega) (by omega)
        have s1 := h.s1 (by omega)
        have s0 := h.s0
        have b1 := idxLo_bd sq fs[k + 1] s0 (by omega) (by omega) hf.2
        have b3 := idxHi_bd sq fs[k + 1] s0 (by omega) (by omega) hf.2
        exact Int.mul_nonneg v0 (by omega)
      · rw [if_neg ha]; simp
    omega
/-- the thicknesses and the heights of a sample lie in what its trace gives -/
theorem smp_said {fs ths wds : List Int} {base after width sq : Int} (h : Smp fs ths wds base after width sq) {wv : Int} (v0 : 0 ≤ wv) (v1 : wv ≤ width) {l : List Pt} (hl : l.length = fs.length)
    (hp : ∀ i (hi : i < l.length) (hf : i < fs.length) (hw : i < wds.length), l[i] = smPt base (vly (smS fs ths) after.toNat sq wv) fs[i] wds[i]) (hc : chkTE l after width = 0) :
    ∃ o, lam l after width = (o, 0, true) ∧ o.length + 1 = fs.length ∧ (∀ i (hi : i < o.length) (ht : i < ths.length), o[i].lo ≤ ths[i] ∧ ths[i] ≤ o[i].hi) ∧ (hts l after width o).length = fs.length ∧
      ∀ i (hi : i < (hts l after width o).length) (hf : i < fs.length), (hts l after width o)[i].lo ≤ reflAt1 base (vly (smS fs ths) after.toNat sq wv) fs[i] ∧ reflAt1 base (vly (smS fs ths) after.toNat sq wv) fs[i] ≤ (hts l after width o)[i].hi := by
  have hC := smp_cont h v0 v1 hl hp hc
  obtain ⟨o, h1, h2, h3⟩ := lam_in hC
  have hH := hts_in hC h3
  have hS := smS_len h
  have hlen : (hts l after width o).length = fs.length := by rw [hts_len]; omega
  have a0 := h.a0
  have a1 := h.a1
  refine ⟨o, h1, by omega, fun i hi ht => ?_, hlen, fun i hi hf => ?_⟩
  · obtain ⟨hs, e1, e2⟩ := InS.at_ o _ h3 i hi
    rw [smS_get fs ths hs (by omega) ht] at e1 e2
    exact ⟨e1, e2⟩
  · obtain ⟨e1, e2⟩ := hH i hi
    rw [(vly_at h v0 v1 hf).2.1]
    have hv := vA_bd fs.length after.toNat v0 i
    have : vA fs.length after.toNat wv i ≤ valI after width i := by
      have := h.w0
      unfold vA valI
      split <;> split <;> omega
    omega
end Go.Proofs.Ytoegpaolbkcleaa
