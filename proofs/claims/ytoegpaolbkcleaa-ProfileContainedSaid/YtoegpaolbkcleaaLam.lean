/-
  The lamination of a trace.
-/
import Derived.Test.YtoegpaolbkcleaaTrc
import Derived.Test.YtoegpaolbkcleaaAppT
namespace Go.Proofs.Ytoegpaolbkcleaa
open Go.ChangeShapes Go.WideShapes Go.ChangeAt Go.RowKit
set_option linter.unusedVariables false
set_option linter.unusedSimpArgs false

/-- a valid trace -/
structure OkT (l : List Pt) (after width : Int) : Prop where
  n0 : 0 < l.length
  n1 : l.length ≤ 8
  w0 : 0 ≤ width
  w1 : width ≤ 500
  a0 : 0 ≤ after
  a1 : after < l.length
  pt : ∀ x ∈ l, 1 ≤ x.f ∧ x.f ≤ 3000 ∧ 0 ≤ x.lo ∧ x.lo ≤ x.hi ∧ x.hi ≤ 20000
  inc : ∀ i j (hi : i < l.length) (hj : j < l.length), i < j → l[i].f < l[j].f
theorem firstE3 {a b c : Int} : firstE [a, b, c] = 0 ↔ a = 0 ∧ b = 0 ∧ c = 0 := by
  unfold firstE
  by_cases h : a = 0
  · rw [if_pos h, firstE2]; simp [h]
  · rw [if_neg h]; simp [h]
theorem firstE4 {a b c d : Int} : firstE [a, b, c, d] = 0 ↔ a = 0 ∧ b = 0 ∧ c = 0 ∧ d = 0 := by
  unfold firstE
  by_cases h : a = 0
  · rw [if_pos h, firstE3]; simp [h]
  · rw [if_neg h]; simp [h]
theorem ptE_ok {last : Int} {p : Pt} (h : ptE last p = 0) : (1 ≤ p.f ∧ p.f ≤ 3000 ∧ 0 ≤ p.lo ∧ p.lo ≤ p.hi ∧ p.hi ≤ 20000) ∧ last < p.f := by
  unfold ptE at h
  rw [firstE3, unl_zero (by decide), unl_zero (by decide), unl_zero (by decide), withinB_true, Bool.and_eq_true, Bool.and_eq_true, withinB_true, withinB_true, decide_eq_true_eq, decide_eq_true_eq] at h
  omega
theorem badPt_ok : ∀ (l : List Pt) (last i : Int), (badPt l last i).2 = 0 → (∀ x ∈ l, 1 ≤ x.f ∧ x.f ≤ 3000 ∧ 0 ≤ x.lo ∧ x.lo ≤ x.hi ∧ x.hi ≤ 20000) ∧ (∀ x ∈ l, last < x.f) ∧ ∀ i j (hi : i < l.length) (hj : j < l.length), i < j → l[i].f < l[j].f
  | [], last, i, _ => ⟨fun x h => (by cases h), fun x h => (by cases h), fun i j hi _ _ => absurd hi (by simp)⟩
  | p :: r, last, i, h => by
    unfold badPt at h
    by_cases h0 : ptE last p = 0
    · rw [if_pos h0] at h
      obtain ⟨h1, h2⟩ := ptE_ok h0
      obtain ⟨i1, i2, i3⟩ := badPt_ok r p.f (i + 1) h
      refine ⟨fun x hx => (List.mem_cons.1 hx).elim (fun e => e ▸ h1) (i1 x), fun x hx => (List.mem_cons.1 hx).elim (fun e => e ▸ h2) (fun hx => by have := i2 x hx; omega), fun a b ha hb hab => ?_⟩
      cases b with
      | zero => omega
      | succ b =>
        cases a with
        | zero => exact i2 _ (List.getElem_mem _)
        | succ a => exact i3 a b (by simpa using ha) (by simpa using hb) (by omega)
    · rw [if_neg h0] at h; exact absurd h h0
theorem okT_of_chk {l : List Pt} {after width : Int} (h : chkTE l after width = 0) : OkT l after width := by
  unfold chkTE chkT at h
  by_cases h0 : chkTHead l.length after width = 0
  · rw [if_neg (by simp [h0])] at h
    obtain ⟨h1, h2, h3⟩ := badPt_ok l 0 0 h
    unfold chkTHead at h0
    rw [firstE4, unl_zero (by decide), unl_zero (by decide), unl_zero (by decide), unl_zero (by decide), decide_eq_true_eq, decide_eq_true_eq, withinB_true, withinB_true] at h0
    exact ⟨by omega, by omega, by omega, by omega, by omega, by omega, h1, h3⟩
  · rw [if_pos h0] at h; exact absurd h h0

set_option maxHeartbeats 1000000 in
theorem openTrace_any (A : Option Addr) (l : List Pt) (cap : Nat) (after width : Int) (w : World) (hl : l.length ≤ 100) (hA : PtsAt w A l) :
    Calls Try.prog 80 #[.agg #[.slice A l.length cap, .int .i64 after, .int .i64 width]] w fun e w' => e = .returned (.tuple #[.agg #[.slice A l.length cap, .int .i64 after, .int .i64 width], .int .i64 (chkTE l after width)]) ∧ Below w.heap.size w w' := by
  have he : chkTE l after width = (chkT l after width).2 := rfl
  have HE := Lib.hid he
  clear he
  go_enter Try.func80, Try.ntmps80
  go_wp2_with (fail)
  refine (CheckTrace_any A l cap after width _ hl (hA.below (by repeat (first | assumption | exact Below.refl _ _ | refine Below.drew ?_ | (refine below_alloc _ ?_ ?_; focus (first | omega | (simp; done) | (simp; omega) | (simp at *; omega))) | (refine below_set _ ?_ ?_; focus (first | omega | (simp; done) | (simp; omega) | (simp at *; omega))) | refine below_drewN ?_ _ | (refine below_call (by assumption) ?_ ?_; focus (first | omega | (simp; done) | (simp; omega) | (simp at *; omega))) | (refine below_call' (by assumption) ?_ ?_; focus (first | omega | (simp; done) | (simp; omega) | (simp at *; omega))))))).mono ?_
  rintro e w1 ⟨rfl, hb1⟩
  have hz1 := hb1.size
  obtain ⟨hc1, hf1⟩ := bcell hb1
  simp at hz1 hc1 hf1
  go_wp2
  refine bodyPost_ret (v := .tuple #[.agg #[.slice A l.length cap, .int .i64 after, .int .i64 width], .int .i64 (chkT l after width).2]) (by simp [results, Try.results80, go_sem, hc1]) rfl ⟨ret_eq (by rw [HE.out]), (by repeat (first | assumption | exact Below.refl _ _ | refine Below.drew ?_ | (refine below_alloc _ ?_ ?_; focus (first | omega | (simp; done) | (simp; omega) | (simp at *; omega))) | (refine below_set _ ?_ ?_; focus (first | omega | (simp; done) | (simp; omega) | (simp at *; omega))) | refine below_drewN ?_ _ | (refine below_call (by assumption) ?_ ?_; focus (first | omega | (simp; done) | (simp; omega) | (simp at *; omega))) | (refine below_call' (by assumption) ?_ ?_; focus (first | omega | (simp; done) | (simp; omega) | (simp at *; omega)))))⟩

theorem square_any (A : Option Addr) (l : List Pt) (n cap k : Nat) (after width : Int) (w : World) (hk : k < l.length) (hn : l.length = n) (hA : PtsAt w A l) (h0 : 0 ≤ l[k].f) (h1 : l[k].f ≤ 3000) :
    Calls Try.prog 84 #[.agg #[.slice A n cap, .int .i64 after, .int .i64 width], .int .i64 k] w fun e w' => e = .returned (.int .i64 (l[k].f * l[k].f)) ∧ Below w.heap.size w w' := by
  subst hn
  obtain ⟨b, off, rfl, hb, c0, c1, c2⟩ := PtsAt.at_ hA hk
  have hs := sq_bd l[k].f h0 h1
  obtain ⟨hs0, hs1⟩ := hs
  generalize l[k] = p at *
  clear hA
  go_enter Try.func84, Try.ntmps84
  go_wp2
  go_ret
  exact ⟨rfl, (by repeat (first | assumption | exact Below.refl _ _ | refine Below.drew ?_ | (refine below_alloc _ ?_ ?_; focus (first | omega | (simp; done) | (simp; omega) | (simp at *; omega))) | (refine below_set _ ?_ ?_; focus (first | omega | (simp; done) | (simp; omega) | (simp at *; omega))) | refine below_drewN ?_ _ | (refine below_call (by assumption) ?_ ?_; focus (first | omega | (simp; done) | (simp; omega) | (simp at *; omega))) | (refine below_call' (by assumption) ?_ ?_; focus (first | omega | (simp; done) | (simp; omega) | (simp at *; omega)))))⟩
def valI (after width : Int) (k : Nat) : Int := if after < k then width else 0
theorem valley_any (S : Option Addr) (n cap k : Nat) (after width : Int) (w : World) :
    Calls Try.prog 82 #[.agg #[.slice S n cap, .int .i64 after, .int .i64 width], .int .i64 k] w fun e w' => e = .returned (.int .i64 (valI after width k)) ∧ Below w.heap.size w w' := by
  have hv : valI after width k = if after < k then width else 0 := rfl
  have HV := Lib.hid hv
  clear hv
  by_cases h : after < k
  · rw [if_pos h] at HV
    go_enter Try.func82, Try.ntmps82
    go_wp2
    go_ret
    exact ⟨ret_eq (by rw [HV.out]; rfl), (by repeat (first | assumption | exact Below.refl _ _ | refine Below.drew ?_ | (refine below_alloc _ ?_ ?_; focus (first | omega | (simp; done) | (simp; omega) | (simp at *; omega))) | (refine below_set _ ?_ ?_; focus (first | omega | (simp; done) | (simp; omega) | (simp at *; omega))) | refine below_drewN ?_ _ | (refine below_call (by assumption) ?_ ?_; focus (first | omega | (simp; done) | (simp; omega) | (simp at *; omega))) | (refine below_call' (by assumption) ?_ ?_; focus (first | omega | (simp; done) | (simp; omega) | (simp at *; omega)))))⟩
  · rw [if_neg h] at HV
    have hd : decide (after < (k : Int)) = false := by simpa using h
    go_enter Try.func82, Try.ntmps82
    go_wp2
    go_ret
    exact ⟨ret_eq (by rw [HV.out]; rfl), (by repeat (first | assumption | exact Below.refl _ _ | refine Below.drew ?_ | (refine below_alloc _ ?_ ?_; focus (first | omega | (simp; done) | (simp; omega) | (simp at *; omega))) | (refine below_set _ ?_ ?_; focus (first | omega | (simp; done) | (simp; omega) | (simp at *; omega))) | refine below_drewN ?_ _ | (refine below_call (by assumption) ?_ ?_; focus (first | omega | (simp; done) | (simp; omega) | (simp at *; omega))) | (refine below_call' (by assumption) ?_ ?_; focus (first | omega | (simp; done) | (simp; omega) | (simp at *; omega)))))⟩

structure Rng where
  lo : Int
  hi : Int
def rngC (x : Rng) : Nat → Value
  | 0 => .int .i64 x.lo
  | _ => .int .i64 x.hi
theorem rngC_one (x : Rng) (i : Nat) : (rngC x i).oneCell' = true := by
  unfold rngC; split <;> rfl
def lamA (f : Int) : List Pt → List Rng → Int → Int
  | p :: ps, r :: rs, a => lamA f ps rs (a - r.hi * idxHi (p.f * p.f) f)
  | _, _, a => a
def lamB (f : Int) : List Pt → List Rng → Int → Int
  | p :: ps, r :: rs, a => lamB f ps rs (a - r.lo * idxLo (p.f * p.f) f)
  | _, _, a => a
def fAt (l : List Pt) (k : Nat) : Int := (l.getD k ⟨0, 0, 0⟩).f
def posI (x : Int) : Int := if 0 < x then x else 0
def ownLo (l : List Pt) (after width : Int) (p0 p : Pt) (k : Nat) (out : List Rng) : Int :=
  posI ((lamA p.f l out (1000 * (p.lo - p0.hi)) - valI after width (k + 1) * idxHi (fAt l after.toNat * fAt l after.toNat) p.f) / idxHi (fAt l k * fAt l k) p.f)
def ownHi (l : List Pt) (p0 p : Pt) (k : Nat) (out : List Rng) : Int :=
  ceilI (lamB p.f l out (1000 * (p.hi - p0.lo))) (idxLo (fAt l k * fAt l k) p.f)
def lamGo (l : List Pt) (after width : Int) (p0 : Pt) : List Pt → Nat → List Rng → List Rng × Int × Bool
  | [], _, out => (out, 0, true)
  | p :: r, k, out => if lamB p.f l out (1000 * (p.hi - p0.lo)) < 0 then ([], (k + 1 : Nat), false) else lamGo l after width p0 r (k + 1) (out ++ [⟨ownLo l after width p0 p k out, ownHi l p0 p k out⟩])
def lam (l : List Pt) (after width : Int) : List Rng × Int × Bool := lamGo l after width (l.getD 0 ⟨0, 0, 0⟩) (l.drop 1) 0 []
/-- the bounds of what a lamination holds -/
def RB (out : List Rng) : Prop := ∀ x ∈ out, 0 ≤ x.lo ∧ x.lo ≤ 20000 ∧ 0 ≤ x.hi ∧ x.hi ≤ 20000
theorem RB.nil : RB [] := fun x h => by cases h
theorem RB.snoc {out : List Rng} {x : Rng} (h : RB out) (hx : 0 ≤ x.lo ∧ x.lo ≤ 20000 ∧ 0 ≤ x.hi ∧ x.hi ≤ 20000) : RB (out ++ [x]) := fun y hy => by
  rcases List.mem_append.1 hy with h1 | h1
  · exact h y h1
  · rw [List.mem_singleton.1 h1]; exact hx
theorem fAt_eq {l : List Pt} {k : Nat} (h : k < l.length) : fAt l k = l[k].f := by
  unfold fAt; simp [List.getD, List.getElem?_eq_getElem h]
theorem sq_lt {a b : Int} (h0 : 0 ≤ a) (h : a < b) : a * a < b * b := by
  have h1 : a * a ≤ a * b := Int.mul_le_mul_of_nonneg_left (by omega) h0
  have h2 : a * b < b * b := Int.mul_lt_mul_of_pos_right h (by omega)
  omega
theorem OkT.sq {l : List Pt} {after width : Int} (h : OkT l after width) {i j : Nat} (hi : i < l.length) (hj : j < l.length) (hij : i < j) : 0 ≤ l[i].f * l[i].f ∧ l[i].f * l[i].f < l[j].f * l[j].f := by
  have h1 := h.pt l[i] (List.getElem_mem hi)
  have h2 := h.inc i j hi hj hij
  exact ⟨Int.mul_nonneg (by omega) (by omega), sq_lt (by omega) h2⟩
theorem field_lo (a b : Int) (w : World) : (Instr.field 32 (.agg #[.int .i64 a, .int .i64 b]) 0).run Try.prog w = .ok (.int .i64 a) w := by kernel_rfl
theorem field_hi (a b : Int) (w : World) : (Instr.field 32 (.agg #[.int .i64 a, .int .i64 b]) 1).run Try.prog w = .ok (.int .i64 b) w := by kernel_rfl
attribute [local go_sem] field_lo field_hi
abbrev RngsAt := RowsAt 2 rngC
theorem RngsAt.at_ {w : World} {A : Option Addr} {l : List Rng} (h : RngsAt w A l) {k : Nat} (hk : k < l.length) :
    ∃ b off, A = some ⟨b, off, none⟩ ∧ b < w.heap.size ∧ w.cell? ⟨b, off + k * 2, none⟩ = some (.int .i64 l[k].lo) ∧ w.cell? ⟨b, off + k * 2 + 1, none⟩ = some (.int .i64 l[k].hi) := by
  obtain ⟨b, off, e, hb, hc⟩ := h k l[k] (List.getElem?_eq_getElem hk)
  exact ⟨b, off, e, hb, hc 0 (by omega), hc 1 (by omega)⟩
theorem lamA_nil (f : Int) (l : List Pt) (a : Int) : lamA f l [] a = a := by cases l <;> rfl
theorem lamB_nil (f : Int) (l : List Pt) (a : Int) : lamB f l [] a = a := by cases l <;> rfl
theorem own_bd {a b ol oh : Int} (ha : a ≤ 20000000) (hb : 0 ≤ b) (hb2 : b ≤ 20000000) (hl : 1000 ≤ ol) (hh : 1000 ≤ oh) : 0 ≤ posI (a / oh) ∧ posI (a / oh) ≤ 20000 ∧ 0 ≤ ceilI b ol ∧ ceilI b ol ≤ 20000 := by
  have h1 : a / oh ≤ 20000 := Int.ediv_le_of_le_mul (by omega) (by omega)
  have h2 : -20000 ≤ (-b) / ol := (Int.le_ediv_iff_mul_le (by omega)).2 (by omega)
  have h3 : (-b) / ol < 1 := (Int.ediv_lt_iff_lt_mul (by omega)).2 (by omega)
  unfold ceilI posI
  split <;> omega
theorem rows_one {W : World} {nb : Nat} {T : TypeId} {lo hi : Int} (h : W.heap[nb]? = some (.cells #[.int .i64 lo, .int .i64 hi] T)) : RngsAt W (some ⟨nb, 0, none⟩) [⟨lo, hi⟩] := fun k x hk => by
  cases k with
  | zero =>
    simp at hk
    subst hk
    refine ⟨nb, 0, rfl, (Array.getElem?_eq_some_iff.1 h).1, fun j hj => ?_⟩
    match j, hj with
    | 0, _ => exact blk_cell h rfl
    | 1, _ => exact blk_cell h rfl
  | succ k => simp at hk
theorem set2 {w : World} {nb : Nat} {a b u v : Value} (x0 : w.cell? ⟨nb, 0, none⟩ = some a) (x1 : w.cell? ⟨nb, 1, none⟩ = some b) :
    ((w.setCell ⟨nb, 0, none⟩ u).setCell ⟨nb, 1, none⟩ v).cell? ⟨nb, 0, none⟩ = some u ∧ ((w.setCell ⟨nb, 0, none⟩ u).setCell ⟨nb, 1, none⟩ v).cell? ⟨nb, 1, none⟩ = some v :=
  ⟨(World.cell?_setCell_other _ _ _ _ (by simp)).trans (cell_same x0), cell_same ((World.cell?_setCell_other _ _ _ _ (by simp)).trans x1)⟩
theorem below_mono2 {B : Nat} {a b c : World} (h : Below a.heap.size a b) (k : Below b.heap.size b c) (hB : B ≤ a.heap.size) (hB2 : B ≤ b.heap.size) : Below B a c := (h.mono hB).trans (k.mono hB2)
def LamPost (l : List Pt) (after width : Int) (w : World) (e : Ending) (w' : World) : Prop :=
  ∃ A' c', e = .returned (.tuple #[.slice A' (lam l after width).1.length c', .int .i64 (lam l after width).2.1, .bool (lam l after width).2.2]) ∧ w'.ownsRow w.heap.size 32 2 (.slice A' (lam l after width).1.length c') (lam l after width).1.length (cellsOf 2 rngC (lam l after width).1) ∧ Below w.heap.size w w'

set_option maxRecDepth 100000 in
set_option maxHeartbeats 2000000 in
theorem laminated_any (A : Option Addr) (l : List Pt) (cap : Nat) (after width : Int) (w : World) (hO : OkT l after width) (hcap : l.length ≤ cap) (hA : PtsAt w A l) :
    Calls Try.prog 81 #[.agg #[.slice A l.length cap, .int .i64 after, .int .i64 width]] w (LamPost l after width w) := by
  obtain ⟨an, rfl⟩ := Int.eq_ofNat_of_zero_le hO.a0
  have hn0 := hO.n0
  have hn1 := hO.n1
  have han := hO.a1
  have hw0 := hO.w0
  have hw1 := hO.w1
  have HO := Lib.hid hO
  have hp0 := hO.pt l[0] (List.getElem_mem hn0)
  clear hO
  obtain ⟨b, off, rfl, hb, c0, c1, c2⟩ := PtsAt.at_ hA hn0
  have hL : lam l an width = lamGo l an width l[0] (l.drop 1) 0 [] := by unfold lam; rw [List.getD_eq_getElem?_getD, List.getElem?_eq_getElem hn0]; rfl
  have HL := Lib.hid hL
  clear hL
  generalize l[0] = p0 at *
  simp only [Nat.zero_mul, Nat.add_zero] at c0 c1 c2
  obtain ⟨q1, q2, q3, q4, q5⟩ := hp0
  go_enter Try.func81, Try.ntmps81
  go_wp2
  · have hl1 : l.length = 1 := by omega
    have HL1 := Lib.hid hl1
    clear hl1
    clear h
    go_loopw [5, 28] (fun o i wr => ∃ (k : Nat) (out : List Rng) (A' : Option Addr) (c' : Nat), k + 1 ≤ l.length ∧ i = .int .i64 k ∧ o = .slice A' k c' ∧ out.length = k ∧ RB out ∧ wr.ownsRow (w.heap.size + 2) 32 2 (.slice A' k c') k (cellsOf 2 rngC out) ∧ lam l an width = lamGo l an width p0 (l.drop (k + 1)) k out ∧ Below (w.heap.size + 2) ((w.alloc (.cells #[.slice (some ⟨b, off, none⟩) l.length 1, .int .i64 an, .int .i64 width] 123)).alloc (.cells #[.int .i64 p0.lo, .int .i64 p0.hi] 32)) wr) (fun _ i _ => l.length - (intOf i).toNat)
    case atStart => exact ⟨0, [], none, 0, hn0, rfl, rfl, rfl, RB.nil, World.ownsRow_nil _ _ _ _, HL.out, Below.refl _ _⟩
    case round =>
      obtain ⟨k, out, A', c', hk, rfl, rfl, hlen, hRB, hown, hlam, hbw⟩ := hrel
      obtain ⟨wo, rfl⟩ : ∃ wo, wo = wr := ⟨wr, rfl⟩
      have HM := Lib.hid hlam
      have HLEN := Lib.hid hlen
      have HRB := Lib.hid hRB
      clear hlam hlen hRB
      have hbw0 : Below w.heap.size w wo := (by repeat (first | assumption | exact Below.refl _ _ | refine Below.drew ?_ | (refine below_alloc _ ?_ ?_; focus (first | omega | (simp; done) | (simp; omega) | (simp at *; omega))) | (refine below_set _ ?_ ?_; focus (first | omega | (simp; done) | (simp; omega) | (simp at *; omega))) | refine below_drewN ?_ _ | (refine below_call (by assumption) ?_ ?_; focus (first | omega | (simp; done) | (simp; omega) | (simp at *; omega))) | (refine below_call' (by assumption) ?_ ?_; focus (first | omega | (simp; done) | (simp; omega) | (simp at *; omega)))))
      have hzr := hbw.size
      simp at hzr
      have hzr1 : w.heap.size < wo.heap.size := by omega
      have hzr2 : w.heap.size + 1 < wo.heap.size := by omega
      have d0 : wo.cell? ⟨w.heap.size, 0, none⟩ = some (.slice (some ⟨b, off, none⟩) l.length 1) := cell_below hbw (by repeat (first | assumption | (refine cell_new ?_ rfl; focus (simp; done)) | refine cell_drew ?_ | refine cell_alloc _ ?_ | refine cell_drewN _ ?_ | (refine cell_far ?_ ?_; focus (first | omega | (simp; omega) | (simp; done))) | refine cell_below' (by assumption) ?_)) (by simp)
      have d1 : wo.cell? ⟨w.heap.size, 1, none⟩ = some (.int .i64 an) := cell_below hbw (by repeat (first | assumption | (refine cell_new ?_ rfl; focus (simp; done)) | refine cell_drew ?_ | refine cell_alloc _ ?_ | refine cell_drewN _ ?_ | (refine cell_far ?_ ?_; focus (first | omega | (simp; omega) | (simp; done))) | refine cell_below' (by assumption) ?_)) (by simp)
      have d2 : wo.cell? ⟨w.heap.size, 2, none⟩ = some (.int .i64 width) := cell_below hbw (by repeat (first | assumption | (refine cell_new ?_ rfl; focus (simp; done)) | refine cell_drew ?_ | refine cell_alloc _ ?_ | refine cell_drewN _ ?_ | (refine cell_far ?_ ?_; focus (first | omega | (simp; omega) | (simp; done))) | refine cell_below' (by assumption) ?_)) (by simp)
      have e0 : wo.cell? ⟨w.heap.size + 1, 0, none⟩ = some (.int .i64 p0.lo) := cell_below hbw (by repeat (first | assumption | (refine cell_new ?_ rfl; focus (simp; done)) | refine cell_drew ?_ | refine cell_alloc _ ?_ | refine cell_drewN _ ?_ | (refine cell_far ?_ ?_; focus (first | omega | (simp; omega) | (simp; done))) | refine cell_below' (by assumption) ?_)) (by simp)
      have e1 : wo.cell? ⟨w.heap.size + 1, 1, none⟩ = some (.int .i64 p0.hi) := cell_below hbw (by repeat (first | assumption | (refine cell_new ?_ rfl; focus (simp; done)) | refine cell_drew ?_ | refine cell_alloc _ ?_ | refine cell_drewN _ ?_ | (refine cell_far ?_ ?_; focus (first | omega | (simp; omega) | (simp; done))) | refine cell_below' (by assumption) ?_)) (by simp)
      clear c0 c1 c2
      have hlt : ¬ k + 1 < l.length := by have := HL1.out; omega
      have hlt' : ¬ k < l.length - 1 := by omega
      have hd : l.drop (k + 1) = [] := List.drop_eq_nil_of_le (by omega)
      rw [hd, lamGo] at HM
      clear hd d0 d1 d2 e0 e1
      go_wp2
      go_ret3
      have hk2 := HLEN.out
      subst hk2
      unfold LamPost
      rw [HM.out]
      exact ⟨A', c', rfl, own_mono hown (by omega), (by repeat (first | assumption | exact Below.refl _ _ | refine Below.drew ?_ | (refine below_alloc _ ?_ ?_; focus (first | omega | (simp; done) | (simp; omega) | (simp at *; omega))) | (refine below_set _ ?_ ?_; focus (first | omega | (simp; done) | (simp; omega) | (simp at *; omega))) | refine below_drewN ?_ _ | (refine below_call (by assumption) ?_ ?_; focus (first | omega | (simp; done) | (simp; omega) | (simp at *; omega))) | (refine below_call' (by assumption) ?_ ?_; focus (first | omega | (simp; done) | (simp; omega) | (simp at *; omega)))))⟩
  · have h1 : 1 < cap ∨ cap = 0 := by omega
    go_loopw [5, 28] (fun o i wr => ∃ (k : Nat) (out : List Rng) (A' : Option Addr) (c' : Nat), k + 1 ≤ l.length ∧ i = .int .i64 k ∧ o = .slice A' k c' ∧ out.length = k ∧ RB out ∧ wr.ownsRow (w.heap.size + 2) 32 2 (.slice A' k c') k (cellsOf 2 rngC out) ∧ lam l an width = lamGo l an width p0 (l.drop (k + 1)) k out ∧ Below (w.heap.size + 2) ((w.alloc (.cells #[.slice (some ⟨b, off, none⟩) l.length cap, .int .i64 an, .int .i64 width] 123)).alloc (.cells #[.int .i64 p0.lo, .int .i64 p0.hi] 32)) wr) (fun _ i _ => l.length - (intOf i).toNat)
    case atStart => exact ⟨0, [], none, 0, hn0, rfl, rfl, rfl, RB.nil, World.ownsRow_nil _ _ _ _, HL.out, Below.refl _ _⟩
    case round =>
      obtain ⟨k, out, A', c', hk, rfl, rfl, hlen, hRB, hown, hlam, hbw⟩ := hrel
      obtain ⟨wo, rfl⟩ : ∃ wo, wo = wr := ⟨wr, rfl⟩
      have HM := Lib.hid hlam
      have HLEN := Lib.hid hlen
      have HRB := Lib.hid hRB
      clear hlam hlen hRB
      have hbw0 : Below w.heap.size w wo := (by repeat (first | assumption | exact Below.refl _ _ | refine Below.drew ?_ | (refine below_alloc _ ?_ ?_; focus (first | omega | (simp; done) | (simp; omega) | (simp at *; omega))) | (refine below_set _ ?_ ?_; focus (first | omega | (simp; done) | (simp; omega) | (simp at *; omega))) | refine below_drewN ?_ _ | (refine below_call (by assumption) ?_ ?_; focus (first | omega | (simp; done) | (simp; omega) | (simp at *; omega))) | (refine below_call' (by assumption) ?_ ?_; focus (first | omega | (simp; done) | (simp; omega) | (simp at *; omega)))))
      have hzr := hbw.size
      simp at hzr
      have hzr1 : w.heap.size < wo.heap.size := by omega
      have hzr2 : w.heap.size + 1 < wo.heap.size := by omega
      have d0 : wo.cell? ⟨w.heap.size, 0, none⟩ = some (.slice (some ⟨b, off, none⟩) l.length cap) := cell_below hbw (by repeat (first | assumption | (refine cell_new ?_ rfl; focus (simp; done)) | refine cell_drew ?_ | refine cell_alloc _ ?_ | refine cell_drewN _ ?_ | (refine cell_far ?_ ?_; focus (first | omega | (simp; omega) | (simp; done))) | refine cell_below' (by assumption) ?_)) (by simp)
      have d1 : wo.cell? ⟨w.heap.size, 1, none⟩ = some (.int .i64 an) := cell_below hbw (by repeat (first | assumption | (refine cell_new ?_ rfl; focus (simp; done)) | refine cell_drew ?_ | refine cell_alloc _ ?_ | refine cell_drewN _ ?_ | (refine cell_far ?_ ?_; focus (first | omega | (simp; omega) | (simp; done))) | refine cell_below' (by assumption) ?_)) (by simp)
      have d2 : wo.cell? ⟨w.heap.size, 2, none⟩ = some (.int .i64 width) := cell_below hbw (by repeat (first | assumption | (refine cell_new ?_ rfl; focus (simp; done)) | refine cell_drew ?_ | refine cell_alloc _ ?_ | refine cell_drewN _ ?_ | (refine cell_far ?_ ?_; focus (first | omega | (simp; omega) | (simp; done))) | refine cell_below' (by assumption) ?_)) (by simp)
      have e0 : wo.cell? ⟨w.heap.size + 1, 0, none⟩ = some (.int .i64 p0.lo) := cell_below hbw (by repeat (first | assumption | (refine cell_new ?_ rfl; focus (simp; done)) | refine cell_drew ?_ | refine cell_alloc _ ?_ | refine cell_drewN _ ?_ | (refine cell_far ?_ ?_; focus (first | omega | (simp; omega) | (simp; done))) | refine cell_below' (by assumption) ?_)) (by simp)
      have e1 : wo.cell? ⟨w.heap.size + 1, 1, none⟩ = some (.int .i64 p0.hi) := cell_below hbw (by repeat (first | assumption | (refine cell_new ?_ rfl; focus (simp; done)) | refine cell_drew ?_ | refine cell_alloc _ ?_ | refine cell_drewN _ ?_ | (refine cell_far ?_ ?_; focus (first | omega | (simp; omega) | (simp; done))) | refine cell_below' (by assumption) ?_)) (by simp)
      clear c0 c1 c2
      by_cases hlt : k + 1 < l.length
      · have hAr := hA.below hbw0
        obtain ⟨bb, oo, hbb, hb2, c0, c1, c2⟩ := PtsAt.at_ hAr hlt
        injection hbb with hbb
        injection hbb with hbb1 hbb2
        subst hbb1 hbb2
        have hp := HO.out.pt l[k + 1] (List.getElem_mem hlt)
        have hd : l.drop (k + 1) = l[k + 1] :: l.drop (k + 1 + 1) := List.drop_eq_getElem_cons hlt
        rw [hd] at HM
        clear hd
        have hsq : ∀ j (hj : j < l.length), j < k + 1 → 0 ≤ l[j].f * l[j].f ∧ l[j].f * l[j].f < l[k + 1].f * l[k + 1].f := fun j hj hjk => HO.out.sq hj hlt hjk
        have HSQ := Lib.hid hsq
        clear hsq
        generalize l[k + 1] = p at *
        obtain ⟨p1, p2, p3, p4, p5⟩ := hp
        rw [show off + (k + 1) * 3 = off + 3 + k * 3 by omega] at c0 c1 c2
        have hlt' : k < l.length - 1 := by omega
        go_wp2
        go_quiet (fail)
        have hbW : Below wo.heap.size wo ((wo.alloc (.cells #[.int .i64 p.f, .int .i64 p.lo, .int .i64 p.hi] 75)).drewN nq) := (by repeat (first | assumption | exact Below.refl _ _ | refine Below.drew ?_ | (refine below_alloc _ ?_ ?_; focus (first | omega | (simp; done) | (simp; omega) | (simp at *; omega))) | (refine below_set _ ?_ ?_; focus (first | omega | (simp; done) | (simp; omega) | (simp at *; omega))) | refine below_drewN ?_ _ | (refine below_call (by assumption) ?_ ?_; focus (first | omega | (simp; done) | (simp; omega) | (simp at *; omega))) | (refine below_call' (by assumption) ?_ ?_; focus (first | omega | (simp; done) | (simp; omega) | (simp at *; omega)))))
        have f0 : ((wo.alloc (.cells #[.int .i64 p.f, .int .i64 p.lo, .int .i64 p.hi] 75)).drewN nq).cell? ⟨wo.heap.size, 0, none⟩ = some (.int .i64 p.f) := (by repeat (first | assumption | (refine cell_new ?_ rfl; focus (simp; done)) | refine cell_drew ?_ | refine cell_alloc _ ?_ | refine cell_drewN _ ?_ | (refine cell_far ?_ ?_; focus (first | omega | (simp; omega) | (simp; done))) | refine cell_below' (by assumption) ?_))
        have hsW : wo.heap.size < ((wo.alloc (.cells #[.int .i64 p.f, .int .i64 p.lo, .int .i64 p.hi] 75)).drewN nq).heap.size := by simp
        generalize (wo.alloc (.cells #[.int .i64 p.f, .int .i64 p.lo, .int .i64 p.hi] 75)).drewN nq = w1 at *
        replace d0 := cell_below' hbW d0
        replace d1 := cell_below' hbW d1
        replace d2 := cell_below' hbW d2
        replace hAr := hAr.below hbW
        replace hown := own_below hown hbW
        clear e0 e1 c0 c1 c2
        rw [lamGo] at HM
        have hkl : k < l.length := by omega
        have hol : ownLo l an width p0 p k out = posI ((lamA p.f l out (1000 * (p.lo - p0.hi)) - valI an width (k + 1) * idxHi (l[an].f * l[an].f) p.f) / idxHi (l[k].f * l[k].f) p.f) := by
          unfold ownLo; rw [Int.toNat_natCast, fAt_eq hkl, fAt_eq (by omega)]
        have hoh : ownHi l p0 p k out = ceilI (lamB p.f l out (1000 * (p.hi - p0.lo))) (idxLo (l[k].f * l[k].f) p.f) := by
          unfold ownHi; rw [fAt_eq hkl]
        have HOL := Lib.hid hol
        have HOH := Lib.hid hoh
        clear hol hoh
        have hval : ∀ W, Calls Try.prog 82 #[.agg #[.slice (some ⟨b, off, none⟩) l.length cap, .int .i64 an, .int .i64 width], .int .i64 ((k : Int) + 1)] W fun e w' => e = .returned (.int .i64 (valI an width (k + 1))) ∧ Below W.heap.size W w' := fun W => by
          have h := valley_any (some ⟨b, off, none⟩) l.length cap (k + 1) an width W
          rw [show ((k + 1 : Nat) : Int) = (k : Int) + 1 by omega] at h
          exact h
        have HVAL := Lib.hid hval
        clear hval
        generalize hA0 : 1000 * (p.lo - p0.hi) = a0 at *
        generalize hB0 : 1000 * (p.hi - p0.lo) = b0 at *
        have ha0 : -20000000 ≤ a0 ∧ a0 ≤ 20000000 := by omega
        have hb0 : -20000000 ≤ b0 ∧ b0 ≤ 20000000 := by omega
        clear hA0 hB0
        obtain ⟨ha01, ha02⟩ := ha0
        obtain ⟨hb01, hb02⟩ := hb0
        go_wp2
        go_loopw [10, 11, 51] (fun a b i wr => ∃ (j : Nat) (av bv : Int), j ≤ k ∧ i = .int .i64 j ∧ a = .int .i64 av ∧ b = .int .i64 bv ∧ lamA p.f l out a0 = lamA p.f (l.drop j) (out.drop j) av ∧ lamB p.f l out b0 = lamB p.f (l.drop j) (out.drop j) bv ∧ -20000000 - j * 60000000000 ≤ av ∧ av ≤ 20000000 ∧ -20000000 - j * 60000000000 ≤ bv ∧ bv ≤ 20000000 ∧ Below w1.heap.size w1 wr) (fun _ _ i _ => k - (intOf i).toNat)
        case atStart => exact ⟨0, a0, b0, Nat.zero_le _, rfl, rfl, rfl, rfl, rfl, by omega, by omega, by omega, by omega, Below.refl _ _⟩
        case round =>
          obtain ⟨j, av, bv, hj, rfl, rfl, rfl, ha, hb', v1, v2, v3, v4, hbx⟩ := hrel
          have HA := Lib.hid ha
          have HB := Lib.hid hb'
          clear ha hb'
          replace f0 := cell_below' hbx f0
          replace d0 := cell_below' hbx d0
          replace d1 := cell_below' hbx d1
          replace d2 := cell_below' hbx d2
          replace hAr := hAr.below hbx
          replace hown := own_below hown hbx
          have hsx := hbx.size
          have z1 : w.heap.size < wr.heap.size := by omega
          have z2 : wo.heap.size < wr.heap.size := by omega
          by_cases hjk : j < k
          · have hjl : j < l.length := by omega
            have hjo : j < out.length := by rw [HLEN.out]; exact hjk
            have hr := HRB.out out[j] (List.getElem_mem hjo)
            obtain ⟨bo, oo, rfl, hbo, g0, g1⟩ := RngsAt.at_ (rowsAt_of_own hown HLEN.out (by decide)) hjo
            rw [List.drop_eq_getElem_cons hjl, List.drop_eq_getElem_cons hjo, lamA] at HA
            rw [List.drop_eq_getElem_cons hjl, List.drop_eq_getElem_cons hjo, lamB] at HB
            have hs := HSQ.out j hjl (by omega)
            have hpj := HO.out.pt l[j] (List.getElem_mem hjl)
            have hcall : ∀ W, PtsAt W (some ⟨b, off, none⟩) l → Calls Try.prog 84 #[.agg #[.slice (some ⟨b, off, none⟩) l.length cap, .int .i64 an, .int .i64 width], .int .i64 j] W fun e w' => e = .returned (.int .i64 (l[j].f * l[j].f)) ∧ Below W.heap.size W w' := fun W hW => square_any _ l _ cap j _ _ W hjl rfl hW (by omega) (by omega)
            generalize l[j].f * l[j].f = sq at *
            generalize out[j] = r at *
            obtain ⟨s1, s2⟩ := hs
            obtain ⟨r1, r2, r3, r4⟩ := hr
            have l1 := idxLo_bd sq p.f s1 s2 (by omega) p2
            have l2 := idxHi_bd sq p.f s1 s2 (by omega) p2
            have m1 := mul_bd r.hi (idxHi sq p.f) 20000 3000000 r3 r4 (by omega) l2.2.2
            have m2 := mul_bd r.lo (idxLo sq p.f) 20000 3000000 r1 r2 (by omega) l1.2
            obtain ⟨m11, m12⟩ := m1
            obtain ⟨m21, m22⟩ := m2
            have HC := Lib.hid hcall
            clear hcall hpj l1 l2
            go_wp2
            have hAy : PtsAt (wr.alloc (.cells #[.int .i64 r.lo, .int .i64 r.hi] 32)) (some ⟨b, off, none⟩) l := hAr.below (by repeat (first | assumption | exact Below.refl _ _ | refine Below.drew ?_ | (refine below_alloc _ ?_ ?_; focus (first | omega | (simp; done) | (simp; omega) | (simp at *; omega))) | (refine below_set _ ?_ ?_; focus (first | omega | (simp; done) | (simp; omega) | (simp at *; omega))) | refine below_drewN ?_ _ | (refine below_call (by assumption) ?_ ?_; focus (first | omega | (simp; done) | (simp; omega) | (simp at *; omega))) | (refine below_call' (by assumption) ?_ ?_; focus (first | omega | (simp; done) | (simp; omega) | (simp at *; omega)))))
            (refine region_alloc (T := ?_) (obj := (.cells #[.int .i64 0, .int .i64 0] 32)) (val := (fun nb => .pointer (some ⟨nb, 0, none⟩))) 6 14 (by kernel_rfl) (by kernel_rfl) rfl rfl rfl (Nat.le_of_ble_eq_true rfl) ?_ ?_ ?_; rotate_left 1)
            focus (intro W0 hB0 hx; simp only [List.take_succ_cons, List.take_zero]; (repeat (any_goals (first | go_big_quiet_step (first | (go_at_call 84; exact ext_call (HC.out _ ((hAy.below hB0).below (ext_bel _ _)))) | (go_at_call 76; exact ext_call (index_any _ _ _ s1 s2 (by omega) p2))) | quiet_step (first | (go_at_call 84; exact ext_call (HC.out _ ((hAy.below hB0).below (ext_bel _ _)))) | (go_at_call 76; exact ext_call (index_any _ _ _ s1 s2 (by omega) p2)))))); refine wpQuiet_nil ?_; exact rfl)
            focus (intro W; go_simp; done)
            (intro W0 w2 hB0 hB1; obtain ⟨hbw2, hnw2, hsw2, hkw2⟩ := alloc_out hB0 hB1; clear hB0 hB1; simp only [List.drop_succ_cons, List.drop_zero]; generalize W0.heap.size = nb at *; clear W0)
            have hn3 : wr.heap.size < nb := by simp at hnw2; omega
            have x0 : w2.cell? ⟨nb, 0, none⟩ = some (.int .i64 0) := blk_cell hkw2 rfl
            have x1 : w2.cell? ⟨nb, 1, none⟩ = some (.int .i64 0) := blk_cell hkw2 rfl
            have y0 : w2.frozen? ⟨nb, 0, none⟩ = false := blk_frozen hkw2
            have y1 : w2.frozen? ⟨nb, 1, none⟩ = false := blk_frozen hkw2
            have t0 : w2.cell? ⟨wr.heap.size, 0, none⟩ = some (.int .i64 r.lo) := cell_below' hbw2 (by repeat (first | assumption | (refine cell_new ?_ rfl; focus (simp; done)) | refine cell_drew ?_ | refine cell_alloc _ ?_ | refine cell_drewN _ ?_ | (refine cell_far ?_ ?_; focus (first | omega | (simp; omega) | (simp; done))) | refine cell_below' (by assumption) ?_))
            have t1 : w2.cell? ⟨wr.heap.size, 1, none⟩ = some (.int .i64 r.hi) := cell_below' hbw2 (by repeat (first | assumption | (refine cell_new ?_ rfl; focus (simp; done)) | refine cell_drew ?_ | refine cell_alloc _ ?_ | refine cell_drewN _ ?_ | (refine cell_far ?_ ?_; focus (first | omega | (simp; omega) | (simp; done))) | refine cell_below' (by assumption) ?_))
            have hbr : Below wr.heap.size wr w2 := (by repeat (first | assumption | exact Below.refl _ _ | refine Below.drew ?_ | (refine below_alloc _ ?_ ?_; focus (first | omega | (simp; done) | (simp; omega) | (simp at *; omega))) | (refine below_set _ ?_ ?_; focus (first | omega | (simp; done) | (simp; omega) | (simp at *; omega))) | refine below_drewN ?_ _ | (refine below_call (by assumption) ?_ ?_; focus (first | omega | (simp; done) | (simp; omega) | (simp at *; omega))) | (refine below_call' (by assumption) ?_ ?_; focus (first | omega | (simp; done) | (simp; omega) | (simp at *; omega)))))
            clear hkw2 hnw2
            go_wp2
            go_quiet (fail)
            go_wp2
            go_roundw
            case rel => exact ⟨j + 1, _, _, by omega, by go_num, rfl, rfl, HA.out, HB.out, by omega, by omega, by omega, by omega, (by repeat (first | assumption | exact Below.refl _ _ | refine Below.drew ?_ | (refine below_alloc _ ?_ ?_; focus (first | omega | (simp; done) | (simp; omega) | (simp at *; omega))) | (refine below_set _ ?_ ?_; focus (first | omega | (simp; done) | (simp; omega) | (simp at *; omega))) | refine below_drewN ?_ _ | (refine below_call (by assumption) ?_ ?_; focus (first | omega | (simp; done) | (simp; omega) | (simp at *; omega))) | (refine below_call' (by assumption) ?_ ?_; focus (first | omega | (simp; done) | (simp; omega) | (simp at *; omega)))))⟩
            case measure => simp [intOf]; omega
          · obtain rfl : k = j := by omega
            have hdr : out.drop k = [] := List.drop_eq_nil_of_le (by rw [HLEN.out]; omega)
            rw [hdr, lamA_nil] at HA
            rw [hdr, lamB_nil] at HB
            rw [HA.out] at HOL
            rw [HB.out] at HOH HM
            clear hdr HA HB
            have hva : 0 ≤ valI an width (k + 1) ∧ valI an width (k + 1) ≤ 500 ∧ (0 < valI an width (k + 1) → an < k + 1) := by unfold valI; split <;> omega
            have hsa : an < k + 1 → 0 ≤ l[an].f * l[an].f ∧ l[an].f * l[an].f < p.f * p.f := fun h => HSQ.out an (by omega) h
            have hsk := HSQ.out k hkl (by omega)
            have hpa := HO.out.pt l[an] (List.getElem_mem (by omega))
            have hpk := HO.out.pt l[k] (List.getElem_mem hkl)
            have hca : ∀ W, PtsAt W (some ⟨b, off, none⟩) l → Calls Try.prog 84 #[.agg #[.slice (some ⟨b, off, none⟩) l.length cap, .int .i64 an, .int .i64 width], .int .i64 an] W fun e w' => e = .returned (.int .i64 (l[an].f * l[an].f)) ∧ Below W.heap.size W w' := fun W hW => square_any _ l _ cap an _ _ W (by omega) rfl hW (by omega) (by omega)
            have hck : ∀ W, PtsAt W (some ⟨b, off, none⟩) l → Calls Try.prog 84 #[.agg #[.slice (some ⟨b, off, none⟩) l.length cap, .int .i64 an, .int .i64 width], .int .i64 k] W fun e w' => e = .returned (.int .i64 (l[k].f * l[k].f)) ∧ Below W.heap.size W w' := fun W hW => square_any _ l _ cap k _ _ W hkl rfl hW (by omega) (by omega)
            have HCA := Lib.hid hca
            have HCK := Lib.hid hck
            clear hca hck hpa hpk
            generalize l[an].f * l[an].f = sqa at *
            generalize l[k].f * l[k].f = sqk at *
            generalize valI an width (k + 1) = vv at *
            obtain ⟨sk1, sk2⟩ := hsk
            obtain ⟨va1, va2, va3⟩ := hva
            have VA3 := Lib.hid va3
            have HSA := Lib.hid hsa
            clear va3 hsa
            go_wp2_with (fail)
            refine (HVAL.out _).mono ?_
            rintro e w3 ⟨rfl, hb3⟩
            have hz3 := hb3.size
            have z3 : w.heap.size < w3.heap.size := by omega
            have z4 : wo.heap.size < w3.heap.size := by omega
            replace f0 := cell_below' hb3 f0
            replace d0 := cell_below' hb3 d0
            replace d1 := cell_below' hb3 d1
            replace d2 := cell_below' hb3 d2
            replace hAr := hAr.below hb3
            replace hown := own_below hown hb3
            by_cases hv : 0 < vv
            focus
              obtain ⟨sa1, sa2⟩ := HSA.out (VA3.out hv)
              have l2 := idxHi_bd sqa p.f sa1 sa2 (by omega) p2
              have l1 := idxLo_bd sqa p.f sa1 sa2 (by omega) p2
              have m1 := mul_bd vv (idxHi sqa p.f) 500 3000000 va1 va2 (by omega) l2.2.2
              obtain ⟨m11, m12⟩ := m1
              clear l1 l2
              go_wp2
              (refine region_extx 13 (by kernel_rfl) (by kernel_rfl) fun hx => ?_; simp only [List.take_succ_cons, List.take_zero, List.drop_succ_cons, List.drop_zero]; (repeat (any_goals (first | go_big_quiet_step (first | (go_at_call 84; exact ext_call (HCA.out _ (hAr.below (ext_bel _ _)))) | (go_at_call 76; exact ext_call (index_any _ _ _ sa1 sa2 (by omega) p2))) | quiet_step (first | (go_at_call 84; exact ext_call (HCA.out _ (hAr.below (ext_bel _ _)))) | (go_at_call 76; exact ext_call (index_any _ _ _ sa1 sa2 (by omega) p2)))))))
              (refine wpQuiet_nil ?_; clear hx; intro u; have hbw4 := ext_bel _ u; have hxw4 := ext_cell _ u; generalize ext _ u = w4 at *; clear u; have hsw4 := hbw4.size; (try simp at hsw4))
              have ha2 : -1000000000000 ≤ av - vv * idxHi sqa p.f ∧ av - vv * idxHi sqa p.f ≤ 20000000 := by omega
              generalize av - vv * idxHi sqa p.f = a2 at *
              (by_cases hbn : bv < 0; (focus (rw [if_pos hbn] at HM; go_wp2; go_ret3; unfold LamPost; rw [HM.out]; exact ⟨none, 0, rfl, World.ownsRow_nil _ _ _ _, (by repeat (first | assumption | exact Below.refl _ _ | refine Below.drew ?_ | (refine below_alloc _ ?_ ?_; focus (first | omega | (simp; done) | (simp; omega) | (simp at *; omega))) | (refine below_set _ ?_ ?_; focus (first | omega | (simp; done) | (simp; omega) | (simp at *; omega))) | refine below_drewN ?_ _ | (refine below_call (by assumption) ?_ ?_; focus (first | omega | (simp; done) | (simp; omega) | (simp at *; omega))) | (refine below_call' (by assumption) ?_ ?_; focus (first | omega | (simp; done) | (simp; omega) | (simp at *; omega)))))⟩)); have hbd : decide (bv < 0) = false := (by simpa using hbn); rw [if_neg hbn] at HM)
              go_wp2
              replace f0 := cell_below' hbw4 f0
              replace d0 := cell_below' hbw4 d0
              replace d1 := cell_below' hbw4 d1
              replace d2 := cell_below' hbw4 d2
              replace hAr := hAr.below hbw4
              replace hown := own_below hown hbw4
              clear z3 z4
            rotate_left 1
            focus
              have hv0 : vv = 0 := by omega
              rw [hv0, Int.zero_mul, Int.sub_zero] at HOL
              have hvd : decide (0 < vv) = false := by simpa using hv
              have ha2 : -1000000000000 ≤ av ∧ av ≤ 20000000 := by omega
              clear hv0
              (by_cases hbn : bv < 0; (focus (rw [if_pos hbn] at HM; go_wp2; go_ret3; unfold LamPost; rw [HM.out]; exact ⟨none, 0, rfl, World.ownsRow_nil _ _ _ _, (by repeat (first | assumption | exact Below.refl _ _ | refine Below.drew ?_ | (refine below_alloc _ ?_ ?_; focus (first | omega | (simp; done) | (simp; omega) | (simp at *; omega))) | (refine below_set _ ?_ ?_; focus (first | omega | (simp; done) | (simp; omega) | (simp at *; omega))) | refine below_drewN ?_ _ | (refine below_call (by assumption) ?_ ?_; focus (first | omega | (simp; done) | (simp; omega) | (simp at *; omega))) | (refine below_call' (by assumption) ?_ ?_; focus (first | omega | (simp; done) | (simp; omega) | (simp at *; omega)))))⟩)); have hbd : decide (bv < 0) = false := (by simpa using hbn); rw [if_neg hbn] at HM)
              go_wp2
              obtain ⟨w4, rfl⟩ : ∃ w4, w4 = w3 := ⟨_, rfl⟩
              have hbw4 : Below wr.heap.size wr w4 := (by repeat (first | assumption | exact Below.refl _ _ | refine Below.drew ?_ | (refine below_alloc _ ?_ ?_; focus (first | omega | (simp; done) | (simp; omega) | (simp at *; omega))) | (refine below_set _ ?_ ?_; focus (first | omega | (simp; done) | (simp; omega) | (simp at *; omega))) | refine below_drewN ?_ _ | (refine below_call (by assumption) ?_ ?_; focus (first | omega | (simp; done) | (simp; omega) | (simp at *; omega))) | (refine below_call' (by assumption) ?_ ?_; focus (first | omega | (simp; done) | (simp; omega) | (simp at *; omega)))))
              obtain ⟨a2, rfl⟩ : ∃ a2, a2 = av := ⟨_, rfl⟩
            all_goals
              obtain ⟨a21, a22⟩ := ha2
              have z5 : w.heap.size < w4.heap.size := by omega
              have z6 : wo.heap.size < w4.heap.size := by omega
              have hbo : Below wo.heap.size wo w4 := (by repeat (first | assumption | exact Below.refl _ _ | refine Below.drew ?_ | (refine below_alloc _ ?_ ?_; focus (first | omega | (simp; done) | (simp; omega) | (simp at *; omega))) | (refine below_set _ ?_ ?_; focus (first | omega | (simp; done) | (simp; omega) | (simp at *; omega))) | refine below_drewN ?_ _ | (refine below_call (by assumption) ?_ ?_; focus (first | omega | (simp; done) | (simp; omega) | (simp at *; omega))) | (refine below_call' (by assumption) ?_ ?_; focus (first | omega | (simp; done) | (simp; omega) | (simp at *; omega)))))
              have l2 := idxHi_bd sqk p.f sk1 sk2 (by omega) p2
              have l1 := idxLo_bd sqk p.f sk1 sk2 (by omega) p2
              have hob := @own_bd a2 bv (idxLo sqk p.f) (idxHi sqk p.f) a22 (by omega) v4 l1.1 (by omega)
              obtain ⟨l11, l12⟩ := l1
              obtain ⟨l21, l22, l23⟩ := l2
              have HOB := Lib.hid hob
              clear hob
              (refine region_alloc (T := ?_) (obj := (.cells #[.int .i64 0, .int .i64 0] 32)) (val := (fun nb => .pointer (some ⟨nb, 0, none⟩))) 6 16 (by kernel_rfl) (by kernel_rfl) rfl rfl rfl (Nat.le_of_ble_eq_true rfl) ?_ ?_ ?_; rotate_left 1)
              focus (intro W0 hB0 hx; simp only [List.take_succ_cons, List.take_zero]; (repeat (any_goals (first | go_big_quiet_step (first | (go_at_call 84; exact ext_call (HCK.out _ ((hAr.below hB0).below (ext_bel _ _)))) | (go_at_call 76; exact ext_call (index_any _ _ _ sk1 sk2 (by omega) p2))) | quiet_step (first | (go_at_call 84; exact ext_call (HCK.out _ ((hAr.below hB0).below (ext_bel _ _)))) | (go_at_call 76; exact ext_call (index_any _ _ _ sk1 sk2 (by omega) p2)))))); refine wpQuiet_nil ?_; exact rfl)
              focus (intro W; go_simp; done)
              (intro W0 w5 hB0 hB1; obtain ⟨hbw5, hnw5, hsw5, hkw5⟩ := alloc_out hB0 hB1; clear hB0 hB1; simp only [List.drop_succ_cons, List.drop_zero]; generalize W0.heap.size = nb at *; clear W0)
              have x0 : w5.cell? ⟨nb, 0, none⟩ = some (.int .i64 0) := blk_cell hkw5 rfl
              have x1 : w5.cell? ⟨nb, 1, none⟩ = some (.int .i64 0) := blk_cell hkw5 rfl
              have y0 : w5.frozen? ⟨nb, 0, none⟩ = false := blk_frozen hkw5
              have y1 : w5.frozen? ⟨nb, 1, none⟩ = false := blk_frozen hkw5
              clear hkw5
              go_wp2
              obtain ⟨u0, u1⟩ := set2 (u := .int .i64 (idxLo sqk p.f)) (v := .int .i64 (idxHi sqk p.f)) x0 x1
              have hb46 : Below w4.heap.size w4 ((w5.setCell ⟨nb, 0, none⟩ (.int .i64 (idxLo sqk p.f))).setCell ⟨nb, 1, none⟩ (.int .i64 (idxHi sqk p.f))) := (by repeat (first | assumption | exact Below.refl _ _ | refine Below.drew ?_ | (refine below_alloc _ ?_ ?_; focus (first | omega | (simp; done) | (simp; omega) | (simp at *; omega))) | (refine below_set _ ?_ ?_; focus (first | omega | (simp; done) | (simp; omega) | (simp at *; omega))) | refine below_drewN ?_ _ | (refine below_call (by assumption) ?_ ?_; focus (first | omega | (simp; done) | (simp; omega) | (simp at *; omega))) | (refine below_call' (by assumption) ?_ ?_; focus (first | omega | (simp; done) | (simp; omega) | (simp at *; omega)))))
              clear x0 x1 y0 y1
              generalize (w5.setCell ⟨nb, 0, none⟩ (.int .i64 (idxLo sqk p.f))).setCell ⟨nb, 1, none⟩ (.int .i64 (idxHi sqk p.f)) = w6 at *
              replace hown := own_below hown hb46
              (refine region_alloc (T := ?_) (obj := (.cells #[.int .i64 (if 0 < a2 / idxHi sqk p.f then a2 / idxHi sqk p.f else 0), .int .i64 (ceilI bv (idxLo sqk p.f))] 32)) (val := (fun nb => .slice (some ⟨nb, 0, none⟩) 1 1)) 11 115 (by kernel_rfl) (by kernel_rfl) rfl rfl rfl (Nat.le_of_ble_eq_true rfl) ?_ ?_ ?_; rotate_left 1)
              focus (intro W0 hB0 hx; simp only [List.take_succ_cons, List.take_zero]; (repeat (any_goals (first | go_big_quiet_step (first | (go_at_call 97; exact ext_same (floor_any _ _ _ (by omega) (by omega) (by omega) (by omega))) | (go_at_call 98; exact ext_same (ceil_any _ _ _ (by omega) (by omega) (by omega) (by omega)))) | quiet_step (first | (go_at_call 97; exact ext_same (floor_any _ _ _ (by omega) (by omega) (by omega) (by omega))) | (go_at_call 98; exact ext_same (ceil_any _ _ _ (by omega) (by omega) (by omega) (by omega))))))); refine wpQuiet_nil ?_; exact rfl)
              focus (intro W; go_simp; done)
              (intro W0 w7 hB0 hB1; obtain ⟨hbw7, hnw7, hsw7, hkw7⟩ := alloc_out hB0 hB1; clear hB0 hB1; simp only [List.drop_succ_cons, List.drop_zero]; generalize W0.heap.size = nb2 at *; clear W0)
              have hb47 : Below w4.heap.size w4 w7 := hb46.trans (hbw7.mono hb46.size)
              have hz7 := hb47.size
              have hrow := rows_one hkw7
              refine wpList_appRange w7 rfl (.tmp 104) (.tmp 115) rfl (w.heap.size + 2) A' k c' (cellsOf 2 rngC out) rfl (own_below hown hbw7) (some ⟨nb2, 0, none⟩) 1 1 (cellsOf 2 rngC [⟨posI (a2 / idxHi sqk p.f), ceilI bv (idxLo sqk p.f)⟩]) rfl rfl (fun e => by cases e) (fun ad e => by cases e; exact RowsAt.news hrow (by decide)) (cellsOf_one rngC_one (by decide) _) (by omega) (by omega) ?_
              intro A'' c'' w8 hown8 hg halt
              rw [← cellsOf_append] at hown8
              have hb8 : Below (w.heap.size + 2) _ w8 := below_own (hbw.trans (below_mono2 hbo hb47 (by omega) (by omega))) hg (own_below hown hbw7) (Nat.le_refl _) (by omega)
              rw [HOL.out, HOH.out] at HM
              clear hg halt hown
              go_wp2
              go_roundw
              case rel => exact ⟨k + 1, _, A'', c'', by omega, by go_num, rfl, by simp [HLEN.out], RB.snoc HRB.out HOB.out, hown8, HM.out, hb8⟩
              case measure => simp [intOf]; omega
      · have hlt' : ¬ k < l.length - 1 := by omega
        have hd : l.drop (k + 1) = [] := List.drop_eq_nil_of_le (by omega)
        rw [hd, lamGo] at HM
        clear hd d0 d1 d2 e0 e1
        go_wp2
        go_ret3
        have hk2 := HLEN.out
        subst hk2
        unfold LamPost
        rw [HM.out]
        exact ⟨A', c', rfl, own_mono hown (by omega), (by repeat (first | assumption | exact Below.refl _ _ | refine Below.drew ?_ | (refine below_alloc _ ?_ ?_; focus (first | omega | (simp; done) | (simp; omega) | (simp at *; omega))) | (refine below_set _ ?_ ?_; focus (first | omega | (simp; done) | (simp; omega) | (simp at *; omega))) | refine below_drewN ?_ _ | (refine below_call (by assumption) ?_ ?_; focus (first | omega | (simp; done) | (simp; omega) | (simp at *; omega))) | (refine below_call' (by assumption) ?_ ?_; focus (first | omega | (simp; done) | (simp; omega) | (simp at *; omega)))))⟩
end Go.Proofs.Ytoegpaolbkcleaa
