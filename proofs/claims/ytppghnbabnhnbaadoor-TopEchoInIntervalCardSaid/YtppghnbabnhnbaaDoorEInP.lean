/-
  Chapter 2: plain laws of directions in their intervals.
-/
import Derived.Test.YtppghnbabnhnbaaDoorEOcL
import Derived.Test.YtppghnbabnhnbaaDoorENxt
namespace Go.Proofs.YtppghnbabnhnbaaDoor
open Go.ChangeShapes Go.WideShapes Go.ChangeAt Go.RowKit
set_option linter.unusedVariables false
set_option linter.unusedSimpArgs false

/-- numbers whose phases lie in the middle of the eighths of a turn, nearly -/
def mid (o : Nat) : Gs := match o with
  | 0 => ⟨12, 5⟩
  | 1 => ⟨5, 12⟩
  | 2 => ⟨-5, 12⟩
  | 3 => ⟨-12, 5⟩
  | 4 => ⟨-12, -5⟩
  | 5 => ⟨-5, -12⟩
  | 6 => ⟨5, -12⟩
  | _ => ⟨12, -5⟩
theorem mid_oct {o : Nat} (h : o < 8) : octG (mid o) = o ∧ nzP (mid o).re (mid o).im ∧ Sz 12 (mid o) := by
  have : o = 0 ∨ o = 1 ∨ o = 2 ∨ o = 3 ∨ o = 4 ∨ o = 5 ∨ o = 6 ∨ o = 7 := by omega
  rcases this with rfl | rfl | rfl | rfl | rfl | rfl | rfl | rfl <;> exact ⟨rfl, .inl (by decide), by decide, by decide, by decide, by decide⟩
theorem oct_mid {g : Gs} (hn : nzP g.re g.im) {o : Nat} (h : o < 8) : octG (rdG2 g (gmul g (mid o))) = o := by
  obtain ⟨h1, h2, -⟩ := mid_oct h
  have hs := nz_sq hn
  have e1 : (rdG2 g (gmul g (mid o))).re = (g.re * g.re + g.im * g.im) * (mid o).re := by simp only [rdG2, gmul, gconj]; grind
  have e2 : (rdG2 g (gmul g (mid o))).im = (g.re * g.re + g.im * g.im) * (mid o).im := by simp only [rdG2, gmul, gconj]; grind
  rw [← h1]
  unfold octG
  rw [e1, e2, oct_scale hs h2]
/-- the reading of a wave from a direction -/
def rdW (s d : Int) : Rd := ⟨s, 90 * (s * d % 720 / 90) + 45, 45⟩
theorem rdW_agr (s d : Int) : agr (rdW s d) d = true := by
  unfold agr rdW dstP
  simp only
  generalize s * d = a
  rw [decide_eq_true_eq]
  split <;> omega
theorem rdo_W {g : Gs} (hn : nzP g.re g.im) {s d : Int} : rdoP g (gmul g (mid (s * d % 720 / 90).toNat)) s = rdW s d := by
  unfold rdoP rdW
  have h8 : (s * d % 720 / 90).toNat < 8 := by generalize s * d = a; omega
  rw [oct_mid hn h8]
  have e : (((s * d % 720 / 90).toNat : Nat) : Int) = s * d % 720 / 90 := by generalize s * d = a; omega
  rw [e]
theorem agA_snoc (l : List Rd) (r : Rd) (d : Int) : agA (l ++ [r]) d = (agA l d && agr r d) := by simp [agA]
theorem candA_snoc (l : List Rd) (r : Rd) : candA (l ++ [r]) = (candA l).filter (agr r) := by
  unfold candA candAK
  rw [List.filter_filter]
  refine List.filter_congr fun d _ => ?_
  rw [agA_snoc, Bool.and_comm]
theorem candA_less (l : List Rd) (r : Rd) : (candA (l ++ [r])).length ≤ (candA l).length := by
  rw [candA_snoc]; exact List.length_filter_le _ _
theorem dstP_comm (a b : Int) : dstP a b = dstP b a := by
  unfold dstP
  split <;> split <;> omega
theorem dstP_modr (a b : Int) : dstP a (b % 720) = dstP a b := by
  unfold dstP
  have e : (a - b % 720) % 720 = (a - b) % 720 := by omega
  rw [e]
theorem cntA_filter (s wr a : Int) : ∀ l : List Int, cntA s wr a l = ((l.filter (near s wr a)).length : Nat)
  | [] => rfl
  | b :: r => by
    rw [cntA, cntA_filter s wr a r, List.filter_cons]
    cases near s wr a b
    · simp
    · simp; omega
theorem wstGo_ge (s wr : Int) (c : List Int) : ∀ (l : List Int) (m : Int), m ≤ wstGo s wr c l m ∧ ∀ a ∈ l, cntA s wr a c ≤ wstGo s wr c l m
  | [], m => ⟨Int.le_refl _, fun a h => by cases h⟩
  | x :: r, m => by
    rw [wstGo]
    by_cases h : m < cntA s wr x c
    · rw [if_pos h]
      obtain ⟨h1, h2⟩ := wstGo_ge s wr c r (cntA s wr x c)
      refine ⟨by omega, fun a ha => ?_⟩
      rcases List.mem_cons.1 ha with rfl | ha
      · exact h1
      · exact h2 a ha
    · rw [if_neg h]
      obtain ⟨h1, h2⟩ := wstGo_ge s wr c r m
      refine ⟨h1, fun a ha => ?_⟩
      rcases List.mem_cons.1 ha with rfl | ha
      · omega
      · exact h2 a ha
theorem nxtGo_spec (wr : Int) (c : List Int) : ∀ (l : List Int) (i b m : Int), (nxtGo wr c l i b m = (b, m) ∧ ∀ s ∈ l, m ≤ wst s wr c) ∨ ∃ (k : Nat) (hk : k < l.length), nxtGo wr c l i b m = (i + k, wst l[k] wr c)
  | [], i, b, m => .inl ⟨rfl, fun s h => by cases h⟩
  | x :: r, i, b, m => by
    rw [nxtGo]
    by_cases h : wst x wr c < m
    · rw [if_pos h]
      rcases nxtGo_spec wr c r (i + 1) i (wst x wr c) with ⟨e, -⟩ | ⟨k, hk, e⟩
      · exact .inr ⟨0, by simp, by rw [e]; simp⟩
      · exact .inr ⟨k + 1, by simp; omega, by rw [e]; simp; omega⟩
    · rw [if_neg h]
      rcases nxtGo_spec wr c r (i + 1) b m with ⟨e, q⟩ | ⟨k, hk, e⟩
      · refine .inl ⟨e, fun s hs => ?_⟩
        rcases List.mem_cons.1 hs with rfl | hs
        · omega
        · exact q s hs
      · exact .inr ⟨k + 1, by simp; omega, by rw [e]; simp; omega⟩
theorem nxt_spec {wr : Int} {c sp : List Int} (h : 0 < sp.length) : ∃ (k : Nat) (hk : k < sp.length), nxt wr c sp = ((k : Int), wst sp[k] wr c) := by
  rcases nxtGo_spec wr c sp 0 0 ((c.length : Int) + 1) with ⟨-, q⟩ | ⟨k, hk, e⟩
  · have := q _ (List.getElem_mem h)
    have := wst_bd sp[0] wr c
    omega
  · exact ⟨k, hk, by rw [nxt, e]; simp⟩
/-- a reading around the phase of the direction for the proposed spacing leaves at most so many -/
theorem next_most (r0 : Rd) (d : Int) (s : Int) (h : d ∈ candA [r0]) : d ∈ candA [r0, ⟨s, s * d % 720, 45⟩] ∧ ((candA [r0, ⟨s, s * d % 720, 45⟩]).length : Int) ≤ wst s 45 (candA [r0]) := by
  have e : candA [r0, ⟨s, s * d % 720, 45⟩] = (candA [r0]).filter (agr ⟨s, s * d % 720, 45⟩) := candA_snoc [r0] _
  have hg : ∀ b : Int, agr ⟨s, s * d % 720, 45⟩ b = near s 45 d b := fun b => by
    unfold agr near
    simp only
    rw [dstP_modr, dstP_comm]
  rw [e]
  refine ⟨List.mem_filter.2 ⟨h, ?_⟩, ?_⟩
  · rw [hg]; unfold near dstP; simp
  · have h2 := (wstGo_ge s 45 (candA [r0]) (candA [r0]) 0).2 d h
    rw [cntA_filter] at h2
    have e2 : (candA [r0]).filter (agr ⟨s, s * d % 720, 45⟩) = (candA [r0]).filter (near s 45 d) := List.filter_congr fun b _ => hg b
    rw [e2]
    exact h2
theorem W_mem (l : List Int) (d : Int) (h0 : -90 ≤ d) (h1 : d ≤ 90) : d ∈ candA (l.map fun s => rdW s d) := by
  rw [candA_mem]
  refine ⟨⟨h0, h1⟩, ?_⟩
  simp [agA, rdW_agr]
end Go.Proofs.YtppghnbabnhnbaaDoor
