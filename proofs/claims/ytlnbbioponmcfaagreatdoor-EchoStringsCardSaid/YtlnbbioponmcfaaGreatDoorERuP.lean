/-
  Chapter 2: rules out of words.
-/
import Derived.Test.YtlnbbioponmcfaaGreatDoorERuS
namespace Go.Proofs.YtlnbbioponmcfaaGreatDoor
open Go.ChangeShapes Go.WideShapes Go.ChangeAt Go.RowKit
set_option linter.unusedVariables false
set_option linter.unusedSimpArgs false

theorem rusQ_zero {s : ByteArray} (h : (rusQ s).2 ≠ 0) : (rusQ s).1 = ruZ := by
  unfold rusQ at h ⊢
  split
  · rfl
  · rename_i l hl
    rw [hl] at h
    simp only at h ⊢
    split
    · rename_i e
      rw [if_pos e] at h
      exact absurd rfl h
    · rfl
/-- a row of stores -/
def setL (w : World) (b : Nat) : Nat → List Value → World
  | _, [] => w
  | i, v :: r => setL (w.setCell ⟨b, i, none⟩ v) b (i + 1) r
theorem setL_other (b : Nat) : ∀ (l : List Value) (i : Nat) (w : World) (j : Nat) (u : Value), j < i → w.cell? ⟨b, j, none⟩ = some u → (setL w b i l).cell? ⟨b, j, none⟩ = some u
  | [], _, _, _, _, _, h => h
  | v :: r, i, w, j, u, hj, h => setL_other b r (i + 1) _ j u (by omega) (cell_next (by omega) h)
theorem setL_at (b : Nat) : ∀ (l : List Value) (i : Nat) (w : World), (∀ j, j < l.length → ∃ u, w.cell? ⟨b, i + j, none⟩ = some u) → ∀ (k : Nat) (v : Value), l[k]? = some v → (setL w b i l).cell? ⟨b, i + k, none⟩ = some v
  | [], _, _, _, k, v, hk => by simp at hk
  | x :: r, i, w, h, 0, v, hk => by
    obtain rfl : x = v := by simpa using hk
    obtain ⟨u, hu⟩ := h 0 (by simp)
    exact setL_other b r (i + 1) _ i x (by omega) (cell_same hu)
  | x :: r, i, w, h, k + 1, v, hk => by
    have := setL_at b r (i + 1) (w.setCell ⟨b, i, none⟩ x) (fun j hj => by
      obtain ⟨u, hu⟩ := h (j + 1) (by simp; omega)
      rw [show i + (j + 1) = i + 1 + j by omega] at hu
      exact ⟨u, cell_next (by omega) hu⟩) k v (by simpa using hk)
    rw [show i + (k + 1) = i + 1 + k by omega]
    exact this
theorem setL_below {B : Nat} {w0 : World} (b : Nat) (hB : B ≤ b) : ∀ (l : List Value) (i : Nat) (w : World), Below B w0 w → Below B w0 (setL w b i l)
  | [], _, _, h => h
  | v :: r, i, w, h => setL_below b hB r (i + 1) _ (below_set _ hB h)
theorem set10 {w : World} {b : Nat} {u0 u1 u2 u3 u4 u5 u6 u7 u8 u9 v0 v1 v2 v3 v4 v5 v6 v7 v8 v9 : Value} (h0 : w.cell? ⟨b, 0, none⟩ = some u0) (h1 : w.cell? ⟨b, 1, none⟩ = some u1) (h2 : w.cell? ⟨b, 2, none⟩ = some u2) (h3 : w.cell? ⟨b, 3, none⟩ = some u3) (h4 : w.cell? ⟨b, 4, none⟩ = some u4) (h5 : w.cell? ⟨b, 5, none⟩ = some u5) (h6 : w.cell? ⟨b, 6, none⟩ = some u6) (h7 : w.cell? ⟨b, 7, none⟩ = some u7) (h8 : w.cell? ⟨b, 8, none⟩ = some u8) (h9 : w.cell? ⟨b, 9, none⟩ = some u9) :
    ∀ (k : Nat) (v : Value), [v0, v1, v2, v3, v4, v5, v6, v7, v8, v9][k]? = some v → (setL w b 0 [v0, v1, v2, v3, v4, v5, v6, v7, v8, v9]).cell? ⟨b, k, none⟩ = some v := fun k v hk => by
  have := setL_at b [v0, v1, v2, v3, v4, v5, v6, v7, v8, v9] 0 w (fun j hj => by
    rw [Nat.zero_add]
    rcases j with _ | _ | _ | _ | _ | _ | _ | _ | _ | _ | j
    · exact ⟨_, h0⟩
    · exact ⟨_, h1⟩
    · exact ⟨_, h2⟩
    · exact ⟨_, h3⟩
    · exact ⟨_, h4⟩
    · exact ⟨_, h5⟩
    · exact ⟨_, h6⟩
    · exact ⟨_, h7⟩
    · exact ⟨_, h8⟩
    · exact ⟨_, h9⟩
    · simp at hj
      omega) k v hk
  rwa [Nat.zero_add] at this
set_option maxRecDepth 100000 in
set_option maxHeartbeats 8000000 in
theorem ParseRules_any (s : ByteArray) (w : World) {B : Nat} (hE : Evn B w) (hB : B ≤ w.heap.size) (hs : s.size ≤ 100000) :
    Calls Tryz.prog 7 #[.string s] w fun e w' => e = .returned (.tuple #[ruv (rusQ s).1, .int .i64 (rusQ s).2]) ∧ Below w.heap.size w w' := by
  have HQZ := Lib.hid (@rusQ_zero s)
  have hq : rusQ s = match parsQ 10 10 s with
    | none => (ruZ, 7)
    | some l => if ruE (ruOf l) = 0 then (ruOf l, 0) else (ruZ, ruE (ruOf l)) := rfl
  have HQ := Lib.hid hq
  have HE := Lib.hid hE
  clear hq hE
  obtain ⟨pq, hpq⟩ : ∃ p, p = parsQ 10 10 s := ⟨_, rfl⟩
  have HPQ := Lib.hid hpq
  rw [← hpq] at HQ
  clear hpq
  generalize hgq : rusQ s = Q at *
  clear hgq
  go_enter Tryz.func7, Tryz.ntmps7
  go_upto_region 2 with (fail)
  have hb1 : Below w.heap.size w ((w.alloc (.cells #[.int .i64 0, .int .i64 0, .int .i64 0, .int .i64 0, .int .i64 0, .int .i64 0, .int .i64 0, .int .i64 0, .int .i64 0, .int .i64 0] 27)).alloc (.cells #[.int .i64 0, .int .i64 0, .int .i64 0, .int .i64 0, .int .i64 0, .int .i64 0, .int .i64 0, .int .i64 0, .int .i64 0, .int .i64 0] 27)) := below_alloc _ (Nat.le_refl _) (below_alloc _ (Nat.le_refl _) (Below.refl _ _))
  have q0 : ((w.alloc (.cells #[.int .i64 0, .int .i64 0, .int .i64 0, .int .i64 0, .int .i64 0, .int .i64 0, .int .i64 0, .int .i64 0, .int .i64 0, .int .i64 0] 27)).alloc (.cells #[.int .i64 0, .int .i64 0, .int .i64 0, .int .i64 0, .int .i64 0, .int .i64 0, .int .i64 0, .int .i64 0, .int .i64 0, .int .i64 0] 27)).cell? ⟨w.heap.size, 0, none⟩ = some (.int .i64 0) := cell_alloc _ (cell_new (by simp) rfl)
  have qf0 : ((w.alloc (.cells #[.int .i64 0, .int .i64 0, .int .i64 0, .int .i64 0, .int .i64 0, .int .i64 0, .int .i64 0, .int .i64 0, .int .i64 0, .int .i64 0] 27)).alloc (.cells #[.int .i64 0, .int .i64 0, .int .i64 0, .int .i64 0, .int .i64 0, .int .i64 0, .int .i64 0, .int .i64 0, .int .i64 0, .int .i64 0] 27)).frozen? ⟨w.heap.size, 0, none⟩ = false := frozen_alloc _ (by first | (simp; done) | (simp; omega)) (frozen_new (by simp))
  have q1 : ((w.alloc (.cells #[.int .i64 0, .int .i64 0, .int .i64 0, .int .i64 0, .int .i64 0, .int .i64 0, .int .i64 0, .int .i64 0, .int .i64 0, .int .i64 0] 27)).alloc (.cells #[.int .i64 0, .int .i64 0, .int .i64 0, .int .i64 0, .int .i64 0, .int .i64 0, .int .i64 0, .int .i64 0, .int .i64 0, .int .i64 0] 27)).cell? ⟨w.heap.size, 1, none⟩ = some (.int .i64 0) := cell_alloc _ (cell_new (by simp) rfl)
  have qf1 : ((w.alloc (.cells #[.int .i64 0, .int .i64 0, .int .i64 0, .int .i64 0, .int .i64 0, .int .i64 0, .int .i64 0, .int .i64 0, .int .i64 0, .int .i64 0] 27)).alloc (.cells #[.int .i64 0, .int .i64 0, .int .i64 0, .int .i64 0, .int .i64 0, .int .i64 0, .int .i64 0, .int .i64 0, .int .i64 0, .int .i64 0] 27)).frozen? ⟨w.heap.size, 1, none⟩ = false := frozen_alloc _ (by first | (simp; done) | (simp; omega)) (frozen_new (by simp))
  have q2 : ((w.alloc (.cells #[.int .i64 0, .int .i64 0, .int .i64 0, .int .i64 0, .int .i64 0, .int .i64 0, .int .i64 0, .int .i64 0, .int .i64 0, .int .i64 0] 27)).alloc (.cells #[.int .i64 0, .int .i64 0, .int .i64 0, .int .i64 0, .int .i64 0, .int .i64 0, .int .i64 0, .int .i64 0, .int .i64 0, .int .i64 0] 27)).cell? ⟨w.heap.size, 2, none⟩ = some (.int .i64 0) := cell_alloc _ (cell_new (by simp) rfl)
  have qf2 : ((w.alloc (.cells #[.int .i64 0, .int .i64 0, .int .i64 0, .int .i64 0, .int .i64 0, .int .i64 0, .int .i64 0, .int .i64 0, .int .i64 0, .int .i64 0] 27)).alloc (.cells #[.int .i64 0, .int .i64 0, .int .i64 0, .int .i64 0, .int .i64 0, .int .i64 0, .int .i64 0, .int .i64 0, .int .i64 0, .int .i64 0] 27)).frozen? ⟨w.heap.size, 2, none⟩ = false := frozen_alloc _ (by first | (simp; done) | (simp; omega)) (frozen_new (by simp))
  have q3 : ((w.alloc (.cells #[.int .i64 0, .int .i64 0, .int .i64 0, .int .i64 0, .int .i64 0, .int .i64 0, .int .i64 0, .int .i64 0, .int .i64 0, .int .i64 0] 27)).alloc (.cells #[.int .i64 0, .int .i64 0, .int .i64 0, .int .i64 0, .int .i64 0, .int .i64 0, .int .i64 0, .int .i64 0, .int .i64 0, .int .i64 0] 27)).cell? ⟨w.heap.size, 3, none⟩ = some (.int .i64 0) := cell_alloc _ (cell_new (by simp) rfl)
  have qf3 : ((w.alloc (.cells #[.int .i64 0, .int .i64 0, .int .i64 0, .int .i64 0, .int .i64 0, .int .i64 0, .int .i64 0, .int .i64 0, .int .i64 0, .int .i64 0] 27)).alloc (.cells #[.int .i64 0, .int .i64 0, .int .i64 0, .int .i64 0, .int .i64 0, .int .i64 0, .int .i64 0, .int .i64 0, .int .i64 0, .int .i64 0] 27)).frozen? ⟨w.heap.size, 3, none⟩ = false := frozen_alloc _ (by first | (simp; done) | (simp; omega)) (frozen_new (by simp))
  have q4 : ((w.alloc (.cells #[.int .i64 0, .int .i64 0, .int .i64 0, .int .i64 0, .int .i64 0, .int .i64 0, .int .i64 0, .int .i64 0, .int .i64 0, .int .i64 0] 27)).alloc (.cells #[.int .i64 0, .int .i64 0, .int .i64 0, .int .i64 0, .int .i64 0, .int .i64 0, .int .i64 0, .int .i64 0, .int .i64 0, .int .i64 0] 27)).cell? ⟨w.heap.size, 4, none⟩ = some (.int .i64 0) := cell_alloc _ (cell_new (by simp) rfl)
  have qf4 : ((w.alloc (.cells #[.int .i64 0, .int .i64 0, .int .i64 0, .int .i64 0, .int .i64 0, .int .i64 0, .int .i64 0, .int .i64 0, .int .i64 0, .int .i64 0] 27)).alloc (.cells #[.int .i64 0, .int .i64 0, .int .i64 0, .int .i64 0, .int .i64 0, .int .i64 0, .int .i64 0, .int .i64 0, .int .i64 0, .int .i64 0] 27)).frozen? ⟨w.heap.size, 4, none⟩ = false := frozen_alloc _ (by first | (simp; done) | (simp; omega)) (frozen_new (by simp))
  have q5 : ((w.alloc (.cells #[.int .i64 0, .int .i64 0, .int .i64 0, .int .i64 0, .int .i64 0, .int .i64 0, .int .i64 0, .int .i64 0, .int .i64 0, .int .i64 0] 27)).alloc (.cells #[.int .i64 0, .int .i64 0, .int .i64 0, .int .i64 0, .int .i64 0, .int .i64 0, .int .i64 0, .int .i64 0, .int .i64 0, .int .i64 0] 27)).cell? ⟨w.heap.size, 5, none⟩ = some (.int .i64 0) := cell_alloc _ (cell_new (by simp) rfl)
  have qf5 : ((w.alloc (.cells #[.int .i64 0, .int .i64 0, .int .i64 0, .int .i64 0, .int .i64 0, .int .i64 0, .int .i64 0, .int .i64 0, .int .i64 0, .int .i64 0] 27)).alloc (.cells #[.int .i64 0, .int .i64 0, .int .i64 0, .int .i64 0, .int .i64 0, .int .i64 0, .int .i64 0, .int .i64 0, .int .i64 0, .int .i64 0] 27)).frozen? ⟨w.heap.size, 5, none⟩ = false := frozen_alloc _ (by first | (simp; done) | (simp; omega)) (frozen_new (by simp))
  have q6 : ((w.alloc (.cells #[.int .i64 0, .int .i64 0, .int .i64 0, .int .i64 0, .int .i64 0, .int .i64 0, .int .i64 0, .int .i64 0, .int .i64 0, .int .i64 0] 27)).alloc (.cells #[.int .i64 0, .int .i64 0, .int .i64 0, .int .i64 0, .int .i64 0, .int .i64 0, .int .i64 0, .int .i64 0, .int .i64 0, .int .i64 0] 27)).cell? ⟨w.heap.size, 6, none⟩ = some (.int .i64 0) := cell_alloc _ (cell_new (by simp) rfl)
  have qf6 : ((w.alloc (.cells #[.int .i64 0, .int .i64 0, .int .i64 0, .int .i64 0, .int .i64 0, .int .i64 0, .int .i64 0, .int .i64 0, .int .i64 0, .int .i64 0] 27)).alloc (.cells #[.int .i64 0, .int .i64 0, .int .i64 0, .int .i64 0, .int .i64 0, .int .i64 0, .int .i64 0, .int .i64 0, .int .i64 0, .int .i64 0] 27)).frozen? ⟨w.heap.size, 6, none⟩ = false := frozen_alloc _ (by first | (simp; done) | (simp; omega)) (frozen_new (by simp))
  have q7 : ((w.alloc (.cells #[.int .i64 0, .int .i64 0, .int .i64 0, .int .i64 0, .int .i64 0, .int .i64 0, .int .i64 0, .int .i64 0, .int .i64 0, .int .i64 0] 27)).alloc (.cells #[.int .i64 0, .int .i64 0, .int .i64 0, .int .i64 0, .int .i64 0, .int .i64 0, .int .i64 0, .int .i64 0, .int .i64 0, .int .i64 0] 27)).cell? ⟨w.heap.size, 7, none⟩ = some (.int .i64 0) := cell_alloc _ (cell_new (by simp) rfl)
  have qf7 : ((w.alloc (.cells #[.int .i64 0, .int .i64 0, .int .i64 0, .int .i64 0, .int .i64 0, .int .i64 0, .int .i64 0, .int .i64 0, .int .i64 0, .int .i64 0] 27)).alloc (.cells #[.int .i64 0, .int .i64 0, .int .i64 0, .int .i64 0, .int .i64 0, .int .i64 0, .int .i64 0, .int .i64 0, .int .i64 0, .int .i64 0] 27)).frozen? ⟨w.heap.size, 7, none⟩ = false := frozen_alloc _ (by first | (simp; done) | (simp; omega)) (frozen_new (by simp))
  have q8 : ((w.alloc (.cells #[.int .i64 0, .int .i64 0, .int .i64 0, .int .i64 0, .int .i64 0, .int .i64 0, .int .i64 0, .int .i64 0, .int .i64 0, .int .i64 0] 27)).alloc (.cells #[.int .i64 0, .int .i64 0, .int .i64 0, .int .i64 0, .int .i64 0, .int .i64 0, .int .i64 0, .int .i64 0, .int .i64 0, .int .i64 0] 27)).cell? ⟨w.heap.size, 8, none⟩ = some (.int .i64 0) := cell_alloc _ (cell_new (by simp) rfl)
  have qf8 : ((w.alloc (.cells #[.int .i64 0, .int .i64 0, .int .i64 0, .int .i64 0, .int .i64 0, .int .i64 0, .int .i64 0, .int .i64 0, .int .i64 0, .int .i64 0] 27)).alloc (.cells #[.int .i64 0, .int .i64 0, .int .i64 0, .int .i64 0, .int .i64 0, .int .i64 0, .int .i64 0, .int .i64 0, .int .i64 0, .int .i64 0] 27)).frozen? ⟨w.heap.size, 8, none⟩ = false := frozen_alloc _ (by first | (simp; done) | (simp; omega)) (frozen_new (by simp))
  have q9 : ((w.alloc (.cells #[.int .i64 0, .int .i64 0, .int .i64 0, .int .i64 0, .int .i64 0, .int .i64 0, .int .i64 0, .int .i64 0, .int .i64 0, .int .i64 0] 27)).alloc (.cells #[.int .i64 0, .int .i64 0, .int .i64 0, .int .i64 0, .int .i64 0, .int .i64 0, .int .i64 0, .int .i64 0, .int .i64 0, .int .i64 0] 27)).cell? ⟨w.heap.size, 9, none⟩ = some (.int .i64 0) := cell_alloc _ (cell_new (by simp) rfl)
  have qf9 : ((w.alloc (.cells #[.int .i64 0, .int .i64 0, .int .i64 0, .int .i64 0, .int .i64 0, .int .i64 0, .int .i64 0, .int .i64 0, .int .i64 0, .int .i64 0] 27)).alloc (.cells #[.int .i64 0, .int .i64 0, .int .i64 0, .int .i64 0, .int .i64 0, .int .i64 0, .int .i64 0, .int .i64 0, .int .i64 0, .int .i64 0] 27)).frozen? ⟨w.heap.size, 9, none⟩ = false := frozen_alloc _ (by first | (simp; done) | (simp; omega)) (frozen_new (by simp))
  have zq : w.heap.size < ((w.alloc (.cells #[.int .i64 0, .int .i64 0, .int .i64 0, .int .i64 0, .int .i64 0, .int .i64 0, .int .i64 0, .int .i64 0, .int .i64 0, .int .i64 0] 27)).alloc (.cells #[.int .i64 0, .int .i64 0, .int .i64 0, .int .i64 0, .int .i64 0, .int .i64 0, .int .i64 0, .int .i64 0, .int .i64 0, .int .i64 0] 27)).heap.size := World.block_lt_of_cell? _ _ q0
  have x0 : ((w.alloc (.cells #[.int .i64 0, .int .i64 0, .int .i64 0, .int .i64 0, .int .i64 0, .int .i64 0, .int .i64 0, .int .i64 0, .int .i64 0, .int .i64 0] 27)).alloc (.cells #[.int .i64 0, .int .i64 0, .int .i64 0, .int .i64 0, .int .i64 0, .int .i64 0, .int .i64 0, .int .i64 0, .int .i64 0, .int .i64 0] 27)).cell? ⟨w.heap.size + 1, 0, none⟩ = some (.int .i64 0) := cell_new (by simp) rfl
  have xf0 : ((w.alloc (.cells #[.int .i64 0, .int .i64 0, .int .i64 0, .int .i64 0, .int .i64 0, .int .i64 0, .int .i64 0, .int .i64 0, .int .i64 0, .int .i64 0] 27)).alloc (.cells #[.int .i64 0, .int .i64 0, .int .i64 0, .int .i64 0, .int .i64 0, .int .i64 0, .int .i64 0, .int .i64 0, .int .i64 0, .int .i64 0] 27)).frozen? ⟨w.heap.size + 1, 0, none⟩ = false := frozen_new (by simp)
  have x1 : ((w.alloc (.cells #[.int .i64 0, .int .i64 0, .int .i64 0, .int .i64 0, .int .i64 0, .int .i64 0, .int .i64 0, .int .i64 0, .int .i64 0, .int .i64 0] 27)).alloc (.cells #[.int .i64 0, .int .i64 0, .int .i64 0, .int .i64 0, .int .i64 0, .int .i64 0, .int .i64 0, .int .i64 0, .int .i64 0, .int .i64 0] 27)).cell? ⟨w.heap.size + 1, 1, none⟩ = some (.int .i64 0) := cell_new (by simp) rfl
  have xf1 : ((w.alloc (.cells #[.int .i64 0, .int .i64 0, .int .i64 0, .int .i64 0, .int .i64 0, .int .i64 0, .int .i64 0, .int .i64 0, .int .i64 0, .int .i64 0] 27)).alloc (.cells #[.int .i64 0, .int .i64 0, .int .i64 0, .int .i64 0, .int .i64 0, .int .i64 0, .int .i64 0, .int .i64 0, .int .i64 0, .int .i64 0] 27)).frozen? ⟨w.heap.size + 1, 1, none⟩ = false := frozen_new (by simp)
  have x2 : ((w.alloc (.cells #[.int .i64 0, .int .i64 0, .int .i64 0, .int .i64 0, .int .i64 0, .int .i64 0, .int .i64 0, .int .i64 0, .int .i64 0, .int .i64 0] 27)).alloc (.cells #[.int .i64 0, .int .i64 0, .int .i64 0, .int .i64 0, .int .i64 0, .int .i64 0, .int .i64 0, .int .i64 0, .int .i64 0, .int .i64 0] 27)).cell? ⟨w.heap.size + 1, 2, none⟩ = some (.int .i64 0) := cell_new (by simp) rfl
  have xf2 : ((w.alloc (.cells #[.int .i64 0, .int .i64 0, .int .i64 0, .int .i64 0, .int .i64 0, .int .i64 0, .int .i64 0, .int .i64 0, .int .i64 0, .int .i64 0] 27)).alloc (.cells #[.int .i64 0, .int .i64 0, .int .i64 0, .int .i64 0, .int .i64 0, .int .i64 0, .int .i64 0, .int .i64 0, .int .i64 0, .int .i64 0] 27)).frozen? ⟨w.heap.size + 1, 2, none⟩ = false := frozen_new (by simp)
  have x3 : ((w.alloc (.cells #[.int .i64 0, .int .i64 0, .int .i64 0, .int .i64 0, .int .i64 0, .int .i64 0, .int .i64 0, .int .i64 0, .int .i64 0, .int .i64 0] 27)).alloc (.cells #[.int .i64 0, .int .i64 0, .int .i64 0, .int .i64 0, .int .i64 0, .int .i64 0, .int .i64 0, .int .i64 0, .int .i64 0, .int .i64 0] 27)).cell? ⟨w.heap.size + 1, 3, none⟩ = some (.int .i64 0) := cell_new (by simp) rfl
  have xf3 : ((w.alloc (.cells #[.int .i64 0, .int .i64 0, .int .i64 0, .int .i64 0, .int .i64 0, .int .i64 0, .int .i64 0, .int .i64 0, .int .i64 0, .int .i64 0] 27)).alloc (.cells #[.int .i64 0, .int .i64 0, .int .i64 0, .int .i64 0, .int .i64 0, .int .i64 0, .int .i64 0, .int .i64 0, .int .i64 0, .int .i64 0] 27)).frozen? ⟨w.heap.size + 1, 3, none⟩ = false := frozen_new (by simp)
  have x4 : ((w.alloc (.cells #[.int .i64 0, .int .i64 0, .int .i64 0, .int .i64 0, .int .i64 0, .int .i64 0, .int .i64 0, .int .i64 0, .int .i64 0, .int .i64 0] 27)).alloc (.cells #[.int .i64 0, .int .i64 0, .int .i64 0, .int .i64 0, .int .i64 0, .int .i64 0, .int .i64 0, .int .i64 0, .int .i64 0, .int .i64 0] 27)).cell? ⟨w.heap.size + 1, 4, none⟩ = some (.int .i64 0) := cell_new (by simp) rfl
  have xf4 : ((w.alloc (.cells #[.int .i64 0, .int .i64 0, .int .i64 0, .int .i64 0, .int .i64 0, .int .i64 0, .int .i64 0, .int .i64 0, .int .i64 0, .int .i64 0] 27)).alloc (.cells #[.int .i64 0, .int .i64 0, .int .i64 0, .int .i64 0, .int .i64 0, .int .i64 0, .int .i64 0, .int .i64 0, .int .i64 0, .int .i64 0] 27)).frozen? ⟨w.heap.size + 1, 4, none⟩ = false := frozen_new (by simp)
  have x5 : ((w.alloc (.cells #[.int .i64 0, .int .i64 0, .int .i64 0, .int .i64 0, .int .i64 0, .int .i64 0, .int .i64 0, .int .i64 0, .int .i64 0, .int .i64 0] 27)).alloc (.cells #[.int .i64 0, .int .i64 0, .int .i64 0, .int .i64 0, .int .i64 0, .int .i64 0, .int .i64 0, .int .i64 0, .int .i64 0, .int .i64 0] 27)).cell? ⟨w.heap.size + 1, 5, none⟩ = some (.int .i64 0) := cell_new (by simp) rfl
  have xf5 : ((w.alloc (.cells #[.int .i64 0, .int .i64 0, .int .i64 0, .int .i64 0, .int .i64 0, .int .i64 0, .int .i64 0, .int .i64 0, .int .i64 0, .int .i64 0] 27)).alloc (.cells #[.int .i64 0, .int .i64 0, .int .i64 0, .int .i64 0, .int .i64 0, .int .i64 0, .int .i64 0, .int .i64 0, .int .i64 0, .int .i64 0] 27)).frozen? ⟨w.heap.size + 1, 5, none⟩ = false := frozen_new (by simp)
  have x6 : ((w.alloc (.cells #[.int .i64 0, .int .i64 0, .int .i64 0, .int .i64 0, .int .i64 0, .int .i64 0, .int .i64 0, .int .i64 0, .int .i64 0, .int .i64 0] 27)).alloc (.cells #[.int .i64 0, .int .i64 0, .int .i64 0, .int .i64 0, .int .i64 0, .int .i64 0, .int .i64 0, .int .i64 0, .int .i64 0, .int .i64 0] 27)).cell? ⟨w.heap.size + 1, 6, none⟩ = some (.int .i64 0) := cell_new (by simp) rfl
  have xf6 : ((w.alloc (.cells #[.int .i64 0, .int .i64 0, .int .i64 0, .int .i64 0, .int .i64 0, .int .i64 0, .int .i64 0, .int .i64 0, .int .i64 0, .int .i64 0] 27)).alloc (.cells #[.int .i64 0, .int .i64 0, .int .i64 0, .int .i64 0, .int .i64 0, .int .i64 0, .int .i64 0, .int .i64 0, .int .i64 0, .int .i64 0] 27)).frozen? ⟨w.heap.size + 1, 6, none⟩ = false := frozen_new (by simp)
  have x7 : ((w.alloc (.cells #[.int .i64 0, .int .i64 0, .int .i64 0, .int .i64 0, .int .i64 0, .int .i64 0, .int .i64 0, .int .i64 0, .int .i64 0, .int .i64 0] 27)).alloc (.cells #[.int .i64 0, .int .i64 0, .int .i64 0, .int .i64 0, .int .i64 0, .int .i64 0, .int .i64 0, .int .i64 0, .int .i64 0, .int .i64 0] 27)).cell? ⟨w.heap.size + 1, 7, none⟩ = some (.int .i64 0) := cell_new (by simp) rfl
  have xf7 : ((w.alloc (.cells #[.int .i64 0, .int .i64 0, .int .i64 0, .int .i64 0, .int .i64 0, .int .i64 0, .int .i64 0, .int .i64 0, .int .i64 0, .int .i64 0] 27)).alloc (.cells #[.int .i64 0, .int .i64 0, .int .i64 0, .int .i64 0, .int .i64 0, .int .i64 0, .int .i64 0, .int .i64 0, .int .i64 0, .int .i64 0] 27)).frozen? ⟨w.heap.size + 1, 7, none⟩ = false := frozen_new (by simp)
  have x8 : ((w.alloc (.cells #[.int .i64 0, .int .i64 0, .int .i64 0, .int .i64 0, .int .i64 0, .int .i64 0, .int .i64 0, .int .i64 0, .int .i64 0, .int .i64 0] 27)).alloc (.cells #[.int .i64 0, .int .i64 0, .int .i64 0, .int .i64 0, .int .i64 0, .int .i64 0, .int .i64 0, .int .i64 0, .int .i64 0, .int .i64 0] 27)).cell? ⟨w.heap.size + 1, 8, none⟩ = some (.int .i64 0) := cell_new (by simp) rfl
  have xf8 : ((w.alloc (.cells #[.int .i64 0, .int .i64 0, .int .i64 0, .int .i64 0, .int .i64 0, .int .i64 0, .int .i64 0, .int .i64 0, .int .i64 0, .int .i64 0] 27)).alloc (.cells #[.int .i64 0, .int .i64 0, .int .i64 0, .int .i64 0, .int .i64 0, .int .i64 0, .int .i64 0, .int .i64 0, .int .i64 0, .int .i64 0] 27)).frozen? ⟨w.heap.size + 1, 8, none⟩ = false := frozen_new (by simp)
  have x9 : ((w.alloc (.cells #[.int .i64 0, .int .i64 0, .int .i64 0, .int .i64 0, .int .i64 0, .int .i64 0, .int .i64 0, .int .i64 0, .int .i64 0, .int .i64 0] 27)).alloc (.cells #[.int .i64 0, .int .i64 0, .int .i64 0, .int .i64 0, .int .i64 0, .int .i64 0, .int .i64 0, .int .i64 0, .int .i64 0, .int .i64 0] 27)).cell? ⟨w.heap.size + 1, 9, none⟩ = some (.int .i64 0) := cell_new (by simp) rfl
  have xf9 : ((w.alloc (.cells #[.int .i64 0, .int .i64 0, .int .i64 0, .int .i64 0, .int .i64 0, .int .i64 0, .int .i64 0, .int .i64 0, .int .i64 0, .int .i64 0] 27)).alloc (.cells #[.int .i64 0, .int .i64 0, .int .i64 0, .int .i64 0, .int .i64 0, .int .i64 0, .int .i64 0, .int .i64 0, .int .i64 0, .int .i64 0] 27)).frozen? ⟨w.heap.size + 1, 9, none⟩ = false := frozen_new (by simp)
  have xk : ((w.alloc (.cells #[.int .i64 0, .int .i64 0, .int .i64 0, .int .i64 0, .int .i64 0, .int .i64 0, .int .i64 0, .int .i64 0, .int .i64 0, .int .i64 0] 27)).alloc (.cells #[.int .i64 0, .int .i64 0, .int .i64 0, .int .i64 0, .int .i64 0, .int .i64 0, .int .i64 0, .int .i64 0, .int .i64 0, .int .i64 0] 27)).heap[w.heap.size + 1]? = some (.cells #[.int .i64 0, .int .i64 0, .int .i64 0, .int .i64 0, .int .i64 0, .int .i64 0, .int .i64 0, .int .i64 0, .int .i64 0, .int .i64 0] 27) := blk_new (by simp)
  have zx : w.heap.size + 1 < ((w.alloc (.cells #[.int .i64 0, .int .i64 0, .int .i64 0, .int .i64 0, .int .i64 0, .int .i64 0, .int .i64 0, .int .i64 0, .int .i64 0, .int .i64 0] 27)).alloc (.cells #[.int .i64 0, .int .i64 0, .int .i64 0, .int .i64 0, .int .i64 0, .int .i64 0, .int .i64 0, .int .i64 0, .int .i64 0, .int .i64 0] 27)).heap.size := World.block_lt_of_cell? _ _ x0
  generalize ((w.alloc (.cells #[.int .i64 0, .int .i64 0, .int .i64 0, .int .i64 0, .int .i64 0, .int .i64 0, .int .i64 0, .int .i64 0, .int .i64 0, .int .i64 0] 27)).alloc (.cells #[.int .i64 0, .int .i64 0, .int .i64 0, .int .i64 0, .int .i64 0, .int .i64 0, .int .i64 0, .int .i64 0, .int .i64 0, .int .i64 0] 27)) = w1 at *
  have HV := Lib.hid (vs10 x0 x1 x2 x3 x4 x5 x6 x7 x8 x9 (fun j => blk_frozen xk))
  have E1 := Lib.hid ((HE.out.low (hb1.mono hB)).up hB)
  have HP := Lib.hid (parts10_any (w.heap.size + 1) _ w1 zx x0)
  clear x1 x2 x3 x4 x5 x6 x7 x8 x9 xf0 xf1 xf2 xf3 xf4 xf5 xf6 xf7 xf8 xf9 xk
  go_wp2_with (first
    | (go_at_call 34; (refine HP.out.mono ?_; rintro e w2 ⟨A2, rfl, hP2, hb2⟩; have HV2 := Lib.hid (HV.out.below hb2); have E2 := Lib.hid (E1.out.low (hb2.mono (show w.heap.size ≤ w1.heap.size by omega))); have zx2 : w.heap.size + 1 < w2.heap.size := Nat.lt_of_lt_of_le zx hb2.size; have h2 : Below w.heap.size w w2 := hb1.trans (hb2.mono (by omega)); replace q0 := cell_below' hb2 q0; replace q1 := cell_below' hb2 q1; replace q2 := cell_below' hb2 q2; replace q3 := cell_below' hb2 q3; replace q4 := cell_below' hb2 q4; replace q5 := cell_below' hb2 q5; replace q6 := cell_below' hb2 q6; replace q7 := cell_below' hb2 q7; replace q8 := cell_below' hb2 q8; replace q9 := cell_below' hb2 q9; replace qf0 := frozen_below hb2 (show w.heap.size < _ from zq) qf0; replace qf1 := frozen_below hb2 (show w.heap.size < _ from zq) qf1; replace qf2 := frozen_below hb2 (show w.heap.size < _ from zq) qf2; replace qf3 := frozen_below hb2 (show w.heap.size < _ from zq) qf3; replace qf4 := frozen_below hb2 (show w.heap.size < _ from zq) qf4; replace qf5 := frozen_below hb2 (show w.heap.size < _ from zq) qf5; replace qf6 := frozen_below hb2 (show w.heap.size < _ from zq) qf6; replace qf7 := frozen_below hb2 (show w.heap.size < _ from zq) qf7; replace qf8 := frozen_below hb2 (show w.heap.size < _ from zq) qf8; replace qf9 := frozen_below hb2 (show w.heap.size < _ from zq) qf9; have HPA := Lib.hid (parse_any s A2 10 10 (w.heap.size + 1) [0, 0, 0, 0, 0, 0, 0, 0, 0, 0] w2 E2.out (Nat.le_succ _) zx2 rfl (by decide) hs hP2 HV2.out (by simp)); rw [← HPQ.out] at HPA; clear HP HV E1 hb1 hb2 x0 hP2))
    | (go_at_call 33; (refine HPA.out.mono ?_; rintro e w3 ⟨vs, rfl, hvl, hvb, hV3, hvq, hb3⟩)))
  have h3 : Below w.heap.size w w3 := h2.trans (hb3.mono (Nat.le_succ _))
  have zq3 : w.heap.size < w3.heap.size := by have := h3.size; have := hb3.size; omega
  replace q0 := (hb3.cell (show w.heap.size < w.heap.size + 1 from Nat.lt_succ_self _)).trans q0
  replace q1 := (hb3.cell (show w.heap.size < w.heap.size + 1 from Nat.lt_succ_self _)).trans q1
  replace q2 := (hb3.cell (show w.heap.size < w.heap.size + 1 from Nat.lt_succ_self _)).trans q2
  replace q3 := (hb3.cell (show w.heap.size < w.heap.size + 1 from Nat.lt_succ_self _)).trans q3
  replace q4 := (hb3.cell (show w.heap.size < w.heap.size + 1 from Nat.lt_succ_self _)).trans q4
  replace q5 := (hb3.cell (show w.heap.size < w.heap.size + 1 from Nat.lt_succ_self _)).trans q5
  replace q6 := (hb3.cell (show w.heap.size < w.heap.size + 1 from Nat.lt_succ_self _)).trans q6
  replace q7 := (hb3.cell (show w.heap.size < w.heap.size + 1 from Nat.lt_succ_self _)).trans q7
  replace q8 := (hb3.cell (show w.heap.size < w.heap.size + 1 from Nat.lt_succ_self _)).trans q8
  replace q9 := (hb3.cell (show w.heap.size < w.heap.size + 1 from Nat.lt_succ_self _)).trans q9
  replace qf0 := frozen_below hb3 (show w.heap.size < w.heap.size + 1 from Nat.lt_succ_self _) qf0
  replace qf1 := frozen_below hb3 (show w.heap.size < w.heap.size + 1 from Nat.lt_succ_self _) qf1
  replace qf2 := frozen_below hb3 (show w.heap.size < w.heap.size + 1 from Nat.lt_succ_self _) qf2
  replace qf3 := frozen_below hb3 (show w.heap.size < w.heap.size + 1 from Nat.lt_succ_self _) qf3
  replace qf4 := frozen_below hb3 (show w.heap.size < w.heap.size + 1 from Nat.lt_succ_self _) qf4
  replace qf5 := frozen_below hb3 (show w.heap.size < w.heap.size + 1 from Nat.lt_succ_self _) qf5
  replace qf6 := frozen_below hb3 (show w.heap.size < w.heap.size + 1 from Nat.lt_succ_self _) qf6
  replace qf7 := frozen_below hb3 (show w.heap.size < w.heap.size + 1 from Nat.lt_succ_self _) qf7
  replace qf8 := frozen_below hb3 (show w.heap.size < w.heap.size + 1 from Nat.lt_succ_self _) qf8
  replace qf9 := frozen_below hb3 (show w.heap.size < w.heap.size + 1 from Nat.lt_succ_self _) qf9
  have HVQ := Lib.hid hvq
  obtain ⟨a0, a1, a2, a3, a4, a5, a6, a7, a8, a9, rfl⟩ := ten hvl
  have x0 := (hV3 0 (by simp)).1
  have x1 := (hV3 1 (by simp)).1
  have x2 := (hV3 2 (by simp)).1
  have x3 := (hV3 3 (by simp)).1
  have x4 := (hV3 4 (by simp)).1
  have x5 := (hV3 5 (by simp)).1
  have x6 := (hV3 6 (by simp)).1
  have x7 := (hV3 7 (by simp)).1
  have x8 := (hV3 8 (by simp)).1
  have x9 := (hV3 9 (by simp)).1
  simp only [List.getElem_cons_zero, List.getElem_cons_succ] at x0 x1 x2 x3 x4 x5 x6 x7 x8 x9
  clear HPA HV2 E2 h2 hb3 hV3 hvb hvl hvq zq
  have HCK := Lib.hid (fun W => CheckRules_any ⟨⟨a0, a1⟩, ⟨a2, a3⟩, a4, a5, a6, a7, a8, a9⟩ W)
  have hEr : ruOf [a0, a1, a2, a3, a4, a5, a6, a7, a8, a9] = ⟨⟨a0, a1⟩, ⟨a2, a3⟩, a4, a5, a6, a7, a8, a9⟩ := rfl
  obtain ⟨ee, hee⟩ : ∃ ee, ee = ruE ⟨⟨a0, a1⟩, ⟨a2, a3⟩, a4, a5, a6, a7, a8, a9⟩ := ⟨_, rfl⟩
  rw [← hee] at HCK
  have HEE := Lib.hid hee
  clear hee
  cases pq with
  | none =>
    have HQ2 := Lib.hid (show Q = (ruZ, 7) from HQ.out)
    have HF : Hid (firstE [unl false 7, ee] = 7) := Lib.hid (firstE_nz (by decide))
    go_upto_region 3 with (fail)
    (refine region_extx 4 (by kernel_rfl) (by kernel_rfl) fun hx => ?_; simp only [List.take_succ_cons, List.take_zero, List.drop_succ_cons, List.drop_zero]; (repeat (any_goals (first | go_big_quiet_step ((first | ((go_at_call 36; with_reducible exact ext_same (unless_any _ _ _))) | ((go_at_call 37; with_reducible exact ext_call (HCK.out _))))) | quiet_step ((first | ((go_at_call 36; with_reducible exact ext_same (unless_any _ _ _))) | ((go_at_call 37; with_reducible exact ext_call (HCK.out _)))))))))
    (refine wpQuiet_nil ?_; clear hx; intro u; have hbw5 := ext_bel _ u; have hxw5 := ext_cell _ u; generalize ext _ u = w5 at *; clear u; have hsw5 := hbw5.size; (try simp at hsw5))
    have h5 : Below w.heap.size w w5 := h3.trans (hbw5.mono h3.size)
    replace q0 := cell_below' hbw5 q0
    replace q1 := cell_below' hbw5 q1
    replace q2 := cell_below' hbw5 q2
    replace q3 := cell_below' hbw5 q3
    replace q4 := cell_below' hbw5 q4
    replace q5 := cell_below' hbw5 q5
    replace q6 := cell_below' hbw5 q6
    replace q7 := cell_below' hbw5 q7
    replace q8 := cell_below' hbw5 q8
    replace q9 := cell_below' hbw5 q9
    replace qf0 := frozen_below hbw5 (show w.heap.size < _ from zq3) qf0
    replace qf1 := frozen_below hbw5 (show w.heap.size < _ from zq3) qf1
    replace qf2 := frozen_below hbw5 (show w.heap.size < _ from zq3) qf2
    replace qf3 := frozen_below hbw5 (show w.heap.size < _ from zq3) qf3
    replace qf4 := frozen_below hbw5 (show w.heap.size < _ from zq3) qf4
    replace qf5 := frozen_below hbw5 (show w.heap.size < _ from zq3) qf5
    replace qf6 := frozen_below hbw5 (show w.heap.size < _ from zq3) qf6
    replace qf7 := frozen_below hbw5 (show w.heap.size < _ from zq3) qf7
    replace qf8 := frozen_below hbw5 (show w.heap.size < _ from zq3) qf8
    replace qf9 := frozen_below hbw5 (show w.heap.size < _ from zq3) qf9
    replace x0 := cell_below' hbw5 x0
    replace x1 := cell_below' hbw5 x1
    replace x2 := cell_below' hbw5 x2
    replace x3 := cell_below' hbw5 x3
    replace x4 := cell_below' hbw5 x4
    replace x5 := cell_below' hbw5 x5
    replace x6 := cell_below' hbw5 x6
    replace x7 := cell_below' hbw5 x7
    replace x8 := cell_below' hbw5 x8
    replace x9 := cell_below' hbw5 x9
    have zq5 : w.heap.size < w5.heap.size := Nat.lt_of_lt_of_le zq3 hbw5.size
    have zx5 := World.block_lt_of_cell? _ _ x0
    clear HCK hbw5 hxw5 hsw5 h3 zq3
    go_wp2_with (go_at_call 35; refine (first2 _ _ _ _ (by simp) (cell_new (by simp) rfl) (cell_new (by simp) rfl)).mono ?_; rintro e w' ⟨rfl, rfl⟩; rw [HF.out])
    have hz5 : w.heap.size ≤ w5.heap.size := Nat.le_of_lt zq5
    have S := set10 (w := w5) (b := w.heap.size) (v0 := .int .i64 0) (v1 := .int .i64 0) (v2 := .int .i64 0) (v3 := .int .i64 0) (v4 := .int .i64 0) (v5 := .int .i64 0) (v6 := .int .i64 0) (v7 := .int .i64 0) (v8 := .int .i64 0) (v9 := .int .i64 0) q0 q1 q2 q3 q4 q5 q6 q7 q8 q9
    have hB6 : Below w.heap.size w ((setL w5 w.heap.size 0 [.int .i64 0, .int .i64 0, .int .i64 0, .int .i64 0, .int .i64 0, .int .i64 0, .int .i64 0, .int .i64 0, .int .i64 0, .int .i64 0]).alloc (.cells #[.int .i64 (unl false 7), .int .i64 ee] 35)) := below_alloc _ (Nat.le_refl _) (setL_below _ (Nat.le_refl _) _ _ _ h5)
    have s0 := cell_alloc (.cells #[.int .i64 (unl false 7), .int .i64 ee] 35) (S 0 _ rfl)
    have s1 := cell_alloc (.cells #[.int .i64 (unl false 7), .int .i64 ee] 35) (S 1 _ rfl)
    have s2 := cell_alloc (.cells #[.int .i64 (unl false 7), .int .i64 ee] 35) (S 2 _ rfl)
    have s3 := cell_alloc (.cells #[.int .i64 (unl false 7), .int .i64 ee] 35) (S 3 _ rfl)
    have s4 := cell_alloc (.cells #[.int .i64 (unl false 7), .int .i64 ee] 35) (S 4 _ rfl)
    have s5 := cell_alloc (.cells #[.int .i64 (unl false 7), .int .i64 ee] 35) (S 5 _ rfl)
    have s6 := cell_alloc (.cells #[.int .i64 (unl false 7), .int .i64 ee] 35) (S 6 _ rfl)
    have s7 := cell_alloc (.cells #[.int .i64 (unl false 7), .int .i64 ee] 35) (S 7 _ rfl)
    have s8 := cell_alloc (.cells #[.int .i64 (unl false 7), .int .i64 ee] 35) (S 8 _ rfl)
    have s9 := cell_alloc (.cells #[.int .i64 (unl false 7), .int .i64 ee] 35) (S 9 _ rfl)
    simp only [setL] at s0 s1 s2 s3 s4 s5 s6 s7 s8 s9 hB6
    generalize (((((((((((w5.setCell ⟨w.heap.size, 0, none⟩ (.int .i64 0)).setCell ⟨w.heap.size, 1, none⟩ (.int .i64 0)).setCell ⟨w.heap.size, 2, none⟩ (.int .i64 0)).setCell ⟨w.heap.size, 3, none⟩ (.int .i64 0)).setCell ⟨w.heap.size, 4, none⟩ (.int .i64 0)).setCell ⟨w.heap.size, 5, none⟩ (.int .i64 0)).setCell ⟨w.heap.size, 6, none⟩ (.int .i64 0)).setCell ⟨w.heap.size, 7, none⟩ (.int .i64 0)).setCell ⟨w.heap.size, 8, none⟩ (.int .i64 0)).setCell ⟨w.heap.size, 9, none⟩ (.int .i64 0)).alloc (.cells #[.int .i64 (unl false 7), .int .i64 ee] 35)) = WF at *
    clear S
    refine bodyPost_ret (v := .tuple #[.agg #[.int .i64 0, .int .i64 0, .int .i64 0, .int .i64 0, .int .i64 0, .int .i64 0, .int .i64 0, .int .i64 0, .int .i64 0, .int .i64 0], .int .i64 7]) (by simp [results, Tryz.results7, go_sem, s0, s1, s2, s3, s4, s5, s6, s7, s8, s9]) rfl ?_
    rw [HQ2.out]
    exact ⟨rfl, hB6⟩
  | some l =>
    obtain rfl := (HVQ.out l rfl).symm
    have HF : Hid (firstE [unl true 7, ee] = ee) := Lib.hid (by rw [unl_true, firstE_z, firstE1])
    have hq3 : Q = if ruE (ruOf [a0, a1, a2, a3, a4, a5, a6, a7, a8, a9]) = 0 then (ruOf [a0, a1, a2, a3, a4, a5, a6, a7, a8, a9], 0) else (ruZ, ruE (ruOf [a0, a1, a2, a3, a4, a5, a6, a7, a8, a9])) := HQ.out
    rw [hEr, ← HEE.out] at hq3
    by_cases he : ee = 0
    · rw [if_pos he] at hq3
      have HQ2 := Lib.hid hq3
      clear hq3
      subst he
      go_upto_region 3 with (fail)
      (refine region_extx 4 (by kernel_rfl) (by kernel_rfl) fun hx => ?_; simp only [List.take_succ_cons, List.take_zero, List.drop_succ_cons, List.drop_zero]; (repeat (any_goals (first | go_big_quiet_step ((first | ((go_at_call 36; with_reducible exact ext_same (unless_any _ _ _))) | ((go_at_call 37; with_reducible exact ext_call (HCK.out _))))) | quiet_step ((first | ((go_at_call 36; with_reducible exact ext_same (unless_any _ _ _))) | ((go_at_call 37; with_reducible exact ext_call (HCK.out _)))))))))
      (refine wpQuiet_nil ?_; clear hx; intro u; have hbw5 := ext_bel _ u; have hxw5 := ext_cell _ u; generalize ext _ u = w5 at *; clear u; have hsw5 := hbw5.size; (try simp at hsw5))
      have h5 : Below w.heap.size w w5 := h3.trans (hbw5.mono h3.size)
      replace q0 := cell_below' hbw5 q0
      replace q1 := cell_below' hbw5 q1
      replace q2 := cell_below' hbw5 q2
      replace q3 := cell_below' hbw5 q3
      replace q4 := cell_below' hbw5 q4
      replace q5 := cell_below' hbw5 q5
      replace q6 := cell_below' hbw5 q6
      replace q7 := cell_below' hbw5 q7
      replace q8 := cell_below' hbw5 q8
      replace q9 := cell_below' hbw5 q9
      replace qf0 := frozen_below hbw5 (show w.heap.size < _ from zq3) qf0
      replace qf1 := frozen_below hbw5 (show w.heap.size < _ from zq3) qf1
      replace qf2 := frozen_below hbw5 (show w.heap.size < _ from zq3) qf2
      replace qf3 := frozen_below hbw5 (show w.heap.size < _ from zq3) qf3
      replace qf4 := frozen_below hbw5 (show w.heap.size < _ from zq3) qf4
      replace qf5 := frozen_below hbw5 (show w.heap.size < _ from zq3) qf5
      replace qf6 := frozen_below hbw5 (show w.heap.size < _ from zq3) qf6
      replace qf7 := frozen_below hbw5 (show w.heap.size < _ from zq3) qf7
      replace qf8 := frozen_below hbw5 (show w.heap.size < _ from zq3) qf8
      replace qf9 := frozen_below hbw5 (show w.heap.size < _ from zq3) qf9
      replace x0 := cell_below' hbw5 x0
      replace x1 := cell_below' hbw5 x1
      replace x2 := cell_below' hbw5 x2
      replace x3 := cell_below' hbw5 x3
      replace x4 := cell_below' hbw5 x4
      replace x5 := cell_below' hbw5 x5
      replace x6 := cell_below' hbw5 x6
      replace x7 := cell_below' hbw5 x7
      replace x8 := cell_below' hbw5 x8
      replace x9 := cell_below' hbw5 x9
      have zq5 : w.heap.size < w5.heap.size := Nat.lt_of_lt_of_le zq3 hbw5.size
      have zx5 := World.block_lt_of_cell? _ _ x0
      clear HCK hbw5 hxw5 hsw5 h3 zq3
      go_wp2_with (go_at_call 35; refine (first2 _ _ _ _ (by simp) (cell_new (by simp) rfl) (cell_new (by simp) rfl)).mono ?_; rintro e w' ⟨rfl, rfl⟩; rw [HF.out])
      have hz5 : w.heap.size ≤ w5.heap.size := Nat.le_of_lt zq5
      have S := set10 (w := w5) (b := w.heap.size) (v0 := .int .i64 a0) (v1 := .int .i64 a1) (v2 := .int .i64 a2) (v3 := .int .i64 a3) (v4 := .int .i64 a4) (v5 := .int .i64 a5) (v6 := .int .i64 a6) (v7 := .int .i64 a7) (v8 := .int .i64 a8) (v9 := .int .i64 a9) q0 q1 q2 q3 q4 q5 q6 q7 q8 q9
      have hB6 : Below w.heap.size w ((setL w5 w.heap.size 0 [.int .i64 a0, .int .i64 a1, .int .i64 a2, .int .i64 a3, .int .i64 a4, .int .i64 a5, .int .i64 a6, .int .i64 a7, .int .i64 a8, .int .i64 a9]).alloc (.cells #[.int .i64 (unl true 7), .int .i64 0] 35)) := below_alloc _ (Nat.le_refl _) (setL_below _ (Nat.le_refl _) _ _ _ h5)
      have s0 := cell_alloc (.cells #[.int .i64 (unl true 7), .int .i64 0] 35) (S 0 _ rfl)
      have s1 := cell_alloc (.cells #[.int .i64 (unl true 7), .int .i64 0] 35) (S 1 _ rfl)
      have s2 := cell_alloc (.cells #[.int .i64 (unl true 7), .int .i64 0] 35) (S 2 _ rfl)
      have s3 := cell_alloc (.cells #[.int .i64 (unl true 7), .int .i64 0] 35) (S 3 _ rfl)
      have s4 := cell_alloc (.cells #[.int .i64 (unl true 7), .int .i64 0] 35) (S 4 _ rfl)
      have s5 := cell_alloc (.cells #[.int .i64 (unl true 7), .int .i64 0] 35) (S 5 _ rfl)
      have s6 := cell_alloc (.cells #[.int .i64 (unl true 7), .int .i64 0] 35) (S 6 _ rfl)
      have s7 := cell_alloc (.cells #[.int .i64 (unl true 7), .int .i64 0] 35) (S 7 _ rfl)
      have s8 := cell_alloc (.cells #[.int .i64 (unl true 7), .int .i64 0] 35) (S 8 _ rfl)
      have s9 := cell_alloc (.cells #[.int .i64 (unl true 7), .int .i64 0] 35) (S 9 _ rfl)
      simp only [setL] at s0 s1 s2 s3 s4 s5 s6 s7 s8 s9 hB6
      generalize (((((((((((w5.setCell ⟨w.heap.size, 0, none⟩ (.int .i64 a0)).setCell ⟨w.heap.size, 1, none⟩ (.int .i64 a1)).setCell ⟨w.heap.size, 2, none⟩ (.int .i64 a2)).setCell ⟨w.heap.size, 3, none⟩ (.int .i64 a3)).setCell ⟨w.heap.size, 4, none⟩ (.int .i64 a4)).setCell ⟨w.heap.size, 5, none⟩ (.int .i64 a5)).setCell ⟨w.heap.size, 6, none⟩ (.int .i64 a6)).setCell ⟨w.heap.size, 7, none⟩ (.int .i64 a7)).setCell ⟨w.heap.size, 8, none⟩ (.int .i64 a8)).setCell ⟨w.heap.size, 9, none⟩ (.int .i64 a9)).alloc (.cells #[.int .i64 (unl true 7), .int .i64 0] 35)) = WF at *
      clear S
      refine bodyPost_ret (v := .tuple #[.agg #[.int .i64 a0, .int .i64 a1, .int .i64 a2, .int .i64 a3, .int .i64 a4, .int .i64 a5, .int .i64 a6, .int .i64 a7, .int .i64 a8, .int .i64 a9], .int .i64 0]) (by simp [results, Tryz.results7, go_sem, s0, s1, s2, s3, s4, s5, s6, s7, s8, s9]) rfl ?_
      rw [HQ2.out]
      exact ⟨rfl, hB6⟩
    · rw [if_neg he] at hq3
      have HQ2 := Lib.hid hq3
      have e1 : (ee != 0) = true := by simpa using he
      clear hq3
      go_upto_region 3 with (fail)
      (refine region_extx 4 (by kernel_rfl) (by kernel_rfl) fun hx => ?_; simp only [List.take_succ_cons, List.take_zero, List.drop_succ_cons, List.drop_zero]; (repeat (any_goals (first | go_big_quiet_step ((first | ((go_at_call 36; with_reducible exact ext_same (unless_any _ _ _))) | ((go_at_call 37; with_reducible exact ext_call (HCK.out _))))) | quiet_step ((first | ((go_at_call 36; with_reducible exact ext_same (unless_any _ _ _))) | ((go_at_call 37; with_reducible exact ext_call (HCK.out _)))))))))
      (refine wpQuiet_nil ?_; clear hx; intro u; have hbw5 := ext_bel _ u; have hxw5 := ext_cell _ u; generalize ext _ u = w5 at *; clear u; have hsw5 := hbw5.size; (try simp at hsw5))
      have h5 : Below w.heap.size w w5 := h3.trans (hbw5.mono h3.size)
      replace q0 := cell_below' hbw5 q0
      replace q1 := cell_below' hbw5 q1
      replace q2 := cell_below' hbw5 q2
      replace q3 := cell_below' hbw5 q3
      replace q4 := cell_below' hbw5 q4
      replace q5 := cell_below' hbw5 q5
      replace q6 := cell_below' hbw5 q6
      replace q7 := cell_below' hbw5 q7
      replace q8 := cell_below' hbw5 q8
      replace q9 := cell_below' hbw5 q9
      replace qf0 := frozen_below hbw5 (show w.heap.size < _ from zq3) qf0
      replace qf1 := frozen_below hbw5 (show w.heap.size < _ from zq3) qf1
      replace qf2 := frozen_below hbw5 (show w.heap.size < _ from zq3) qf2
      replace qf3 := frozen_below hbw5 (show w.heap.size < _ from zq3) qf3
      replace qf4 := frozen_below hbw5 (show w.heap.size < _ from zq3) qf4
      replace qf5 := frozen_below hbw5 (show w.heap.size < _ from zq3) qf5
      replace qf6 := frozen_below hbw5 (show w.heap.size < _ from zq3) qf6
      replace qf7 := frozen_below hbw5 (show w.heap.size < _ from zq3) qf7
      replace qf8 := frozen_below hbw5 (show w.heap.size < _ from zq3) qf8
      replace qf9 := frozen_below hbw5 (show w.heap.size < _ from zq3) qf9
      replace x0 := cell_below' hbw5 x0
      replace x1 := cell_below' hbw5 x1
      replace x2 := cell_below' hbw5 x2
      replace x3 := cell_below' hbw5 x3
      replace x4 := cell_below' hbw5 x4
      replace x5 := cell_below' hbw5 x5
      replace x6 := cell_below' hbw5 x6
      replace x7 := cell_below' hbw5 x7
      replace x8 := cell_below' hbw5 x8
      replace x9 := cell_below' hbw5 x9
      have zq5 : w.heap.size < w5.heap.size := Nat.lt_of_lt_of_le zq3 hbw5.size
      have zx5 := World.block_lt_of_cell? _ _ x0
      clear HCK hbw5 hxw5 hsw5 h3 zq3
      go_wp2_with (go_at_call 35; refine (first2 _ _ _ _ (by simp) (cell_new (by simp) rfl) (cell_new (by simp) rfl)).mono ?_; rintro e w' ⟨rfl, rfl⟩; rw [HF.out])
      have hz5 : w.heap.size ≤ w5.heap.size := Nat.le_of_lt zq5
      have S := set10 (w := w5) (b := w.heap.size) (v0 := .int .i64 0) (v1 := .int .i64 0) (v2 := .int .i64 0) (v3 := .int .i64 0) (v4 := .int .i64 0) (v5 := .int .i64 0) (v6 := .int .i64 0) (v7 := .int .i64 0) (v8 := .int .i64 0) (v9 := .int .i64 0) q0 q1 q2 q3 q4 q5 q6 q7 q8 q9
      have hB6 : Below w.heap.size w ((setL w5 w.heap.size 0 [.int .i64 0, .int .i64 0, .int .i64 0, .int .i64 0, .int .i64 0, .int .i64 0, .int .i64 0, .int .i64 0, .int .i64 0, .int .i64 0]).alloc (.cells #[.int .i64 (unl true 7), .int .i64 ee] 35)) := below_alloc _ (Nat.le_refl _) (setL_below _ (Nat.le_refl _) _ _ _ h5)
      have s0 := cell_alloc (.cells #[.int .i64 (unl true 7), .int .i64 ee] 35) (S 0 _ rfl)
      have s1 := cell_alloc (.cells #[.int .i64 (unl true 7), .int .i64 ee] 35) (S 1 _ rfl)
      have s2 := cell_alloc (.cells #[.int .i64 (unl true 7), .int .i64 ee] 35) (S 2 _ rfl)
      have s3 := cell_alloc (.cells #[.int .i64 (unl true 7), .int .i64 ee] 35) (S 3 _ rfl)
      have s4 := cell_alloc (.cells #[.int .i64 (unl true 7), .int .i64 ee] 35) (S 4 _ rfl)
      have s5 := cell_alloc (.cells #[.int .i64 (unl true 7), .int .i64 ee] 35) (S 5 _ rfl)
      have s6 := cell_alloc (.cells #[.int .i64 (unl true 7), .int .i64 ee] 35) (S 6 _ rfl)
      have s7 := cell_alloc (.cells #[.int .i64 (unl true 7), .int .i64 ee] 35) (S 7 _ rfl)
      have s8 := cell_alloc (.cells #[.int .i64 (unl true 7), .int .i64 ee] 35) (S 8 _ rfl)
      have s9 := cell_alloc (.cells #[.int .i64 (unl true 7), .int .i64 ee] 35) (S 9 _ rfl)
      simp only [setL] at s0 s1 s2 s3 s4 s5 s6 s7 s8 s9 hB6
      generalize (((((((((((w5.setCell ⟨w.heap.size, 0, none⟩ (.int .i64 0)).setCell ⟨w.heap.size, 1, none⟩ (.int .i64 0)).setCell ⟨w.heap.size, 2, none⟩ (.int .i64 0)).setCell ⟨w.heap.size, 3, none⟩ (.int .i64 0)).setCell ⟨w.heap.size, 4, none⟩ (.int .i64 0)).setCell ⟨w.heap.size, 5, none⟩ (.int .i64 0)).setCell ⟨w.heap.size, 6, none⟩ (.int .i64 0)).setCell ⟨w.heap.size, 7, none⟩ (.int .i64 0)).setCell ⟨w.heap.size, 8, none⟩ (.int .i64 0)).setCell ⟨w.heap.size, 9, none⟩ (.int .i64 0)).alloc (.cells #[.int .i64 (unl true 7), .int .i64 ee] 35)) = WF at *
      clear S
      refine bodyPost_ret (v := .tuple #[.agg #[.int .i64 0, .int .i64 0, .int .i64 0, .int .i64 0, .int .i64 0, .int .i64 0, .int .i64 0, .int .i64 0, .int .i64 0, .int .i64 0], .int .i64 ee]) (by simp [results, Tryz.results7, go_sem, s0, s1, s2, s3, s4, s5, s6, s7, s8, s9]) rfl ?_
      rw [HQ2.out]
      exact ⟨rfl, hB6⟩
set_option maxRecDepth 100000 in
set_option maxHeartbeats 8000000 in
theorem RParseRules_any (s : ByteArray) (w : World) (hs : s.size ≤ 100000) :
    Calls Tryz.prog 22 #[.string s] w fun e w' => e = .returned (.tuple #[ruv (rusQ s).1, .int .i64 (rusQ s).2]) ∧ Below w.heap.size w w' := by
  have hq : rusQ s = match parsQ 10 10 s with
    | none => (ruZ, 7)
    | some l => if ruE (ruOf l) = 0 then (ruOf l, 0) else (ruZ, ruE (ruOf l)) := rfl
  have HQ := Lib.hid hq
  clear hq
  have HP := Lib.hid (fun W => Rparse_any s 10 W (by decide) hs)
  have HPL := Lib.hid (fun (l : List Int) (h : parsQ 10 10 s = some l) => parsQ_len h)
  obtain ⟨pq, hpq⟩ : ∃ p, p = parsQ 10 10 s := ⟨_, rfl⟩
  rw [← hpq] at HQ HP HPL
  clear hpq
  generalize hgq : rusQ s = Q at *
  clear hgq
  cases pq with
  | none =>
    have HQ2 := Lib.hid (show Q = (ruZ, 7) from HQ.out)
    have HP0 : Hid (∀ W, Calls Tryz.prog 56 #[.string s, .int .i64 10] W fun e w' => ∃ A c, e = .returned (.tuple #[.slice A 0 c, .bool false]) ∧ Below W.heap.size W w') := Lib.hid (fun W => (HP.out W).mono (by rintro e w' ⟨A, c, rfl, _, hb⟩; exact ⟨A, c, rfl, hb⟩))
    clear HP
    go_enter Tryz.func22, Tryz.ntmps22
    go_upto_region 1 with (fail)
    have hb1 : Below w.heap.size w (w.alloc (.cells #[.int .i64 0, .int .i64 0, .int .i64 0, .int .i64 0, .int .i64 0, .int .i64 0, .int .i64 0, .int .i64 0, .int .i64 0, .int .i64 0] 27)) := below_alloc _ (Nat.le_refl _) (Below.refl _ _)
    have q0 : (w.alloc (.cells #[.int .i64 0, .int .i64 0, .int .i64 0, .int .i64 0, .int .i64 0, .int .i64 0, .int .i64 0, .int .i64 0, .int .i64 0, .int .i64 0] 27)).cell? ⟨w.heap.size, 0, none⟩ = some (.int .i64 0) := cell_new (by simp) rfl
    have qf0 : (w.alloc (.cells #[.int .i64 0, .int .i64 0, .int .i64 0, .int .i64 0, .int .i64 0, .int .i64 0, .int .i64 0, .int .i64 0, .int .i64 0, .int .i64 0] 27)).frozen? ⟨w.heap.size, 0, none⟩ = false := frozen_new (by simp)
    have q1 : (w.alloc (.cells #[.int .i64 0, .int .i64 0, .int .i64 0, .int .i64 0, .int .i64 0, .int .i64 0, .int .i64 0, .int .i64 0, .int .i64 0, .int .i64 0] 27)).cell? ⟨w.heap.size, 1, none⟩ = some (.int .i64 0) := cell_new (by simp) rfl
    have qf1 : (w.alloc (.cells #[.int .i64 0, .int .i64 0, .int .i64 0, .int .i64 0, .int .i64 0, .int .i64 0, .int .i64 0, .int .i64 0, .int .i64 0, .int .i64 0] 27)).frozen? ⟨w.heap.size, 1, none⟩ = false := frozen_new (by simp)
    have q2 : (w.alloc (.cells #[.int .i64 0, .int .i64 0, .int .i64 0, .int .i64 0, .int .i64 0, .int .i64 0, .int .i64 0, .int .i64 0, .int .i64 0, .int .i64 0] 27)).cell? ⟨w.heap.size, 2, none⟩ = some (.int .i64 0) := cell_new (by simp) rfl
    have qf2 : (w.alloc (.cells #[.int .i64 0, .int .i64 0, .int .i64 0, .int .i64 0, .int .i64 0, .int .i64 0, .int .i64 0, .int .i64 0, .int .i64 0, .int .i64 0] 27)).frozen? ⟨w.heap.size, 2, none⟩ = false := frozen_new (by simp)
    have q3 : (w.alloc (.cells #[.int .i64 0, .int .i64 0, .int .i64 0, .int .i64 0, .int .i64 0, .int .i64 0, .int .i64 0, .int .i64 0, .int .i64 0, .int .i64 0] 27)).cell? ⟨w.heap.size, 3, none⟩ = some (.int .i64 0) := cell_new (by simp) rfl
    have qf3 : (w.alloc (.cells #[.int .i64 0, .int .i64 0, .int .i64 0, .int .i64 0, .int .i64 0, .int .i64 0, .int .i64 0, .int .i64 0, .int .i64 0, .int .i64 0] 27)).frozen? ⟨w.heap.size, 3, none⟩ = false := frozen_new (by simp)
    have q4 : (w.alloc (.cells #[.int .i64 0, .int .i64 0, .int .i64 0, .int .i64 0, .int .i64 0, .int .i64 0, .int .i64 0, .int .i64 0, .int .i64 0, .int .i64 0] 27)).cell? ⟨w.heap.size, 4, none⟩ = some (.int .i64 0) := cell_new (by simp) rfl
    have qf4 : (w.alloc (.cells #[.int .i64 0, .int .i64 0, .int .i64 0, .int .i64 0, .int .i64 0, .int .i64 0, .int .i64 0, .int .i64 0, .int .i64 0, .int .i64 0] 27)).frozen? ⟨w.heap.size, 4, none⟩ = false := frozen_new (by simp)
    have q5 : (w.alloc (.cells #[.int .i64 0, .int .i64 0, .int .i64 0, .int .i64 0, .int .i64 0, .int .i64 0, .int .i64 0, .int .i64 0, .int .i64 0, .int .i64 0] 27)).cell? ⟨w.heap.size, 5, none⟩ = some (.int .i64 0) := cell_new (by simp) rfl
    have qf5 : (w.alloc (.cells #[.int .i64 0, .int .i64 0, .int .i64 0, .int .i64 0, .int .i64 0, .int .i64 0, .int .i64 0, .int .i64 0, .int .i64 0, .int .i64 0] 27)).frozen? ⟨w.heap.size, 5, none⟩ = false := frozen_new (by simp)
    have q6 : (w.alloc (.cells #[.int .i64 0, .int .i64 0, .int .i64 0, .int .i64 0, .int .i64 0, .int .i64 0, .int .i64 0, .int .i64 0, .int .i64 0, .int .i64 0] 27)).cell? ⟨w.heap.size, 6, none⟩ = some (.int .i64 0) := cell_new (by simp) rfl
    have qf6 : (w.alloc (.cells #[.int .i64 0, .int .i64 0, .int .i64 0, .int .i64 0, .int .i64 0, .int .i64 0, .int .i64 0, .int .i64 0, .int .i64 0, .int .i64 0] 27)).frozen? ⟨w.heap.size, 6, none⟩ = false := frozen_new (by simp)
    have q7 : (w.alloc (.cells #[.int .i64 0, .int .i64 0, .int .i64 0, .int .i64 0, .int .i64 0, .int .i64 0, .int .i64 0, .int .i64 0, .int .i64 0, .int .i64 0] 27)).cell? ⟨w.heap.size, 7, none⟩ = some (.int .i64 0) := cell_new (by simp) rfl
    have qf7 : (w.alloc (.cells #[.int .i64 0, .int .i64 0, .int .i64 0, .int .i64 0, .int .i64 0, .int .i64 0, .int .i64 0, .int .i64 0, .int .i64 0, .int .i64 0] 27)).frozen? ⟨w.heap.size, 7, none⟩ = false := frozen_new (by simp)
    have q8 : (w.alloc (.cells #[.int .i64 0, .int .i64 0, .int .i64 0, .int .i64 0, .int .i64 0, .int .i64 0, .int .i64 0, .int .i64 0, .int .i64 0, .int .i64 0] 27)).cell? ⟨w.heap.size, 8, none⟩ = some (.int .i64 0) := cell_new (by simp) rfl
    have qf8 : (w.alloc (.cells #[.int .i64 0, .int .i64 0, .int .i64 0, .int .i64 0, .int .i64 0, .int .i64 0, .int .i64 0, .int .i64 0, .int .i64 0, .int .i64 0] 27)).frozen? ⟨w.heap.size, 8, none⟩ = false := frozen_new (by simp)
    have q9 : (w.alloc (.cells #[.int .i64 0, .int .i64 0, .int .i64 0, .int .i64 0, .int .i64 0, .int .i64 0, .int .i64 0, .int .i64 0, .int .i64 0, .int .i64 0] 27)).cell? ⟨w.heap.size, 9, none⟩ = some (.int .i64 0) := cell_new (by simp) rfl
    have qf9 : (w.alloc (.cells #[.int .i64 0, .int .i64 0, .int .i64 0, .int .i64 0, .int .i64 0, .int .i64 0, .int .i64 0, .int .i64 0, .int .i64 0, .int .i64 0] 27)).frozen? ⟨w.heap.size, 9, none⟩ = false := frozen_new (by simp)
    have zq : w.heap.size < (w.alloc (.cells #[.int .i64 0, .int .i64 0, .int .i64 0, .int .i64 0, .int .i64 0, .int .i64 0, .int .i64 0, .int .i64 0, .int .i64 0, .int .i64 0] 27)).heap.size := World.block_lt_of_cell? _ _ q0
    generalize (w.alloc (.cells #[.int .i64 0, .int .i64 0, .int .i64 0, .int .i64 0, .int .i64 0, .int .i64 0, .int .i64 0, .int .i64 0, .int .i64 0, .int .i64 0] 27)) = w1 at *
    go_upto_region 3 with (go_at_call 56; refine (HP0.out _).mono ?_; rintro e w2 ⟨A2, c2, rfl, hb2⟩)
    have h2 : Below w.heap.size w w2 := (hb1).trans ((hb2).mono (hb1).size)
    replace qf0 := frozen_below hb2 (World.block_lt_of_cell? _ _ q0) qf0
    replace qf1 := frozen_below hb2 (World.block_lt_of_cell? _ _ q1) qf1
    replace qf2 := frozen_below hb2 (World.block_lt_of_cell? _ _ q2) qf2
    replace qf3 := frozen_below hb2 (World.block_lt_of_cell? _ _ q3) qf3
    replace qf4 := frozen_below hb2 (World.block_lt_of_cell? _ _ q4) qf4
    replace qf5 := frozen_below hb2 (World.block_lt_of_cell? _ _ q5) qf5
    replace qf6 := frozen_below hb2 (World.block_lt_of_cell? _ _ q6) qf6
    replace qf7 := frozen_below hb2 (World.block_lt_of_cell? _ _ q7) qf7
    replace qf8 := frozen_below hb2 (World.block_lt_of_cell? _ _ q8) qf8
    replace qf9 := frozen_below hb2 (World.block_lt_of_cell? _ _ q9) qf9
    replace q0 := cell_below' hb2 q0
    replace q1 := cell_below' hb2 q1
    replace q2 := cell_below' hb2 q2
    replace q3 := cell_below' hb2 q3
    replace q4 := cell_below' hb2 q4
    replace q5 := cell_below' hb2 q5
    replace q6 := cell_below' hb2 q6
    replace q7 := cell_below' hb2 q7
    replace q8 := cell_below' hb2 q8
    replace q9 := cell_below' hb2 q9
    replace zq := Nat.lt_of_lt_of_le zq (hb2).size
    clear hb2 hb1
    go_wp2_with (fail)
    have S := set10 (w := w2) (b := w.heap.size) (v0 := .int .i64 0) (v1 := .int .i64 0) (v2 := .int .i64 0) (v3 := .int .i64 0) (v4 := .int .i64 0) (v5 := .int .i64 0) (v6 := .int .i64 0) (v7 := .int .i64 0) (v8 := .int .i64 0) (v9 := .int .i64 0) q0 q1 q2 q3 q4 q5 q6 q7 q8 q9
    have hB6 : Below w.heap.size w (setL w2 w.heap.size 0 [.int .i64 0, .int .i64 0, .int .i64 0, .int .i64 0, .int .i64 0, .int .i64 0, .int .i64 0, .int .i64 0, .int .i64 0, .int .i64 0]) := setL_below _ (Nat.le_refl _) _ _ _ h2
    have s0 := S 0 _ rfl
    have s1 := S 1 _ rfl
    have s2 := S 2 _ rfl
    have s3 := S 3 _ rfl
    have s4 := S 4 _ rfl
    have s5 := S 5 _ rfl
    have s6 := S 6 _ rfl
    have s7 := S 7 _ rfl
    have s8 := S 8 _ rfl
    have s9 := S 9 _ rfl
    simp only [setL] at s0 s1 s2 s3 s4 s5 s6 s7 s8 s9 hB6
    generalize ((((((((((w2.setCell ⟨w.heap.size, 0, none⟩ (.int .i64 0)).setCell ⟨w.heap.size, 1, none⟩ (.int .i64 0)).setCell ⟨w.heap.size, 2, none⟩ (.int .i64 0)).setCell ⟨w.heap.size, 3, none⟩ (.int .i64 0)).setCell ⟨w.heap.size, 4, none⟩ (.int .i64 0)).setCell ⟨w.heap.size, 5, none⟩ (.int .i64 0)).setCell ⟨w.heap.size, 6, none⟩ (.int .i64 0)).setCell ⟨w.heap.size, 7, none⟩ (.int .i64 0)).setCell ⟨w.heap.size, 8, none⟩ (.int .i64 0)).setCell ⟨w.heap.size, 9, none⟩ (.int .i64 0)) = WF at *
    clear S
    refine bodyPost_ret (v := .tuple #[.agg #[.int .i64 0, .int .i64 0, .int .i64 0, .int .i64 0, .int .i64 0, .int .i64 0, .int .i64 0, .int .i64 0, .int .i64 0, .int .i64 0], .int .i64 7]) (by simp [results, Tryz.results22, go_sem, s0, s1, s2, s3, s4, s5, s6, s7, s8, s9]) rfl ?_
    rw [HQ2.out]
    exact ⟨rfl, hB6⟩
  | some l =>
    obtain ⟨l0, l1, l2, l3, l4, l5, l6, l7, l8, l9, rfl⟩ := ten (HPL.out _ rfl)
    have hq3 : Q = if ruE (ruOf [l0, l1, l2, l3, l4, l5, l6, l7, l8, l9]) = 0 then (ruOf [l0, l1, l2, l3, l4, l5, l6, l7, l8, l9], 0) else (ruZ, ruE (ruOf [l0, l1, l2, l3, l4, l5, l6, l7, l8, l9])) := HQ.out
    have hEr : ruOf [l0, l1, l2, l3, l4, l5, l6, l7, l8, l9] = ⟨⟨l0, l1⟩, ⟨l2, l3⟩, l4, l5, l6, l7, l8, l9⟩ := rfl
    rw [hEr] at hq3
    have HCK := Lib.hid (fun W => RCheckRules_any ⟨⟨l0, l1⟩, ⟨l2, l3⟩, l4, l5, l6, l7, l8, l9⟩ W)
    generalize ruE ⟨⟨l0, l1⟩, ⟨l2, l3⟩, l4, l5, l6, l7, l8, l9⟩ = ee at *
    have HQ3 := Lib.hid hq3
    have HP1 : Hid (∀ W, Calls Tryz.prog 56 #[.string s, .int .i64 10] W fun e w' => ∃ A c, e = .returned (.tuple #[.slice A 10 c, .bool true]) ∧ IntsAt w' A [l0, l1, l2, l3, l4, l5, l6, l7, l8, l9] ∧ Below W.heap.size W w') := Lib.hid (fun W => (HP.out W).mono (by rintro e w' ⟨A, c, rfl, hi, hb⟩; exact ⟨A, c, rfl, hi, hb⟩))
    clear hq3 HP
    go_enter Tryz.func22, Tryz.ntmps22
    go_upto_region 1 with (fail)
    have hb1 : Below w.heap.size w (w.alloc (.cells #[.int .i64 0, .int .i64 0, .int .i64 0, .int .i64 0, .int .i64 0, .int .i64 0, .int .i64 0, .int .i64 0, .int .i64 0, .int .i64 0] 27)) := below_alloc _ (Nat.le_refl _) (Below.refl _ _)
    have q0 : (w.alloc (.cells #[.int .i64 0, .int .i64 0, .int .i64 0, .int .i64 0, .int .i64 0, .int .i64 0, .int .i64 0, .int .i64 0, .int .i64 0, .int .i64 0] 27)).cell? ⟨w.heap.size, 0, none⟩ = some (.int .i64 0) := cell_new (by simp) rfl
    have qf0 : (w.alloc (.cells #[.int .i64 0, .int .i64 0, .int .i64 0, .int .i64 0, .int .i64 0, .int .i64 0, .int .i64 0, .int .i64 0, .int .i64 0, .int .i64 0] 27)).frozen? ⟨w.heap.size, 0, none⟩ = false := frozen_new (by simp)
    have q1 : (w.alloc (.cells #[.int .i64 0, .int .i64 0, .int .i64 0, .int .i64 0, .int .i64 0, .int .i64 0, .int .i64 0, .int .i64 0, .int .i64 0, .int .i64 0] 27)).cell? ⟨w.heap.size, 1, none⟩ = some (.int .i64 0) := cell_new (by simp) rfl
    have qf1 : (w.alloc (.cells #[.int .i64 0, .int .i64 0, .int .i64 0, .int .i64 0, .int .i64 0, .int .i64 0, .int .i64 0, .int .i64 0, .int .i64 0, .int .i64 0] 27)).frozen? ⟨w.heap.size, 1, none⟩ = false := frozen_new (by simp)
    have q2 : (w.alloc (.cells #[.int .i64 0, .int .i64 0, .int .i64 0, .int .i64 0, .int .i64 0, .int .i64 0, .int .i64 0, .int .i64 0, .int .i64 0, .int .i64 0] 27)).cell? ⟨w.heap.size, 2, none⟩ = some (.int .i64 0) := cell_new (by simp) rfl
    have qf2 : (w.alloc (.cells #[.int .i64 0, .int .i64 0, .int .i64 0, .int .i64 0, .int .i64 0, .int .i64 0, .int .i64 0, .int .i64 0, .int .i64 0, .int .i64 0] 27)).frozen? ⟨w.heap.size, 2, none⟩ = false := frozen_new (by simp)
    have q3 : (w.alloc (.cells #[.int .i64 0, .int .i64 0, .int .i64 0, .int .i64 0, .int .i64 0, .int .i64 0, .int .i64 0, .int .i64 0, .int .i64 0, .int .i64 0] 27)).cell? ⟨w.heap.size, 3, none⟩ = some (.int .i64 0) := cell_new (by simp) rfl
    have qf3 : (w.alloc (.cells #[.int .i64 0, .int .i64 0, .int .i64 0, .int .i64 0, .int .i64 0, .int .i64 0, .int .i64 0, .int .i64 0, .int .i64 0, .int .i64 0] 27)).frozen? ⟨w.heap.size, 3, none⟩ = false := frozen_new (by simp)
    have q4 : (w.alloc (.cells #[.int .i64 0, .int .i64 0, .int .i64 0, .int .i64 0, .int .i64 0, .int .i64 0, .int .i64 0, .int .i64 0, .int .i64 0, .int .i64 0] 27)).cell? ⟨w.heap.size, 4, none⟩ = some (.int .i64 0) := cell_new (by simp) rfl
    have qf4 : (w.alloc (.cells #[.int .i64 0, .int .i64 0, .int .i64 0, .int .i64 0, .int .i64 0, .int .i64 0, .int .i64 0, .int .i64 0, .int .i64 0, .int .i64 0] 27)).frozen? ⟨w.heap.size, 4, none⟩ = false := frozen_new (by simp)
    have q5 : (w.alloc (.cells #[.int .i64 0, .int .i64 0, .int .i64 0, .int .i64 0, .int .i64 0, .int .i64 0, .int .i64 0, .int .i64 0, .int .i64 0, .int .i64 0] 27)).cell? ⟨w.heap.size, 5, none⟩ = some (.int .i64 0) := cell_new (by simp) rfl
    have qf5 : (w.alloc (.cells #[.int .i64 0, .int .i64 0, .int .i64 0, .int .i64 0, .int .i64 0, .int .i64 0, .int .i64 0, .int .i64 0, .int .i64 0, .int .i64 0] 27)).frozen? ⟨w.heap.size, 5, none⟩ = false := frozen_new (by simp)
    have q6 : (w.alloc (.cells #[.int .i64 0, .int .i64 0, .int .i64 0, .int .i64 0, .int .i64 0, .int .i64 0, .int .i64 0, .int .i64 0, .int .i64 0, .int .i64 0] 27)).cell? ⟨w.heap.size, 6, none⟩ = some (.int .i64 0) := cell_new (by simp) rfl
    have qf6 : (w.alloc (.cells #[.int .i64 0, .int .i64 0, .int .i64 0, .int .i64 0, .int .i64 0, .int .i64 0, .int .i64 0, .int .i64 0, .int .i64 0, .int .i64 0] 27)).frozen? ⟨w.heap.size, 6, none⟩ = false := frozen_new (by simp)
    have q7 : (w.alloc (.cells #[.int .i64 0, .int .i64 0, .int .i64 0, .int .i64 0, .int .i64 0, .int .i64 0, .int .i64 0, .int .i64 0, .int .i64 0, .int .i64 0] 27)).cell? ⟨w.heap.size, 7, none⟩ = some (.int .i64 0) := cell_new (by simp) rfl
    have qf7 : (w.alloc (.cells #[.int .i64 0, .int .i64 0, .int .i64 0, .int .i64 0, .int .i64 0, .int .i64 0, .int .i64 0, .int .i64 0, .int .i64 0, .int .i64 0] 27)).frozen? ⟨w.heap.size, 7, none⟩ = false := frozen_new (by simp)
    have q8 : (w.alloc (.cells #[.int .i64 0, .int .i64 0, .int .i64 0, .int .i64 0, .int .i64 0, .int .i64 0, .int .i64 0, .int .i64 0, .int .i64 0, .int .i64 0] 27)).cell? ⟨w.heap.size, 8, none⟩ = some (.int .i64 0) := cell_new (by simp) rfl
    have qf8 : (w.alloc (.cells #[.int .i64 0, .int .i64 0, .int .i64 0, .int .i64 0, .int .i64 0, .int .i64 0, .int .i64 0, .int .i64 0, .int .i64 0, .int .i64 0] 27)).frozen? ⟨w.heap.size, 8, none⟩ = false := frozen_new (by simp)
    have q9 : (w.alloc (.cells #[.int .i64 0, .int .i64 0, .int .i64 0, .int .i64 0, .int .i64 0, .int .i64 0, .int .i64 0, .int .i64 0, .int .i64 0, .int .i64 0] 27)).cell? ⟨w.heap.size, 9, none⟩ = some (.int .i64 0) := cell_new (by simp) rfl
    have qf9 : (w.alloc (.cells #[.int .i64 0, .int .i64 0, .int .i64 0, .int .i64 0, .int .i64 0, .int .i64 0, .int .i64 0, .int .i64 0, .int .i64 0, .int .i64 0] 27)).frozen? ⟨w.heap.size, 9, none⟩ = false := frozen_new (by simp)
    have zq : w.heap.size < (w.alloc (.cells #[.int .i64 0, .int .i64 0, .int .i64 0, .int .i64 0, .int .i64 0, .int .i64 0, .int .i64 0, .int .i64 0, .int .i64 0, .int .i64 0] 27)).heap.size := World.block_lt_of_cell? _ _ q0
    generalize (w.alloc (.cells #[.int .i64 0, .int .i64 0, .int .i64 0, .int .i64 0, .int .i64 0, .int .i64 0, .int .i64 0, .int .i64 0, .int .i64 0, .int .i64 0] 27)) = w1 at *
    go_upto_region 4 with (go_at_call 56; refine (HP1.out _).mono ?_; rintro e w2 ⟨A2, c2, rfl, hI2, hb2⟩)
    have h2 : Below w.heap.size w w2 := (hb1).trans ((hb2).mono (hb1).size)
    replace qf0 := frozen_below hb2 (World.block_lt_of_cell? _ _ q0) qf0
    replace qf1 := frozen_below hb2 (World.block_lt_of_cell? _ _ q1) qf1
    replace qf2 := frozen_below hb2 (World.block_lt_of_cell? _ _ q2) qf2
    replace qf3 := frozen_below hb2 (World.block_lt_of_cell? _ _ q3) qf3
    replace qf4 := frozen_below hb2 (World.block_lt_of_cell? _ _ q4) qf4
    replace qf5 := frozen_below hb2 (World.block_lt_of_cell? _ _ q5) qf5
    replace qf6 := frozen_below hb2 (World.block_lt_of_cell? _ _ q6) qf6
    replace qf7 := frozen_below hb2 (World.block_lt_of_cell? _ _ q7) qf7
    replace qf8 := frozen_below hb2 (World.block_lt_of_cell? _ _ q8) qf8
    replace qf9 := frozen_below hb2 (World.block_lt_of_cell? _ _ q9) qf9
    replace q0 := cell_below' hb2 q0
    replace q1 := cell_below' hb2 q1
    replace q2 := cell_below' hb2 q2
    replace q3 := cell_below' hb2 q3
    replace q4 := cell_below' hb2 q4
    replace q5 := cell_below' hb2 q5
    replace q6 := cell_below' hb2 q6
    replace q7 := cell_below' hb2 q7
    replace q8 := cell_below' hb2 q8
    replace q9 := cell_below' hb2 q9
    replace zq := Nat.lt_of_lt_of_le zq (hb2).size
    clear hb2 hb1
    obtain ⟨b, o, rfl, hbz, i0⟩ := IntsAt.at_ hI2 (k := 0) (show 0 < 10 by decide)
    obtain ⟨_, _, e1, _, i1⟩ := IntsAt.at_ hI2 (k := 1) (show 1 < 10 by decide)
    cases e1
    obtain ⟨_, _, e2, _, i2⟩ := IntsAt.at_ hI2 (k := 2) (show 2 < 10 by decide)
    cases e2
    obtain ⟨_, _, e3, _, i3⟩ := IntsAt.at_ hI2 (k := 3) (show 3 < 10 by decide)
    cases e3
    obtain ⟨_, _, e4, _, i4⟩ := IntsAt.at_ hI2 (k := 4) (show 4 < 10 by decide)
    cases e4
    obtain ⟨_, _, e5, _, i5⟩ := IntsAt.at_ hI2 (k := 5) (show 5 < 10 by decide)
    cases e5
    obtain ⟨_, _, e6, _, i6⟩ := IntsAt.at_ hI2 (k := 6) (show 6 < 10 by decide)
    cases e6
    obtain ⟨_, _, e7, _, i7⟩ := IntsAt.at_ hI2 (k := 7) (show 7 < 10 by decide)
    cases e7
    obtain ⟨_, _, e8, _, i8⟩ := IntsAt.at_ hI2 (k := 8) (show 8 < 10 by decide)
    cases e8
    obtain ⟨_, _, e9, _, i9⟩ := IntsAt.at_ hI2 (k := 9) (show 9 < 10 by decide)
    cases e9
    simp only [Option.getD_some, List.getElem_cons_zero, List.getElem_cons_succ, Nat.add_zero] at i0 i1 i2 i3 i4 i5 i6 i7 i8 i9
    (refine region_alloc (T := ?_) (obj := (.cells #[.int .i64 0, .int .i64 0, .int .i64 0, .int .i64 0, .int .i64 0, .int .i64 0, .int .i64 0, .int .i64 0, .int .i64 0, .int .i64 0] 27)) (val := (fun nb => .pointer (some ⟨nb, 0, none⟩))) 19 6 (by kernel_rfl) (by kernel_rfl) rfl rfl rfl (Nat.le_of_ble_eq_true rfl) ?_ ?_ ?_; rotate_left 1)
    focus (intro W0 hB0 hx; simp only [List.take_succ_cons, List.take_zero]; (repeat (any_goals (first | go_big_quiet_step (fail) | quiet_step (fail)))); refine wpQuiet_nil ?_; exact rfl)
    focus (intro W; go_simp; done)
    (intro W0 w3 hB0 hB1; obtain ⟨hbw3, hnw3, hsw3, hkw3⟩ := alloc_out hB0 hB1; clear hB0 hB1; simp only [List.drop_succ_cons, List.drop_zero]; generalize W0.heap.size = nb at *; clear W0)
    have r0 := blk_cell hkw3 (j := 0) rfl
    have r1 := blk_cell hkw3 (j := 1) rfl
    have r2 := blk_cell hkw3 (j := 2) rfl
    have r3 := blk_cell hkw3 (j := 3) rfl
    have r4 := blk_cell hkw3 (j := 4) rfl
    have r5 := blk_cell hkw3 (j := 5) rfl
    have r6 := blk_cell hkw3 (j := 6) rfl
    have r7 := blk_cell hkw3 (j := 7) rfl
    have r8 := blk_cell hkw3 (j := 8) rfl
    have r9 := blk_cell hkw3 (j := 9) rfl
    have rf0 := blk_frozen (j := 0) hkw3
    have rf1 := blk_frozen (j := 1) hkw3
    have rf2 := blk_frozen (j := 2) hkw3
    have rf3 := blk_frozen (j := 3) hkw3
    have rf4 := blk_frozen (j := 4) hkw3
    have rf5 := blk_frozen (j := 5) hkw3
    have rf6 := blk_frozen (j := 6) hkw3
    have rf7 := blk_frozen (j := 7) hkw3
    have rf8 := blk_frozen (j := 8) hkw3
    have rf9 := blk_frozen (j := 9) hkw3
    have zr : nb < w3.heap.size := hsw3
    have hnq : nb ≠ w.heap.size := by omega
    have hnb : w.heap.size ≤ nb := by omega
    have hnbb : nb ≠ b := by omega
    replace i0 := cell_below' hbw3 i0
    replace i1 := cell_below' hbw3 i1
    replace i2 := cell_below' hbw3 i2
    replace i3 := cell_below' hbw3 i3
    replace i4 := cell_below' hbw3 i4
    replace i5 := cell_below' hbw3 i5
    replace i6 := cell_below' hbw3 i6
    replace i7 := cell_below' hbw3 i7
    replace i8 := cell_below' hbw3 i8
    replace i9 := cell_below' hbw3 i9
    have zi : b < w3.heap.size := Nat.lt_of_lt_of_le hbz hbw3.size
    have h3 : Below w.heap.size w w3 := (h2).trans ((hbw3).mono (h2).size)
    replace qf0 := frozen_below hbw3 (World.block_lt_of_cell? _ _ q0) qf0
    replace qf1 := frozen_below hbw3 (World.block_lt_of_cell? _ _ q1) qf1
    replace qf2 := frozen_below hbw3 (World.block_lt_of_cell? _ _ q2) qf2
    replace qf3 := frozen_below hbw3 (World.block_lt_of_cell? _ _ q3) qf3
    replace qf4 := frozen_below hbw3 (World.block_lt_of_cell? _ _ q4) qf4
    replace qf5 := frozen_below hbw3 (World.block_lt_of_cell? _ _ q5) qf5
    replace qf6 := frozen_below hbw3 (World.block_lt_of_cell? _ _ q6) qf6
    replace qf7 := frozen_below hbw3 (World.block_lt_of_cell? _ _ q7) qf7
    replace qf8 := frozen_below hbw3 (World.block_lt_of_cell? _ _ q8) qf8
    replace qf9 := frozen_below hbw3 (World.block_lt_of_cell? _ _ q9) qf9
    replace q0 := cell_below' hbw3 q0
    replace q1 := cell_below' hbw3 q1
    replace q2 := cell_below' hbw3 q2
    replace q3 := cell_below' hbw3 q3
    replace q4 := cell_below' hbw3 q4
    replace q5 := cell_below' hbw3 q5
    replace q6 := cell_below' hbw3 q6
    replace q7 := cell_below' hbw3 q7
    replace q8 := cell_below' hbw3 q8
    replace q9 := cell_below' hbw3 q9
    replace zq := Nat.lt_of_lt_of_le zq (hbw3).size
    clear hbw3 h2
    clear hnw3 hkw3 hsw3 hI2
    go_upto_region 5 with (fail)
    have h4 : Below w.heap.size w ((((((((((w3.setCell ⟨nb, 0, none⟩ (.int .i64 0)).setCell ⟨nb, 1, none⟩ (.int .i64 0)).setCell ⟨nb, 2, none⟩ (.int .i64 0)).setCell ⟨nb, 3, none⟩ (.int .i64 0)).setCell ⟨nb, 4, none⟩ (.int .i64 l4)).setCell ⟨nb, 5, none⟩ (.int .i64 l5)).setCell ⟨nb, 6, none⟩ (.int .i64 l6)).setCell ⟨nb, 7, none⟩ (.int .i64 l7)).setCell ⟨nb, 8, none⟩ (.int .i64 l8)).setCell ⟨nb, 9, none⟩ (.int .i64 l9)) := below_set _ (by simp; try omega) (below_set _ (by simp; try omega) (below_set _ (by simp; try omega) (below_set _ (by simp; try omega) (below_set _ (by simp; try omega) (below_set _ (by simp; try omega) (below_set _ (by simp; try omega) (below_set _ (by simp; try omega) (below_set _ (by simp; try omega) (below_set _ (by simp; try omega) (h3))))))))))
    replace r0 : ((((((((((w3.setCell ⟨nb, 0, none⟩ (.int .i64 0)).setCell ⟨nb, 1, none⟩ (.int .i64 0)).setCell ⟨nb, 2, none⟩ (.int .i64 0)).setCell ⟨nb, 3, none⟩ (.int .i64 0)).setCell ⟨nb, 4, none⟩ (.int .i64 l4)).setCell ⟨nb, 5, none⟩ (.int .i64 l5)).setCell ⟨nb, 6, none⟩ (.int .i64 l6)).setCell ⟨nb, 7, none⟩ (.int .i64 l7)).setCell ⟨nb, 8, none⟩ (.int .i64 l8)).setCell ⟨nb, 9, none⟩ (.int .i64 l9)).cell? ⟨nb, 0, none⟩ = some (.int .i64 0) := cell_next (by decide) (cell_next (by decide) (cell_next (by decide) (cell_next (by decide) (cell_next (by decide) (cell_next (by decide) (cell_next (by decide) (cell_next (by decide) (cell_next (by decide) (cell_same (r0))))))))))
    replace r1 : ((((((((((w3.setCell ⟨nb, 0, none⟩ (.int .i64 0)).setCell ⟨nb, 1, none⟩ (.int .i64 0)).setCell ⟨nb, 2, none⟩ (.int .i64 0)).setCell ⟨nb, 3, none⟩ (.int .i64 0)).setCell ⟨nb, 4, none⟩ (.int .i64 l4)).setCell ⟨nb, 5, none⟩ (.int .i64 l5)).setCell ⟨nb, 6, none⟩ (.int .i64 l6)).setCell ⟨nb, 7, none⟩ (.int .i64 l7)).setCell ⟨nb, 8, none⟩ (.int .i64 l8)).setCell ⟨nb, 9, none⟩ (.int .i64 l9)).cell? ⟨nb, 1, none⟩ = some (.int .i64 0) := cell_next (by decide) (cell_next (by decide) (cell_next (by decide) (cell_next (by decide) (cell_next (by decide) (cell_next (by decide) (cell_next (by decide) (cell_next (by decide) (cell_same (cell_next (by decide) (r1))))))))))
    replace r2 : ((((((((((w3.setCell ⟨nb, 0, none⟩ (.int .i64 0)).setCell ⟨nb, 1, none⟩ (.int .i64 0)).setCell ⟨nb, 2, none⟩ (.int .i64 0)).setCell ⟨nb, 3, none⟩ (.int .i64 0)).setCell ⟨nb, 4, none⟩ (.int .i64 l4)).setCell ⟨nb, 5, none⟩ (.int .i64 l5)).setCell ⟨nb, 6, none⟩ (.int .i64 l6)).setCell ⟨nb, 7, none⟩ (.int .i64 l7)).setCell ⟨nb, 8, none⟩ (.int .i64 l8)).setCell ⟨nb, 9, none⟩ (.int .i64 l9)).cell? ⟨nb, 2, none⟩ = some (.int .i64 0) := cell_next (by decide) (cell_next (by decide) (cell_next (by decide) (cell_next (by decide) (cell_next (by decide) (cell_next (by decide) (cell_next (by decide) (cell_same (cell_next (by decide) (cell_next (by decide) (r2))))))))))
    replace r3 : ((((((((((w3.setCell ⟨nb, 0, none⟩ (.int .i64 0)).setCell ⟨nb, 1, none⟩ (.int .i64 0)).setCell ⟨nb, 2, none⟩ (.int .i64 0)).setCell ⟨nb, 3, none⟩ (.int .i64 0)).setCell ⟨nb, 4, none⟩ (.int .i64 l4)).setCell ⟨nb, 5, none⟩ (.int .i64 l5)).setCell ⟨nb, 6, none⟩ (.int .i64 l6)).setCell ⟨nb, 7, none⟩ (.int .i64 l7)).setCell ⟨nb, 8, none⟩ (.int .i64 l8)).setCell ⟨nb, 9, none⟩ (.int .i64 l9)).cell? ⟨nb, 3, none⟩ = some (.int .i64 0) := cell_next (by decide) (cell_next (by decide) (cell_next (by decide) (cell_next (by decide) (cell_next (by decide) (cell_next (by decide) (cell_same (cell_next (by decide) (cell_next (by decide) (cell_next (by decide) (r3))))))))))
    replace r4 : ((((((((((w3.setCell ⟨nb, 0, none⟩ (.int .i64 0)).setCell ⟨nb, 1, none⟩ (.int .i64 0)).setCell ⟨nb, 2, none⟩ (.int .i64 0)).setCell ⟨nb, 3, none⟩ (.int .i64 0)).setCell ⟨nb, 4, none⟩ (.int .i64 l4)).setCell ⟨nb, 5, none⟩ (.int .i64 l5)).setCell ⟨nb, 6, none⟩ (.int .i64 l6)).setCell ⟨nb, 7, none⟩ (.int .i64 l7)).setCell ⟨nb, 8, none⟩ (.int .i64 l8)).setCell ⟨nb, 9, none⟩ (.int .i64 l9)).cell? ⟨nb, 4, none⟩ = some (.int .i64 l4) := cell_next (by decide) (cell_next (by decide) (cell_next (by decide) (cell_next (by decide) (cell_next (by decide) (cell_same (cell_next (by decide) (cell_next (by decide) (cell_next (by decide) (cell_next (by decide) (r4))))))))))
    replace r5 : ((((((((((w3.setCell ⟨nb, 0, none⟩ (.int .i64 0)).setCell ⟨nb, 1, none⟩ (.int .i64 0)).setCell ⟨nb, 2, none⟩ (.int .i64 0)).setCell ⟨nb, 3, none⟩ (.int .i64 0)).setCell ⟨nb, 4, none⟩ (.int .i64 l4)).setCell ⟨nb, 5, none⟩ (.int .i64 l5)).setCell ⟨nb, 6, none⟩ (.int .i64 l6)).setCell ⟨nb, 7, none⟩ (.int .i64 l7)).setCell ⟨nb, 8, none⟩ (.int .i64 l8)).setCell ⟨nb, 9, none⟩ (.int .i64 l9)).cell? ⟨nb, 5, none⟩ = some (.int .i64 l5) := cell_next (by decide) (cell_next (by decide) (cell_next (by decide) (cell_next (by decide) (cell_same (cell_next (by decide) (cell_next (by decide) (cell_next (by decide) (cell_next (by decide) (cell_next (by decide) (r5))))))))))
    replace r6 : ((((((((((w3.setCell ⟨nb, 0, none⟩ (.int .i64 0)).setCell ⟨nb, 1, none⟩ (.int .i64 0)).setCell ⟨nb, 2, none⟩ (.int .i64 0)).setCell ⟨nb, 3, none⟩ (.int .i64 0)).setCell ⟨nb, 4, none⟩ (.int .i64 l4)).setCell ⟨nb, 5, none⟩ (.int .i64 l5)).setCell ⟨nb, 6, none⟩ (.int .i64 l6)).setCell ⟨nb, 7, none⟩ (.int .i64 l7)).setCell ⟨nb, 8, none⟩ (.int .i64 l8)).setCell ⟨nb, 9, none⟩ (.int .i64 l9)).cell? ⟨nb, 6, none⟩ = some (.int .i64 l6) := cell_next (by decide) (cell_next (by decide) (cell_next (by decide) (cell_same (cell_next (by decide) (cell_next (by decide) (cell_next (by decide) (cell_next (by decide) (cell_next (by decide) (cell_next (by decide) (r6))))))))))
    replace r7 : ((((((((((w3.setCell ⟨nb, 0, none⟩ (.int .i64 0)).setCell ⟨nb, 1, none⟩ (.int .i64 0)).setCell ⟨nb, 2, none⟩ (.int .i64 0)).setCell ⟨nb, 3, none⟩ (.int .i64 0)).setCell ⟨nb, 4, none⟩ (.int .i64 l4)).setCell ⟨nb, 5, none⟩ (.int .i64 l5)).setCell ⟨nb, 6, none⟩ (.int .i64 l6)).setCell ⟨nb, 7, none⟩ (.int .i64 l7)).setCell ⟨nb, 8, none⟩ (.int .i64 l8)).setCell ⟨nb, 9, none⟩ (.int .i64 l9)).cell? ⟨nb, 7, none⟩ = some (.int .i64 l7) := cell_next (by decide) (cell_next (by decide) (cell_same (cell_next (by decide) (cell_next (by decide) (cell_next (by decide) (cell_next (by decide) (cell_next (by decide) (cell_next (by decide) (cell_next (by decide) (r7))))))))))
    replace r8 : ((((((((((w3.setCell ⟨nb, 0, none⟩ (.int .i64 0)).setCell ⟨nb, 1, none⟩ (.int .i64 0)).setCell ⟨nb, 2, none⟩ (.int .i64 0)).setCell ⟨nb, 3, none⟩ (.int .i64 0)).setCell ⟨nb, 4, none⟩ (.int .i64 l4)).setCell ⟨nb, 5, none⟩ (.int .i64 l5)).setCell ⟨nb, 6, none⟩ (.int .i64 l6)).setCell ⟨nb, 7, none⟩ (.int .i64 l7)).setCell ⟨nb, 8, none⟩ (.int .i64 l8)).setCell ⟨nb, 9, none⟩ (.int .i64 l9)).cell? ⟨nb, 8, none⟩ = some (.int .i64 l8) := cell_next (by decide) (cell_same (cell_next (by decide) (cell_next (by decide) (cell_next (by decide) (cell_next (by decide) (cell_next (by decide) (cell_next (by decide) (cell_next (by decide) (cell_next (by decide) (r8))))))))))
    replace r9 : ((((((((((w3.setCell ⟨nb, 0, none⟩ (.int .i64 0)).setCell ⟨nb, 1, none⟩ (.int .i64 0)).setCell ⟨nb, 2, none⟩ (.int .i64 0)).setCell ⟨nb, 3, none⟩ (.int .i64 0)).setCell ⟨nb, 4, none⟩ (.int .i64 l4)).setCell ⟨nb, 5, none⟩ (.int .i64 l5)).setCell ⟨nb, 6, none⟩ (.int .i64 l6)).setCell ⟨nb, 7, none⟩ (.int .i64 l7)).setCell ⟨nb, 8, none⟩ (.int .i64 l8)).setCell ⟨nb, 9, none⟩ (.int .i64 l9)).cell? ⟨nb, 9, none⟩ = some (.int .i64 l9) := cell_same (cell_next (by decide) (cell_next (by decide) (cell_next (by decide) (cell_next (by decide) (cell_next (by decide) (cell_next (by decide) (cell_next (by decide) (cell_next (by decide) (cell_next (by decide) (r9))))))))))
    replace rf0 := (show World.frozen? ((((((((((w3.setCell ⟨nb, 0, none⟩ (.int .i64 0)).setCell ⟨nb, 1, none⟩ (.int .i64 0)).setCell ⟨nb, 2, none⟩ (.int .i64 0)).setCell ⟨nb, 3, none⟩ (.int .i64 0)).setCell ⟨nb, 4, none⟩ (.int .i64 l4)).setCell ⟨nb, 5, none⟩ (.int .i64 l5)).setCell ⟨nb, 6, none⟩ (.int .i64 l6)).setCell ⟨nb, 7, none⟩ (.int .i64 l7)).setCell ⟨nb, 8, none⟩ (.int .i64 l8)).setCell ⟨nb, 9, none⟩ (.int .i64 l9)) ⟨nb, 0, none⟩ = false from frozen_set _ _ (frozen_set _ _ (frozen_set _ _ (frozen_set _ _ (frozen_set _ _ (frozen_set _ _ (frozen_set _ _ (frozen_set _ _ (frozen_set _ _ (frozen_set _ _ (rf0)))))))))))
    replace rf1 := (show World.frozen? ((((((((((w3.setCell ⟨nb, 0, none⟩ (.int .i64 0)).setCell ⟨nb, 1, none⟩ (.int .i64 0)).setCell ⟨nb, 2, none⟩ (.int .i64 0)).setCell ⟨nb, 3, none⟩ (.int .i64 0)).setCell ⟨nb, 4, none⟩ (.int .i64 l4)).setCell ⟨nb, 5, none⟩ (.int .i64 l5)).setCell ⟨nb, 6, none⟩ (.int .i64 l6)).setCell ⟨nb, 7, none⟩ (.int .i64 l7)).setCell ⟨nb, 8, none⟩ (.int .i64 l8)).setCell ⟨nb, 9, none⟩ (.int .i64 l9)) ⟨nb, 1, none⟩ = false from frozen_set _ _ (frozen_set _ _ (frozen_set _ _ (frozen_set _ _ (frozen_set _ _ (frozen_set _ _ (frozen_set _ _ (frozen_set _ _ (frozen_set _ _ (frozen_set _ _ (rf1)))))))))))
    replace rf2 := (show World.frozen? ((((((((((w3.setCell ⟨nb, 0, none⟩ (.int .i64 0)).setCell ⟨nb, 1, none⟩ (.int .i64 0)).setCell ⟨nb, 2, none⟩ (.int .i64 0)).setCell ⟨nb, 3, none⟩ (.int .i64 0)).setCell ⟨nb, 4, none⟩ (.int .i64 l4)).setCell ⟨nb, 5, none⟩ (.int .i64 l5)).setCell ⟨nb, 6, none⟩ (.int .i64 l6)).setCell ⟨nb, 7, none⟩ (.int .i64 l7)).setCell ⟨nb, 8, none⟩ (.int .i64 l8)).setCell ⟨nb, 9, none⟩ (.int .i64 l9)) ⟨nb, 2, none⟩ = false from frozen_set _ _ (frozen_set _ _ (frozen_set _ _ (frozen_set _ _ (frozen_set _ _ (frozen_set _ _ (frozen_set _ _ (frozen_set _ _ (frozen_set _ _ (frozen_set _ _ (rf2)))))))))))
    replace rf3 := (show World.frozen? ((((((((((w3.setCell ⟨nb, 0, none⟩ (.int .i64 0)).setCell ⟨nb, 1, none⟩ (.int .i64 0)).setCell ⟨nb, 2, none⟩ (.int .i64 0)).setCell ⟨nb, 3, none⟩ (.int .i64 0)).setCell ⟨nb, 4, none⟩ (.int .i64 l4)).setCell ⟨nb, 5, none⟩ (.int .i64 l5)).setCell ⟨nb, 6, none⟩ (.int .i64 l6)).setCell ⟨nb, 7, none⟩ (.int .i64 l7)).setCell ⟨nb, 8, none⟩ (.int .i64 l8)).setCell ⟨nb, 9, none⟩ (.int .i64 l9)) ⟨nb, 3, none⟩ = false from frozen_set _ _ (frozen_set _ _ (frozen_set _ _ (frozen_set _ _ (frozen_set _ _ (frozen_set _ _ (frozen_set _ _ (frozen_set _ _ (frozen_set _ _ (frozen_set _ _ (rf3)))))))))))
    replace rf4 := (show World.frozen? ((((((((((w3.setCell ⟨nb, 0, none⟩ (.int .i64 0)).setCell ⟨nb, 1, none⟩ (.int .i64 0)).setCell ⟨nb, 2, none⟩ (.int .i64 0)).setCell ⟨nb, 3, none⟩ (.int .i64 0)).setCell ⟨nb, 4, none⟩ (.int .i64 l4)).setCell ⟨nb, 5, none⟩ (.int .i64 l5)).setCell ⟨nb, 6, none⟩ (.int .i64 l6)).setCell ⟨nb, 7, none⟩ (.int .i64 l7)).setCell ⟨nb, 8, none⟩ (.int .i64 l8)).setCell ⟨nb, 9, none⟩ (.int .i64 l9)) ⟨nb, 4, none⟩ = false from frozen_set _ _ (frozen_set _ _ (frozen_set _ _ (frozen_set _ _ (frozen_set _ _ (frozen_set _ _ (frozen_set _ _ (frozen_set _ _ (frozen_set _ _ (frozen_set _ _ (rf4)))))))))))
    replace rf5 := (show World.frozen? ((((((((((w3.setCell ⟨nb, 0, none⟩ (.int .i64 0)).setCell ⟨nb, 1, none⟩ (.int .i64 0)).setCell ⟨nb, 2, none⟩ (.int .i64 0)).setCell ⟨nb, 3, none⟩ (.int .i64 0)).setCell ⟨nb, 4, none⟩ (.int .i64 l4)).setCell ⟨nb, 5, none⟩ (.int .i64 l5)).setCell ⟨nb, 6, none⟩ (.int .i64 l6)).setCell ⟨nb, 7, none⟩ (.int .i64 l7)).setCell ⟨nb, 8, none⟩ (.int .i64 l8)).setCell ⟨nb, 9, none⟩ (.int .i64 l9)) ⟨nb, 5, none⟩ = false from frozen_set _ _ (frozen_set _ _ (frozen_set _ _ (frozen_set _ _ (frozen_set _ _ (frozen_set _ _ (frozen_set _ _ (frozen_set _ _ (frozen_set _ _ (frozen_set _ _ (rf5)))))))))))
    replace rf6 := (show World.frozen? ((((((((((w3.setCell ⟨nb, 0, none⟩ (.int .i64 0)).setCell ⟨nb, 1, none⟩ (.int .i64 0)).setCell ⟨nb, 2, none⟩ (.int .i64 0)).setCell ⟨nb, 3, none⟩ (.int .i64 0)).setCell ⟨nb, 4, none⟩ (.int .i64 l4)).setCell ⟨nb, 5, none⟩ (.int .i64 l5)).setCell ⟨nb, 6, none⟩ (.int .i64 l6)).setCell ⟨nb, 7, none⟩ (.int .i64 l7)).setCell ⟨nb, 8, none⟩ (.int .i64 l8)).setCell ⟨nb, 9, none⟩ (.int .i64 l9)) ⟨nb, 6, none⟩ = false from frozen_set _ _ (frozen_set _ _ (frozen_set _ _ (frozen_set _ _ (frozen_set _ _ (frozen_set _ _ (frozen_set _ _ (frozen_set _ _ (frozen_set _ _ (frozen_set _ _ (rf6)))))))))))
    replace rf7 := (show World.frozen? ((((((((((w3.setCell ⟨nb, 0, none⟩ (.int .i64 0)).setCell ⟨nb, 1, none⟩ (.int .i64 0)).setCell ⟨nb, 2, none⟩ (.int .i64 0)).setCell ⟨nb, 3, none⟩ (.int .i64 0)).setCell ⟨nb, 4, none⟩ (.int .i64 l4)).setCell ⟨nb, 5, none⟩ (.int .i64 l5)).setCell ⟨nb, 6, none⟩ (.int .i64 l6)).setCell ⟨nb, 7, none⟩ (.int .i64 l7)).setCell ⟨nb, 8, none⟩ (.int .i64 l8)).setCell ⟨nb, 9, none⟩ (.int .i64 l9)) ⟨nb, 7, none⟩ = false from frozen_set _ _ (frozen_set _ _ (frozen_set _ _ (frozen_set _ _ (frozen_set _ _ (frozen_set _ _ (frozen_set _ _ (frozen_set _ _ (frozen_set _ _ (frozen_set _ _ (rf7)))))))))))
    replace rf8 := (show World.frozen? ((((((((((w3.setCell ⟨nb, 0, none⟩ (.int .i64 0)).setCell ⟨nb, 1, none⟩ (.int .i64 0)).setCell ⟨nb, 2, none⟩ (.int .i64 0)).setCell ⟨nb, 3, none⟩ (.int .i64 0)).setCell ⟨nb, 4, none⟩ (.int .i64 l4)).setCell ⟨nb, 5, none⟩ (.int .i64 l5)).setCell ⟨nb, 6, none⟩ (.int .i64 l6)).setCell ⟨nb, 7, none⟩ (.int .i64 l7)).setCell ⟨nb, 8, none⟩ (.int .i64 l8)).setCell ⟨nb, 9, none⟩ (.int .i64 l9)) ⟨nb, 8, none⟩ = false from frozen_set _ _ (frozen_set _ _ (frozen_set _ _ (frozen_set _ _ (frozen_set _ _ (frozen_set _ _ (frozen_set _ _ (frozen_set _ _ (frozen_set _ _ (frozen_set _ _ (rf8)))))))))))
    replace rf9 := (show World.frozen? ((((((((((w3.setCell ⟨nb, 0, none⟩ (.int .i64 0)).setCell ⟨nb, 1, none⟩ (.int .i64 0)).setCell ⟨nb, 2, none⟩ (.int .i64 0)).setCell ⟨nb, 3, none⟩ (.int .i64 0)).setCell ⟨nb, 4, none⟩ (.int .i64 l4)).setCell ⟨nb, 5, none⟩ (.int .i64 l5)).setCell ⟨nb, 6, none⟩ (.int .i64 l6)).setCell ⟨nb, 7, none⟩ (.int .i64 l7)).setCell ⟨nb, 8, none⟩ (.int .i64 l8)).setCell ⟨nb, 9, none⟩ (.int .i64 l9)) ⟨nb, 9, none⟩ = false from frozen_set _ _ (frozen_set _ _ (frozen_set _ _ (frozen_set _ _ (frozen_set _ _ (frozen_set _ _ (frozen_set _ _ (frozen_set _ _ (frozen_set _ _ (frozen_set _ _ (rf9)))))))))))
    have hszQ : ((((((((((w3.setCell ⟨nb, 0, none⟩ (.int .i64 0)).setCell ⟨nb, 1, none⟩ (.int .i64 0)).setCell ⟨nb, 2, none⟩ (.int .i64 0)).setCell ⟨nb, 3, none⟩ (.int .i64 0)).setCell ⟨nb, 4, none⟩ (.int .i64 l4)).setCell ⟨nb, 5, none⟩ (.int .i64 l5)).setCell ⟨nb, 6, none⟩ (.int .i64 l6)).setCell ⟨nb, 7, none⟩ (.int .i64 l7)).setCell ⟨nb, 8, none⟩ (.int .i64 l8)).setCell ⟨nb, 9, none⟩ (.int .i64 l9)).heap.size = w3.heap.size := by simp
    replace zr : nb < ((((((((((w3.setCell ⟨nb, 0, none⟩ (.int .i64 0)).setCell ⟨nb, 1, none⟩ (.int .i64 0)).setCell ⟨nb, 2, none⟩ (.int .i64 0)).setCell ⟨nb, 3, none⟩ (.int .i64 0)).setCell ⟨nb, 4, none⟩ (.int .i64 l4)).setCell ⟨nb, 5, none⟩ (.int .i64 l5)).setCell ⟨nb, 6, none⟩ (.int .i64 l6)).setCell ⟨nb, 7, none⟩ (.int .i64 l7)).setCell ⟨nb, 8, none⟩ (.int .i64 l8)).setCell ⟨nb, 9, none⟩ (.int .i64 l9)).heap.size := by rw [hszQ]; exact zr
    replace q0 := cell_far (u := .int .i64 l9) (q := ⟨nb, 9, none⟩) hnq (cell_far (u := .int .i64 l8) (q := ⟨nb, 8, none⟩) hnq (cell_far (u := .int .i64 l7) (q := ⟨nb, 7, none⟩) hnq (cell_far (u := .int .i64 l6) (q := ⟨nb, 6, none⟩) hnq (cell_far (u := .int .i64 l5) (q := ⟨nb, 5, none⟩) hnq (cell_far (u := .int .i64 l4) (q := ⟨nb, 4, none⟩) hnq (cell_far (u := .int .i64 0) (q := ⟨nb, 3, none⟩) hnq (cell_far (u := .int .i64 0) (q := ⟨nb, 2, none⟩) hnq (cell_far (u := .int .i64 0) (q := ⟨nb, 1, none⟩) hnq (cell_far (u := .int .i64 0) (q := ⟨nb, 0, none⟩) hnq (q0))))))))))
    replace qf0 := frozen_set ⟨nb, 9, none⟩ (.int .i64 l9) (frozen_set ⟨nb, 8, none⟩ (.int .i64 l8) (frozen_set ⟨nb, 7, none⟩ (.int .i64 l7) (frozen_set ⟨nb, 6, none⟩ (.int .i64 l6) (frozen_set ⟨nb, 5, none⟩ (.int .i64 l5) (frozen_set ⟨nb, 4, none⟩ (.int .i64 l4) (frozen_set ⟨nb, 3, none⟩ (.int .i64 0) (frozen_set ⟨nb, 2, none⟩ (.int .i64 0) (frozen_set ⟨nb, 1, none⟩ (.int .i64 0) (frozen_set ⟨nb, 0, none⟩ (.int .i64 0) (qf0))))))))))
    replace q1 := cell_far (u := .int .i64 l9) (q := ⟨nb, 9, none⟩) hnq (cell_far (u := .int .i64 l8) (q := ⟨nb, 8, none⟩) hnq (cell_far (u := .int .i64 l7) (q := ⟨nb, 7, none⟩) hnq (cell_far (u := .int .i64 l6) (q := ⟨nb, 6, none⟩) hnq (cell_far (u := .int .i64 l5) (q := ⟨nb, 5, none⟩) hnq (cell_far (u := .int .i64 l4) (q := ⟨nb, 4, none⟩) hnq (cell_far (u := .int .i64 0) (q := ⟨nb, 3, none⟩) hnq (cell_far (u := .int .i64 0) (q := ⟨nb, 2, none⟩) hnq (cell_far (u := .int .i64 0) (q := ⟨nb, 1, none⟩) hnq (cell_far (u := .int .i64 0) (q := ⟨nb, 0, none⟩) hnq (q1))))))))))
    replace qf1 := frozen_set ⟨nb, 9, none⟩ (.int .i64 l9) (frozen_set ⟨nb, 8, none⟩ (.int .i64 l8) (frozen_set ⟨nb, 7, none⟩ (.int .i64 l7) (frozen_set ⟨nb, 6, none⟩ (.int .i64 l6) (frozen_set ⟨nb, 5, none⟩ (.int .i64 l5) (frozen_set ⟨nb, 4, none⟩ (.int .i64 l4) (frozen_set ⟨nb, 3, none⟩ (.int .i64 0) (frozen_set ⟨nb, 2, none⟩ (.int .i64 0) (frozen_set ⟨nb, 1, none⟩ (.int .i64 0) (frozen_set ⟨nb, 0, none⟩ (.int .i64 0) (qf1))))))))))
    replace q2 := cell_far (u := .int .i64 l9) (q := ⟨nb, 9, none⟩) hnq (cell_far (u := .int .i64 l8) (q := ⟨nb, 8, none⟩) hnq (cell_far (u := .int .i64 l7) (q := ⟨nb, 7, none⟩) hnq (cell_far (u := .int .i64 l6) (q := ⟨nb, 6, none⟩) hnq (cell_far (u := .int .i64 l5) (q := ⟨nb, 5, none⟩) hnq (cell_far (u := .int .i64 l4) (q := ⟨nb, 4, none⟩) hnq (cell_far (u := .int .i64 0) (q := ⟨nb, 3, none⟩) hnq (cell_far (u := .int .i64 0) (q := ⟨nb, 2, none⟩) hnq (cell_far (u := .int .i64 0) (q := ⟨nb, 1, none⟩) hnq (cell_far (u := .int .i64 0) (q := ⟨nb, 0, none⟩) hnq (q2))))))))))
    replace qf2 := frozen_set ⟨nb, 9, none⟩ (.int .i64 l9) (frozen_set ⟨nb, 8, none⟩ (.int .i64 l8) (frozen_set ⟨nb, 7, none⟩ (.int .i64 l7) (frozen_set ⟨nb, 6, none⟩ (.int .i64 l6) (frozen_set ⟨nb, 5, none⟩ (.int .i64 l5) (frozen_set ⟨nb, 4, none⟩ (.int .i64 l4) (frozen_set ⟨nb, 3, none⟩ (.int .i64 0) (frozen_set ⟨nb, 2, none⟩ (.int .i64 0) (frozen_set ⟨nb, 1, none⟩ (.int .i64 0) (frozen_set ⟨nb, 0, none⟩ (.int .i64 0) (qf2))))))))))
    replace q3 := cell_far (u := .int .i64 l9) (q := ⟨nb, 9, none⟩) hnq (cell_far (u := .int .i64 l8) (q := ⟨nb, 8, none⟩) hnq (cell_far (u := .int .i64 l7) (q := ⟨nb, 7, none⟩) hnq (cell_far (u := .int .i64 l6) (q := ⟨nb, 6, none⟩) hnq (cell_far (u := .int .i64 l5) (q := ⟨nb, 5, none⟩) hnq (cell_far (u := .int .i64 l4) (q := ⟨nb, 4, none⟩) hnq (cell_far (u := .int .i64 0) (q := ⟨nb, 3, none⟩) hnq (cell_far (u := .int .i64 0) (q := ⟨nb, 2, none⟩) hnq (cell_far (u := .int .i64 0) (q := ⟨nb, 1, none⟩) hnq (cell_far (u := .int .i64 0) (q := ⟨nb, 0, none⟩) hnq (q3))))))))))
    replace qf3 := frozen_set ⟨nb, 9, none⟩ (.int .i64 l9) (frozen_set ⟨nb, 8, none⟩ (.int .i64 l8) (frozen_set ⟨nb, 7, none⟩ (.int .i64 l7) (frozen_set ⟨nb, 6, none⟩ (.int .i64 l6) (frozen_set ⟨nb, 5, none⟩ (.int .i64 l5) (frozen_set ⟨nb, 4, none⟩ (.int .i64 l4) (frozen_set ⟨nb, 3, none⟩ (.int .i64 0) (frozen_set ⟨nb, 2, none⟩ (.int .i64 0) (frozen_set ⟨nb, 1, none⟩ (.int .i64 0) (frozen_set ⟨nb, 0, none⟩ (.int .i64 0) (qf3))))))))))
    replace q4 := cell_far (u := .int .i64 l9) (q := ⟨nb, 9, none⟩) hnq (cell_far (u := .int .i64 l8) (q := ⟨nb, 8, none⟩) hnq (cell_far (u := .int .i64 l7) (q := ⟨nb, 7, none⟩) hnq (cell_far (u := .int .i64 l6) (q := ⟨nb, 6, none⟩) hnq (cell_far (u := .int .i64 l5) (q := ⟨nb, 5, none⟩) hnq (cell_far (u := .int .i64 l4) (q := ⟨nb, 4, none⟩) hnq (cell_far (u := .int .i64 0) (q := ⟨nb, 3, none⟩) hnq (cell_far (u := .int .i64 0) (q := ⟨nb, 2, none⟩) hnq (cell_far (u := .int .i64 0) (q := ⟨nb, 1, none⟩) hnq (cell_far (u := .int .i64 0) (q := ⟨nb, 0, none⟩) hnq (q4))))))))))
    replace qf4 := frozen_set ⟨nb, 9, none⟩ (.int .i64 l9) (frozen_set ⟨nb, 8, none⟩ (.int .i64 l8) (frozen_set ⟨nb, 7, none⟩ (.int .i64 l7) (frozen_set ⟨nb, 6, none⟩ (.int .i64 l6) (frozen_set ⟨nb, 5, none⟩ (.int .i64 l5) (frozen_set ⟨nb, 4, none⟩ (.int .i64 l4) (frozen_set ⟨nb, 3, none⟩ (.int .i64 0) (frozen_set ⟨nb, 2, none⟩ (.int .i64 0) (frozen_set ⟨nb, 1, none⟩ (.int .i64 0) (frozen_set ⟨nb, 0, none⟩ (.int .i64 0) (qf4))))))))))
    replace q5 := cell_far (u := .int .i64 l9) (q := ⟨nb, 9, none⟩) hnq (cell_far (u := .int .i64 l8) (q := ⟨nb, 8, none⟩) hnq (cell_far (u := .int .i64 l7) (q := ⟨nb, 7, none⟩) hnq (cell_far (u := .int .i64 l6) (q := ⟨nb, 6, none⟩) hnq (cell_far (u := .int .i64 l5) (q := ⟨nb, 5, none⟩) hnq (cell_far (u := .int .i64 l4) (q := ⟨nb, 4, none⟩) hnq (cell_far (u := .int .i64 0) (q := ⟨nb, 3, none⟩) hnq (cell_far (u := .int .i64 0) (q := ⟨nb, 2, none⟩) hnq (cell_far (u := .int .i64 0) (q := ⟨nb, 1, none⟩) hnq (cell_far (u := .int .i64 0) (q := ⟨nb, 0, none⟩) hnq (q5))))))))))
    replace qf5 := frozen_set ⟨nb, 9, none⟩ (.int .i64 l9) (frozen_set ⟨nb, 8, none⟩ (.int .i64 l8) (frozen_set ⟨nb, 7, none⟩ (.int .i64 l7) (frozen_set ⟨nb, 6, none⟩ (.int .i64 l6) (frozen_set ⟨nb, 5, none⟩ (.int .i64 l5) (frozen_set ⟨nb, 4, none⟩ (.int .i64 l4) (frozen_set ⟨nb, 3, none⟩ (.int .i64 0) (frozen_set ⟨nb, 2, none⟩ (.int .i64 0) (frozen_set ⟨nb, 1, none⟩ (.int .i64 0) (frozen_set ⟨nb, 0, none⟩ (.int .i64 0) (qf5))))))))))
    replace q6 := cell_far (u := .int .i64 l9) (q := ⟨nb, 9, none⟩) hnq (cell_far (u := .int .i64 l8) (q := ⟨nb, 8, none⟩) hnq (cell_far (u := .int .i64 l7) (q := ⟨nb, 7, none⟩) hnq (cell_far (u := .int .i64 l6) (q := ⟨nb, 6, none⟩) hnq (cell_far (u := .int .i64 l5) (q := ⟨nb, 5, none⟩) hnq (cell_far (u := .int .i64 l4) (q := ⟨nb, 4, none⟩) hnq (cell_far (u := .int .i64 0) (q := ⟨nb, 3, none⟩) hnq (cell_far (u := .int .i64 0) (q := ⟨nb, 2, none⟩) hnq (cell_far (u := .int .i64 0) (q := ⟨nb, 1, none⟩) hnq (cell_far (u := .int .i64 0) (q := ⟨nb, 0, none⟩) hnq (q6))))))))))
    replace qf6 := frozen_set ⟨nb, 9, none⟩ (.int .i64 l9) (frozen_set ⟨nb, 8, none⟩ (.int .i64 l8) (frozen_set ⟨nb, 7, none⟩ (.int .i64 l7) (frozen_set ⟨nb, 6, none⟩ (.int .i64 l6) (frozen_set ⟨nb, 5, none⟩ (.int .i64 l5) (frozen_set ⟨nb, 4, none⟩ (.int .i64 l4) (frozen_set ⟨nb, 3, none⟩ (.int .i64 0) (frozen_set ⟨nb, 2, none⟩ (.int .i64 0) (frozen_set ⟨nb, 1, none⟩ (.int .i64 0) (frozen_set ⟨nb, 0, none⟩ (.int .i64 0) (qf6))))))))))
    replace q7 := cell_far (u := .int .i64 l9) (q := ⟨nb, 9, none⟩) hnq (cell_far (u := .int .i64 l8) (q := ⟨nb, 8, none⟩) hnq (cell_far (u := .int .i64 l7) (q := ⟨nb, 7, none⟩) hnq (cell_far (u := .int .i64 l6) (q := ⟨nb, 6, none⟩) hnq (cell_far (u := .int .i64 l5) (q := ⟨nb, 5, none⟩) hnq (cell_far (u := .int .i64 l4) (q := ⟨nb, 4, none⟩) hnq (cell_far (u := .int .i64 0) (q := ⟨nb, 3, none⟩) hnq (cell_far (u := .int .i64 0) (q := ⟨nb, 2, none⟩) hnq (cell_far (u := .int .i64 0) (q := ⟨nb, 1, none⟩) hnq (cell_far (u := .int .i64 0) (q := ⟨nb, 0, none⟩) hnq (q7))))))))))
    replace qf7 := frozen_set ⟨nb, 9, none⟩ (.int .i64 l9) (frozen_set ⟨nb, 8, none⟩ (.int .i64 l8) (frozen_set ⟨nb, 7, none⟩ (.int .i64 l7) (frozen_set ⟨nb, 6, none⟩ (.int .i64 l6) (frozen_set ⟨nb, 5, none⟩ (.int .i64 l5) (frozen_set ⟨nb, 4, none⟩ (.int .i64 l4) (frozen_set ⟨nb, 3, none⟩ (.int .i64 0) (frozen_set ⟨nb, 2, none⟩ (.int .i64 0) (frozen_set ⟨nb, 1, none⟩ (.int .i64 0) (frozen_set ⟨nb, 0, none⟩ (.int .i64 0) (qf7))))))))))
    replace q8 := cell_far (u := .int .i64 l9) (q := ⟨nb, 9, none⟩) hnq (cell_far (u := .int .i64 l8) (q := ⟨nb, 8, none⟩) hnq (cell_far (u := .int .i64 l7) (q := ⟨nb, 7, none⟩) hnq (cell_far (u := .int .i64 l6) (q := ⟨nb, 6, none⟩) hnq (cell_far (u := .int .i64 l5) (q := ⟨nb, 5, none⟩) hnq (cell_far (u := .int .i64 l4) (q := ⟨nb, 4, none⟩) hnq (cell_far (u := .int .i64 0) (q := ⟨nb, 3, none⟩) hnq (cell_far (u := .int .i64 0) (q := ⟨nb, 2, none⟩) hnq (cell_far (u := .int .i64 0) (q := ⟨nb, 1, none⟩) hnq (cell_far (u := .int .i64 0) (q := ⟨nb, 0, none⟩) hnq (q8))))))))))
    replace qf8 := frozen_set ⟨nb, 9, none⟩ (.int .i64 l9) (frozen_set ⟨nb, 8, none⟩ (.int .i64 l8) (frozen_set ⟨nb, 7, none⟩ (.int .i64 l7) (frozen_set ⟨nb, 6, none⟩ (.int .i64 l6) (frozen_set ⟨nb, 5, none⟩ (.int .i64 l5) (frozen_set ⟨nb, 4, none⟩ (.int .i64 l4) (frozen_set ⟨nb, 3, none⟩ (.int .i64 0) (frozen_set ⟨nb, 2, none⟩ (.int .i64 0) (frozen_set ⟨nb, 1, none⟩ (.int .i64 0) (frozen_set ⟨nb, 0, none⟩ (.int .i64 0) (qf8))))))))))
    replace q9 := cell_far (u := .int .i64 l9) (q := ⟨nb, 9, none⟩) hnq (cell_far (u := .int .i64 l8) (q := ⟨nb, 8, none⟩) hnq (cell_far (u := .int .i64 l7) (q := ⟨nb, 7, none⟩) hnq (cell_far (u := .int .i64 l6) (q := ⟨nb, 6, none⟩) hnq (cell_far (u := .int .i64 l5) (q := ⟨nb, 5, none⟩) hnq (cell_far (u := .int .i64 l4) (q := ⟨nb, 4, none⟩) hnq (cell_far (u := .int .i64 0) (q := ⟨nb, 3, none⟩) hnq (cell_far (u := .int .i64 0) (q := ⟨nb, 2, none⟩) hnq (cell_far (u := .int .i64 0) (q := ⟨nb, 1, none⟩) hnq (cell_far (u := .int .i64 0) (q := ⟨nb, 0, none⟩) hnq (q9))))))))))
    replace qf9 := frozen_set ⟨nb, 9, none⟩ (.int .i64 l9) (frozen_set ⟨nb, 8, none⟩ (.int .i64 l8) (frozen_set ⟨nb, 7, none⟩ (.int .i64 l7) (frozen_set ⟨nb, 6, none⟩ (.int .i64 l6) (frozen_set ⟨nb, 5, none⟩ (.int .i64 l5) (frozen_set ⟨nb, 4, none⟩ (.int .i64 l4) (frozen_set ⟨nb, 3, none⟩ (.int .i64 0) (frozen_set ⟨nb, 2, none⟩ (.int .i64 0) (frozen_set ⟨nb, 1, none⟩ (.int .i64 0) (frozen_set ⟨nb, 0, none⟩ (.int .i64 0) (qf9))))))))))
    replace zq := Nat.lt_of_lt_of_eq zq hszQ.symm
    replace i0 := cell_far (u := .int .i64 l9) (q := ⟨nb, 9, none⟩) hnbb (cell_far (u := .int .i64 l8) (q := ⟨nb, 8, none⟩) hnbb (cell_far (u := .int .i64 l7) (q := ⟨nb, 7, none⟩) hnbb (cell_far (u := .int .i64 l6) (q := ⟨nb, 6, none⟩) hnbb (cell_far (u := .int .i64 l5) (q := ⟨nb, 5, none⟩) hnbb (cell_far (u := .int .i64 l4) (q := ⟨nb, 4, none⟩) hnbb (cell_far (u := .int .i64 0) (q := ⟨nb, 3, none⟩) hnbb (cell_far (u := .int .i64 0) (q := ⟨nb, 2, none⟩) hnbb (cell_far (u := .int .i64 0) (q := ⟨nb, 1, none⟩) hnbb (cell_far (u := .int .i64 0) (q := ⟨nb, 0, none⟩) hnbb (i0))))))))))
    replace i1 := cell_far (u := .int .i64 l9) (q := ⟨nb, 9, none⟩) hnbb (cell_far (u := .int .i64 l8) (q := ⟨nb, 8, none⟩) hnbb (cell_far (u := .int .i64 l7) (q := ⟨nb, 7, none⟩) hnbb (cell_far (u := .int .i64 l6) (q := ⟨nb, 6, none⟩) hnbb (cell_far (u := .int .i64 l5) (q := ⟨nb, 5, none⟩) hnbb (cell_far (u := .int .i64 l4) (q := ⟨nb, 4, none⟩) hnbb (cell_far (u := .int .i64 0) (q := ⟨nb, 3, none⟩) hnbb (cell_far (u := .int .i64 0) (q := ⟨nb, 2, none⟩) hnbb (cell_far (u := .int .i64 0) (q := ⟨nb, 1, none⟩) hnbb (cell_far (u := .int .i64 0) (q := ⟨nb, 0, none⟩) hnbb (i1))))))))))
    replace i2 := cell_far (u := .int .i64 l9) (q := ⟨nb, 9, none⟩) hnbb (cell_far (u := .int .i64 l8) (q := ⟨nb, 8, none⟩) hnbb (cell_far (u := .int .i64 l7) (q := ⟨nb, 7, none⟩) hnbb (cell_far (u := .int .i64 l6) (q := ⟨nb, 6, none⟩) hnbb (cell_far (u := .int .i64 l5) (q := ⟨nb, 5, none⟩) hnbb (cell_far (u := .int .i64 l4) (q := ⟨nb, 4, none⟩) hnbb (cell_far (u := .int .i64 0) (q := ⟨nb, 3, none⟩) hnbb (cell_far (u := .int .i64 0) (q := ⟨nb, 2, none⟩) hnbb (cell_far (u := .int .i64 0) (q := ⟨nb, 1, none⟩) hnbb (cell_far (u := .int .i64 0) (q := ⟨nb, 0, none⟩) hnbb (i2))))))))))
    replace i3 := cell_far (u := .int .i64 l9) (q := ⟨nb, 9, none⟩) hnbb (cell_far (u := .int .i64 l8) (q := ⟨nb, 8, none⟩) hnbb (cell_far (u := .int .i64 l7) (q := ⟨nb, 7, none⟩) hnbb (cell_far (u := .int .i64 l6) (q := ⟨nb, 6, none⟩) hnbb (cell_far (u := .int .i64 l5) (q := ⟨nb, 5, none⟩) hnbb (cell_far (u := .int .i64 l4) (q := ⟨nb, 4, none⟩) hnbb (cell_far (u := .int .i64 0) (q := ⟨nb, 3, none⟩) hnbb (cell_far (u := .int .i64 0) (q := ⟨nb, 2, none⟩) hnbb (cell_far (u := .int .i64 0) (q := ⟨nb, 1, none⟩) hnbb (cell_far (u := .int .i64 0) (q := ⟨nb, 0, none⟩) hnbb (i3))))))))))
    replace i4 := cell_far (u := .int .i64 l9) (q := ⟨nb, 9, none⟩) hnbb (cell_far (u := .int .i64 l8) (q := ⟨nb, 8, none⟩) hnbb (cell_far (u := .int .i64 l7) (q := ⟨nb, 7, none⟩) hnbb (cell_far (u := .int .i64 l6) (q := ⟨nb, 6, none⟩) hnbb (cell_far (u := .int .i64 l5) (q := ⟨nb, 5, none⟩) hnbb (cell_far (u := .int .i64 l4) (q := ⟨nb, 4, none⟩) hnbb (cell_far (u := .int .i64 0) (q := ⟨nb, 3, none⟩) hnbb (cell_far (u := .int .i64 0) (q := ⟨nb, 2, none⟩) hnbb (cell_far (u := .int .i64 0) (q := ⟨nb, 1, none⟩) hnbb (cell_far (u := .int .i64 0) (q := ⟨nb, 0, none⟩) hnbb (i4))))))))))
    replace i5 := cell_far (u := .int .i64 l9) (q := ⟨nb, 9, none⟩) hnbb (cell_far (u := .int .i64 l8) (q := ⟨nb, 8, none⟩) hnbb (cell_far (u := .int .i64 l7) (q := ⟨nb, 7, none⟩) hnbb (cell_far (u := .int .i64 l6) (q := ⟨nb, 6, none⟩) hnbb (cell_far (u := .int .i64 l5) (q := ⟨nb, 5, none⟩) hnbb (cell_far (u := .int .i64 l4) (q := ⟨nb, 4, none⟩) hnbb (cell_far (u := .int .i64 0) (q := ⟨nb, 3, none⟩) hnbb (cell_far (u := .int .i64 0) (q := ⟨nb, 2, none⟩) hnbb (cell_far (u := .int .i64 0) (q := ⟨nb, 1, none⟩) hnbb (cell_far (u := .int .i64 0) (q := ⟨nb, 0, none⟩) hnbb (i5))))))))))
    replace i6 := cell_far (u := .int .i64 l9) (q := ⟨nb, 9, none⟩) hnbb (cell_far (u := .int .i64 l8) (q := ⟨nb, 8, none⟩) hnbb (cell_far (u := .int .i64 l7) (q := ⟨nb, 7, none⟩) hnbb (cell_far (u := .int .i64 l6) (q := ⟨nb, 6, none⟩) hnbb (cell_far (u := .int .i64 l5) (q := ⟨nb, 5, none⟩) hnbb (cell_far (u := .int .i64 l4) (q := ⟨nb, 4, none⟩) hnbb (cell_far (u := .int .i64 0) (q := ⟨nb, 3, none⟩) hnbb (cell_far (u := .int .i64 0) (q := ⟨nb, 2, none⟩) hnbb (cell_far (u := .int .i64 0) (q := ⟨nb, 1, none⟩) hnbb (cell_far (u := .int .i64 0) (q := ⟨nb, 0, none⟩) hnbb (i6))))))))))
    replace i7 := cell_far (u := .int .i64 l9) (q := ⟨nb, 9, none⟩) hnbb (cell_far (u := .int .i64 l8) (q := ⟨nb, 8, none⟩) hnbb (cell_far (u := .int .i64 l7) (q := ⟨nb, 7, none⟩) hnbb (cell_far (u := .int .i64 l6) (q := ⟨nb, 6, none⟩) hnbb (cell_far (u := .int .i64 l5) (q := ⟨nb, 5, none⟩) hnbb (cell_far (u := .int .i64 l4) (q := ⟨nb, 4, none⟩) hnbb (cell_far (u := .int .i64 0) (q := ⟨nb, 3, none⟩) hnbb (cell_far (u := .int .i64 0) (q := ⟨nb, 2, none⟩) hnbb (cell_far (u := .int .i64 0) (q := ⟨nb, 1, none⟩) hnbb (cell_far (u := .int .i64 0) (q := ⟨nb, 0, none⟩) hnbb (i7))))))))))
    replace i8 := cell_far (u := .int .i64 l9) (q := ⟨nb, 9, none⟩) hnbb (cell_far (u := .int .i64 l8) (q := ⟨nb, 8, none⟩) hnbb (cell_far (u := .int .i64 l7) (q := ⟨nb, 7, none⟩) hnbb (cell_far (u := .int .i64 l6) (q := ⟨nb, 6, none⟩) hnbb (cell_far (u := .int .i64 l5) (q := ⟨nb, 5, none⟩) hnbb (cell_far (u := .int .i64 l4) (q := ⟨nb, 4, none⟩) hnbb (cell_far (u := .int .i64 0) (q := ⟨nb, 3, none⟩) hnbb (cell_far (u := .int .i64 0) (q := ⟨nb, 2, none⟩) hnbb (cell_far (u := .int .i64 0) (q := ⟨nb, 1, none⟩) hnbb (cell_far (u := .int .i64 0) (q := ⟨nb, 0, none⟩) hnbb (i8))))))))))
    replace i9 := cell_far (u := .int .i64 l9) (q := ⟨nb, 9, none⟩) hnbb (cell_far (u := .int .i64 l8) (q := ⟨nb, 8, none⟩) hnbb (cell_far (u := .int .i64 l7) (q := ⟨nb, 7, none⟩) hnbb (cell_far (u := .int .i64 l6) (q := ⟨nb, 6, none⟩) hnbb (cell_far (u := .int .i64 l5) (q := ⟨nb, 5, none⟩) hnbb (cell_far (u := .int .i64 l4) (q := ⟨nb, 4, none⟩) hnbb (cell_far (u := .int .i64 0) (q := ⟨nb, 3, none⟩) hnbb (cell_far (u := .int .i64 0) (q := ⟨nb, 2, none⟩) hnbb (cell_far (u := .int .i64 0) (q := ⟨nb, 1, none⟩) hnbb (cell_far (u := .int .i64 0) (q := ⟨nb, 0, none⟩) hnbb (i9))))))))))
    replace zi := Nat.lt_of_lt_of_eq zi hszQ.symm
    clear hszQ h3
    generalize ((((((((((w3.setCell ⟨nb, 0, none⟩ (.int .i64 0)).setCell ⟨nb, 1, none⟩ (.int .i64 0)).setCell ⟨nb, 2, none⟩ (.int .i64 0)).setCell ⟨nb, 3, none⟩ (.int .i64 0)).setCell ⟨nb, 4, none⟩ (.int .i64 l4)).setCell ⟨nb, 5, none⟩ (.int .i64 l5)).setCell ⟨nb, 6, none⟩ (.int .i64 l6)).setCell ⟨nb, 7, none⟩ (.int .i64 l7)).setCell ⟨nb, 8, none⟩ (.int .i64 l8)).setCell ⟨nb, 9, none⟩ (.int .i64 l9)) = w4 at *
    (refine region_extx 15 (by kernel_rfl) (by kernel_rfl) fun hx => ?_; simp only [List.take_succ_cons, List.take_zero, List.drop_succ_cons, List.drop_zero]; (repeat (any_goals (first | go_big_quiet_step (fail) | quiet_step (fail)))))
    (refine wpQuiet_nil ?_; clear hx; intro u; have hbw5 := ext_bel _ u; have hxw5 := ext_cell _ u; generalize ext _ u = w5 at *; clear u; have hsw5 := hbw5.size; (try simp at hsw5))
    have h5 : Below w.heap.size w w5 := (h4).trans ((hbw5).mono (h4).size)
    replace qf0 := frozen_below hbw5 (World.block_lt_of_cell? _ _ q0) qf0
    replace qf1 := frozen_below hbw5 (World.block_lt_of_cell? _ _ q1) qf1
    replace qf2 := frozen_below hbw5 (World.block_lt_of_cell? _ _ q2) qf2
    replace qf3 := frozen_below hbw5 (World.block_lt_of_cell? _ _ q3) qf3
    replace qf4 := frozen_below hbw5 (World.block_lt_of_cell? _ _ q4) qf4
    replace qf5 := frozen_below hbw5 (World.block_lt_of_cell? _ _ q5) qf5
    replace qf6 := frozen_below hbw5 (World.block_lt_of_cell? _ _ q6) qf6
    replace qf7 := frozen_below hbw5 (World.block_lt_of_cell? _ _ q7) qf7
    replace qf8 := frozen_below hbw5 (World.block_lt_of_cell? _ _ q8) qf8
    replace qf9 := frozen_below hbw5 (World.block_lt_of_cell? _ _ q9) qf9
    replace q0 := cell_below' hbw5 q0
    replace q1 := cell_below' hbw5 q1
    replace q2 := cell_below' hbw5 q2
    replace q3 := cell_below' hbw5 q3
    replace q4 := cell_below' hbw5 q4
    replace q5 := cell_below' hbw5 q5
    replace q6 := cell_below' hbw5 q6
    replace q7 := cell_below' hbw5 q7
    replace q8 := cell_below' hbw5 q8
    replace q9 := cell_below' hbw5 q9
    replace zq := Nat.lt_of_lt_of_le zq (hbw5).size
    replace rf0 := frozen_below hbw5 (World.block_lt_of_cell? _ _ r0) rf0
    replace rf1 := frozen_below hbw5 (World.block_lt_of_cell? _ _ r1) rf1
    replace rf2 := frozen_below hbw5 (World.block_lt_of_cell? _ _ r2) rf2
    replace rf3 := frozen_below hbw5 (World.block_lt_of_cell? _ _ r3) rf3
    replace rf4 := frozen_below hbw5 (World.block_lt_of_cell? _ _ r4) rf4
    replace rf5 := frozen_below hbw5 (World.block_lt_of_cell? _ _ r5) rf5
    replace rf6 := frozen_below hbw5 (World.block_lt_of_cell? _ _ r6) rf6
    replace rf7 := frozen_below hbw5 (World.block_lt_of_cell? _ _ r7) rf7
    replace rf8 := frozen_below hbw5 (World.block_lt_of_cell? _ _ r8) rf8
    replace rf9 := frozen_below hbw5 (World.block_lt_of_cell? _ _ r9) rf9
    replace r0 := cell_below' hbw5 r0
    replace r1 := cell_below' hbw5 r1
    replace r2 := cell_below' hbw5 r2
    replace r3 := cell_below' hbw5 r3
    replace r4 := cell_below' hbw5 r4
    replace r5 := cell_below' hbw5 r5
    replace r6 := cell_below' hbw5 r6
    replace r7 := cell_below' hbw5 r7
    replace r8 := cell_below' hbw5 r8
    replace r9 := cell_below' hbw5 r9
    replace zr := Nat.lt_of_lt_of_le zr (hbw5).size
    clear hbw5 h4
    clear hxw5 hsw5 i0 i1 i2 i3 i4 i5 i6 i7 i8 i9
    go_upto_region 6 with (fail)
    have h6 : Below w.heap.size w ((((w5.setCell ⟨nb, 0, none⟩ (.int .i64 l0)).setCell ⟨nb, 1, none⟩ (.int .i64 l1)).setCell ⟨nb, 2, none⟩ (.int .i64 l2)).setCell ⟨nb, 3, none⟩ (.int .i64 l3)) := below_set _ (by simp; try omega) (below_set _ (by simp; try omega) (below_set _ (by simp; try omega) (below_set _ (by simp; try omega) (h5))))
    replace r0 : ((((w5.setCell ⟨nb, 0, none⟩ (.int .i64 l0)).setCell ⟨nb, 1, none⟩ (.int .i64 l1)).setCell ⟨nb, 2, none⟩ (.int .i64 l2)).setCell ⟨nb, 3, none⟩ (.int .i64 l3)).cell? ⟨nb, 0, none⟩ = some (.int .i64 l0) := cell_next (by decide) (cell_next (by decide) (cell_next (by decide) (cell_same (r0))))
    replace r1 : ((((w5.setCell ⟨nb, 0, none⟩ (.int .i64 l0)).setCell ⟨nb, 1, none⟩ (.int .i64 l1)).setCell ⟨nb, 2, none⟩ (.int .i64 l2)).setCell ⟨nb, 3, none⟩ (.int .i64 l3)).cell? ⟨nb, 1, none⟩ = some (.int .i64 l1) := cell_next (by decide) (cell_next (by decide) (cell_same (cell_next (by decide) (r1))))
    replace r2 : ((((w5.setCell ⟨nb, 0, none⟩ (.int .i64 l0)).setCell ⟨nb, 1, none⟩ (.int .i64 l1)).setCell ⟨nb, 2, none⟩ (.int .i64 l2)).setCell ⟨nb, 3, none⟩ (.int .i64 l3)).cell? ⟨nb, 2, none⟩ = some (.int .i64 l2) := cell_next (by decide) (cell_same (cell_next (by decide) (cell_next (by decide) (r2))))
    replace r3 : ((((w5.setCell ⟨nb, 0, none⟩ (.int .i64 l0)).setCell ⟨nb, 1, none⟩ (.int .i64 l1)).setCell ⟨nb, 2, none⟩ (.int .i64 l2)).setCell ⟨nb, 3, none⟩ (.int .i64 l3)).cell? ⟨nb, 3, none⟩ = some (.int .i64 l3) := cell_same (cell_next (by decide) (cell_next (by decide) (cell_next (by decide) (r3))))
    replace r4 := cell_next (i := 3) (u := .int .i64 l3) (by decide) (cell_next (i := 2) (u := .int .i64 l2) (by decide) (cell_next (i := 1) (u := .int .i64 l1) (by decide) (cell_next (i := 0) (u := .int .i64 l0) (by decide) (r4))))
    replace r5 := cell_next (i := 3) (u := .int .i64 l3) (by decide) (cell_next (i := 2) (u := .int .i64 l2) (by decide) (cell_next (i := 1) (u := .int .i64 l1) (by decide) (cell_next (i := 0) (u := .int .i64 l0) (by decide) (r5))))
    replace r6 := cell_next (i := 3) (u := .int .i64 l3) (by decide) (cell_next (i := 2) (u := .int .i64 l2) (by decide) (cell_next (i := 1) (u := .int .i64 l1) (by decide) (cell_next (i := 0) (u := .int .i64 l0) (by decide) (r6))))
    replace r7 := cell_next (i := 3) (u := .int .i64 l3) (by decide) (cell_next (i := 2) (u := .int .i64 l2) (by decide) (cell_next (i := 1) (u := .int .i64 l1) (by decide) (cell_next (i := 0) (u := .int .i64 l0) (by decide) (r7))))
    replace r8 := cell_next (i := 3) (u := .int .i64 l3) (by decide) (cell_next (i := 2) (u := .int .i64 l2) (by decide) (cell_next (i := 1) (u := .int .i64 l1) (by decide) (cell_next (i := 0) (u := .int .i64 l0) (by decide) (r8))))
    replace r9 := cell_next (i := 3) (u := .int .i64 l3) (by decide) (cell_next (i := 2) (u := .int .i64 l2) (by decide) (cell_next (i := 1) (u := .int .i64 l1) (by decide) (cell_next (i := 0) (u := .int .i64 l0) (by decide) (r9))))
    replace rf0 := (show World.frozen? ((((w5.setCell ⟨nb, 0, none⟩ (.int .i64 l0)).setCell ⟨nb, 1, none⟩ (.int .i64 l1)).setCell ⟨nb, 2, none⟩ (.int .i64 l2)).setCell ⟨nb, 3, none⟩ (.int .i64 l3)) ⟨nb, 0, none⟩ = false from frozen_set _ _ (frozen_set _ _ (frozen_set _ _ (frozen_set _ _ (rf0)))))
    replace rf1 := (show World.frozen? ((((w5.setCell ⟨nb, 0, none⟩ (.int .i64 l0)).setCell ⟨nb, 1, none⟩ (.int .i64 l1)).setCell ⟨nb, 2, none⟩ (.int .i64 l2)).setCell ⟨nb, 3, none⟩ (.int .i64 l3)) ⟨nb, 1, none⟩ = false from frozen_set _ _ (frozen_set _ _ (frozen_set _ _ (frozen_set _ _ (rf1)))))
    replace rf2 := (show World.frozen? ((((w5.setCell ⟨nb, 0, none⟩ (.int .i64 l0)).setCell ⟨nb, 1, none⟩ (.int .i64 l1)).setCell ⟨nb, 2, none⟩ (.int .i64 l2)).setCell ⟨nb, 3, none⟩ (.int .i64 l3)) ⟨nb, 2, none⟩ = false from frozen_set _ _ (frozen_set _ _ (frozen_set _ _ (frozen_set _ _ (rf2)))))
    replace rf3 := (show World.frozen? ((((w5.setCell ⟨nb, 0, none⟩ (.int .i64 l0)).setCell ⟨nb, 1, none⟩ (.int .i64 l1)).setCell ⟨nb, 2, none⟩ (.int .i64 l2)).setCell ⟨nb, 3, none⟩ (.int .i64 l3)) ⟨nb, 3, none⟩ = false from frozen_set _ _ (frozen_set _ _ (frozen_set _ _ (frozen_set _ _ (rf3)))))
    replace rf4 := (show World.frozen? ((((w5.setCell ⟨nb, 0, none⟩ (.int .i64 l0)).setCell ⟨nb, 1, none⟩ (.int .i64 l1)).setCell ⟨nb, 2, none⟩ (.int .i64 l2)).setCell ⟨nb, 3, none⟩ (.int .i64 l3)) ⟨nb, 4, none⟩ = false from frozen_set _ _ (frozen_set _ _ (frozen_set _ _ (frozen_set _ _ (rf4)))))
    replace rf5 := (show World.frozen? ((((w5.setCell ⟨nb, 0, none⟩ (.int .i64 l0)).setCell ⟨nb, 1, none⟩ (.int .i64 l1)).setCell ⟨nb, 2, none⟩ (.int .i64 l2)).setCell ⟨nb, 3, none⟩ (.int .i64 l3)) ⟨nb, 5, none⟩ = false from frozen_set _ _ (frozen_set _ _ (frozen_set _ _ (frozen_set _ _ (rf5)))))
    replace rf6 := (show World.frozen? ((((w5.setCell ⟨nb, 0, none⟩ (.int .i64 l0)).setCell ⟨nb, 1, none⟩ (.int .i64 l1)).setCell ⟨nb, 2, none⟩ (.int .i64 l2)).setCell ⟨nb, 3, none⟩ (.int .i64 l3)) ⟨nb, 6, none⟩ = false from frozen_set _ _ (frozen_set _ _ (frozen_set _ _ (frozen_set _ _ (rf6)))))
    replace rf7 := (show World.frozen? ((((w5.setCell ⟨nb, 0, none⟩ (.int .i64 l0)).setCell ⟨nb, 1, none⟩ (.int .i64 l1)).setCell ⟨nb, 2, none⟩ (.int .i64 l2)).setCell ⟨nb, 3, none⟩ (.int .i64 l3)) ⟨nb, 7, none⟩ = false from frozen_set _ _ (frozen_set _ _ (frozen_set _ _ (frozen_set _ _ (rf7)))))
    replace rf8 := (show World.frozen? ((((w5.setCell ⟨nb, 0, none⟩ (.int .i64 l0)).setCell ⟨nb, 1, none⟩ (.int .i64 l1)).setCell ⟨nb, 2, none⟩ (.int .i64 l2)).setCell ⟨nb, 3, none⟩ (.int .i64 l3)) ⟨nb, 8, none⟩ = false from frozen_set _ _ (frozen_set _ _ (frozen_set _ _ (frozen_set _ _ (rf8)))))
    replace rf9 := (show World.frozen? ((((w5.setCell ⟨nb, 0, none⟩ (.int .i64 l0)).setCell ⟨nb, 1, none⟩ (.int .i64 l1)).setCell ⟨nb, 2, none⟩ (.int .i64 l2)).setCell ⟨nb, 3, none⟩ (.int .i64 l3)) ⟨nb, 9, none⟩ = false from frozen_set _ _ (frozen_set _ _ (frozen_set _ _ (frozen_set _ _ (rf9)))))
    have hszQ : ((((w5.setCell ⟨nb, 0, none⟩ (.int .i64 l0)).setCell ⟨nb, 1, none⟩ (.int .i64 l1)).setCell ⟨nb, 2, none⟩ (.int .i64 l2)).setCell ⟨nb, 3, none⟩ (.int .i64 l3)).heap.size = w5.heap.size := by simp
    replace zr : nb < ((((w5.setCell ⟨nb, 0, none⟩ (.int .i64 l0)).setCell ⟨nb, 1, none⟩ (.int .i64 l1)).setCell ⟨nb, 2, none⟩ (.int .i64 l2)).setCell ⟨nb, 3, none⟩ (.int .i64 l3)).heap.size := by rw [hszQ]; exact zr
    replace q0 := cell_far (u := .int .i64 l3) (q := ⟨nb, 3, none⟩) hnq (cell_far (u := .int .i64 l2) (q := ⟨nb, 2, none⟩) hnq (cell_far (u := .int .i64 l1) (q := ⟨nb, 1, none⟩) hnq (cell_far (u := .int .i64 l0) (q := ⟨nb, 0, none⟩) hnq (q0))))
    replace qf0 := frozen_set ⟨nb, 3, none⟩ (.int .i64 l3) (frozen_set ⟨nb, 2, none⟩ (.int .i64 l2) (frozen_set ⟨nb, 1, none⟩ (.int .i64 l1) (frozen_set ⟨nb, 0, none⟩ (.int .i64 l0) (qf0))))
    replace q1 := cell_far (u := .int .i64 l3) (q := ⟨nb, 3, none⟩) hnq (cell_far (u := .int .i64 l2) (q := ⟨nb, 2, none⟩) hnq (cell_far (u := .int .i64 l1) (q := ⟨nb, 1, none⟩) hnq (cell_far (u := .int .i64 l0) (q := ⟨nb, 0, none⟩) hnq (q1))))
    replace qf1 := frozen_set ⟨nb, 3, none⟩ (.int .i64 l3) (frozen_set ⟨nb, 2, none⟩ (.int .i64 l2) (frozen_set ⟨nb, 1, none⟩ (.int .i64 l1) (frozen_set ⟨nb, 0, none⟩ (.int .i64 l0) (qf1))))
    replace q2 := cell_far (u := .int .i64 l3) (q := ⟨nb, 3, none⟩) hnq (cell_far (u := .int .i64 l2) (q := ⟨nb, 2, none⟩) hnq (cell_far (u := .int .i64 l1) (q := ⟨nb, 1, none⟩) hnq (cell_far (u := .int .i64 l0) (q := ⟨nb, 0, none⟩) hnq (q2))))
    replace qf2 := frozen_set ⟨nb, 3, none⟩ (.int .i64 l3) (frozen_set ⟨nb, 2, none⟩ (.int .i64 l2) (frozen_set ⟨nb, 1, none⟩ (.int .i64 l1) (frozen_set ⟨nb, 0, none⟩ (.int .i64 l0) (qf2))))
    replace q3 := cell_far (u := .int .i64 l3) (q := ⟨nb, 3, none⟩) hnq (cell_far (u := .int .i64 l2) (q := ⟨nb, 2, none⟩) hnq (cell_far (u := .int .i64 l1) (q := ⟨nb, 1, none⟩) hnq (cell_far (u := .int .i64 l0) (q := ⟨nb, 0, none⟩) hnq (q3))))
    replace qf3 := frozen_set ⟨nb, 3, none⟩ (.int .i64 l3) (frozen_set ⟨nb, 2, none⟩ (.int .i64 l2) (frozen_set ⟨nb, 1, none⟩ (.int .i64 l1) (frozen_set ⟨nb, 0, none⟩ (.int .i64 l0) (qf3))))
    replace q4 := cell_far (u := .int .i64 l3) (q := ⟨nb, 3, none⟩) hnq (cell_far (u := .int .i64 l2) (q := ⟨nb, 2, none⟩) hnq (cell_far (u := .int .i64 l1) (q := ⟨nb, 1, none⟩) hnq (cell_far (u := .int .i64 l0) (q := ⟨nb, 0, none⟩) hnq (q4))))
    replace qf4 := frozen_set ⟨nb, 3, none⟩ (.int .i64 l3) (frozen_set ⟨nb, 2, none⟩ (.int .i64 l2) (frozen_set ⟨nb, 1, none⟩ (.int .i64 l1) (frozen_set ⟨nb, 0, none⟩ (.int .i64 l0) (qf4))))
    replace q5 := cell_far (u := .int .i64 l3) (q := ⟨nb, 3, none⟩) hnq (cell_far (u := .int .i64 l2) (q := ⟨nb, 2, none⟩) hnq (cell_far (u := .int .i64 l1) (q := ⟨nb, 1, none⟩) hnq (cell_far (u := .int .i64 l0) (q := ⟨nb, 0, none⟩) hnq (q5))))
    replace qf5 := frozen_set ⟨nb, 3, none⟩ (.int .i64 l3) (frozen_set ⟨nb, 2, none⟩ (.int .i64 l2) (frozen_set ⟨nb, 1, none⟩ (.int .i64 l1) (frozen_set ⟨nb, 0, none⟩ (.int .i64 l0) (qf5))))
    replace q6 := cell_far (u := .int .i64 l3) (q := ⟨nb, 3, none⟩) hnq (cell_far (u := .int .i64 l2) (q := ⟨nb, 2, none⟩) hnq (cell_far (u := .int .i64 l1) (q := ⟨nb, 1, none⟩) hnq (cell_far (u := .int .i64 l0) (q := ⟨nb, 0, none⟩) hnq (q6))))
    replace qf6 := frozen_set ⟨nb, 3, none⟩ (.int .i64 l3) (frozen_set ⟨nb, 2, none⟩ (.int .i64 l2) (frozen_set ⟨nb, 1, none⟩ (.int .i64 l1) (frozen_set ⟨nb, 0, none⟩ (.int .i64 l0) (qf6))))
    replace q7 := cell_far (u := .int .i64 l3) (q := ⟨nb, 3, none⟩) hnq (cell_far (u := .int .i64 l2) (q := ⟨nb, 2, none⟩) hnq (cell_far (u := .int .i64 l1) (q := ⟨nb, 1, none⟩) hnq (cell_far (u := .int .i64 l0) (q := ⟨nb, 0, none⟩) hnq (q7))))
    replace qf7 := frozen_set ⟨nb, 3, none⟩ (.int .i64 l3) (frozen_set ⟨nb, 2, none⟩ (.int .i64 l2) (frozen_set ⟨nb, 1, none⟩ (.int .i64 l1) (frozen_set ⟨nb, 0, none⟩ (.int .i64 l0) (qf7))))
    replace q8 := cell_far (u := .int .i64 l3) (q := ⟨nb, 3, none⟩) hnq (cell_far (u := .int .i64 l2) (q := ⟨nb, 2, none⟩) hnq (cell_far (u := .int .i64 l1) (q := ⟨nb, 1, none⟩) hnq (cell_far (u := .int .i64 l0) (q := ⟨nb, 0, none⟩) hnq (q8))))
    replace qf8 := frozen_set ⟨nb, 3, none⟩ (.int .i64 l3) (frozen_set ⟨nb, 2, none⟩ (.int .i64 l2) (frozen_set ⟨nb, 1, none⟩ (.int .i64 l1) (frozen_set ⟨nb, 0, none⟩ (.int .i64 l0) (qf8))))
    replace q9 := cell_far (u := .int .i64 l3) (q := ⟨nb, 3, none⟩) hnq (cell_far (u := .int .i64 l2) (q := ⟨nb, 2, none⟩) hnq (cell_far (u := .int .i64 l1) (q := ⟨nb, 1, none⟩) hnq (cell_far (u := .int .i64 l0) (q := ⟨nb, 0, none⟩) hnq (q9))))
    replace qf9 := frozen_set ⟨nb, 3, none⟩ (.int .i64 l3) (frozen_set ⟨nb, 2, none⟩ (.int .i64 l2) (frozen_set ⟨nb, 1, none⟩ (.int .i64 l1) (frozen_set ⟨nb, 0, none⟩ (.int .i64 l0) (qf9))))
    replace zq := Nat.lt_of_lt_of_eq zq hszQ.symm
    clear hszQ h5
    generalize ((((w5.setCell ⟨nb, 0, none⟩ (.int .i64 l0)).setCell ⟨nb, 1, none⟩ (.int .i64 l1)).setCell ⟨nb, 2, none⟩ (.int .i64 l2)).setCell ⟨nb, 3, none⟩ (.int .i64 l3)) = w6 at *
    go_wp2_with (fail)
    refine (HCK.out _).mono ?_
    rintro e w7 ⟨rfl, hb7⟩
    have h7 : Below w.heap.size w w7 := (h6).trans ((hb7).mono (h6).size)
    replace qf0 := frozen_below hb7 (World.block_lt_of_cell? _ _ q0) qf0
    replace qf1 := frozen_below hb7 (World.block_lt_of_cell? _ _ q1) qf1
    replace qf2 := frozen_below hb7 (World.block_lt_of_cell? _ _ q2) qf2
    replace qf3 := frozen_below hb7 (World.block_lt_of_cell? _ _ q3) qf3
    replace qf4 := frozen_below hb7 (World.block_lt_of_cell? _ _ q4) qf4
    replace qf5 := frozen_below hb7 (World.block_lt_of_cell? _ _ q5) qf5
    replace qf6 := frozen_below hb7 (World.block_lt_of_cell? _ _ q6) qf6
    replace qf7 := frozen_below hb7 (World.block_lt_of_cell? _ _ q7) qf7
    replace qf8 := frozen_below hb7 (World.block_lt_of_cell? _ _ q8) qf8
    replace qf9 := frozen_below hb7 (World.block_lt_of_cell? _ _ q9) qf9
    replace q0 := cell_below' hb7 q0
    replace q1 := cell_below' hb7 q1
    replace q2 := cell_below' hb7 q2
    replace q3 := cell_below' hb7 q3
    replace q4 := cell_below' hb7 q4
    replace q5 := cell_below' hb7 q5
    replace q6 := cell_below' hb7 q6
    replace q7 := cell_below' hb7 q7
    replace q8 := cell_below' hb7 q8
    replace q9 := cell_below' hb7 q9
    replace zq := Nat.lt_of_lt_of_le zq (hb7).size
    replace rf0 := frozen_below hb7 (World.block_lt_of_cell? _ _ r0) rf0
    replace rf1 := frozen_below hb7 (World.block_lt_of_cell? _ _ r1) rf1
    replace rf2 := frozen_below hb7 (World.block_lt_of_cell? _ _ r2) rf2
    replace rf3 := frozen_below hb7 (World.block_lt_of_cell? _ _ r3) rf3
    replace rf4 := frozen_below hb7 (World.block_lt_of_cell? _ _ r4) rf4
    replace rf5 := frozen_below hb7 (World.block_lt_of_cell? _ _ r5) rf5
    replace rf6 := frozen_below hb7 (World.block_lt_of_cell? _ _ r6) rf6
    replace rf7 := frozen_below hb7 (World.block_lt_of_cell? _ _ r7) rf7
    replace rf8 := frozen_below hb7 (World.block_lt_of_cell? _ _ r8) rf8
    replace rf9 := frozen_below hb7 (World.block_lt_of_cell? _ _ r9) rf9
    replace r0 := cell_below' hb7 r0
    replace r1 := cell_below' hb7 r1
    replace r2 := cell_below' hb7 r2
    replace r3 := cell_below' hb7 r3
    replace r4 := cell_below' hb7 r4
    replace r5 := cell_below' hb7 r5
    replace r6 := cell_below' hb7 r6
    replace r7 := cell_below' hb7 r7
    replace r8 := cell_below' hb7 r8
    replace r9 := cell_below' hb7 r9
    replace zr := Nat.lt_of_lt_of_le zr (hb7).size
    clear hb7 h6
    clear HCK HP1 hnb hnbb
    by_cases he : ee = 0
    · subst he
      have HQ2 := Lib.hid (HQ3.out.trans (if_pos rfl))
      clear HQ HQ3
      go_wp2_with (fail)
      have S := set10 (w := w7) (b := w.heap.size) (v0 := .int .i64 l0) (v1 := .int .i64 l1) (v2 := .int .i64 l2) (v3 := .int .i64 l3) (v4 := .int .i64 l4) (v5 := .int .i64 l5) (v6 := .int .i64 l6) (v7 := .int .i64 l7) (v8 := .int .i64 l8) (v9 := .int .i64 l9) q0 q1 q2 q3 q4 q5 q6 q7 q8 q9
      have hB6 : Below w.heap.size w (setL w7 w.heap.size 0 [.int .i64 l0, .int .i64 l1, .int .i64 l2, .int .i64 l3, .int .i64 l4, .int .i64 l5, .int .i64 l6, .int .i64 l7, .int .i64 l8, .int .i64 l9]) := setL_below _ (Nat.le_refl _) _ _ _ h7
      have s0 := S 0 _ rfl
      have s1 := S 1 _ rfl
      have s2 := S 2 _ rfl
      have s3 := S 3 _ rfl
      have s4 := S 4 _ rfl
      have s5 := S 5 _ rfl
      have s6 := S 6 _ rfl
      have s7 := S 7 _ rfl
      have s8 := S 8 _ rfl
      have s9 := S 9 _ rfl
      simp only [setL] at s0 s1 s2 s3 s4 s5 s6 s7 s8 s9 hB6
      generalize ((((((((((w7.setCell ⟨w.heap.size, 0, none⟩ (.int .i64 l0)).setCell ⟨w.heap.size, 1, none⟩ (.int .i64 l1)).setCell ⟨w.heap.size, 2, none⟩ (.int .i64 l2)).setCell ⟨w.heap.size, 3, none⟩ (.int .i64 l3)).setCell ⟨w.heap.size, 4, none⟩ (.int .i64 l4)).setCell ⟨w.heap.size, 5, none⟩ (.int .i64 l5)).setCell ⟨w.heap.size, 6, none⟩ (.int .i64 l6)).setCell ⟨w.heap.size, 7, none⟩ (.int .i64 l7)).setCell ⟨w.heap.size, 8, none⟩ (.int .i64 l8)).setCell ⟨w.heap.size, 9, none⟩ (.int .i64 l9)) = WF at *
      clear S
      refine bodyPost_ret (v := .tuple #[.agg #[.int .i64 l0, .int .i64 l1, .int .i64 l2, .int .i64 l3, .int .i64 l4, .int .i64 l5, .int .i64 l6, .int .i64 l7, .int .i64 l8, .int .i64 l9], .int .i64 0]) (by simp [results, Tryz.results22, go_sem, s0, s1, s2, s3, s4, s5, s6, s7, s8, s9]) rfl ?_
      rw [HQ2.out]
      exact ⟨rfl, hB6⟩
    · have HQ2 := Lib.hid (HQ3.out.trans (if_neg he))
      have e1 : (ee != 0) = true := by simpa using he
      clear HQ HQ3
      go_wp2_with (fail)
      have S := set10 (w := w7) (b := w.heap.size) (v0 := .int .i64 0) (v1 := .int .i64 0) (v2 := .int .i64 0) (v3 := .int .i64 0) (v4 := .int .i64 0) (v5 := .int .i64 0) (v6 := .int .i64 0) (v7 := .int .i64 0) (v8 := .int .i64 0) (v9 := .int .i64 0) q0 q1 q2 q3 q4 q5 q6 q7 q8 q9
      have hB6 : Below w.heap.size w (setL w7 w.heap.size 0 [.int .i64 0, .int .i64 0, .int .i64 0, .int .i64 0, .int .i64 0, .int .i64 0, .int .i64 0, .int .i64 0, .int .i64 0, .int .i64 0]) := setL_below _ (Nat.le_refl _) _ _ _ h7
      have s0 := S 0 _ rfl
      have s1 := S 1 _ rfl
      have s2 := S 2 _ rfl
      have s3 := S 3 _ rfl
      have s4 := S 4 _ rfl
      have s5 := S 5 _ rfl
      have s6 := S 6 _ rfl
      have s7 := S 7 _ rfl
      have s8 := S 8 _ rfl
      have s9 := S 9 _ rfl
      simp only [setL] at s0 s1 s2 s3 s4 s5 s6 s7 s8 s9 hB6
      generalize ((((((((((w7.setCell ⟨w.heap.size, 0, none⟩ (.int .i64 0)).setCell ⟨w.heap.size, 1, none⟩ (.int .i64 0)).setCell ⟨w.heap.size, 2, none⟩ (.int .i64 0)).setCell ⟨w.heap.size, 3, none⟩ (.int .i64 0)).setCell ⟨w.heap.size, 4, none⟩ (.int .i64 0)).setCell ⟨w.heap.size, 5, none⟩ (.int .i64 0)).setCell ⟨w.heap.size, 6, none⟩ (.int .i64 0)).setCell ⟨w.heap.size, 7, none⟩ (.int .i64 0)).setCell ⟨w.heap.size, 8, none⟩ (.int .i64 0)).setCell ⟨w.heap.size, 9, none⟩ (.int .i64 0)) = WF at *
      clear S
      refine bodyPost_ret (v := .tuple #[.agg #[.int .i64 0, .int .i64 0, .int .i64 0, .int .i64 0, .int .i64 0, .int .i64 0, .int .i64 0, .int .i64 0, .int .i64 0, .int .i64 0], .int .i64 ee]) (by simp [results, Tryz.results22, go_sem, s0, s1, s2, s3, s4, s5, s6, s7, s8, s9]) rfl ?_
      rw [HQ2.out]
      exact ⟨rfl, hB6⟩
end Go.Proofs.YtlnbbioponmcfaaGreatDoor
