/-
  Chapter 2: echoes out of words (ParseEchoes): what is read (plain).
-/
import Derived.Test.YtlnbbioponmcfaaGreatDoorStrI
import Derived.Test.YtlnbbioponmcfaaGreatDoorERuS
namespace Go.Proofs.YtlnbbioponmcfaaGreatDoor
open Go.ChangeShapes Go.WideShapes Go.ChangeAt Go.RowKit
set_option linter.unusedVariables false
set_option linter.unusedSimpArgs false
attribute [local go_sem] Oper.semAt_some

def itOf (l : List Int) : It := ⟨l.getD 0 0, l.getD 1 0, l.getD 2 0, l.getD 3 0, l.getD 4 0⟩
def itL (x : It) : List Int := [x.l, x.p, x.t, x.lo, x.hi]
theorem five {l : List Int} (h : l.length = 5) : ∃ a0 a1 a2 a3 a4, l = [a0, a1, a2, a3, a4] := by
  match l, h with
  | [a0, a1, a2, a3, a4], _ => exact ⟨a0, a1, a2, a3, a4, rfl⟩
/-- words as echoes -/
def itsP : List ByteArray → Option (List It)
  | [] => some []
  | x :: r => match parsQ 5 10 x with
    | none => none
    | some l => (itsP r).map (itOf l :: ·)
theorem itsP_none : ∀ {xs : List ByteArray} {x : ByteArray}, x ∈ xs → parsQ 5 10 x = none → itsP xs = none
  | [], x, h, _ => by cases h
  | y :: r, x, h, hx => by
    simp only [itsP]
    rcases List.mem_cons.1 h with rfl | h
    · rw [hx]
    · rw [itsP_none h hx]
      cases parsQ 5 10 y <;> rfl
theorem itsP_snoc : ∀ {xs : List ByteArray} {x : ByteArray} {l : List Int} {vs : List It}, itsP xs = some vs → parsQ 5 10 x = some l → itsP (xs ++ [x]) = some (vs ++ [itOf l])
  | [], x, l, vs, h, hx => by
    obtain rfl : [] = vs := by simpa [itsP] using h
    simp [itsP, hx]
  | y :: r, x, l, vs, h, hx => by
    simp only [itsP] at h
    cases hy : parsQ 5 10 y with
    | none => rw [hy] at h; cases h
    | some u =>
      rw [hy] at h
      cases hr : itsP r with
      | none => rw [hr] at h; cases h
      | some q =>
        rw [hr] at h
        obtain rfl : itOf u :: q = vs := by simpa using h
        simp only [List.cons_append, itsP, hy]
        rw [itsP_snoc hr hx]
        rfl
theorem itsP_len : ∀ {xs : List ByteArray} {vs : List It}, itsP xs = some vs → vs.length = xs.length
  | [], vs, h => by
    obtain rfl : [] = vs := by simpa [itsP] using h
    rfl
  | y :: r, vs, h => by
    simp only [itsP] at h
    cases hy : parsQ 5 10 y with
    | none => rw [hy] at h; cases h
    | some u =>
      rw [hy] at h
      cases hr : itsP r with
      | none => rw [hr] at h; cases h
      | some q =>
        rw [hr] at h
        obtain rfl : itOf u :: q = vs := by simpa using h
        simp [itsP_len hr]
/-- the error of an echo behind another one -/
def rgB (x : It) : Bool := withinB x.l 0 1000000 && (withinB x.p 1 1000000000 && (withinB x.lo (-2000000000) 2000000000 && withinB x.hi (-2000000000) 2000000000))
def odB (last : Int) (x : It) : Bool := decide (x.lo ≤ x.hi) && decide (last < x.l)
def itE (last : Int) (x : It) : Int := firstE [unl (rgB x) 2, unl (withinB x.t 0 3) 15, unl (odB last x) 9]
def itsE : Int → List It → Int
  | _, [] => 0
  | last, x :: r => if itE last x = 0 then itsE x.l r else itE last x
/-- the echoes of a string, or the error (strings of at most 60000 bytes) -/
def itsQ (s : ByteArray) : List It × Int := if s.toList = [45] then ([], 0) else match itsP (cutB 44 s) with
  | none => ([], 7)
  | some l => if itsE (-1) l = 0 then (l, 0) else ([], itsE (-1) l)
theorem splitSeq0_any (s sep : ByteArray) (w : World) :
    Calls Tryz.prog 77 #[.string s, .string sep, .int .i64 0] w fun e w' => e = .returned (.func (.func 95) #[] #[.pointer (some ⟨w.heap.size + 1, 0, none⟩), .pointer (some ⟨w.heap.size, 0, none⟩), .pointer (some ⟨w.heap.size + 1 + 1, 0, none⟩)]) ∧
      w' = (((w.alloc (.cells #[.string s] 9)).alloc (.cells #[.string sep] 9)).alloc (.cells #[.int .i64 0] 3)) := by
  go_enter Tryz.func77, Tryz.ntmps77
  go_wp2_with (fail)
  go_ret
  exact ⟨rfl, rfl⟩
theorem splitSeq_any (s sep : ByteArray) (w : World) :
    Calls Tryz.prog 49 #[.string s, .string sep] w fun e w' => e = .returned (.func (.func 95) #[] #[.pointer (some ⟨w.heap.size + 1, 0, none⟩), .pointer (some ⟨w.heap.size, 0, none⟩), .pointer (some ⟨w.heap.size + 1 + 1, 0, none⟩)]) ∧
      w' = (((w.alloc (.cells #[.string s] 9)).alloc (.cells #[.string sep] 9)).alloc (.cells #[.int .i64 0] 3)) := by
  go_enter Tryz.func49, Tryz.ntmps49
  go_wp2_with (go_at_call 77; refine (splitSeq0_any s sep _).mono ?_; rintro e w' ⟨rfl, rfl⟩)
  go_ret
  exact ⟨rfl, rfl⟩
end Go.Proofs.YtlnbbioponmcfaaGreatDoor
