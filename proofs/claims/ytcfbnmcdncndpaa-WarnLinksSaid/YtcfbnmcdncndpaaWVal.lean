/-
  Chapter 8: the rules and a list of values checked (openValues).
-/
import Derived.Test.YtcfbnmcdncndpaaWStp
namespace Go.Proofs.Ytcfbnmcdncndpaa
open Go.ChangeShapes Go.WideShapes Go.ChangeAt Go.RowKit
set_option linter.unusedVariables false
set_option linter.unusedSimpArgs false

def isV (x : Int) : Bool := withinB x (-1000000) 1000000
theorem odd1_any (n : Int) (w : World) :
    Calls Try.prog 124 #[.int .i64 n] w fun e w' => e = .returned (.bool (!isV n)) ∧ w = w' := by
  go_enter Try.func124, Try.ntmps124
  go_wp2_with (go_at_call 87; refine (isValue_any _ _).mono ?_; rintro e w' ⟨rfl, rfl⟩)
  go_ret
  exact ⟨rfl, rfl⟩
/-- the first value out of range -/
def oddIdx : List Int → Int → Int
  | [], _ => -1
  | x :: r, k => if isV x = true then oddIdx r (k + 1) else k
theorem oddIdx_bd : ∀ (l : List Int) (k : Int), 0 ≤ k → oddIdx l k = -1 ∨ k ≤ oddIdx l k
  | [], k, _ => .inl rfl
  | x :: r, k, h => by
    unfold oddIdx
    split
    · rcases oddIdx_bd r (k + 1) (by omega) with h1 | h1
      · exact .inl h1
      · right; omega
    · right; omega
theorem oddIdx_neg : ∀ (l : List Int) (k : Int), 0 ≤ k → (oddIdx l k < 0 ↔ ∀ x ∈ l, isV x = true)
  | [], k, _ => by simp [oddIdx]
  | x :: r, k, h => by
    unfold oddIdx
    by_cases hx : isV x = true
    · rw [if_pos hx, oddIdx_neg r (k + 1) (by omega)]
      simp [hx]
    · rw [if_neg hx]
      constructor
      · intro h1; omega
      · intro h1; exact absurd (h1 x (List.mem_cons_self ..)) hx
def oddV (l : List Int) : Bool := decide (0 ≤ oddIdx l 0)
theorem oddV_false {l : List Int} : oddV l = false ↔ ∀ x ∈ l, isV x = true := by
  unfold oddV
  rw [decide_eq_false_iff_not, Int.not_le]
  exact oddIdx_neg l 0 (by omega)
theorem IndexOdd_any (A : Option Addr) (l : List Int) (cap : Nat) (w : World) (hl : l.length ≤ 1000000) (hA : IntsAt w A l) :
    Calls Try.prog 116 #[.slice A l.length cap, .func (.func 124) #[] #[]] w fun e w' => e = .returned (.int .i64 (oddIdx l 0)) ∧ w = w' := by
  go_enter Try.func116, Try.ntmps116
  go_wp2
  go_loop [8] (fun i => ∃ k : Nat, k ≤ l.length ∧ i = .int .i64 k ∧ oddIdx l 0 = oddIdx (l.drop k) k) (fun i => l.length - (intOf i).toNat)
  case atStart => exact ⟨0, Nat.zero_le _, rfl, rfl⟩
  case round =>
    obtain ⟨k, hk, rfl, he⟩ := hrel
    have H := Lib.hid he
    clear he
    by_cases hlt : k < l.length
    · have hd : l.drop k = l[k] :: l.drop (k + 1) := List.drop_eq_getElem_cons hlt
      rw [hd] at H
      clear hd
      obtain ⟨bb, off, rfl, hb, h1⟩ := IntsAt.at_ hA hlt
      generalize l[k] = x at *
      cases hx : isV x
      · have HX := Lib.hid hx
        clear hx
        go_wp2_with (go_at_call 124; refine (odd1_any x _).mono ?_; rintro e w' ⟨rfl, rfl⟩; rw [HX.out])
        go_ret
        exact ⟨ret_int (by rw [H.out]; simp [oddIdx, HX.out]), rfl⟩
      · have HX := Lib.hid hx
        clear hx
        go_wp2_with (go_at_call 124; refine (odd1_any x _).mono ?_; rintro e w' ⟨rfl, rfl⟩; rw [HX.out])
        go_round
        case rel => exact ⟨k + 1, by omega, by go_num, by rw [H.out, oddIdx, if_pos HX.out]; rfl⟩
        case measure => simp [intOf]; omega
    · have e : l.drop k = [] := List.drop_eq_nil_of_le (by omega)
      rw [e] at H
      clear e
      go_wp2
      go_ret
      exact ⟨ret_int (by rw [H.out]; rfl), rfl⟩
theorem ContainsOdd_any (A : Option Addr) (l : List Int) (cap : Nat) (w : World) (hl : l.length ≤ 1000000) (hA : IntsAt w A l) :
    Calls Try.prog 123 #[.slice A l.length cap, .func (.func 124) #[] #[]] w fun e w' => e = .returned (.bool (oddV l)) ∧ w = w' := by
  have ho : oddV l = decide (0 ≤ oddIdx l 0) := rfl
  rw [ho]
  clear ho
  go_enter Try.func123, Try.ntmps123
  go_wp2_with (go_at_call 116; refine (IndexOdd_any A l cap _ hl hA).mono ?_; rintro e w' ⟨rfl, rfl⟩)
  generalize oddIdx l 0 = k at *
  by_cases hk : 0 ≤ k
  · go_wp2
    go_ret
    exact ⟨by simp [hk], rfl⟩
  · go_wp2
    go_ret
    exact ⟨by simp [hk], rfl⟩
theorem set4 {w : World} {b : Nat} {a0 a1 a2 a3 v0 v1 v2 v3 : Value} (h0 : w.cell? ⟨b, 0, none⟩ = some a0) (h1 : w.cell? ⟨b, 1, none⟩ = some a1) (h2 : w.cell? ⟨b, 2, none⟩ = some a2) (h3 : w.cell? ⟨b, 3, none⟩ = some a3) :
    ((((w.setCell ⟨b, 0, none⟩ v0).setCell ⟨b, 1, none⟩ v1).setCell ⟨b, 2, none⟩ v2).setCell ⟨b, 3, none⟩ v3).cell? ⟨b, 0, none⟩ = some v0 ∧ ((((w.setCell ⟨b, 0, none⟩ v0).setCell ⟨b, 1, none⟩ v1).setCell ⟨b, 2, none⟩ v2).setCell ⟨b, 3, none⟩ v3).cell? ⟨b, 1, none⟩ = some v1 ∧
    ((((w.setCell ⟨b, 0, none⟩ v0).setCell ⟨b, 1, none⟩ v1).setCell ⟨b, 2, none⟩ v2).setCell ⟨b, 3, none⟩ v3).cell? ⟨b, 2, none⟩ = some v2 ∧ ((((w.setCell ⟨b, 0, none⟩ v0).setCell ⟨b, 1, none⟩ v1).setCell ⟨b, 2, none⟩ v2).setCell ⟨b, 3, none⟩ v3).cell? ⟨b, 3, none⟩ = some v3 :=
  let ⟨x, y, z⟩ := set3 (v0 := v0) (v1 := v1) (v2 := v2) h0 h1 h2
  ⟨cell_next (by decide) x, cell_next (by decide) y, cell_next (by decide) z, cell_same (cell_next (by decide) (cell_next (by decide) (cell_next (by decide) h3)))⟩
/-- the code of the rules and the values -/
def valE (s : ByteArray) (u d : List Int) (hold : Int) (vs : List Int) : Int := firstE [chkRE s u d hold, unl (decide (vs.length ≤ 500)) 8, unl (!oddV vs) 2]
set_option maxHeartbeats 2000000 in
theorem openValues_any (s : ByteArray) (A : Option Addr) (u : List Int) (ca : Nat) (B : Option Addr) (d : List Int) (cb : Nat) (hold : Int) (V : Option Addr) (vs : List Int) (cv : Nat) (w : World) (hs : s.size ≤ 1000) (hu : u.length ≤ 100) (hd : d.length ≤ 100) (hv : vs.length ≤ 1000000)
    (hA : IntsAt w A u) (hB : IntsAt w B d) (hV : IntsAt w V vs) :
    Calls Try.prog 97 #[.agg #[.string s, .slice A u.length ca, .slice B d.length cb, .int .i64 hold], .slice V vs.length cv] w fun e w' => e = .returned (.tuple #[.agg #[.string s, .slice A u.length ca, .slice B d.length cb, .int .i64 hold], .int .i64 (valE s u d hold vs)]) ∧ Below w.heap.size w w' := by
  go_enter Try.func97, Try.ntmps97
  go_wp2_with (fail)
  refine (open_any s A u ca B d cb hold _ hs hu hd (hA.below (by repeat (first | assumption | exact Below.refl _ _ | refine Below.drew ?_ | (refine below_alloc _ ?_ ?_; focus (first | omega | (simp; done) | (simp; omega) | (simp at *; omega))) | (refine below_set _ ?_ ?_; focus (first | omega | (simp; done) | (simp; omega) | (simp at *; omega))) | refine below_drewN ?_ _ | (refine below_call (by assumption) ?_ ?_; focus (first | omega | (simp; done) | (simp; omega) | (simp at *; omega))) | (refine below_call' (by assumption) ?_ ?_; focus (first | omega | (simp; done) | (simp; omega) | (simp at *; omega)))))) (hB.below (by repeat (first | assumption | exact Below.refl _ _ | refine Below.drew ?_ | (refine below_alloc _ ?_ ?_; focus (first | omega | (simp; done) | (simp; omega) | (simp at *; omega))) | (refine below_set _ ?_ ?_; focus (first | omega | (simp; done) | (simp; omega) | (simp at *; omega))) | refine below_drewN ?_ _ | (refine below_call (by assumption) ?_ ?_; focus (first | omega | (simp; done) | (simp; omega) | (simp at *; omega))) | (refine below_call' (by assumption) ?_ ?_; focus (first | omega | (simp; done) | (simp; omega) | (simp at *; omega))))))).mono ?_
  rintro e w1 ⟨rfl, hb1⟩
  have hz := hb1.size
  simp at hz
  have z0 : w.heap.size < w1.heap.size := by omega
  have z1 : w.heap.size + 1 < w1.heap.size := by omega
  have hbw : Below w.heap.size w w1 := (by repeat (first | assumption | exact Below.refl _ _ | refine Below.drew ?_ | (refine below_alloc _ ?_ ?_; focus (first | omega | (simp; done) | (simp; omega) | (simp at *; omega))) | (refine below_set _ ?_ ?_; focus (first | omega | (simp; done) | (simp; omega) | (simp at *; omega))) | refine below_drewN ?_ _ | (refine below_call (by assumption) ?_ ?_; focus (first | omega | (simp; done) | (simp; omega) | (simp at *; omega))) | (refine below_call' (by assumption) ?_ ?_; focus (first | omega | (simp; done) | (simp; omega) | (simp at *; omega)))))
  have y0 : w1.cell? ⟨w.heap.size + 1, 0, none⟩ = some (.string ⟨#[]⟩) := cell_below' hb1 (cell_new (by simp) rfl)
  have f0 : w1.frozen? ⟨w.heap.size + 1, 0, none⟩ = false := frozen_below hb1 (by simp) (frozen_new (by simp))
  have y1 : w1.cell? ⟨w.heap.size + 1, 1, none⟩ = some (.slice none 0 0) := cell_below' hb1 (cell_new (by simp) rfl)
  have f1 : w1.frozen? ⟨w.heap.size + 1, 1, none⟩ = false := frozen_below hb1 (by simp) (frozen_new (by simp))
  have y2 : w1.cell? ⟨w.heap.size + 1, 2, none⟩ = some (.slice none 0 0) := cell_below' hb1 (cell_new (by simp) rfl)
  have f2 : w1.frozen? ⟨w.heap.size + 1, 2, none⟩ = false := frozen_below hb1 (by simp) (frozen_new (by simp))
  have y3 : w1.cell? ⟨w.heap.size + 1, 3, none⟩ = some (.int .i64 0) := cell_below' hb1 (cell_new (by simp) rfl)
  have f3 : w1.frozen? ⟨w.heap.size + 1, 3, none⟩ = false := frozen_below hb1 (by simp) (frozen_new (by simp))
  have hE : valE s u d hold vs = firstE [chkRE s u d hold, unl (decide (vs.length ≤ 500)) 8, unl (!oddV vs) 2] := rfl
  have HE := Lib.hid hE
  clear hE hb1 hz
  generalize chkRE s u d hold = E at *
  have hV1 := hV.below hbw
  go_wp2_with (go_at_call 123; refine (ContainsOdd_any V vs cv _ hv (hV1.below (by repeat (first | assumption | exact Below.refl _ _ | refine Below.drew ?_ | (refine below_alloc _ ?_ ?_; focus (first | omega | (simp; done) | (simp; omega) | (simp at *; omega))) | (refine below_set _ ?_ ?_; focus (first | omega | (simp; done) | (simp; omega) | (simp at *; omega))) | refine below_drewN ?_ _ | (refine below_call (by assumption) ?_ ?_; focus (first | omega | (simp; done) | (simp; omega) | (simp at *; omega))) | (refine below_call' (by assumption) ?_ ?_; focus (first | omega | (simp; done) | (simp; omega) | (simp at *; omega))))))).mono ?_; rintro e w' ⟨rfl, rfl⟩)
  generalize oddV vs = odd at *
  have hlv : decide ((vs.length : Int) ≤ 500) = decide (vs.length ≤ 500) := decide_eq_decide.2 (by omega)
  have hba : Below w.heap.size w (w1.alloc (Obj.cells #[Value.string s, Value.slice A u.length ca, Value.slice B d.length cb, Value.int IntKind.i64 hold] 143)) := (by repeat (first | assumption | exact Below.refl _ _ | refine Below.drew ?_ | (refine below_alloc _ ?_ ?_; focus (first | omega | (simp; done) | (simp; omega) | (simp at *; omega))) | (refine below_set _ ?_ ?_; focus (first | omega | (simp; done) | (simp; omega) | (simp at *; omega))) | refine below_drewN ?_ _ | (refine below_call (by assumption) ?_ ?_; focus (first | omega | (simp; done) | (simp; omega) | (simp at *; omega))) | (refine below_call' (by assumption) ?_ ?_; focus (first | omega | (simp; done) | (simp; omega) | (simp at *; omega)))))
  have x0 : (w1.alloc (Obj.cells #[Value.string s, Value.slice A u.length ca, Value.slice B d.length cb, Value.int IntKind.i64 hold] 143)).cell? ⟨w1.heap.size, 0, none⟩ = some (.string s) := (by repeat (first | assumption | (refine cell_new ?_ rfl; focus (simp; done)) | refine cell_drew ?_ | refine cell_alloc _ ?_ | refine cell_drewN _ ?_ | (refine cell_far ?_ ?_; focus (first | omega | (simp; omega) | (simp; done))) | refine cell_below' (by assumption) ?_))
  have x1 : (w1.alloc (Obj.cells #[Value.string s, Value.slice A u.length ca, Value.slice B d.length cb, Value.int IntKind.i64 hold] 143)).cell? ⟨w1.heap.size, 1, none⟩ = some (.slice A u.length ca) := (by repeat (first | assumption | (refine cell_new ?_ rfl; focus (simp; done)) | refine cell_drew ?_ | refine cell_alloc _ ?_ | refine cell_drewN _ ?_ | (refine cell_far ?_ ?_; focus (first | omega | (simp; omega) | (simp; done))) | refine cell_below' (by assumption) ?_))
  have x2 : (w1.alloc (Obj.cells #[Value.string s, Value.slice A u.length ca, Value.slice B d.length cb, Value.int IntKind.i64 hold] 143)).cell? ⟨w1.heap.size, 2, none⟩ = some (.slice B d.length cb) := (by repeat (first | assumption | (refine cell_new ?_ rfl; focus (simp; done)) | refine cell_drew ?_ | refine cell_alloc _ ?_ | refine cell_drewN _ ?_ | (refine cell_far ?_ ?_; focus (first | omega | (simp; omega) | (simp; done))) | refine cell_below' (by assumption) ?_))
  have x3 : (w1.alloc (Obj.cells #[Value.string s, Value.slice A u.length ca, Value.slice B d.length cb, Value.int IntKind.i64 hold] 143)).cell? ⟨w1.heap.size, 3, none⟩ = some (.int .i64 hold) := (by repeat (first | assumption | (refine cell_new ?_ rfl; focus (simp; done)) | refine cell_drew ?_ | refine cell_alloc _ ?_ | refine cell_drewN _ ?_ | (refine cell_far ?_ ?_; focus (first | omega | (simp; omega) | (simp; done))) | refine cell_below' (by assumption) ?_))
  replace y0 := cell_alloc (Obj.cells #[Value.string s, Value.slice A u.length ca, Value.slice B d.length cb, Value.int IntKind.i64 hold] 143) y0
  replace y1 := cell_alloc (Obj.cells #[Value.string s, Value.slice A u.length ca, Value.slice B d.length cb, Value.int IntKind.i64 hold] 143) y1
  replace y2 := cell_alloc (Obj.cells #[Value.string s, Value.slice A u.length ca, Value.slice B d.length cb, Value.int IntKind.i64 hold] 143) y2
  replace y3 := cell_alloc (Obj.cells #[Value.string s, Value.slice A u.length ca, Value.slice B d.length cb, Value.int IntKind.i64 hold] 143) y3
  replace f0 := frozen_alloc (Obj.cells #[Value.string s, Value.slice A u.length ca, Value.slice B d.length cb, Value.int IntKind.i64 hold] 143) z1 f0
  replace f1 := frozen_alloc (Obj.cells #[Value.string s, Value.slice A u.length ca, Value.slice B d.length cb, Value.int IntKind.i64 hold] 143) z1 f1
  replace f2 := frozen_alloc (Obj.cells #[Value.string s, Value.slice A u.length ca, Value.slice B d.length cb, Value.int IntKind.i64 hold] 143) z1 f2
  replace f3 := frozen_alloc (Obj.cells #[Value.string s, Value.slice A u.length ca, Value.slice B d.length cb, Value.int IntKind.i64 hold] 143) z1 f3
  have zw : w1.heap.size < (w1.alloc (Obj.cells #[Value.string s, Value.slice A u.length ca, Value.slice B d.length cb, Value.int IntKind.i64 hold] 143)).heap.size := by simp
  have zv : w.heap.size + 1 < (w1.alloc (Obj.cells #[Value.string s, Value.slice A u.length ca, Value.slice B d.length cb, Value.int IntKind.i64 hold] 143)).heap.size := by simp; omega
  generalize (w1.alloc (Obj.cells #[Value.string s, Value.slice A u.length ca, Value.slice B d.length cb, Value.int IntKind.i64 hold] 143)) = wa at *
  have hne : w.heap.size + 1 ≠ w1.heap.size := by omega
  generalize w1.heap.size = nb at *
  have hle : w.heap.size ≤ w.heap.size + 1 := by omega
  generalize w.heap.size + 1 = na at *
  go_region_law (first | (go_simp; go_at_call 86; refine (unless_any _ _ _).mono ?_; rintro e w' ⟨rfl, rfl⟩) | (go_simp; go_at_call 84; (refine (first3 E (unl (decide (vs.length ≤ 500)) 8) (unl (!odd) 2) _ _ ?_ ?_ ?_ ?_).mono ?_); (focus (simp; done)); (focus (exact (by repeat (first | assumption | (refine cell_new ?_ rfl; focus (simp; done)) | refine cell_drew ?_ | refine cell_alloc _ ?_ | refine cell_drewN _ ?_ | (refine cell_far ?_ ?_; focus (first | omega | (simp; omega) | (simp; done))) | refine cell_below' (by assumption) ?_)))); (focus (exact (by repeat (first | assumption | (refine cell_new ?_ rfl; focus (simp; done)) | refine cell_drew ?_ | refine cell_alloc _ ?_ | refine cell_drewN _ ?_ | (refine cell_far ?_ ?_; focus (first | omega | (simp; omega) | (simp; done))) | refine cell_below' (by assumption) ?_)))); (focus (exact (by repeat (first | assumption | (refine cell_new ?_ rfl; focus (simp; done)) | refine cell_drew ?_ | refine cell_alloc _ ?_ | refine cell_drewN _ ?_ | (refine cell_far ?_ ?_; focus (first | omega | (simp; omega) | (simp; done))) | refine cell_below' (by assumption) ?_)))); rintro e w' ⟨rfl, rfl⟩))
  all_goals
    have hF : valE s u d hold vs = firstE [E, unl (decide (vs.length ≤ 500)) 8, unl (!odd) 2] := HE.out
    generalize firstE [E, unl (decide (vs.length ≤ 500)) 8, unl (!odd) 2] = FF at *
    clear HE
    have HE := Lib.hid hF
    clear hF
    obtain ⟨s0, s1, s2, s3⟩ := set4 (v0 := .string s) (v1 := .slice A u.length ca) (v2 := .slice B d.length cb) (v3 := .int .i64 hold) y0 y1 y2 y3
    have hbf : Below w.heap.size w (World.alloc ((((wa.setCell ⟨na, 0, none⟩ (.string s)).setCell ⟨na, 1, none⟩ (.slice A u.length ca)).setCell ⟨na, 2, none⟩ (.slice B d.length cb)).setCell ⟨na, 3, none⟩ (.int .i64 hold)) (Obj.cells #[Value.int IntKind.i64 E, Value.int IntKind.i64 (unl (decide (vs.length ≤ 500)) 8), Value.int IntKind.i64 (unl (!odd) 2)] 27)).drew := Below.drew (below_alloc _ (Nat.le_refl _) (below_set _ hle (below_set _ hle (below_set _ hle (below_set _ hle hba)))))
    replace s0 : World.cell? (World.alloc ((((wa.setCell ⟨na, 0, none⟩ (.string s)).setCell ⟨na, 1, none⟩ (.slice A u.length ca)).setCell ⟨na, 2, none⟩ (.slice B d.length cb)).setCell ⟨na, 3, none⟩ (.int .i64 hold)) (Obj.cells #[Value.int IntKind.i64 E, Value.int IntKind.i64 (unl (decide (vs.length ≤ 500)) 8), Value.int IntKind.i64 (unl (!odd) 2)] 27)).drew ⟨na, 0, none⟩ = _ := cell_drew (cell_alloc _ s0)
    replace s1 : World.cell? (World.alloc ((((wa.setCell ⟨na, 0, none⟩ (.string s)).setCell ⟨na, 1, none⟩ (.slice A u.length ca)).setCell ⟨na, 2, none⟩ (.slice B d.length cb)).setCell ⟨na, 3, none⟩ (.int .i64 hold)) (Obj.cells #[Value.int IntKind.i64 E, Value.int IntKind.i64 (unl (decide (vs.length ≤ 500)) 8), Value.int IntKind.i64 (unl (!odd) 2)] 27)).drew ⟨na, 1, none⟩ = _ := cell_drew (cell_alloc _ s1)
    replace s2 : World.cell? (World.alloc ((((wa.setCell ⟨na, 0, none⟩ (.string s)).setCell ⟨na, 1, none⟩ (.slice A u.length ca)).setCell ⟨na, 2, none⟩ (.slice B d.length cb)).setCell ⟨na, 3, none⟩ (.int .i64 hold)) (Obj.cells #[Value.int IntKind.i64 E, Value.int IntKind.i64 (unl (decide (vs.length ≤ 500)) 8), Value.int IntKind.i64 (unl (!odd) 2)] 27)).drew ⟨na, 2, none⟩ = _ := cell_drew (cell_alloc _ s2)
    replace s3 : World.cell? (World.alloc ((((wa.setCell ⟨na, 0, none⟩ (.string s)).setCell ⟨na, 1, none⟩ (.slice A u.length ca)).setCell ⟨na, 2, none⟩ (.slice B d.length cb)).setCell ⟨na, 3, none⟩ (.int .i64 hold)) (Obj.cells #[Value.int IntKind.i64 E, Value.int IntKind.i64 (unl (decide (vs.length ≤ 500)) 8), Value.int IntKind.i64 (unl (!odd) 2)] 27)).drew ⟨na, 3, none⟩ = _ := cell_drew (cell_alloc _ s3)
    generalize (World.alloc ((((wa.setCell ⟨na, 0, none⟩ (.string s)).setCell ⟨na, 1, none⟩ (.slice A u.length ca)).setCell ⟨na, 2, none⟩ (.slice B d.length cb)).setCell ⟨na, 3, none⟩ (.int .i64 hold)) (Obj.cells #[Value.int IntKind.i64 E, Value.int IntKind.i64 (unl (decide (vs.length ≤ 500)) 8), Value.int IntKind.i64 (unl (!odd) 2)] 27)).drew = W9 at *
    go_wp2_with (fail)
    refine bodyPost_ret (v := .tuple #[.agg #[.string s, .slice A u.length ca, .slice B d.length cb, .int .i64 hold], .int .i64 FF]) (by simp [results, Try.results97, go_sem, s0, s1, s2, s3]) rfl ?_
    exact ⟨by rw [HE.out], hbf⟩
end Go.Proofs.Ytcfbnmcdncndpaa
