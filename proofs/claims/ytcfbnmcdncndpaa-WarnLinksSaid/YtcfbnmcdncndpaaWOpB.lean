/-
  Chapter 8: OpeningsBound; the reference's LevelFrom, Openings.
-/
import Derived.Test.YtcfbnmcdncndpaaWCpR
namespace Go.Proofs.Ytcfbnmcdncndpaa
open Go.ChangeShapes Go.WideShapes Go.ChangeAt Go.RowKit
set_option linter.unusedVariables false
set_option linter.unusedSimpArgs false

theorem FloorP_any (n b : Int) (w : World) (hb : 0 < b) (hb2 : b ≤ 100000000) (h1 : 0 ≤ n) (h2 : n ≤ 1000000000) :
    Calls Try.prog 93 #[.int .i64 n, .int .i64 b] w fun e w' => e = .returned (.int .i64 (n / b)) ∧ w = w' := by
  have hq : n.tdiv b = n / b := Int.tdiv_eq_ediv_of_nonneg h1
  have h3 : 0 ≤ n.tdiv b := by rw [hq]; exact Int.ediv_nonneg h1 (by omega)
  have h4 : n.tdiv b ≤ 1000000000 := by rw [hq]; exact Int.le_trans (Int.ediv_le_self b h1) h2
  have h5 : 0 ≤ n % b := Int.emod_nonneg n (by omega)
  have hd : decide (n % b < 0) = false := by simp; omega
  have H := Lib.hid hq
  clear hq
  go_enter Try.func93, Try.ntmps93
  go_wp2
  go_ret
  exact ⟨ret_int H.out, rfl⟩
def oB (u d : List Int) (n : Int) : Int := 1 + n / (2 * (gt u 0 - gt d 0 + 1))
def opE (s : ByteArray) (u d : List Int) (hold n : Int) : Int := firstE [chkRE s u d hold, unl (withinB n 0 1000000000) 2]
set_option maxRecDepth 100000 in
set_option maxHeartbeats 4000000 in
theorem ROpenings_any (nm : ByteArray) (A : Option Addr) (u : List Int) (ca : Nat) (B : Option Addr) (d : List Int) (cb : Nat) (hold n : Int) (w : World) (ho : OkR nm u d hold) (h1 : 0 ≤ n) (h2 : n ≤ 1000000000) (hA : IntsAt w A u) (hB : IntsAt w B d) :
    Calls Try.prog 23 #[.agg #[.string nm, .slice A u.length ca, .slice B d.length cb, .int .i64 hold], .int .i64 n] w fun e w' => e = .returned (.int .i64 (oB u d n)) ∧ Below w.heap.size w w' := by
  have hu0 := ho.ur 0 ho.n0
  have hd0 := ho.dr 0 ho.n0
  have hlt := ho.lt 0 ho.n0
  have hn1 : 0 < u.length := ho.n0
  have hn2 : 0 < d.length := by have := ho.dl; omega
  obtain ⟨b1, o1, rfl, hb1, c1⟩ := IntsAt.at_ hA hn1
  obtain ⟨b2, o2, rfl, hb2, c2⟩ := IntsAt.at_ hB hn2
  rw [← gt_eq hn1] at c1
  rw [← gt_eq hn2] at c2
  rw [Nat.add_zero] at c1 c2
  have hq : oB u d n = 1 + n / (2 * (gt u 0 - gt d 0 + 1)) := rfl
  rw [hq]
  clear hq hA hB
  generalize gt u 0 = x at *
  generalize gt d 0 = y at *
  have h3 : 0 ≤ n / (2 * (x - y + 1)) := Int.ediv_nonneg h1 (by omega)
  have h4 : n / (2 * (x - y + 1)) ≤ 1000000000 := Int.le_trans (Int.ediv_le_self _ h1) h2
  have hn1' : (0 : Int) < (u.length : Int) := by omega
  have hn2' : (0 : Int) < (d.length : Int) := by omega
  obtain ⟨hu1, hu2⟩ := hu0
  obtain ⟨hd1, hd2⟩ := hd0
  go_enter Try.func23, Try.ntmps23
  go_wp2_with (fail)
  (refine region_extx 14 (by kernel_rfl) (by kernel_rfl) fun hx => ?_; simp only [List.take_succ_cons, List.take_zero, List.drop_succ_cons, List.drop_zero]; (repeat (any_goals (first | go_big_quiet_step (((go_at_call 93; exact ext_same (FloorP_any n _ _ (by omega) (by omega) h1 h2)))) | quiet_step (((go_at_call 93; exact ext_same (FloorP_any n _ _ (by omega) (by omega) h1 h2))))))))
  (refine wpQuiet_nil ?_; clear hx; intro u; have hbw2 := ext_bel _ u; have hxw2 := ext_cell _ u; generalize ext _ u = w2 at *; clear u; have hsw2 := hbw2.size; (try simp at hsw2))
  go_wp2_with (fail)
  go_ret
  exact ⟨rfl, (by repeat (first | assumption | exact Below.refl _ _ | refine Below.drew ?_ | (refine below_alloc _ ?_ ?_; focus (first | omega | (simp; done) | (simp; omega) | (simp at *; omega))) | (refine below_set _ ?_ ?_; focus (first | omega | (simp; done) | (simp; omega) | (simp at *; omega))) | refine below_drewN ?_ _ | (refine below_call (by assumption) ?_ ?_; focus (first | omega | (simp; done) | (simp; omega) | (simp at *; omega))) | (refine below_call' (by assumption) ?_ ?_; focus (first | omega | (simp; done) | (simp; omega) | (simp at *; omega)))))⟩
theorem opE_ok {s : ByteArray} {u d : List Int} {hold n : Int} (h : opE s u d hold n = 0) : chkRE s u d hold = 0 ∧ 0 ≤ n ∧ n ≤ 1000000000 := by
  unfold opE at h
  by_cases h1 : chkRE s u d hold = 0
  · rw [h1, firstE_consz, unl_zero (by decide), withinB_true] at h
    exact ⟨h1, h⟩
  · rw [firstE_cons0 h1] at h; exact absurd h h1
set_option maxRecDepth 100000 in
set_option maxHeartbeats 4000000 in
theorem OpeningsBound_any (nm : ByteArray) (A : Option Addr) (u : List Int) (ca : Nat) (B : Option Addr) (d : List Int) (cb : Nat) (hold n : Int) (w : World) (hs : nm.size ≤ 1000) (hu : u.length ≤ 100) (hd : d.length ≤ 100) (hA : IntsAt w A u) (hB : IntsAt w B d) :
    Calls Try.prog 20 #[.agg #[.string nm, .slice A u.length ca, .slice B d.length cb, .int .i64 hold], .int .i64 n] w fun e w' => e = .returned (.tuple #[.int .i64 (if opE nm u d hold n = 0 then oB u d n else 0), .int .i64 (opE nm u d hold n)]) ∧ Below w.heap.size w w' := by
  have hq : opE nm u d hold n = firstE [chkRE nm u d hold, unl (withinB n 0 1000000000) 2] := rfl
  have hop := open_any nm A u ca B d cb hold
  have HOP := Lib.hid hop
  clear hop
  by_cases h0 : opE nm u d hold n = 0
  · obtain ⟨hc, h1, h2⟩ := opE_ok h0
    rw [if_pos h0, h0]
    rw [h0] at hq
    have hcE := hc
    have ho := okR_of hc
    have hu0 := ho.ur 0 ho.n0
    have hd0 := ho.dr 0 ho.n0
    have hlt := ho.lt 0 ho.n0
    have hn1 : 0 < u.length := ho.n0
    have hn2 : 0 < d.length := by have := ho.dl; omega
    have HQ := Lib.hid hq
    clear hq h0 ho hc
    go_enter Try.func20, Try.ntmps20
    go_wp2_with (fail)
    refine (HOP.out _ hs hu hd (hA.below (by repeat (first | assumption | exact Below.refl _ _ | refine Below.drew ?_ | (refine below_alloc _ ?_ ?_; focus (first | omega | (simp; done) | (simp; omega) | (simp at *; omega))) | (refine below_set _ ?_ ?_; focus (first | omega | (simp; done) | (simp; omega) | (simp at *; omega))) | refine below_drewN ?_ _ | (refine below_call (by assumption) ?_ ?_; focus (first | omega | (simp; done) | (simp; omega) | (simp at *; omega))) | (refine below_call' (by assumption) ?_ ?_; focus (first | omega | (simp; done) | (simp; omega) | (simp at *; omega)))))) (hB.below (by repeat (first | assumption | exact Below.refl _ _ | refine Below.drew ?_ | (refine below_alloc _ ?_ ?_; focus (first | omega | (simp; done) | (simp; omega) | (simp at *; omega))) | (refine below_set _ ?_ ?_; focus (first | omega | (simp; done) | (simp; omega) | (simp at *; omega))) | refine below_drewN ?_ _ | (refine below_call (by assumption) ?_ ?_; focus (first | omega | (simp; done) | (simp; omega) | (simp at *; omega))) | (refine below_call' (by assumption) ?_ ?_; focus (first | omega | (simp; done) | (simp; omega) | (simp at *; omega))))))).mono ?_
    rintro e w1 ⟨rfl, hb1⟩
    have hz := hb1.size
    simp at hz
    have hbw : Below w.heap.size w w1 := (by repeat (first | assumption | exact Below.refl _ _ | refine Below.drew ?_ | (refine below_alloc _ ?_ ?_; focus (first | omega | (simp; done) | (simp; omega) | (simp at *; omega))) | (refine below_set _ ?_ ?_; focus (first | omega | (simp; done) | (simp; omega) | (simp at *; omega))) | refine below_drewN ?_ _ | (refine below_call (by assumption) ?_ ?_; focus (first | omega | (simp; done) | (simp; omega) | (simp at *; omega))) | (refine below_call' (by assumption) ?_ ?_; focus (first | omega | (simp; done) | (simp; omega) | (simp at *; omega)))))
    have hA1 := hA.below hbw
    have hB1 := hB.below hbw
    clear hb1 hA hB
    rw [hcE] at HQ ⊢
    clear hcE HOP
    go_wp2_with (first | (go_at_call 88; refine (within_any _ _ _ _).mono ?_; rintro e w' ⟨rfl, rfl⟩) | (go_at_call 86; refine (unless_any _ _ _).mono ?_; rintro e w' ⟨rfl, rfl⟩) | (go_at_call 84; refine (first2 _ _ _ _ (by simp) (cell_new (by simp) rfl) (cell_new (by simp) rfl)).mono ?_; rintro e w' ⟨rfl, rfl⟩; rw [← HQ.out]))
    obtain ⟨b1, o1, rfl, hb1, c1⟩ := IntsAt.at_ hA1 hn1
    obtain ⟨b2, o2, rfl, hb2, c2⟩ := IntsAt.at_ hB1 hn2
    rw [← gt_eq hn1, Nat.add_zero] at c1
    rw [← gt_eq hn2, Nat.add_zero] at c2
    have hq2 : oB u d n = 1 + n / (2 * (gt u 0 - gt d 0 + 1)) := rfl
    have HQ2 := Lib.hid hq2
    clear hq2 hA1 hB1 HQ
    generalize gt u 0 = x at *
    generalize gt d 0 = y at *
    have h3 : 0 ≤ n / (2 * (x - y + 1)) := Int.ediv_nonneg h1 (by omega)
    have h4 : n / (2 * (x - y + 1)) ≤ 1000000000 := Int.le_trans (Int.ediv_le_self _ h1) h2
    have hqt : n.tdiv (2 * (x - y + 1)) = n / (2 * (x - y + 1)) := Int.tdiv_eq_ediv_of_nonneg h1
    have h5 : 0 ≤ n.tdiv (2 * (x - y + 1)) := by rw [hqt]; exact h3
    have h6 : n.tdiv (2 * (x - y + 1)) ≤ 1000000000 := by rw [hqt]; exact h4
    have HQT := Lib.hid hqt
    clear hqt
    have hn1' : (0 : Int) < (u.length : Int) := by omega
    have hn2' : (0 : Int) < (d.length : Int) := by omega
    obtain ⟨hu1, hu2⟩ := hu0
    obtain ⟨hd1, hd2⟩ := hd0
    replace c1 : World.cell? ((w1.alloc (Obj.cells #[Value.string nm, Value.slice (some { block := b1, off := o1 }) u.length ca, Value.slice (some { block := b2, off := o2 }) d.length cb, Value.int IntKind.i64 hold] 143)).alloc (Obj.cells #[Value.int IntKind.i64 0, Value.int IntKind.i64 (unl (withinB n 0 1000000000) 2)] 27)) ⟨b1, o1, none⟩ = some (.int .i64 x) := cell_alloc _ (cell_alloc _ c1)
    replace c2 : World.cell? ((w1.alloc (Obj.cells #[Value.string nm, Value.slice (some { block := b1, off := o1 }) u.length ca, Value.slice (some { block := b2, off := o2 }) d.length cb, Value.int IntKind.i64 hold] 143)).alloc (Obj.cells #[Value.int IntKind.i64 0, Value.int IntKind.i64 (unl (withinB n 0 1000000000) 2)] 27)) ⟨b2, o2, none⟩ = some (.int .i64 y) := cell_alloc _ (cell_alloc _ c2)
    have p1 : World.cell? ((w1.alloc (Obj.cells #[Value.string nm, Value.slice (some { block := b1, off := o1 }) u.length ca, Value.slice (some { block := b2, off := o2 }) d.length cb, Value.int IntKind.i64 hold] 143)).alloc (Obj.cells #[Value.int IntKind.i64 0, Value.int IntKind.i64 (unl (withinB n 0 1000000000) 2)] 27)) ⟨w1.heap.size, 1, none⟩ = some (.slice (some ⟨b1, o1, none⟩) u.length ca) := (by repeat (first | assumption | (refine cell_new ?_ rfl; focus (simp; done)) | refine cell_drew ?_ | refine cell_alloc _ ?_ | refine cell_drewN _ ?_ | (refine cell_far ?_ ?_; focus (first | omega | (simp; omega) | (simp; done))) | refine cell_below' (by assumption) ?_))
    have p2 : World.cell? ((w1.alloc (Obj.cells #[Value.string nm, Value.slice (some { block := b1, off := o1 }) u.length ca, Value.slice (some { block := b2, off := o2 }) d.length cb, Value.int IntKind.i64 hold] 143)).alloc (Obj.cells #[Value.int IntKind.i64 0, Value.int IntKind.i64 (unl (withinB n 0 1000000000) 2)] 27)) ⟨w1.heap.size, 2, none⟩ = some (.slice (some ⟨b2, o2, none⟩) d.length cb) := (by repeat (first | assumption | (refine cell_new ?_ rfl; focus (simp; done)) | refine cell_drew ?_ | refine cell_alloc _ ?_ | refine cell_drewN _ ?_ | (refine cell_far ?_ ?_; focus (first | omega | (simp; omega) | (simp; done))) | refine cell_below' (by assumption) ?_))
    replace hbw : Below w.heap.size w ((w1.alloc (Obj.cells #[Value.string nm, Value.slice (some { block := b1, off := o1 }) u.length ca, Value.slice (some { block := b2, off := o2 }) d.length cb, Value.int IntKind.i64 hold] 143)).alloc (Obj.cells #[Value.int IntKind.i64 0, Value.int IntKind.i64 (unl (withinB n 0 1000000000) 2)] 27)) := (by repeat (first | assumption | exact Below.refl _ _ | refine Below.drew ?_ | (refine below_alloc _ ?_ ?_; focus (first | omega | (simp; done) | (simp; omega) | (simp at *; omega))) | (refine below_set _ ?_ ?_; focus (first | omega | (simp; done) | (simp; omega) | (simp at *; omega))) | refine below_drewN ?_ _ | (refine below_call (by assumption) ?_ ?_; focus (first | omega | (simp; done) | (simp; omega) | (simp at *; omega))) | (refine below_call' (by assumption) ?_ ?_; focus (first | omega | (simp; done) | (simp; omega) | (simp at *; omega)))))
    have hzv : w1.heap.size < ((w1.alloc (Obj.cells #[Value.string nm, Value.slice (some { block := b1, off := o1 }) u.length ca, Value.slice (some { block := b2, off := o2 }) d.length cb, Value.int IntKind.i64 hold] 143)).alloc (Obj.cells #[Value.int IntKind.i64 0, Value.int IntKind.i64 (unl (withinB n 0 1000000000) 2)] 27)).heap.size := by rw [World.size_alloc, World.size_alloc]; omega
    generalize ((w1.alloc (Obj.cells #[Value.string nm, Value.slice (some { block := b1, off := o1 }) u.length ca, Value.slice (some { block := b2, off := o2 }) d.length cb, Value.int IntKind.i64 hold] 143)).alloc (Obj.cells #[Value.int IntKind.i64 0, Value.int IntKind.i64 (unl (withinB n 0 1000000000) 2)] 27)) = v at *
    replace hb1 : b1 < v.heap.size := by omega
    replace hb2 : b2 < v.heap.size := by omega
    generalize w1.heap.size = nb at *
    (refine region_extx 16 (by kernel_rfl) (by kernel_rfl) fun hx => ?_; simp only [List.take_succ_cons, List.take_zero, List.drop_succ_cons, List.drop_zero]; (repeat (any_goals (first | go_big_quiet_step (fail) | quiet_step (fail)))))
    (refine wpQuiet_nil ?_; clear hx; intro u; have hbw2 := ext_bel _ u; have hxw2 := ext_cell _ u; generalize ext _ u = w2 at *; clear u; have hsw2 := hbw2.size; (try simp at hsw2))
    go_wp2_with (fail)
    go_ret2
    exact ⟨by rw [HQ2.out, ← HQT.out] <;> rfl, (by repeat (first | assumption | exact Below.refl _ _ | refine Below.drew ?_ | (refine below_alloc _ ?_ ?_; focus (first | omega | (simp; done) | (simp; omega) | (simp at *; omega))) | (refine below_set _ ?_ ?_; focus (first | omega | (simp; done) | (simp; omega) | (simp at *; omega))) | refine below_drewN ?_ _ | (refine below_call (by assumption) ?_ ?_; focus (first | omega | (simp; done) | (simp; omega) | (simp at *; omega))) | (refine below_call' (by assumption) ?_ ?_; focus (first | omega | (simp; done) | (simp; omega) | (simp at *; omega)))))⟩
  · rw [if_neg h0]
    have hne : (opE nm u d hold n == 0) = false := by simpa using h0
    have hne2 : (opE nm u d hold n != 0) = true := by simpa using h0
    generalize opE nm u d hold n = E at *
    have HQ := Lib.hid hq
    clear hq h0
    go_enter Try.func20, Try.ntmps20
    go_wp2_with (fail)
    refine (HOP.out _ hs hu hd (hA.below (by repeat (first | assumption | exact Below.refl _ _ | refine Below.drew ?_ | (refine below_alloc _ ?_ ?_; focus (first | omega | (simp; done) | (simp; omega) | (simp at *; omega))) | (refine below_set _ ?_ ?_; focus (first | omega | (simp; done) | (simp; omega) | (simp at *; omega))) | refine below_drewN ?_ _ | (refine below_call (by assumption) ?_ ?_; focus (first | omega | (simp; done) | (simp; omega) | (simp at *; omega))) | (refine below_call' (by assumption) ?_ ?_; focus (first | omega | (simp; done) | (simp; omega) | (simp at *; omega)))))) (hB.below (by repeat (first | assumption | exact Below.refl _ _ | refine Below.drew ?_ | (refine below_alloc _ ?_ ?_; focus (first | omega | (simp; done) | (simp; omega) | (simp at *; omega))) | (refine below_set _ ?_ ?_; focus (first | omega | (simp; done) | (simp; omega) | (simp at *; omega))) | refine below_drewN ?_ _ | (refine below_call (by assumption) ?_ ?_; focus (first | omega | (simp; done) | (simp; omega) | (simp at *; omega))) | (refine below_call' (by assumption) ?_ ?_; focus (first | omega | (simp; done) | (simp; omega) | (simp at *; omega))))))).mono ?_
    rintro e w1 ⟨rfl, hb1⟩
    have hz := hb1.size
    simp at hz
    have hbw : Below w.heap.size w w1 := (by repeat (first | assumption | exact Below.refl _ _ | refine Below.drew ?_ | (refine below_alloc _ ?_ ?_; focus (first | omega | (simp; done) | (simp; omega) | (simp at *; omega))) | (refine below_set _ ?_ ?_; focus (first | omega | (simp; done) | (simp; omega) | (simp at *; omega))) | refine below_drewN ?_ _ | (refine below_call (by assumption) ?_ ?_; focus (first | omega | (simp; done) | (simp; omega) | (simp at *; omega))) | (refine below_call' (by assumption) ?_ ?_; focus (first | omega | (simp; done) | (simp; omega) | (simp at *; omega)))))
    clear hb1 hA hB HOP
    go_wp2_with (first | (go_at_call 88; refine (within_any _ _ _ _).mono ?_; rintro e w' ⟨rfl, rfl⟩) | (go_at_call 86; refine (unless_any _ _ _).mono ?_; rintro e w' ⟨rfl, rfl⟩) | (go_at_call 84; refine (first2 _ _ _ _ (by simp) (cell_new (by simp) rfl) (cell_new (by simp) rfl)).mono ?_; rintro e w' ⟨rfl, rfl⟩; rw [← HQ.out]))
    go_ret2
    exact ⟨rfl, (by repeat (first | assumption | exact Below.refl _ _ | refine Below.drew ?_ | (refine below_alloc _ ?_ ?_; focus (first | omega | (simp; done) | (simp; omega) | (simp at *; omega))) | (refine below_set _ ?_ ?_; focus (first | omega | (simp; done) | (simp; omega) | (simp at *; omega))) | refine below_drewN ?_ _ | (refine below_call (by assumption) ?_ ?_; focus (first | omega | (simp; done) | (simp; omega) | (simp at *; omega))) | (refine below_call' (by assumption) ?_ ?_; focus (first | omega | (simp; done) | (simp; omega) | (simp at *; omega)))))⟩
/-- the reference's level of a value -/
def rlev (v : Int) : List Int → Int → Int → Int
  | [], _, lv => lv
  | x :: r, k, lv => rlev v r (k + 1) (if x ≤ v then k else lv)
def RLev (u : List Int) (v : Int) : Int := rlev v u 1 0
theorem rlev_bd (v : Int) : ∀ (l : List Int) (k lv : Int), 1 ≤ k → 0 ≤ lv → lv < k → 0 ≤ rlev v l k lv ∧ rlev v l k lv < k + l.length
  | [], k, lv, h0, h1, h2 => by unfold rlev; exact ⟨h1, by simp; omega⟩
  | x :: r, k, lv, h0, h1, h2 => by
    have := rlev_bd v r (k + 1) (if x ≤ v then k else lv) (by omega) (by split <;> omega) (by split <;> omega)
    unfold rlev
    exact ⟨this.1, by simp; omega⟩
set_option maxRecDepth 100000 in
set_option maxHeartbeats 4000000 in
theorem RLevelFrom_any (nm : ByteArray) (A : Option Addr) (u : List Int) (ca : Nat) (B : Option Addr) (ld cb : Nat) (hold v : Int) (w : World) (hu : u.length ≤ 100) (hA : IntsAt w A u) :
    Calls Try.prog 25 #[.agg #[.string nm, .slice A u.length ca, .slice B ld cb, .int .i64 hold], .int .i64 v] w fun e w' => e = .returned (.int .i64 (RLev u v)) ∧ Below w.heap.size w w' := by
  have hq : RLev u v = rlev v u 1 0 := rfl
  rw [hq]
  clear hq
  go_enter Try.func25, Try.ntmps25
  go_wp2
  have hA1 := RowsAt.below hA (show Below w.heap.size w (w.alloc (.cells #[.string nm, .slice A u.length ca, .slice B ld cb, .int .i64 hold] 24)) from (by repeat (first | assumption | exact Below.refl _ _ | refine Below.drew ?_ | (refine below_alloc _ ?_ ?_; focus (first | omega | (simp; done) | (simp; omega) | (simp at *; omega))) | (refine below_set _ ?_ ?_; focus (first | omega | (simp; done) | (simp; omega) | (simp at *; omega))) | refine below_drewN ?_ _ | (refine below_call (by assumption) ?_ ?_; focus (first | omega | (simp; done) | (simp; omega) | (simp at *; omega))) | (refine below_call' (by assumption) ?_ ?_; focus (first | omega | (simp; done) | (simp; omega) | (simp at *; omega))))))
  go_loop [5, 6] (fun lv i => ∃ (k : Nat) (l : Int), k ≤ u.length ∧ i = .int .i64 (k + 1) ∧ lv = .int .i64 l ∧ rlev v u 1 0 = rlev v (u.drop k) (k + 1) l) (fun _ i => u.length + 1 - (intOf i).toNat)
  case atStart => exact ⟨0, 0, Nat.zero_le _, rfl, rfl, rfl⟩
  case round =>
    obtain ⟨k, l, hk, rfl, rfl, he⟩ := hrel
    have H := Lib.hid he
    clear he
    by_cases hlt : k < u.length
    · have hd : u.drop k = u[k] :: u.drop (k + 1) := List.drop_eq_getElem_cons hlt
      rw [hd] at H
      clear hd
      obtain ⟨bb, off, rfl, hb, h1⟩ := IntsAt.at_ hA1 hlt
      generalize u[k] = x at *
      by_cases hx : x ≤ v
      · have H2 := Lib.hid (H.out.trans (show rlev v (x :: u.drop (k + 1)) (k + 1) l = rlev v (u.drop (k + 1)) (k + 1 + 1) (k + 1) by rw [rlev, if_pos hx]))
        go_wp2
        go_round
        case rel => exact ⟨k + 1, k + 1, by omega, by go_num, rfl, by rw [H2.out]; rfl⟩
        case measure => simp [intOf]; omega
      · have H2 := Lib.hid (H.out.trans (show rlev v (x :: u.drop (k + 1)) (k + 1) l = rlev v (u.drop (k + 1)) (k + 1 + 1) l by rw [rlev, if_neg hx]))
        go_wp2
        go_round
        case rel => exact ⟨k + 1, l, by omega, by go_num, rfl, by rw [H2.out]; rfl⟩
        case measure => simp [intOf]; omega
    · have e : u.drop k = [] := List.drop_eq_nil_of_le (by omega)
      rw [e] at H
      clear e
      go_wp2
      go_ret
      exact ⟨ret_int (by rw [H.out]; rfl), (by repeat (first | assumption | exact Below.refl _ _ | refine Below.drew ?_ | (refine below_alloc _ ?_ ?_; focus (first | omega | (simp; done) | (simp; omega) | (simp at *; omega))) | (refine below_set _ ?_ ?_; focus (first | omega | (simp; done) | (simp; omega) | (simp at *; omega))) | refine below_drewN ?_ _ | (refine below_call (by assumption) ?_ ?_; focus (first | omega | (simp; done) | (simp; omega) | (simp at *; omega))) | (refine below_call' (by assumption) ?_ ?_; focus (first | omega | (simp; done) | (simp; omega) | (simp at *; omega)))))⟩
end Go.Proofs.Ytcfbnmcdncndpaa
