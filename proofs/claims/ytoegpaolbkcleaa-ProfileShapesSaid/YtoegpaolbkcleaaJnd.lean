/-
  The joined profile: the program's.
-/
import Derived.Test.YtoegpaolbkcleaaShp
import Derived.Test.YtoegpaolbkcleaaFit
namespace Go.Proofs.Ytoegpaolbkcleaa
open Go.ChangeShapes Go.WideShapes Go.ChangeAt Go.RowKit
set_option linter.unusedVariables false
set_option linter.unusedSimpArgs false

def jnAdd (out : List Slb) (x : Slb) : List Slb :=
  match out.getLast? with
  | some y => if y.sq = x.sq ∧ y.th + x.th ≤ 500 then out.dropLast ++ [⟨y.sq, y.th + x.th⟩] else out ++ [x]
  | none => out ++ [x]
def jnStep (out : List Slb) (x : Slb) : List Slb := if x.th = 0 then out else jnAdd out x
def jnGo : List Slb → List Slb → List Slb
  | [], out => out
  | x :: r, out => jnGo r (jnStep out x)
def jnd (l : List Slb) : List Slb := if (jnGo l []).length = 0 then l.take 1 else jnGo l []
theorem jnAdd_nil (x : Slb) : jnAdd [] x = [x] := rfl
theorem jnAdd_snoc (i : List Slb) (y x : Slb) : jnAdd (i ++ [y]) x = if y.sq = x.sq ∧ y.th + x.th ≤ 500 then i ++ [⟨y.sq, y.th + x.th⟩] else i ++ [y] ++ [x] := by
  unfold jnAdd
  rw [List.getLast?_append]
  simp
/-- the slabs of a joined profile are permitted -/
def JB (out : List Slb) : Prop := ∀ x ∈ out, 0 ≤ x.sq ∧ x.sq ≤ 9000000 ∧ 0 ≤ x.th ∧ x.th ≤ 500
theorem JB.nil : JB [] := fun x h => by cases h
theorem JB.snoc {out : List Slb} {x : Slb} (h : JB out) (hx : 0 ≤ x.sq ∧ x.sq ≤ 9000000 ∧ 0 ≤ x.th ∧ x.th ≤ 500) : JB (out ++ [x]) := fun y hy => by
  rcases List.mem_append.1 hy with h1 | h1
  · exact h y h1
  · rw [List.mem_singleton.1 h1]; exact hx
theorem JB.init {i : List Slb} {y : Slb} (h : JB (i ++ [y])) : JB i ∧ 0 ≤ y.sq ∧ y.sq ≤ 9000000 ∧ 0 ≤ y.th ∧ y.th ≤ 500 :=
  ⟨fun x hx => h x (List.mem_append_left _ hx), h y (by simp)⟩
theorem snoc_cases (out : List Slb) : out = [] ∨ ∃ i y, out = i ++ [y] := by
  rcases List.eq_nil_or_concat out with h | ⟨i, y, h⟩
  · exact .inl h
  · exact .inr ⟨i, y, by rw [h, List.concat_eq_append]⟩
theorem last_sq {w : World} {B : Nat} {T : TypeId} {g n c : Nat} {sl : List Slb} {x : Slb} (h : w.ownsRow B T 2 (.slice (some ⟨g, 0, none⟩) (n + 1) c) (n + 1) (cellsOf 2 slbC (sl ++ [x]))) (hl : sl.length = n) :
    w.cell? ⟨g, n * 2, none⟩ = some (.int .i64 x.sq) := by
  have hk : (sl ++ [x])[n]? = some x := by subst hl; simp
  exact (h.cellAt _ (by omega)).trans (by have := cellsOf_get (f := slbC) (m := 2) (j := 0) hk (by omega); rw [Nat.add_zero] at this; exact this)

theorem slice_not_nil (B : Addr) (n c : Nat) (W : World) : Sem.run Try.prog (binOp BinOp.eql 22 (.slice (some B) n c) (.slice none 0 0)) W = .ok (.bool false) W := by kernel_rfl
attribute [local go_sem] slice_not_nil
def ClonePost (l : List Slb) (w : World) (e : Ending) (w' : World) : Prop :=
  ∃ A' c', e = .returned (.slice A' l.length c') ∧ w'.ownsRow w.heap.size 45 2 (.slice A' l.length c') l.length (cellsOf 2 slbC l) ∧ Below w.heap.size w w'
set_option maxRecDepth 100000 in
set_option maxHeartbeats 1000000 in
theorem Clone_any (B : Addr) (l : List Slb) (cap : Nat) (w : World) (hl : l.length ≤ 100) (hB : SlabsAt w (some B) l) :
    Calls Try.prog 92 #[.slice (some B) l.length cap] w (ClonePost l w) := by
  go_enter Try.func92, Try.ntmps92
  go_wp2_with (at_builtin; refine wpList_appSlab _ rfl (.tmp 5) (.tmp 6) rfl w.heap.size (some ⟨w.heap.size, 0, none⟩) 0 0 [] rfl (own_empty (Nat.le_refl _) (heap_alloc_new _ _)) (some B) l.length cap (cellsOf 2 slbC l) rfl (cellsOf_length l) (fun e => by cases e) (fun ad e => by cases e; exact RowsAt.news (RowsAt.below hB (by repeat (first | assumption | exact Below.refl _ _ | refine Below.drew ?_ | (refine below_alloc _ ?_ ?_; focus (first | omega | (simp; done) | (simp; omega) | (simp at *; omega))) | (refine below_set _ ?_ ?_; focus (first | omega | (simp; done) | (simp; omega) | (simp at *; omega))) | refine below_drewN ?_ _ | (refine below_call (by assumption) ?_ ?_; focus (first | omega | (simp; done) | (simp; omega) | (simp at *; omega))) | (refine below_call' (by assumption) ?_ ?_; focus (first | omega | (simp; done) | (simp; omega) | (simp at *; omega)))))) (by decide)) (cellsOf_one slbC_one (by decide) l) (by omega) (by simp) ?_; intro A' c' w1 hown hg _; rw [Nat.zero_add, List.nil_append] at hown; (try rw [Nat.zero_add]); have hb1 : Below w.heap.size w w1 := grown_below hg (by omega) (by omega) (by repeat (first | assumption | exact Below.refl _ _ | refine Below.drew ?_ | (refine below_alloc _ ?_ ?_; focus (first | omega | (simp; done) | (simp; omega) | (simp at *; omega))) | (refine below_set _ ?_ ?_; focus (first | omega | (simp; done) | (simp; omega) | (simp at *; omega))) | refine below_drewN ?_ _ | (refine below_call (by assumption) ?_ ?_; focus (first | omega | (simp; done) | (simp; omega) | (simp at *; omega))) | (refine below_call' (by assumption) ?_ ?_; focus (first | omega | (simp; done) | (simp; omega) | (simp at *; omega))))); clear hg)
  go_ret
  exact ⟨A', c', rfl, hown, hb1⟩

theorem take1 {α : Type} {l : List α} {q : Nat} {z : α} (hz : (l.take 1)[q]? = some z) : l[q]? = some z := by
  rw [List.getElem?_take] at hz
  by_cases hq : q < 1
  · rwa [if_pos hq] at hz
  · rw [if_neg hq] at hz; cases hz
def jndV (base : Int) (l : List Slb) : List Slb := if chkE base l = 0 then jnd l else []
def jndB (base : Int) (l : List Slb) : Int := if chkE base l = 0 then base else 0
def JndPost (base : Int) (l : List Slb) (w : World) (e : Ending) (w' : World) : Prop :=
  ∃ A' c', e = .returned (.tuple #[.agg #[.int .i64 (jndB base l), .slice A' (jndV base l).length c'], .int .i64 (chkE base l)]) ∧ w'.ownsRow w.heap.size 45 2 (.slice A' (jndV base l).length c') (jndV base l).length (cellsOf 2 slbC (jndV base l)) ∧ Below w.heap.size w w'

set_option maxRecDepth 100000 in
set_option maxHeartbeats 4000000 in
theorem Joined_any (base : Int) (A : Option Addr) (l : List Slb) (cap : Nat) (w : World) (hl : l.length ≤ 100) (hcap : l.length ≤ cap) (hA : SlabsAt w A l) :
    Calls Try.prog 58 #[.agg #[.int .i64 base, .slice A l.length cap]] w (JndPost base l w) := by
  have h1 : jndV base l = if chkE base l = 0 then jnd l else [] := rfl
  have h2 : jndB base l = if chkE base l = 0 then base else 0 := rfl
  go_enter Try.func58, Try.ntmps58
  have H1 := Lib.hid h1
  have H2 := Lib.hid h2
  clear h1 h2
  go_wp2_with (fail)
  refine (open_any base A l cap _ hl (hA.below (by repeat (first | assumption | exact Below.refl _ _ | refine Below.drew ?_ | (refine below_alloc _ ?_ ?_; focus (first | omega | (simp; done) | (simp; omega) | (simp at *; omega))) | (refine below_set _ ?_ ?_; focus (first | omega | (simp; done) | (simp; omega) | (simp at *; omega))) | refine below_drewN ?_ _ | (refine below_call (by assumption) ?_ ?_; focus (first | omega | (simp; done) | (simp; omega) | (simp at *; omega))) | (refine below_call' (by assumption) ?_ ?_; focus (first | omega | (simp; done) | (simp; omega) | (simp at *; omega))))))).mono ?_
  rintro e w1 ⟨rfl, hb1⟩
  have hbw1 : Below w.heap.size w w1 := (by repeat (first | assumption | exact Below.refl _ _ | refine Below.drew ?_ | (refine below_alloc _ ?_ ?_; focus (first | omega | (simp; done) | (simp; omega) | (simp at *; omega))) | (refine below_set _ ?_ ?_; focus (first | omega | (simp; done) | (simp; omega) | (simp at *; omega))) | refine below_drewN ?_ _ | (refine below_call (by assumption) ?_ ?_; focus (first | omega | (simp; done) | (simp; omega) | (simp at *; omega))) | (refine below_call' (by assumption) ?_ ?_; focus (first | omega | (simp; done) | (simp; omega) | (simp at *; omega)))))
  have hA1 := hA.below hbw1
  have hz1 : w.heap.size + 1 < w1.heap.size := by have := hb1.size; simp at this; omega
  have hz0 : w.heap.size < w1.heap.size := by omega
  have c0 : w1.cell? ⟨w.heap.size + 1, 0, none⟩ = some (.int .i64 0) := cell_below' hb1 (by repeat (first | assumption | (refine cell_new ?_ rfl; focus (simp; done)) | refine cell_drew ?_ | refine cell_alloc _ ?_ | refine cell_drewN _ ?_ | (refine cell_far ?_ ?_; focus (first | omega | (simp; omega) | (simp; done))) | refine cell_below' (by assumption) ?_))
  have c1 : w1.cell? ⟨w.heap.size + 1, 1, none⟩ = some (.slice none 0 0) := cell_below' hb1 (by repeat (first | assumption | (refine cell_new ?_ rfl; focus (simp; done)) | refine cell_drew ?_ | refine cell_alloc _ ?_ | refine cell_drewN _ ?_ | (refine cell_far ?_ ?_; focus (first | omega | (simp; omega) | (simp; done))) | refine cell_below' (by assumption) ?_))
  have g0 : w1.frozen? ⟨w.heap.size + 1, 0, none⟩ = false := frozen_below hb1 (by simp) (by repeat (first | assumption | (refine frozen_new ?_; focus (simp; done)) | refine frozen_drew ?_ | (refine frozen_alloc _ ?_ ?_; focus (first | (simp; done) | (simp; omega))) | refine frozen_drewN _ ?_ | refine frozen_set _ _ ?_ | (refine frozen_below (by assumption) ?_ ?_; focus (first | (simp; done) | (simp; omega)))))
  have g1 : w1.frozen? ⟨w.heap.size + 1, 1, none⟩ = false := frozen_below hb1 (by simp) (by repeat (first | assumption | (refine frozen_new ?_; focus (simp; done)) | refine frozen_drew ?_ | (refine frozen_alloc _ ?_ ?_; focus (first | (simp; done) | (simp; omega))) | refine frozen_drewN _ ?_ | refine frozen_set _ _ ?_ | (refine frozen_below (by assumption) ?_ ?_; focus (first | (simp; done) | (simp; omega)))))
  clear hb1
  by_cases h0 : chkE base l = 0
  rotate_left 1
  · have h1 := H1.out
    have h2 := H2.out
    rw [if_neg h0] at h1 h2
    have H1' := Lib.hid h1
    have H2' := Lib.hid h2
    have h0' : (chkE base l == 0) = false := by simpa using h0
    have h0'' : (chkE base l != 0) = true := by simpa using h0
    clear h0 h1 h2 H1 H2
    go_wp2
    refine bodyPost_ret (v := .tuple #[.agg #[.int .i64 0, .slice none 0 0], .int .i64 (chkE base l)]) (by simp [results, Try.results58, go_sem, c0, c1, hz1]) rfl ?_
    unfold JndPost
    rw [H1'.out, H2'.out]
    exact ⟨none, 0, rfl, World.ownsRow_nil _ _ _ _, (by repeat (first | assumption | exact Below.refl _ _ | refine Below.drew ?_ | (refine below_alloc _ ?_ ?_; focus (first | omega | (simp; done) | (simp; omega) | (simp at *; omega))) | (refine below_set _ ?_ ?_; focus (first | omega | (simp; done) | (simp; omega) | (simp at *; omega))) | refine below_drewN ?_ _ | (refine below_call (by assumption) ?_ ?_; focus (first | omega | (simp; done) | (simp; omega) | (simp at *; omega))) | (refine below_call' (by assumption) ?_ ?_; focus (first | omega | (simp; done) | (simp; omega) | (simp at *; omega)))))⟩
  have HO := Lib.hid (ok_of_chk h0)
  have hn0 := HO.out.n0
  have hn1 := HO.out.n1
  have h1 := H1.out
  have h2 := H2.out
  rw [if_pos h0] at h1 h2
  rw [h0]
  have HC0 := Lib.hid h0
  have H1' := Lib.hid h1
  have H2' := Lib.hid h2
  clear h0 h1 h2 H1 H2
  obtain ⟨bb, off, rfl, hb, _, _⟩ := SlabsAt.at_ hA1 hn0
  go_wp2_with (fail)
  have hv : (w1.alloc (.cells #[.int .i64 base, .slice (some ⟨bb, off, none⟩) l.length cap] 113)).heap.size = w1.heap.size + 1 := by simp
  have S0 : (w1.alloc (.cells #[.int .i64 base, .slice (some ⟨bb, off, none⟩) l.length cap] 113)).cell? ⟨w1.heap.size, 0, none⟩ = some (.int .i64 base) := (by repeat (first | assumption | (refine cell_new ?_ rfl; focus (simp; done)) | refine cell_drew ?_ | refine cell_alloc _ ?_ | refine cell_drewN _ ?_ | (refine cell_far ?_ ?_; focus (first | omega | (simp; omega) | (simp; done))) | refine cell_below' (by assumption) ?_))
  have S1 : (w1.alloc (.cells #[.int .i64 base, .slice (some ⟨bb, off, none⟩) l.length cap] 113)).cell? ⟨w1.heap.size, 1, none⟩ = some (.slice (some ⟨bb, off, none⟩) l.length cap) := (by repeat (first | assumption | (refine cell_new ?_ rfl; focus (simp; done)) | refine cell_drew ?_ | refine cell_alloc _ ?_ | refine cell_drewN _ ?_ | (refine cell_far ?_ ?_; focus (first | omega | (simp; omega) | (simp; done))) | refine cell_below' (by assumption) ?_))
  have C0 := cell_alloc (.cells #[.int .i64 base, .slice (some ⟨bb, off, none⟩) l.length cap] 113) c0
  have C1 := cell_alloc (.cells #[.int .i64 base, .slice (some ⟨bb, off, none⟩) l.length cap] 113) c1
  have G0 := frozen_alloc (.cells #[.int .i64 base, .slice (some ⟨bb, off, none⟩) l.length cap] 113) (show w.heap.size + 1 < w1.heap.size from hz1) g0
  have G1 := frozen_alloc (.cells #[.int .i64 base, .slice (some ⟨bb, off, none⟩) l.length cap] 113) (show w.heap.size + 1 < w1.heap.size from hz1) g1
  have hbv : Below w.heap.size w (w1.alloc (.cells #[.int .i64 base, .slice (some ⟨bb, off, none⟩) l.length cap] 113)) := (by repeat (first | assumption | exact Below.refl _ _ | refine Below.drew ?_ | (refine below_alloc _ ?_ ?_; focus (first | omega | (simp; done) | (simp; omega) | (simp at *; omega))) | (refine below_set _ ?_ ?_; focus (first | omega | (simp; done) | (simp; omega) | (simp at *; omega))) | refine below_drewN ?_ _ | (refine below_call (by assumption) ?_ ?_; focus (first | omega | (simp; done) | (simp; omega) | (simp at *; omega))) | (refine below_call' (by assumption) ?_ ?_; focus (first | omega | (simp; done) | (simp; omega) | (simp at *; omega)))))
  rw [← hv]
  generalize (w1.alloc (.cells #[.int .i64 base, .slice (some ⟨bb, off, none⟩) l.length cap] 113)) = v1 at *
  have hs1 : w1.heap.size < v1.heap.size := by omega
  have hs2 : w.heap.size + 1 < v1.heap.size := by omega
  have hs0 : w.heap.size < v1.heap.size := by omega
  have AV : SlabsAt v1 (some ⟨bb, off, none⟩) l := RowsAt.below hA hbv
  clear hv c0 c1 g0 g1 hz1 hz0 hb hA1 hbw1
  go_loopw [27] (fun i wr => ∃ (k : Nat) (out : List Slb) (n : Nat) (A' : Option Addr) (c' : Nat), k ≤ l.length ∧ i = .int .i64 k ∧ JB out ∧ out.length = n ∧ n ≤ k ∧ jnGo l [] = jnGo (l.drop k) out ∧ wr.cell? ⟨v1.heap.size, 0, none⟩ = some (.int .i64 base) ∧ wr.cell? ⟨v1.heap.size, 1, none⟩ = some (.slice A' n c') ∧ wr.frozen? ⟨v1.heap.size, 0, none⟩ = false ∧ wr.frozen? ⟨v1.heap.size, 1, none⟩ = false ∧ wr.ownsRow (v1.heap.size + 1) 45 2 (.slice A' n c') n (cellsOf 2 slbC out) ∧ Below v1.heap.size v1 wr ∧ v1.heap.size < wr.heap.size) (fun i _ => l.length - (intOf i).toNat)
  case atStart => exact ⟨0, [], 0, none, 0, Nat.zero_le _, rfl, JB.nil, rfl, Nat.le_refl _, rfl, cell_new rfl rfl, cell_new rfl rfl, frozen_new rfl, frozen_new rfl, World.ownsRow_nil _ _ _ _, (by repeat (first | assumption | exact Below.refl _ _ | refine Below.drew ?_ | (refine below_alloc _ ?_ ?_; focus (first | omega | (simp; done) | (simp; omega) | (simp at *; omega))) | (refine below_set _ ?_ ?_; focus (first | omega | (simp; done) | (simp; omega) | (simp at *; omega))) | refine below_drewN ?_ _ | (refine below_call (by assumption) ?_ ?_; focus (first | omega | (simp; done) | (simp; omega) | (simp at *; omega))) | (refine below_call' (by assumption) ?_ ?_; focus (first | omega | (simp; done) | (simp; omega) | (simp at *; omega))))), by simp⟩
  case round =>
    obtain ⟨k, out, n, A', c', hk, rfl, hjb, hlen, hnk, hgo, s0, s1, y0, y1, hown, hbw, hsz⟩ := hrel
    have HM := Lib.hid hgo
    have HJB := Lib.hid hjb
    have HLEN := Lib.hid hlen
    clear hgo hjb hlen
    by_cases hlt : k < l.length
    · obtain ⟨b2, o2, e2, hb2, e0, e1⟩ := SlabsAt.at_ (RowsAt.below AV hbw) hlt
      injection e2 with e2
      injection e2 with e21 e22
      subst e21 e22
      have hx := HO.out.sl l[k] (List.getElem_mem hlt)
      rw [List.drop_eq_getElem_cons hlt, jnGo] at HM
      generalize l[k] = x at *
      obtain ⟨x1, x2, x3, x4⟩ := hx
      by_cases hth : x.th = 0
      · have hst : jnStep out x = out := by unfold jnStep; rw [if_pos hth]
        rw [hst] at HM
        have hth' : (x.th == 0) = true := by simpa using hth
        clear hst hth
        go_wp2
        go_roundw
        case rel => exact ⟨k + 1, out, n, A', c', by omega, by go_num, HJB.out, HLEN.out, by omega, HM.out, cell_alloc _ s0, cell_alloc _ s1, frozen_alloc _ (by omega) y0, frozen_alloc _ (by omega) y1, hown.alloc _, (by repeat (first | assumption | exact Below.refl _ _ | refine Below.drew ?_ | (refine below_alloc _ ?_ ?_; focus (first | omega | (simp; done) | (simp; omega) | (simp at *; omega))) | (refine below_set _ ?_ ?_; focus (first | omega | (simp; done) | (simp; omega) | (simp at *; omega))) | refine below_drewN ?_ _ | (refine below_call (by assumption) ?_ ?_; focus (first | omega | (simp; done) | (simp; omega) | (simp at *; omega))) | (refine below_call' (by assumption) ?_ ?_; focus (first | omega | (simp; done) | (simp; omega) | (simp at *; omega))))), by simp; omega⟩
        case measure => simp [intOf]; omega
      have hst : jnStep out x = jnAdd out x := by unfold jnStep; rw [if_neg hth]
      rw [hst] at HM
      have hth' : (x.th == 0) = false := by simpa using hth
      clear hst
      rcases snoc_cases out with rfl | ⟨i, y, rfl⟩
      · obtain rfl : n = 0 := by have := HLEN.out; simpa using this.symm
        rw [jnAdd_nil] at HM
        go_wp2_with (fail)
        (refine region_full (by kernel_rfl) (by kernel_rfl) fun hx => ?_; (repeat (any_goals (first | go_big_quiet_step (fail) | quiet_step (fail)))))
        (refine wpQuiet_nil ?_; clear hx; intro u; have hbw3 := ext_bel _ u; have hxw3 := ext_cell _ u; generalize ext _ u = w3 at *; clear u; have hsw3 := hbw3.size; (try simp at hsw3))
        have hb3 : Below v1.heap.size v1 w3 := hbw.trans ((below_alloc _ (Nat.le_refl _) (Below.refl _ wr)).trans (hbw3.mono (by simp)) |>.mono (by omega))
        have hz9 : wr.heap.size < w3.heap.size := by have := hbw3.size; simp at this; omega
        have r0 : w3.cell? ⟨wr.heap.size, 0, none⟩ = some (.int .i64 x.sq) := cell_below' hbw3 (cell_new rfl rfl)
        have r1 : w3.cell? ⟨wr.heap.size, 1, none⟩ = some (.int .i64 x.th) := cell_below' hbw3 (cell_new rfl rfl)
        have hown3 := own_below (hown.alloc (.cells #[.int .i64 x.sq, .int .i64 x.th] 45)) hbw3
        replace y0 := frozen_below hbw3 (show v1.heap.size < _ by simp; omega) (frozen_alloc _ (by omega) y0)
        replace y1 := frozen_below hbw3 (show v1.heap.size < _ by simp; omega) (frozen_alloc _ (by omega) y1)
        replace s0 := cell_below' hbw3 (cell_alloc _ s0)
        replace s1 := cell_below' hbw3 (cell_alloc _ s1)
        have hz10 : v1.heap.size < w3.heap.size := by omega
        clear hown hbw3 hxw3
        have hlt2 := hown3.lt
        have hn1' : some v1.heap.size ≠ Value.ownBlock (.slice A' 0 c') := fun e => by have := hlt2 _ e.symm; omega
        clear hlt2
        go_wp2_with (at_builtin; refine wpList_appSlab _ rfl (.tmp 77) (.tmp 79) rfl (v1.heap.size + 1) A' 0 c' (cellsOf 2 slbC []) rfl (hown3.alloc _) (some ⟨w3.heap.size, 0, none⟩) 1 1 (cellsOf 2 slbC [x]) rfl rfl (fun e => by cases e) (fun ad e => by cases e; exact RowsAt.news (rows_blk (blk_new (by simp)) rfl) (by decide)) (cellsOf_one slbC_one (by decide) _) (by omega) (by simp; omega) ?_; intro A4 c5 w5 hown5 hg halt; rw [← cellsOf_append] at hown5; have hz7 := hg.size; simp at hz7; have hb5 : Below v1.heap.size v1 w5 := below_own (below_alloc _ (by omega) hb3) hg (hown3.alloc _) (by omega) (by simp; omega); have u0 := cell_grown hg (cell_alloc _ s0) hn1'; have u1 := cell_grown hg (cell_alloc _ s1) hn1'; have uy0 := frozen_grown hg (frozen_alloc _ (by omega) y0) (by simp; omega) hn1'; have uy1 := frozen_grown hg (frozen_alloc _ (by omega) y1) (by simp; omega) hn1'; clear hg halt hown3 s0 s1 y0 y1 hn1')
        go_roundw
        case rel => exact ⟨k + 1, _, 0 + 1, A4, c5, by omega, by go_num, JB.snoc HJB.out ⟨x1, x2, x3, x4⟩, by first | (simp [HIL.out]; done) | (simp [HLEN.out]; done), by omega, HM.out, (World.cell?_setCell_other _ _ _ _ (by simp)).trans u0, cell_same u1, frozen_set _ _ uy0, frozen_set _ _ uy1, ownsRow_setCell_below hown5 (by simp) _, below_set _ (Nat.le_refl _) hb5, by simp; omega⟩
        case measure => simp [intOf]; omega
      obtain ⟨m, rfl⟩ : ∃ m, n = m + 1 := ⟨i.length, by have := HLEN.out; simp at this; omega⟩
      have hil : i.length = m := by have := HLEN.out; simp at this; omega
      rw [jnAdd_snoc] at HM
      obtain ⟨g, cg, hvg, hgb, hgl⟩ := hown.form (by omega)
      injection hvg with hvg1 hvg2 hvg3
      subst hvg1
      clear hvg2 hvg3 cg
      have tq := last_sq hown hil
      obtain ⟨tc, tf⟩ := last_cell hown hil
      obtain ⟨hji, yb1, yb2, yb3, yb4⟩ := HJB.out.init
      have HJI := Lib.hid hji
      have HIL := Lib.hid hil
      clear hji hil
      have hmp : (0 : Int) < (m : Int) + 1 := by omega
      by_cases hq : y.sq = x.sq
      rotate_left 1
      · rw [if_neg (fun h => hq h.1)] at HM
        have hq' : (y.sq == x.sq) = false := by simpa using hq
        clear hq
        go_wp2_with (fail)
        (refine region_full (by kernel_rfl) (by kernel_rfl) fun hx => ?_; (repeat (any_goals (first | go_big_quiet_step (fail) | quiet_step (fail)))))
        (refine wpQuiet_nil ?_; clear hx; intro u; have hbw3 := ext_bel _ u; have hxw3 := ext_cell _ u; generalize ext _ u = w3 at *; clear u; have hsw3 := hbw3.size; (try simp at hsw3))
        have hb3 : Below v1.heap.size v1 w3 := hbw.trans ((below_alloc _ (Nat.le_refl _) (Below.refl _ wr)).trans (hbw3.mono (by simp)) |>.mono (by omega))
        have hz9 : wr.heap.size < w3.heap.size := by have := hbw3.size; simp at this; omega
        have r0 : w3.cell? ⟨wr.heap.size, 0, none⟩ = some (.int .i64 x.sq) := cell_below' hbw3 (cell_new rfl rfl)
        have r1 : w3.cell? ⟨wr.heap.size, 1, none⟩ = some (.int .i64 x.th) := cell_below' hbw3 (cell_new rfl rfl)
        have hown3 := own_below (hown.alloc (.cells #[.int .i64 x.sq, .int .i64 x.th] 45)) hbw3
        replace y0 := frozen_below hbw3 (show v1.heap.size < _ by simp; omega) (frozen_alloc _ (by omega) y0)
        replace y1 := frozen_below hbw3 (show v1.heap.size < _ by simp; omega) (frozen_alloc _ (by omega) y1)
        replace s0 := cell_below' hbw3 (cell_alloc _ s0)
        replace s1 := cell_below' hbw3 (cell_alloc _ s1)
        have hz10 : v1.heap.size < w3.heap.size := by omega
        clear hown hbw3 hxw3
        have hlt2 := hown3.lt
        have hn1' : some v1.heap.size ≠ Value.ownBlock (.slice (some ⟨g, 0, none⟩) (m + 1) c') := fun e => by have := hlt2 _ e.symm; omega
        clear hlt2
        go_wp2_with (at_builtin; refine wpList_appSlab _ rfl (.tmp 77) (.tmp 79) rfl (v1.heap.size + 1) (some ⟨g, 0, none⟩) (m + 1) c' (cellsOf 2 slbC (i ++ [y])) rfl (hown3.alloc _) (some ⟨w3.heap.size, 0, none⟩) 1 1 (cellsOf 2 slbC [x]) rfl rfl (fun e => by cases e) (fun ad e => by cases e; exact RowsAt.news (rows_blk (blk_new (by simp)) rfl) (by decide)) (cellsOf_one slbC_one (by decide) _) (by omega) (by simp; omega) ?_; intro A4 c5 w5 hown5 hg halt; rw [← cellsOf_append] at hown5; have hz7 := hg.size; simp at hz7; have hb5 : Below v1.heap.size v1 w5 := below_own (below_alloc _ (by omega) hb3) hg (hown3.alloc _) (by omega) (by simp; omega); have u0 := cell_grown hg (cell_alloc _ s0) hn1'; have u1 := cell_grown hg (cell_alloc _ s1) hn1'; have uy0 := frozen_grown hg (frozen_alloc _ (by omega) y0) (by simp; omega) hn1'; have uy1 := frozen_grown hg (frozen_alloc _ (by omega) y1) (by simp; omega) hn1'; clear hg halt hown3 s0 s1 y0 y1 hn1')
        go_roundw
        case rel => exact ⟨k + 1, _, (m + 1) + 1, A4, c5, by omega, by go_num, JB.snoc HJB.out ⟨x1, x2, x3, x4⟩, by first | (simp [HIL.out]; done) | (simp [HLEN.out]; done), by omega, HM.out, (World.cell?_setCell_other _ _ _ _ (by simp)).trans u0, cell_same u1, frozen_set _ _ uy0, frozen_set _ _ uy1, ownsRow_setCell_below hown5 (by simp) _, below_set _ (Nat.le_refl _) hb5, by simp; omega⟩
        case measure => simp [intOf]; omega
      have hq' : (y.sq == x.sq) = true := by simpa using hq
      by_cases hsum : y.th + x.th ≤ 500
      · rw [if_pos ⟨hq, hsum⟩] at HM
        have his : ∀ W, Calls Try.prog 78 #[.int .i64 (y.th + x.th)] W fun e w' => e = .returned (.bool true) ∧ W = w' := fun W => (by have := isThickness_any (y.th + x.th) W; rwa [show withinB (y.th + x.th) 0 500 = true from withinB_true.2 ⟨by omega, hsum⟩] at this)
        have HIS := Lib.hid his
        clear his
        go_wp2_with (fail)
        (refine region_full (by kernel_rfl) (by kernel_rfl) fun hx => ?_; (repeat (any_goals (first | go_big_quiet_step ((go_at_call 78; exact ext_same (HIS.out _))) | quiet_step ((go_at_call 78; exact ext_same (HIS.out _)))))))
        (refine wpQuiet_nil ?_; clear hx; intro u; have hbw3 := ext_bel _ u; have hxw3 := ext_cell _ u; generalize ext _ u = w3 at *; clear u; have hsw3 := hbw3.size; (try simp at hsw3))
        have hb3 : Below v1.heap.size v1 w3 := hbw.trans ((below_alloc _ (Nat.le_refl _) (Below.refl _ wr)).trans (hbw3.mono (by simp)) |>.mono (by omega))
        have hz9 : wr.heap.size < w3.heap.size := by have := hbw3.size; simp at this; omega
        have r0 : w3.cell? ⟨wr.heap.size, 0, none⟩ = some (.int .i64 x.sq) := cell_below' hbw3 (cell_new rfl rfl)
        have r1 : w3.cell? ⟨wr.heap.size, 1, none⟩ = some (.int .i64 x.th) := cell_below' hbw3 (cell_new rfl rfl)
        have hown3 := own_below (hown.alloc (.cells #[.int .i64 x.sq, .int .i64 x.th] 45)) hbw3
        replace y0 := frozen_below hbw3 (show v1.heap.size < _ by simp; omega) (frozen_alloc _ (by omega) y0)
        replace y1 := frozen_below hbw3 (show v1.heap.size < _ by simp; omega) (frozen_alloc _ (by omega) y1)
        replace s0 := cell_below' hbw3 (cell_alloc _ s0)
        replace s1 := cell_below' hbw3 (cell_alloc _ s1)
        have hz10 : v1.heap.size < w3.heap.size := by omega
        clear hown hbw3 hxw3
        obtain ⟨tc3, tf3⟩ := last_cell hown3 HIL.out
        have hgl3 : g < w3.heap.size := by omega
        clear tq tc tf
        go_wp2_with (fail)
        (refine region_extx 10 (by kernel_rfl) (by kernel_rfl) fun hx => ?_; simp only [List.take_succ_cons, List.take_zero, List.drop_succ_cons, List.drop_zero]; (repeat (any_goals (first | go_big_quiet_step (fail) | quiet_step (fail)))))
        (refine wpQuiet_nil ?_; clear hx; intro u; have hbw4 := ext_bel _ u; have hxw4 := ext_cell _ u; generalize ext _ u = w4 at *; clear u; have hsw4 := hbw4.size; (try simp at hsw4))
        have hb4 : Below v1.heap.size v1 w4 := hb3.trans (hbw4.mono (by omega))
        have hown4 := own_below hown3 hbw4
        replace s0 := cell_below' hbw4 s0
        replace s1 := cell_below' hbw4 s1
        replace y0 := frozen_below hbw4 (show _ from hz10) y0
        replace y1 := frozen_below hbw4 (show _ from hz10) y1
        have hz11 : v1.heap.size < w4.heap.size := by have := hbw4.size; omega
        have hgl4 : g < w4.heap.size := by have := hbw4.size; omega
        clear hown3 hbw4 hxw4 tc3 tf3 r0 r1
        obtain ⟨tc4, tf4⟩ := last_cell hown4 HIL.out
        obtain ⟨o1, ot⟩ := last_store hown4 HIL.out (y.th + x.th)
        go_wp2
        go_roundw
        case rel => exact ⟨k + 1, i ++ [⟨y.sq, y.th + x.th⟩], m + 1, some ⟨g, 0, none⟩, c', by omega, by go_num, JB.snoc HJI.out ⟨yb1, yb2, by show 0 ≤ y.th + x.th; omega, hsum⟩, by simp [HIL.out], by omega, HM.out, (World.cell?_setCell_other _ _ _ _ (fun h => by injection h with h1; omega)).trans s0, (World.cell?_setCell_other _ _ _ _ (fun h => by injection h with h1; omega)).trans s1, frozen_set _ _ y0, frozen_set _ _ y1, o1, below_set _ (by show _ ≤ g; omega) hb4, by simp; omega⟩
        case measure => simp [intOf]; omega
      · rw [if_neg (fun h => hsum h.2)] at HM
        have his : ∀ W, Calls Try.prog 78 #[.int .i64 (y.th + x.th)] W fun e w' => e = .returned (.bool false) ∧ W = w' := fun W => (by have := isThickness_any (y.th + x.th) W; rwa [show withinB (y.th + x.th) 0 500 = false from Bool.eq_false_iff.2 fun h => hsum (withinB_true.1 h).2] at this)
        have HIS := Lib.hid his
        clear his
        go_wp2_with (fail)
        (refine region_full (by kernel_rfl) (by kernel_rfl) fun hx => ?_; (repeat (any_goals (first | go_big_quiet_step ((go_at_call 78; exact ext_same (HIS.out _))) | quiet_step ((go_at_call 78; exact ext_same (HIS.out _)))))))
        (refine wpQuiet_nil ?_; clear hx; intro u; have hbw3 := ext_bel _ u; have hxw3 := ext_cell _ u; generalize ext _ u = w3 at *; clear u; have hsw3 := hbw3.size; (try simp at hsw3))
        have hb3 : Below v1.heap.size v1 w3 := hbw.trans ((below_alloc _ (Nat.le_refl _) (Below.refl _ wr)).trans (hbw3.mono (by simp)) |>.mono (by omega))
        have hz9 : wr.heap.size < w3.heap.size := by have := hbw3.size; simp at this; omega
        have r0 : w3.cell? ⟨wr.heap.size, 0, none⟩ = some (.int .i64 x.sq) := cell_below' hbw3 (cell_new rfl rfl)
        have r1 : w3.cell? ⟨wr.heap.size, 1, none⟩ = some (.int .i64 x.th) := cell_below' hbw3 (cell_new rfl rfl)
        have hown3 := own_below (hown.alloc (.cells #[.int .i64 x.sq, .int .i64 x.th] 45)) hbw3
        replace y0 := frozen_below hbw3 (show v1.heap.size < _ by simp; omega) (frozen_alloc _ (by omega) y0)
        replace y1 := frozen_below hbw3 (show v1.heap.size < _ by simp; omega) (frozen_alloc _ (by omega) y1)
        replace s0 := cell_below' hbw3 (cell_alloc _ s0)
        replace s1 := cell_below' hbw3 (cell_alloc _ s1)
        have hz10 : v1.heap.size < w3.heap.size := by omega
        clear hown hbw3 hxw3
        have hlt2 := hown3.lt
        have hn1' : some v1.heap.size ≠ Value.ownBlock (.slice (some ⟨g, 0, none⟩) (m + 1) c') := fun e => by have := hlt2 _ e.symm; omega
        clear hlt2
        go_wp2_with (at_builtin; refine wpList_appSlab _ rfl (.tmp 77) (.tmp 79) rfl (v1.heap.size + 1) (some ⟨g, 0, none⟩) (m + 1) c' (cellsOf 2 slbC (i ++ [y])) rfl (hown3.alloc _) (some ⟨w3.heap.size, 0, none⟩) 1 1 (cellsOf 2 slbC [x]) rfl rfl (fun e => by cases e) (fun ad e => by cases e; exact RowsAt.news (rows_blk (blk_new (by simp)) rfl) (by decide)) (cellsOf_one slbC_one (by decide) _) (by omega) (by simp; omega) ?_; intro A4 c5 w5 hown5 hg halt; rw [← cellsOf_append] at hown5; have hz7 := hg.size; simp at hz7; have hb5 : Below v1.heap.size v1 w5 := below_own (below_alloc _ (by omega) hb3) hg (hown3.alloc _) (by omega) (by simp; omega); have u0 := cell_grown hg (cell_alloc _ s0) hn1'; have u1 := cell_grown hg (cell_alloc _ s1) hn1'; have uy0 := frozen_grown hg (frozen_alloc _ (by omega) y0) (by simp; omega) hn1'; have uy1 := frozen_grown hg (frozen_alloc _ (by omega) y1) (by simp; omega) hn1'; clear hg halt hown3 s0 s1 y0 y1 hn1')
        go_roundw
        case rel => exact ⟨k + 1, _, (m + 1) + 1, A4, c5, by omega, by go_num, JB.snoc HJB.out ⟨x1, x2, x3, x4⟩, by first | (simp [HIL.out]; done) | (simp [HLEN.out]; done), by omega, HM.out, (World.cell?_setCell_other _ _ _ _ (by simp)).trans u0, cell_same u1, frozen_set _ _ uy0, frozen_set _ _ uy1, ownsRow_setCell_below hown5 (by simp) _, below_set _ (Nat.le_refl _) hb5, by simp; omega⟩
        case measure => simp [intOf]; omega
    · obtain rfl : k = l.length := by omega
      rw [List.drop_length, jnGo] at HM
      have c0 := cell_below' hbw C0
      have c1 := cell_below' hbw C1
      have g0 := frozen_below hbw (show _ from hs2) G0
      have g1 := frozen_below hbw (show _ from hs2) G1
      have t0 := cell_below' hbw S0
      have t1 := cell_below' hbw S1
      have ht0 : w1.heap.size < wr.heap.size := by omega
      have ht1 : w.heap.size + 1 < wr.heap.size := by omega
      have ht2 : w.heap.size < wr.heap.size := by omega
      have hne1 : ¬ v1.heap.size = w.heap.size + 1 := by omega
      have hne2 : ¬ w.heap.size + 1 = v1.heap.size := by omega
      have hlt' : ¬ l.length < l.length := hlt
      by_cases hn : n = 0
      · subst hn
        have hj : jnd l = l.take 1 := by unfold jnd; rw [HM.out, if_pos HLEN.out]
        have HJ := Lib.hid hj
        have hA1 : SlabsAt wr (some ⟨bb, off, none⟩) (l.take 1) := fun q z hz => (RowsAt.below AV hbw) q z (take1 hz)
        have hl1 : (l.take 1).length = 1 := by simp; omega
        have hsl : ∀ W, (Instr.sliceAt 22 (.slice (some ⟨bb, off, none⟩) l.length cap) none (some (.int .i64 1)) none).run Try.prog W = .ok (.slice (some ⟨bb, off, none⟩) 1 cap) W := fun W => by
          have h1 : 1 ≤ cap := by omega
          go_simp
          intro hx
          omega
        have hcl : ∀ W, SlabsAt W (some ⟨bb, off, none⟩) (l.take 1) → Calls Try.prog 92 #[.slice (some ⟨bb, off, none⟩) 1 cap] W fun e w' => ∃ A' c', e = .returned (.slice A' 1 c') ∧ w'.ownsRow W.heap.size 45 2 (.slice A' 1 c') 1 (cellsOf 2 slbC (l.take 1)) ∧ Below W.heap.size W w' := fun W hW => by
          have h := Clone_any ⟨bb, off, none⟩ (l.take 1) cap W (by omega) hW
          unfold ClonePost at h
          rwa [hl1] at h
        have HCL := Lib.hid hcl
        have HL1 := Lib.hid hl1
        clear hj hcl hl1
        go_wp2_with (fail)
        refine (HCL.out _ hA1).mono ?_
        rintro e w5 ⟨A5, c5, rfl, own5, hb5⟩
        have hbw5 : Below w.heap.size w w5 := (by repeat (first | assumption | exact Below.refl _ _ | refine Below.drew ?_ | (refine below_alloc _ ?_ ?_; focus (first | omega | (simp; done) | (simp; omega) | (simp at *; omega))) | (refine below_set _ ?_ ?_; focus (first | omega | (simp; done) | (simp; omega) | (simp at *; omega))) | refine below_drewN ?_ _ | (refine below_call (by assumption) ?_ ?_; focus (first | omega | (simp; done) | (simp; omega) | (simp at *; omega))) | (refine below_call' (by assumption) ?_ ?_; focus (first | omega | (simp; done) | (simp; omega) | (simp at *; omega)))))
        replace c0 := cell_below' hb5 c0
        replace c1 := cell_below' hb5 c1
        replace g0 := frozen_below hb5 (show _ from ht1) g0
        replace g1 := frozen_below hb5 (show _ from ht1) g1
        replace s0 := cell_below' hb5 s0
        replace s1 := cell_below' hb5 s1
        replace y0 := frozen_below hb5 (show _ from hsz) y0
        replace y1 := frozen_below hb5 (show _ from hsz) y1
        have ht3 : w.heap.size + 1 < w5.heap.size := by have := hb5.size; omega
        have ht4 : v1.heap.size < w5.heap.size := by have := hb5.size; omega
        clear hsl
        go_wp2
        refine bodyPost_ret (v := .tuple #[.agg #[.int .i64 base, .slice A5 1 c5], .int .i64 0]) (by simp [results, Try.results58, go_sem, c0, c1, s0, s1, ht3, ht4]) rfl ?_
        unfold JndPost
        rw [H1'.out, H2'.out, HJ.out, HL1.out, HC0.out]
        exact ⟨A5, c5, rfl, own_mono (ownsRow_setCell_below (ownsRow_setCell_below (ownsRow_setCell_below own5 (by simp; omega) _) (by simp; omega) _) (by simp; omega) _) (by omega), (by repeat (first | assumption | exact Below.refl _ _ | refine Below.drew ?_ | (refine below_alloc _ ?_ ?_; focus (first | omega | (simp; done) | (simp; omega) | (simp at *; omega))) | (refine below_set _ ?_ ?_; focus (first | omega | (simp; done) | (simp; omega) | (simp at *; omega))) | refine below_drewN ?_ _ | (refine below_call (by assumption) ?_ ?_; focus (first | omega | (simp; done) | (simp; omega) | (simp at *; omega))) | (refine below_call' (by assumption) ?_ ?_; focus (first | omega | (simp; done) | (simp; omega) | (simp at *; omega)))))⟩
      · have hj : jnd l = out := by unfold jnd; rw [HM.out, if_neg (by rw [HLEN.out]; exact hn)]
        have HJ := Lib.hid hj
        have hn' : ((n : Int) == 0) = false := by simp; omega
        clear hj
        go_wp2
        refine bodyPost_ret (v := .tuple #[.agg #[.int .i64 base, .slice A' n c'], .int .i64 0]) (by simp [results, Try.results58, go_sem, c0, c1, s0, s1, ht1, hsz]) rfl ?_
        unfold JndPost
        rw [H1'.out, H2'.out, HJ.out, HLEN.out, HC0.out]
        exact ⟨A', c', rfl, own_mono (ownsRow_setCell_below (ownsRow_setCell_below hown (by simp; omega) _) (by simp; omega) _) (by omega), (by repeat (first | assumption | exact Below.refl _ _ | refine Below.drew ?_ | (refine below_alloc _ ?_ ?_; focus (first | omega | (simp; done) | (simp; omega) | (simp at *; omega))) | (refine below_set _ ?_ ?_; focus (first | omega | (simp; done) | (simp; omega) | (simp at *; omega))) | refine below_drewN ?_ _ | (refine below_call (by assumption) ?_ ?_; focus (first | omega | (simp; done) | (simp; omega) | (simp at *; omega))) | (refine below_call' (by assumption) ?_ ?_; focus (first | omega | (simp; done) | (simp; omega) | (simp at *; omega)))))⟩
end Go.Proofs.Ytoegpaolbkcleaa
