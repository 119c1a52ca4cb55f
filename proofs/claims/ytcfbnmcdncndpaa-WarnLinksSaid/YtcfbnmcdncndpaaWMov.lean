/-
  Chapter 8: a move of a link.
-/
import Derived.Test.YtcfbnmcdncndpaaWTak
import Derived.Laws.StructEq
namespace Go.Proofs.Ytcfbnmcdncndpaa
open Go.ChangeShapes Go.WideShapes Go.ChangeAt Go.RowKit
set_option linter.unusedVariables false
set_option linter.unusedSimpArgs false

def isZ (m : Msg) : Bool := m.s.toList.isEmpty && (m.v == 0 && m.l == 0)
theorem eqZ (m : Msg) (w : World) : (binOp .eql 45 (.agg #[.string m.s, .int .i64 m.v, .int .i64 m.l]) (.agg #[.string ⟨#[]⟩, .int .i64 0, .int .i64 0])).run Try.prog w = .ok (.bool (isZ m)) w := by
  have hS : Try.prog.underlying 45 = some (.struct (Try.prog.fieldsOf 45)) := by kernel_rfl
  have hp : Try.prog.stoodInHeld 45 = false := by kernel_rfl
  rw [run_eql_struct, show (10000 : Nat) = 9999 + 1 from rfl, run_equalIn_agg w 9999 45 _ _ hS hp]
  simp only [Program.fieldsOf, Try.underlying45]
  unfold isZ
  cases h0 : m.s.toList.isEmpty <;> cases h1 : (m.v == 0) <;> cases h2 : (m.l == 0) <;> go_simp
def mvE0 (mv : Mv) : Int := firstE [unl (withinB mv.k 0 4) 15, unl ((!(mv.k == 0) || mv.i == 0) && (mv.k == 0 || isZ mv.m)) 3]
def pickM (l : List Msg) (i : Int) : Option Msg := if 0 ≤ i then l[i.toNat]? else none
def movL (L : Lnk) (mv : Mv) : Lnk × Int :=
  if mvE0 mv ≠ 0 then (L, mvE0 mv)
  else if mv.k = 0 then (if msgE mv.m = 0 then (⟨(recvM L.box mv.m).1, L.wire, L.store⟩, (recvM L.box mv.m).2) else (L, msgE mv.m))
  else if mv.k = 1 then (match pickM L.box mv.i with | none => (L, 6) | some m => sendL L ⟨m, false⟩)
  else match pickL L.wire mv.i with
    | none => (L, 6)
    | some p => if mv.k = 2 then (⟨L.box, delL L.wire mv.i.toNat, L.store⟩, 0) else if mv.k = 3 then sendL L p else takeL L mv.i.toNat p
theorem OkL.move {L : Lnk} {mv : Mv} (h : OkL L) : OkL (movL L mv).1 := by
  unfold movL
  split
  · exact h
  · split
    · split
      · exact ⟨recv_srt h.s1, h.s2, recv_len h.l1, h.l2, h.l3⟩
      · exact h
    · split
      · split
        · exact h
        · exact OkL.send h
      · split
        · exact h
        · split
          · exact ⟨h.s1, h.s2, h.l1, h.l2, Nat.le_trans (delL_le _ _) h.l3⟩
          · split
            · exact OkL.send h
            · exact OkL.take_ h

set_option maxRecDepth 100000 in
set_option maxHeartbeats 4000000 in
theorem moveP_any (B b : Nat) (L : Lnk) (i : Int) (m : Msg) (w : World) (h : LinkIn B b L w) (hB : B ≤ b) (hok : OkL L) (hs : m.s.size ≤ 1000) :
    Calls Try.prog 95 #[.pointer (some ⟨b, 0, none⟩), .agg #[.int .i64 0, .int .i64 i, .string m.s, .int .i64 m.v, .int .i64 m.l]] w (LinkE (movL L ⟨0, i, m⟩) B b w) := by
  obtain ⟨A1, c1, A2, c2, A3, c3, h⟩ := h
  have hl3 := hok.l3
  have hl2 := hok.l2
  have hl1 := hok.l1
  have hbl := h.lt
  have H := Lib.hid h
  have HOK := Lib.hid hok
  have HM := Lib.hid (fun W => messageErr_any m W hs)
  have hq : movL L ⟨0, i, m⟩ = if mvE0 ⟨0, i, m⟩ ≠ 0 then (L, mvE0 ⟨0, i, m⟩) else (if msgE m = 0 then (⟨(recvM L.box m).1, L.wire, L.store⟩, (recvM L.box m).2) else (L, msgE m)) := rfl
  have HQ := Lib.hid hq
  clear hq hs
  clear h hok
  go_enter Try.func95, Try.ntmps95
  go_upto_region 2 with (fail)
  have hbv : Below w.heap.size w (w.alloc (.cells #[.int .i64 0, .int .i64 i, .string m.s, .int .i64 m.v, .int .i64 m.l] 47)) := (by repeat (first | assumption | exact Below.refl _ _ | refine Below.drew ?_ | (refine below_alloc _ ?_ ?_; focus (first | omega | (simp; done) | (simp; omega) | (simp at *; omega))) | (refine below_set _ ?_ ?_; focus (first | omega | (simp; done) | (simp; omega) | (simp at *; omega))) | refine below_drewN ?_ _ | (refine below_call (by assumption) ?_ ?_; focus (first | omega | (simp; done) | (simp; omega) | (simp at *; omega))) | (refine below_call' (by assumption) ?_ ?_; focus (first | omega | (simp; done) | (simp; omega) | (simp at *; omega)))))
  have x0 : (w.alloc (.cells #[.int .i64 0, .int .i64 i, .string m.s, .int .i64 m.v, .int .i64 m.l] 47)).cell? ⟨w.heap.size, 0, none⟩ = some (.int .i64 0) := cell_new rfl rfl
  have x1 : (w.alloc (.cells #[.int .i64 0, .int .i64 i, .string m.s, .int .i64 m.v, .int .i64 m.l] 47)).cell? ⟨w.heap.size, 1, none⟩ = some (.int .i64 i) := cell_new rfl rfl
  have x2 : (w.alloc (.cells #[.int .i64 0, .int .i64 i, .string m.s, .int .i64 m.v, .int .i64 m.l] 47)).cell? ⟨w.heap.size, 2, none⟩ = some (.string m.s) := cell_new rfl rfl
  have x3 : (w.alloc (.cells #[.int .i64 0, .int .i64 i, .string m.s, .int .i64 m.v, .int .i64 m.l] 47)).cell? ⟨w.heap.size, 3, none⟩ = some (.int .i64 m.v) := cell_new rfl rfl
  have x4 : (w.alloc (.cells #[.int .i64 0, .int .i64 i, .string m.s, .int .i64 m.v, .int .i64 m.l] 47)).cell? ⟨w.heap.size, 4, none⟩ = some (.int .i64 m.l) := cell_new rfl rfl
  have hz : (w.alloc (.cells #[.int .i64 0, .int .i64 i, .string m.s, .int .i64 m.v, .int .i64 m.l] 47)).heap.size = w.heap.size + 1 := by simp
  generalize (w.alloc (.cells #[.int .i64 0, .int .i64 i, .string m.s, .int .i64 m.v, .int .i64 m.l] 47)) = v at *
  have zv : w.heap.size < v.heap.size := by omega
  have hbB : Below B w v := hbv.mono (by omega)
  have HV := Lib.hid (H.out.below hbv)
  have hme : mvE0 ⟨0, i, m⟩ = firstE [unl (withinB 0 0 4) 15, unl ((!(0 == 0) || i == 0) && (0 == 0 || isZ m)) 3] := rfl
  clear hz hbv H
  go_cut [6] from 13 to 35 (fun t wx => t = .int .i64 (mvE0 ⟨0, i, m⟩) ∧ Below v.heap.size v wx)
  case first =>
    cases h1 : (i == 0)
    all_goals
      rw [h1] at hme
    all_goals
      have HME := Lib.hid hme
      clear hme
      go_wp2_with (first | (go_at_call 88; refine (within_any 0 0 4 _).mono ?_; rintro e w' ⟨rfl, rfl⟩) | (go_at_call 86; refine (unless_any _ _ _).mono ?_; rintro e w' ⟨rfl, rfl⟩) | (go_at_call 84; refine (first2 _ _ _ _ (by simp) (cell_new (by simp) rfl) (cell_new (by simp) rfl)).mono ?_; rintro e w' ⟨rfl, rfl⟩))
      go_meet
      exact ⟨by rw [HME.out] <;> rfl, (by repeat (first | assumption | exact Below.refl _ _ | refine Below.drew ?_ | (refine below_alloc _ ?_ ?_; focus (first | omega | (simp; done) | (simp; omega) | (simp at *; omega))) | (refine below_set _ ?_ ?_; focus (first | omega | (simp; done) | (simp; omega) | (simp at *; omega))) | refine below_drewN ?_ _ | (refine below_call (by assumption) ?_ ?_; focus (first | omega | (simp; done) | (simp; omega) | (simp at *; omega))) | (refine below_call' (by assumption) ?_ ?_; focus (first | omega | (simp; done) | (simp; omega) | (simp at *; omega)))))⟩
  case rest =>
  obtain ⟨rfl, hbx⟩ := hcut
  replace x0 := cell_below' hbx x0
  replace x1 := cell_below' hbx x1
  replace x2 := cell_below' hbx x2
  replace x3 := cell_below' hbx x3
  replace x4 := cell_below' hbx x4
  have HL := Lib.hid (HV.out.below hbx)
  have hbw : Below B w wc := hbB.trans (hbx.mono (by omega))
  have zw : w.heap.size < wc.heap.size := by have := hbx.size; omega
  have zb := HL.out.lt
  clear hbx hbB HV zv
  generalize v = v0 at *
  clear hme
  have hq := HQ.out
  by_cases he : mvE0 ⟨0, i, m⟩ = 0
  rotate_left 1
  · rw [if_pos he] at hq
    have HQ2 := Lib.hid hq
    have hE1 : (mvE0 ⟨0, i, m⟩ == 0) = false := by simpa using he
    have hE2 : (mvE0 ⟨0, i, m⟩ != 0) = true := by simpa using he
    clear hq HQ he
    generalize mvE0 ⟨0, i, m⟩ = E at *
    go_wp2_with (fail)
    go_ret
    rw [HQ2.out]
    exact ⟨rfl, ⟨_, _, _, _, _, _, HL.out⟩, hbw⟩
  rw [if_neg (by rw [he]; decide)] at hq
  rw [he]
  clear HQ he
  have HQ := Lib.hid hq
  clear hq
  go_wp2_with (fail)
  refine (HM.out _).mono ?_
  rintro e w1 ⟨rfl, hb1⟩
  replace x2 := cell_below' hb1 x2
  replace x3 := cell_below' hb1 x3
  replace x4 := cell_below' hb1 x4
  have HL1 := Lib.hid (HL.out.below hb1)
  have hbw1 : Below B w w1 := hbw.trans (hb1.mono (by omega))
  have zw1 : w.heap.size < w1.heap.size := by have := hb1.size; omega
  clear hb1 HL hbw zw zb x0 x1 HM
  have zb1 := HL1.out.lt
  have hq := HQ.out
  by_cases hm : msgE m = 0
  rotate_left 1
  · rw [if_neg hm] at hq
    have HQ2 := Lib.hid hq
    have hE1 : (msgE m == 0) = false := by simpa using hm
    have hE2 : (msgE m != 0) = true := by simpa using hm
    clear hq HQ hm
    generalize msgE m = E at *
    go_wp2_with (fail)
    go_ret
    rw [HQ2.out]
    exact ⟨rfl, ⟨_, _, _, _, _, _, HL1.out⟩, hbw1⟩
  rw [if_pos hm] at hq
  have HQ2 := Lib.hid hq
  rw [hm]
  clear hq HQ hm
  go_wp2_with (fail)
  (refine region_extx 5 (by kernel_rfl) (by kernel_rfl) fun hx => ?_; simp only [List.take_succ_cons, List.take_zero, List.drop_succ_cons, List.drop_zero]; (repeat (any_goals (first | go_big_quiet_step (fail) | quiet_step (fail)))))
  (refine wpQuiet_nil ?_; clear hx; intro u; have hbw2 := ext_bel _ u; have hxw2 := ext_cell _ u; generalize ext _ u = w2 at *; clear u; have hsw2 := hbw2.size; (try simp at hsw2))
  have hb12 : Below w1.heap.size w1 w2 := (by repeat (first | assumption | exact Below.refl _ _ | refine Below.drew ?_ | (refine below_alloc _ ?_ ?_; focus (first | omega | (simp; done) | (simp; omega) | (simp at *; omega))) | (refine below_set _ ?_ ?_; focus (first | omega | (simp; done) | (simp; omega) | (simp at *; omega))) | refine below_drewN ?_ _ | (refine below_call (by assumption) ?_ ?_; focus (first | omega | (simp; done) | (simp; omega) | (simp at *; omega))) | (refine below_call' (by assumption) ?_ ?_; focus (first | omega | (simp; done) | (simp; omega) | (simp at *; omega)))))
  have HL2 := Lib.hid (HL1.out.below hb12)
  have hbe2 : Below B w w2 := hbw1.trans (hb12.mono (by omega))
  clear hb12 hbw2 hxw2 hsw2 HL1 hbw1 x2 x3 x4
  go_wp2_with (fail)
  refine (receive_any B b 0 A1 c1 #[.slice A1 L.box.length c1, .slice A2 L.store.length c2, .slice A3 L.wire.length c3] 153 L.box m w2 hl1 HOK.out.s1 (by have := HL2.out.lt; omega) HL2.out.blk rfl HL2.out.o1 HL2.out.d1).mono ?_
  rintro e w3 ⟨rfl, A', c', hp3, own3, ht3, hz3⟩
  have HLN := Lib.hid (HL2.out.box_ ht3 hp3 own3 hz3)
  have hbe3 : Below B w w3 := hbe2.trans (HL2.out.b1 hB ht3)
  clear hp3 own3 ht3 hz3 HL2 hbe2
  go_wp2_with (fail)
  go_ret
  rw [HQ2.out]
  exact ⟨rfl, ⟨_, _, _, _, _, _, HLN.out⟩, hbe3⟩
set_option maxRecDepth 100000 in
set_option maxHeartbeats 4000000 in
theorem moveQ_any (B b : Nat) (L : Lnk) (k : Int) (i : Int) (m : Msg) (w : World) (h : LinkIn B b L w) (hB : B ≤ b) (hok : OkL L) (hs : m.s.size ≤ 1000) (hk0 : k ≠ 0) :
    Calls Try.prog 95 #[.pointer (some ⟨b, 0, none⟩), .agg #[.int .i64 k, .int .i64 i, .string m.s, .int .i64 m.v, .int .i64 m.l]] w (LinkE (movL L ⟨k, i, m⟩) B b w) := by
  obtain ⟨A1, c1, A2, c2, A3, c3, h⟩ := h
  have hl3 := hok.l3
  have hl2 := hok.l2
  have hl1 := hok.l1
  have hbl := h.lt
  have H := Lib.hid h
  have HOK := Lib.hid hok
  have hq : movL L ⟨k, i, m⟩ = if mvE0 ⟨k, i, m⟩ ≠ 0 then (L, mvE0 ⟨k, i, m⟩)
    else if k = 1 then (match pickM L.box i with | none => (L, 6) | some m => sendL L ⟨m, false⟩)
    else match pickL L.wire i with
      | none => (L, 6)
      | some p => if k = 2 then (⟨L.box, delL L.wire i.toNat, L.store⟩, 0) else if k = 3 then sendL L p else takeL L i.toNat p := by
    have h9 : movL L ⟨k, i, m⟩ = if mvE0 ⟨k, i, m⟩ ≠ 0 then (L, mvE0 ⟨k, i, m⟩)
      else if k = 0 then (if msgE m = 0 then (⟨(recvM L.box m).1, L.wire, L.store⟩, (recvM L.box m).2) else (L, msgE m))
      else if k = 1 then (match pickM L.box i with | none => (L, 6) | some m => sendL L ⟨m, false⟩)
      else match pickL L.wire i with
        | none => (L, 6)
        | some p => if k = 2 then (⟨L.box, delL L.wire i.toNat, L.store⟩, 0) else if k = 3 then sendL L p else takeL L i.toNat p := rfl
    rw [h9, if_neg hk0]
  have HQ := Lib.hid hq
  have h0 : (k == 0) = false := by simpa using hk0
  clear hq hs hk0
  clear h hok
  go_enter Try.func95, Try.ntmps95
  go_upto_region 2 with (fail)
  have hbv : Below w.heap.size w (w.alloc (.cells #[.int .i64 k, .int .i64 i, .string m.s, .int .i64 m.v, .int .i64 m.l] 47)) := (by repeat (first | assumption | exact Below.refl _ _ | refine Below.drew ?_ | (refine below_alloc _ ?_ ?_; focus (first | omega | (simp; done) | (simp; omega) | (simp at *; omega))) | (refine below_set _ ?_ ?_; focus (first | omega | (simp; done) | (simp; omega) | (simp at *; omega))) | refine below_drewN ?_ _ | (refine below_call (by assumption) ?_ ?_; focus (first | omega | (simp; done) | (simp; omega) | (simp at *; omega))) | (refine below_call' (by assumption) ?_ ?_; focus (first | omega | (simp; done) | (simp; omega) | (simp at *; omega)))))
  have x0 : (w.alloc (.cells #[.int .i64 k, .int .i64 i, .string m.s, .int .i64 m.v, .int .i64 m.l] 47)).cell? ⟨w.heap.size, 0, none⟩ = some (.int .i64 k) := cell_new rfl rfl
  have x1 : (w.alloc (.cells #[.int .i64 k, .int .i64 i, .string m.s, .int .i64 m.v, .int .i64 m.l] 47)).cell? ⟨w.heap.size, 1, none⟩ = some (.int .i64 i) := cell_new rfl rfl
  have x2 : (w.alloc (.cells #[.int .i64 k, .int .i64 i, .string m.s, .int .i64 m.v, .int .i64 m.l] 47)).cell? ⟨w.heap.size, 2, none⟩ = some (.string m.s) := cell_new rfl rfl
  have x3 : (w.alloc (.cells #[.int .i64 k, .int .i64 i, .string m.s, .int .i64 m.v, .int .i64 m.l] 47)).cell? ⟨w.heap.size, 3, none⟩ = some (.int .i64 m.v) := cell_new rfl rfl
  have x4 : (w.alloc (.cells #[.int .i64 k, .int .i64 i, .string m.s, .int .i64 m.v, .int .i64 m.l] 47)).cell? ⟨w.heap.size, 4, none⟩ = some (.int .i64 m.l) := cell_new rfl rfl
  have hz : (w.alloc (.cells #[.int .i64 k, .int .i64 i, .string m.s, .int .i64 m.v, .int .i64 m.l] 47)).heap.size = w.heap.size + 1 := by simp
  generalize (w.alloc (.cells #[.int .i64 k, .int .i64 i, .string m.s, .int .i64 m.v, .int .i64 m.l] 47)) = v at *
  have zv : w.heap.size < v.heap.size := by omega
  have hbB : Below B w v := hbv.mono (by omega)
  have HV := Lib.hid (H.out.below hbv)
  have hme : mvE0 ⟨k, i, m⟩ = firstE [unl (withinB k 0 4) 15, unl ((!(k == 0) || i == 0) && (k == 0 || isZ m)) 3] := rfl
  clear hz hbv H
  go_cut [6] from 13 to 35 (fun t wx => t = .int .i64 (mvE0 ⟨k, i, m⟩) ∧ Below v.heap.size v wx)
  case first =>
    have heq := eqZ m
    rw [h0] at hme
    cases h1 : (i == 0) <;> cases h2 : isZ m
    all_goals
      rw [h1, h2] at hme
      rw [h2] at heq
    all_goals
      have HME := Lib.hid hme
      clear hme
      go_wp2_with (first | (go_at_call 88; refine (within_any k 0 4 _).mono ?_; rintro e w' ⟨rfl, rfl⟩) | (go_at_call 86; refine (unless_any _ _ _).mono ?_; rintro e w' ⟨rfl, rfl⟩) | (go_at_call 84; refine (first2 _ _ _ _ (by simp) (cell_new (by simp) rfl) (cell_new (by simp) rfl)).mono ?_; rintro e w' ⟨rfl, rfl⟩))
      go_meet
      exact ⟨by rw [HME.out] <;> rfl, (by repeat (first | assumption | exact Below.refl _ _ | refine Below.drew ?_ | (refine below_alloc _ ?_ ?_; focus (first | omega | (simp; done) | (simp; omega) | (simp at *; omega))) | (refine below_set _ ?_ ?_; focus (first | omega | (simp; done) | (simp; omega) | (simp at *; omega))) | refine below_drewN ?_ _ | (refine below_call (by assumption) ?_ ?_; focus (first | omega | (simp; done) | (simp; omega) | (simp at *; omega))) | (refine below_call' (by assumption) ?_ ?_; focus (first | omega | (simp; done) | (simp; omega) | (simp at *; omega)))))⟩
  case rest =>
  obtain ⟨rfl, hbx⟩ := hcut
  replace x0 := cell_below' hbx x0
  replace x1 := cell_below' hbx x1
  replace x2 := cell_below' hbx x2
  replace x3 := cell_below' hbx x3
  replace x4 := cell_below' hbx x4
  have HL := Lib.hid (HV.out.below hbx)
  have hbw : Below B w wc := hbB.trans (hbx.mono (by omega))
  have zw : w.heap.size < wc.heap.size := by have := hbx.size; omega
  have zb := HL.out.lt
  clear hbx hbB HV zv
  generalize v = v0 at *
  clear hme
  have hq := HQ.out
  by_cases he : mvE0 ⟨k, i, m⟩ = 0
  rotate_left 1
  · rw [if_pos he] at hq
    have HQ2 := Lib.hid hq
    have hE1 : (mvE0 ⟨k, i, m⟩ == 0) = false := by simpa using he
    have hE2 : (mvE0 ⟨k, i, m⟩ != 0) = true := by simpa using he
    clear hq HQ he
    generalize mvE0 ⟨k, i, m⟩ = E at *
    go_wp2_with (fail)
    go_ret
    rw [HQ2.out]
    exact ⟨rfl, ⟨_, _, _, _, _, _, HL.out⟩, hbw⟩
  rw [if_neg (by rw [he]; decide)] at hq
  have hk4 : 0 ≤ k ∧ k ≤ 4 := by
    unfold mvE0 at he
    rw [firstE2, unl_zero (by decide)] at he
    exact withinB_true.1 he.1
  rw [he]
  clear HQ he
  have HQ := Lib.hid hq
  clear hq x2 x3 x4
  by_cases hk1 : k = 1
  · subst hk1
    have hq : movL L ⟨1, i, m⟩ = match pickM L.box i with | none => (L, 6) | some m => sendL L ⟨m, false⟩ := HQ.out.trans (if_pos rfl)
    have q0 : IntKind.i64.wrap ((L.box.length : Int) - 1) = (L.box.length : Int) - 1 := IntWalk.i64_in _ (by omega)
    have p1 := HL.out.p1
    have hA := (rowsAt_of_own HL.out.o1 rfl (by decide) : MsgsAt wc A1 L.box)
    clear HQ
    by_cases hi : 0 ≤ i ∧ i < L.box.length
    · obtain ⟨j, rfl⟩ : ∃ j : Nat, i = j := ⟨i.toNat, by omega⟩
      have hj : j < L.box.length := by omega
      have hpk : pickM L.box j = some L.box[j] := by unfold pickM; rw [if_pos (by omega), Int.toNat_natCast, List.getElem?_eq_getElem hj]
      rw [hpk] at hq
      have HQ := Lib.hid hq
      have HW := Lib.hid (withinB_true.2 ⟨by omega, by omega⟩ : withinB (j : Int) 0 ((L.box.length : Int) - 1) = true)
      obtain ⟨b1, o1, rfl, hb1, d0, d1, d2⟩ := MsgsAt.at_ hA hj
      have hj1 : (j : Int) < (L.box.length : Int) := by omega
      clear hq hpk hi hA
      generalize L.box[j] = x at *
      have HS := Lib.hid (fun W => fun hW : LinkIn B b L W => send_any B b L ⟨x, false⟩ W hW hB)
      go_wp2_with (fail)
      (refine region_extx 9 (by kernel_rfl) (by kernel_rfl) fun hx => ?_; simp only [List.take_succ_cons, List.take_zero, List.drop_succ_cons, List.drop_zero]; (repeat (any_goals (first | go_big_quiet_step ((go_at_call 88; with_reducible exact ext_same (within_is _ _ _ _ _ HW.out))) | quiet_step ((go_at_call 88; with_reducible exact ext_same (within_is _ _ _ _ _ HW.out)))))))
      (refine wpQuiet_nil ?_; clear hx; intro u; have hbw2 := ext_bel _ u; have hxw2 := ext_cell _ u; generalize ext _ u = w2 at *; clear u; have hsw2 := hbw2.size; (try simp at hsw2))
      have hb12 : Below wc.heap.size wc w2 := (by repeat (first | assumption | exact Below.refl _ _ | refine Below.drew ?_ | (refine below_alloc _ ?_ ?_; focus (first | omega | (simp; done) | (simp; omega) | (simp at *; omega))) | (refine below_set _ ?_ ?_; focus (first | omega | (simp; done) | (simp; omega) | (simp at *; omega))) | refine below_drewN ?_ _ | (refine below_call (by assumption) ?_ ?_; focus (first | omega | (simp; done) | (simp; omega) | (simp at *; omega))) | (refine below_call' (by assumption) ?_ ?_; focus (first | omega | (simp; done) | (simp; omega) | (simp at *; omega)))))
      have HL2 := Lib.hid (HL.out.below hb12)
      have hbe2 : Below B w w2 := hbw.trans (hb12.mono (by omega))
      have zw2 : w.heap.size < w2.heap.size := by have := hb12.size; omega
      have zb2 := HL2.out.lt
      replace x1 := cell_below' hb12 x1
      replace p1 := cell_below' hb12 p1
      replace d0 := cell_below' hb12 d0
      replace d1 := cell_below' hb12 d1
      replace d2 := cell_below' hb12 d2
      replace hb1 : b1 < w2.heap.size := by have := hb12.size; omega
      clear hb12 hbw2 hxw2 hsw2 HL hbw x0 zw zb
      go_wp2_with (fail)
      (refine region_extx 10 (by kernel_rfl) (by kernel_rfl) fun hx => ?_; simp only [List.take_succ_cons, List.take_zero, List.drop_succ_cons, List.drop_zero]; (repeat (any_goals (first | go_big_quiet_step (fail) | quiet_step (fail)))))
      (refine wpQuiet_nil ?_; clear hx; intro u; have hbw3 := ext_bel _ u; have hxw3 := ext_cell _ u; generalize ext _ u = w3 at *; clear u; have hsw3 := hbw3.size; (try simp at hsw3))
      have hb23 : Below w2.heap.size w2 w3 := (by repeat (first | assumption | exact Below.refl _ _ | refine Below.drew ?_ | (refine below_alloc _ ?_ ?_; focus (first | omega | (simp; done) | (simp; omega) | (simp at *; omega))) | (refine below_set _ ?_ ?_; focus (first | omega | (simp; done) | (simp; omega) | (simp at *; omega))) | refine below_drewN ?_ _ | (refine below_call (by assumption) ?_ ?_; focus (first | omega | (simp; done) | (simp; omega) | (simp at *; omega))) | (refine below_call' (by assumption) ?_ ?_; focus (first | omega | (simp; done) | (simp; omega) | (simp at *; omega)))))
      have HL3 := Lib.hid (HL2.out.below hb23)
      have hbe3 : Below B w w3 := hbe2.trans (hb23.mono (by omega))
      clear hb23 hbw3 hxw3 hsw3 HL2 hbe2 x1 p1 d0 d1 d2
      go_wp2_with (fail)
      refine (HS.out _ ⟨_, _, _, _, _, _, HL3.out⟩).mono ?_
      rintro e w6 ⟨rfl, hln6, hbe6⟩
      have HLN6 := Lib.hid hln6
      clear hln6 HL3
      go_wp2_with (fail)
      go_ret
      rw [HQ.out]
      exact ⟨rfl, HLN6.out, hbe3.trans hbe6⟩
    · have hpk : pickM L.box i = none := by
        unfold pickM
        by_cases h0 : 0 ≤ i
        · rw [if_pos h0]; exact List.getElem?_eq_none (by omega)
        · rw [if_neg h0]
      rw [hpk] at hq
      have HQ := Lib.hid hq
      have HW := Lib.hid (withinB_false.2 (by omega) : withinB i 0 ((L.box.length : Int) - 1) = false)
      clear hq hpk hi hA
      go_wp2_with (fail)
      (refine region_extx 9 (by kernel_rfl) (by kernel_rfl) fun hx => ?_; simp only [List.take_succ_cons, List.take_zero, List.drop_succ_cons, List.drop_zero]; (repeat (any_goals (first | go_big_quiet_step ((go_at_call 88; with_reducible exact ext_same (within_is _ _ _ _ _ HW.out))) | quiet_step ((go_at_call 88; with_reducible exact ext_same (within_is _ _ _ _ _ HW.out)))))))
      (refine wpQuiet_nil ?_; clear hx; intro u; have hbw2 := ext_bel _ u; have hxw2 := ext_cell _ u; generalize ext _ u = w2 at *; clear u; have hsw2 := hbw2.size; (try simp at hsw2))
      have hb12 : Below wc.heap.size wc w2 := (by repeat (first | assumption | exact Below.refl _ _ | refine Below.drew ?_ | (refine below_alloc _ ?_ ?_; focus (first | omega | (simp; done) | (simp; omega) | (simp at *; omega))) | (refine below_set _ ?_ ?_; focus (first | omega | (simp; done) | (simp; omega) | (simp at *; omega))) | refine below_drewN ?_ _ | (refine below_call (by assumption) ?_ ?_; focus (first | omega | (simp; done) | (simp; omega) | (simp at *; omega))) | (refine below_call' (by assumption) ?_ ?_; focus (first | omega | (simp; done) | (simp; omega) | (simp at *; omega)))))
      have HL2 := Lib.hid (HL.out.below hb12)
      have hbe2 : Below B w w2 := hbw.trans (hb12.mono (by omega))
      clear hb12 hbw2 hxw2 hsw2 HL hbw
      go_wp2_with (fail)
      go_ret
      rw [HQ.out]
      exact ⟨rfl, ⟨_, _, _, _, _, _, HL2.out⟩, hbe2⟩
  have hq := HQ.out.trans (if_neg hk1)
  have hk1' : (k == 1) = false := by simpa using hk1
  have HPK := Lib.hid (fun W => fun hW : LinkIn B b L W => picked_any B b L i W hW hl3)
  clear HQ
  rcases hpk : pickL L.wire i with _ | p
  · rw [hpk] at hq
    have HQ := Lib.hid hq
    have HP := Lib.hid hpk
    clear hq hpk
    go_wp2_with (fail)
    refine (HPK.out _ ⟨_, _, _, _, _, _, HL.out⟩).mono ?_
    rintro e w1 ⟨he, hb1⟩
    rw [HP.out] at he
    obtain rfl : e = .returned (.tuple #[.agg #[.string ⟨#[]⟩, .int .i64 0, .int .i64 0, .bool false], .bool false]) := he
    have HL1 := Lib.hid (HL.out.below hb1)
    have hbe1 : Below B w w1 := hbw.trans (hb1.mono (by omega))
    have hB1 : B ≤ w1.heap.size := by have := HL1.out.lt; omega
    clear hb1
    go_wp2_with (fail)
    go_ret
    rw [HQ.out]
    exact ⟨rfl, ⟨_, _, _, _, _, _, HL1.out.below (by repeat (first | assumption | exact Below.refl _ _ | refine Below.drew ?_ | (refine below_alloc _ ?_ ?_; focus (first | omega | (simp; done) | (simp; omega) | (simp at *; omega))) | (refine below_set _ ?_ ?_; focus (first | omega | (simp; done) | (simp; omega) | (simp at *; omega))) | refine below_drewN ?_ _ | (refine below_call (by assumption) ?_ ?_; focus (first | omega | (simp; done) | (simp; omega) | (simp at *; omega))) | (refine below_call' (by assumption) ?_ ?_; focus (first | omega | (simp; done) | (simp; omega) | (simp at *; omega)))))⟩, (by repeat (first | assumption | exact Below.refl _ _ | refine Below.drew ?_ | (refine below_alloc _ ?_ ?_; focus (first | omega | (simp; done) | (simp; omega) | (simp at *; omega))) | (refine below_set _ ?_ ?_; focus (first | omega | (simp; done) | (simp; omega) | (simp at *; omega))) | refine below_drewN ?_ _ | (refine below_call (by assumption) ?_ ?_; focus (first | omega | (simp; done) | (simp; omega) | (simp at *; omega))) | (refine below_call' (by assumption) ?_ ?_; focus (first | omega | (simp; done) | (simp; omega) | (simp at *; omega)))))⟩
  · have hi0 : 0 ≤ i := by
      unfold pickL at hpk
      by_cases h : 0 ≤ i
      · exact h
      · rw [if_neg h] at hpk; cases hpk
    obtain ⟨j, rfl⟩ : ∃ j : Nat, i = j := ⟨i.toNat, by omega⟩
    have hpk2 : L.wire[j]? = some p := by
      unfold pickL at hpk
      rw [if_pos hi0, Int.toNat_natCast] at hpk
      exact hpk
    have hj : j < L.wire.length := (List.getElem?_eq_some_iff.1 hpk2).1
    have hj1 : (j : Int) < (L.wire.length : Int) := by omega
    have hj60 : (j : Int) < 60 := by omega
    rw [hpk, Int.toNat_natCast] at hq
    have hq2 : movL L ⟨k, j, m⟩ = if k = 2 then (⟨L.box, delL L.wire j, L.store⟩, 0) else if k = 3 then sendL L p else takeL L j p := hq
    have HQ := Lib.hid hq2
    have HP := Lib.hid hpk
    clear hq hpk hpk2 hq2
    have HS := Lib.hid (fun W => fun hW : LinkIn B b L W => send_any B b L p W hW hB)
    have HT := Lib.hid (fun W => fun hW : LinkIn B b L W => take_any B b L j p W hW hB HOK.out hj)
    have hcs : k = 2 ∨ k = 3 ∨ k = 4 := by
      have := hk4.1; have := hk4.2
      have h9 : k ≠ 0 := by simpa using h0
      omega
    rcases hcs with rfl | rfl | rfl
    · have hq := HQ.out.trans (if_pos rfl)
      have HQ2 := Lib.hid hq
      clear HQ hq HT HS
      go_wp2_with (fail)
      refine (HPK.out _ ⟨_, _, _, _, _, _, HL.out⟩).mono ?_
      rintro e w1 ⟨he, hb1⟩
      rw [HP.out] at he
      obtain rfl : e = .returned (.tuple #[.agg #[.string p.m.s, .int .i64 p.m.v, .int .i64 p.m.l, .bool p.a], .bool true]) := he
      have hb1v : Below wc.heap.size wc (w1.alloc (.cells #[.string p.m.s, .int .i64 p.m.v, .int .i64 p.m.l, .bool p.a] 150)) := (by repeat (first | assumption | exact Below.refl _ _ | refine Below.drew ?_ | (refine below_alloc _ ?_ ?_; focus (first | omega | (simp; done) | (simp; omega) | (simp at *; omega))) | (refine below_set _ ?_ ?_; focus (first | omega | (simp; done) | (simp; omega) | (simp at *; omega))) | refine below_drewN ?_ _ | (refine below_call (by assumption) ?_ ?_; focus (first | omega | (simp; done) | (simp; omega) | (simp at *; omega))) | (refine below_call' (by assumption) ?_ ?_; focus (first | omega | (simp; done) | (simp; omega) | (simp at *; omega)))))
      replace x0 := cell_below' hb1 x0
      replace x1 := cell_below' hb1 x1
      have zb1 : b < w1.heap.size := by have := hb1.size; omega
      have zw1 : w.heap.size < w1.heap.size := by have := hb1.size; omega
      have HL1 := Lib.hid (HL.out.below hb1v)
      have hbe1 : Below B w (w1.alloc (.cells #[.string p.m.s, .int .i64 p.m.v, .int .i64 p.m.l, .bool p.a] 150)) := hbw.trans (hb1v.mono (by omega))
      clear hb1 hb1v HL hbw HPK
      go_wp2_with (fail)
      replace x0 := cell_alloc (.cells #[.string p.m.s, .int .i64 p.m.v, .int .i64 p.m.l, .bool p.a] 150) x0
      replace x1 := cell_alloc (.cells #[.string p.m.s, .int .i64 p.m.v, .int .i64 p.m.l, .bool p.a] 150) x1
      replace zb1 : b < (w1.alloc (.cells #[.string p.m.s, .int .i64 p.m.v, .int .i64 p.m.l, .bool p.a] 150)).heap.size := by simp; omega
      clear zw1
      generalize (w1.alloc (.cells #[.string p.m.s, .int .i64 p.m.v, .int .i64 p.m.l, .bool p.a] 150)) = w2 at *
      have p2 := HL1.out.p3
      have q0 : IntKind.i64.wrap ((j : Int) + 1) = (j : Int) + 1 := IntWalk.i64_in _ (by omega)
      have HD := Lib.hid (fun W (h2 : W.ownsRow B 150 4 (.slice A3 L.wire.length c3) L.wire.length (cellsOf 4 pktC L.wire)) => DelP_any B A3 c3 L.wire j W (by omega) hj h2)
      go_region_law ((go_simp; go_at_call 121; (with_reducible refine (HD.out _ ?_).mono ?_); (focus (exact own_below HL1.out.o3 (by repeat (first | assumption | exact Below.refl _ _ | refine Below.drew ?_ | (refine below_alloc _ ?_ ?_; focus (first | omega | (simp; done) | (simp; omega) | (simp at *; omega))) | (refine below_set _ ?_ ?_; focus (first | omega | (simp; done) | (simp; omega) | (simp at *; omega))) | refine below_drewN ?_ _ | (refine below_call (by assumption) ?_ ?_; focus (first | omega | (simp; done) | (simp; omega) | (simp at *; omega))) | (refine below_call' (by assumption) ?_ ?_; focus (first | omega | (simp; done) | (simp; omega) | (simp at *; omega))))))); rintro e w4 ⟨rfl, own4, hg4⟩; have hp4 : w4.heap[b]? = some (.cells #[.slice A1 L.box.length c1, .slice A2 L.store.length c2, .slice A3 L.wire.length c3] 153 (0, 0)) := (hg4.block b zb1 (fun e => HL1.out.d3 e.symm)).trans HL1.out.blk; have p4 : w4.cell? ⟨b, 2, none⟩ = some (.slice A3 L.wire.length c3) := blk_cell hp4 rfl; have f4 : w4.frozen? ⟨b, 2, none⟩ = false := blk_frozen hp4))
      all_goals
        have hob : Value.ownBlock (.slice A3 (delL L.wire j).length c3) = Value.ownBlock (.slice A3 L.wire.length c3) := by cases A3 <;> rfl
        have ht : Turned w2 (w4.setCell ⟨b, 2, none⟩ (.slice A3 (delL L.wire j).length c3)) b (Value.ownBlock (.slice A3 L.wire.length c3)) := (Turned.of_grown (grown_drew0 hg4)).set_ _
        have HLN := Lib.hid (HL1.out.wire_ ht (heap_set hp4) (own_set own4 (by rw [hob]; exact HL1.out.d3) _) (.inl hob))
        have hbe4 : Below B w (w4.setCell ⟨b, 2, none⟩ (.slice A3 (delL L.wire j).length c3)) := hbe1.trans (HL1.out.b3 hB ht)
        clear ht hob own4 hg4 hp4 p4 f4 x0 x1 p2 q0
        go_wp2_with (fail)
        go_ret
        rw [HQ2.out]
        exact ⟨rfl, ⟨_, _, _, _, _, _, HLN.out⟩, hbe4⟩
    · have hq := HQ.out.trans ((if_neg (by decide)).trans (if_pos rfl))
      have HQ2 := Lib.hid hq
      clear HQ hq HT
      go_wp2_with (fail)
      refine (HPK.out _ ⟨_, _, _, _, _, _, HL.out⟩).mono ?_
      rintro e w1 ⟨he, hb1⟩
      rw [HP.out] at he
      obtain rfl : e = .returned (.tuple #[.agg #[.string p.m.s, .int .i64 p.m.v, .int .i64 p.m.l, .bool p.a], .bool true]) := he
      replace x0 := cell_below' hb1 x0
      have zw1 : w.heap.size < w1.heap.size := by have := hb1.size; omega
      have HL1 := Lib.hid (HL.out.below hb1)
      have hbe1 : Below B w w1 := hbw.trans (hb1.mono (by omega))
      have hB1 : B ≤ w1.heap.size := by have := HL1.out.lt; omega
      clear hb1 HL hbw HPK x1
      go_wp2_with (fail)
      refine (HS.out _ ⟨_, _, _, _, _, _, HL1.out.below (by repeat (first | assumption | exact Below.refl _ _ | refine Below.drew ?_ | (refine below_alloc _ ?_ ?_; focus (first | omega | (simp; done) | (simp; omega) | (simp at *; omega))) | (refine below_set _ ?_ ?_; focus (first | omega | (simp; done) | (simp; omega) | (simp at *; omega))) | refine below_drewN ?_ _ | (refine below_call (by assumption) ?_ ?_; focus (first | omega | (simp; done) | (simp; omega) | (simp at *; omega))) | (refine below_call' (by assumption) ?_ ?_; focus (first | omega | (simp; done) | (simp; omega) | (simp at *; omega)))))⟩).mono ?_
      rintro e w6 ⟨rfl, hln6, hbe6⟩
      have HLN6 := Lib.hid hln6
      have hbe7 : Below B w w6 := Below.trans (by repeat (first | assumption | exact Below.refl _ _ | refine Below.drew ?_ | (refine below_alloc _ ?_ ?_; focus (first | omega | (simp; done) | (simp; omega) | (simp at *; omega))) | (refine below_set _ ?_ ?_; focus (first | omega | (simp; done) | (simp; omega) | (simp at *; omega))) | refine below_drewN ?_ _ | (refine below_call (by assumption) ?_ ?_; focus (first | omega | (simp; done) | (simp; omega) | (simp at *; omega))) | (refine below_call' (by assumption) ?_ ?_; focus (first | omega | (simp; done) | (simp; omega) | (simp at *; omega))))) hbe6
      clear hln6 HL1 hbe6 hbe1
      go_wp2_with (fail)
      go_ret
      rw [HQ2.out]
      exact ⟨rfl, HLN6.out, hbe7⟩
    · have hq := HQ.out.trans ((if_neg (by decide)).trans (if_neg (by decide)))
      have HQ2 := Lib.hid hq
      clear HQ hq HS
      go_wp2_with (fail)
      refine (HPK.out _ ⟨_, _, _, _, _, _, HL.out⟩).mono ?_
      rintro e w1 ⟨he, hb1⟩
      rw [HP.out] at he
      obtain rfl : e = .returned (.tuple #[.agg #[.string p.m.s, .int .i64 p.m.v, .int .i64 p.m.l, .bool p.a], .bool true]) := he
      replace x0 := cell_below' hb1 x0
      replace x1 := cell_below' hb1 x1
      have zw1 : w.heap.size < w1.heap.size := by have := hb1.size; omega
      have HL1 := Lib.hid (HL.out.below hb1)
      have hbe1 : Below B w w1 := hbw.trans (hb1.mono (by omega))
      have hB1 : B ≤ w1.heap.size := by have := HL1.out.lt; omega
      clear hb1 HL hbw HPK
      go_wp2_with (fail)
      refine (HT.out _ ⟨_, _, _, _, _, _, HL1.out.below (by repeat (first | assumption | exact Below.refl _ _ | refine Below.drew ?_ | (refine below_alloc _ ?_ ?_; focus (first | omega | (simp; done) | (simp; omega) | (simp at *; omega))) | (refine below_set _ ?_ ?_; focus (first | omega | (simp; done) | (simp; omega) | (simp at *; omega))) | refine below_drewN ?_ _ | (refine below_call (by assumption) ?_ ?_; focus (first | omega | (simp; done) | (simp; omega) | (simp at *; omega))) | (refine below_call' (by assumption) ?_ ?_; focus (first | omega | (simp; done) | (simp; omega) | (simp at *; omega)))))⟩).mono ?_
      rintro e w6 ⟨rfl, hln6, hbe6⟩
      have HLN6 := Lib.hid hln6
      have hbe7 : Below B w w6 := Below.trans (by repeat (first | assumption | exact Below.refl _ _ | refine Below.drew ?_ | (refine below_alloc _ ?_ ?_; focus (first | omega | (simp; done) | (simp; omega) | (simp at *; omega))) | (refine below_set _ ?_ ?_; focus (first | omega | (simp; done) | (simp; omega) | (simp at *; omega))) | refine below_drewN ?_ _ | (refine below_call (by assumption) ?_ ?_; focus (first | omega | (simp; done) | (simp; omega) | (simp at *; omega))) | (refine below_call' (by assumption) ?_ ?_; focus (first | omega | (simp; done) | (simp; omega) | (simp at *; omega))))) hbe6
      clear hln6 HL1 hbe6 hbe1
      go_wp2_with (fail)
      go_ret
      rw [HQ2.out]
      exact ⟨rfl, HLN6.out, hbe7⟩
theorem move_any (B b : Nat) (L : Lnk) (k i : Int) (m : Msg) (w : World) (h : LinkIn B b L w) (hB : B ≤ b) (hok : OkL L) (hs : m.s.size ≤ 1000) :
    Calls Try.prog 95 #[.pointer (some ⟨b, 0, none⟩), .agg #[.int .i64 k, .int .i64 i, .string m.s, .int .i64 m.v, .int .i64 m.l]] w (LinkE (movL L ⟨k, i, m⟩) B b w) := by
  by_cases hk : k = 0
  · subst hk; exact moveP_any B b L i m w h hB hok hs
  · exact moveQ_any B b L k i m w h hB hok hs hk
end Go.Proofs.Ytcfbnmcdncndpaa
