/-
  Chapter 8: which stores are valid.
-/
import Derived.Test.YtcfbnmcdncndpaaWMsg
namespace Go.Proofs.Ytcfbnmcdncndpaa
open Go.ChangeShapes Go.WideShapes Go.ChangeAt Go.RowKit
set_option linter.unusedVariables false
set_option linter.unusedSimpArgs false

def ordS (p : Option Msg) (m : Msg) : Bool := match p with
  | none => true
  | some q => blt q.s m.s
def rowS (p : Option Msg) (m : Msg) : Int := firstE [msgE m, unl (ordS p m) 9]
def badS : Option Msg → List Msg → Nat → Int × Int
  | _, [], _ => (0, 0)
  | p, m :: r, i => if rowS p m = 0 then badS (some m) r (i + 1) else ((i : Int), rowS p m)
def chkS (l : List Msg) : Int × Int := if 30 < l.length then (0, 8) else badS none l 0
def prevM (l : List Msg) (k : Nat) : Option Msg := if k = 0 then none else l[k - 1]?
theorem badS_step {l : List Msg} {k : Nat} (hk : k < l.length) : badS (prevM l k) (l.drop k) k = if rowS (prevM l k) l[k] = 0 then badS (prevM l (k + 1)) (l.drop (k + 1)) (k + 1) else ((k : Int), rowS (prevM l k) l[k]) := by
  rw [List.drop_eq_getElem_cons hk, badS]
  have e : prevM l (k + 1) = some l[k] := by unfold prevM; rw [if_neg (by omega), Nat.add_sub_cancel, List.getElem?_eq_getElem hk]
  rw [e]
theorem firstE_cons0 {a b : Int} (h : a ≠ 0) : firstE [a, b] = a := by unfold firstE; rw [if_neg h]
theorem firstE_consz {b : Int} : firstE [0, b] = b := by
  unfold firstE; rw [if_pos rfl]; unfold firstE
  by_cases h : b = 0
  · rw [if_pos h, h]; rfl
  · rw [if_neg h]

set_option maxRecDepth 100000 in
set_option maxHeartbeats 2000000 in
theorem CheckStore_any (A : Option Addr) (l : List Msg) (cap : Nat) (w : World) (hl : l.length ≤ 300) (hn : ∀ m ∈ l, m.s.size ≤ 1000) (hA : MsgsAt w A l) :
    Calls Try.prog 62 #[.slice A l.length cap] w fun e w' => e = .returned (.tuple #[.int .i64 (chkS l).1, .int .i64 (chkS l).2]) ∧ Below w.heap.size w w' := by
  have hch : chkS l = if 30 < l.length then (0, 8) else badS none l 0 := rfl
  by_cases hlen : 30 < l.length
  · rw [if_pos hlen] at hch
    have HCH := Lib.hid hch
    have h1 : (30 : Int) < (l.length : Int) := by omega
    clear hch hlen
    go_enter Try.func62, Try.ntmps62
    go_wp2
    go_ret2
    rw [HCH.out]
    exact ⟨rfl, (by repeat (first | assumption | exact Below.refl _ _ | refine Below.drew ?_ | (refine below_alloc _ ?_ ?_; focus (first | omega | (simp; done) | (simp; omega) | (simp at *; omega))) | (refine below_set _ ?_ ?_; focus (first | omega | (simp; done) | (simp; omega) | (simp at *; omega))) | refine below_drewN ?_ _ | (refine below_call (by assumption) ?_ ?_; focus (first | omega | (simp; done) | (simp; omega) | (simp at *; omega))) | (refine below_call' (by assumption) ?_ ?_; focus (first | omega | (simp; done) | (simp; omega) | (simp at *; omega)))))⟩
  rw [if_neg hlen] at hch
  have HCH := Lib.hid hch
  have h1 : (l.length : Int) ≤ 30 := by omega
  clear hch hlen
  go_enter Try.func62, Try.ntmps62
  go_wp2
  go_loopw [12] (fun i wr => ∃ k : Nat, k ≤ l.length ∧ i = .int .i64 k ∧ badS none l 0 = badS (prevM l k) (l.drop k) k ∧ Below w.heap.size w wr) (fun i _ => l.length - (intOf i).toNat)
  case atStart => exact ⟨0, Nat.zero_le _, rfl, rfl, Below.refl _ _⟩
  case round =>
    obtain ⟨k, hk, rfl, hbr, hbw⟩ := hrel
    have HBR := Lib.hid hbr
    clear hbr
    have AR := RowsAt.below hA hbw
    by_cases hlt : k < l.length
    · obtain ⟨b1, o1, rfl, hb1, c0, c1, c2⟩ := MsgsAt.at_ AR hlt
      have hbs := badS_step hlt
      have hsz := hn l[k] (List.getElem_mem hlt)
      have HM := Lib.hid (fun W => messageErr_any l[k] W hsz)
      have hk1 : (k : Int) < (l.length : Int) := by omega
      go_upto_region 6 with (fail)
      have x0 : (wr.alloc (.cells #[.string l[k].s, .int .i64 l[k].v, .int .i64 l[k].l] 45)).cell? ⟨wr.heap.size, 0, none⟩ = some (.string l[k].s) := cell_new rfl rfl
      have x1 : (wr.alloc (.cells #[.string l[k].s, .int .i64 l[k].v, .int .i64 l[k].l] 45)).cell? ⟨wr.heap.size, 1, none⟩ = some (.int .i64 l[k].v) := cell_new rfl rfl
      have x2 : (wr.alloc (.cells #[.string l[k].s, .int .i64 l[k].v, .int .i64 l[k].l] 45)).cell? ⟨wr.heap.size, 2, none⟩ = some (.int .i64 l[k].l) := cell_new rfl rfl
      have hz : (wr.alloc (.cells #[.string l[k].s, .int .i64 l[k].v, .int .i64 l[k].l] 45)).heap.size = wr.heap.size + 1 := by simp
      have hb2 : Below wr.heap.size wr (wr.alloc (.cells #[.string l[k].s, .int .i64 l[k].v, .int .i64 l[k].l] 45)) := (by repeat (first | assumption | exact Below.refl _ _ | refine Below.drew ?_ | (refine below_alloc _ ?_ ?_; focus (first | omega | (simp; done) | (simp; omega) | (simp at *; omega))) | (refine below_set _ ?_ ?_; focus (first | omega | (simp; done) | (simp; omega) | (simp at *; omega))) | refine below_drewN ?_ _ | (refine below_call (by assumption) ?_ ?_; focus (first | omega | (simp; done) | (simp; omega) | (simp at *; omega))) | (refine below_call' (by assumption) ?_ ?_; focus (first | omega | (simp; done) | (simp; omega) | (simp at *; omega)))))
      generalize (wr.alloc (.cells #[.string l[k].s, .int .i64 l[k].v, .int .i64 l[k].l] 45)) = v at *
      have zv : wr.heap.size < v.heap.size := by omega
      have AV := RowsAt.below AR hb2
      have hbv : Below w.heap.size w v := hbw.trans (hb2.mono hbw.size)
      clear hz c0 c1 c2 hb2 hsz
      have hro : rowS (prevM l k) l[k] = firstE [msgE l[k], unl (ordS (prevM l k) l[k]) 9] := rfl
      have HRO := Lib.hid hro
      have HBS := Lib.hid hbs
      clear hro hbs
      go_cut [6] from 17 to 37 (fun t wx => t = .int .i64 (rowS (prevM l k) l[k]) ∧ Below v.heap.size v wx)
      case first =>
        by_cases h0 : k = 0
        · have hkz : ((k : Int) == 0) = true := by simpa using h0
          have hor : ordS (prevM l k) l[k] = true := by unfold prevM; rw [if_pos h0]; rfl
          have HOR := Lib.hid hor
          clear hor h0
          generalize l[k] = x at *
          (refine region_extx 17 (by kernel_rfl) (by kernel_rfl) fun hx => ?_; simp only [List.take_succ_cons, List.take_zero, List.drop_succ_cons, List.drop_zero]; (repeat (any_goals (first | go_big_quiet_step ((first | (go_at_call 104; with_reducible exact ext_call (HM.out _)) | (go_at_call 86; with_reducible exact ext_same (unless_any _ _ _)))) | quiet_step ((first | (go_at_call 104; with_reducible exact ext_call (HM.out _)) | (go_at_call 86; with_reducible exact ext_same (unless_any _ _ _))))))))
          (refine wpQuiet_nil ?_; clear hx; intro u; have hbw2 := ext_bel _ u; have hxw2 := ext_cell _ u; generalize ext _ u = w2 at *; clear u; have hsw2 := hbw2.size; (try simp at hsw2))
          go_wp2_with (go_at_call 84; refine (first2 _ _ _ _ (by simp) (cell_new (by simp) rfl) (cell_new (by simp) rfl)).mono ?_; rintro e w' ⟨rfl, rfl⟩)
          go_meet
          exact ⟨by rw [HRO.out, HOR.out], (by repeat (first | assumption | exact Below.refl _ _ | refine Below.drew ?_ | (refine below_alloc _ ?_ ?_; focus (first | omega | (simp; done) | (simp; omega) | (simp at *; omega))) | (refine below_set _ ?_ ?_; focus (first | omega | (simp; done) | (simp; omega) | (simp at *; omega))) | refine below_drewN ?_ _ | (refine below_call (by assumption) ?_ ?_; focus (first | omega | (simp; done) | (simp; omega) | (simp at *; omega))) | (refine below_call' (by assumption) ?_ ?_; focus (first | omega | (simp; done) | (simp; omega) | (simp at *; omega)))))⟩
        · obtain ⟨j, rfl⟩ : ∃ j, k = j + 1 := ⟨k - 1, by omega⟩
          have hj : j < l.length := by omega
          have hkz : (((j + 1 : Nat) : Int) == 0) = false := by simp; omega
          obtain ⟨b2, o2, hA2, hb2, d0, d1, d2⟩ := MsgsAt.at_ AV hj
          injection hA2 with hA2
          injection hA2 with e1 e2
          subst e1 e2
          have hor : ordS (prevM l (j + 1)) l[j + 1] = blt l[j].s l[j + 1].s := by
            unfold prevM; rw [if_neg h0, Nat.add_sub_cancel, List.getElem?_eq_getElem hj]; rfl
          have hj0 : (0 : Int) ≤ (j : Int) := by omega
          have hj1 : (j : Int) < (l.length : Int) := by omega
          have hkz2 : ((j : Int) + 1 == 0) = false := by simp; omega
          have hq1 : max 0 (j : Int) = (j : Int) := by omega
          have hq0 : IntKind.i64.wrap (j : Int) = (j : Int) := IntWalk.i64_in _ (by omega)
          clear h0 d1 d2
          generalize l[j + 1] = x at *
          generalize l[j] = y at *
          have hcmp : (blt y.s x.s = true ∧ Op.bytesLess x.s.toList y.s.toList = false ∧ (x.s.toList == y.s.toList) = false) ∨ (blt y.s x.s = false ∧ Op.bytesLess x.s.toList y.s.toList = true) ∨ (blt y.s x.s = false ∧ Op.bytesLess x.s.toList y.s.toList = false ∧ (x.s.toList == y.s.toList) = true) := by
            cases g1 : blt y.s x.s
            · cases g2 : blt x.s y.s
              · exact .inr (.inr ⟨rfl, g2, by rw [blt_tri g1 g2]; simp⟩)
              · exact .inr (.inl ⟨rfl, g2⟩)
            · exact .inl ⟨rfl, blt_asym g1, by
                simp only [beq_eq_false_iff_ne]
                exact fun e => blt_ne g1 (toList_inj e).symm⟩
          rcases hcmp with ⟨g0, g1, g2⟩ | ⟨g0, g1⟩ | ⟨g0, g1, g2⟩
          all_goals
            rw [g0] at hor
            have HOR := Lib.hid hor
            clear hor g0
            (refine region_extx 17 (by kernel_rfl) (by kernel_rfl) fun hx => ?_; simp only [List.take_succ_cons, List.take_zero, List.drop_succ_cons, List.drop_zero]; (repeat (any_goals (first | go_big_quiet_step ((first | (go_at_call 104; with_reducible exact ext_call (HM.out _)) | (go_at_call 86; with_reducible exact ext_same (unless_any _ _ _)))) | quiet_step ((first | (go_at_call 104; with_reducible exact ext_call (HM.out _)) | (go_at_call 86; with_reducible exact ext_same (unless_any _ _ _))))))))
            (refine wpQuiet_nil ?_; clear hx; intro u; have hbw2 := ext_bel _ u; have hxw2 := ext_cell _ u; generalize ext _ u = w2 at *; clear u; have hsw2 := hbw2.size; (try simp at hsw2))
            go_wp2_with (go_at_call 84; refine (first2 _ _ _ _ (by simp) (cell_new (by simp) rfl) (cell_new (by simp) rfl)).mono ?_; rintro e w' ⟨rfl, rfl⟩)
            go_meet
            exact ⟨by rw [HRO.out, HOR.out] <;> rfl, (by repeat (first | assumption | exact Below.refl _ _ | refine Below.drew ?_ | (refine below_alloc _ ?_ ?_; focus (first | omega | (simp; done) | (simp; omega) | (simp at *; omega))) | (refine below_set _ ?_ ?_; focus (first | omega | (simp; done) | (simp; omega) | (simp at *; omega))) | refine below_drewN ?_ _ | (refine below_call (by assumption) ?_ ?_; focus (first | omega | (simp; done) | (simp; omega) | (simp at *; omega))) | (refine below_call' (by assumption) ?_ ?_; focus (first | omega | (simp; done) | (simp; omega) | (simp at *; omega)))))⟩
      case rest =>
      obtain ⟨rfl, hbx⟩ := hcut
      have hbc : Below w.heap.size w wc := hbv.trans (hbx.mono hbv.size)
      clear hbx x0 x1 x2 AV HRO HM
      by_cases hro : rowS (prevM l k) l[k] = 0
      · have h2 := HBS.out
        rw [if_pos hro] at h2
        have HB2 := Lib.hid (HBR.out.trans h2)
        rw [hro]
        clear h2 hro HBS HBR
        go_wp2_with (fail)
        exact ⟨⟨k + 1, by omega, by go_num, HB2.out, hbc⟩, by simp [intOf]; omega⟩
      · have h2 := HBS.out
        rw [if_neg hro] at h2
        have HB2 := Lib.hid (HCH.out.trans (HBR.out.trans h2))
        have hE1 : (rowS (prevM l k) l[k] == 0) = false := by simpa using hro
        have hE2 : (rowS (prevM l k) l[k] != 0) = true := by simpa using hro
        clear h2 hro HBS HBR HCH
        generalize rowS (prevM l k) l[k] = E at *
        go_wp2_with (fail)
        go_ret2
        rw [HB2.out]
        exact ⟨rfl, hbc⟩
    · have hd : l.drop k = [] := List.drop_eq_nil_of_le (by omega)
      have h2 := HBR.out
      rw [hd, badS] at h2
      have HB2 := Lib.hid (HCH.out.trans h2)
      clear h2 hd HBR HCH
      go_wp2_with (fail)
      go_ret2
      rw [HB2.out]
      exact ⟨rfl, hbw⟩

def chkSE (l : List Msg) : Int := (chkS l).2
def OpenPost (l : List Msg) (w : World) (e : Ending) (w' : World) : Prop :=
  ∃ A' c', e = .returned (.tuple #[.slice A' l.length c', .int .i64 (chkSE l)]) ∧ w'.ownsRow w.heap.size 45 3 (.slice A' l.length c') l.length (cellsOf 3 msgC l) ∧ Below w.heap.size w w'
theorem openStore_any (A : Option Addr) (l : List Msg) (cap : Nat) (w : World) (hl : l.length ≤ 300) (hn : ∀ m ∈ l, m.s.size ≤ 1000) (hA : MsgsAt w A l) :
    Calls Try.prog 106 #[.slice A l.length cap] w (OpenPost l w) := by
  go_enter Try.func106, Try.ntmps106
  go_wp2_with (fail)
  refine (CheckStore_any A l cap _ hl hn hA).mono ?_
  rintro e w1 ⟨rfl, hb1⟩
  go_wp2_with (fail)
  refine (CloneM_any A l cap _ hl (hA.below hb1)).mono ?_
  rintro e w2 ⟨A', c', rfl, own, hb2⟩
  go_wp2_with (fail)
  go_ret2
  exact ⟨A', c', rfl, own_mono own hb1.size, hb1.trans (hb2.mono hb1.size)⟩

theorem cmp3 (y x : ByteArray) : (blt y x = true ∧ Op.bytesLess x.toList y.toList = false ∧ (x.toList == y.toList) = false) ∨ (blt y x = false ∧ Op.bytesLess x.toList y.toList = true) ∨ (blt y x = false ∧ Op.bytesLess x.toList y.toList = false ∧ (x.toList == y.toList) = true) := by
  cases g1 : blt y x
  · cases g2 : blt x y
    · exact .inr (.inr ⟨rfl, g2, by rw [blt_tri g1 g2]; simp⟩)
    · exact .inr (.inl ⟨rfl, g2⟩)
  · exact .inl ⟨rfl, blt_asym g1, by
      simp only [beq_eq_false_iff_ne]
      exact fun e => blt_ne g1 (toList_inj e).symm⟩
set_option maxRecDepth 100000 in
set_option maxHeartbeats 2000000 in
theorem RCheckStore_any (A : Option Addr) (l : List Msg) (cap : Nat) (w : World) (hl : l.length ≤ 300) (hA : MsgsAt w A l) :
    Calls Try.prog 65 #[.slice A l.length cap] w fun e w' => e = .returned (.tuple #[.int .i64 (chkS l).1, .int .i64 (chkS l).2]) ∧ Below w.heap.size w w' := by
  have hch : chkS l = if 30 < l.length then (0, 8) else badS none l 0 := rfl
  by_cases hlen : 30 < l.length
  · rw [if_pos hlen] at hch
    have HCH := Lib.hid hch
    have h1 : (30 : Int) < (l.length : Int) := by omega
    clear hch hlen
    go_enter Try.func65, Try.ntmps65
    go_wp2
    go_ret2
    rw [HCH.out]
    exact ⟨rfl, (by repeat (first | assumption | exact Below.refl _ _ | refine Below.drew ?_ | (refine below_alloc _ ?_ ?_; focus (first | omega | (simp; done) | (simp; omega) | (simp at *; omega))) | (refine below_set _ ?_ ?_; focus (first | omega | (simp; done) | (simp; omega) | (simp at *; omega))) | refine below_drewN ?_ _ | (refine below_call (by assumption) ?_ ?_; focus (first | omega | (simp; done) | (simp; omega) | (simp at *; omega))) | (refine below_call' (by assumption) ?_ ?_; focus (first | omega | (simp; done) | (simp; omega) | (simp at *; omega)))))⟩
  rw [if_neg hlen] at hch
  have HCH := Lib.hid hch
  have h1 : (l.length : Int) ≤ 30 := by omega
  clear hch hlen
  go_enter Try.func65, Try.ntmps65
  go_wp2
  go_loopw [4, 5] (fun i _ wr => ∃ k : Nat, k ≤ l.length ∧ i = .int .i64 k ∧ badS none l 0 = badS (prevM l k) (l.drop k) k ∧ Below w.heap.size w wr) (fun i _ _ => l.length - (intOf i).toNat)
  case atStart => exact ⟨0, Nat.zero_le _, rfl, rfl, Below.refl _ _⟩
  case round =>
    obtain ⟨k, hk, rfl, hbr, hbw⟩ := hrel
    have HBR := Lib.hid hbr
    clear hbr
    have AR := RowsAt.below hA hbw
    by_cases hlt : k < l.length
    · obtain ⟨b1, o1, rfl, hb1, c0, c1, c2⟩ := MsgsAt.at_ AR hlt
      have hbs := badS_step hlt
      have hk1 : (k : Int) < (l.length : Int) := by omega
      have hro : rowS (prevM l k) l[k] = firstE [msgE l[k], unl (ordS (prevM l k) l[k]) 9] := rfl
      have HBS := Lib.hid hbs
      clear hbs
      go_wp2_with (fail)
      refine (MessageErr_any _ _).mono ?_
      rintro e w1 ⟨rfl, hb2⟩
      have hbv : Below w.heap.size w w1 := hbw.trans (hb2.mono hbw.size)
      have AV := RowsAt.below AR hb2
      replace c0 := cell_below' hb2 c0
      clear hb2 c1 c2
      by_cases hm : msgE l[k] = 0
      · rw [hm, firstE_consz] at hro
        rw [hm]
        have HRO := Lib.hid hro
        clear hro hm
        by_cases h0 : k = 0
        · have hor : ordS (prevM l k) l[k] = true := by unfold prevM; rw [if_pos h0]; rfl
          have h2 := HBS.out
          rw [if_pos (by rw [HRO.out, hor]; rfl)] at h2
          have HB2 := Lib.hid (HBR.out.trans h2)
          have hkd : decide (0 < k) = false := by simpa using h0
          clear h2 hor h0 HBS HBR HRO
          generalize l[k] = x at *
          go_wp2_with (fail)
          go_quiet (fail)
          go_wp2_with (fail)
          exact ⟨⟨k + 1, by omega, by go_num, HB2.out, (by repeat (first | assumption | exact Below.refl _ _ | refine Below.drew ?_ | (refine below_alloc _ ?_ ?_; focus (first | omega | (simp; done) | (simp; omega) | (simp at *; omega))) | (refine below_set _ ?_ ?_; focus (first | omega | (simp; done) | (simp; omega) | (simp at *; omega))) | refine below_drewN ?_ _ | (refine below_call (by assumption) ?_ ?_; focus (first | omega | (simp; done) | (simp; omega) | (simp at *; omega))) | (refine below_call' (by assumption) ?_ ?_; focus (first | omega | (simp; done) | (simp; omega) | (simp at *; omega)))))⟩, by simp [intOf]; omega⟩
        · obtain ⟨j, rfl⟩ : ∃ j, k = j + 1 := ⟨k - 1, by omega⟩
          have hj : j < l.length := by omega
          obtain ⟨b2, o2, hA2, hb2, d0, d1, d2⟩ := MsgsAt.at_ AV hj
          injection hA2 with hA2
          injection hA2 with e1 e2
          subst e1 e2
          have hor : ordS (prevM l (j + 1)) l[j + 1] = blt l[j].s l[j + 1].s := by
            unfold prevM; rw [if_neg h0, Nat.add_sub_cancel, List.getElem?_eq_getElem hj]; rfl
          have hj0 : (0 : Int) ≤ (j : Int) := by omega
          have hj1 : (j : Int) < (l.length : Int) := by omega
          have hkd : (0 : Int) < (j : Int) + 1 := by omega
          have hj2 : (j : Int) + 1 < (l.length : Int) := by omega
          have hc := cmp3 l[j].s l[j + 1].s
          clear h0 d1 d2
          have HOR := Lib.hid hor
          clear hor
          generalize l[j + 1] = x at *
          generalize l[j] = y at *
          rcases hc with ⟨g0, g1, g2⟩ | ⟨g0, g1⟩ | ⟨g0, g1, g2⟩
          · have h2 := HBS.out
            rw [if_pos (by rw [HRO.out, HOR.out, g0]; rfl)] at h2
            have HB2 := Lib.hid (HBR.out.trans h2)
            clear h2 HOR HRO HBS HBR g0
            go_wp2_with (fail)
            go_quiet (fail)
            go_wp2_with (fail)
            exact ⟨⟨j + 1 + 1, by omega, by go_num, HB2.out, (by repeat (first | assumption | exact Below.refl _ _ | refine Below.drew ?_ | (refine below_alloc _ ?_ ?_; focus (first | omega | (simp; done) | (simp; omega) | (simp at *; omega))) | (refine below_set _ ?_ ?_; focus (first | omega | (simp; done) | (simp; omega) | (simp at *; omega))) | refine below_drewN ?_ _ | (refine below_call (by assumption) ?_ ?_; focus (first | omega | (simp; done) | (simp; omega) | (simp at *; omega))) | (refine below_call' (by assumption) ?_ ?_; focus (first | omega | (simp; done) | (simp; omega) | (simp at *; omega)))))⟩, by simp [intOf]; omega⟩
          all_goals
            have h2 := HBS.out
            rw [HRO.out, HOR.out, g0, if_neg (by decide)] at h2
            have HB2 := Lib.hid (HCH.out.trans (HBR.out.trans h2))
            clear h2 HOR HRO HBS HBR HCH g0
            go_wp2_with (fail)
            go_quiet (fail)
            go_wp2_with (fail)
            go_ret2
            rw [HB2.out]
            exact ⟨rfl, (by repeat (first | assumption | exact Below.refl _ _ | refine Below.drew ?_ | (refine below_alloc _ ?_ ?_; focus (first | omega | (simp; done) | (simp; omega) | (simp at *; omega))) | (refine below_set _ ?_ ?_; focus (first | omega | (simp; done) | (simp; omega) | (simp at *; omega))) | refine below_drewN ?_ _ | (refine below_call (by assumption) ?_ ?_; focus (first | omega | (simp; done) | (simp; omega) | (simp at *; omega))) | (refine below_call' (by assumption) ?_ ?_; focus (first | omega | (simp; done) | (simp; omega) | (simp at *; omega)))))⟩
      · rw [firstE_cons0 hm] at hro
        have h2 := HBS.out
        rw [hro, if_neg hm] at h2
        have HB2 := Lib.hid (HCH.out.trans (HBR.out.trans h2))
        have hE1 : (msgE l[k] == 0) = false := by simpa using hm
        have hE2 : (msgE l[k] != 0) = true := by simpa using hm
        clear h2 hm hro HBS HBR HCH
        generalize msgE l[k] = E at *
        go_wp2_with (fail)
        go_ret2
        rw [HB2.out]
        exact ⟨rfl, hbv⟩
    · have hd : l.drop k = [] := List.drop_eq_nil_of_le (by omega)
      have h2 := HBR.out
      rw [hd, badS] at h2
      have HB2 := Lib.hid (HCH.out.trans h2)
      clear h2 hd HBR HCH
      go_wp2_with (fail)
      go_ret2
      rw [HB2.out]
      exact ⟨rfl, hbw⟩
theorem StoreErr_any (A : Option Addr) (l : List Msg) (cap : Nat) (w : World) (hl : l.length ≤ 300) (hA : MsgsAt w A l) :
    Calls Try.prog 58 #[.slice A l.length cap] w fun e w' => e = .returned (.int .i64 (chkSE l)) ∧ Below w.heap.size w w' := by
  go_enter Try.func58, Try.ntmps58
  go_wp2_with (fail)
  refine (RCheckStore_any A l cap _ hl hA).mono ?_
  rintro e w1 ⟨rfl, hb1⟩
  go_wp2_with (fail)
  go_ret
  exact ⟨rfl, hb1⟩
end Go.Proofs.Ytcfbnmcdncndpaa
