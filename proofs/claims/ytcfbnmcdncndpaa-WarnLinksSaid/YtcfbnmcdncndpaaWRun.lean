/-
  Chapter 8: a link opened (openLink, CheckLink), written, moved, run.
-/
import Derived.Test.YtcfbnmcdncndpaaWMov
namespace Go.Proofs.Ytcfbnmcdncndpaa
open Go.ChangeShapes Go.WideShapes Go.ChangeAt Go.RowKit
set_option linter.unusedVariables false
set_option linter.unusedSimpArgs false

def mvC (x : Mv) (j : Nat) : Value := match j with
  | 0 => .int .i64 x.k
  | 1 => .int .i64 x.i
  | 2 => .string x.m.s
  | 3 => .int .i64 x.m.v
  | _ => .int .i64 x.m.l
abbrev MvsAt := RowsAt 5 mvC
theorem MvsAt.at_ {w : World} {A : Option Addr} {l : List Mv} (h : MvsAt w A l) {k : Nat} (hk : k < l.length) :
    ∃ b off, A = some ⟨b, off, none⟩ ∧ b < w.heap.size ∧ w.cell? ⟨b, off + k * 5, none⟩ = some (.int .i64 l[k].k) ∧ w.cell? ⟨b, off + k * 5 + 1, none⟩ = some (.int .i64 l[k].i) ∧ w.cell? ⟨b, off + k * 5 + 2, none⟩ = some (.string l[k].m.s) ∧ w.cell? ⟨b, off + k * 5 + 3, none⟩ = some (.int .i64 l[k].m.v) ∧ w.cell? ⟨b, off + k * 5 + 4, none⟩ = some (.int .i64 l[k].m.l) := by
  obtain ⟨b, off, e, hb, hc⟩ := h k l[k] (List.getElem?_eq_getElem hk)
  exact ⟨b, off, e, hb, by simpa [mvC] using hc 0 (by omega), by simpa [mvC] using hc 1 (by omega), by simpa [mvC] using hc 2 (by omega), by simpa [mvC] using hc 3 (by omega), by simpa [mvC] using hc 4 (by omega)⟩
def CopyPPost (l : List Pkt) (w : World) (e : Ending) (w' : World) : Prop :=
  ∃ A' c', e = .returned (.slice A' l.length c') ∧ w'.ownsRow w.heap.size 150 4 (.slice A' l.length c') l.length (cellsOf 4 pktC l) ∧ Below w.heap.size w w'
set_option maxHeartbeats 1000000 in
theorem CloneP_any (B : Option Addr) (l : List Pkt) (cap : Nat) (w : World) (hl : l.length ≤ 300) (hB : PktsAt w B l) :
    Calls Try.prog 118 #[.slice B l.length cap] w (CopyPPost l w) := by
  obtain ⟨i0, hi0, hz0, hz1, hz2⟩ := infoPkt_
  have q : ∀ (w : World) (a : Option Addr) (n c n' c' : Nat), (binOp .eql 39 (.slice a n c) (.slice none n' c')).run Try.prog w = .ok (.bool a.isNone) w := fun w a n c n' c' => Lib.run_eql_slice_nil w _ _ a n c n' c' Try.underlying39
  cases B with
  | none =>
    have h0 := RowsAt.nil_len hB
    obtain rfl : l = [] := List.eq_nil_of_length_eq_zero h0
    go_enter Try.func118, Try.ntmps118
    go_wp2
    go_ret
    exact ⟨none, 0, rfl, World.ownsRow_nil _ _ _ _, (by repeat (first | assumption | exact Below.refl _ _ | refine Below.drew ?_ | (refine below_alloc _ ?_ ?_; focus (first | omega | (simp; done) | (simp; omega) | (simp at *; omega))) | (refine below_set _ ?_ ?_; focus (first | omega | (simp; done) | (simp; omega) | (simp at *; omega))) | refine below_drewN ?_ _ | (refine below_call (by assumption) ?_ ?_; focus (first | omega | (simp; done) | (simp; omega) | (simp at *; omega))) | (refine below_call' (by assumption) ?_ ?_; focus (first | omega | (simp; done) | (simp; omega) | (simp at *; omega)))))⟩
  | some b =>
    go_enter Try.func118, Try.ntmps118
    go_wp2_with (at_builtin; (refine wpList_append_rows _ rfl (.tmp 5) (.tmp 6) 39 rfl w.heap.size 150 i0 (.agg #[.string ⟨#[]⟩, .int .i64 0, .int .i64 0, .bool false]) 4 40 Try.underlying39 hi0 hz0 hz1 hz2 rfl (by decide) (some ⟨w.heap.size, 0, none⟩) 0 0 [] rfl (own_empty (Nat.le_refl _) (heap_alloc_new _ _)) (some b) l.length cap (cellsOf 4 pktC l) rfl (cellsOf_length l) (fun e => by cases e) (fun ad e => by cases e; exact RowsAt.news (RowsAt.below hB (by repeat (first | assumption | exact Below.refl _ _ | refine Below.drew ?_ | (refine below_alloc _ ?_ ?_; focus (first | omega | (simp; done) | (simp; omega) | (simp at *; omega))) | (refine below_set _ ?_ ?_; focus (first | omega | (simp; done) | (simp; omega) | (simp at *; omega))) | refine below_drewN ?_ _ | (refine below_call (by assumption) ?_ ?_; focus (first | omega | (simp; done) | (simp; omega) | (simp at *; omega))) | (refine below_call' (by assumption) ?_ ?_; focus (first | omega | (simp; done) | (simp; omega) | (simp at *; omega)))))) (by decide)) mem_oneP (by unfold maxLen; omega) (by omega) (by simp) ?_; intro A' c' w1 hown hg _; rw [Nat.zero_add, List.nil_append] at hown; (try rw [Nat.zero_add]); have hb1 : Below w.heap.size w w1 := grown_below hg (by omega) (by omega) (by repeat (first | assumption | exact Below.refl _ _ | refine Below.drew ?_ | (refine below_alloc _ ?_ ?_; focus (first | omega | (simp; done) | (simp; omega) | (simp at *; omega))) | (refine below_set _ ?_ ?_; focus (first | omega | (simp; done) | (simp; omega) | (simp at *; omega))) | refine below_drewN ?_ _ | (refine below_call (by assumption) ?_ ?_; focus (first | omega | (simp; done) | (simp; omega) | (simp at *; omega))) | (refine below_call' (by assumption) ?_ ?_; focus (first | omega | (simp; done) | (simp; omega) | (simp at *; omega))))); clear hg))
    go_ret
    exact ⟨A', c', rfl, hown, hb1⟩
def wireE : List Pkt → Int → Int
  | [], e => e
  | p :: r, e => wireE r (firstE [e, msgE p.m])
def lnkE0 (L : Lnk) : Int := firstE [chkSE L.box, chkSE L.store, unl (decide (L.wire.length ≤ 60)) 8]
def lnkE (L : Lnk) : Int := wireE L.wire (lnkE0 L)
theorem wireE_zero : ∀ (l : List Pkt) (e : Int), wireE l e = 0 → e = 0 ∧ ∀ p ∈ l, msgE p.m = 0
  | [], e, h => ⟨h, fun p hp => by simp at hp⟩
  | p :: r, e, h => by
    obtain ⟨h1, h2⟩ := wireE_zero r _ h
    rw [firstE2] at h1
    exact ⟨h1.1, fun q hq => by
      rcases List.mem_cons.1 hq with rfl | hq
      · exact h1.2
      · exact h2 q hq⟩
theorem lnkE_ok {L : Lnk} (h : lnkE L = 0) : OkL L := by
  obtain ⟨h1, _⟩ := wireE_zero _ _ h
  unfold lnkE0 at h1
  rw [firstE3, unl_zero (by decide), decide_eq_true_eq] at h1
  obtain ⟨a, b, c⟩ := h1
  obtain ⟨-, s1, l1⟩ := chkS_ok a
  obtain ⟨-, s2, l2⟩ := chkS_ok b
  exact ⟨s1, s2, l1, l2, c⟩
/-- a link that reads as L -/
structure LnkR (A1 A2 A3 : Option Addr) (L : Lnk) (w : World) : Prop where
  r1 : MsgsAt w A1 L.box
  r2 : MsgsAt w A2 L.store
  r3 : PktsAt w A3 L.wire
theorem LnkR.below {A1 A2 A3 : Option Addr} {L : Lnk} {w w' : World} (h : LnkR A1 A2 A3 L w) (hb : Below w.heap.size w w') : LnkR A1 A2 A3 L w' := ⟨RowsAt.below h.r1 hb, RowsAt.below h.r2 hb, RowsAt.below h.r3 hb⟩
/-- a link that is not too large -/
structure FewL (L : Lnk) : Prop where
  l1 : L.box.length ≤ 300
  l2 : L.store.length ≤ 300
  l3 : L.wire.length ≤ 300
  n1 : ∀ m ∈ L.box, m.s.size ≤ 1000
  n2 : ∀ m ∈ L.store, m.s.size ≤ 1000
  n3 : ∀ p ∈ L.wire, p.m.s.size ≤ 1000
abbrev LnkV (A1 : Option Addr) (c1 : Nat) (A2 : Option Addr) (c2 : Nat) (A3 : Option Addr) (c3 : Nat) (L : Lnk) : Value := .agg #[.slice A1 L.box.length c1, .slice A3 L.wire.length c3, .slice A2 L.store.length c2]
def OpenLE (L : Lnk) (w : World) (e : Ending) (w' : World) : Prop := ∃ A1 c1 A2 c2 A3 c3,
  e = .returned (.tuple #[.agg #[.slice A1 L.box.length c1, .slice A2 L.store.length c2, .slice A3 L.wire.length c3], .int .i64 (lnkE L)]) ∧
  w'.ownsRow w.heap.size 45 3 (.slice A1 L.box.length c1) L.box.length (cellsOf 3 msgC L.box) ∧ w'.ownsRow w.heap.size 45 3 (.slice A2 L.store.length c2) L.store.length (cellsOf 3 msgC L.store) ∧ w'.ownsRow w.heap.size 150 4 (.slice A3 L.wire.length c3) L.wire.length (cellsOf 4 pktC L.wire) ∧
  Dis (Value.ownBlock (.slice A1 L.box.length c1)) (Value.ownBlock (.slice A2 L.store.length c2)) ∧ Dis (Value.ownBlock (.slice A1 L.box.length c1)) (Value.ownBlock (.slice A3 L.wire.length c3)) ∧ Dis (Value.ownBlock (.slice A2 L.store.length c2)) (Value.ownBlock (.slice A3 L.wire.length c3)) ∧ Below w.heap.size w w'
theorem dis_of {w1 : World} {B B' : Nat} {e e' : TypeId} {size size' n n' : Nat} {v v' : Value} {xs xs' : List Value} {w2 : World} (h : w1.ownsRow B e size v n xs) (k : w2.ownsRow B' e' size' v' n' xs') (hs : w1.heap.size ≤ B') : Dis v.ownBlock v'.ownBlock :=
  fun g hg hg' => by have := (h.lt g hg).2; have := (k.lt g hg').1; omega

set_option maxRecDepth 100000 in
set_option maxHeartbeats 4000000 in
theorem openLink_any (A1 : Option Addr) (c1 : Nat) (A2 : Option Addr) (c2 : Nat) (A3 : Option Addr) (c3 : Nat) (L : Lnk) (w : World) (hf : FewL L) (hR : LnkR A1 A2 A3 L w) :
    Calls Try.prog 94 #[LnkV A1 c1 A2 c2 A3 c3 L] w (OpenLE L w) := by
  have HFW := Lib.hid hf
  have hl3 : (L.wire.length : Int) ≤ 300 := by have := hf.l3; omega
  clear hf
  go_enter Try.func94, Try.ntmps94
  go_wp2_with (fail)
  refine (openStore_any A1 L.box c1 _ HFW.out.l1 HFW.out.n1 (RowsAt.below hR.r1 (by repeat (first | assumption | exact Below.refl _ _ | refine Below.drew ?_ | (refine below_alloc _ ?_ ?_; focus (first | omega | (simp; done) | (simp; omega) | (simp at *; omega))) | (refine below_set _ ?_ ?_; focus (first | omega | (simp; done) | (simp; omega) | (simp at *; omega))) | refine below_drewN ?_ _ | (refine below_call (by assumption) ?_ ?_; focus (first | omega | (simp; done) | (simp; omega) | (simp at *; omega))) | (refine below_call' (by assumption) ?_ ?_; focus (first | omega | (simp; done) | (simp; omega) | (simp at *; omega))))))).mono ?_
  rintro e w1 ⟨B1, d1, rfl, own1, hb1⟩
  have hz := hb1.size
  simp at hz own1
  have x1 : w1.cell? ⟨w.heap.size, 1, none⟩ = some (.slice A3 L.wire.length c3) := cell_below' hb1 (by repeat (first | assumption | (refine cell_new ?_ rfl; focus (simp; done)) | refine cell_drew ?_ | refine cell_alloc _ ?_ | refine cell_drewN _ ?_ | (refine cell_far ?_ ?_; focus (first | omega | (simp; omega) | (simp; done))) | refine cell_below' (by assumption) ?_))
  have x2 : w1.cell? ⟨w.heap.size, 2, none⟩ = some (.slice A2 L.store.length c2) := cell_below' hb1 (by repeat (first | assumption | (refine cell_new ?_ rfl; focus (simp; done)) | refine cell_drew ?_ | refine cell_alloc _ ?_ | refine cell_drewN _ ?_ | (refine cell_far ?_ ?_; focus (first | omega | (simp; omega) | (simp; done))) | refine cell_below' (by assumption) ?_))
  have y0 : w1.cell? ⟨w.heap.size + 1, 0, none⟩ = some (.slice none 0 0) := cell_below' hb1 (cell_new (by simp) rfl)
  have y1 : w1.cell? ⟨w.heap.size + 1, 1, none⟩ = some (.slice none 0 0) := cell_below' hb1 (cell_new (by simp) rfl)
  have y2 : w1.cell? ⟨w.heap.size + 1, 2, none⟩ = some (.slice none 0 0) := cell_below' hb1 (cell_new (by simp) rfl)
  have f0 : w1.frozen? ⟨w.heap.size + 1, 0, none⟩ = false := frozen_below hb1 (by simp) (frozen_new (by simp))
  have f1 : w1.frozen? ⟨w.heap.size + 1, 1, none⟩ = false := frozen_below hb1 (by simp) (frozen_new (by simp))
  have f2 : w1.frozen? ⟨w.heap.size + 1, 2, none⟩ = false := frozen_below hb1 (by simp) (frozen_new (by simp))
  have hbw1 : Below w.heap.size w w1 := (by repeat (first | assumption | exact Below.refl _ _ | refine Below.drew ?_ | (refine below_alloc _ ?_ ?_; focus (first | omega | (simp; done) | (simp; omega) | (simp at *; omega))) | (refine below_set _ ?_ ?_; focus (first | omega | (simp; done) | (simp; omega) | (simp at *; omega))) | refine below_drewN ?_ _ | (refine below_call (by assumption) ?_ ?_; focus (first | omega | (simp; done) | (simp; omega) | (simp at *; omega))) | (refine below_call' (by assumption) ?_ ?_; focus (first | omega | (simp; done) | (simp; omega) | (simp at *; omega)))))
  have z1 : w.heap.size + 1 < w1.heap.size := by omega
  clear hb1 hz
  go_wp2_with (fail)
  refine (openStore_any A2 L.store c2 w1 HFW.out.l2 HFW.out.n2 (RowsAt.below hR.r2 hbw1)).mono ?_
  rintro e w2 ⟨B2, d2, rfl, own2, hb2⟩
  have x12 := dis_of own1 own2 (Nat.le_refl _)
  have own1' := own_below own1 hb2
  replace x1 := cell_below' hb2 x1
  replace y0 := cell_below' hb2 y0
  replace y1 := cell_below' hb2 y1
  replace y2 := cell_below' hb2 y2
  replace f0 := frozen_below hb2 z1 f0
  replace f1 := frozen_below hb2 z1 f1
  replace f2 := frozen_below hb2 z1 f2
  have hbw2 : Below w.heap.size w w2 := hbw1.trans (hb2.mono (by omega))
  have z2 : w.heap.size + 1 < w2.heap.size := by have := hb2.size; omega
  have z20 : w.heap.size < w2.heap.size := by omega
  have OWN1 := Lib.hid own1'
  have OWN2 := Lib.hid own2
  have X12 := Lib.hid x12
  have HR2 := Lib.hid (hR.below hbw2)
  have he0 : lnkE0 L = firstE [chkSE L.box, chkSE L.store, unl (decide (L.wire.length ≤ 60)) 8] := rfl
  have hc0 : decide (L.wire.length ≤ 60) = decide ((L.wire.length : Int) ≤ 60) := by
    by_cases h : L.wire.length ≤ 60
    · rw [decide_eq_true h]; symm; simp; omega
    · rw [decide_eq_false h]; symm; simp; omega
  have HE0 := Lib.hid he0
  have hbw1s : w.heap.size + 1 < w1.heap.size := z1
  clear own1 own1' own2 x12 hb2 z1 hbw1 x2 hR he0
  rw [hc0] at HE0
  clear hc0
  go_wp2_with (first | (go_at_call 86; refine (unless_any _ _ _).mono ?_; rintro e w' ⟨rfl, rfl⟩) | (go_at_call 84; refine (first3 _ _ _ _ _ (by simp) (cell_new (by simp) rfl) (cell_new (by simp) rfl) (cell_new (by simp) rfl)).mono ?_; rintro e w' ⟨rfl, rfl⟩))
  rw [← HE0.out]
  clear HE0
  have hzz : w2.heap.size ≤ (w2.alloc (.cells #[.int .i64 (chkSE L.box), .int .i64 (chkSE L.store), .int .i64 (unl (decide ((L.wire.length : Int) ≤ 60)) 8)] 27)).heap.size := by simp
  go_loopw [5, 34] (fun e i wr => ∃ (k : Nat) (ev : Int), k ≤ L.wire.length ∧ i = .int .i64 k ∧ e = .int .i64 ev ∧ wireE L.wire (lnkE0 L) = wireE (L.wire.drop k) ev ∧ Below w2.heap.size w2 wr) (fun _ i _ => L.wire.length - (intOf i).toNat)
  case atStart => exact ⟨0, _, Nat.zero_le _, rfl, rfl, rfl, (by repeat (first | assumption | exact Below.refl _ _ | refine Below.drew ?_ | (refine below_alloc _ ?_ ?_; focus (first | omega | (simp; done) | (simp; omega) | (simp at *; omega))) | (refine below_set _ ?_ ?_; focus (first | omega | (simp; done) | (simp; omega) | (simp at *; omega))) | refine below_drewN ?_ _ | (refine below_call (by assumption) ?_ ?_; focus (first | omega | (simp; done) | (simp; omega) | (simp at *; omega))) | (refine below_call' (by assumption) ?_ ?_; focus (first | omega | (simp; done) | (simp; omega) | (simp at *; omega)))))⟩
  case round =>
    obtain ⟨k, ev, hk, rfl, rfl, hwe, hbr⟩ := hrel
    have AR := RowsAt.below HR2.out.r3 hbr
    have HWE := Lib.hid hwe
    have zr : w.heap.size + 1 < wr.heap.size := by have := hbr.size; omega
    have zr0 : w.heap.size < wr.heap.size := by omega
    have zr2 := hbr.size
    replace x1 := cell_below' hbr x1
    replace y0 := cell_below' hbr y0
    replace y1 := cell_below' hbr y1
    replace y2 := cell_below' hbr y2
    replace f0 := frozen_below hbr z2 f0
    replace f1 := frozen_below hbr z2 f1
    replace f2 := frozen_below hbr z2 f2
    clear hwe hzz
    by_cases hlt : k < L.wire.length
    · obtain ⟨b1, o1, rfl, hb1, e0, e1, e2, e3⟩ := PktsAt.at_ AR hlt
      have hd : L.wire.drop k = L.wire[k] :: L.wire.drop (k + 1) := List.drop_eq_getElem_cons hlt
      have hs := HFW.out.n3 _ (List.getElem_mem hlt)
      have h2 := HWE.out
      rw [hd, wireE] at h2
      have H2 := Lib.hid h2
      have hk1 : (k : Int) < (L.wire.length : Int) := by omega
      clear HWE h2 hd AR
      generalize L.wire[k] = p at *
      have HM := Lib.hid (fun W => messageErr_any p.m W hs)
      clear hs
      go_wp2_with (fail)
      refine (HM.out _).mono ?_
      rintro e w3 ⟨rfl, hb3⟩
      have hb23 : Below w2.heap.size w2 w3 := (by repeat (first | assumption | exact Below.refl _ _ | refine Below.drew ?_ | (refine below_alloc _ ?_ ?_; focus (first | omega | (simp; done) | (simp; omega) | (simp at *; omega))) | (refine below_set _ ?_ ?_; focus (first | omega | (simp; done) | (simp; omega) | (simp at *; omega))) | refine below_drewN ?_ _ | (refine below_call (by assumption) ?_ ?_; focus (first | omega | (simp; done) | (simp; omega) | (simp at *; omega))) | (refine below_call' (by assumption) ?_ ?_; focus (first | omega | (simp; done) | (simp; omega) | (simp at *; omega)))))
      clear hb3 hbr x1 y0 y1 y2 f0 f1 f2 e0 e1 e2 e3
      go_wp2_with (go_at_call 84; refine (first2 _ _ _ _ (by simp) (cell_new (by simp) rfl) (cell_new (by simp) rfl)).mono ?_; rintro e w' ⟨rfl, rfl⟩)
      exact ⟨⟨k + 1, _, by omega, by go_num, rfl, H2.out, (by repeat (first | assumption | exact Below.refl _ _ | refine Below.drew ?_ | (refine below_alloc _ ?_ ?_; focus (first | omega | (simp; done) | (simp; omega) | (simp at *; omega))) | (refine below_set _ ?_ ?_; focus (first | omega | (simp; done) | (simp; omega) | (simp at *; omega))) | refine below_drewN ?_ _ | (refine below_call (by assumption) ?_ ?_; focus (first | omega | (simp; done) | (simp; omega) | (simp at *; omega))) | (refine below_call' (by assumption) ?_ ?_; focus (first | omega | (simp; done) | (simp; omega) | (simp at *; omega)))))⟩, by simp [intOf]; omega⟩
    · have hd : L.wire.drop k = [] := List.drop_eq_nil_of_le (by omega)
      have h2 := HWE.out
      rw [hd, wireE] at h2
      have H2 : Hid (lnkE L = ev) := Lib.hid h2
      have HR3 := Lib.hid AR
      clear HWE h2 hd AR
      go_wp2_with (fail)
      refine (CloneP_any A3 L.wire c3 wr HFW.out.l3 HR3.out).mono ?_
      rintro e w3 ⟨B3, d3, rfl, own3, hb3⟩
      have hb23 : Below w2.heap.size w2 w3 := hbr.trans (hb3.mono hbr.size)
      replace y0 := cell_below' hb3 y0
      replace y1 := cell_below' hb3 y1
      replace y2 := cell_below' hb3 y2
      replace f0 := frozen_below hb3 zr f0
      replace f1 := frozen_below hb3 zr f1
      replace f2 := frozen_below hb3 zr f2
      have x13 := dis_of OWN1.out own3 zr2
      have x23 := dis_of OWN2.out own3 zr2
      have o1 := own_below OWN1.out hb23
      have o2 := own_below OWN2.out hb23
      have z3 : w.heap.size + 1 < w3.heap.size := by have := hb3.size; omega
      have hbw3 : Below w.heap.size w w3 := hbw2.trans (hb23.mono (by omega))
      have hn1 : Value.ownBlock (.slice B1 L.box.length d1) ≠ some (w.heap.size + 1) := fun e => by have := (OWN1.out.lt _ e).1; omega
      have hn2 : Value.ownBlock (.slice B2 L.store.length d2) ≠ some (w.heap.size + 1) := fun e => by have := (OWN2.out.lt _ e).1; have := hbw1s; omega
      have hn3 : Value.ownBlock (.slice B3 L.wire.length d3) ≠ some (w.heap.size + 1) := fun e => by have := (own3.lt _ e).1; omega
      have O1 := Lib.hid (own_mono (own_set (own_set (own_set o1 (p := ⟨w.heap.size + 1, 0, none⟩) hn1 (.slice B1 L.box.length d1)) (p := ⟨w.heap.size + 1, 1, none⟩) hn1 (.slice B2 L.store.length d2)) (p := ⟨w.heap.size + 1, 2, none⟩) hn1 (.slice B3 L.wire.length d3)) (show w.heap.size ≤ _ by omega))
      have O2 := Lib.hid (own_mono (own_set (own_set (own_set o2 (p := ⟨w.heap.size + 1, 0, none⟩) hn2 (.slice B1 L.box.length d1)) (p := ⟨w.heap.size + 1, 1, none⟩) hn2 (.slice B2 L.store.length d2)) (p := ⟨w.heap.size + 1, 2, none⟩) hn2 (.slice B3 L.wire.length d3)) (show w.heap.size ≤ _ by omega))
      have O3 := Lib.hid (own_mono (own_set (own_set (own_set own3 (p := ⟨w.heap.size + 1, 0, none⟩) hn3 (.slice B1 L.box.length d1)) (p := ⟨w.heap.size + 1, 1, none⟩) hn3 (.slice B2 L.store.length d2)) (p := ⟨w.heap.size + 1, 2, none⟩) hn3 (.slice B3 L.wire.length d3)) (show w.heap.size ≤ _ by omega))
      have hbf : Below w.heap.size w (((w3.setCell ⟨w.heap.size + 1, 0, none⟩ (.slice B1 L.box.length d1)).setCell ⟨w.heap.size + 1, 1, none⟩ (.slice B2 L.store.length d2)).setCell ⟨w.heap.size + 1, 2, none⟩ (.slice B3 L.wire.length d3)) := below_set _ (by simp) (below_set _ (by simp) (below_set _ (by simp) hbw3))
      clear o1 o2 own3 hb3 hbr hb23 hn1 hn2 hn3 x1 HR3 OWN1 OWN2
      go_wp2_with (fail)
      refine bodyPost_ret (v := .tuple #[.agg #[.slice B1 L.box.length d1, .slice B2 L.store.length d2, .slice B3 L.wire.length d3], .int .i64 ev]) (by simp [results, Try.results94, go_sem, y0, y1, y2, z3]) rfl ?_
      exact ⟨B1, d1, B2, d2, B3, d3, by rw [H2.out], O1.out, O2.out, O3.out, X12.out, x13, x23, hbf⟩
/-- .. the link in memory, where a caller lays it -/
theorem link_laid {B : Nat} {A1 : Option Addr} {c1 : Nat} {A2 : Option Addr} {c2 : Nat} {A3 : Option Addr} {c3 : Nat} {L : Lnk} {w : World}
    (o1 : w.ownsRow B 45 3 (.slice A1 L.box.length c1) L.box.length (cellsOf 3 msgC L.box)) (o2 : w.ownsRow B 45 3 (.slice A2 L.store.length c2) L.store.length (cellsOf 3 msgC L.store)) (o3 : w.ownsRow B 150 4 (.slice A3 L.wire.length c3) L.wire.length (cellsOf 4 pktC L.wire))
    (x12 : Dis (Value.ownBlock (.slice A1 L.box.length c1)) (Value.ownBlock (.slice A2 L.store.length c2))) (x13 : Dis (Value.ownBlock (.slice A1 L.box.length c1)) (Value.ownBlock (.slice A3 L.wire.length c3))) (x23 : Dis (Value.ownBlock (.slice A2 L.store.length c2)) (Value.ownBlock (.slice A3 L.wire.length c3))) :
    LinkAt B w.heap.size A1 c1 A2 c2 A3 c3 L (w.alloc (.cells #[.slice A1 L.box.length c1, .slice A2 L.store.length c2, .slice A3 L.wire.length c3] 153)) :=
  ⟨blk_new rfl, World.ownsRow.alloc o1 _, World.ownsRow.alloc o2 _, World.ownsRow.alloc o3 _, fun e => by have := (o1.lt _ e).2; omega, fun e => by have := (o2.lt _ e).2; omega, fun e => by have := (o3.lt _ e).2; omega, x12, x13, x23⟩
set_option maxHeartbeats 1000000 in
theorem written_any (A1 : Option Addr) (n1 c1 : Nat) (A2 : Option Addr) (n2 c2 : Nat) (A3 : Option Addr) (n3 c3 : Nat) (w : World) :
    Calls Try.prog 96 #[.agg #[.slice A1 n1 c1, .slice A2 n2 c2, .slice A3 n3 c3]] w fun e w' => e = .returned (.agg #[.slice A1 n1 c1, .slice A3 n3 c3, .slice A2 n2 c2]) ∧ Below w.heap.size w w' := by
  go_enter Try.func96, Try.ntmps96
  go_wp2_with (fail)
  refine bodyPost_ret (v := .agg #[.slice A1 n1 c1, .slice A3 n3 c3, .slice A2 n2 c2]) (by simp [results, Try.results96, go_sem]) rfl ?_
  exact ⟨rfl, (by repeat (first | assumption | exact Below.refl _ _ | refine Below.drew ?_ | (refine below_alloc _ ?_ ?_; focus (first | omega | (simp; done) | (simp; omega) | (simp at *; omega))) | (refine below_set _ ?_ ?_; focus (first | omega | (simp; done) | (simp; omega) | (simp at *; omega))) | refine below_drewN ?_ _ | (refine below_call (by assumption) ?_ ?_; focus (first | omega | (simp; done) | (simp; omega) | (simp at *; omega))) | (refine below_call' (by assumption) ?_ ?_; focus (first | omega | (simp; done) | (simp; omega) | (simp at *; omega)))))⟩
def Lz : Lnk := ⟨[], [], []⟩
def runGo : List Mv → Lnk → Nat → Lnk × Int × Int
  | [], L, _ => (L, 0, 0)
  | mv :: r, L, i => if (movL L mv).2 = 0 then runGo r (movL L mv).1 (i + 1) else (Lz, (i : Int), (movL L mv).2)
def runE0 (L : Lnk) (n : Nat) : Int := firstE [lnkE L, unl (decide (n ≤ 200)) 8]
def runL (L : Lnk) (l : List Mv) : Lnk × Int × Int := if runE0 L l.length = 0 then runGo l L 0 else (Lz, 0, runE0 L l.length)
def movd (L : Lnk) (mv : Mv) : Lnk × Int := if lnkE L ≠ 0 then (Lz, lnkE L) else if (movL L mv).2 = 0 then ((movL L mv).1, 0) else (Lz, (movL L mv).2)
def LnkE3 (q : Lnk × Int × Int) (w : World) (e : Ending) (w' : World) : Prop := ∃ A1 c1 A2 c2 A3 c3, e = .returned (.tuple #[LnkV A1 c1 A2 c2 A3 c3 q.1, .int .i64 q.2.1, .int .i64 q.2.2]) ∧ LnkR A1 A2 A3 q.1 w' ∧ Below w.heap.size w w'
def LnkE2 (q : Lnk × Int) (w : World) (e : Ending) (w' : World) : Prop := ∃ A1 c1 A2 c2 A3 c3, e = .returned (.tuple #[LnkV A1 c1 A2 c2 A3 c3 q.1, .int .i64 q.2]) ∧ LnkR A1 A2 A3 q.1 w' ∧ Below w.heap.size w w'
theorem lnkR_z {w : World} : LnkR none none none Lz w := ⟨RowsAt.nil, RowsAt.nil, RowsAt.nil⟩
theorem LinkAt.reads {B b : Nat} {A1 : Option Addr} {c1 : Nat} {A2 : Option Addr} {c2 : Nat} {A3 : Option Addr} {c3 : Nat} {L : Lnk} {w : World} (h : LinkAt B b A1 c1 A2 c2 A3 c3 L w) : LnkR A1 A2 A3 L w :=
  ⟨rowsAt_of_own h.o1 rfl (by decide), rowsAt_of_own h.o2 rfl (by decide), rowsAt_of_own h.o3 rfl (by decide)⟩
end Go.Proofs.Ytcfbnmcdncndpaa
