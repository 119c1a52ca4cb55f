/-
  Chapter 8: the reference's PendingIn.
-/
import Derived.Test.YtcfbnmcdncndpaaKepP
import Derived.Test.YtcfbnmcdncndpaaWCpL
import Derived.Test.YtcfbnmcdncndpaaLwAo
namespace Go.Proofs.Ytcfbnmcdncndpaa
open Go.ChangeShapes Go.WideShapes Go.ChangeAt Go.RowKit
set_option linter.unusedVariables false
set_option linter.unusedSimpArgs false

theorem msgE_ver {m : Msg} (h : msgE m = 0) : 1 ≤ m.v := by
  unfold msgE at h
  rw [firstE2] at h
  obtain ⟨-, h⟩ := h
  cases hb : (withinB m.v 1 1000000 && withinB m.l 0 4)
  · rw [hb] at h; exact absurd h (by decide)
  · rw [Bool.and_eq_true] at hb
    have h1 := hb.1
    unfold withinB at h1
    simp at h1
    omega
theorem pend_none {st : List Msg} {m : Msg} (hs : Srt st) (hn : ∀ y ∈ st, y.s ≠ m.s) (hE : msgE m = 0) : isPend st m = true ∧ findM m.s st 0 = -1 := by
  refine ⟨?_, findM_none 0 hn⟩
  have h1 : hasM st m.s = false := by
    cases hb : hasM st m.s
    · rfl
    · obtain ⟨x, hx, e⟩ := (has_iff hs).1 hb; exact absurd e (hn x hx)
  have h2 := msgE_ver hE
  have h3 : verM st m.s = 0 := by
    unfold hasM at h1
    unfold verM
    cases hx : st[posM st m.s]? with
    | none => rfl
    | some x =>
      rw [hx] at h1
      simp only at h1 ⊢
      rw [if_neg (of_decide_eq_false h1)]
  unfold isPend
  rw [h3]
  simp
  omega
theorem pend_some {st : List Msg} {m y : Msg} {q : Nat} (hs : Srt st) (hq : st[q]? = some y) (he : y.s = m.s) : isPend st m = decide (y.v < m.v) ∧ findM m.s st 0 = (q : Int) := by
  obtain ⟨h1, h2⟩ := has_at hs hq he
  refine ⟨?_, find_at hs hq he⟩
  have h3 : verM st m.s = y.v := by unfold verM; rw [h2, hq]; exact if_pos he
  unfold isPend
  rw [h3]
def StrsX (q : List ByteArray) (w : World) (e : Ending) (w' : World) : Prop := ∃ A' c', e = .returned (.slice A' q.length c') ∧ StrsAt w' A' q ∧ Below w.heap.size w w'
set_option maxRecDepth 100000 in
set_option maxHeartbeats 4000000 in
theorem RPendingIn_any (A1 : Option Addr) (c1 : Nat) (A2 : Option Addr) (c2 : Nat) (A3 : Option Addr) (c3 : Nat) (L : Lnk) (w : World) (hv : VLk L) (hR : LnkR A1 A2 A3 L w) :
    Calls Try.prog 51 #[LnkV A1 c1 A2 c2 A3 c3 L] w (StrsX (pendL L) w) := by
  obtain ⟨i0, hi0, hz0, hz1, hz2⟩ := infoStr_
  have HI := Lib.hid hi0
  have HZ0 := Lib.hid hz0
  have HZ1 := Lib.hid hz1
  have HZ2 := Lib.hid hz2
  have HV := Lib.hid hv
  have hl1 := hv.ok.l1
  have hl2 := hv.ok.l2
  clear hi0 hz0 hz1 hz2 hv
  have hr1 := hR.r1
  have hr2 := hR.r2
  clear hR
  simp only [LnkV]
  go_enter Try.func51, Try.ntmps51
  go_wp2_with (fail)
  have hb0 : Below w.heap.size w (w.alloc (.cells #[.slice A1 L.box.length c1, .slice A3 L.wire.length c3, .slice A2 L.store.length c2] 41)) := below_alloc _ (Nat.le_refl _) (Below.refl _ _)
  have a0 : (w.alloc (.cells #[.slice A1 L.box.length c1, .slice A3 L.wire.length c3, .slice A2 L.store.length c2] 41)).cell? ⟨w.heap.size, 0, none⟩ = some (.slice A1 L.box.length c1) := cell_new (by simp) rfl
  have a1 : (w.alloc (.cells #[.slice A1 L.box.length c1, .slice A3 L.wire.length c3, .slice A2 L.store.length c2] 41)).cell? ⟨w.heap.size, 1, none⟩ = some (.slice A3 L.wire.length c3) := cell_new (by simp) rfl
  have a2 : (w.alloc (.cells #[.slice A1 L.box.length c1, .slice A3 L.wire.length c3, .slice A2 L.store.length c2] 41)).cell? ⟨w.heap.size, 2, none⟩ = some (.slice A2 L.store.length c2) := cell_new (by simp) rfl
  have za : w.heap.size < (w.alloc (.cells #[.slice A1 L.box.length c1, .slice A3 L.wire.length c3, .slice A2 L.store.length c2] 41)).heap.size := World.block_lt_of_cell? _ _ a0
  generalize (w.alloc (.cells #[.slice A1 L.box.length c1, .slice A3 L.wire.length c3, .slice A2 L.store.length c2] 41)) = v at *
  have hA1 := RowsAt.below hr1 hb0
  have hA2 := RowsAt.below hr2 hb0
  clear hr1 hr2 a1
  go_loopw [3, 4] (fun o i wr => ∃ (k : Nat) (A' : Option Addr) (c' : Nat), k ≤ L.box.length ∧ i = .int .i64 k ∧ o = .slice A' (pendK L k).length c' ∧ wr.ownsRow v.heap.size 9 1 (.slice A' (pendK L k).length c') (pendK L k).length (cellsOf 1 strC (pendK L k)) ∧ Below v.heap.size v wr) (fun _ i _ => L.box.length - (intOf i).toNat)
  case atStart => exact ⟨0, none, 0, Nat.zero_le _, rfl, rfl, World.ownsRow_nil _ _ _ _, Below.refl _ _⟩
  case round =>
    obtain ⟨k, A', c', hk, rfl, rfl, own, hbr⟩ := hrel
    have AR := RowsAt.below hA1 hbr
    have BR := RowsAt.below hA2 hbr
    have hbw : Below w.heap.size w wr := hb0.trans (hbr.mono hb0.size)
    have zr := hbr.size
    have hil := pendK_len L k
    replace a0 := cell_below' hbr a0
    replace a2 := cell_below' hbr a2
    replace za : w.heap.size < wr.heap.size := World.block_lt_of_cell? _ _ a0
    have OWN := Lib.hid own
    clear own
    by_cases hlt : k < L.box.length
    · have hk1 : (k : Int) < (L.box.length : Int) := by omega
      have hE := HV.out.b L.box[k] (List.getElem_mem hlt)
      have hyes := pendK_yes hlt
      have hno := pendK_no hlt
      have HYES := Lib.hid hyes
      have HNO := Lib.hid hno
      have HE := Lib.hid hE
      obtain ⟨b1, o1, rfl, hb1, e0, e1, e2⟩ := MsgsAt.at_ AR hlt
      clear hyes hno hE AR
      generalize L.box[k] = x at *
      have hsm := fun (y : Msg) (q : Nat) (hq : L.store[q]? = some y) (he : y.s = x.s) => pend_some HV.out.ok.s2 hq he
      have hnm := fun (hn : ∀ y ∈ L.store, y.s ≠ x.s) => pend_none HV.out.ok.s2 hn HE.out
      have HSM := Lib.hid hsm
      have HNM := Lib.hid hnm
      have HF := Lib.hid (fun W (h : MsgsAt W A2 L.store) => Find_any A2 L.store c2 x.s W (by omega) h)
      have HBR := Lib.hid BR
      clear hsm hnm BR HE
      generalize findM x.s L.store 0 = F at *
      go_wp2_with (fail)
      (refine region_extx 9 (by kernel_rfl) (by kernel_rfl) fun hx => ?_; simp only [List.take_succ_cons, List.take_zero, List.drop_succ_cons, List.drop_zero]; (repeat (any_goals (first | go_big_quiet_step (((go_at_call 33; with_reducible exact ext_same (HF.out _ (RowsAt.below HBR.out (ext_bel _ _)))))) | quiet_step (((go_at_call 33; with_reducible exact ext_same (HF.out _ (RowsAt.below HBR.out (ext_bel _ _))))))))))
      (refine wpQuiet_nil ?_; clear hx; intro u; have hbw2 := ext_bel _ u; have hxw2 := ext_cell _ u; generalize ext _ u = w2 at *; clear u; have hsw2 := hbw2.size; (try simp at hsw2))
      replace a0 := cell_below' hbw2 a0
      replace a2 := cell_below' hbw2 a2
      replace e0 := cell_below' hbw2 e0
      replace e1 := cell_below' hbw2 e1
      replace za := Nat.lt_of_lt_of_le za hbw2.size
      have BR := RowsAt.below HBR.out hbw2
      clear HF HBR hxw2 hsw2
      go_upto_region 6 with (fail)
      go_cut [38] from 22 to 37 (fun t wx => t = .bool (isPend L.store x) ∧ Below w2.heap.size w2 wx)
      case first =>
        by_cases hbx : ∃ y ∈ L.store, y.s = x.s
        · obtain ⟨y, hy, hys⟩ := hbx
          obtain ⟨q, hq⟩ := List.getElem?_of_mem hy
          obtain ⟨hp, rfl⟩ := HSM.out y q hq hys
          obtain ⟨hqS, hqe⟩ := List.getElem?_eq_some_iff.1 hq
          have HP := Lib.hid hp
          obtain ⟨b2, o2, rfl, hb2', d0, d1, d2⟩ := MsgsAt.at_ BR hqS
          rw [hqe] at d0 d1 d2
          have hq1 : (q : Int) < (L.store.length : Int) := by omega
          have e6 : decide ((q : Int) < 0) = false := by simp
          clear hp hqe hq hy hys BR HYES HNO OWN HSM HNM
          (refine region_extx 16 (by kernel_rfl) (by kernel_rfl) fun hx => ?_; simp only [List.take_succ_cons, List.take_zero, List.drop_succ_cons, List.drop_zero]; (repeat (any_goals (first | go_big_quiet_step (fail) | quiet_step (fail)))))
          (refine wpQuiet_nil ?_; clear hx; intro u; have hbw3 := ext_bel _ u; have hxw3 := ext_cell _ u; generalize ext _ u = w3 at *; clear u; have hsw3 := hbw3.size; (try simp at hsw3))
          go_wp2_with (fail)
          go_meet
          exact ⟨by rw [HP.out], hbw3⟩
        · have hn : ∀ y ∈ L.store, y.s ≠ x.s := fun y hy e => hbx ⟨y, hy, e⟩
          obtain ⟨hp, rfl⟩ := HNM.out hn
          have HP := Lib.hid hp
          clear hp hbx hn BR HYES HNO OWN HSM HNM
          (refine region_extx 16 (by kernel_rfl) (by kernel_rfl) fun hx => ?_; simp only [List.take_succ_cons, List.take_zero, List.drop_succ_cons, List.drop_zero]; (repeat (any_goals (first | go_big_quiet_step (fail) | quiet_step (fail)))))
          (refine wpQuiet_nil ?_; clear hx; intro u; have hbw3 := ext_bel _ u; have hxw3 := ext_cell _ u; generalize ext _ u = w3 at *; clear u; have hsw3 := hbw3.size; (try simp at hsw3))
          go_wp2_with (fail)
          go_meet
          exact ⟨by rw [HP.out], hbw3⟩
      case rest =>
      obtain ⟨rfl, hbx'⟩ := hcut
      have hbx : Below wr.heap.size wr wc := hbw2.trans (hbx'.mono hbw2.size)
      have hbr2 : Below v.heap.size v wc := hbr.trans (hbx.mono zr)
      have OWN2 := Lib.hid (own_below OWN.out hbx)
      replace a0 := cell_below' hbx' a0
      replace e0 := cell_below' hbx' e0
      replace za := Nat.lt_of_lt_of_le za hbx'.size
      have zc := hbr2.size
      clear hbx hbx' hbw2 OWN e1 e2 a2 BR hbr hbw HV HSM HNM
      cases hp : isPend L.store x
      · have H5 := Lib.hid (HNO.out hp)
        go_wp2_with (fail)
        exact ⟨⟨k + 1, A', c', by omega, by go_num, by rw [← H5.out], by rw [← H5.out]; exact OWN2.out, hbr2⟩, by simp [intOf]; omega⟩
      · have H5 := Lib.hid (HYES.out hp)
        clear hp
        generalize pendK L k = out at *
        go_wp2_with (at_builtin; (refine wpList_append_rows _ rfl (.tmp 39) (.tmp 46) 81 rfl v.heap.size 9 i0 (.string ⟨#[]⟩) 1 16 Try.underlying81 HI.out HZ0.out HZ1.out HZ2.out rfl (by decide) A' out.length c' (cellsOf 1 strC out) rfl (World.ownsRow.alloc OWN2.out _) (some ⟨_, 0, none⟩) 1 1 [.string x.s] rfl rfl (fun h => by cases h) (fun ad h => by cases h; exact news1 (blk_new rfl)) (fun u hu => by simp at hu; subst hu; rfl) (by unfold maxLen; omega) (by omega) (by simp; omega) ?_; intro A2' c2' w3 h1 h2 h3))
        have hL : (out ++ [x.s]).length = out.length + 1 := by simp
        have h4 : w3.ownsRow v.heap.size 9 1 (.slice A2' (out ++ [x.s]).length c2') (out ++ [x.s]).length (cellsOf 1 strC (out ++ [x.s])) := by rw [hL, cellsOf_append]; exact h1
        have h5 : Below v.heap.size v w3 := below_own (below_alloc _ (Nat.le_refl _) hbr2) h2 (World.ownsRow.alloc OWN2.out _) (Nat.le_refl _) (by simp; omega)
        rw [H5.out] at h4 hL
        have HL := Lib.hid hL
        clear h1 h2 h3 hL H5 OWN2
        go_wp2_with (fail)
        exact ⟨⟨k + 1, A2', c2', by omega, by go_num, by rw [HL.out], h4, h5⟩, by simp [intOf]; omega⟩
    · obtain rfl : k = L.box.length := by omega
      have he := pendK_end L
      have hA3 : StrsAt wr A' (pendL L) := by rw [← he]; exact rowsAt_of_own OWN.out rfl (by decide)
      have HE := Lib.hid he
      clear he OWN AR BR
      go_wp2_with (fail)
      go_ret
      exact ⟨A', c', by rw [HE.out] <;> rfl, hA3, hbw⟩
end Go.Proofs.Ytcfbnmcdncndpaa
