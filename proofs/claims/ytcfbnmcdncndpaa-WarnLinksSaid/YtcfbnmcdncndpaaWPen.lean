/-
  Chapter 8: which warnings are pending.
-/
import Derived.Test.YtcfbnmcdncndpaaWRuo
namespace Go.Proofs.Ytcfbnmcdncndpaa
open Go.ChangeShapes Go.WideShapes Go.ChangeAt Go.RowKit
set_option linter.unusedVariables false
set_option linter.unusedSimpArgs false

def strC (s : ByteArray) (_ : Nat) : Value := .string s
abbrev StrsAt := RowsAt 1 strC
theorem strC_one (x : ByteArray) (i : Nat) : (strC x i).oneCell' = true := rfl
theorem StrsAt.at_ {w : World} {A : Option Addr} {l : List ByteArray} (h : StrsAt w A l) {k : Nat} (hk : k < l.length) :
    ∃ b off, A = some ⟨b, off, none⟩ ∧ b < w.heap.size ∧ w.cell? ⟨b, off + k, none⟩ = some (.string l[k]) := by
  obtain ⟨b, off, e, hb, hc⟩ := h k l[k] (List.getElem?_eq_getElem hk)
  exact ⟨b, off, e, hb, by simpa [strC] using hc 0 (by omega)⟩
theorem infoStr : (Try.prog.info? 9).map (fun i => (i.zero, i.size, i.bytes)) = some (some (.string ⟨#[]⟩), 1, 16) := by kernel_rfl
theorem infoStr_ : ∃ i : TypeInfo, Try.prog.info? 9 = some i ∧ i.zero = some (.string ⟨#[]⟩) ∧ i.size = 1 ∧ i.bytes = 16 := by
  have h := infoStr
  cases hi : Try.prog.info? 9 with
  | none => rw [hi] at h; cases h
  | some i =>
    rw [hi] at h
    simp only [Option.map_some, Option.some.injEq, Prod.mk.injEq] at h
    exact ⟨i, rfl, h.1, h.2.1, h.2.2⟩
def isPend (st : List Msg) (m : Msg) : Bool := decide (verM st m.s < m.v)
def pendL (L : Lnk) : List ByteArray := (L.box.filter (isPend L.store)).map (·.s)
def pendQ (L : Lnk) : List ByteArray × Int := if lnkE L = 0 then (pendL L, 0) else ([], lnkE L)
def StrsE (q : List ByteArray × Int) (w : World) (e : Ending) (w' : World) : Prop := ∃ A' c', e = .returned (.tuple #[.slice A' q.1.length c', .int .i64 q.2]) ∧ StrsAt w' A' q.1 ∧ Below w.heap.size w w'
def pendK (L : Lnk) (k : Nat) : List ByteArray := ((L.box.take k).filter (isPend L.store)).map (·.s)
theorem pendK_yes {L : Lnk} {k : Nat} (hk : k < L.box.length) (h : isPend L.store L.box[k] = true) : pendK L k ++ [L.box[k].s] = pendK L (k + 1) := by
  unfold pendK
  rw [List.take_succ_eq_append_getElem hk, List.filter_append, List.map_append, List.filter_cons, if_pos h]; rfl
theorem pendK_no {L : Lnk} {k : Nat} (hk : k < L.box.length) (h : isPend L.store L.box[k] = false) : pendK L k = pendK L (k + 1) := by
  unfold pendK
  rw [List.take_succ_eq_append_getElem hk, List.filter_append, List.map_append, List.filter_cons, if_neg (by rw [h]; decide)]; simp
theorem pendK_end (L : Lnk) : pendK L L.box.length = pendL L := by unfold pendK pendL; rw [List.take_length]
theorem pendK_len (L : Lnk) (k : Nat) : (pendK L k).length ≤ k := by
  unfold pendK
  rw [List.length_map]
  exact Nat.le_trans (List.length_filter_le _ _) (List.length_take_le _ _)
theorem news1 {w : World} {vb : Nat} {s : ByteArray} (hv : w.heap[vb]? = some (.cells #[.string s] 9)) : ∀ j u, [Value.string s][j]? = some u → w.cell? ((⟨vb, 0, none⟩ : Addr).add j) = some u := fun j u hu => by
  rw [Addr.add_lit, Nat.zero_add]
  exact blk_cell hv (by simpa using hu)
set_option maxRecDepth 100000 in
set_option maxHeartbeats 4000000 in
theorem PendingIn_any (A1 : Option Addr) (c1 : Nat) (A2 : Option Addr) (c2 : Nat) (A3 : Option Addr) (c3 : Nat) (L : Lnk) (w : World) (hf : FewL L) (hR : LnkR A1 A2 A3 L w) :
    Calls Try.prog 47 #[LnkV A1 c1 A2 c2 A3 c3 L] w (StrsE (pendQ L) w) := by
  have hq : pendQ L = if lnkE L = 0 then (pendL L, 0) else ([], lnkE L) := rfl
  obtain ⟨i0, hi0, hz0, hz1, hz2⟩ := infoStr_
  have HI := Lib.hid hi0
  have HZ0 := Lib.hid hz0
  have HZ1 := Lib.hid hz1
  have HZ2 := Lib.hid hz2
  have HFW := Lib.hid hf
  have HQ := Lib.hid hq
  clear hf hq hi0 hz0 hz1 hz2
  go_enter Try.func47, Try.ntmps47
  go_wp2_with (fail)
  refine (openLink_any A1 c1 A2 c2 A3 c3 L _ HFW.out (hR.below (by repeat (first | assumption | exact Below.refl _ _ | refine Below.drew ?_ | (refine below_alloc _ ?_ ?_; focus (first | omega | (simp; done) | (simp; omega) | (simp at *; omega))) | (refine below_set _ ?_ ?_; focus (first | omega | (simp; done) | (simp; omega) | (simp at *; omega))) | refine below_drewN ?_ _ | (refine below_call (by assumption) ?_ ?_; focus (first | omega | (simp; done) | (simp; omega) | (simp at *; omega))) | (refine below_call' (by assumption) ?_ ?_; focus (first | omega | (simp; done) | (simp; omega) | (simp at *; omega))))))).mono ?_
  rintro e w1 ⟨B1, d1, B2, d2, B3, d3, rfl, o1, o2, o3, x12, x13, x23, hb1⟩
  have hz := hb1.size
  simp at hz o1 o2 o3
  have hbw1 : Below w.heap.size w w1 := (by repeat (first | assumption | exact Below.refl _ _ | refine Below.drew ?_ | (refine below_alloc _ ?_ ?_; focus (first | omega | (simp; done) | (simp; omega) | (simp at *; omega))) | (refine below_set _ ?_ ?_; focus (first | omega | (simp; done) | (simp; omega) | (simp at *; omega))) | refine below_drewN ?_ _ | (refine below_call (by assumption) ?_ ?_; focus (first | omega | (simp; done) | (simp; omega) | (simp at *; omega))) | (refine below_call' (by assumption) ?_ ?_; focus (first | omega | (simp; done) | (simp; omega) | (simp at *; omega)))))
  have HLK := Lib.hid (link_laid o1 o2 o3 x12 x13 x23)
  have z1 : w.heap.size < w1.heap.size := by omega
  clear hb1 hz hR o1 o2 o3 x12 x13 x23
  have hq := HQ.out
  by_cases hE : lnkE L = 0
  rotate_left 1
  · have hE1 : (lnkE L == 0) = false := by simpa using hE
    have hE2 : (lnkE L != 0) = true := by simpa using hE
    rw [if_neg hE] at hq
    have HQ2 := Lib.hid hq
    clear hE hq HQ
    generalize lnkE L = E at *
    go_wp2_with (fail)
    go_ret2
    rw [HQ2.out]
    exact ⟨none, 0, rfl, RowsAt.nil, (by repeat (first | assumption | exact Below.refl _ _ | refine Below.drew ?_ | (refine below_alloc _ ?_ ?_; focus (first | omega | (simp; done) | (simp; omega) | (simp at *; omega))) | (refine below_set _ ?_ ?_; focus (first | omega | (simp; done) | (simp; omega) | (simp at *; omega))) | refine below_drewN ?_ _ | (refine below_call (by assumption) ?_ ?_; focus (first | omega | (simp; done) | (simp; omega) | (simp at *; omega))) | (refine below_call' (by assumption) ?_ ?_; focus (first | omega | (simp; done) | (simp; omega) | (simp at *; omega)))))⟩
  have hok := lnkE_ok hE
  rw [if_pos hE] at hq
  rw [hE]
  have HQ2 := Lib.hid hq
  have HOK := Lib.hid hok
  have hl1 : L.box.length ≤ 30 := hok.l1
  have hl2 : (L.box.length : Int) ≤ 30 := by omega
  clear hE hq HQ hok
  go_wp2_with (fail)
  have hbv : Below w1.heap.size w1 (w1.alloc (.cells #[.slice B1 L.box.length d1, .slice B2 L.store.length d2, .slice B3 L.wire.length d3] 153)) := (by repeat (first | assumption | exact Below.refl _ _ | refine Below.drew ?_ | (refine below_alloc _ ?_ ?_; focus (first | omega | (simp; done) | (simp; omega) | (simp at *; omega))) | (refine below_set _ ?_ ?_; focus (first | omega | (simp; done) | (simp; omega) | (simp at *; omega))) | refine below_drewN ?_ _ | (refine below_call (by assumption) ?_ ?_; focus (first | omega | (simp; done) | (simp; omega) | (simp at *; omega))) | (refine below_call' (by assumption) ?_ ?_; focus (first | omega | (simp; done) | (simp; omega) | (simp at *; omega)))))
  have p2 := HLK.out.p2
  have hA1 := HLK.out.reads.r1
  have hA2 := HLK.out.reads.r2
  have hzv : (w1.alloc (.cells #[.slice B1 L.box.length d1, .slice B2 L.store.length d2, .slice B3 L.wire.length d3] 153)).heap.size = w1.heap.size + 1 := by simp
  clear HLK
  generalize (w1.alloc (.cells #[.slice B1 L.box.length d1, .slice B2 L.store.length d2, .slice B3 L.wire.length d3] 153)) = v at *
  have hbv0 : Below w.heap.size w v := hbw1.trans (hbv.mono (by omega))
  have zv : w1.heap.size < v.heap.size := by omega
  have HA2 := Lib.hid hA2
  clear hbv hbw1 hzv hA2
  go_loopw [6, 20] (fun o i wr => ∃ (k : Nat) (A' : Option Addr) (c' : Nat), k ≤ L.box.length ∧ i = .int .i64 k ∧ o = .slice A' (pendK L k).length c' ∧ wr.ownsRow v.heap.size 9 1 (.slice A' (pendK L k).length c') (pendK L k).length (cellsOf 1 strC (pendK L k)) ∧ Below v.heap.size v wr) (fun _ i _ => L.box.length - (intOf i).toNat)
  case atStart => exact ⟨0, none, 0, Nat.zero_le _, rfl, rfl, World.ownsRow_nil _ _ _ _, Below.refl _ _⟩
  case round =>
    obtain ⟨k, A', c', hk, rfl, rfl, own, hbr⟩ := hrel
    have AR := RowsAt.below hA1 hbr
    have hbw : Below w.heap.size w wr := hbv0.trans (hbr.mono (by omega))
    have zr := hbr.size
    have zr1 : w1.heap.size < wr.heap.size := by omega
    have hil := pendK_len L k
    replace p2 := cell_below' hbr p2
    have OWN := Lib.hid own
    have HAR := Lib.hid (RowsAt.below HA2.out hbr)
    clear own
    by_cases hlt : k < L.box.length
    · obtain ⟨b1, o1, rfl, hb1, e0, e1, e2⟩ := MsgsAt.at_ AR hlt
      have hk1 : (k : Int) < (L.box.length : Int) := by omega
      have hpd : isPend L.store L.box[k] = decide (verM L.store L.box[k].s < L.box[k].v) := rfl
      have hyes := pendK_yes hlt
      have hno := pendK_no hlt
      have HYES := Lib.hid hyes
      have HNO := Lib.hid hno
      have HPD := Lib.hid hpd
      clear hyes hno hpd AR
      generalize L.box[k] = x at *
      have HV := Lib.hid (fun W => fun hW : MsgsAt W B2 L.store => version_any B2 L.store d2 x.s W (by have := HOK.out.l2; omega) HOK.out.s2 hW)
      go_wp2_with (fail)
      have q2 := cell_alloc (.cells #[.string x.s, .int .i64 x.v, .int .i64 x.l] 45) p2
      have q0 : (wr.alloc (.cells #[.string x.s, .int .i64 x.v, .int .i64 x.l] 45)).cell? ⟨wr.heap.size, 0, none⟩ = some (.string x.s) := cell_new rfl rfl
      have q1 : (wr.alloc (.cells #[.string x.s, .int .i64 x.v, .int .i64 x.l] 45)).cell? ⟨wr.heap.size, 1, none⟩ = some (.int .i64 x.v) := cell_new rfl rfl
      have hby : Below wr.heap.size wr (wr.alloc (.cells #[.string x.s, .int .i64 x.v, .int .i64 x.l] 45)) := (by repeat (first | assumption | exact Below.refl _ _ | refine Below.drew ?_ | (refine below_alloc _ ?_ ?_; focus (first | omega | (simp; done) | (simp; omega) | (simp at *; omega))) | (refine below_set _ ?_ ?_; focus (first | omega | (simp; done) | (simp; omega) | (simp at *; omega))) | refine below_drewN ?_ _ | (refine below_call (by assumption) ?_ ?_; focus (first | omega | (simp; done) | (simp; omega) | (simp at *; omega))) | (refine below_call' (by assumption) ?_ ?_; focus (first | omega | (simp; done) | (simp; omega) | (simp at *; omega)))))
      have hzy : (wr.alloc (.cells #[.string x.s, .int .i64 x.v, .int .i64 x.l] 45)).heap.size = wr.heap.size + 1 := by simp
      generalize (wr.alloc (.cells #[.string x.s, .int .i64 x.v, .int .i64 x.l] 45)) = y at *
      have zy : wr.heap.size < y.heap.size := by omega
      have zy1 : w1.heap.size < y.heap.size := by omega
      have HAY := Lib.hid (RowsAt.below HAR.out hby)
      clear hzy p2 e0 e1 e2 HAR
      (refine region_extx 7 (by kernel_rfl) (by kernel_rfl) fun hx => ?_; simp only [List.take_succ_cons, List.take_zero, List.drop_succ_cons, List.drop_zero]; (repeat (any_goals (first | go_big_quiet_step ((go_at_call 102; with_reducible exact ext_call (HV.out _ (RowsAt.below HAY.out (ext_bel _ _))))) | quiet_step ((go_at_call 102; with_reducible exact ext_call (HV.out _ (RowsAt.below HAY.out (ext_bel _ _)))))))))
      (refine wpQuiet_nil ?_; clear hx; intro u; have hbw2 := ext_bel _ u; have hxw2 := ext_cell _ u; generalize ext _ u = w2 at *; clear u; have hsw2 := hbw2.size; (try simp at hsw2))
      have hb2 : Below wr.heap.size wr w2 := hby.trans (Below.mono (by repeat (first | assumption | exact Below.refl _ _ | refine Below.drew ?_ | (refine below_alloc _ ?_ ?_; focus (first | omega | (simp; done) | (simp; omega) | (simp at *; omega))) | (refine below_set _ ?_ ?_; focus (first | omega | (simp; done) | (simp; omega) | (simp at *; omega))) | refine below_drewN ?_ _ | (refine below_call (by assumption) ?_ ?_; focus (first | omega | (simp; done) | (simp; omega) | (simp at *; omega))) | (refine below_call' (by assumption) ?_ ?_; focus (first | omega | (simp; done) | (simp; omega) | (simp at *; omega))))) (by omega))
      have hbr2 : Below v.heap.size v w2 := hbr.trans (hb2.mono zr)
      have OWN2 := Lib.hid (own_below OWN.out hb2)
      have q0' : w2.cell? ⟨wr.heap.size, 0, none⟩ = some (.string x.s) := cell_below' (show Below y.heap.size y w2 from (by repeat (first | assumption | exact Below.refl _ _ | refine Below.drew ?_ | (refine below_alloc _ ?_ ?_; focus (first | omega | (simp; done) | (simp; omega) | (simp at *; omega))) | (refine below_set _ ?_ ?_; focus (first | omega | (simp; done) | (simp; omega) | (simp at *; omega))) | refine below_drewN ?_ _ | (refine below_call (by assumption) ?_ ?_; focus (first | omega | (simp; done) | (simp; omega) | (simp at *; omega))) | (refine below_call' (by assumption) ?_ ?_; focus (first | omega | (simp; done) | (simp; omega) | (simp at *; omega)))))) q0
      have zw2 : v.heap.size ≤ w2.heap.size := hbr2.size
      clear hb2 hbw2 hxw2 hsw2 hby q0 q1 q2 OWN hbr HAY HV
      cases hp : decide (verM L.store x.s < x.v)
      · have H5 := Lib.hid (HNO.out (HPD.out.trans hp))
        go_wp2_with (fail)
        exact ⟨⟨k + 1, A', c', by omega, by go_num, by rw [← H5.out], by rw [← H5.out]; exact OWN2.out, hbr2⟩, by simp [intOf]; omega⟩
      · have H5 := Lib.hid (HYES.out (HPD.out.trans hp))
        generalize pendK L k = out at *
        go_wp2_with (at_builtin; (refine wpList_append_rows _ rfl (.tmp 32) (.tmp 35) 81 rfl v.heap.size 9 i0 (.string ⟨#[]⟩) 1 16 Try.underlying81 HI.out HZ0.out HZ1.out HZ2.out rfl (by decide) A' out.length c' (cellsOf 1 strC out) rfl (World.ownsRow.alloc OWN2.out _) (some ⟨_, 0, none⟩) 1 1 [.string x.s] rfl rfl (fun h => by cases h) (fun ad h => by cases h; exact news1 (blk_new rfl)) (fun u hu => by simp at hu; subst hu; rfl) (by unfold maxLen; omega) (by omega) (by simp; omega) ?_; intro A2' c2' w3 h1 h2 h3))
        have hL : (out ++ [x.s]).length = out.length + 1 := by simp
        have h4 : w3.ownsRow v.heap.size 9 1 (.slice A2' (out ++ [x.s]).length c2') (out ++ [x.s]).length (cellsOf 1 strC (out ++ [x.s])) := by rw [hL, cellsOf_append]; exact h1
        have h5 : Below v.heap.size v w3 := below_own (below_alloc _ (Nat.le_refl _) hbr2) h2 (World.ownsRow.alloc OWN2.out _) (Nat.le_refl _) (by simp; omega)
        rw [H5.out] at h4 hL
        have HL := Lib.hid hL
        clear h1 h2 h3 hL H5 q0' OWN2
        go_wp2_with (fail)
        exact ⟨⟨k + 1, A2', c2', by omega, by go_num, by rw [HL.out], h4, h5⟩, by simp [intOf]; omega⟩
    · obtain rfl : k = L.box.length := by omega
      have he := pendK_end L
      have hA3 : StrsAt wr A' (pendL L) := by rw [← he]; exact rowsAt_of_own OWN.out rfl (by decide)
      have HE := Lib.hid he
      clear he OWN AR HAR
      go_wp2_with (fail)
      go_ret2
      rw [HQ2.out]
      exact ⟨A', c', by rw [HE.out] <;> rfl, hA3, hbw⟩
end Go.Proofs.Ytcfbnmcdncndpaa
