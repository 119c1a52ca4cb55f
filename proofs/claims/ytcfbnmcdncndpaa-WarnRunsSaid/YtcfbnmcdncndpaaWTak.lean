/-
  Chapter 8: a packet taken from the wire.
-/
import Derived.Test.YtcfbnmcdncndpaaWLnk
namespace Go.Proofs.Ytcfbnmcdncndpaa
open Go.ChangeShapes Go.WideShapes Go.ChangeAt Go.RowKit
set_option linter.unusedVariables false
set_option linter.unusedSimpArgs false

/-- a link whose stores are ascending and not too long -/
structure OkL (L : Lnk) : Prop where
  s1 : Srt L.box
  s2 : Srt L.store
  l1 : L.box.length ≤ 30
  l2 : L.store.length ≤ 30
  l3 : L.wire.length ≤ 60
theorem own_ne {w : World} {B : Nat} {e : TypeId} {size n : Nat} {v : Value} {xs : List Value} (h : w.ownsRow B e size v n xs) {k : Nat} (hk : w.heap.size ≤ k) : some k ≠ v.ownBlock := fun e => by have := (h.lt k e.symm).2; omega
theorem srt_del {l : List Msg} (h : Srt l) (i : Nat) : Srt (delL l i) := by
  have : (delL l i).Sublist l := by
    have e : l = l.take i ++ l.drop i := (List.take_append_drop i l).symm
    have h2 : (l.drop (i + 1)).Sublist (l.drop i) := by
      rw [← List.drop_drop]; exact List.drop_sublist _ _
    conv => rhs; rw [e]
    exact (List.Sublist.refl _).append h2
  exact h.sublist this
theorem delL_le {α : Type} (l : List α) (i : Nat) : (delL l i).length ≤ l.length := by
  unfold delL; rw [List.length_append, List.length_take, List.length_drop]; omega
theorem ack_srt {l : List Msg} {m : Msg} (h : Srt l) : Srt (ackBox l m) := by
  unfold ackBox
  split
  · split
    · exact srt_del h _
    · exact h
  · exact h
theorem ack_len {l : List Msg} {m : Msg} : (ackBox l m).length ≤ l.length := by
  unfold ackBox
  split
  · split
    · exact delL_le _ _
    · exact Nat.le_refl _
  · exact Nat.le_refl _
theorem OkL.send {L : Lnk} {p : Pkt} (h : OkL L) : OkL (sendL L p).1 := by
  unfold sendL
  split
  · exact h
  · exact ⟨h.s1, h.s2, h.l1, h.l2, by simp; have := h.l3; omega⟩
theorem OkL.take_ {L : Lnk} {i : Nat} {p : Pkt} (h : OkL L) : OkL (takeL L i p).1 := by
  unfold takeL
  split
  · exact ⟨ack_srt h.s1, h.s2, Nat.le_trans ack_len h.l1, h.l2, Nat.le_trans (delL_le _ _) h.l3⟩
  · split
    · exact OkL.send ⟨h.s1, recv_srt h.s2, h.l1, recv_len h.l2, Nat.le_trans (delL_le _ _) h.l3⟩
    · exact ⟨h.s1, recv_srt h.s2, h.l1, recv_len h.l2, h.l3⟩

set_option maxRecDepth 100000 in
set_option maxHeartbeats 4000000 in
theorem takeA_any (B b : Nat) (L : Lnk) (i : Nat) (m : Msg) (w : World) (h : LinkIn B b L w) (hB : B ≤ b) (hok : OkL L) (hi : i < L.wire.length) :
    Calls Try.prog 122 #[.pointer (some ⟨b, 0, none⟩), .int .i64 i, .agg #[.string m.s, .int .i64 m.v, .int .i64 m.l, .bool true]] w (LinkE (takeL L i ⟨m, true⟩) B b w) := by
  obtain ⟨A1, c1, A2, c2, A3, c3, h⟩ := h
  have hq : takeL L i ⟨m, true⟩ = (⟨ackBox L.box m, delL L.wire i, L.store⟩, 0) := rfl
  have hl3 := hok.l3
  have hl1 := hok.l1
  have hi1 : (i : Int) < 60 := by omega
  have hi0 : (0 : Int) ≤ (i : Int) := by omega
  have p3 := h.p3
  have hbl := h.lt
  have H := Lib.hid h
  have HQ := Lib.hid hq
  have HOK := Lib.hid hok
  clear h hq hok
  go_enter Try.func122, Try.ntmps122
  go_wp2_with (fail)
  have hbv : Below w.heap.size w ((w.alloc (.cells #[.string m.s, .int .i64 m.v, .int .i64 m.l, .bool true] 150)).alloc (.cells #[.string m.s, .int .i64 m.v, .int .i64 m.l] 45)) := (by repeat (first | assumption | exact Below.refl _ _ | refine Below.drew ?_ | (refine below_alloc _ ?_ ?_; focus (first | omega | (simp; done) | (simp; omega) | (simp at *; omega))) | (refine below_set _ ?_ ?_; focus (first | omega | (simp; done) | (simp; omega) | (simp at *; omega))) | refine below_drewN ?_ _ | (refine below_call (by assumption) ?_ ?_; focus (first | omega | (simp; done) | (simp; omega) | (simp at *; omega))) | (refine below_call' (by assumption) ?_ ?_; focus (first | omega | (simp; done) | (simp; omega) | (simp at *; omega)))))
  have y0 : ((w.alloc (.cells #[.string m.s, .int .i64 m.v, .int .i64 m.l, .bool true] 150)).alloc (.cells #[.string m.s, .int .i64 m.v, .int .i64 m.l] 45)).cell? ⟨w.heap.size + 1, 0, none⟩ = some (.string m.s) := cell_new (by simp) rfl
  have y1 : ((w.alloc (.cells #[.string m.s, .int .i64 m.v, .int .i64 m.l, .bool true] 150)).alloc (.cells #[.string m.s, .int .i64 m.v, .int .i64 m.l] 45)).cell? ⟨w.heap.size + 1, 1, none⟩ = some (.int .i64 m.v) := cell_new (by simp) rfl
  have hz : ((w.alloc (.cells #[.string m.s, .int .i64 m.v, .int .i64 m.l, .bool true] 150)).alloc (.cells #[.string m.s, .int .i64 m.v, .int .i64 m.l] 45)).heap.size = w.heap.size + 2 := by simp
  generalize ((w.alloc (.cells #[.string m.s, .int .i64 m.v, .int .i64 m.l, .bool true] 150)).alloc (.cells #[.string m.s, .int .i64 m.v, .int .i64 m.l] 45)) = v at *
  have zv : w.heap.size + 1 < v.heap.size := by omega
  have zb : b < v.heap.size := by omega
  have hv := H.out.below hbv
  have HV := Lib.hid hv
  have hny : some (w.heap.size + 1) ≠ Value.ownBlock (.slice A3 L.wire.length c3) := own_ne H.out.o3 (by omega)
  clear hv hz p3
  refine (DelP_any B A3 c3 L.wire i v (by omega) hi HV.out.o3).mono ?_
  rintro e w1 ⟨rfl, own1, hg1⟩
  have hp1 : w1.heap[b]? = some (.cells #[.slice A1 L.box.length c1, .slice A2 L.store.length c2, .slice A3 L.wire.length c3] 153 (0, 0)) := (hg1.block b zb (fun e => HV.out.d3 e.symm)).trans HV.out.blk
  have p1 : w1.cell? ⟨b, 2, none⟩ = some (.slice A3 L.wire.length c3) := blk_cell hp1 rfl
  have f1 : w1.frozen? ⟨b, 2, none⟩ = false := blk_frozen hp1
  have ht : Turned v (w1.setCell ⟨b, 2, none⟩ (.slice A3 (delL L.wire i).length c3)) b (Value.ownBlock (.slice A3 L.wire.length c3)) := (Turned.of_grown hg1).set_ _
  have hob : Value.ownBlock (.slice A3 (delL L.wire i).length c3) = Value.ownBlock (.slice A3 L.wire.length c3) := by cases A3 <;> rfl
  have hln := HV.out.wire_ ht (heap_set hp1) (own_set own1 (by rw [hob]; exact HV.out.d3) _) (.inl hob)
  have y0' : (w1.setCell ⟨b, 2, none⟩ (.slice A3 (delL L.wire i).length c3)).cell? ⟨w.heap.size + 1, 0, none⟩ = some (.string m.s) := cell_far (by simp; omega) (cell_grown hg1 y0 hny)
  have y1' : (w1.setCell ⟨b, 2, none⟩ (.slice A3 (delL L.wire i).length c3)).cell? ⟨w.heap.size + 1, 1, none⟩ = some (.int .i64 m.v) := cell_far (by simp; omega) (cell_grown hg1 y1 hny)
  have hbe : Below B w (w1.setCell ⟨b, 2, none⟩ (.slice A3 (delL L.wire i).length c3)) := (hbv.mono (by omega)).trans (HV.out.b3 hB ht)
  have HL := Lib.hid hln
  clear hln ht hob own1 hg1 hp1 y0 y1 hny HV
  go_wp2_with (fail)
  clear p1 f1 zb zv
  generalize hwl : delL L.wire i = wl at *
  clear hwl
  generalize (w1.setCell ⟨b, 2, none⟩ (.slice A3 wl.length c3)) = w2 at *
  have p0 : w2.cell? ⟨b, 0, none⟩ = some (.slice A1 L.box.length c1) := HL.out.p1
  have hA2 : MsgsAt w2 A1 L.box := rowsAt_of_own HL.out.o1 rfl (by decide)
  have HF := Lib.hid (fun W => fun hW : MsgsAt W A1 L.box => find_any A1 L.box c1 m.s W (by omega) HOK.out.s1 hW)
  go_region_held3 (fun w' => w'.cell? ⟨w.heap.size + 1, 0, none⟩ = some (.string m.s) ∧ w'.cell? ⟨b, 0, none⟩ = some (.slice A1 L.box.length c1)) ((((try go_split_ands); (repeat' (apply And.intro)) <;> (repeat (first | (with_reducible assumption) | (with_reducible refine cell_drew ?_) | (with_reducible refine cell_alloc _ ?_) | (with_reducible refine cell_below' (by with_reducible assumption) ?_) | (with_reducible refine cell_far ?_ ?_; focus (first | omega | (simp; omega) | (simp; done)))))))) (first | (go_at_call 126; (with_reducible refine (HF.out _ ?_).mono ?_); (focus (exact RowsAt.below hA2 (by repeat (first | assumption | exact Below.refl _ _ | refine Below.drew ?_ | (refine below_alloc _ ?_ ?_; focus (first | omega | (simp; done) | (simp; omega) | (simp at *; omega))) | (refine below_set _ ?_ ?_; focus (first | omega | (simp; done) | (simp; omega) | (simp at *; omega))) | refine below_drewN ?_ _ | (refine below_call (by assumption) ?_ ?_; focus (first | omega | (simp; done) | (simp; omega) | (simp at *; omega))) | (refine below_call' (by assumption) ?_ ?_; focus (first | omega | (simp; done) | (simp; omega) | (simp at *; omega))))))); rintro e w3 ⟨rfl, hb3⟩))
  have hb3v : Below w2.heap.size w2 w3 := (Below.refl _ w2).drew.trans hb3
  have hl3' := HL.out.below hb3v
  have hBw2 : B ≤ w2.heap.size := by have := HL.out.lt; omega
  have hbe3 : Below B w w3 := hbe.trans (hb3v.mono hBw2)
  replace y0' := cell_below' hb3v y0'
  replace y1' := cell_below' hb3v y1'
  have p3 : w3.cell? ⟨b, 0, none⟩ = some (.slice A1 L.box.length c1) := hl3'.p1
  have hA3 := RowsAt.below hA2 hb3v
  have hack : ackBox L.box m = match hasM L.box m.s, L.box[posM L.box m.s]? with | true, some o => if o.v ≤ m.v then delL L.box (posM L.box m.s) else L.box | _, _ => L.box := rfl
  have HL3 := Lib.hid hl3'
  have HACK := Lib.hid hack
  clear hb3 hb3v hl3' hA2 p0 HL hbe HF hack hbv
  cases hh : hasM L.box m.s
  · have h2 := HACK.out
    rw [hh] at h2
    have HQ2 : Hid (takeL L i ⟨m, true⟩ = (⟨L.box, wl, L.store⟩, 0)) := Lib.hid (by rw [HQ.out, h2])
    clear h2 HACK HQ hh hA3
    go_wp2_with (fail)
    go_quiet (fail)
    go_wp2_with (fail)
    go_ret
    rw [HQ2.out]
    exact ⟨rfl, ⟨_, _, _, _, _, _, HL3.out.below (by repeat (first | assumption | exact Below.refl _ _ | refine Below.drew ?_ | (refine below_alloc _ ?_ ?_; focus (first | omega | (simp; done) | (simp; omega) | (simp at *; omega))) | (refine below_set _ ?_ ?_; focus (first | omega | (simp; done) | (simp; omega) | (simp at *; omega))) | refine below_drewN ?_ _ | (refine below_call (by assumption) ?_ ?_; focus (first | omega | (simp; done) | (simp; omega) | (simp at *; omega))) | (refine below_call' (by assumption) ?_ ?_; focus (first | omega | (simp; done) | (simp; omega) | (simp at *; omega)))))⟩, (by repeat (first | assumption | exact Below.refl _ _ | refine Below.drew ?_ | (refine below_alloc _ ?_ ?_; focus (first | omega | (simp; done) | (simp; omega) | (simp at *; omega))) | (refine below_set _ ?_ ?_; focus (first | omega | (simp; done) | (simp; omega) | (simp at *; omega))) | refine below_drewN ?_ _ | (refine below_call (by assumption) ?_ ?_; focus (first | omega | (simp; done) | (simp; omega) | (simp at *; omega))) | (refine below_call' (by assumption) ?_ ?_; focus (first | omega | (simp; done) | (simp; omega) | (simp at *; omega)))))⟩
  · obtain ⟨o, ho, he⟩ := has_true hh
    have hpl : posM L.box m.s < L.box.length := (List.getElem?_eq_some_iff.1 ho).1
    have h2 := HACK.out
    rw [hh, ho] at h2
    simp only at h2
    obtain ⟨b1, o1, rfl, hb1, d0, d1, d2⟩ := MsgsAt.at_ hA3 hpl
    rw [List.getElem?_eq_getElem hpl] at ho
    rw [Option.some.inj ho] at d0 d1 d2
    have hp1 : ((posM L.box m.s : Nat) : Int) < (L.box.length : Int) := by omega
    have hp30 : ((posM L.box m.s : Nat) : Int) < 30 := by omega
    clear hh he ho HACK hA3
    generalize posM L.box m.s = p at *
    by_cases hv : o.v ≤ m.v
    · rw [if_pos hv] at h2
      have HQ2 : Hid (takeL L i ⟨m, true⟩ = (⟨delL L.box p, wl, L.store⟩, 0)) := Lib.hid (by rw [HQ.out, h2])
      clear h2 HQ
      go_wp2_with (fail)
      go_quiet (fail)
      have hq3 := HL3.out.below (show Below w3.heap.size w3 (w3.drewN nq) from (by repeat (first | assumption | exact Below.refl _ _ | refine Below.drew ?_ | (refine below_alloc _ ?_ ?_; focus (first | omega | (simp; done) | (simp; omega) | (simp at *; omega))) | (refine below_set _ ?_ ?_; focus (first | omega | (simp; done) | (simp; omega) | (simp at *; omega))) | refine below_drewN ?_ _ | (refine below_call (by assumption) ?_ ?_; focus (first | omega | (simp; done) | (simp; omega) | (simp at *; omega))) | (refine below_call' (by assumption) ?_ ?_; focus (first | omega | (simp; done) | (simp; omega) | (simp at *; omega))))))
      have hbq : Below B w (w3.drewN nq) := (by repeat (first | assumption | exact Below.refl _ _ | refine Below.drew ?_ | (refine below_alloc _ ?_ ?_; focus (first | omega | (simp; done) | (simp; omega) | (simp at *; omega))) | (refine below_set _ ?_ ?_; focus (first | omega | (simp; done) | (simp; omega) | (simp at *; omega))) | refine below_drewN ?_ _ | (refine below_call (by assumption) ?_ ?_; focus (first | omega | (simp; done) | (simp; omega) | (simp at *; omega))) | (refine below_call' (by assumption) ?_ ?_; focus (first | omega | (simp; done) | (simp; omega) | (simp at *; omega)))))
      have HLQ := Lib.hid hq3
      have p4 : (w3.drewN nq).cell? ⟨b, 0, none⟩ = some (.slice (some ⟨b1, o1, none⟩) L.box.length c1) := hq3.p1
      clear hq3 HL3 p3 d0 d1 d2 y0' y1' hbe3 hb1 hBw2
      generalize w3.drewN nq = w4 at *
      have zb4 := HLQ.out.lt
      go_wp2_with (fail)
      refine (DelM_any B (some ⟨b1, o1, none⟩) c1 L.box p w4 (by omega) hpl HLQ.out.o1).mono ?_
      rintro e w5 ⟨rfl, own5, hg5⟩
      have hp5 : w5.heap[b]? = some (.cells #[.slice (some ⟨b1, o1, none⟩) L.box.length c1, .slice A2 L.store.length c2, .slice A3 wl.length c3] 153 (0, 0)) := (hg5.block b zb4 (fun e => HLQ.out.d1 e.symm)).trans HLQ.out.blk
      have p5 : w5.cell? ⟨b, 0, none⟩ = some (.slice (some ⟨b1, o1, none⟩) L.box.length c1) := blk_cell hp5 rfl
      have f5 : w5.frozen? ⟨b, 0, none⟩ = false := blk_frozen hp5
      have ht : Turned w4 (w5.setCell ⟨b, 0, none⟩ (.slice (some ⟨b1, o1, none⟩) (delL L.box p).length c1)) b (Value.ownBlock (.slice (some ⟨b1, o1, none⟩) L.box.length c1)) := (Turned.of_grown hg5).set_ _
      have hln := HLQ.out.box_ ht (heap_set hp5) (own_set own5 (show Value.ownBlock (.slice (some ⟨b1, o1, none⟩) (delL L.box p).length c1) ≠ some b from HLQ.out.d1) _) (.inl rfl)
      have hbe5 : Below B w (w5.setCell ⟨b, 0, none⟩ (.slice (some ⟨b1, o1, none⟩) (delL L.box p).length c1)) := hbq.trans (HLQ.out.b1 hB ht)
      have HLN := Lib.hid hln
      clear hln ht own5 hg5 hp5 HLQ hbq zb4 p4
      generalize delL L.box p = bl at *
      go_wp2_with (fail)
      go_ret
      rw [HQ2.out]
      exact ⟨rfl, ⟨_, _, _, _, _, _, HLN.out⟩, hbe5⟩
    · rw [if_neg hv] at h2
      have HQ2 : Hid (takeL L i ⟨m, true⟩ = (⟨L.box, wl, L.store⟩, 0)) := Lib.hid (by rw [HQ.out, h2])
      have hvd : decide (o.v ≤ m.v) = false := by simpa using hv
      clear h2 HQ hv
      go_wp2_with (fail)
      go_quiet (fail)
      go_wp2_with (fail)
      go_ret
      rw [HQ2.out]
      exact ⟨rfl, ⟨_, _, _, _, _, _, HL3.out.below (by repeat (first | assumption | exact Below.refl _ _ | refine Below.drew ?_ | (refine below_alloc _ ?_ ?_; focus (first | omega | (simp; done) | (simp; omega) | (simp at *; omega))) | (refine below_set _ ?_ ?_; focus (first | omega | (simp; done) | (simp; omega) | (simp at *; omega))) | refine below_drewN ?_ _ | (refine below_call (by assumption) ?_ ?_; focus (first | omega | (simp; done) | (simp; omega) | (simp at *; omega))) | (refine below_call' (by assumption) ?_ ?_; focus (first | omega | (simp; done) | (simp; omega) | (simp at *; omega)))))⟩, (by repeat (first | assumption | exact Below.refl _ _ | refine Below.drew ?_ | (refine below_alloc _ ?_ ?_; focus (first | omega | (simp; done) | (simp; omega) | (simp at *; omega))) | (refine below_set _ ?_ ?_; focus (first | omega | (simp; done) | (simp; omega) | (simp at *; omega))) | refine below_drewN ?_ _ | (refine below_call (by assumption) ?_ ?_; focus (first | omega | (simp; done) | (simp; omega) | (simp at *; omega))) | (refine below_call' (by assumption) ?_ ?_; focus (first | omega | (simp; done) | (simp; omega) | (simp at *; omega)))))⟩

set_option maxRecDepth 100000 in
set_option maxHeartbeats 4000000 in
theorem takeB_any (B b : Nat) (L : Lnk) (i : Nat) (m : Msg) (w : World) (h : LinkIn B b L w) (hB : B ≤ b) (hok : OkL L) (hi : i < L.wire.length) :
    Calls Try.prog 122 #[.pointer (some ⟨b, 0, none⟩), .int .i64 i, .agg #[.string m.s, .int .i64 m.v, .int .i64 m.l, .bool false]] w (LinkE (takeL L i ⟨m, false⟩) B b w) := by
  obtain ⟨A1, c1, A2, c2, A3, c3, h⟩ := h
  have hq : takeL L i ⟨m, false⟩ = if (recvM L.store m).2 = 0 then sendL ⟨L.box, delL L.wire i, (recvM L.store m).1⟩ ⟨m, true⟩ else (⟨L.box, L.wire, (recvM L.store m).1⟩, (recvM L.store m).2) := rfl
  have hl3 := hok.l3
  have hl2 := hok.l2
  have hi1 : (i : Int) < 60 := by omega
  have hi0 : (0 : Int) ≤ (i : Int) := by omega
  have hbl := h.lt
  have H := Lib.hid h
  have HQ := Lib.hid hq
  have HOK := Lib.hid hok
  clear h hq hok
  go_enter Try.func122, Try.ntmps122
  go_wp2_with (fail)
  have hbv : Below w.heap.size w ((w.alloc (.cells #[.string m.s, .int .i64 m.v, .int .i64 m.l, .bool false] 150)).alloc (.cells #[.string m.s, .int .i64 m.v, .int .i64 m.l] 45)) := (by repeat (first | assumption | exact Below.refl _ _ | refine Below.drew ?_ | (refine below_alloc _ ?_ ?_; focus (first | omega | (simp; done) | (simp; omega) | (simp at *; omega))) | (refine below_set _ ?_ ?_; focus (first | omega | (simp; done) | (simp; omega) | (simp at *; omega))) | refine below_drewN ?_ _ | (refine below_call (by assumption) ?_ ?_; focus (first | omega | (simp; done) | (simp; omega) | (simp at *; omega))) | (refine below_call' (by assumption) ?_ ?_; focus (first | omega | (simp; done) | (simp; omega) | (simp at *; omega)))))
  have y0 : ((w.alloc (.cells #[.string m.s, .int .i64 m.v, .int .i64 m.l, .bool false] 150)).alloc (.cells #[.string m.s, .int .i64 m.v, .int .i64 m.l] 45)).cell? ⟨w.heap.size + 1, 0, none⟩ = some (.string m.s) := cell_new (by simp) rfl
  have y1 : ((w.alloc (.cells #[.string m.s, .int .i64 m.v, .int .i64 m.l, .bool false] 150)).alloc (.cells #[.string m.s, .int .i64 m.v, .int .i64 m.l] 45)).cell? ⟨w.heap.size + 1, 1, none⟩ = some (.int .i64 m.v) := cell_new (by simp) rfl
  have y2 : ((w.alloc (.cells #[.string m.s, .int .i64 m.v, .int .i64 m.l, .bool false] 150)).alloc (.cells #[.string m.s, .int .i64 m.v, .int .i64 m.l] 45)).cell? ⟨w.heap.size + 1, 2, none⟩ = some (.int .i64 m.l) := cell_new (by simp) rfl
  have hz : ((w.alloc (.cells #[.string m.s, .int .i64 m.v, .int .i64 m.l, .bool false] 150)).alloc (.cells #[.string m.s, .int .i64 m.v, .int .i64 m.l] 45)).heap.size = w.heap.size + 2 := by simp
  generalize ((w.alloc (.cells #[.string m.s, .int .i64 m.v, .int .i64 m.l, .bool false] 150)).alloc (.cells #[.string m.s, .int .i64 m.v, .int .i64 m.l] 45)) = v at *
  have zv : w.heap.size + 1 < v.heap.size := by omega
  have zb : b < v.heap.size := by omega
  have hv := H.out.below hbv
  have HV := Lib.hid hv
  have hbvB : Below B w v := hbv.mono (by omega)
  have hny2 : some (w.heap.size + 1) ≠ Value.ownBlock (.slice A2 L.store.length c2) := own_ne H.out.o2 (by omega)
  have hny3 : some (w.heap.size + 1) ≠ Value.ownBlock (.slice A3 L.wire.length c3) := own_ne H.out.o3 (by omega)
  have hnyb : w.heap.size + 1 ≠ b := by omega
  have hBw := (show B ≤ w.heap.size by omega)
  clear hv hz hbv H
  (refine region_extx 4 (by kernel_rfl) (by kernel_rfl) fun hx => ?_; simp only [List.take_succ_cons, List.take_zero, List.drop_succ_cons, List.drop_zero]; (repeat (any_goals (first | go_big_quiet_step (fail) | quiet_step (fail)))))
  (refine wpQuiet_nil ?_; clear hx; intro u; have hbw2 := ext_bel _ u; have hxw2 := ext_cell _ u; generalize ext _ u = w2 at *; clear u; have hsw2 := hbw2.size; (try simp at hsw2))
  have hb2 : Below v.heap.size v w2 := (by repeat (first | assumption | exact Below.refl _ _ | refine Below.drew ?_ | (refine below_alloc _ ?_ ?_; focus (first | omega | (simp; done) | (simp; omega) | (simp at *; omega))) | (refine below_set _ ?_ ?_; focus (first | omega | (simp; done) | (simp; omega) | (simp at *; omega))) | refine below_drewN ?_ _ | (refine below_call (by assumption) ?_ ?_; focus (first | omega | (simp; done) | (simp; omega) | (simp at *; omega))) | (refine below_call' (by assumption) ?_ ?_; focus (first | omega | (simp; done) | (simp; omega) | (simp at *; omega)))))
  have HL := Lib.hid (HV.out.below hb2)
  have HBW2 := Lib.hid (show Below B w w2 from hbvB.trans (hb2.mono (by omega)))
  have zb2 := HL.out.lt
  have zy : w.heap.size + 1 < w2.heap.size := by have := hb2.size; omega
  replace y0 := cell_below' hb2 y0
  replace y1 := cell_below' hb2 y1
  replace y2 := cell_below' hb2 y2
  clear hb2 hbw2 hxw2 hsw2 HV hbvB zv zb
  go_wp2_with (fail)
  refine (receive_any B b 1 A2 c2 #[.slice A1 L.box.length c1, .slice A2 L.store.length c2, .slice A3 L.wire.length c3] 153 L.store m w2 hl2 HOK.out.s2 (by omega) HL.out.blk rfl HL.out.o2 HL.out.d2).mono ?_
  rintro e w3 ⟨rfl, A', c', hp3, own3, ht3, hz3⟩
  have hln3 := HL.out.store_ ht3 hp3 own3 hz3
  have hbe3 : Below B w w3 := HBW2.out.trans (HL.out.b2 hB ht3)
  have hkb := ht3.block (w.heap.size + 1) zy hnyb hny2
  replace y0 := (World.cell?_of_block (a := ⟨w.heap.size + 1, 0, none⟩) hkb).trans y0
  replace y1 := (World.cell?_of_block (a := ⟨w.heap.size + 1, 1, none⟩) hkb).trans y1
  replace y2 := (World.cell?_of_block (a := ⟨w.heap.size + 1, 2, none⟩) hkb).trans y2
  have zy3 : w.heap.size + 1 < w3.heap.size := by have := ht3.size; omega
  have HL3 := Lib.hid hln3
  have hq := HQ.out
  clear hln3 hkb hp3 own3 ht3 hz3 hny2 zy zb2 HL HBW2
  by_cases hr : (recvM L.store m).2 = 0
  rotate_left 1
  · rw [if_neg hr] at hq
    have HQ2 := Lib.hid hq
    have hE1 : ((recvM L.store m).2 == 0) = false := by simpa using hr
    have hE2 : ((recvM L.store m).2 != 0) = true := by simpa using hr
    clear hq HQ hr
    generalize (recvM L.store m).2 = E at *
    go_wp2_with (fail)
    go_ret
    rw [HQ2.out]
    exact ⟨rfl, ⟨_, _, _, _, _, _, HL3.out⟩, hbe3⟩
  rw [if_pos hr] at hq
  have HQ2 := Lib.hid hq
  rw [hr]
  clear hq HQ hr
  generalize (recvM L.store m).1 = sl at *
  have zb3 := HL3.out.lt
  have p3 : w3.cell? ⟨b, 2, none⟩ = some (.slice A3 L.wire.length c3) := HL3.out.p3
  go_wp2_with (fail)
  refine (DelP_any B A3 c3 L.wire i w3 (by omega) hi HL3.out.o3).mono ?_
  rintro e w4 ⟨rfl, own4, hg4⟩
  have hp4 : w4.heap[b]? = some (.cells #[.slice A1 L.box.length c1, .slice A' sl.length c', .slice A3 L.wire.length c3] 153 (0, 0)) := (hg4.block b zb3 (fun e => HL3.out.d3 e.symm)).trans HL3.out.blk
  have p4 : w4.cell? ⟨b, 2, none⟩ = some (.slice A3 L.wire.length c3) := blk_cell hp4 rfl
  have f4 : w4.frozen? ⟨b, 2, none⟩ = false := blk_frozen hp4
  have ht : Turned w3 (w4.setCell ⟨b, 2, none⟩ (.slice A3 (delL L.wire i).length c3)) b (Value.ownBlock (.slice A3 L.wire.length c3)) := (Turned.of_grown hg4).set_ _
  have hob : Value.ownBlock (.slice A3 (delL L.wire i).length c3) = Value.ownBlock (.slice A3 L.wire.length c3) := by cases A3 <;> rfl
  have hln := HL3.out.wire_ ht (heap_set hp4) (own_set own4 (by rw [hob]; exact HL3.out.d3) _) (.inl hob)
  have hbe4 : Below B w (w4.setCell ⟨b, 2, none⟩ (.slice A3 (delL L.wire i).length c3)) := hbe3.trans (HL3.out.b3 hB ht)
  replace y0 : (w4.setCell ⟨b, 2, none⟩ (.slice A3 (delL L.wire i).length c3)).cell? ⟨w.heap.size + 1, 0, none⟩ = some (.string m.s) := cell_far (by simp; omega) (cell_grown hg4 y0 hny3)
  replace y1 : (w4.setCell ⟨b, 2, none⟩ (.slice A3 (delL L.wire i).length c3)).cell? ⟨w.heap.size + 1, 1, none⟩ = some (.int .i64 m.v) := cell_far (by simp; omega) (cell_grown hg4 y1 hny3)
  replace y2 : (w4.setCell ⟨b, 2, none⟩ (.slice A3 (delL L.wire i).length c3)).cell? ⟨w.heap.size + 1, 2, none⟩ = some (.int .i64 m.l) := cell_far (by simp; omega) (cell_grown hg4 y2 hny3)
  have HLN := Lib.hid hln
  clear hln ht hob own4 hg4 hp4 HL3 hbe3 p3 zb3 zy3 hny3 hnyb
  generalize delL L.wire i = wl at *
  have HS := Lib.hid (fun W => fun hW : LinkIn B b ⟨L.box, wl, sl⟩ W => send_any B b ⟨L.box, wl, sl⟩ ⟨m, true⟩ W hW hB)
  go_wp2_with (fail)
  refine (HS.out _ ⟨_, _, _, _, _, _, HLN.out⟩).mono ?_
  rintro e w6 ⟨rfl, hln6, hbe6⟩
  have HLN6 := Lib.hid hln6
  clear hln6 HLN
  go_wp2_with (fail)
  go_ret
  rw [HQ2.out]
  exact ⟨rfl, HLN6.out, hbe4.trans hbe6⟩
theorem take_any (B b : Nat) (L : Lnk) (i : Nat) (p : Pkt) (w : World) (h : LinkIn B b L w) (hB : B ≤ b) (hok : OkL L) (hi : i < L.wire.length) :
    Calls Try.prog 122 #[.pointer (some ⟨b, 0, none⟩), .int .i64 i, .agg #[.string p.m.s, .int .i64 p.m.v, .int .i64 p.m.l, .bool p.a]] w (LinkE (takeL L i p) B b w) := by
  obtain ⟨m, a⟩ := p
  cases a
  · exact takeB_any B b L i m w h hB hok hi
  · exact takeA_any B b L i m w h hB hok hi
end Go.Proofs.Ytcfbnmcdncndpaa
