/-
  Chapter 8: a link in memory; send, picked.
-/
import Derived.Test.YtcfbnmcdncndpaaWDel
namespace Go.Proofs.Ytcfbnmcdncndpaa
open Go.ChangeShapes Go.WideShapes Go.ChangeAt Go.RowKit
set_option linter.unusedVariables false
set_option linter.unusedSimpArgs false

structure Lnk where
  box : List Msg
  wire : List Pkt
  store : List Msg
structure Mv where
  k : Int
  i : Int
  m : Msg
def sendL (L : Lnk) (p : Pkt) : Lnk × Int := if 60 ≤ L.wire.length then (L, 16) else (⟨L.box, L.wire ++ [p], L.store⟩, 0)
def ackBox (l : List Msg) (m : Msg) : List Msg := match hasM l m.s, l[posM l m.s]? with
  | true, some o => if o.v ≤ m.v then delL l (posM l m.s) else l
  | _, _ => l
def takeL (L : Lnk) (i : Nat) (p : Pkt) : Lnk × Int :=
  if p.a = true then (⟨ackBox L.box p.m, delL L.wire i, L.store⟩, 0)
  else if (recvM L.store p.m).2 = 0 then sendL ⟨L.box, delL L.wire i, (recvM L.store p.m).1⟩ ⟨p.m, true⟩ else (⟨L.box, L.wire, (recvM L.store p.m).1⟩, (recvM L.store p.m).2)

def Dis (x y : Option Nat) : Prop := ∀ g, x = some g → y ≠ some g
theorem Dis.symm {x y : Option Nat} (h : Dis x y) : Dis y x := fun g hy hx => h g hx hy
theorem Dis.or {x y : Option Nat} (h : Dis x y) : x = none ∨ x ≠ y := by
  cases x with
  | none => exact .inl rfl
  | some g => exact .inr fun e => h g rfl e.symm
structure LinkAt (B b : Nat) (A1 : Option Addr) (c1 : Nat) (A2 : Option Addr) (c2 : Nat) (A3 : Option Addr) (c3 : Nat) (L : Lnk) (w : World) : Prop where
  blk : w.heap[b]? = some (.cells #[.slice A1 L.box.length c1, .slice A2 L.store.length c2, .slice A3 L.wire.length c3] 153 (0, 0))
  o1 : w.ownsRow B 45 3 (.slice A1 L.box.length c1) L.box.length (cellsOf 3 msgC L.box)
  o2 : w.ownsRow B 45 3 (.slice A2 L.store.length c2) L.store.length (cellsOf 3 msgC L.store)
  o3 : w.ownsRow B 150 4 (.slice A3 L.wire.length c3) L.wire.length (cellsOf 4 pktC L.wire)
  d1 : Value.ownBlock (.slice A1 L.box.length c1) ≠ some b
  d2 : Value.ownBlock (.slice A2 L.store.length c2) ≠ some b
  d3 : Value.ownBlock (.slice A3 L.wire.length c3) ≠ some b
  x12 : Dis (Value.ownBlock (.slice A1 L.box.length c1)) (Value.ownBlock (.slice A2 L.store.length c2))
  x13 : Dis (Value.ownBlock (.slice A1 L.box.length c1)) (Value.ownBlock (.slice A3 L.wire.length c3))
  x23 : Dis (Value.ownBlock (.slice A2 L.store.length c2)) (Value.ownBlock (.slice A3 L.wire.length c3))
section
variable {B b : Nat} {A1 : Option Addr} {c1 : Nat} {A2 : Option Addr} {c2 : Nat} {A3 : Option Addr} {c3 : Nat} {L : Lnk} {w w' : World}
theorem LinkAt.lt (h : LinkAt B b A1 c1 A2 c2 A3 c3 L w) : b < w.heap.size := (Array.getElem?_eq_some_iff.1 h.blk).1
theorem LinkAt.below (h : LinkAt B b A1 c1 A2 c2 A3 c3 L w) (hb : Below w.heap.size w w') : LinkAt B b A1 c1 A2 c2 A3 c3 L w' :=
  ⟨blk_below' hb h.blk, own_below h.o1 hb, own_below h.o2 hb, own_below h.o3 hb, h.d1, h.d2, h.d3, h.x12, h.x13, h.x23⟩
theorem LinkAt.p1 (h : LinkAt B b A1 c1 A2 c2 A3 c3 L w) : w.cell? ⟨b, 0, none⟩ = some (.slice A1 L.box.length c1) := blk_cell h.blk rfl
theorem LinkAt.p2 (h : LinkAt B b A1 c1 A2 c2 A3 c3 L w) : w.cell? ⟨b, 1, none⟩ = some (.slice A2 L.store.length c2) := blk_cell h.blk rfl
theorem LinkAt.p3 (h : LinkAt B b A1 c1 A2 c2 A3 c3 L w) : w.cell? ⟨b, 2, none⟩ = some (.slice A3 L.wire.length c3) := blk_cell h.blk rfl
theorem LinkAt.fz (h : LinkAt B b A1 c1 A2 c2 A3 c3 L w) (j : Nat) : w.frozen? ⟨b, j, none⟩ = false := blk_frozen h.blk
theorem dis_new {x y y' : Option Nat} {n : Nat} (hx : ∀ k, x = some k → k < n) (h : Dis x y) (hz : y' = y ∨ ∀ g, y' = some g → n ≤ g) : Dis x y' := by
  rcases hz with rfl | hz
  · exact h
  · exact fun g hg e => by have := hx g hg; have := hz g e; omega
theorem ne_new {y y' : Option Nat} {b n : Nat} (hb : b < n) (h : y ≠ some b) (hz : y' = y ∨ ∀ g, y' = some g → n ≤ g) : y' ≠ some b := by
  rcases hz with rfl | hz
  · exact h
  · exact fun e => by have := hz b e; omega
theorem LinkAt.wire_ (h : LinkAt B b A1 c1 A2 c2 A3 c3 L w) {A' : Option Addr} {c' : Nat} {l' : List Pkt} (ht : Turned w w' b (Value.ownBlock (.slice A3 L.wire.length c3)))
    (hb : w'.heap[b]? = some (.cells #[.slice A1 L.box.length c1, .slice A2 L.store.length c2, .slice A' l'.length c'] 153 (0, 0))) (ho : w'.ownsRow B 150 4 (.slice A' l'.length c') l'.length (cellsOf 4 pktC l'))
    (hz : Value.ownBlock (.slice A' l'.length c') = Value.ownBlock (.slice A3 L.wire.length c3) ∨ ∀ g, Value.ownBlock (.slice A' l'.length c') = some g → w.heap.size ≤ g) : LinkAt B b A1 c1 A2 c2 A' c' ⟨L.box, l', L.store⟩ w' :=
  ⟨hb, ht.own h.o1 h.d1 h.x13.or, ht.own h.o2 h.d2 h.x23.or, ho, h.d1, h.d2, ne_new h.lt h.d3 hz, h.x12, dis_new (fun k hk => (h.o1.lt k hk).2) h.x13 hz, dis_new (fun k hk => (h.o2.lt k hk).2) h.x23 hz⟩
theorem LinkAt.box_ (h : LinkAt B b A1 c1 A2 c2 A3 c3 L w) {A' : Option Addr} {c' : Nat} {l' : List Msg} (ht : Turned w w' b (Value.ownBlock (.slice A1 L.box.length c1)))
    (hb : w'.heap[b]? = some (.cells #[.slice A' l'.length c', .slice A2 L.store.length c2, .slice A3 L.wire.length c3] 153 (0, 0))) (ho : w'.ownsRow B 45 3 (.slice A' l'.length c') l'.length (cellsOf 3 msgC l'))
    (hz : Value.ownBlock (.slice A' l'.length c') = Value.ownBlock (.slice A1 L.box.length c1) ∨ ∀ g, Value.ownBlock (.slice A' l'.length c') = some g → w.heap.size ≤ g) : LinkAt B b A' c' A2 c2 A3 c3 ⟨l', L.wire, L.store⟩ w' :=
  ⟨hb, ho, ht.own h.o2 h.d2 h.x12.symm.or, ht.own h.o3 h.d3 h.x13.symm.or, ne_new h.lt h.d1 hz, h.d2, h.d3, (dis_new (fun k hk => (h.o2.lt k hk).2) h.x12.symm hz).symm, (dis_new (fun k hk => (h.o3.lt k hk).2) h.x13.symm hz).symm, h.x23⟩
theorem LinkAt.store_ (h : LinkAt B b A1 c1 A2 c2 A3 c3 L w) {A' : Option Addr} {c' : Nat} {l' : List Msg} (ht : Turned w w' b (Value.ownBlock (.slice A2 L.store.length c2)))
    (hb : w'.heap[b]? = some (.cells #[.slice A1 L.box.length c1, .slice A' l'.length c', .slice A3 L.wire.length c3] 153 (0, 0))) (ho : w'.ownsRow B 45 3 (.slice A' l'.length c') l'.length (cellsOf 3 msgC l'))
    (hz : Value.ownBlock (.slice A' l'.length c') = Value.ownBlock (.slice A2 L.store.length c2) ∨ ∀ g, Value.ownBlock (.slice A' l'.length c') = some g → w.heap.size ≤ g) : LinkAt B b A1 c1 A' c' A3 c3 ⟨L.box, L.wire, l'⟩ w' :=
  ⟨hb, ht.own h.o1 h.d1 h.x12.or, ho, ht.own h.o3 h.d3 h.x23.symm.or, h.d1, ne_new h.lt h.d2 hz, h.d3, dis_new (fun k hk => (h.o1.lt k hk).2) h.x12 hz, h.x13, (dis_new (fun k hk => (h.o3.lt k hk).2) h.x23.symm hz).symm⟩
theorem LinkAt.b1 (h : LinkAt B b A1 c1 A2 c2 A3 c3 L w) (hB : B ≤ b) (ht : Turned w w' b (Value.ownBlock (.slice A1 L.box.length c1))) : Below B w w' := ht.below hB (fun g hg => (h.o1.lt g hg).1) (by have := h.lt; omega)
theorem LinkAt.b2 (h : LinkAt B b A1 c1 A2 c2 A3 c3 L w) (hB : B ≤ b) (ht : Turned w w' b (Value.ownBlock (.slice A2 L.store.length c2))) : Below B w w' := ht.below hB (fun g hg => (h.o2.lt g hg).1) (by have := h.lt; omega)
theorem LinkAt.b3 (h : LinkAt B b A1 c1 A2 c2 A3 c3 L w) (hB : B ≤ b) (ht : Turned w w' b (Value.ownBlock (.slice A3 L.wire.length c3))) : Below B w w' := ht.below hB (fun g hg => (h.o3.lt g hg).1) (by have := h.lt; omega)
end
def LinkIn (B b : Nat) (L : Lnk) (w : World) : Prop := ∃ A1 c1 A2 c2 A3 c3, LinkAt B b A1 c1 A2 c2 A3 c3 L w
def LinkE (q : Lnk × Int) (B b : Nat) (w : World) (e : Ending) (w' : World) : Prop := e = .returned (.int .i64 q.2) ∧ LinkIn B b q.1 w' ∧ Below B w w'
theorem LinkIn.below {B b : Nat} {L : Lnk} {w w' : World} (h : LinkIn B b L w) (hb : Below w.heap.size w w') : LinkIn B b L w' := by
  obtain ⟨A1, c1, A2, c2, A3, c3, h⟩ := h
  exact ⟨A1, c1, A2, c2, A3, c3, h.below hb⟩

theorem news4 {w : World} {vb : Nat} {p : Pkt} (hv : w.heap[vb]? = some (.cells #[.string p.m.s, .int .i64 p.m.v, .int .i64 p.m.l, .bool p.a] 150)) : ∀ j u, [Value.string p.m.s, .int .i64 p.m.v, .int .i64 p.m.l, .bool p.a][j]? = some u → w.cell? ((⟨vb, 0, none⟩ : Addr).add j) = some u := fun j u hu => by
  rw [Addr.add_lit, Nat.zero_add]
  exact blk_cell hv (by simpa using hu)
set_option maxRecDepth 100000 in
set_option maxHeartbeats 2000000 in
theorem send_any (B b : Nat) (L : Lnk) (p : Pkt) (w : World) (h : LinkIn B b L w) (hB : B ≤ b) :
    Calls Try.prog 119 #[.pointer (some ⟨b, 0, none⟩), .agg #[.string p.m.s, .int .i64 p.m.v, .int .i64 p.m.l, .bool p.a]] w (LinkE (sendL L p) B b w) := by
  obtain ⟨A1, c1, A2, c2, A3, c3, h⟩ := h
  obtain ⟨i0, hi0, hz0, hz1, hz2⟩ := infoPkt_
  have hq : sendL L p = if 60 ≤ L.wire.length then (L, 16) else (⟨L.box, L.wire ++ [p], L.store⟩, 0) := rfl
  have p3 := h.p3
  have hbl := h.lt
  have H := Lib.hid h
  have HI := Lib.hid hi0
  have HZ0 := Lib.hid hz0
  have HZ1 := Lib.hid hz1
  have HZ2 := Lib.hid hz2
  clear h hi0 hz0 hz1 hz2
  by_cases hlen : 60 ≤ L.wire.length
  · rw [if_pos hlen] at hq
    have HQ := Lib.hid hq
    have h1 : (60 : Int) ≤ (L.wire.length : Int) := by omega
    clear hq hlen
    go_enter Try.func119, Try.ntmps119
    go_wp2
    go_ret
    rw [HQ.out]
    exact ⟨rfl, ⟨_, _, _, _, _, _, H.out.below (by repeat (first | assumption | exact Below.refl _ _ | refine Below.drew ?_ | (refine below_alloc _ ?_ ?_; focus (first | omega | (simp; done) | (simp; omega) | (simp at *; omega))) | (refine below_set _ ?_ ?_; focus (first | omega | (simp; done) | (simp; omega) | (simp at *; omega))) | refine below_drewN ?_ _ | (refine below_call (by assumption) ?_ ?_; focus (first | omega | (simp; done) | (simp; omega) | (simp at *; omega))) | (refine below_call' (by assumption) ?_ ?_; focus (first | omega | (simp; done) | (simp; omega) | (simp at *; omega)))))⟩, (by repeat (first | assumption | exact Below.refl _ _ | refine Below.drew ?_ | (refine below_alloc _ ?_ ?_; focus (first | omega | (simp; done) | (simp; omega) | (simp at *; omega))) | (refine below_set _ ?_ ?_; focus (first | omega | (simp; done) | (simp; omega) | (simp at *; omega))) | refine below_drewN ?_ _ | (refine below_call (by assumption) ?_ ?_; focus (first | omega | (simp; done) | (simp; omega) | (simp at *; omega))) | (refine below_call' (by assumption) ?_ ?_; focus (first | omega | (simp; done) | (simp; omega) | (simp at *; omega)))))⟩
  · rw [if_neg hlen] at hq
    have HQ := Lib.hid hq
    have h1 : ¬ ((60 : Int) ≤ (L.wire.length : Int)) := by omega
    clear hq
    go_enter Try.func119, Try.ntmps119
    go_wp2
    have hv0 : Below w.heap.size w (w.alloc (.cells #[.string p.m.s, .int .i64 p.m.v, .int .i64 p.m.l, .bool p.a] 150)) := (by repeat (first | assumption | exact Below.refl _ _ | refine Below.drew ?_ | (refine below_alloc _ ?_ ?_; focus (first | omega | (simp; done) | (simp; omega) | (simp at *; omega))) | (refine below_set _ ?_ ?_; focus (first | omega | (simp; done) | (simp; omega) | (simp at *; omega))) | refine below_drewN ?_ _ | (refine below_call (by assumption) ?_ ?_; focus (first | omega | (simp; done) | (simp; omega) | (simp at *; omega))) | (refine below_call' (by assumption) ?_ ?_; focus (first | omega | (simp; done) | (simp; omega) | (simp at *; omega)))))
    have x0 : (w.alloc (.cells #[.string p.m.s, .int .i64 p.m.v, .int .i64 p.m.l, .bool p.a] 150)).cell? ⟨w.heap.size, 0, none⟩ = some (.string p.m.s) := cell_new rfl rfl
    have x1 : (w.alloc (.cells #[.string p.m.s, .int .i64 p.m.v, .int .i64 p.m.l, .bool p.a] 150)).cell? ⟨w.heap.size, 1, none⟩ = some (.int .i64 p.m.v) := cell_new rfl rfl
    have x2 : (w.alloc (.cells #[.string p.m.s, .int .i64 p.m.v, .int .i64 p.m.l, .bool p.a] 150)).cell? ⟨w.heap.size, 2, none⟩ = some (.int .i64 p.m.l) := cell_new rfl rfl
    have x3 : (w.alloc (.cells #[.string p.m.s, .int .i64 p.m.v, .int .i64 p.m.l, .bool p.a] 150)).cell? ⟨w.heap.size, 3, none⟩ = some (.bool p.a) := cell_new rfl rfl
    have hz : (w.alloc (.cells #[.string p.m.s, .int .i64 p.m.v, .int .i64 p.m.l, .bool p.a] 150)).heap.size = w.heap.size + 1 := by simp
    generalize (w.alloc (.cells #[.string p.m.s, .int .i64 p.m.v, .int .i64 p.m.l, .bool p.a] 150)) = v at *
    have zv : w.heap.size < v.heap.size := by omega
    have zb : b < v.heap.size := by omega
    have hv := H.out.below hv0
    have HV := Lib.hid hv
    have q3 : v.cell? ⟨b, 2, none⟩ = some (.slice A3 L.wire.length c3) := hv.p3
    have hlw : L.wire.length + 1 ≤ 100 := by omega
    clear hv hz p3
    go_region_law (refine step_append_rows _ rfl (.tmp 15) (.tmp 17) 39 rfl B 150 i0 (.agg #[.string ⟨#[]⟩, .int .i64 0, .int .i64 0, .bool false]) 4 40 Try.underlying39 HI.out HZ0.out HZ1.out HZ2.out rfl (by decide) A3 L.wire.length c3 (cellsOf 4 pktC L.wire) (by simp [Act.eval, Act.put]) (own_below HV.out.o3 (by repeat (first | assumption | exact Below.refl _ _ | refine Below.drew ?_ | (refine below_alloc _ ?_ ?_; focus (first | omega | (simp; done) | (simp; omega) | (simp at *; omega))) | (refine below_set _ ?_ ?_; focus (first | omega | (simp; done) | (simp; omega) | (simp at *; omega))) | refine below_drewN ?_ _ | (refine below_call (by assumption) ?_ ?_; focus (first | omega | (simp; done) | (simp; omega) | (simp at *; omega))) | (refine below_call' (by assumption) ?_ ?_; focus (first | omega | (simp; done) | (simp; omega) | (simp at *; omega)))))) (some ⟨v.heap.size, 0, none⟩) 1 1 [.string p.m.s, .int .i64 p.m.v, .int .i64 p.m.l, .bool p.a] (by simp [Act.eval, Act.put]) rfl (fun h => by cases h) (fun ad h => by cases h; exact news4 (by repeat (first | assumption | (refine blk_new ?_; focus (simp; done)) | refine blk_drew ?_ | refine blk_alloc _ ?_ | refine blk_drewN _ ?_ | (refine blk_far _ ?_ ?_; focus (first | omega | (simp; omega) | (simp; done))) | refine blk_below' (by assumption) ?_))) (mem4 p) (by unfold maxLen; omega) (by omega) (by simp; omega) ?_; intro A' c' w3 h1 h2 h3; have hp4 : w3.heap[b]? = some (.cells #[.slice A1 L.box.length c1, .slice A2 L.store.length c2, .slice A3 L.wire.length c3] 153 (0, 0)) := (h2.block b (by simp; omega) (fun e => HV.out.d3 e.symm)).trans (by have hq := HV.out.blk; exact (by repeat (first | assumption | (refine blk_new ?_; focus (simp; done)) | refine blk_drew ?_ | refine blk_alloc _ ?_ | refine blk_drewN _ ?_ | (refine blk_far _ ?_ ?_; focus (first | omega | (simp; omega) | (simp; done))) | refine blk_below' (by assumption) ?_))); have p4 : w3.cell? ⟨b, 2, none⟩ = some (.slice A3 L.wire.length c3) := blk_cell hp4 rfl; have f4 : w3.frozen? ⟨b, 2, none⟩ = false := blk_frozen hp4)
    all_goals
      have hL : (L.wire ++ [p]).length = L.wire.length + 1 := by simp
      have ho0 : w3.ownsRow B 150 4 (.slice A' (L.wire ++ [p]).length c') (L.wire ++ [p]).length (cellsOf 4 pktC (L.wire ++ [p])) := by rw [hL, cellsOf_append]; exact h1
      have hz3 : Value.ownBlock (.slice A' (L.wire ++ [p]).length c') = Value.ownBlock (.slice A3 L.wire.length c3) ∨ ∀ g, Value.ownBlock (.slice A' (L.wire ++ [p]).length c') = some g → v.heap.size ≤ g := by
        rw [hL]
        rcases h3 with h | h
        · exact .inl h
        · exact .inr fun g hg => by rw [h] at hg; have := Option.some.inj hg; simp at this; omega
      have ht : Turned v (w3.setCell ⟨b, 2, none⟩ (.slice A' (L.wire ++ [p]).length c')) b (Value.ownBlock (.slice A3 L.wire.length c3)) := (Turned.trans (w' := v.alloc (.cells #[.string p.m.s, .int .i64 p.m.v, .int .i64 p.m.l, .bool p.a] 150)) (row := Value.ownBlock (.slice A3 L.wire.length c3)) (Turned.of_below (by repeat (first | assumption | exact Below.refl _ _ | refine Below.drew ?_ | (refine below_alloc _ ?_ ?_; focus (first | omega | (simp; done) | (simp; omega) | (simp at *; omega))) | (refine below_set _ ?_ ?_; focus (first | omega | (simp; done) | (simp; omega) | (simp at *; omega))) | refine below_drewN ?_ _ | (refine below_call (by assumption) ?_ ?_; focus (first | omega | (simp; done) | (simp; omega) | (simp at *; omega))) | (refine below_call' (by assumption) ?_ ?_; focus (first | omega | (simp; done) | (simp; omega) | (simp at *; omega)))))) (Turned.of_grown ⟨h2.os, h2.tape, h2.output, h2.size, h2.block⟩) (.inl rfl)).set_ _
      have hln := HV.out.wire_ ht (heap_set hp4) (own_set ho0 (ne_new zb HV.out.d3 hz3) _) hz3
      have hbe : Below B w (w3.setCell ⟨b, 2, none⟩ (.slice A' (L.wire ++ [p]).length c')) := (hv0.mono (by omega)).trans (HV.out.b3 hB ht)
      have HL := Lib.hid hL
      have HLN := Lib.hid hln
      clear hL ho0 hz3 ht hln h1 h2 h3 hp4 p4 f4 x0 x1 x2 x3 q3
      rw [← HL.out]
      go_wp2
      go_ret
      rw [HQ.out]
      exact ⟨rfl, ⟨_, _, _, _, _, _, HLN.out⟩, hbe⟩
def pickL (l : List Pkt) (i : Int) : Option Pkt := if 0 ≤ i then l[i.toNat]? else none
def pkVal : Option Pkt → Value
  | some p => .tuple #[.agg #[.string p.m.s, .int .i64 p.m.v, .int .i64 p.m.l, .bool p.a], .bool true]
  | none => .tuple #[.agg #[.string ⟨#[]⟩, .int .i64 0, .int .i64 0, .bool false], .bool false]
theorem within_is (n lo hi : Int) (bv : Bool) (w : World) (h : withinB n lo hi = bv) :
    Calls Try.prog 88 #[.int .i64 n, .int .i64 lo, .int .i64 hi] w fun e w' => e = .returned (.bool bv) ∧ w = w' := by
  subst h; exact within_any n lo hi w
set_option maxHeartbeats 1000000 in
theorem picked_any (B b : Nat) (L : Lnk) (i : Int) (w : World) (h : LinkIn B b L w) (hl : L.wire.length ≤ 60) :
    Calls Try.prog 120 #[.pointer (some ⟨b, 0, none⟩), .int .i64 i] w fun e w' => e = .returned (pkVal (pickL L.wire i)) ∧ Below w.heap.size w w' := by
  obtain ⟨A1, c1, A2, c2, A3, c3, h⟩ := h
  have p3 := h.p3
  have hbl := h.lt
  have hA : PktsAt w A3 L.wire := rowsAt_of_own h.o3 rfl (by decide)
  have hl1 : (L.wire.length : Int) ≤ 60 := by omega
  clear h
  by_cases hi : 0 ≤ i ∧ i < L.wire.length
  · obtain ⟨k, rfl⟩ : ∃ k : Nat, i = k := ⟨i.toNat, by omega⟩
    have hk : k < L.wire.length := by omega
    have hpk : pickL L.wire k = some L.wire[k] := by unfold pickL; rw [if_pos (by omega), Int.toNat_natCast, List.getElem?_eq_getElem hk]
    have hw : withinB (k : Int) 0 ((L.wire.length : Int) - 1) = true := withinB_true.2 ⟨by omega, by omega⟩
    obtain ⟨b1, o1, rfl, hb1, d0, d1, d2, d3⟩ := PktsAt.at_ hA hk
    have HP := Lib.hid hpk
    have HW := Lib.hid hw
    clear hpk hw hi
    generalize L.wire[k] = p at *
    have hk1 : (k : Int) < (L.wire.length : Int) := by omega
    go_enter Try.func120, Try.ntmps120
    go_wp2_with (go_at_call 88; refine (within_is _ _ _ _ _ HW.out).mono ?_; rintro e w' ⟨rfl, rfl⟩)
    refine bodyPost_ret (v := .tuple #[.agg #[.string p.m.s, .int .i64 p.m.v, .int .i64 p.m.l, .bool p.a], .bool true]) (by simp [results, Try.results120, go_sem]) rfl ?_
    exact ⟨by rw [HP.out]; rfl, (by repeat (first | assumption | exact Below.refl _ _ | refine Below.drew ?_ | (refine below_alloc _ ?_ ?_; focus (first | omega | (simp; done) | (simp; omega) | (simp at *; omega))) | (refine below_set _ ?_ ?_; focus (first | omega | (simp; done) | (simp; omega) | (simp at *; omega))) | refine below_drewN ?_ _ | (refine below_call (by assumption) ?_ ?_; focus (first | omega | (simp; done) | (simp; omega) | (simp at *; omega))) | (refine below_call' (by assumption) ?_ ?_; focus (first | omega | (simp; done) | (simp; omega) | (simp at *; omega)))))⟩
  · have hpk : pickL L.wire i = none := by
      unfold pickL
      by_cases h0 : 0 ≤ i
      · rw [if_pos h0]; exact List.getElem?_eq_none (by omega)
      · rw [if_neg h0]
    have hw : withinB i 0 ((L.wire.length : Int) - 1) = false := withinB_false.2 (by omega)
    have HP := Lib.hid hpk
    have HW := Lib.hid hw
    clear hpk hw hi
    go_enter Try.func120, Try.ntmps120
    go_wp2_with (go_at_call 88; refine (within_is _ _ _ _ _ HW.out).mono ?_; rintro e w' ⟨rfl, rfl⟩)
    refine bodyPost_ret (v := .tuple #[.agg #[.string ⟨#[]⟩, .int .i64 0, .int .i64 0, .bool false], .bool false]) (by simp [results, Try.results120, go_sem]) rfl ?_
    exact ⟨by rw [HP.out]; rfl, (by repeat (first | assumption | exact Below.refl _ _ | refine Below.drew ?_ | (refine below_alloc _ ?_ ?_; focus (first | omega | (simp; done) | (simp; omega) | (simp at *; omega))) | (refine below_set _ ?_ ?_; focus (first | omega | (simp; done) | (simp; omega) | (simp at *; omega))) | refine below_drewN ?_ _ | (refine below_call (by assumption) ?_ ?_; focus (first | omega | (simp; done) | (simp; omega) | (simp at *; omega))) | (refine below_call' (by assumption) ?_ ?_; focus (first | omega | (simp; done) | (simp; omega) | (simp at *; omega)))))⟩
end Go.Proofs.Ytcfbnmcdncndpaa
