/-
  Chapter 8: CanFlush; FlushOf.
-/
import Derived.Test.YtcfbnmcdncndpaaWCpL
import Derived.Test.YtcfbnmcdncndpaaFluP
import Derived.Test.YtcfbnmcdncndpaaWAwk
namespace Go.Proofs.Ytcfbnmcdncndpaa
open Go.ChangeShapes Go.WideShapes Go.ChangeAt Go.RowKit
set_option linter.unusedVariables false
set_option linter.unusedSimpArgs false

def CanI (w1 : World) (x y : List Msg) (s i : Value) (wr : World) : Prop :=
  ∃ (k : Nat) (A' : Option Addr) (S : List Msg) (c' : Nat), k ≤ x.length ∧ i = .int .i64 k ∧ s = .slice A' S.length c' ∧ Below w1.heap.size w1 wr ∧ MsgsAt wr A' S ∧ Srt S ∧ S.length ≤ 30 ∧ flushG x y = flushG (x.drop k) S
set_option maxRecDepth 100000 in
set_option maxHeartbeats 4000000 in
theorem CanFlush_any (A1 : Option Addr) (c1 : Nat) (A2 : Option Addr) (c2 : Nat) (A3 : Option Addr) (c3 : Nat) (L : Lnk) (w : World) (hE : lnkE L = 0) (hR : LnkR A1 A2 A3 L w) :
    Calls Try.prog 60 #[LnkV A1 c1 A2 c2 A3 c3 L] w fun e w' => e = .returned (.bool (flushG L.box L.store).isSome) ∧ Below w.heap.size w w' := by
  obtain ⟨⟨m1, s1, l1⟩, ⟨m2, s2, l2⟩, l3⟩ := lnkE_parts hE
  obtain ⟨x, z, y⟩ := L
  obtain ⟨hx, hy, hz⟩ := hR
  simp only [LnkV] at hx hy hz m1 s1 l1 s2 l2 ⊢
  have HM1 := Lib.hid m1
  have HS2 := Lib.hid s2
  clear hE m1 m2 s1 s2 hz l3
  go_enter Try.func60, Try.ntmps60
  go_wp2_with (fail)
  have hb0 : Below w.heap.size w (w.alloc (.cells #[.slice A1 x.length c1, .slice A3 z.length c3, .slice A2 y.length c2] 41)) := below_alloc _ (Nat.le_refl _) (Below.refl _ _)
  have a0 : (w.alloc (.cells #[.slice A1 x.length c1, .slice A3 z.length c3, .slice A2 y.length c2] 41)).cell? ⟨w.heap.size, 0, none⟩ = some (.slice A1 x.length c1) := cell_new (by simp) rfl
  have a1 : (w.alloc (.cells #[.slice A1 x.length c1, .slice A3 z.length c3, .slice A2 y.length c2] 41)).cell? ⟨w.heap.size, 1, none⟩ = some (.slice A3 z.length c3) := cell_new (by simp) rfl
  have a2 : (w.alloc (.cells #[.slice A1 x.length c1, .slice A3 z.length c3, .slice A2 y.length c2] 41)).cell? ⟨w.heap.size, 2, none⟩ = some (.slice A2 y.length c2) := cell_new (by simp) rfl
  have za : w.heap.size < (w.alloc (.cells #[.slice A1 x.length c1, .slice A3 z.length c3, .slice A2 y.length c2] 41)).heap.size := World.block_lt_of_cell? _ _ a0
  generalize (w.alloc (.cells #[.slice A1 x.length c1, .slice A3 z.length c3, .slice A2 y.length c2] 41)) = w0 at *
  have q1 := RowsAt.below hx hb0
  have q2 := RowsAt.below hy hb0
  clear hx hy
  refine (CopyMessages_any A2 y c2 _ (by omega) q2).mono ?_
  rintro e w1 ⟨A4, c4, rfl, own4, hb1⟩
  have r4 : MsgsAt w1 A4 y := rowsAt_of_own own4 rfl (by decide)
  have h1 : Below w.heap.size w w1 := (hb0).trans ((hb1).mono (hb0).size)
  replace a0 := cell_below' hb1 a0
  replace a1 := cell_below' hb1 a1
  replace a2 := cell_below' hb1 a2
  replace za := Nat.lt_of_lt_of_le za (hb1).size
  replace q1 := RowsAt.below q1 hb1
  clear hb1 hb0
  clear own4 q2
  have hI0 : CanI w1 x y (.slice A4 y.length c4) (.int .i64 0) w1 := ⟨0, A4, y, c4, Nat.zero_le _, rfl, rfl, Below.refl _ _, r4, HS2.out, l2, rfl⟩
  clear r4
  go_wp2_with (fail)
  go_loopw [3, 4] (fun s i wr => CanI w1 x y s i wr) (fun _ i _ => x.length - (intOf i).toNat)
  case atStart => exact hI0
  case round =>
    obtain ⟨k, A', S, c', hk, rfl, rfl, hbw, hS, hsrt, hS30, he⟩ := hrel
    have H := Lib.hid he
    have HSR := Lib.hid hsrt
    clear he hsrt
    have hbr := h1.trans (hbw.mono h1.size)
    replace a0 := cell_below' hbw a0
    replace za : w.heap.size < wr.heap.size := World.block_lt_of_cell? _ _ a0
    by_cases hlt : k < x.length
    · have hd : x.drop k = x[k] :: x.drop (k + 1) := List.drop_eq_getElem_cons hlt
      rw [hd, flushG] at H
      clear hd
      obtain ⟨b1, o1, rfl, hb1', e0, e1, e2⟩ := MsgsAt.at_ (RowsAt.below q1 hbw) hlt
      have hmE := HM1.out x[k] (List.getElem_mem _)
      generalize x[k] = m at *
      have hst : stepE S m = (recvM S m).2 := by unfold stepE; rw [if_pos hmE]
      have hrq : rcv S m = if stepE S m = 0 then ((recvM S m).1, 0) else ([], stepE S m) := rfl
      rw [hst] at hrq
      have HR := Lib.hid (fun W (h : MsgsAt W A' S) => RReceived_any A' S c' m W hS30 HSR.out h)
      have HSN := Lib.hid (recv_srt (m := m) HSR.out)
      have hln := recv_len (m := m) hS30
      clear hst hmE
      by_cases hr : (recvM S m).2 = 0
      · rw [if_pos hr] at H hrq
        rw [hrq] at HR
        clear hrq hr
        generalize (recvM S m).1 = S2 at *
        go_wp2_with (fail)
        refine (HR.out _ hS).mono ?_
        rintro e w2 ⟨A5, c5, rfl, r5, hb2⟩
        simp only at r5
        go_wp2_with (fail)
        go_roundw
        case rel => exact ⟨k + 1, A5, S2, c5, by omega, by go_num, rfl, hbw.trans (hb2.mono hbw.size), r5, HSN.out, hln, H.out⟩
        case measure => simp [intOf]; omega
      · rw [if_neg hr] at H hrq
        rw [hrq] at HR
        have e3 : ((recvM S m).2 != 0) = true := by simpa using hr
        clear hrq hr
        generalize (recvM S m).2 = E at *
        go_wp2_with (fail)
        refine (HR.out _ hS).mono ?_
        rintro e w2 ⟨A5, c5, rfl, r5, hb2⟩
        go_wp2_with (fail)
        go_ret
        exact ⟨ret_bool (by rw [H.out]; rfl), hbr.trans (hb2.mono hbr.size)⟩
    · have e : x.drop k = [] := List.drop_eq_nil_of_le (by omega)
      rw [e, flushG] at H
      clear e
      go_wp2_with (fail)
      go_ret
      exact ⟨ret_bool (by rw [H.out]; rfl), hbr⟩
def flushQ (L : Lnk) : List Mv × Int := if lnkE L = 0 then (if (flushG L.box L.store).isSome = true then (flushL L.wire.length L.box.length, 0) else ([], 12)) else ([], lnkE L)
def MvsE (q : List Mv × Int) (w : World) (e : Ending) (w' : World) : Prop := ∃ A' c', e = .returned (.tuple #[.slice A' q.1.length c', .int .i64 q.2]) ∧ MvsAt w' A' q.1 ∧ Below w.heap.size w w'
theorem LinkAt.grown {B b : Nat} {A1 : Option Addr} {c1 : Nat} {A2 : Option Addr} {c2 : Nat} {A3 : Option Addr} {c3 : Nat} {L : Lnk} {w w' : World} {row : Option Nat} (h : LinkAt B b A1 c1 A2 c2 A3 c3 L w) (hg : w.grownBy w' row) (hb : some b ≠ row)
    (n1 : ∀ g, Value.ownBlock (.slice A1 L.box.length c1) = some g → some g ≠ row) (n2 : ∀ g, Value.ownBlock (.slice A2 L.store.length c2) = some g → some g ≠ row) (n3 : ∀ g, Value.ownBlock (.slice A3 L.wire.length c3) = some g → some g ≠ row) : LinkAt B b A1 c1 A2 c2 A3 c3 L w' :=
  ⟨(hg.block b h.lt hb).trans h.blk, own_atB h.o1 (fun g o e ho => (hg.block g (Array.getElem?_eq_some_iff.1 ho).1 (n1 g e)).trans ho), own_atB h.o2 (fun g o e ho => (hg.block g (Array.getElem?_eq_some_iff.1 ho).1 (n2 g e)).trans ho), own_atB h.o3 (fun g o e ho => (hg.block g (Array.getElem?_eq_some_iff.1 ho).1 (n3 g e)).trans ho), h.d1, h.d2, h.d3, h.x12, h.x13, h.x23⟩
def FluA (w2 : World) (n : Nat) (out i : Value) (wr : World) : Prop :=
  ∃ (k : Nat) (A' : Option Addr) (c' : Nat), k ≤ n ∧ i = .int .i64 k ∧ out = .slice A' (flushL k 0).length c' ∧ Below w2.heap.size w2 wr ∧ wr.ownsRow w2.heap.size 47 5 (.slice A' (flushL k 0).length c') (flushL k 0).length (cellsOf 5 mvC (flushL k 0))
def FluI (w w2 : World) (B b : Nat) (D1 : Option Addr) (d1 : Nat) (D3 : Option Addr) (d3 : Nat) (x : List Msg) (z : List Pkt) (y : List Msg) (out i : Value) (wr : World) : Prop :=
  ∃ (k : Nat) (A' : Option Addr) (c' : Nat) (A2 : Option Addr) (c2 : Nat) (S : List Msg), k ≤ x.length ∧ i = .int .i64 k ∧ out = .slice A' (flushL z.length k).length c' ∧ Below w.heap.size w wr ∧ w2.heap.size ≤ wr.heap.size ∧ LinkAt B b D1 d1 A2 c2 D3 d3 ⟨x, z, S⟩ wr ∧
    wr.ownsRow w2.heap.size 47 5 (.slice A' (flushL z.length k).length c') (flushL z.length k).length (cellsOf 5 mvC (flushL z.length k)) ∧ Dis (Value.ownBlock (.slice A2 S.length c2)) (Value.ownBlock (.slice A' (flushL z.length k).length c')) ∧ Srt S ∧ S.length ≤ 30 ∧ flushG x y = flushG (x.drop k) S
set_option maxRecDepth 100000 in
set_option maxHeartbeats 8000000 in
theorem FlushOf_any (A1 : Option Addr) (c1 : Nat) (A2 : Option Addr) (c2 : Nat) (A3 : Option Addr) (c3 : Nat) (L : Lnk) (w : World) (hf : FewL L) (hR : LnkR A1 A2 A3 L w) :
    Calls Try.prog 59 #[LnkV A1 c1 A2 c2 A3 c3 L] w (MvsE (flushQ L) w) := by
  have hq : flushQ L = if lnkE L = 0 then (if (flushG L.box L.store).isSome = true then (flushL L.wire.length L.box.length, 0) else ([], 12)) else ([], lnkE L) := rfl
  have HQ := Lib.hid hq
  have HFW := Lib.hid hf
  obtain ⟨i0, hi0, hz0', hz1', hz2'⟩ := infoMv_
  have HI := Lib.hid hi0
  have HZ0 := Lib.hid hz0'
  have HZ1 := Lib.hid hz1'
  have HZ2 := Lib.hid hz2'
  clear hi0 hz0' hz1' hz2' hf hq
  go_enter Try.func59, Try.ntmps59
  go_wp2_with (fail)
  refine (openLink_any A1 c1 A2 c2 A3 c3 L _ HFW.out (hR.below (by repeat (first | assumption | exact Below.refl _ _ | refine Below.drew ?_ | (refine below_alloc _ ?_ ?_; focus (first | omega | (simp; done) | (simp; omega) | (simp at *; omega))) | (refine below_set _ ?_ ?_; focus (first | omega | (simp; done) | (simp; omega) | (simp at *; omega))) | refine below_drewN ?_ _ | (refine below_call (by assumption) ?_ ?_; focus (first | omega | (simp; done) | (simp; omega) | (simp at *; omega))) | (refine below_call' (by assumption) ?_ ?_; focus (first | omega | (simp; done) | (simp; omega) | (simp at *; omega))))))).mono ?_
  rintro e w1 ⟨D1, d1, D2, d2, D3, d3, rfl, o1, o2, o3, x12, x13, x23, hb1⟩
  have hz := hb1.size
  simp at hz o1 o2 o3
  have hbw1 : Below w.heap.size w w1 := (by repeat (first | assumption | exact Below.refl _ _ | refine Below.drew ?_ | (refine below_alloc _ ?_ ?_; focus (first | omega | (simp; done) | (simp; omega) | (simp at *; omega))) | (refine below_set _ ?_ ?_; focus (first | omega | (simp; done) | (simp; omega) | (simp at *; omega))) | refine below_drewN ?_ _ | (refine below_call (by assumption) ?_ ?_; focus (first | omega | (simp; done) | (simp; omega) | (simp at *; omega))) | (refine below_call' (by assumption) ?_ ?_; focus (first | omega | (simp; done) | (simp; omega) | (simp at *; omega)))))
  have HLK := Lib.hid (link_laid o1 o2 o3 x12 x13 x23)
  have hD1 : ∀ g, Value.ownBlock (.slice D1 L.box.length d1) = some g → g < w1.heap.size := fun g e => (o1.lt g e).2
  have hD2 : ∀ g, Value.ownBlock (.slice D2 L.store.length d2) = some g → g < w1.heap.size := fun g e => (o2.lt g e).2
  have hD3 : ∀ g, Value.ownBlock (.slice D3 L.wire.length d3) = some g → g < w1.heap.size := fun g e => (o3.lt g e).2
  have HD1 := Lib.hid hD1
  have HD2 := Lib.hid hD2
  have HD3 := Lib.hid hD3
  clear hb1 hR o1 o2 o3 x12 x13 x23 hD1 hD2 hD3
  by_cases hE : lnkE L = 0
  rotate_left 1
  · have h2 := HQ.out.trans (if_neg hE)
    have HQ2 := Lib.hid h2
    have hE2 : (lnkE L != 0) = true := by simpa using hE
    clear hE h2 HQ
    generalize lnkE L = E at *
    go_wp2_with (fail)
    go_ret2
    rw [HQ2.out]
    exact ⟨none, 0, rfl, RowsAt.nil, (by repeat (first | assumption | exact Below.refl _ _ | refine Below.drew ?_ | (refine below_alloc _ ?_ ?_; focus (first | omega | (simp; done) | (simp; omega) | (simp at *; omega))) | (refine below_set _ ?_ ?_; focus (first | omega | (simp; done) | (simp; omega) | (simp at *; omega))) | refine below_drewN ?_ _ | (refine below_call (by assumption) ?_ ?_; focus (first | omega | (simp; done) | (simp; omega) | (simp at *; omega))) | (refine below_call' (by assumption) ?_ ?_; focus (first | omega | (simp; done) | (simp; omega) | (simp at *; omega)))))⟩
  have h2 := HQ.out.trans (if_pos hE)
  have HQ2 := Lib.hid h2
  obtain ⟨⟨m1, s1, l1⟩, ⟨m2, s2, l2⟩, l3⟩ := lnkE_parts hE
  have HS2 := Lib.hid s2
  rw [hE]
  clear hE h2 HQ HFW m1 m2 s1 s2
  obtain ⟨x, z, y⟩ := L
  simp only at l1 l2 l3 HQ2 HLK HD1 HD2 HD3 HS2
  have hz12 : w1.heap.size < (w1.alloc (.cells #[.slice D1 x.length d1, .slice D2 y.length d2, .slice D3 z.length d3] 153)).heap.size := by simp
  go_upto_region 2 with (fail)
  have hb2 : Below w.heap.size w (w1.alloc (.cells #[.slice D1 x.length d1, .slice D2 y.length d2, .slice D3 z.length d3] 153)) := below_alloc _ (Nat.le_refl _) hbw1
  generalize (w1.alloc (.cells #[.slice D1 x.length d1, .slice D2 y.length d2, .slice D3 z.length d3] 153)) = w2 at *
  have p1 := HLK.out.p1
  have p2 := HLK.out.p2
  have p3 := HLK.out.p3
  go_wp2_with (fail)
  have e00 : flushL 0 0 = [] := rfl
  have hA0 : FluA w2 z.length (.slice none 0 0) (.int .i64 0) w2 := ⟨0, none, 0, Nat.zero_le _, rfl, rfl, Below.refl _ _, World.ownsRow_nil _ _ _ _⟩
  clear e00
  go_loopw [6, 20] (fun o i wr => FluA w2 z.length o i wr) (fun _ i _ => z.length - (intOf i).toNat)
  case atStart => exact hA0
  case round =>
    obtain ⟨k, A', c', hk, rfl, rfl, hbr, hown⟩ := hrel
    have hzr := hbr.size
    by_cases hlt : k < z.length
    · have hfl : (flushL k 0).length ≤ 100 := by rw [flushL_len]; omega
      have hnx := flushL_lose k
      have HNX := Lib.hid hnx
      have OWN := Lib.hid hown
      clear hnx hown
      generalize hF : flushL k 0 = F at *
      clear hF
      go_wp2_with (at_builtin; (refine wpList_append_rows _ rfl (.tmp 22) (.tmp 24) 42 rfl w2.heap.size 47 i0 (.agg #[.int .i64 0, .int .i64 0, .string ⟨#[]⟩, .int .i64 0, .int .i64 0]) 5 48 Try.underlying42 HI.out HZ0.out HZ1.out HZ2.out rfl (by decide) A' F.length c' (cellsOf 5 mvC F) rfl (World.ownsRow.alloc OWN.out _) (some ⟨_, 0, none⟩) 1 1 (cellsOf 5 mvC [mvLose]) rfl rfl (fun h => by cases h) (fun ad h => by cases h; exact RowsAt.news (rows_blkW (f := mvC) (m := 5) (l := [mvLose]) (blk_new rfl) rfl) (by decide)) mem_oneV (by unfold maxLen; omega) (by omega) (by simp; omega) ?_; intro A2' c2' w4 q1 q2 q3))
      have hb4 : Below w2.heap.size w2 w4 := below_own (below_alloc _ (Nat.le_refl _) hbr) q2 (World.ownsRow.alloc OWN.out _) (Nat.le_refl _) (by simp; omega)
      have hL : (F ++ [mvLose]).length = F.length + 1 := by simp
      go_roundw
      case rel =>
        refine ⟨k + 1, A2', c2', by omega, by go_num, by rw [← HNX.out, hL], hb4, ?_⟩
        rw [← HNX.out, hL, cellsOf_append]
        exact q1
      case measure => simp [intOf]; omega
    · obtain rfl : k = z.length := by omega
      have hlk := HLK.out.below hbr
      have hI0 : FluI w w2 (w.heap.size + 1) w1.heap.size D1 d1 D3 d3 x z y (.slice A' (flushL z.length 0).length c') (.int .i64 0) wr :=
        ⟨0, A', c', D2, d2, y, Nat.zero_le _, rfl, rfl, hb2.trans (hbr.mono hb2.size), hzr, hlk, hown, fun g e e2 => (by have h3 := HD2.out g e; have h4 := (hown.lt g e2).1; omega), HS2.out, l2, rfl⟩
      have p1r := hlk.p1
      have hblt := hlk.lt
      obtain ⟨wo, hwo⟩ : ∃ wo : World, wo = wr := ⟨_, rfl⟩
      subst hwo
      clear hown hlk p1 p2 p3 hbr
      go_wp2_with (fail)
      go_loopw [6, 30] (fun o i wr => FluI w w2 (w.heap.size + 1) w1.heap.size D1 d1 D3 d3 x z y o i wr) (fun _ i _ => x.length - (intOf i).toNat)
      case atStart => exact hI0
      case round =>
        obtain ⟨k, A', c', A2, c2, S, hk, rfl, rfl, hbw, hzw, hlk, hown, hdis, hsrt, hS30, he⟩ := hrel
        have HE := Lib.hid he
        have HSR := Lib.hid hsrt
        have OWN := Lib.hid hown
        have HDI := Lib.hid hdis
        have hbl := hlk.lt
        have hxr : MsgsAt wr D1 x := rowsAt_of_own (f := msgC) hlk.o1 rfl (by decide)
        clear he hsrt hown hdis p1r
        by_cases hlt : k < x.length
        · have hd : x.drop k = x[k] :: x.drop (k + 1) := List.drop_eq_getElem_cons hlt
          rw [hd, flushG] at HE
          clear hd
          obtain ⟨b1, o1, rfl, hb1', e0, e1, e2⟩ := MsgsAt.at_ hxr hlt
          have hfl : (flushL z.length k).length ≤ 300 := by rw [flushL_len]; omega
          have hnx := flushL_next z.length k
          have HNX := Lib.hid hnx
          have hk1 : (k : Int) < (x.length : Int) := by omega
          clear hnx
          generalize hF : flushL z.length k = F at *
          have HF := Lib.hid hF
          clear hF hxr
          generalize x[k] = m at *
          go_upto_region 12 with (fail)
          have hb5 : Below wr.heap.size wr (wr.alloc (.cells #[.string m.s, .int .i64 m.v, .int .i64 m.l] 45)) := below_alloc _ (Nat.le_refl _) (Below.refl _ _)
          have t0 : (wr.alloc (.cells #[.string m.s, .int .i64 m.v, .int .i64 m.l] 45)).cell? ⟨wr.heap.size, 0, none⟩ = some (.string m.s) := cell_new (by simp) rfl
          have t1 : (wr.alloc (.cells #[.string m.s, .int .i64 m.v, .int .i64 m.l] 45)).cell? ⟨wr.heap.size, 1, none⟩ = some (.int .i64 m.v) := cell_new (by simp) rfl
          have t2 : (wr.alloc (.cells #[.string m.s, .int .i64 m.v, .int .i64 m.l] 45)).cell? ⟨wr.heap.size, 2, none⟩ = some (.int .i64 m.l) := cell_new (by simp) rfl
          have zt : wr.heap.size < (wr.alloc (.cells #[.string m.s, .int .i64 m.v, .int .i64 m.l] 45)).heap.size := World.block_lt_of_cell? _ _ t0
          generalize (wr.alloc (.cells #[.string m.s, .int .i64 m.v, .int .i64 m.l] 45)) = w5 at *
          have hlk5 := hlk.below hb5
          have own5 := own_below OWN.out hb5
          have hz5 := hb5.size
          have h5 := hbw.trans (hb5.mono hbw.size)
          have q2 := hlk5.p2
          have hbl5 := hlk5.lt
          have HL5 := Lib.hid hlk5
          have OW5 := Lib.hid own5
          clear hlk hb5 OWN own5 hlk5 e0 e1 e2
          go_wp2_with (fail)
          refine (receive_any (w.heap.size + 1) w1.heap.size 1 A2 c2 _ 153 S m _ hS30 HSR.out (by omega) HL5.out.blk rfl HL5.out.o2 HL5.out.d2).mono ?_
          rintro e w6 ⟨rfl, A6, c6, hp6, own6, ht6, hz6⟩
          have hlk6 := LinkAt.store_ HL5.out ht6 hp6 own6 hz6
          have hb6 : Below (w.heap.size + 1) w5 w6 := HL5.out.b2 (by omega) ht6
          have h6 : Below w.heap.size w w6 := h5.trans (hb6.mono (by omega))
          have hz56 := ht6.size
          have oo6 := ht6.own OW5.out (fun e => by have := (OW5.out.lt _ e).1; omega) HDI.out.symm.or
          have hd6 : Dis (Value.ownBlock (.slice A' F.length c')) (Value.ownBlock (.slice A6 (recvM S m).1.length c6)) := dis_new (fun g e => (OW5.out.lt g e).2) HDI.out.symm hz6
          have HSN := Lib.hid (recv_srt (m := m) HSR.out)
          have hln := recv_len (m := m) hS30
          have HL6 := Lib.hid hlk6
          have OW6 := Lib.hid oo6
          have HD6 := Lib.hid hd6
          clear hp6 own6 ht6 hz6 hlk6 oo6 hd6 HL5 OW5 HDI HSR q2 t0 t1 t2 zt
          by_cases hr : (recvM S m).2 = 0
          · rw [if_pos hr] at HE
            rw [hr]
            clear hr
            generalize (recvM S m).1 = S2 at *
            have hb6l := HL6.out.lt
            go_wp2_with (at_builtin; (refine wpList_append_rows _ rfl (.tmp 38) (.tmp 42) 42 rfl w2.heap.size 47 i0 (.agg #[.int .i64 0, .int .i64 0, .string ⟨#[]⟩, .int .i64 0, .int .i64 0]) 5 48 Try.underlying42 HI.out HZ0.out HZ1.out HZ2.out rfl (by decide) A' F.length c' (cellsOf 5 mvC F) rfl (World.ownsRow.alloc OW6.out _) (some ⟨_, 0, none⟩) 3 3 (cellsOf 5 mvC [mvSend, mvTake, mvTake]) rfl rfl (fun h => by cases h) (fun ad h => by cases h; exact RowsAt.news (rows_blkW (f := mvC) (m := 5) (l := [mvSend, mvTake, mvTake]) (blk_new rfl) rfl) (by decide)) mem_oneV (by unfold maxLen; omega) (by omega) (by simp; omega) ?_; intro A2' c2' w7 g1 g2 g3))
            have hL : (F ++ [mvSend, mvTake, mvTake]).length = F.length + 3 := by simp
            have hlk7 : LinkAt (w.heap.size + 1) w1.heap.size (some ⟨b1, o1, none⟩) d1 A6 c6 D3 d3 ⟨x, z, S2⟩ w7 := LinkAt.grown (HL6.out.below (below_alloc _ (Nat.le_refl _) (Below.refl _ _))) g2 (fun e => by have := (OW6.out.lt _ e.symm).1; omega) (fun g e e2 => by have h3 := HD1.out g e; have h4 := (OW6.out.lt _ e2.symm).1; omega) (fun g e e2 => HD6.out g e2.symm e) (fun g e e2 => by have h3 := HD3.out g e; have h4 := (OW6.out.lt _ e2.symm).1; omega)
            have h7 : Below w.heap.size w w7 := below_own (below_alloc _ (Nat.le_refl _) h6) g2 (World.ownsRow.alloc OW6.out _) hb2.size (by have := h6.size; simp; omega)
            have hz7 := g2.size
            have hd7 := dis_new (fun g e => Nat.lt_succ_of_lt (HL6.out.o2.lt g e).2) HD6.out.symm (show Value.ownBlock (.slice A2' (F.length + 3) c2') = Value.ownBlock (.slice A' F.length c') ∨ ∀ g, Value.ownBlock (.slice A2' (F.length + 3) c2') = some g → w6.heap.size + 1 ≤ g from g3.imp id (fun h g e => by rw [h] at e; have := Option.some.inj e; simp at this; omega))
            go_roundw
            case rel =>
              refine ⟨k + 1, A2', c2', A6, c6, S2, by omega, by go_num, by rw [← HNX.out, hL], h7, by simp at hz7; omega, hlk7, ?_, ?_, HSN.out, hln, HE.out⟩
              · rw [← HNX.out, hL, cellsOf_append]
                exact g1
              · rw [← HNX.out, hL]
                exact hd7
            case measure => simp [intOf]; omega
          · rw [if_neg hr] at HE
            have hr2 : ((recvM S m).2 != 0) = true := by simpa using hr
            have hfin := HQ2.out
            rw [HE.out, if_neg (by simp)] at hfin
            have HFN := Lib.hid hfin
            clear hr hfin
            generalize (recvM S m).2 = E at *
            go_wp2_with (fail)
            go_ret2
            rw [HFN.out]
            exact ⟨none, 0, rfl, RowsAt.nil, h6⟩
        · obtain rfl : k = x.length := by omega
          have hd : x.drop x.length = [] := List.drop_length
          rw [hd, flushG] at HE
          have hfin := HQ2.out
          rw [HE.out, if_pos (show (some S).isSome = true from rfl)] at hfin
          have HFN := Lib.hid hfin
          clear hd hfin
          go_wp2_with (fail)
          go_ret2
          rw [HFN.out]
          exact ⟨A', c', rfl, rowsAt_of_own (f := mvC) OWN.out rfl (by decide), hbw⟩
end Go.Proofs.Ytcfbnmcdncndpaa
