/-
  Chapter 8: CopyLink; SameLink.
-/
import Derived.Test.YtcfbnmcdncndpaaWSml
import Derived.Deep.RegionHeld3
namespace Go.Proofs.Ytcfbnmcdncndpaa
open Go.ChangeShapes Go.WideShapes Go.ChangeAt Go.RowKit
set_option linter.unusedVariables false
set_option linter.unusedSimpArgs false

theorem step_appPkt (w : World) {ops : Array Oper} {o : Oper} {a : Act} {K : Act → World → Prop} {Q : Exit → Act → World → Prop} {E : Prop} (hgd : o.guard = none) (s x : Operand)
    (ho : o.op = .call { callee := .builtin .append, args := #[s, x], argTypes := #[39, 39] })
    (base : Nat) (A0 : Option Addr) (n c0 : Nat) (xs : List Value) (hs : a.eval s = .slice A0 n c0) (hown : w.ownsRow base 150 4 (.slice A0 n c0) n xs)
    (A : Option Addr) (m c : Nat) (news : List Value) (hx : a.eval x = .slice A m c) (hl : news.length = m * 4) (hA : A = none → m = 0) (hnews : ∀ ad, A = some ad → ∀ j u, news[j]? = some u → w.cell? (ad.add j) = some u) (h1 : ∀ u ∈ news, u.oneCell' = true)
    (hnm : n + m ≤ 1000000) (hbase : base ≤ w.heap.size)
    (h : ∀ A' c' w', w'.ownsRow base 150 4 (.slice A' (n + m) c') (n + m) (xs ++ news) → w.grownBy w' (Value.ownBlock (.slice A0 n c0)) → (Value.ownBlock (.slice A' (n + m) c') = Value.ownBlock (.slice A0 n c0) ∨ Value.ownBlock (.slice A' (n + m) c') = some w.heap.size) → K (a.put o.dst (.slice A' (n + m) c')) w') :
    if Region.wanted o (yielded ops a.tmps) = true then Oper.wp Try.prog o a w K Q else E := by
  obtain ⟨i0, hi, hz0, hz1, hz2⟩ := infoPkt_
  exact step_append_rows w hgd s x 39 ho base 150 i0 (.agg #[.string ⟨#[]⟩, .int .i64 0, .int .i64 0, .bool false]) 4 40 Try.underlying39 hi hz0 hz1 hz2 rfl (by decide) A0 n c0 xs hs hown A m c news hx hl hA hnews h1 (by unfold maxLen; omega) (by omega) hbase h
theorem own_atB {w w' : World} {B : Nat} {e : TypeId} {size : Nat} {v : Value} {n : Nat} {xs : List Value} (h : w.ownsRow B e size v n xs) (hb : ∀ g o, v.ownBlock = some g → w.heap[g]? = some o → w'.heap[g]? = some o) : w'.ownsRow B e size v n xs := by
  obtain ⟨h1, h2⟩ := h
  refine ⟨h1, ?_⟩
  rcases h2 with h2 | ⟨g, cap, cur, hv, hg, hh, r⟩
  · exact Or.inl h2
  · exact Or.inr ⟨g, cap, cur, hv, hg, hb g _ (by rw [hv]; rfl) hh, r⟩
theorem rows_farB {α : Type} {m : Nat} {f : α → Nat → Value} {w : World} {A : Option Addr} {l : List α} {b : Nat} {cs : Array Value} {T : TypeId} {fr : Nat × Nat} {v0 v1 v2 : Value} (hm : 0 < m) (h : RowsAt m f w A l) (hb : w.heap[b]? = some (.cells cs T fr)) (hne : ∀ (j : Nat) (v : Value) (x : α), cs[j]? = some v → v ≠ f x 0) :
    RowsAt m f (((w.setCell ⟨b, 0, none⟩ v0).setCell ⟨b, 1, none⟩ v1).setCell ⟨b, 2, none⟩ v2) A l := fun k x hk => by
  obtain ⟨b', off, e, hlt, hc⟩ := h k x hk
  have hbb : b ≠ b' := by
    rintro rfl
    have h0 := hc 0 hm
    rw [cell_of_row _ _ _ cs T fr hb] at h0
    exact hne _ _ x h0 rfl
  exact ⟨b', off, e, by simpa using hlt, fun j hj => far3 hbb (hc j hj)⟩
theorem lnk_farB {A1 A2 A3 : Option Addr} {L : Lnk} {w : World} {b : Nat} {a1 a2 a3 : Option Addr} {n1 n2 n3 c1 c2 c3 : Nat} {T : TypeId} {fr : Nat × Nat} {v0 v1 v2 : Value} (h : LnkR A1 A2 A3 L w) (hb : w.heap[b]? = some (.cells #[.slice a1 n1 c1, .slice a2 n2 c2, .slice a3 n3 c3] T fr)) :
    LnkR A1 A2 A3 L (((w.setCell ⟨b, 0, none⟩ v0).setCell ⟨b, 1, none⟩ v1).setCell ⟨b, 2, none⟩ v2) := by
  have hs : ∀ (j : Nat) (v : Value) (s : ByteArray), (#[Value.slice a1 n1 c1, .slice a2 n2 c2, .slice a3 n3 c3] : Array Value)[j]? = some v → v ≠ .string s := fun j v s hv e => by
    subst e
    match j, hv with
    | 0, hv => simp at hv
    | 1, hv => simp at hv
    | 2, hv => simp at hv
    | j + 3, hv => simp at hv
  exact ⟨rows_farB (by decide) h.r1 hb (fun j v x hv => hs j v x.s hv), rows_farB (by decide) h.r2 hb (fun j v x hv => hs j v x.s hv), rows_farB (by decide) h.r3 hb (fun j v x hv => hs j v x.m.s hv)⟩
def LnkCopied (L : Lnk) (w : World) (e : Ending) (w' : World) : Prop := ∃ A1 c1 A2 c2 A3 c3, e = .returned (LnkV A1 c1 A2 c2 A3 c3 L) ∧ LnkR A1 A2 A3 L w' ∧ Below w.heap.size w w'
set_option maxRecDepth 100000 in
set_option maxHeartbeats 4000000 in
theorem CopyLink_any (A1 : Option Addr) (c1 : Nat) (A2 : Option Addr) (c2 : Nat) (A3 : Option Addr) (c3 : Nat) (L : Lnk) (w : World) (g1 : L.box.length ≤ 300) (g2 : L.store.length ≤ 300) (g3 : L.wire.length ≤ 300) (hR : LnkR A1 A2 A3 L w) :
    Calls Try.prog 28 #[LnkV A1 c1 A2 c2 A3 c3 L] w (LnkCopied L w) := by
  obtain ⟨x, z, y⟩ := L
  obtain ⟨hx, hy, hz⟩ := hR
  simp only [LnkV] at hx hy hz g1 g2 g3 ⊢
  have HC1 := Lib.hid (fun W (h : MsgsAt W A1 x) => CopyMessages_any A1 x c1 W g1 h)
  have HC2 := Lib.hid (fun W (h : MsgsAt W A2 y) => CopyMessages_any A2 y c2 W g2 h)
  go_enter Try.func28, Try.ntmps28
  go_wp2_with (fail)
  have hb0 : Below w.heap.size w ((w.alloc (.cells #[.slice A1 x.length c1, .slice A3 z.length c3, .slice A2 y.length c2] 41)).alloc (.cells #[.slice none 0 0, .slice none 0 0, .slice none 0 0] 41)) := below_alloc _ (Nat.le_refl _) (below_alloc _ (Nat.le_refl _) (Below.refl _ _))
  have a0 : ((w.alloc (.cells #[.slice A1 x.length c1, .slice A3 z.length c3, .slice A2 y.length c2] 41)).alloc (.cells #[.slice none 0 0, .slice none 0 0, .slice none 0 0] 41)).cell? ⟨w.heap.size, 0, none⟩ = some (.slice A1 x.length c1) := cell_alloc _ (cell_new (by simp) rfl)
  have a1 : ((w.alloc (.cells #[.slice A1 x.length c1, .slice A3 z.length c3, .slice A2 y.length c2] 41)).alloc (.cells #[.slice none 0 0, .slice none 0 0, .slice none 0 0] 41)).cell? ⟨w.heap.size, 1, none⟩ = some (.slice A3 z.length c3) := cell_alloc _ (cell_new (by simp) rfl)
  have a2 : ((w.alloc (.cells #[.slice A1 x.length c1, .slice A3 z.length c3, .slice A2 y.length c2] 41)).alloc (.cells #[.slice none 0 0, .slice none 0 0, .slice none 0 0] 41)).cell? ⟨w.heap.size, 2, none⟩ = some (.slice A2 y.length c2) := cell_alloc _ (cell_new (by simp) rfl)
  have za : w.heap.size < ((w.alloc (.cells #[.slice A1 x.length c1, .slice A3 z.length c3, .slice A2 y.length c2] 41)).alloc (.cells #[.slice none 0 0, .slice none 0 0, .slice none 0 0] 41)).heap.size := World.block_lt_of_cell? _ _ a0
  have b0 : ((w.alloc (.cells #[.slice A1 x.length c1, .slice A3 z.length c3, .slice A2 y.length c2] 41)).alloc (.cells #[.slice none 0 0, .slice none 0 0, .slice none 0 0] 41)).cell? ⟨w.heap.size + 1, 0, none⟩ = some (.slice none 0 0) := cell_new (by simp) rfl
  have bf0 : ((w.alloc (.cells #[.slice A1 x.length c1, .slice A3 z.length c3, .slice A2 y.length c2] 41)).alloc (.cells #[.slice none 0 0, .slice none 0 0, .slice none 0 0] 41)).frozen? ⟨w.heap.size + 1, 0, none⟩ = false := frozen_new (by simp)
  have b1 : ((w.alloc (.cells #[.slice A1 x.length c1, .slice A3 z.length c3, .slice A2 y.length c2] 41)).alloc (.cells #[.slice none 0 0, .slice none 0 0, .slice none 0 0] 41)).cell? ⟨w.heap.size + 1, 1, none⟩ = some (.slice none 0 0) := cell_new (by simp) rfl
  have bf1 : ((w.alloc (.cells #[.slice A1 x.length c1, .slice A3 z.length c3, .slice A2 y.length c2] 41)).alloc (.cells #[.slice none 0 0, .slice none 0 0, .slice none 0 0] 41)).frozen? ⟨w.heap.size + 1, 1, none⟩ = false := frozen_new (by simp)
  have b2 : ((w.alloc (.cells #[.slice A1 x.length c1, .slice A3 z.length c3, .slice A2 y.length c2] 41)).alloc (.cells #[.slice none 0 0, .slice none 0 0, .slice none 0 0] 41)).cell? ⟨w.heap.size + 1, 2, none⟩ = some (.slice none 0 0) := cell_new (by simp) rfl
  have bf2 : ((w.alloc (.cells #[.slice A1 x.length c1, .slice A3 z.length c3, .slice A2 y.length c2] 41)).alloc (.cells #[.slice none 0 0, .slice none 0 0, .slice none 0 0] 41)).frozen? ⟨w.heap.size + 1, 2, none⟩ = false := frozen_new (by simp)
  have bk : ((w.alloc (.cells #[.slice A1 x.length c1, .slice A3 z.length c3, .slice A2 y.length c2] 41)).alloc (.cells #[.slice none 0 0, .slice none 0 0, .slice none 0 0] 41)).heap[w.heap.size + 1]? = some (.cells #[.slice none 0 0, .slice none 0 0, .slice none 0 0] 41) := blk_new (by simp)
  have zb : w.heap.size + 1 < ((w.alloc (.cells #[.slice A1 x.length c1, .slice A3 z.length c3, .slice A2 y.length c2] 41)).alloc (.cells #[.slice none 0 0, .slice none 0 0, .slice none 0 0] 41)).heap.size := World.block_lt_of_cell? _ _ b0
  generalize ((w.alloc (.cells #[.slice A1 x.length c1, .slice A3 z.length c3, .slice A2 y.length c2] 41)).alloc (.cells #[.slice none 0 0, .slice none 0 0, .slice none 0 0] 41)) = w0 at *
  have HBK := Lib.hid bk
  clear bk
  have q1 := RowsAt.below hx hb0
  have q2 := RowsAt.below hy hb0
  have q3 := RowsAt.below hz hb0
  have HQ3 := Lib.hid q3
  clear hx hy hz
  have hw0 := hb0.size
  go_region_held3 (fun w' => w'.cell? ⟨w.heap.size, 0, none⟩ = some (.slice A1 x.length c1) ∧ w'.cell? ⟨w.heap.size, 1, none⟩ = some (.slice A3 z.length c3) ∧ w'.cell? ⟨w.heap.size, 2, none⟩ = some (.slice A2 y.length c2))
    ((((try go_split_ands); (repeat' (apply And.intro)) <;> (repeat (first | (with_reducible assumption) | (with_reducible refine cell_drew ?_) | (with_reducible refine cell_alloc _ ?_) | (with_reducible refine cell_below' (by with_reducible assumption) ?_) | (with_reducible refine cell_far ?_ ?_; focus (first | omega | (simp; omega) | (simp; done))))))))
    (first
      | (go_at_call 56; ((with_reducible refine (HC1.out _ ?_).mono ?_); (focus (first | exact RowsAt.below q1 (Below.refl _ w0).drew | exact RowsAt.below q1 (below_alloc _ (Nat.le_refl _) (Below.refl _ w0).drew))); rintro e w4 ⟨A4, c4, rfl, own4, hb4⟩; have hy4 : Below w0.heap.size w0 w4 := (by first | exact ((Below.refl _ w0).drew).trans hb4 | exact (below_alloc _ (Nat.le_refl _) ((Below.refl _ w0).drew)).trans (hb4.mono (by simp; try omega))); (try have nbk : w4.heap[w0.heap.size]? = some (.cells #[] 150 (0, 0)) := blk_below' hb4 (blk_new (by simp))); have hs4 := hy4.size))
      | (refine step_appPkt _ rfl (.tmp 6) (.tmp 8) rfl w0.heap.size (some ⟨_, 0, none⟩) 0 0 [] rfl (by first | exact own_empty (Nat.le_refl _) nbk | exact own_empty hs4 (blk_new rfl)) A3 z.length c3 (cellsOf 4 pktC z) rfl (cellsOf_length z) (fun e => by subst e; exact RowsAt.nil_len HQ3.out) (fun ad e => by subst e; exact RowsAt.news (RowsAt.below HQ3.out (by first | exact hy4 | exact below_alloc _ (Nat.le_refl _) hy4)) (by decide)) mem_oneP (by omega) (by first | exact hs4 | (simp; omega)) ?_; intro A5 c5 w5 own5 hg5 halt5; have hy5 : Below w0.heap.size w0 w5 := (by first | exact below_own hy4 hg5 (own_empty (e := 150) (size := 4) (Nat.le_refl _) nbk) (Nat.le_refl _) hs4 | exact below_own (below_alloc _ (Nat.le_refl _) hy4) hg5 (own_empty (e := 150) (size := 4) hs4 (blk_new rfl)) (Nat.le_refl _) (by simp; omega)); have r45 : MsgsAt w5 A4 x := (by first | exact RowsAt.below (rowsAt_of_own (f := msgC) own4 rfl (by decide)) (below_own (B := w4.heap.size) (below_alloc _ (Nat.le_refl _) (Below.refl _ w4)) hg5 (own_empty (e := 150) (size := 4) (Nat.le_refl _) (blk_new rfl)) (Nat.le_refl _) (by simp)) | exact rowsAt_of_own (f := msgC) (own_atB own4 (fun g o hg h => (hg5.block g (Array.getElem?_eq_some_iff.1 h).1 (fun e => by have h1 := (own4.lt g hg).1; have h2 : g = w0.heap.size := Option.some.inj e; simp at h1; omega)).trans h)) rfl (by decide)); rw [Nat.zero_add, List.nil_append] at own5; have hs5 := hy5.size)
      | (go_at_call 56; ((with_reducible refine (HC2.out _ ?_).mono ?_); (focus (exact RowsAt.below q2 hy5)); rintro e w6 ⟨A6, c6, rfl, own6, hb6⟩; have hy6 : Below w0.heap.size w0 w6 := hy5.trans (hb6.mono hs5); have hs6 := hy6.size; have d0 := cell_below' hy6 b0; have d1 := cell_below' hy6 b1; have d2 := cell_below' hy6 b2; have df0 := frozen_below hy6 zb bf0; have df1 := frozen_below hy6 zb bf1; have df2 := frozen_below hy6 zb bf2)))
  all_goals
    have r46 : MsgsAt w6 A4 x := RowsAt.below r45 hb6
    have r56 : PktsAt w6 A5 z := RowsAt.below (rowsAt_of_own (f := pktC) own5 rfl (by decide)) hb6
    have r66 : MsgsAt w6 A6 y := rowsAt_of_own (f := msgC) own6 rfl (by decide)
    have hbk6 := blk_below' hy6 HBK.out
    have hw6 : Below w.heap.size w w6 := hb0.trans (hy6.mono hw0)
    go_wp2_with (fail)
    obtain ⟨s0, s1, s2⟩ := set3 (v0 := .slice A4 x.length c4) (v1 := .slice A5 z.length c5) (v2 := .slice A6 y.length c6) d0 d1 d2
    have hlr := lnk_farB (L := ⟨x, z, y⟩) (v0 := .slice A4 x.length c4) (v1 := .slice A5 z.length c5) (v2 := .slice A6 y.length c6) ⟨r46, r66, r56⟩ hbk6
    have hbf : Below w.heap.size w (((w6.setCell ⟨w.heap.size + 1, 0, none⟩ (.slice A4 x.length c4)).setCell ⟨w.heap.size + 1, 1, none⟩ (.slice A5 z.length c5)).setCell ⟨w.heap.size + 1, 2, none⟩ (.slice A6 y.length c6)) := below_set _ (by simp) (below_set _ (by simp) (below_set _ (by simp) hw6))
    generalize (((w6.setCell ⟨w.heap.size + 1, 0, none⟩ (.slice A4 x.length c4)).setCell ⟨w.heap.size + 1, 1, none⟩ (.slice A5 z.length c5)).setCell ⟨w.heap.size + 1, 2, none⟩ (.slice A6 y.length c6)) = W9 at *
    refine bodyPost_ret (v := .agg #[.slice A4 x.length c4, .slice A5 z.length c5, .slice A6 y.length c6]) (by simp [results, Try.results28, go_sem, s0, s1, s2]) rfl ?_
    exact ⟨A4, c4, A6, c6, A5, c5, rfl, hlr, hbf⟩
def AoDL (wb : World) (n : Nat) (i : Value) (wr : World) : Prop := ∃ k : Nat, k ≤ n ∧ i = .int .i64 k ∧ Below wb.heap.size wb wr
set_option maxRecDepth 100000 in
set_option maxHeartbeats 4000000 in
theorem SameLink_refl (A1 : Option Addr) (c1 : Nat) (A2 : Option Addr) (c2 : Nat) (A3 : Option Addr) (c3 : Nat) (B1 : Option Addr) (d1 : Nat) (B2 : Option Addr) (d2 : Nat) (B3 : Option Addr) (d3 : Nat) (L : Lnk) (w : World) (g1 : L.box.length ≤ 300) (g2 : L.store.length ≤ 300) (g3 : L.wire.length ≤ 300) (hR : LnkR A1 A2 A3 L w) (hS : LnkR B1 B2 B3 L w) :
    Calls Try.prog 31 #[LnkV A1 c1 A2 c2 A3 c3 L, LnkV B1 d1 B2 d2 B3 d3 L] w fun e w' => e = .returned (.bool true) ∧ Below w.heap.size w w' := by
  obtain ⟨x, z, y⟩ := L
  obtain ⟨hx, hy, hz⟩ := hR
  obtain ⟨kx, ky, kz⟩ := hS
  simp only [LnkV] at hx hy hz kx ky kz g1 g2 g3 ⊢
  have HC1 := Lib.hid (fun W (h : MsgsAt W A1 x) (k : MsgsAt W B1 x) => SameM_refl A1 B1 x c1 d1 W g1 h k)
  have HC2 := Lib.hid (fun W (h : MsgsAt W A2 y) (k : MsgsAt W B2 y) => SameM_refl A2 B2 y c2 d2 W g2 h k)
  have hll : ((z.length : Int) != (z.length : Int)) = false := by simp
  go_enter Try.func31, Try.ntmps31
  go_wp2_with (fail)
  have hb0 : Below w.heap.size w ((w.alloc (.cells #[.slice A1 x.length c1, .slice A3 z.length c3, .slice A2 y.length c2] 41)).alloc (.cells #[.slice B1 x.length d1, .slice B3 z.length d3, .slice B2 y.length d2] 41)) := below_alloc _ (Nat.le_refl _) (below_alloc _ (Nat.le_refl _) (Below.refl _ _))
  have a0 : ((w.alloc (.cells #[.slice A1 x.length c1, .slice A3 z.length c3, .slice A2 y.length c2] 41)).alloc (.cells #[.slice B1 x.length d1, .slice B3 z.length d3, .slice B2 y.length d2] 41)).cell? ⟨w.heap.size, 0, none⟩ = some (.slice A1 x.length c1) := cell_alloc _ (cell_new (by simp) rfl)
  have a1 : ((w.alloc (.cells #[.slice A1 x.length c1, .slice A3 z.length c3, .slice A2 y.length c2] 41)).alloc (.cells #[.slice B1 x.length d1, .slice B3 z.length d3, .slice B2 y.length d2] 41)).cell? ⟨w.heap.size, 1, none⟩ = some (.slice A3 z.length c3) := cell_alloc _ (cell_new (by simp) rfl)
  have a2 : ((w.alloc (.cells #[.slice A1 x.length c1, .slice A3 z.length c3, .slice A2 y.length c2] 41)).alloc (.cells #[.slice B1 x.length d1, .slice B3 z.length d3, .slice B2 y.length d2] 41)).cell? ⟨w.heap.size, 2, none⟩ = some (.slice A2 y.length c2) := cell_alloc _ (cell_new (by simp) rfl)
  have za : w.heap.size < ((w.alloc (.cells #[.slice A1 x.length c1, .slice A3 z.length c3, .slice A2 y.length c2] 41)).alloc (.cells #[.slice B1 x.length d1, .slice B3 z.length d3, .slice B2 y.length d2] 41)).heap.size := World.block_lt_of_cell? _ _ a0
  have b0 : ((w.alloc (.cells #[.slice A1 x.length c1, .slice A3 z.length c3, .slice A2 y.length c2] 41)).alloc (.cells #[.slice B1 x.length d1, .slice B3 z.length d3, .slice B2 y.length d2] 41)).cell? ⟨w.heap.size + 1, 0, none⟩ = some (.slice B1 x.length d1) := cell_new (by simp) rfl
  have b1 : ((w.alloc (.cells #[.slice A1 x.length c1, .slice A3 z.length c3, .slice A2 y.length c2] 41)).alloc (.cells #[.slice B1 x.length d1, .slice B3 z.length d3, .slice B2 y.length d2] 41)).cell? ⟨w.heap.size + 1, 1, none⟩ = some (.slice B3 z.length d3) := cell_new (by simp) rfl
  have b2 : ((w.alloc (.cells #[.slice A1 x.length c1, .slice A3 z.length c3, .slice A2 y.length c2] 41)).alloc (.cells #[.slice B1 x.length d1, .slice B3 z.length d3, .slice B2 y.length d2] 41)).cell? ⟨w.heap.size + 1, 2, none⟩ = some (.slice B2 y.length d2) := cell_new (by simp) rfl
  have zb : w.heap.size + 1 < ((w.alloc (.cells #[.slice A1 x.length c1, .slice A3 z.length c3, .slice A2 y.length c2] 41)).alloc (.cells #[.slice B1 x.length d1, .slice B3 z.length d3, .slice B2 y.length d2] 41)).heap.size := World.block_lt_of_cell? _ _ b0
  generalize ((w.alloc (.cells #[.slice A1 x.length c1, .slice A3 z.length c3, .slice A2 y.length c2] 41)).alloc (.cells #[.slice B1 x.length d1, .slice B3 z.length d3, .slice B2 y.length d2] 41)) = w0 at *
  have r1 := RowsAt.below hx hb0
  have r2 := RowsAt.below hy hb0
  have r3 := RowsAt.below hz hb0
  have s1 := RowsAt.below kx hb0
  have s2 := RowsAt.below ky hb0
  have s3 := RowsAt.below kz hb0
  clear hx hy hz kx ky kz
  refine (HC1.out _ r1 s1).mono ?_
  rintro e w1 ⟨rfl, hb1⟩
  have h1 : Below w.heap.size w w1 := (hb0).trans ((hb1).mono (hb0).size)
  replace a0 := cell_below' hb1 a0
  replace a1 := cell_below' hb1 a1
  replace a2 := cell_below' hb1 a2
  replace za := Nat.lt_of_lt_of_le za (hb1).size
  replace b0 := cell_below' hb1 b0
  replace b1 := cell_below' hb1 b1
  replace b2 := cell_below' hb1 b2
  replace zb := Nat.lt_of_lt_of_le zb (hb1).size
  replace r2 := RowsAt.below r2 hb1
  replace r3 := RowsAt.below r3 hb1
  replace s2 := RowsAt.below s2 hb1
  replace s3 := RowsAt.below s3 hb1
  clear hb1 hb0
  go_wp2_with (fail)
  refine (HC2.out _ r2 s2).mono ?_
  rintro e w2 ⟨rfl, hb2⟩
  have h2 : Below w.heap.size w w2 := (h1).trans ((hb2).mono (h1).size)
  replace a0 := cell_below' hb2 a0
  replace a1 := cell_below' hb2 a1
  replace a2 := cell_below' hb2 a2
  replace za := Nat.lt_of_lt_of_le za (hb2).size
  replace b0 := cell_below' hb2 b0
  replace b1 := cell_below' hb2 b1
  replace b2 := cell_below' hb2 b2
  replace zb := Nat.lt_of_lt_of_le zb (hb2).size
  replace r3 := RowsAt.below r3 hb2
  replace s3 := RowsAt.below s3 hb2
  clear hb2 h1
  clear r1 r2 s1 s2 HC1 HC2
  go_wp2_with (fail)
  go_loopw [5] (fun i wr => AoDL w2 z.length i wr) (fun i _ => z.length - (intOf i).toNat)
  case atStart => exact ⟨0, Nat.zero_le _, rfl, Below.refl _ _⟩
  case round =>
    obtain ⟨k, hk, rfl, hbd⟩ := hrel
    have hbd2 := h2.trans (hbd.mono h2.size)
    have a1' := cell_below' hbd a1
    have b1' := cell_below' hbd b1
    have za' : w.heap.size < wr.heap.size := Nat.lt_of_lt_of_le za hbd.size
    have zb' : w.heap.size + 1 < wr.heap.size := Nat.lt_of_lt_of_le zb hbd.size
    clear hll
    by_cases hlt : k < z.length
    · obtain ⟨p1, o1, rfl, hp1, e0, e1, e2, e3⟩ := PktsAt.at_ (RowsAt.below r3 hbd) hlt
      obtain ⟨p2, o2, rfl, hp2, f0, f1, f2, f3⟩ := PktsAt.at_ (RowsAt.below s3 hbd) hlt
      generalize z[k] = p at *
      have t0 : (p.m.s.toList == p.m.s.toList) = true := by simp
      have t1 : (p.m.v == p.m.v) = true := by simp
      have t2 : (p.m.l == p.m.l) = true := by simp
      have t3 : (p.a == p.a) = true := by simp
      go_wp2_with (fail)
      go_quiet (fail)
      go_wp2_with (fail)
      go_roundw
      case rel => exact ⟨k + 1, by omega, by go_num, (by repeat (first | assumption | exact Below.refl _ _ | refine Below.drew ?_ | (refine below_alloc _ ?_ ?_; focus (first | omega | (simp; done) | (simp; omega) | (simp at *; omega))) | (refine below_set _ ?_ ?_; focus (first | omega | (simp; done) | (simp; omega) | (simp at *; omega))) | refine below_drewN ?_ _ | (refine below_call (by assumption) ?_ ?_; focus (first | omega | (simp; done) | (simp; omega) | (simp at *; omega))) | (refine below_call' (by assumption) ?_ ?_; focus (first | omega | (simp; done) | (simp; omega) | (simp at *; omega)))))⟩
      case measure => simp [intOf]; omega
    · go_wp2_with (fail)
      go_ret
      exact ⟨rfl, hbd2⟩
end Go.Proofs.Ytcfbnmcdncndpaa
