/-
  Chapter 8: RunOf, Moved, CheckLink.
-/
import Derived.Test.YtcfbnmcdncndpaaWRun
namespace Go.Proofs.Ytcfbnmcdncndpaa
open Go.ChangeShapes Go.WideShapes Go.ChangeAt Go.RowKit
set_option linter.unusedVariables false
set_option linter.unusedSimpArgs false

theorem LinkAt.reads_set {B b : Nat} {A1 : Option Addr} {c1 : Nat} {A2 : Option Addr} {c2 : Nat} {A3 : Option Addr} {c3 : Nat} {L : Lnk} {w : World} (h : LinkAt B b A1 c1 A2 c2 A3 c3 L w) {b' : Nat} (hb : b' < B) (v0 v1 v2 : Value) :
    LnkR A1 A2 A3 L (((w.setCell ⟨b', 0, none⟩ v0).setCell ⟨b', 1, none⟩ v1).setCell ⟨b', 2, none⟩ v2) :=
  have n1 : Value.ownBlock (.slice A1 L.box.length c1) ≠ some b' := fun e => by have := (h.o1.lt _ e).1; omega
  have n2 : Value.ownBlock (.slice A2 L.store.length c2) ≠ some b' := fun e => by have := (h.o2.lt _ e).1; omega
  have n3 : Value.ownBlock (.slice A3 L.wire.length c3) ≠ some b' := fun e => by have := (h.o3.lt _ e).1; omega
  ⟨rowsAt_of_own (own_set (own_set (own_set h.o1 (p := ⟨b', 0, none⟩) n1 v0) (p := ⟨b', 1, none⟩) n1 v1) (p := ⟨b', 2, none⟩) n1 v2) rfl (by decide), rowsAt_of_own (own_set (own_set (own_set h.o2 (p := ⟨b', 0, none⟩) n2 v0) (p := ⟨b', 1, none⟩) n2 v1) (p := ⟨b', 2, none⟩) n2 v2) rfl (by decide), rowsAt_of_own (own_set (own_set (own_set h.o3 (p := ⟨b', 0, none⟩) n3 v0) (p := ⟨b', 1, none⟩) n3 v1) (p := ⟨b', 2, none⟩) n3 v2) rfl (by decide)⟩
theorem CheckLink_any (A1 : Option Addr) (c1 : Nat) (A2 : Option Addr) (c2 : Nat) (A3 : Option Addr) (c3 : Nat) (L : Lnk) (w : World) (hf : FewL L) (hR : LnkR A1 A2 A3 L w) :
    Calls Try.prog 48 #[LnkV A1 c1 A2 c2 A3 c3 L] w fun e w' => e = .returned (.int .i64 (lnkE L)) ∧ Below w.heap.size w w' := by
  go_enter Try.func48, Try.ntmps48
  go_wp2_with (fail)
  refine (openLink_any A1 c1 A2 c2 A3 c3 L _ hf (hR.below (by repeat (first | assumption | exact Below.refl _ _ | refine Below.drew ?_ | (refine below_alloc _ ?_ ?_; focus (first | omega | (simp; done) | (simp; omega) | (simp at *; omega))) | (refine below_set _ ?_ ?_; focus (first | omega | (simp; done) | (simp; omega) | (simp at *; omega))) | refine below_drewN ?_ _ | (refine below_call (by assumption) ?_ ?_; focus (first | omega | (simp; done) | (simp; omega) | (simp at *; omega))) | (refine below_call' (by assumption) ?_ ?_; focus (first | omega | (simp; done) | (simp; omega) | (simp at *; omega))))))).mono ?_
  rintro e w1 ⟨B1, d1, B2, d2, B3, d3, rfl, -, -, -, -, -, -, hb1⟩
  go_wp2_with (fail)
  go_ret
  exact ⟨rfl, (by repeat (first | assumption | exact Below.refl _ _ | refine Below.drew ?_ | (refine below_alloc _ ?_ ?_; focus (first | omega | (simp; done) | (simp; omega) | (simp at *; omega))) | (refine below_set _ ?_ ?_; focus (first | omega | (simp; done) | (simp; omega) | (simp at *; omega))) | refine below_drewN ?_ _ | (refine below_call (by assumption) ?_ ?_; focus (first | omega | (simp; done) | (simp; omega) | (simp at *; omega))) | (refine below_call' (by assumption) ?_ ?_; focus (first | omega | (simp; done) | (simp; omega) | (simp at *; omega)))))⟩
set_option maxRecDepth 100000 in
set_option maxHeartbeats 4000000 in
theorem RunOf_any (A1 : Option Addr) (c1 : Nat) (A2 : Option Addr) (c2 : Nat) (A3 : Option Addr) (c3 : Nat) (L : Lnk) (A : Option Addr) (l : List Mv) (cap : Nat) (w : World) (hf : FewL L) (hR : LnkR A1 A2 A3 L w) (hl : l.length ≤ 300) (hn : ∀ x ∈ l, x.m.s.size ≤ 1000) (hA : MvsAt w A l) :
    Calls Try.prog 27 #[LnkV A1 c1 A2 c2 A3 c3 L, .slice A l.length cap] w (LnkE3 (runL L l) w) := by
  have hq : runL L l = if runE0 L l.length = 0 then runGo l L 0 else (Lz, 0, runE0 L l.length) := rfl
  have HQ := Lib.hid hq
  have HFW := Lib.hid hf
  clear hf hq
  go_enter Try.func27, Try.ntmps27
  go_wp2_with (fail)
  refine (openLink_any A1 c1 A2 c2 A3 c3 L _ HFW.out (hR.below (by repeat (first | assumption | exact Below.refl _ _ | refine Below.drew ?_ | (refine below_alloc _ ?_ ?_; focus (first | omega | (simp; done) | (simp; omega) | (simp at *; omega))) | (refine below_set _ ?_ ?_; focus (first | omega | (simp; done) | (simp; omega) | (simp at *; omega))) | refine below_drewN ?_ _ | (refine below_call (by assumption) ?_ ?_; focus (first | omega | (simp; done) | (simp; omega) | (simp at *; omega))) | (refine below_call' (by assumption) ?_ ?_; focus (first | omega | (simp; done) | (simp; omega) | (simp at *; omega))))))).mono ?_
  rintro e w1 ⟨B1, d1, B2, d2, B3, d3, rfl, o1, o2, o3, x12, x13, x23, hb1⟩
  have hz := hb1.size
  simp at hz o1 o2 o3
  have y0 : w1.cell? ⟨w.heap.size + 1, 0, none⟩ = some (.slice none 0 0) := cell_below' hb1 (cell_new (by simp) rfl)
  have y1 : w1.cell? ⟨w.heap.size + 1, 1, none⟩ = some (.slice none 0 0) := cell_below' hb1 (cell_new (by simp) rfl)
  have y2 : w1.cell? ⟨w.heap.size + 1, 2, none⟩ = some (.slice none 0 0) := cell_below' hb1 (cell_new (by simp) rfl)
  have f0 : w1.frozen? ⟨w.heap.size + 1, 0, none⟩ = false := frozen_below hb1 (by simp) (frozen_new (by simp))
  have f1 : w1.frozen? ⟨w.heap.size + 1, 1, none⟩ = false := frozen_below hb1 (by simp) (frozen_new (by simp))
  have f2 : w1.frozen? ⟨w.heap.size + 1, 2, none⟩ = false := frozen_below hb1 (by simp) (frozen_new (by simp))
  have hbw1 : Below w.heap.size w w1 := (by repeat (first | assumption | exact Below.refl _ _ | refine Below.drew ?_ | (refine below_alloc _ ?_ ?_; focus (first | omega | (simp; done) | (simp; omega) | (simp at *; omega))) | (refine below_set _ ?_ ?_; focus (first | omega | (simp; done) | (simp; omega) | (simp at *; omega))) | refine below_drewN ?_ _ | (refine below_call (by assumption) ?_ ?_; focus (first | omega | (simp; done) | (simp; omega) | (simp at *; omega))) | (refine below_call' (by assumption) ?_ ?_; focus (first | omega | (simp; done) | (simp; omega) | (simp at *; omega)))))
  have z1 : w.heap.size + 1 < w1.heap.size := by omega
  have z10 : w.heap.size < w1.heap.size := by omega
  have HLK := Lib.hid (link_laid o1 o2 o3 x12 x13 x23)
  have he0 : runE0 L l.length = firstE [lnkE L, unl (decide (l.length ≤ 200)) 8] := rfl
  have hc0 : decide (l.length ≤ 200) = decide ((l.length : Int) ≤ 200) := by
    by_cases h : l.length ≤ 200
    · rw [decide_eq_true h]; symm; simp; omega
    · rw [decide_eq_false h]; symm; simp; omega
  rw [hc0] at he0
  have HE0 := Lib.hid he0
  have hl3 : (l.length : Int) ≤ 300 := by omega
  clear hb1 hz hR o1 o2 o3 x12 x13 x23 he0 hc0
  by_cases hE : runE0 L l.length = 0
  rotate_left 1
  · have hE1 : (runE0 L l.length == 0) = false := by simpa using hE
    have hE2 : (runE0 L l.length != 0) = true := by simpa using hE
    have h2 := HQ.out
    rw [if_neg hE] at h2
    have HQ2 := Lib.hid h2
    clear hE h2 HQ
    generalize runE0 L l.length = E at *
    go_wp2_with (first | (go_at_call 86; refine (unless_any _ _ _).mono ?_; rintro e w' ⟨rfl, rfl⟩) | (go_at_call 84; refine (first2 _ _ _ _ (by simp) (cell_new (by simp) rfl) (cell_new (by simp) rfl)).mono ?_; rintro e w' ⟨rfl, rfl⟩; rw [← HE0.out]))
    refine bodyPost_ret (v := .tuple #[.agg #[.slice none 0 0, .slice none 0 0, .slice none 0 0], .int .i64 0, .int .i64 E]) (by simp [results, Try.results27, go_sem, y0, y1, y2, z1, z10]) rfl ?_
    rw [HQ2.out]
    exact ⟨none, 0, none, 0, none, 0, rfl, lnkR_z, (by repeat (first | assumption | exact Below.refl _ _ | refine Below.drew ?_ | (refine below_alloc _ ?_ ?_; focus (first | omega | (simp; done) | (simp; omega) | (simp at *; omega))) | (refine below_set _ ?_ ?_; focus (first | omega | (simp; done) | (simp; omega) | (simp at *; omega))) | refine below_drewN ?_ _ | (refine below_call (by assumption) ?_ ?_; focus (first | omega | (simp; done) | (simp; omega) | (simp at *; omega))) | (refine below_call' (by assumption) ?_ ?_; focus (first | omega | (simp; done) | (simp; omega) | (simp at *; omega)))))⟩
  have hE0 := HE0.out
  rw [hE] at hE0
  have HE := Lib.hid hE0
  have hok : OkL L := by
    unfold runE0 at hE
    rw [firstE2] at hE
    exact lnkE_ok hE.1
  have h2 := HQ.out
  rw [if_pos hE] at h2
  have HQ2 := Lib.hid h2
  clear hE0 h2 HQ hE HE0
  go_wp2_with (first | (go_at_call 86; refine (unless_any _ _ _).mono ?_; rintro e w' ⟨rfl, rfl⟩) | (go_at_call 84; refine (first2 _ _ _ _ (by simp) (cell_new (by simp) rfl) (cell_new (by simp) rfl)).mono ?_; rintro e w' ⟨rfl, rfl⟩; rw [← HE.out]))
  have hlk1 := HLK.out
  clear HLK
  go_loopw [30] (fun i wr => ∃ (k : Nat) (Lk : Lnk), k ≤ l.length ∧ i = .int .i64 k ∧ runGo l L 0 = runGo (l.drop k) Lk k ∧ LinkIn (w.heap.size + 2) w1.heap.size Lk wr ∧ OkL Lk ∧ Below (w.heap.size + 2) w1 wr) (fun i _ => l.length - (intOf i).toNat)
  case atStart =>
    refine ⟨0, L, Nat.zero_le _, rfl, rfl, ⟨_, _, _, _, _, _, hlk1.below (by repeat (first | assumption | exact Below.refl _ _ | refine Below.drew ?_ | (refine below_alloc _ ?_ ?_; focus (first | omega | (simp; done) | (simp; omega) | (simp at *; omega))) | (refine below_set _ ?_ ?_; focus (first | omega | (simp; done) | (simp; omega) | (simp at *; omega))) | refine below_drewN ?_ _ | (refine below_call (by assumption) ?_ ?_; focus (first | omega | (simp; done) | (simp; omega) | (simp at *; omega))) | (refine below_call' (by assumption) ?_ ?_; focus (first | omega | (simp; done) | (simp; omega) | (simp at *; omega)))))⟩, hok, ?_⟩
    refine below_alloc _ (by omega) (below_alloc _ (by omega) (Below.refl _ _))
  case round =>
    obtain ⟨k, Lk, hk, rfl, hgo, hli, hokk, hbr⟩ := hrel
    have zr : w.heap.size + 1 < wr.heap.size := by have := hbr.size; omega
    have hbw : Below w.heap.size w wr := hbw1.trans (hbr.mono (by omega))
    have AR := RowsAt.below hA hbw
    replace y0 := cell_below hbr y0 (by simp)
    replace y1 := cell_below hbr y1 (by simp)
    replace y2 := cell_below hbr y2 (by simp)
    replace f0 := frozen_below hbr (by simp) f0
    replace f1 := frozen_below hbr (by simp) f1
    replace f2 := frozen_below hbr (by simp) f2
    have HGO := Lib.hid hgo
    have HLI := Lib.hid hli
    clear hgo hli hlk1
    by_cases hlt : k < l.length
    · obtain ⟨b1, o1, rfl, hb1, e0, e1, e2, e3, e4⟩ := MvsAt.at_ AR hlt
      have hd : l.drop k = l[k] :: l.drop (k + 1) := List.drop_eq_getElem_cons hlt
      have hs := hn _ (List.getElem_mem hlt)
      have h2 := HGO.out
      rw [hd] at h2
      have hg : runGo (l[k] :: l.drop (k + 1)) Lk k = if (movL Lk l[k]).2 = 0 then runGo (l.drop (k + 1)) (movL Lk l[k]).1 (k + 1) else (Lz, (k : Int), (movL Lk l[k]).2) := rfl
      have H2 := Lib.hid (h2.trans hg)
      have hk1 : (k : Int) < (l.length : Int) := by omega
      clear HGO h2 hd AR hg
      generalize l[k] = mv at *
      have HM := Lib.hid (fun W => fun hW : LinkIn (w.heap.size + 2) w1.heap.size Lk W => move_any (w.heap.size + 2) w1.heap.size Lk mv.k mv.i mv.m W hW (by omega) hokk hs)
      have hok2 := hokk.move (mv := mv)
      clear hs hokk
      go_wp2_with (fail)
      refine (HM.out _ (HLI.out.below (by repeat (first | assumption | exact Below.refl _ _ | refine Below.drew ?_ | (refine below_alloc _ ?_ ?_; focus (first | omega | (simp; done) | (simp; omega) | (simp at *; omega))) | (refine below_set _ ?_ ?_; focus (first | omega | (simp; done) | (simp; omega) | (simp at *; omega))) | refine below_drewN ?_ _ | (refine below_call (by assumption) ?_ ?_; focus (first | omega | (simp; done) | (simp; omega) | (simp at *; omega))) | (refine below_call' (by assumption) ?_ ?_; focus (first | omega | (simp; done) | (simp; omega) | (simp at *; omega))))))).mono ?_
      rintro e w3 ⟨rfl, hli3, hb3⟩
      have HLI3 := Lib.hid hli3
      have hb13 : Below (w.heap.size + 2) w1 w3 := Below.trans (below_alloc _ (by omega) hbr) hb3
      have hbw3 : Below w.heap.size w w3 := hbw1.trans (hb13.mono (by omega))
      have zr3 : w.heap.size + 1 < w3.heap.size := by have := hb13.size; omega
      replace y0 := cell_below hb3 (cell_alloc _ y0) (by simp)
      replace y1 := cell_below hb3 (cell_alloc _ y1) (by simp)
      replace y2 := cell_below hb3 (cell_alloc _ y2) (by simp)
      replace f0 := frozen_below hb3 (by simp) (frozen_alloc _ (by simp; omega) f0)
      replace f1 := frozen_below hb3 (by simp) (frozen_alloc _ (by simp; omega) f1)
      replace f2 := frozen_below hb3 (by simp) (frozen_alloc _ (by simp; omega) f2)
      clear hli3 HLI HM hbr hb3 hb1 e0 e1 e2 e3 e4
      have h3 : runGo l L 0 = if (movL Lk mv).2 = 0 then runGo (l.drop (k + 1)) (movL Lk mv).1 (k + 1) else (Lz, (k : Int), (movL Lk mv).2) := H2.out
      clear H2
      by_cases hr : (movL Lk mv).2 = 0
      · rw [if_pos hr] at h3
        have H3 := Lib.hid h3
        have hli4 : LinkIn (w.heap.size + 2) w1.heap.size (movL Lk mv).1 w3 := HLI3.out
        have HLI4 := Lib.hid hli4
        have HOK2 := Lib.hid (show OkL (movL Lk mv).1 from hok2)
        rw [show (movL Lk ⟨mv.k, mv.i, mv.m⟩).2 = 0 from hr]
        clear hr h3 HLI3 hli4 hok2
        generalize (movL Lk mv).1 = Ln at *
        go_wp2_with (fail)
        exact ⟨⟨k + 1, Ln, by omega, by go_num, H3.out, HLI4.out, HOK2.out, hb13⟩, by simp [intOf]; omega⟩
      · rw [if_neg hr] at h3
        have H3 := Lib.hid (HQ2.out.trans h3)
        have hE1 : ((movL Lk mv).2 == 0) = false := by simpa using hr
        have hE2 : ((movL Lk mv).2 != 0) = true := by simpa using hr
        rw [show (movL Lk ⟨mv.k, mv.i, mv.m⟩).2 = (movL Lk mv).2 from rfl]
        clear hr h3 HLI3 hok2
        generalize (movL Lk mv).2 = E at *
        go_wp2_with (fail)
        refine bodyPost_ret (v := .tuple #[.agg #[.slice none 0 0, .slice none 0 0, .slice none 0 0], .int .i64 k, .int .i64 E]) (by simp [results, Try.results27, go_sem, y0, y1, y2, zr3]) rfl ?_
        rw [H3.out]
        exact ⟨none, 0, none, 0, none, 0, rfl, lnkR_z, (by repeat (first | assumption | exact Below.refl _ _ | refine Below.drew ?_ | (refine below_alloc _ ?_ ?_; focus (first | omega | (simp; done) | (simp; omega) | (simp at *; omega))) | (refine below_set _ ?_ ?_; focus (first | omega | (simp; done) | (simp; omega) | (simp at *; omega))) | refine below_drewN ?_ _ | (refine below_call (by assumption) ?_ ?_; focus (first | omega | (simp; done) | (simp; omega) | (simp at *; omega))) | (refine below_call' (by assumption) ?_ ?_; focus (first | omega | (simp; done) | (simp; omega) | (simp at *; omega)))))⟩
    · have hd : l.drop k = [] := List.drop_eq_nil_of_le (by omega)
      have h2 := HGO.out
      rw [hd, runGo] at h2
      have H2 := Lib.hid (HQ2.out.trans h2)
      obtain ⟨E1, g1, E2, g2, E3, g3, hlk⟩ := HLI.out
      have p1 := hlk.p1
      have p2 := hlk.p2
      have p3 := hlk.p3
      have HRR := Lib.hid hlk
      clear HGO h2 hd AR hlk HLI
      go_wp2_with (fail)
      refine (written_any E1 Lk.box.length g1 E2 Lk.store.length g2 E3 Lk.wire.length g3 wr).mono ?_
      rintro e w3 ⟨rfl, hb3⟩
      have hbw3 : Below w.heap.size w w3 := hbw.trans (hb3.mono (by omega))
      have zr3 : w.heap.size + 1 < w3.heap.size := by have := hb3.size; omega
      have HR3 := Lib.hid (HRR.out.below hb3)
      have zr' := zr
      replace y0 := cell_below' hb3 y0
      replace y1 := cell_below' hb3 y1
      replace y2 := cell_below' hb3 y2
      replace f0 := frozen_below hb3 zr f0
      replace f1 := frozen_below hb3 zr f1
      replace f2 := frozen_below hb3 zr f2
      clear hb3 HRR hbr p1 p2 p3
      have HRF : Hid (LnkR E1 E2 E3 Lk (((w3.setCell ⟨w.heap.size + 1, 0, none⟩ (.slice E1 Lk.box.length g1)).setCell ⟨w.heap.size + 1, 1, none⟩ (.slice E3 Lk.wire.length g3)).setCell ⟨w.heap.size + 1, 2, none⟩ (.slice E2 Lk.store.length g2))) := Lib.hid (HR3.out.reads_set (by omega) _ _ _)
      go_wp2_with (fail)
      refine bodyPost_ret (v := .tuple #[.agg #[.slice E1 Lk.box.length g1, .slice E3 Lk.wire.length g3, .slice E2 Lk.store.length g2], .int .i64 0, .int .i64 0]) (by simp [results, Try.results27, go_sem, y0, y1, y2, zr3]) rfl ?_
      rw [H2.out]
      exact ⟨E1, g1, E2, g2, E3, g3, rfl, HRF.out, (by repeat (first | assumption | exact Below.refl _ _ | refine Below.drew ?_ | (refine below_alloc _ ?_ ?_; focus (first | omega | (simp; done) | (simp; omega) | (simp at *; omega))) | (refine below_set _ ?_ ?_; focus (first | omega | (simp; done) | (simp; omega) | (simp at *; omega))) | refine below_drewN ?_ _ | (refine below_call (by assumption) ?_ ?_; focus (first | omega | (simp; done) | (simp; omega) | (simp at *; omega))) | (refine below_call' (by assumption) ?_ ?_; focus (first | omega | (simp; done) | (simp; omega) | (simp at *; omega)))))⟩

set_option maxRecDepth 100000 in
set_option maxHeartbeats 4000000 in
theorem Moved_any (A1 : Option Addr) (c1 : Nat) (A2 : Option Addr) (c2 : Nat) (A3 : Option Addr) (c3 : Nat) (L : Lnk) (mv : Mv) (w : World) (hf : FewL L) (hR : LnkR A1 A2 A3 L w) (hs : mv.m.s.size ≤ 1000) :
    Calls Try.prog 46 #[LnkV A1 c1 A2 c2 A3 c3 L, .agg #[.int .i64 mv.k, .int .i64 mv.i, .string mv.m.s, .int .i64 mv.m.v, .int .i64 mv.m.l]] w (LnkE2 (movd L mv) w) := by
  have hq : movd L mv = if lnkE L ≠ 0 then (Lz, lnkE L) else if (movL L mv).2 = 0 then ((movL L mv).1, 0) else (Lz, (movL L mv).2) := rfl
  have HFW := Lib.hid hf
  have HQ := Lib.hid hq
  clear hf hq
  go_enter Try.func46, Try.ntmps46
  go_wp2_with (fail)
  refine (openLink_any A1 c1 A2 c2 A3 c3 L _ HFW.out (hR.below (by repeat (first | assumption | exact Below.refl _ _ | refine Below.drew ?_ | (refine below_alloc _ ?_ ?_; focus (first | omega | (simp; done) | (simp; omega) | (simp at *; omega))) | (refine below_set _ ?_ ?_; focus (first | omega | (simp; done) | (simp; omega) | (simp at *; omega))) | refine below_drewN ?_ _ | (refine below_call (by assumption) ?_ ?_; focus (first | omega | (simp; done) | (simp; omega) | (simp at *; omega))) | (refine below_call' (by assumption) ?_ ?_; focus (first | omega | (simp; done) | (simp; omega) | (simp at *; omega))))))).mono ?_
  rintro e w1 ⟨B1, d1, B2, d2, B3, d3, rfl, o1, o2, o3, x12, x13, x23, hb1⟩
  have hz := hb1.size
  simp at hz o1 o2 o3
  have u0 : w1.cell? ⟨w.heap.size + 1, 0, none⟩ = some (.int .i64 mv.k) := cell_below' hb1 (cell_alloc _ (cell_new (by simp) rfl))
  have u1 : w1.cell? ⟨w.heap.size + 1, 1, none⟩ = some (.int .i64 mv.i) := cell_below' hb1 (cell_alloc _ (cell_new (by simp) rfl))
  have u2 : w1.cell? ⟨w.heap.size + 1, 2, none⟩ = some (.string mv.m.s) := cell_below' hb1 (cell_alloc _ (cell_new (by simp) rfl))
  have u3 : w1.cell? ⟨w.heap.size + 1, 3, none⟩ = some (.int .i64 mv.m.v) := cell_below' hb1 (cell_alloc _ (cell_new (by simp) rfl))
  have u4 : w1.cell? ⟨w.heap.size + 1, 4, none⟩ = some (.int .i64 mv.m.l) := cell_below' hb1 (cell_alloc _ (cell_new (by simp) rfl))
  have y0 : w1.cell? ⟨w.heap.size + 2, 0, none⟩ = some (.slice none 0 0) := cell_below' hb1 (cell_new (by simp) rfl)
  have y1 : w1.cell? ⟨w.heap.size + 2, 1, none⟩ = some (.slice none 0 0) := cell_below' hb1 (cell_new (by simp) rfl)
  have y2 : w1.cell? ⟨w.heap.size + 2, 2, none⟩ = some (.slice none 0 0) := cell_below' hb1 (cell_new (by simp) rfl)
  have f0 : w1.frozen? ⟨w.heap.size + 2, 0, none⟩ = false := frozen_below hb1 (by simp) (frozen_new (by simp))
  have f1 : w1.frozen? ⟨w.heap.size + 2, 1, none⟩ = false := frozen_below hb1 (by simp) (frozen_new (by simp))
  have f2 : w1.frozen? ⟨w.heap.size + 2, 2, none⟩ = false := frozen_below hb1 (by simp) (frozen_new (by simp))
  have hbw1 : Below w.heap.size w w1 := (by repeat (first | assumption | exact Below.refl _ _ | refine Below.drew ?_ | (refine below_alloc _ ?_ ?_; focus (first | omega | (simp; done) | (simp; omega) | (simp at *; omega))) | (refine below_set _ ?_ ?_; focus (first | omega | (simp; done) | (simp; omega) | (simp at *; omega))) | refine below_drewN ?_ _ | (refine below_call (by assumption) ?_ ?_; focus (first | omega | (simp; done) | (simp; omega) | (simp at *; omega))) | (refine below_call' (by assumption) ?_ ?_; focus (first | omega | (simp; done) | (simp; omega) | (simp at *; omega)))))
  have z1 : w.heap.size + 2 < w1.heap.size := by omega
  have z10 : w.heap.size + 1 < w1.heap.size := by omega
  have HLK := Lib.hid (link_laid o1 o2 o3 x12 x13 x23)
  clear hb1 hz hR o1 o2 o3 x12 x13 x23
  have hq := HQ.out
  by_cases hE : lnkE L = 0
  rotate_left 1
  · have hE1 : (lnkE L == 0) = false := by simpa using hE
    have hE2 : (lnkE L != 0) = true := by simpa using hE
    rw [if_pos hE] at hq
    have HQ2 := Lib.hid hq
    clear hE hq HQ
    generalize lnkE L = E at *
    go_wp2_with (fail)
    refine bodyPost_ret (v := .tuple #[.agg #[.slice none 0 0, .slice none 0 0, .slice none 0 0], .int .i64 E]) (by simp [results, Try.results46, go_sem, y0, y1, y2, z1, z10]) rfl ?_
    rw [HQ2.out]
    exact ⟨none, 0, none, 0, none, 0, rfl, lnkR_z, (by repeat (first | assumption | exact Below.refl _ _ | refine Below.drew ?_ | (refine below_alloc _ ?_ ?_; focus (first | omega | (simp; done) | (simp; omega) | (simp at *; omega))) | (refine below_set _ ?_ ?_; focus (first | omega | (simp; done) | (simp; omega) | (simp at *; omega))) | refine below_drewN ?_ _ | (refine below_call (by assumption) ?_ ?_; focus (first | omega | (simp; done) | (simp; omega) | (simp at *; omega))) | (refine below_call' (by assumption) ?_ ?_; focus (first | omega | (simp; done) | (simp; omega) | (simp at *; omega)))))⟩
  have hok := lnkE_ok hE
  rw [if_neg (by rw [hE]; decide)] at hq
  rw [hE]
  have HQ2 := Lib.hid hq
  clear hE hq HQ
  have HM := Lib.hid (fun W => fun hW : LinkIn (w.heap.size + 3) w1.heap.size L W => move_any (w.heap.size + 3) w1.heap.size L mv.k mv.i mv.m W hW (by omega) hok hs)
  clear hok hs
  go_wp2_with (fail)
  refine (HM.out _ ⟨_, _, _, _, _, _, HLK.out⟩).mono ?_
  rintro e w3 ⟨rfl, hli3, hb3⟩
  have hb13 : Below (w.heap.size + 3) w1 w3 := Below.trans (below_alloc _ (by omega) (Below.refl _ _)) hb3
  have hbw3 : Below w.heap.size w w3 := hbw1.trans (hb13.mono (by omega))
  have zr3 : w.heap.size + 2 < w3.heap.size := by have := hb13.size; omega
  replace y0 := cell_below hb3 (cell_alloc _ y0) (by simp)
  replace y1 := cell_below hb3 (cell_alloc _ y1) (by simp)
  replace y2 := cell_below hb3 (cell_alloc _ y2) (by simp)
  replace f0 := frozen_below hb3 (by simp) (frozen_alloc _ (by simp; omega) f0)
  replace f1 := frozen_below hb3 (by simp) (frozen_alloc _ (by simp; omega) f1)
  replace f2 := frozen_below hb3 (by simp) (frozen_alloc _ (by simp; omega) f2)
  have hli4 : LinkIn (w.heap.size + 3) w1.heap.size (movL L mv).1 w3 := hli3
  have HLI := Lib.hid hli4
  rw [show (movL L ⟨mv.k, mv.i, mv.m⟩).2 = (movL L mv).2 from rfl]
  clear hli3 hli4 HLK HM hb3 u0 u1 u2 u3 u4
  have hq := HQ2.out
  clear HQ2
  by_cases hr : (movL L mv).2 = 0
  rotate_left 1
  · rw [if_neg hr] at hq
    have H3 := Lib.hid hq
    have hE1 : ((movL L mv).2 == 0) = false := by simpa using hr
    have hE2 : ((movL L mv).2 != 0) = true := by simpa using hr
    clear hr hq HLI
    generalize (movL L mv).2 = E at *
    go_wp2_with (fail)
    refine bodyPost_ret (v := .tuple #[.agg #[.slice none 0 0, .slice none 0 0, .slice none 0 0], .int .i64 E]) (by simp [results, Try.results46, go_sem, y0, y1, y2, zr3]) rfl ?_
    rw [H3.out]
    exact ⟨none, 0, none, 0, none, 0, rfl, lnkR_z, (by repeat (first | assumption | exact Below.refl _ _ | refine Below.drew ?_ | (refine below_alloc _ ?_ ?_; focus (first | omega | (simp; done) | (simp; omega) | (simp at *; omega))) | (refine below_set _ ?_ ?_; focus (first | omega | (simp; done) | (simp; omega) | (simp at *; omega))) | refine below_drewN ?_ _ | (refine below_call (by assumption) ?_ ?_; focus (first | omega | (simp; done) | (simp; omega) | (simp at *; omega))) | (refine below_call' (by assumption) ?_ ?_; focus (first | omega | (simp; done) | (simp; omega) | (simp at *; omega)))))⟩
  rw [if_pos hr] at hq
  have H2 := Lib.hid hq
  rw [hr]
  clear hr hq
  generalize (movL L mv).1 = Lk at *
  obtain ⟨E1, g1, E2, g2, E3, g3, hlk⟩ := HLI.out
  have p1 := hlk.p1
  have p2 := hlk.p2
  have p3 := hlk.p3
  have HRR := Lib.hid hlk
  clear hlk HLI
  go_wp2_with (fail)
  refine (written_any E1 Lk.box.length g1 E2 Lk.store.length g2 E3 Lk.wire.length g3 w3).mono ?_
  rintro e w4 ⟨rfl, hb4⟩
  have hbw4 : Below w.heap.size w w4 := hbw3.trans (hb4.mono (by omega))
  have zr4 : w.heap.size + 2 < w4.heap.size := by have := hb4.size; omega
  have HR3 := Lib.hid (HRR.out.below hb4)
  replace y0 := cell_below' hb4 y0
  replace y1 := cell_below' hb4 y1
  replace y2 := cell_below' hb4 y2
  replace f0 := frozen_below hb4 zr3 f0
  replace f1 := frozen_below hb4 zr3 f1
  replace f2 := frozen_below hb4 zr3 f2
  clear hb4 HRR p1 p2 p3
  have HRF : Hid (LnkR E1 E2 E3 Lk (((w4.setCell ⟨w.heap.size + 2, 0, none⟩ (.slice E1 Lk.box.length g1)).setCell ⟨w.heap.size + 2, 1, none⟩ (.slice E3 Lk.wire.length g3)).setCell ⟨w.heap.size + 2, 2, none⟩ (.slice E2 Lk.store.length g2))) := Lib.hid (HR3.out.reads_set (by omega) _ _ _)
  go_wp2_with (fail)
  refine bodyPost_ret (v := .tuple #[.agg #[.slice E1 Lk.box.length g1, .slice E3 Lk.wire.length g3, .slice E2 Lk.store.length g2], .int .i64 0]) (by simp [results, Try.results46, go_sem, y0, y1, y2, zr4]) rfl ?_
  rw [H2.out]
  exact ⟨E1, g1, E2, g2, E3, g3, rfl, HRF.out, (by repeat (first | assumption | exact Below.refl _ _ | refine Below.drew ?_ | (refine below_alloc _ ?_ ?_; focus (first | omega | (simp; done) | (simp; omega) | (simp at *; omega))) | (refine below_set _ ?_ ?_; focus (first | omega | (simp; done) | (simp; omega) | (simp at *; omega))) | refine below_drewN ?_ _ | (refine below_call (by assumption) ?_ ?_; focus (first | omega | (simp; done) | (simp; omega) | (simp at *; omega))) | (refine below_call' (by assumption) ?_ ?_; focus (first | omega | (simp; done) | (simp; omega) | (simp at *; omega)))))⟩
end Go.Proofs.Ytcfbnmcdncndpaa
