/-
  Chapter 2: the reference's errors of frames; copies of frames.
-/
import Derived.Test.YtlnbbioponmcfaaDoorEFrm
namespace Go.Proofs.YtlnbbioponmcfaaDoor
open Go.ChangeShapes Go.WideShapes Go.ChangeAt Go.RowKit
set_option linter.unusedVariables false
set_option linter.unusedSimpArgs false

theorem RSamplesErr_all (A : Option Addr) (l : List Gs) (cap : Nat) (w : World) (hA : GsAt w A l) :
    Calls Tryd.prog 14 #[.slice A l.length cap] w fun e w' => e = .returned (.int .i64 (smpsE l)) ∧ Below w.heap.size w w' := by
  by_cases h : l.length ≤ 1000
  · exact RSamplesErr_any A l cap w h hA
  have hq : smpsE l = 8 := by unfold smpsE; rw [decide_eq_false (by omega), unl_false, firstE_nz (by decide)]
  have HQ := Lib.hid hq
  have e1 : decide ((64 : Int) < (l.length : Int)) = true := by simp; omega
  clear hq h
  go_enter Tryd.func14, Tryd.ntmps14
  go_wp2_with (fail)
  go_ret
  exact ⟨ret_int (by rw [HQ.out]), (by repeat (first | assumption | exact Below.refl _ _ | refine Below.drew ?_ | (refine below_alloc _ ?_ ?_; focus (first | omega | (simp; done) | (simp; omega) | (simp at *; omega))) | (refine below_set _ ?_ ?_; focus (first | omega | (simp; done) | (simp; omega) | (simp at *; omega))) | refine below_drewN ?_ _ | (refine below_call (by assumption) ?_ ?_; focus (first | omega | (simp; done) | (simp; omega) | (simp at *; omega))) | (refine below_call' (by assumption) ?_ ?_; focus (first | omega | (simp; done) | (simp; omega) | (simp at *; omega)))))⟩
set_option maxRecDepth 100000 in
set_option maxHeartbeats 4000000 in
theorem RFramesErr_any (A : Option Addr) (fs : List Frw) (ca : Nat) (B : Option Addr) (ts : List Int) (cb : Nat) (w : World) (hA : FrsAt w A fs) (hB : IntsAt w B ts) :
    Calls Tryd.prog 5 #[.slice A fs.length ca, .slice B ts.length cb] w fun e w' => e = .returned (.int .i64 (frsE fs ts)) ∧ Below w.heap.size w w' := by
  have eq1 : ((ts.length : Int) != (fs.length : Int)) = !decide (ts.length = fs.length) := by
    by_cases h : ts.length = fs.length
    · rw [decide_eq_true h, h]; simp
    · rw [decide_eq_false h, bne_iff_ne.2 (by omega)]; rfl
  have eq2 : (ts.length != fs.length) = !decide (ts.length = fs.length) := by
    by_cases h : ts.length = fs.length
    · rw [decide_eq_true h, h]; simp
    · rw [decide_eq_false h, bne_iff_ne.2 (by omega)]; rfl
  by_cases hp : 0 < fs.length
  rotate_left 1
  · have hq : frsE fs ts = 10 := frsE_1 (by rw [decide_eq_false hp]; rfl)
    have hz : fs.length = 0 := by omega
    have HQ := Lib.hid hq
    rw [hz]
    clear hq hp hz eq1 eq2
    go_enter Tryd.func5, Tryd.ntmps5
    go_wp2_with (fail)
    go_ret
    exact ⟨ret_int (by rw [HQ.out]), (by repeat (first | assumption | exact Below.refl _ _ | refine Below.drew ?_ | (refine below_alloc _ ?_ ?_; focus (first | omega | (simp; done) | (simp; omega) | (simp at *; omega))) | (refine below_set _ ?_ ?_; focus (first | omega | (simp; done) | (simp; omega) | (simp at *; omega))) | refine below_drewN ?_ _ | (refine below_call (by assumption) ?_ ?_; focus (first | omega | (simp; done) | (simp; omega) | (simp at *; omega))) | (refine below_call' (by assumption) ?_ ?_; focus (first | omega | (simp; done) | (simp; omega) | (simp at *; omega)))))⟩
  have e0 : ((fs.length : Int) == 0) = false := by rw [beq_eq_false_iff_ne]; omega
  have e0n : (fs.length == 0) = false := by rw [beq_eq_false_iff_ne]; omega
  by_cases he : ts.length = fs.length
  rotate_left 1
  · have hq : frsE fs ts = 10 := frsE_1 (by rw [decide_eq_false he, Bool.and_false])
    have HQ := Lib.hid hq
    rw [decide_eq_false he] at eq1 eq2
    clear hq he
    go_enter Tryd.func5, Tryd.ntmps5
    go_wp2_with (fail)
    go_ret
    exact ⟨ret_int (by rw [HQ.out]), (by repeat (first | assumption | exact Below.refl _ _ | refine Below.drew ?_ | (refine below_alloc _ ?_ ?_; focus (first | omega | (simp; done) | (simp; omega) | (simp at *; omega))) | (refine below_set _ ?_ ?_; focus (first | omega | (simp; done) | (simp; omega) | (simp at *; omega))) | refine below_drewN ?_ _ | (refine below_call (by assumption) ?_ ?_; focus (first | omega | (simp; done) | (simp; omega) | (simp at *; omega))) | (refine below_call' (by assumption) ?_ ?_; focus (first | omega | (simp; done) | (simp; omega) | (simp at *; omega)))))⟩
  rw [decide_eq_true he] at eq1 eq2
  by_cases hm : fs.length ≤ 8
  rotate_left 1
  · have hq : frsE fs ts = 8 := frsE_2 (by rw [decide_eq_true he, decide_eq_true hp]; rfl) hm
    have HQ := Lib.hid hq
    have e8 : decide ((8 : Int) < (fs.length : Int)) = true := by simp; omega
    clear hq he
    go_enter Tryd.func5, Tryd.ntmps5
    go_wp2_with (fail)
    go_ret
    exact ⟨ret_int (by rw [HQ.out]), (by repeat (first | assumption | exact Below.refl _ _ | refine Below.drew ?_ | (refine below_alloc _ ?_ ?_; focus (first | omega | (simp; done) | (simp; omega) | (simp at *; omega))) | (refine below_set _ ?_ ?_; focus (first | omega | (simp; done) | (simp; omega) | (simp at *; omega))) | refine below_drewN ?_ _ | (refine below_call (by assumption) ?_ ?_; focus (first | omega | (simp; done) | (simp; omega) | (simp at *; omega))) | (refine below_call' (by assumption) ?_ ?_; focus (first | omega | (simp; done) | (simp; omega) | (simp at *; omega)))))⟩
  have e8 : decide ((8 : Int) < (fs.length : Int)) = false := by simp; omega
  rw [frsE_3 ⟨hp, he, hm⟩]
  have hn0 := n0_at hp
  generalize n0 fs = N at *
  have HN0 := Lib.hid hn0
  have HEQ := Lib.hid he
  have HDR := Lib.hid (fun (k : Nat) (h1 : k < fs.length) (h2 : k < ts.length) => fz_drop h1 h2)
  have HLN := Lib.hid (fz_len he)
  have HF0 : Hid (frG N (fz fs ts) = frG N ((fz fs ts).drop 0)) := Lib.hid rfl
  have hpI : (0 : Int) < (fs.length : Int) := by omega
  clear hn0 he
  go_enter Tryd.func5, Tryd.ntmps5
  go_wp2_with (fail)
  go_loopw [5] (fun i wr => ∃ j : Nat, j ≤ fs.length ∧ i = .int .i64 j ∧ frG N (fz fs ts) = frG N ((fz fs ts).drop j) ∧ Below w.heap.size w wr) (fun i _ => fs.length - (intOf i).toNat)
  case atStart => exact ⟨0, Nat.zero_le _, rfl, HF0.out, Below.refl _ _⟩
  case round =>
    obtain ⟨j, hj, rfl, hfr, hbr⟩ := hrel
    obtain ⟨wo, rfl⟩ : ∃ wo : World, wo = wr := ⟨_, rfl⟩
    have HFR := Lib.hid hfr
    clear hfr HF0
    by_cases hjl : j < fs.length
    · have hjt : j < ts.length := by have := HEQ.out; omega
      have hjI : (j : Int) < (fs.length : Int) := by omega
      have hdr := HDR.out j hjl hjt
      have A1 := hA.below hbr
      obtain ⟨b1, o1, rfl, hb1, cx, hX⟩ := A1.at_ hjl
      obtain ⟨b9, o9, e9, -, c9, -⟩ := A1.at_ hp
      cases e9
      rw [HN0.out] at c9
      obtain ⟨aA, haA⟩ : ∃ a, a = fs[0].a := ⟨_, rfl⟩
      obtain ⟨kA, hkA⟩ : ∃ a, a = fs[0].c := ⟨_, rfl⟩
      rw [← haA, ← hkA] at c9
      simp only [Nat.add_zero] at c9
      obtain ⟨b2, o2, rfl, hb2, y0⟩ := IntsAt.at_ (RowsAt.below hB hbr) hjt
      rw [hdr, frG_cons] at HFR
      clear haA hkA A1 hdr
      generalize fs[j] = x at *
      generalize ts[j] = t at *
      obtain ⟨ax, lx, cx'⟩ := x
      simp only at *
      have hE : frE N lx t = firstE [unl (decide (lx.length = N)) 10, smpsE lx, unl (withinB t 0 3) 2] := rfl
      by_cases hN : lx.length = N
      rotate_left 1
      · rw [decide_eq_false hN, unl_false, firstE_nz (by decide)] at hE
        rw [hE, if_neg (by decide)] at HFR
        have e1 : ((lx.length : Int) != (N : Int)) = true := bne_iff_ne.2 (by omega)
        have e2 : (lx.length != N) = true := bne_iff_ne.2 hN
        clear hE hN
        go_upto_region 8 with (fail)
        (refine region_extx 9 (by kernel_rfl) (by kernel_rfl) fun hx => ?_; simp only [List.take_succ_cons, List.take_zero, List.drop_succ_cons, List.drop_zero]; (repeat (any_goals (first | go_big_quiet_step (fail) | quiet_step (fail)))))
        (refine wpQuiet_nil ?_; clear hx; intro u; have hbw2 := ext_bel _ u; have hxw2 := ext_cell _ u; generalize ext _ u = w2 at *; clear u; have hsw2 := hbw2.size; (try simp at hsw2))
        have h2 := hbr.trans (hbw2.mono hbr.size)
        go_wp2_with (fail)
        go_ret
        exact ⟨ret_int (by rw [HFR.out]), h2⟩
      rw [decide_eq_true hN, unl_true, firstE_z] at hE
      have e1 : ((lx.length : Int) != (N : Int)) = false := by rw [hN]; simp
      have e2 : (lx.length != N) = false := by rw [hN]; simp
      have HS := Lib.hid (fun W (h : GsAt W ax lx) => RSamplesErr_all ax lx cx' W h)
      have HW := Lib.hid (fun W => Within_any t 0 3 W)
      have HX := Lib.hid hX
      clear hN hX
      by_cases hs : smpsE lx = 0
      rotate_left 1
      · rw [firstE_nz hs] at hE
        rw [hE, if_neg hs] at HFR
        have e3 : (smpsE lx != 0) = true := by simpa using hs
        clear hE hs
        generalize smpsE lx = E at *
        go_upto_region 8 with (fail)
        (refine region_extx 9 (by kernel_rfl) (by kernel_rfl) fun hx => ?_; simp only [List.take_succ_cons, List.take_zero, List.drop_succ_cons, List.drop_zero]; (repeat (any_goals (first | go_big_quiet_step (fail) | quiet_step (fail)))))
        (refine wpQuiet_nil ?_; clear hx; intro u; have hbw2 := ext_bel _ u; have hxw2 := ext_cell _ u; generalize ext _ u = w2 at *; clear u; have hsw2 := hbw2.size; (try simp at hsw2))
        have hX2 : GsAt w2 ax lx := RowsAt.below HX.out hbw2
        replace cx := cell_below' hbw2 cx
        replace hb1 := Nat.lt_of_lt_of_le hb1 hbw2.size
        have h2 := hbr.trans (hbw2.mono hbr.size)
        clear c9 y0 hbw2 hxw2 hsw2
        go_wp2_with (fail)
        refine (HS.out _ hX2).mono ?_
        rintro e w3 ⟨rfl, hb3⟩
        have h3 := h2.trans (hb3.mono h2.size)
        go_wp2_with (fail)
        go_ret
        exact ⟨ret_int (by rw [HFR.out]), h3⟩
      rw [hs, firstE_z, firstE1] at hE
      rw [hs] at HS
      clear hs
      cases hb : withinB t 0 3
      all_goals
        rw [hb] at hE HW
        clear hb
      · rw [hE, if_neg (by decide)] at HFR
        clear hE
        go_upto_region 8 with (fail)
        (refine region_extx 9 (by kernel_rfl) (by kernel_rfl) fun hx => ?_; simp only [List.take_succ_cons, List.take_zero, List.drop_succ_cons, List.drop_zero]; (repeat (any_goals (first | go_big_quiet_step (fail) | quiet_step (fail)))))
        (refine wpQuiet_nil ?_; clear hx; intro u; have hbw2 := ext_bel _ u; have hxw2 := ext_cell _ u; generalize ext _ u = w2 at *; clear u; have hsw2 := hbw2.size; (try simp at hsw2))
        have hX2 : GsAt w2 ax lx := RowsAt.below HX.out hbw2
        replace cx := cell_below' hbw2 cx
        replace y0 := cell_below' hbw2 y0
        replace hb1 := Nat.lt_of_lt_of_le hb1 hbw2.size
        replace hb2 := Nat.lt_of_lt_of_le hb2 hbw2.size
        have h2 := hbr.trans (hbw2.mono hbr.size)
        clear c9 hbw2 hxw2 hsw2
        go_wp2_with (fail)
        refine (HS.out _ hX2).mono ?_
        rintro e w3 ⟨rfl, hb3⟩
        replace y0 := cell_below' hb3 y0
        have h3 := h2.trans (hb3.mono h2.size)
        go_wp2_with (fail)
        refine (HW.out _).mono ?_
        rintro e w' ⟨rfl, rfl⟩
        go_wp2_with (fail)
        go_ret
        exact ⟨ret_int (by rw [HFR.out]; rfl), h3⟩
      · rw [hE, if_pos (by decide)] at HFR
        clear hE
        go_upto_region 8 with (fail)
        (refine region_extx 9 (by kernel_rfl) (by kernel_rfl) fun hx => ?_; simp only [List.take_succ_cons, List.take_zero, List.drop_succ_cons, List.drop_zero]; (repeat (any_goals (first | go_big_quiet_step (fail) | quiet_step (fail)))))
        (refine wpQuiet_nil ?_; clear hx; intro u; have hbw2 := ext_bel _ u; have hxw2 := ext_cell _ u; generalize ext _ u = w2 at *; clear u; have hsw2 := hbw2.size; (try simp at hsw2))
        have hX2 : GsAt w2 ax lx := RowsAt.below HX.out hbw2
        replace cx := cell_below' hbw2 cx
        replace y0 := cell_below' hbw2 y0
        replace hb1 := Nat.lt_of_lt_of_le hb1 hbw2.size
        replace hb2 := Nat.lt_of_lt_of_le hb2 hbw2.size
        have h2 := hbr.trans (hbw2.mono hbr.size)
        clear c9 hbw2 hxw2 hsw2
        go_wp2_with (fail)
        refine (HS.out _ hX2).mono ?_
        rintro e w3 ⟨rfl, hb3⟩
        replace y0 := cell_below' hb3 y0
        have h3 := h2.trans (hb3.mono h2.size)
        go_wp2_with (fail)
        refine (HW.out _).mono ?_
        rintro e w' ⟨rfl, rfl⟩
        go_wp2_with (fail)
        go_roundw
        case rel => exact ⟨j + 1, by omega, by go_num, HFR.out, h3⟩
        case measure => simp [intOf]; omega
    · obtain rfl : j = fs.length := by omega
      have hz : frG N (fz fs ts) = 0 := by
        rw [HFR.out, List.drop_eq_nil_of_le (by rw [HLN.out]; exact Nat.le_refl _)]; rfl
      have HZ := Lib.hid hz
      clear hz
      go_wp2_with (fail)
      go_ret
      exact ⟨ret_int (by rw [HZ.out]), hbr⟩
/-- frames that are the caller's own -/
def CopyFrsPost (fs : List Frw) (w : World) (e : Ending) (w' : World) : Prop :=
  ∃ A' c' fs', e = .returned (.slice A' fs.length c') ∧ fs'.map (·.l) = fs.map (·.l) ∧ FrsAt w' A' fs' ∧ Below w.heap.size w w'
theorem frsAt_of {w' : World} {B : Nat} {A' : Option Addr} {c' : Nat} {fs : List Frw} (h : w'.ownsRow B 28 1 (.slice A' fs.length c') fs.length (cellsOf 1 frC fs)) (h2 : ∀ x ∈ fs, GsAt w' x.a x.l) : FrsAt w' A' fs :=
  ⟨rowsAt_of_own h rfl (by decide), h2⟩
theorem newsFr {w : World} {vb : Nat} {x : Frw} (hv : w.heap[vb]? = some (.cells #[.slice x.a x.l.length x.c] 28)) : ∀ j u, [Value.slice x.a x.l.length x.c][j]? = some u → w.cell? ((⟨vb, 0, none⟩ : Addr).add j) = some u := fun j u hu => by
  rw [Addr.add_lit, Nat.zero_add]
  exact blk_cell hv (by simpa using hu)
/-- two rows lie in different blocks -/
def Apt (u v : Value) : Prop := ∀ x, u.ownBlock = some x → v.ownBlock ≠ some x
theorem Apt.row {u v : Value} (h : Apt u v) : u.ownBlock = none ∨ u.ownBlock ≠ v.ownBlock := by
  cases hu : u.ownBlock with
  | none => exact .inl rfl
  | some x => exact .inr fun e => h x hu e.symm
theorem Apt.grow {u v v' : Value} {z : Nat} (h : Apt u v) (h3 : v'.ownBlock = v.ownBlock ∨ v'.ownBlock = some z) (hz : ∀ k, u.ownBlock = some k → k < z) : Apt u v' := fun x hx e => by
  rcases h3 with h3 | h3
  · exact h x hx (h3 ▸ e)
  · rw [h3] at e
    have := hz x hx
    injection e with e
    omega
theorem own_low {w : World} {B B' : Nat} {e : TypeId} {size : Nat} {v : Value} {n : Nat} {xs : List Value} (h : w.ownsRow B e size v n xs) (hB : B' ≤ B) : w.ownsRow B' e size v n xs :=
  ⟨h.1, h.2.imp id fun ⟨g, cap, cur, a, b, r⟩ => ⟨g, cap, cur, a, Nat.le_trans hB b, r⟩⟩
/-- the copies so far, each its own row -/
def FrOwn (B : Nat) (w : World) (v : Value) (fs : List Frw) : Prop := ∀ x ∈ fs, w.ownsRow B 30 2 (.slice x.a x.l.length x.c) x.l.length (cellsOf 2 gC x.l) ∧ Apt (.slice x.a x.l.length x.c) v
theorem FrOwn.below {B : Nat} {w w' : World} {v : Value} {fs : List Frw} (h : FrOwn B w v fs) (hb : Below w.heap.size w w') : FrOwn B w' v fs := fun x hx => ⟨own_below (h x hx).1 hb, (h x hx).2⟩
theorem FrOwn.rows {B : Nat} {w : World} {v : Value} {fs : List Frw} (h : FrOwn B w v fs) : ∀ x ∈ fs, GsAt w x.a x.l := fun x hx => rowsAt_of_own (h x hx).1 rfl (by decide)
theorem FrOwn.snoc {B : Nat} {w w1 w3 : World} {v v' : Value} {fs : List Frw} {x : Frw} {z : Nat} (h : FrOwn B w v fs) (hb : Below w.heap.size w w1) (o : Obj) (hB : B ≤ w.heap.size)
    (hx : w1.ownsRow w.heap.size 30 2 (.slice x.a x.l.length x.c) x.l.length (cellsOf 2 gC x.l)) (hv : ∀ k, v.ownBlock = some k → k < w.heap.size)
    (h2 : (w1.alloc o).grownBy w3 v.ownBlock) (h3 : v'.ownBlock = v.ownBlock ∨ v'.ownBlock = some z) (hz : w1.heap.size ≤ z) : FrOwn B w3 v' (fs ++ [x]) := fun y hy => by
  have hap : Apt (.slice x.a x.l.length x.c) v := fun k hk e => by
    have h1 := (hx.lt k hk).1
    have h2 := hv k e
    omega
  rcases List.mem_append.1 hy with hy | hy
  · have q := (h.below hb) y hy
    exact ⟨(q.1.alloc o).kept h2 q.2.row, q.2.grow h3 fun k hk => Nat.lt_of_lt_of_le (q.1.lt k hk).2 hz⟩
  · obtain rfl := List.mem_singleton.1 hy
    exact ⟨((own_low hx hB).alloc o).kept h2 hap.row, hap.grow h3 fun k hk => Nat.lt_of_lt_of_le (hx.lt k hk).2 hz⟩
set_option maxRecDepth 100000 in
set_option maxHeartbeats 4000000 in
theorem CopyFrames_any (A : Option Addr) (fs : List Frw) (ca : Nat) (w : World) (hl : fs.length ≤ 1000) (hfl : ∀ x ∈ fs, x.l.length ≤ 1000) (hA : FrsAt w A fs) :
    Calls Tryd.prog 11 #[.slice A fs.length ca] w (CopyFrsPost fs w) := by
  obtain ⟨i1, hi1, hz3, hz4, hz5⟩ := infoFr_
  have HI1 := Lib.hid hi1
  have HZ3 := Lib.hid hz3
  have HZ4 := Lib.hid hz4
  have HZ5 := Lib.hid hz5
  have HFL := Lib.hid hfl
  have hli : (fs.length : Int) ≤ 1000 := by omega
  clear hi1 hz3 hz4 hz5 hfl
  go_enter Tryd.func11, Tryd.ntmps11
  go_wp2_with (fail)
  go_loopw [3, 4] (fun o i wr => ∃ (j : Nat) (A' : Option Addr) (c' : Nat) (gs : List Frw), j ≤ fs.length ∧ i = .int .i64 j ∧ gs.length = j ∧ o = .slice A' gs.length c' ∧ gs.map (·.l) = (fs.take j).map (·.l) ∧ wr.ownsRow w.heap.size 28 1 (.slice A' gs.length c') gs.length (cellsOf 1 frC gs) ∧ FrOwn w.heap.size wr (.slice A' gs.length c') gs ∧ Below w.heap.size w wr) (fun _ i _ => fs.length - (intOf i).toNat)
  case atStart => exact ⟨0, none, 0, [], Nat.zero_le _, rfl, rfl, rfl, rfl, World.ownsRow_nil _ _ _ _, (fun x hx => by cases hx), Below.refl _ _⟩
  case round =>
    obtain ⟨j, A', c', gs, hj, rfl, hgl, rfl, hgm, own, hfo, hbr⟩ := hrel
    obtain ⟨wo, rfl⟩ : ∃ wo : World, wo = wr := ⟨_, rfl⟩
    have OWN := Lib.hid own
    have HFO := Lib.hid hfo
    have HGM := Lib.hid hgm
    have HGL := Lib.hid hgl
    have hgl8 : gs.length ≤ 1000 := by omega
    have zx := hbr.size
    clear own hfo hgm hgl
    by_cases hjl : j < fs.length
    · have hjI : (j : Int) < (fs.length : Int) := by omega
      obtain ⟨b1, o1, rfl, hb1, cx, hX⟩ := (hA.below hbr).at_ hjl
      have hx1 := HFL.out _ (List.getElem_mem hjl)
      have hst : (fs.take (j + 1)).map (·.l) = (fs.take j).map (·.l) ++ [fs[j].l] := by rw [List.take_succ_eq_append_getElem hjl, List.map_append]; rfl
      have HST := Lib.hid hst
      clear hst
      generalize fs[j] = x at *
      obtain ⟨ax, lx, cx'⟩ := x
      simp only at *
      go_wp2_with (fail)
      refine (CopyG_any ax lx cx' wo hx1 hX).mono ?_
      rintro e w2 ⟨A2, c2, rfl, own2, hb2⟩
      have OWN2 := Lib.hid (own_below OWN.out hb2)
      have OWC := Lib.hid own2
      have hbr2 := hbr.trans (hb2.mono hbr.size)
      have zx2 := hbr2.size
      have HB2 := Lib.hid hb2
      clear own2 hb2 hX cx
      go_wp2_with (at_builtin; (refine wpList_append_rows _ rfl (.tmp 11) (.tmp 17) 22 rfl w.heap.size 28 i1 (.slice none 0 0) 1 24 Tryd.underlying22 HI1.out HZ3.out HZ4.out HZ5.out rfl (by decide) A' gs.length c' (cellsOf 1 frC gs) rfl (World.ownsRow.alloc OWN2.out _) (some ⟨_, 0, none⟩) 1 1 [.slice A2 lx.length c2] rfl rfl (fun h => by cases h) (fun ad h => by cases h; exact newsFr (x := ⟨A2, lx, c2⟩) (blk_new rfl)) (fun u hu => by simp at hu; subst hu <;> rfl) (by unfold maxLen; omega) (by omega) (by simp; omega) ?_; intro A3 c3 w6 h1 h2 h3))
      have r3 : Below w.heap.size w w6 := below_own (below_alloc _ (Nat.le_refl _) hbr2) h2 (World.ownsRow.alloc OWN2.out _) (Nat.le_refl _) (by simp; omega)
      have hfo := HFO.out.snoc (x := ⟨A2, lx, c2⟩) HB2.out _ zx OWC.out (fun k hk => (OWN.out.lt k hk).2) h2 h3 (by simp)
      have hlen : (gs ++ [(⟨A2, lx, c2⟩ : Frw)]).length = gs.length + 1 := by simp
      have H0 := Lib.hid hlen
      have H1 : Hid (w6.ownsRow w.heap.size 28 1 (.slice A3 (gs ++ [(⟨A2, lx, c2⟩ : Frw)]).length c3) (gs ++ [(⟨A2, lx, c2⟩ : Frw)]).length (cellsOf 1 frC (gs ++ [(⟨A2, lx, c2⟩ : Frw)]))) := Lib.hid (by rw [hlen, cellsOf_append]; exact h1)
      have H2 : Hid (FrOwn w.heap.size w6 (.slice A3 (gs ++ [(⟨A2, lx, c2⟩ : Frw)]).length c3) (gs ++ [(⟨A2, lx, c2⟩ : Frw)])) := Lib.hid (by rw [hlen]; exact hfo)
      have H3 : Hid ((gs ++ [(⟨A2, lx, c2⟩ : Frw)]).map (·.l) = (fs.take (j + 1)).map (·.l)) := Lib.hid (by rw [HST.out, List.map_append, HGM.out]; rfl)
      clear h1 h2 h3 hfo hlen OWN OWN2 OWC HFO HB2 hbr hbr2
      go_wp2_with (fail)
      go_roundw
      case rel => exact ⟨j + 1, A3, c3, gs ++ [⟨A2, lx, c2⟩], by omega, by go_num, by rw [H0.out, HGL.out], by rw [H0.out], H3.out, H1.out, H2.out, r3⟩
      case measure => simp [intOf]; omega
    · have hjn : j = fs.length := by omega
      have hfm : gs.map (·.l) = fs.map (·.l) := by rw [HGM.out, hjn, List.take_length]
      have hgn : gs.length = fs.length := by rw [HGL.out, hjn]
      have HF := Lib.hid (frsAt_of OWN.out HFO.out.rows)
      have HM := Lib.hid hfm
      have HN := Lib.hid hgn
      clear hfm hgn hjn
      go_wp2_with (fail)
      go_ret
      exact ⟨A', c', gs, by rw [HN.out]; rfl, HM.out, HF.out, hbr⟩
end Go.Proofs.YtlnbbioponmcfaaDoor
