/-
  Chapter 2: the reference's coherent sum; powers and echoes of a frame.
-/
import Derived.Test.YtppghnbabnhnbaaGreatDoorEFrR
import Derived.Test.YtppghnbabnhnbaaGreatDoorERTm
import Derived.Test.YtppghnbabnhnbaaGreatDoorETgR
namespace Go.Proofs.YtppghnbabnhnbaaGreatDoor
open Go.ChangeShapes Go.WideShapes Go.ChangeAt Go.RowKit
set_option linter.unusedVariables false
set_option linter.unusedSimpArgs false

theorem frsE_at {fs : List Frw} {ts : List Int} (h : frsE fs ts = 0) {j : Nat} (h1 : j < fs.length) (h2 : j < ts.length) : frE (n0 fs) fs[j].l ts[j] = 0 := by
  have hok := frsE_ok h
  rw [frsE_3 hok] at h
  have hl : j < (fz fs ts).length := by rw [fz_len hok.e]; exact h1
  have := frG_all h _ (List.getElem_mem hl)
  rw [fz_at hl h1 h2] at this
  exact this
theorem rot_nat (s : Nat) (g : Gs) : rot (s : Int) g = rotN (s % 4) g := by unfold rot; rw [show ((s : Int) % 4).toNat = s % 4 by omega]
def GsX (q : List Gs) (w : World) (e : Ending) (w' : World) : Prop := ∃ A' c', e = .returned (.slice A' q.length c') ∧ GsAt w' A' q ∧ Below w.heap.size w w'
set_option maxRecDepth 100000 in
set_option maxHeartbeats 8000000 in
theorem RCoherent_any (A : Option Addr) (fs : List Frw) (ca : Nat) (B : Option Addr) (ts : List Int) (cb : Nat) (w : World) (h0 : frsE fs ts = 0) (hA : FrsAt w A fs) (hB : IntsAt w B ts) :
    Calls Tryz.prog 29 #[.slice A fs.length ca, .slice B ts.length cb] w (GsX (cohL (fz fs ts) (n0 fs)) w) := by
  obtain ⟨hp, he, hm⟩ := frsE_ok h0
  have HAT := Lib.hid (fun (j : Nat) (h1 : j < fs.length) (h2 : j < ts.length) => frE_zero (frsE_at h0 h1 h2))
  have hn0 := n0_at hp
  have hN1 : n0 fs ≤ 64 := by rw [← hn0]; exact (smpsE_zero (frE_zero (frsE_at h0 hp (by omega))).2.1).1
  have HSUM := Lib.hid (fun (k j : Nat) (h1 : j < fs.length) (h2 : j < ts.length) => show cohG ((fz fs ts).take (j + 1)) k = gadd (cohG ((fz fs ts).take j) k) (rot ts[j] (gd fs[j].l k)) by rw [fz_take h1 h2, cohG_snoc])
  have HSZ := Lib.hid (fun (k j : Nat) => OkZ.sz (n := n0 fs) (l := (fz fs ts).take j) (fun p hp => by
    rw [frsE_3 ⟨by omega, by omega, by omega⟩] at h0
    exact frG_all h0 p (List.mem_of_mem_take hp)) k)
  have HTA : Hid ((fz fs ts).take fs.length = fz fs ts) := Lib.hid (List.take_of_length_le (by rw [fz_len he]; exact Nat.le_refl _))
  have HT0 : Hid (∀ k, cohG ((fz fs ts).take 0) k = ⟨0, 0⟩) := Lib.hid (fun k => by rw [List.take_zero]; rfl)
  have HLS := Lib.hid (fun k => cohL_succ (fz fs ts) k)
  have HLL := Lib.hid (fun k => cohL_len (fz fs ts) k)
  have HL0 : Hid (cohL (fz fs ts) 0 = []) := Lib.hid rfl
  obtain ⟨N, hN⟩ : ∃ N, N = n0 fs := ⟨_, rfl⟩
  rw [← hN] at hn0 HAT hN1 ⊢
  have HN0 := Lib.hid hn0
  have HEQ := Lib.hid he
  have hli : (fs.length : Int) ≤ 8 := by omega
  have hpI : (0 : Int) < (fs.length : Int) := by omega
  obtain ⟨i0, hi0, hz0, hz1, hz2⟩ := infoGs_
  have HI := Lib.hid hi0
  have HZ0 := Lib.hid hz0
  have HZ1 := Lib.hid hz1
  have HZ2 := Lib.hid hz2
  clear hi0 hz0 hz1 hz2 hn0 he h0 hN
  generalize hcl : cohL (fz fs ts) = cl at *
  clear hcl
  go_enter Tryz.func29, Tryz.ntmps29
  go_wp2_with (fail)
  go_loopw [5, 6] (fun o i wr => ∃ (k : Nat) (A' : Option Addr) (c' : Nat), k ≤ N ∧ i = .int .i64 k ∧ o = .slice A' (cl k).length c' ∧ wr.ownsRow w.heap.size 23 2 (.slice A' (cl k).length c') (cl k).length (cellsOf 2 gC (cl k)) ∧ Below w.heap.size w wr) (fun _ i _ => N - (intOf i).toNat)
  case atStart => exact ⟨0, none, 0, Nat.zero_le _, rfl, by rw [HL0.out] <;> rfl, by rw [HL0.out]; exact World.ownsRow_nil _ _ _ _, Below.refl _ _⟩
  case round =>
    obtain ⟨k, A', c', hk, rfl, rfl, own, hbr⟩ := hrel
    obtain ⟨wo, rfl⟩ : ∃ wo : World, wo = wr := ⟨_, rfl⟩
    have OWN := Lib.hid own
    have hlk8 : (cl k).length ≤ 1000 := by rw [HLL.out k]; omega
    have A1 := hA.below hbr
    obtain ⟨b9, o9, rfl, hb9, c9, -⟩ := A1.at_ hp
    rw [HN0.out] at c9
    obtain ⟨aA, haA⟩ : ∃ a, a = fs[0].a := ⟨_, rfl⟩
    obtain ⟨kA, hkA⟩ : ∃ a, a = fs[0].c := ⟨_, rfl⟩
    rw [← haA, ← hkA] at c9
    simp only [Nat.add_zero] at c9
    clear haA hkA own A1
    by_cases hkl : k < N
    · have hkI : (k : Int) < (N : Int) := by omega
      go_upto_region 6 with (fail)
      have hb2 : Below wo.heap.size wo (wo.alloc (.cells #[.int .i64 0, .int .i64 0] 23)) := below_alloc _ (Nat.le_refl _) (Below.refl _ _)
      have s0 : (wo.alloc (.cells #[.int .i64 0, .int .i64 0] 23)).cell? ⟨wo.heap.size, 0, none⟩ = some (.int .i64 0) := cell_new (by simp) rfl
      have sf0 : (wo.alloc (.cells #[.int .i64 0, .int .i64 0] 23)).frozen? ⟨wo.heap.size, 0, none⟩ = false := frozen_new (by simp)
      have s1 : (wo.alloc (.cells #[.int .i64 0, .int .i64 0] 23)).cell? ⟨wo.heap.size, 1, none⟩ = some (.int .i64 0) := cell_new (by simp) rfl
      have sf1 : (wo.alloc (.cells #[.int .i64 0, .int .i64 0] 23)).frozen? ⟨wo.heap.size, 1, none⟩ = false := frozen_new (by simp)
      have zs : wo.heap.size < (wo.alloc (.cells #[.int .i64 0, .int .i64 0] 23)).heap.size := World.block_lt_of_cell? _ _ s0
      generalize (wo.alloc (.cells #[.int .i64 0, .int .i64 0] 23)) = w2 at *
      have S0 : Hid (w2.cell? ⟨wo.heap.size, 0, none⟩ = some (.int .i64 (cohG ((fz fs ts).take 0) k).re)) := Lib.hid (by rw [HT0.out]; exact s0)
      have S1 : Hid (w2.cell? ⟨wo.heap.size, 1, none⟩ = some (.int .i64 (cohG ((fz fs ts).take 0) k).im)) := Lib.hid (by rw [HT0.out]; exact s1)
      clear c9 s0 s1 hb9
      go_wp2_with (fail)
      go_loopw [8] (fun i wr => ∃ j : Nat, j ≤ fs.length ∧ i = .int .i64 j ∧ wr.cell? ⟨wo.heap.size, 0, none⟩ = some (.int .i64 (cohG ((fz fs ts).take j) k).re) ∧ wr.cell? ⟨wo.heap.size, 1, none⟩ = some (.int .i64 (cohG ((fz fs ts).take j) k).im) ∧ wr.frozen? ⟨wo.heap.size, 0, none⟩ = false ∧ wr.frozen? ⟨wo.heap.size, 1, none⟩ = false ∧ Below wo.heap.size wo wr) (fun i _ => fs.length - (intOf i).toNat)
      case atStart => exact ⟨0, Nat.zero_le _, rfl, S0.out, S1.out, sf0, sf1, hb2⟩
      case round =>
        obtain ⟨j, hj, rfl, s0, s1, sf0, sf1, hbx⟩ := hrel
        obtain ⟨wi, rfl⟩ : ∃ wi : World, wi = wr := ⟨_, rfl⟩
        clear S0 S1 hb2 zs
        have zs : wo.heap.size < wi.heap.size := World.block_lt_of_cell? _ _ s0
        by_cases hjl : j < fs.length
        · have hjt : j < ts.length := by have := HEQ.out; omega
          have hjI : (j : Int) < (fs.length : Int) := by omega
          obtain ⟨q1, q2, q3, q4⟩ := HAT.out j hjl hjt
          have hsm := HSUM.out k j hjl hjt
          have hsz := HSZ.out k j
          have htl : ((fz fs ts).take j).length ≤ 8 := by rw [List.length_take]; omega
          have hkx : k < fs[j].l.length := by omega
          rw [gd_eq hkx] at hsm
          have hgs := (smpsE_zero q2).2 _ (List.getElem_mem hkx)
          have A2 := (hA.below hbr).below hbx
          obtain ⟨b1, o1, e1, hb1, cx, hX⟩ := A2.at_ hjl
          cases e1
          obtain ⟨b3, o3, e3, hb3, c0, c1⟩ := GsAt.at_ hX hkx
          rw [e3] at cx
          obtain ⟨b2, o2, rfl, hb2', y0⟩ := IntsAt.at_ (RowsAt.below (RowsAt.below hB hbr) hbx) hjt
          obtain ⟨t, ht⟩ : ∃ t : Nat, ts[j] = (t : Int) := ⟨ts[j].toNat, by omega⟩
          rw [ht] at y0 hsm q3 q4
          rw [rot_nat] at hsm
          have HT := Lib.hid (fun W => RTimesM_any fs[j].l[k] t W (by omega) (hgs.mono (by decide)))
          have hrs := hgs.rotN (t % 4)
          have HPL := Lib.hid (fun W => GAdd_any (cohG ((fz fs ts).take j) k) (rotN (t % 4) fs[j].l[k]) W (hsz.mono (by omega)) (hrs.mono (by decide)))
          have HSM := Lib.hid hsm
          have hkx2 : (k : Int) < (fs[j].l.length : Int) := by omega
          clear hsm hsz htl hgs hrs q2 A2 hX e3 ht q1
          generalize fs[j].l[k] = g at *
          generalize fs[j].l.length = lxn at *
          generalize fs[j].c = cxn at *
          generalize cohG ((fz fs ts).take j) k = u at *
          simp only [gv] at HT HPL
          go_upto_region 9 with (fail)
          (refine region_extx 14 (by kernel_rfl) (by kernel_rfl) fun hx => ?_; simp only [List.take_succ_cons, List.take_zero, List.drop_succ_cons, List.drop_zero]; (repeat (any_goals (first | go_big_quiet_step ((first | ((go_at_call 70; with_reducible exact ext_call (HT.out _))) | ((go_at_call 69; with_reducible exact ext_call (HPL.out _))))) | quiet_step ((first | ((go_at_call 70; with_reducible exact ext_call (HT.out _))) | ((go_at_call 69; with_reducible exact ext_call (HPL.out _)))))))))
          (refine wpQuiet_nil ?_; clear hx; intro u; have hbw8 := ext_bel _ u; have hxw8 := ext_cell _ u; generalize ext _ u = w8 at *; clear u; have hsw8 := hbw8.size; (try simp at hsw8))
          replace s0 := cell_below' hbw8 s0
          replace s1 := cell_below' hbw8 s1
          replace sf0 := frozen_below hbw8 zs sf0
          replace sf1 := frozen_below hbw8 zs sf1
          replace zs := Nat.lt_of_lt_of_le zs hbw8.size
          have hbx8 := hbx.trans (hbw8.mono hbx.size)
          clear hxw8 hsw8 hbw8 c0 c1 cx y0
          go_wp2_with (fail)
          have hb9' : Below wo.heap.size wo ((w8.setCell ⟨wo.heap.size, 0, none⟩ (.int .i64 (gadd u (rotN (t % 4) g)).re)).setCell ⟨wo.heap.size, 1, none⟩ (.int .i64 (gadd u (rotN (t % 4) g)).im)) := below_set _ (by simp; try omega) (below_set _ (by simp; try omega) (hbx8))
          replace s0 : ((w8.setCell ⟨wo.heap.size, 0, none⟩ (.int .i64 (gadd u (rotN (t % 4) g)).re)).setCell ⟨wo.heap.size, 1, none⟩ (.int .i64 (gadd u (rotN (t % 4) g)).im)).cell? ⟨wo.heap.size, 0, none⟩ = some (.int .i64 (gadd u (rotN (t % 4) g)).re) := cell_next (by decide) (cell_same (s0))
          replace s1 : ((w8.setCell ⟨wo.heap.size, 0, none⟩ (.int .i64 (gadd u (rotN (t % 4) g)).re)).setCell ⟨wo.heap.size, 1, none⟩ (.int .i64 (gadd u (rotN (t % 4) g)).im)).cell? ⟨wo.heap.size, 1, none⟩ = some (.int .i64 (gadd u (rotN (t % 4) g)).im) := cell_same (cell_next (by decide) (s1))
          replace sf0 := (show World.frozen? ((w8.setCell ⟨wo.heap.size, 0, none⟩ (.int .i64 (gadd u (rotN (t % 4) g)).re)).setCell ⟨wo.heap.size, 1, none⟩ (.int .i64 (gadd u (rotN (t % 4) g)).im)) ⟨wo.heap.size, 0, none⟩ = false from frozen_set _ _ (frozen_set _ _ (sf0)))
          replace sf1 := (show World.frozen? ((w8.setCell ⟨wo.heap.size, 0, none⟩ (.int .i64 (gadd u (rotN (t % 4) g)).re)).setCell ⟨wo.heap.size, 1, none⟩ (.int .i64 (gadd u (rotN (t % 4) g)).im)) ⟨wo.heap.size, 1, none⟩ = false from frozen_set _ _ (frozen_set _ _ (sf1)))
          have hszQ : ((w8.setCell ⟨wo.heap.size, 0, none⟩ (.int .i64 (gadd u (rotN (t % 4) g)).re)).setCell ⟨wo.heap.size, 1, none⟩ (.int .i64 (gadd u (rotN (t % 4) g)).im)).heap.size = w8.heap.size := by simp
          replace zs : wo.heap.size < ((w8.setCell ⟨wo.heap.size, 0, none⟩ (.int .i64 (gadd u (rotN (t % 4) g)).re)).setCell ⟨wo.heap.size, 1, none⟩ (.int .i64 (gadd u (rotN (t % 4) g)).im)).heap.size := by rw [hszQ]; exact zs
          clear hszQ hbx8
          generalize ((w8.setCell ⟨wo.heap.size, 0, none⟩ (.int .i64 (gadd u (rotN (t % 4) g)).re)).setCell ⟨wo.heap.size, 1, none⟩ (.int .i64 (gadd u (rotN (t % 4) g)).im)) = w9 at *
          exact ⟨⟨j + 1, by omega, by go_num, by rw [HSM.out]; exact s0, by rw [HSM.out]; exact s1, sf0, sf1, hb9'⟩, by simp [intOf]; omega⟩
        · obtain rfl : j = fs.length := by omega
          rw [HTA.out] at s0 s1
          have HST := Lib.hid (HLS.out k)
          have OWN5 := Lib.hid (own_below OWN.out hbx)
          have hbr5 := hbr.trans (hbx.mono hbr.size)
          have zx5 := hbr5.size
          clear OWN hbx HSUM HSZ HAT
          generalize cohG (fz fs ts) k = u at *
          generalize cl k = sl at *
          go_wp2_with (at_builtin; (refine wpList_append_rows _ rfl (.tmp 37) (.tmp 39) 29 rfl w.heap.size 23 i0 (.agg #[.int .i64 0, .int .i64 0]) 2 16 Tryz.underlying29 HI.out HZ0.out HZ1.out HZ2.out rfl (by decide) A' sl.length c' (cellsOf 2 gC sl) rfl (World.ownsRow.alloc OWN5.out _) (some ⟨_, 0, none⟩) 1 1 [.int .i64 u.re, .int .i64 u.im] rfl rfl (fun h => by cases h) (fun ad h => by cases h; exact newsG (x := u) (blk_new rfl)) (fun u hu => by simp at hu; rcases hu with rfl | rfl <;> rfl) (by unfold maxLen; omega) (by omega) (by simp; omega) ?_; intro A2 c2' w6 h1 h2 h3))
          have r3 : Below w.heap.size w w6 := below_own (below_alloc _ (Nat.le_refl _) hbr5) h2 (World.ownsRow.alloc OWN5.out _) (Nat.le_refl _) (by simp; omega)
          have hL1 : (cl (k + 1)).length = sl.length + 1 := by rw [HST.out]; simp
          have HL1 := Lib.hid hL1
          have H1 : Hid (w6.ownsRow w.heap.size 23 2 (.slice A2 (cl (k + 1)).length c2') (cl (k + 1)).length (cellsOf 2 gC (cl (k + 1)))) := Lib.hid (by rw [hL1, HST.out, cellsOf_append]; exact h1)
          clear h1 h2 h3 OWN5 hL1 hbr5 zx5
          go_wp2_with (fail)
          exact ⟨⟨k + 1, A2, c2', by omega, by go_num, by rw [HL1.out], H1.out, r3⟩, by simp [intOf]; omega⟩
    · have hkN : N = k := by omega
      subst hkN
      have hR : GsAt wo A' (cl N) := rowsAt_of_own OWN.out rfl (by decide)
      have HR := Lib.hid hR
      clear hR OWN
      go_wp2_with (fail)
      go_ret
      exact ⟨A', c', rfl, HR.out, hbr⟩
abbrev frv (A : Option Addr) (f : List Gs) (ca : Nat) (B : Option Addr) (s : List Gs) (cb : Nat) : Value := .agg #[.slice A f.length ca, .slice B s.length cb]
def CopyFPost (f s : List Gs) (w : World) (e : Ending) (w' : World) : Prop :=
  ∃ A' a' B' b', e = .returned (.agg #[.slice A' f.length a', .slice B' s.length b']) ∧ GsAt w' A' f ∧ GsAt w' B' s ∧ Below w.heap.size w w'
set_option maxRecDepth 100000 in
set_option maxHeartbeats 8000000 in
theorem CopyFrame_any (A : Option Addr) (f : List Gs) (ca : Nat) (B : Option Addr) (s : List Gs) (cb : Nat) (w : World) (hf : f.length ≤ 1000) (hs : s.length ≤ 1000) (hA : GsAt w A f) (hB : GsAt w B s) :
    Calls Tryz.prog 16 #[frv A f ca B s cb] w (CopyFPost f s w) := by
  have HC1 := Lib.hid (fun W (h : GsAt W A f) => CopyG_any A f ca W hf h)
  have HC2 := Lib.hid (fun W (h : GsAt W B s) => CopyG_any B s cb W hs h)
  simp only [frv] at *
  go_enter Tryz.func16, Tryz.ntmps16
  go_upto_region 1 with (fail)
  have hb1 : Below w.heap.size w ((w.alloc (.cells #[.slice A f.length ca, .slice B s.length cb] 40)).alloc (.cells #[.slice none 0 0, .slice none 0 0] 40)) := below_alloc _ (Nat.le_refl _) (below_alloc _ (Nat.le_refl _) (Below.refl _ _))
  have y0 : ((w.alloc (.cells #[.slice A f.length ca, .slice B s.length cb] 40)).alloc (.cells #[.slice none 0 0, .slice none 0 0] 40)).cell? ⟨w.heap.size, 0, none⟩ = some (.slice A f.length ca) := cell_alloc _ (cell_new (by simp) rfl)
  have y1 : ((w.alloc (.cells #[.slice A f.length ca, .slice B s.length cb] 40)).alloc (.cells #[.slice none 0 0, .slice none 0 0] 40)).cell? ⟨w.heap.size, 1, none⟩ = some (.slice B s.length cb) := cell_alloc _ (cell_new (by simp) rfl)
  have zy : w.heap.size < ((w.alloc (.cells #[.slice A f.length ca, .slice B s.length cb] 40)).alloc (.cells #[.slice none 0 0, .slice none 0 0] 40)).heap.size := World.block_lt_of_cell? _ _ y0
  have z0 : ((w.alloc (.cells #[.slice A f.length ca, .slice B s.length cb] 40)).alloc (.cells #[.slice none 0 0, .slice none 0 0] 40)).cell? ⟨w.heap.size + 1, 0, none⟩ = some (.slice none 0 0) := cell_new (by simp) rfl
  have zf0 : ((w.alloc (.cells #[.slice A f.length ca, .slice B s.length cb] 40)).alloc (.cells #[.slice none 0 0, .slice none 0 0] 40)).frozen? ⟨w.heap.size + 1, 0, none⟩ = false := frozen_new (by simp)
  have z1 : ((w.alloc (.cells #[.slice A f.length ca, .slice B s.length cb] 40)).alloc (.cells #[.slice none 0 0, .slice none 0 0] 40)).cell? ⟨w.heap.size + 1, 1, none⟩ = some (.slice none 0 0) := cell_new (by simp) rfl
  have zf1 : ((w.alloc (.cells #[.slice A f.length ca, .slice B s.length cb] 40)).alloc (.cells #[.slice none 0 0, .slice none 0 0] 40)).frozen? ⟨w.heap.size + 1, 1, none⟩ = false := frozen_new (by simp)
  have zz : w.heap.size + 1 < ((w.alloc (.cells #[.slice A f.length ca, .slice B s.length cb] 40)).alloc (.cells #[.slice none 0 0, .slice none 0 0] 40)).heap.size := World.block_lt_of_cell? _ _ z0
  generalize ((w.alloc (.cells #[.slice A f.length ca, .slice B s.length cb] 40)).alloc (.cells #[.slice none 0 0, .slice none 0 0] 40)) = w1 at *
  have hA1 := RowsAt.below hA hb1
  have hB1 := RowsAt.below hB hb1
  clear hA hB
  go_region_held3 (fun w' => w'.cell? ⟨w.heap.size, 0, none⟩ = some (.slice A f.length ca) ∧ w'.cell? ⟨w.heap.size, 1, none⟩ = some (.slice B s.length cb)) ((((try go_split_ands); (repeat' (apply And.intro)) <;> (repeat (first | (with_reducible assumption) | (with_reducible refine cell_drew ?_) | (with_reducible refine cell_alloc _ ?_) | (with_reducible refine cell_below' (by with_reducible assumption) ?_) | (with_reducible refine cell_far ?_ ?_; focus (first | omega | (simp; omega) | (simp; done)))))))) (first
    | (go_at_call 58; (with_reducible refine (HC1.out _ ?_).mono ?_); (focus (exact RowsAt.below hA1 (by repeat (first | assumption | exact Below.refl _ _ | refine Below.drew ?_ | (refine below_alloc _ ?_ ?_; focus (first | omega | (simp; done) | (simp; omega) | (simp at *; omega))) | (refine below_set _ ?_ ?_; focus (first | omega | (simp; done) | (simp; omega) | (simp at *; omega))) | refine below_drewN ?_ _ | (refine below_call (by assumption) ?_ ?_; focus (first | omega | (simp; done) | (simp; omega) | (simp at *; omega))) | (refine below_call' (by assumption) ?_ ?_; focus (first | omega | (simp; done) | (simp; omega) | (simp at *; omega))))))); rintro e w4 ⟨A4, c4, rfl, own4, hb4⟩; (have z0a : w4.cell? ⟨w.heap.size + 1, 0, none⟩ = some (.slice none 0 0) := cell_below' hb4 (show _ from z0)); (have z1a : w4.cell? ⟨w.heap.size + 1, 1, none⟩ = some (.slice none 0 0) := cell_below' hb4 (show _ from z1)); (have zz4 : w.heap.size + 1 < w4.heap.size := World.block_lt_of_cell? _ _ z0a); (have f0a : w4.frozen? ⟨w.heap.size + 1, 0, none⟩ = false := frozen_below hb4 zz (by simpa using zf0)); (have f1a : w4.frozen? ⟨w.heap.size + 1, 1, none⟩ = false := frozen_below hb4 zz (by simpa using zf1)))
    | (go_at_call 58; (with_reducible refine (HC2.out _ ?_).mono ?_); (focus (exact RowsAt.below hB1 (by repeat (first | assumption | exact Below.refl _ _ | refine Below.drew ?_ | (refine below_alloc _ ?_ ?_; focus (first | omega | (simp; done) | (simp; omega) | (simp at *; omega))) | (refine below_set _ ?_ ?_; focus (first | omega | (simp; done) | (simp; omega) | (simp at *; omega))) | refine below_drewN ?_ _ | (refine below_call (by assumption) ?_ ?_; focus (first | omega | (simp; done) | (simp; omega) | (simp at *; omega))) | (refine below_call' (by assumption) ?_ ?_; focus (first | omega | (simp; done) | (simp; omega) | (simp at *; omega))))))); rintro e w5 ⟨A5, c5, rfl, own5, hb5⟩; (have z0b : w5.cell? ⟨w.heap.size + 1, 0, none⟩ = some (.slice none 0 0) := cell_below' hb5 (show _ from z0a)); (have z1b : w5.cell? ⟨w.heap.size + 1, 1, none⟩ = some (.slice none 0 0) := cell_below' hb5 (show _ from z1a)); (have zz5 : w.heap.size + 1 < w5.heap.size := World.block_lt_of_cell? _ _ z0b); (have f0b : w5.frozen? ⟨w.heap.size + 1, 0, none⟩ = false := frozen_below hb5 zz4 (by simpa using f0a)); (have f1b : w5.frozen? ⟨w.heap.size + 1, 1, none⟩ = false := frozen_below hb5 zz4 (by simpa using f1a))))
  have q1 : w1.heap.size ≤ w4.heap.size := hb4.size
  have r4 := own_below own4 hb5
  have F4 : GsAt ((w5.setCell ⟨w.heap.size + 1, 0, none⟩ (.slice A4 f.length c4)).setCell ⟨w.heap.size + 1, 1, none⟩ (.slice A5 s.length c5)) A4 f := rowsAt_of_own (ownsRow_setCell_below (ownsRow_setCell_below r4 (show w.heap.size + 1 < _ from zz) _) (show w.heap.size + 1 < _ from zz) _) rfl (by decide)
  have F5 : GsAt ((w5.setCell ⟨w.heap.size + 1, 0, none⟩ (.slice A4 f.length c4)).setCell ⟨w.heap.size + 1, 1, none⟩ (.slice A5 s.length c5)) A5 s := rowsAt_of_own (ownsRow_setCell_below (ownsRow_setCell_below own5 (show w.heap.size + 1 < _ from zz4) _) (show w.heap.size + 1 < _ from zz4) _) rfl (by decide)
  have hbw : Below w.heap.size w w5 := (by repeat (first | assumption | exact Below.refl _ _ | refine Below.drew ?_ | (refine below_alloc _ ?_ ?_; focus (first | omega | (simp; done) | (simp; omega) | (simp at *; omega))) | (refine below_set _ ?_ ?_; focus (first | omega | (simp; done) | (simp; omega) | (simp at *; omega))) | refine below_drewN ?_ _ | (refine below_call (by assumption) ?_ ?_; focus (first | omega | (simp; done) | (simp; omega) | (simp at *; omega))) | (refine below_call' (by assumption) ?_ ?_; focus (first | omega | (simp; done) | (simp; omega) | (simp at *; omega)))))
  go_wp2_with (fail)
  obtain ⟨u0, u1⟩ := set2 (v0 := .slice A4 f.length c4) (v1 := .slice A5 s.length c5) z0b z1b
  refine bodyPost_ret (v := .agg #[.slice A4 f.length c4, .slice A5 s.length c5]) (by simp [results, Tryz.results16, go_sem, u0, u1]) rfl ?_
  exact ⟨A4, c4, A5, c5, rfl, F4, F5, below_set _ (by simp) (below_set _ (by simp) hbw)⟩
end Go.Proofs.YtppghnbabnhnbaaGreatDoor
