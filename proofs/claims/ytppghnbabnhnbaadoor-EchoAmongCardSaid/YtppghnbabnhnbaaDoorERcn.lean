/-
  Chapter 2: the reference's readings that contradict each other; ranges that are alike.
-/
import Derived.Test.YtppghnbabnhnbaaDoorECon
import Derived.Test.YtppghnbabnhnbaaDoorERng
namespace Go.Proofs.YtppghnbabnhnbaaDoor
open Go.ChangeShapes Go.WideShapes Go.ChangeAt Go.RowKit
set_option linter.unusedVariables false
set_option linter.unusedSimpArgs false

set_option maxHeartbeats 1000000 in
theorem Ranges_refl (A B : Option Addr) (l : List Gs) (ca cb : Nat) (w : World) (hl : l.length ≤ 1000) (hA : GsAt w A l) (hB : GsAt w B l) :
    Calls Tryd.prog 79 #[.slice A l.length ca, .slice B l.length cb] w fun e w' => e = .returned (.bool true) ∧ Below w.heap.size w w' := by
  go_enter Tryd.func79, Tryd.ntmps79
  go_wp2
  go_loopw [5] (fun i wr => ∃ k : Nat, k ≤ l.length ∧ i = .int .i64 k ∧ Below w.heap.size w wr) (fun i _ => l.length - (intOf i).toNat)
  case atStart => exact ⟨0, Nat.zero_le _, rfl, Below.refl _ _⟩
  case round =>
    obtain ⟨k, hk, rfl, hbw⟩ := hrel
    have hAr := RowsAt.below hA hbw
    have hBr := RowsAt.below hB hbw
    by_cases hlt : k < l.length
    · obtain ⟨b1, o1, rfl, hb1, c0, c1⟩ := GsAt.at_ hAr hlt
      obtain ⟨b2, o2, rfl, hb2, d0, d1⟩ := GsAt.at_ hBr hlt
      generalize l[k] = p at *
      go_wp2
      go_quiet (fail)
      go_wp2
      go_roundw
      case rel => exact ⟨k + 1, by omega, by go_num, (by repeat (first | assumption | exact Below.refl _ _ | refine Below.drew ?_ | (refine below_alloc _ ?_ ?_; focus (first | omega | (simp; done) | (simp; omega) | (simp at *; omega))) | (refine below_set _ ?_ ?_; focus (first | omega | (simp; done) | (simp; omega) | (simp at *; omega))) | refine below_drewN ?_ _ | (refine below_call (by assumption) ?_ ?_; focus (first | omega | (simp; done) | (simp; omega) | (simp at *; omega))) | (refine below_call' (by assumption) ?_ ?_; focus (first | omega | (simp; done) | (simp; omega) | (simp at *; omega)))))⟩
      case measure => simp [intOf]; omega
    · go_wp2
      go_ret
      exact ⟨rfl, (by repeat (first | assumption | exact Below.refl _ _ | refine Below.drew ?_ | (refine below_alloc _ ?_ ?_; focus (first | omega | (simp; done) | (simp; omega) | (simp at *; omega))) | (refine below_set _ ?_ ?_; focus (first | omega | (simp; done) | (simp; omega) | (simp at *; omega))) | refine below_drewN ?_ _ | (refine below_call (by assumption) ?_ ?_; focus (first | omega | (simp; done) | (simp; omega) | (simp at *; omega))) | (refine below_call' (by assumption) ?_ ?_; focus (first | omega | (simp; done) | (simp; omega) | (simp at *; omega)))))⟩
theorem subUp_app : ∀ (a b : List Rd) (m i : Nat), subUp (a ++ b) m i = subUp a m i ++ subUp b m (i + a.length)
  | [], b, m, i => rfl
  | x :: a, b, m, i => by
    rw [List.cons_append, subUp, subUp, subUp_app a b m (i + 1), List.length_cons, show i + 1 + a.length = i + (a.length + 1) by omega]
    cases m.testBit i
    · rfl
    · rfl
/-- the readings of a set, of the first k -/
def subK (l : List Rd) (m k : Nat) : List Rd := subUp (l.take k) m 0
theorem subK_succ {l : List Rd} {m k : Nat} (h : k < l.length) : subK l m (k + 1) = if m.testBit k then subK l m k ++ [l[k]] else subK l m k := by
  unfold subK
  rw [List.take_succ_eq_append_getElem h, subUp_app, List.length_take, Nat.min_eq_left (Nat.le_of_lt h), Nat.zero_add]
  show _ ++ (if m.testBit k then l[k] :: subUp [] m (k + 1) else subUp [] m (k + 1)) = _
  cases m.testBit k
  · exact List.append_nil _
  · rfl
theorem subUp_len : ∀ (l : List Rd) (m i : Nat), (subUp l m i).length ≤ l.length
  | [], m, i => Nat.le_refl _
  | x :: a, m, i => by
    have := subUp_len a m (i + 1)
    rw [subUp]
    cases m.testBit i
    · rw [if_neg (by decide), List.length_cons]; omega
    · rw [if_pos rfl, List.length_cons, List.length_cons]; omega
theorem subUp_mem : ∀ (l : List Rd) (m i : Nat) (x : Rd), x ∈ subUp l m i → x ∈ l
  | [], m, i, x, h => h
  | y :: a, m, i, x, h => by
    rw [subUp] at h
    cases hb : m.testBit i
    · rw [hb, if_neg (by decide)] at h
      exact List.mem_cons_of_mem _ (subUp_mem a m (i + 1) x h)
    · rw [hb, if_pos rfl] at h
      rcases List.mem_cons.1 h with rfl | h
      · exact List.mem_cons_self
      · exact List.mem_cons_of_mem _ (subUp_mem a m (i + 1) x h)
theorem subK_len (l : List Rd) (m k : Nat) : (subK l m k).length ≤ k := Nat.le_trans (subUp_len _ _ _) (by rw [List.length_take]; omega)
theorem subK_all (l : List Rd) (m : Nat) : subK l m l.length = subUp l m 0 := by unfold subK; rw [List.take_length]
theorem rem_bit (m k : Nat) (hm : m ≤ 256) : ((((m : Int) / 2 ^ k).tmod 2) == 1) = m.testBit k ∧ 0 ≤ ((m : Int) / 2 ^ k).tmod 2 ∧ ((m : Int) / 2 ^ k).tmod 2 ≤ 1 := by
  have e : (m : Int) / 2 ^ k = ((m / 2 ^ k : Nat) : Int) := by simp
  rw [e, Nat.testBit_eq_decide_div_mod_eq, Int.tmod_eq_emod_of_nonneg (Int.natCast_nonneg (m / 2 ^ k))]
  clear e
  generalize m / 2 ^ k = q at *
  refine ⟨?_, by omega, by omega⟩
  by_cases h : q % 2 = 1
  · rw [decide_eq_true h]; simp; omega
  · rw [decide_eq_false h]; simp; omega
theorem newsRd {w : World} {vb : Nat} {x : Rd} (hv : w.heap[vb]? = some (.cells #[.int .i64 x.s, .int .i64 x.p, .int .i64 x.e] 34)) : ∀ j u, [Value.int .i64 x.s, .int .i64 x.p, .int .i64 x.e][j]? = some u → w.cell? ((⟨vb, 0, none⟩ : Addr).add j) = some u := fun j u hu => by
  rw [Addr.add_lit, Nat.zero_add]
  exact blk_cell hv (by simpa using hu)
/-- two rows lie in different blocks -/
def Apart (u v : Value) : Prop := ∀ x, u.ownBlock = some x → v.ownBlock ≠ some x
theorem Apart.symm {u v : Value} (h : Apart u v) : Apart v u := fun x a b => h x b a
theorem Apart.row {u v : Value} (h : Apart u v) : u.ownBlock = none ∨ u.ownBlock ≠ v.ownBlock := by
  cases hu : u.ownBlock with
  | none => exact .inl rfl
  | some x => exact .inr fun e => h x hu e.symm
theorem Apart.grow {u v v' : Value} {z : Nat} (h : Apart u v) (h3 : v'.ownBlock = v.ownBlock ∨ v'.ownBlock = some z) (hz : ∀ k, u.ownBlock = some k → k < z) : Apart u v' := fun x hx e => by
  rcases h3 with h3 | h3
  · exact h x hx (h3 ▸ e)
  · rw [h3] at e
    have := hz x hx
    injection e with e
    omega
theorem apart_nil (v : Value) : Apart (.slice none 0 0) v := fun x h => by cases h
/-- the best set, or none -/
def RconQ (l : List Rd) (w : World) (e : Ending) (w' : World) : Prop := (bestA l = none ∧ e = .returned (.tuple #[.slice none 0 0, .bool false]) ∨ ∃ b a c', bestA l = some b ∧ e = .returned (.tuple #[.slice a b.length c', .bool true]) ∧ IntsAt w' a b) ∧ Below w.heap.size w w'
set_option maxRecDepth 100000 in
set_option maxHeartbeats 8000000 in
theorem RContradicting_any (A : Option Addr) (l : List Rd) (ca : Nat) (w : World) (hl : l.length ≤ 8) (hok : ∀ x ∈ l, OkRd x) (hA : RdsAt w A l) :
    Calls Tryd.prog 81 #[.slice A l.length ca] w (RconQ l w) := by
  obtain ⟨i0, hi0, hz0, hz1, hz2⟩ := infoInt_
  obtain ⟨i1, hi1, hz3, hz4, hz5⟩ := infoRd_
  have HI := Lib.hid hi0
  have HZ0 := Lib.hid hz0
  have HZ1 := Lib.hid hz1
  have HZ2 := Lib.hid hz2
  have HI1 := Lib.hid hi1
  have HZ3 := Lib.hid hz3
  have HZ4 := Lib.hid hz4
  have HZ5 := Lib.hid hz5
  have HCD := Lib.hid (fun (m : Nat) (A1 : Option Addr) (c1 : Nat) (W : World) (h : RdsAt W A1 (subK l m l.length)) => RCandidates_any A1 (subK l m l.length) c1 W (Nat.le_trans (subK_len l m l.length) hl) (fun x hx => hok x (by rw [subK_all] at hx; exact subUp_mem l m 0 x hx)) h)
  have HCS := Lib.hid (fun (m : Nat) => show candS l m = candA (subK l m l.length) by rw [subK_all, candS_eq])
  have HBS := Lib.hid (bestK_succ l)
  have HBL := Lib.hid (bestK_len l)
  have HIL := Lib.hid (fun m => idxS_len m l.length)
  have HB1 : Hid (bestK l 1 = none) := Lib.hid (bestK_one l)
  have HBA : Hid (bestA l = bestK l (2 ^ l.length)) := Lib.hid rfl
  have HIX := Lib.hid idxS_succ
  have HSU := Lib.hid (fun (m k : Nat) (h : k < l.length) => subK_succ (m := m) h)
  have HSL := Lib.hid (subK_len l)
  have HXL := Lib.hid idxS_len
  obtain ⟨pw1, pw2⟩ := pow_bd hl
  have hli : (l.length : Int) ≤ 8 := by omega
  clear hi0 hz0 hz1 hz2 hi1 hz3 hz4 hz5 hok
  obtain ⟨N, hNe⟩ : ∃ N : Nat, N = 2 ^ l.length := ⟨_, rfl⟩
  have HNE := Lib.hid hNe
  have hN0 : ((2 : Int) ^ l.length) = (N : Int) := by rw [hNe]; simp
  rw [← hNe] at pw1 pw2
  have hNI : (N : Int) ≤ 256 := by omega
  have hwr : IntKind.i64.wrap (N : Int) = (N : Int) := by
    unfold IntKind.wrap IntKind.bits IntKind.signed
    simp
    omega
  clear hNe
  go_enter Tryd.func81, Tryd.ntmps81
  go_wp2_with (fail)
  go_loopw [4, 5, 6] (fun o f i wr => ∃ (m : Nat), 1 ≤ m ∧ m ≤ N ∧ i = .int .i64 m ∧ ((bestK l m = none ∧ o = .slice none 0 0 ∧ f = .bool false) ∨ ∃ b a c', bestK l m = some b ∧ o = .slice a b.length c' ∧ f = .bool true ∧ IntsAt wr a b) ∧ Below w.heap.size w wr) (fun _ _ i _ => N - (intOf i).toNat)
  case atStart => exact ⟨1, Nat.le_refl _, pw1, rfl, .inl ⟨HB1.out, rfl, rfl⟩, Below.refl _ _⟩
  case round =>
    obtain ⟨m, hm0, hm, rfl, hv, hbr⟩ := hrel
    obtain ⟨wo, rfl⟩ : ∃ wo : World, wo = wr := ⟨_, rfl⟩
    have hAo := RowsAt.below hA hbr
    by_cases hlt : m < N
    · have hmI : (m : Int) < (N : Int) := by omega
      have HV := Lib.hid hv
      clear hv
      have hbf := fun k => rem_bit m k (by omega)
      have HBF := Lib.hid hbf
      clear hbf
      go_wp2_with (fail)
      go_loopw [7, 8, 9] (fun s o i wx => ∃ (k : Nat) (A' : Option Addr) (c' : Nat) (B' : Option Addr) (d' : Nat), k ≤ l.length ∧ i = .int .i64 k ∧ s = .slice A' (subK l m k).length c' ∧ o = .slice B' (idxS m k).length d' ∧ wx.ownsRow wo.heap.size 34 3 (.slice A' (subK l m k).length c') (subK l m k).length (cellsOf 3 rdC (subK l m k)) ∧ wx.ownsRow wo.heap.size 3 1 (.slice B' (idxS m k).length d') (idxS m k).length (cellsOf 1 intC (idxS m k)) ∧ Apart (.slice A' (subK l m k).length c') (.slice B' (idxS m k).length d') ∧ Below wo.heap.size wo wx) (fun _ _ i _ => l.length - (intOf i).toNat)
      case atStart => exact ⟨0, none, 0, none, 0, Nat.zero_le _, rfl, rfl, rfl, World.ownsRow_nil _ _ _ _, World.ownsRow_nil _ _ _ _, apart_nil _, Below.refl _ _⟩
      case round =>
        obtain ⟨k, A', c', B', d', hk, rfl, rfl, rfl, ownA, ownB, hap, hbx⟩ := hrel
        obtain ⟨wi, rfl⟩ : ∃ wi : World, wi = wr := ⟨_, rfl⟩
        have OWA := Lib.hid ownA
        have OWB := Lib.hid ownB
        have HAP := Lib.hid hap
        have hs8 := HSL.out m k
        have hx8 := HXL.out m k
        have zx : wo.heap.size ≤ wi.heap.size := hbx.size
        clear ownA ownB hap
        by_cases hkl : k < l.length
        · have hkI : (k : Int) < (l.length : Int) := by omega
          obtain ⟨hbf, hb0, hb2⟩ := HBF.out k
          have hst := HSU.out m k hkl
          have hxt := HIX.out m k
          obtain ⟨b1, o1, rfl, hb1, c0, c1, c2⟩ := RdsAt.at_ (RowsAt.below hAo hbx) hkl
          generalize l[k] = r at *
          cases hbit : m.testBit k
          · rw [hbit] at hbf hst hxt
            rw [if_neg (by decide)] at hst hxt
            have HST := Lib.hid hst
            have HXT := Lib.hid hxt
            clear hst hxt hbit
            go_wp2_with (fail)
            go_roundw
            case rel => exact ⟨k + 1, A', c', B', d', by omega, by go_num, by rw [HST.out], by rw [HXT.out], by rw [HST.out]; exact OWA.out, by rw [HXT.out]; exact OWB.out, by rw [HST.out, HXT.out]; exact HAP.out, hbx⟩
            case measure => simp [intOf]; omega
          · rw [hbit] at hbf hst hxt
            rw [if_pos rfl] at hst hxt
            have HST := Lib.hid hst
            have HXT := Lib.hid hxt
            clear hst hxt hbit
            generalize subK l m k = sl at *
            generalize idxS m k = xl at *
            go_wp2_with (at_builtin; first
              | (refine wpList_append_rows _ rfl (.tmp 28) (.tmp 33) 29 rfl wo.heap.size 34 i1 (.agg #[.int .i64 0, .int .i64 0, .int .i64 0]) 3 24 Tryd.underlying29 HI1.out HZ3.out HZ4.out HZ5.out rfl (by decide) A' sl.length c' (cellsOf 3 rdC sl) rfl (World.ownsRow.alloc OWA.out _) (some ⟨_, 0, none⟩) 1 1 [.int .i64 r.s, .int .i64 r.p, .int .i64 r.e] rfl rfl (fun h => by cases h) (fun ad h => by cases h; exact newsRd (x := r) (blk_new rfl)) (fun u hu => by simp at hu; rcases hu with rfl | rfl | rfl <;> rfl) (by unfold maxLen; omega) (by omega) (by simp; omega) ?_; intro A2 c2' w3 h1 h2 h3
                 have q1 : w3.ownsRow wo.heap.size 3 1 (.slice B' xl.length d') xl.length (cellsOf 1 intC xl) := (World.ownsRow.alloc OWB.out _).kept h2 HAP.out.symm.row
                 have q2 : Apart (.slice B' xl.length d') (.slice A2 (sl.length + 1) c2') := HAP.out.symm.grow h3 fun k hk => Nat.lt_of_lt_of_le (World.ownsRow.lt OWB.out k hk).2 (by simp)
                 have q3 : Below wo.heap.size wo w3 := below_own (below_alloc _ (Nat.le_refl _) hbx) h2 (World.ownsRow.alloc OWA.out _) (Nat.le_refl _) (by simp; omega)
                 have q4 : wo.heap.size ≤ w3.heap.size := q3.size
                 have Q := Lib.hid h1
                 have Q1 := Lib.hid q1
                 have Q2 := Lib.hid q2
                 clear h1 h2 h3 q1 q2 OWA OWB HAP)
              | (refine wpList_append_rows _ rfl (.tmp 35) (.tmp 37) 22 rfl wo.heap.size 3 i0 (.int .i64 0) 1 8 Tryd.underlying22 HI.out HZ0.out HZ1.out HZ2.out rfl (by decide) B' xl.length d' (cellsOf 1 intC xl) rfl (World.ownsRow.alloc Q1.out _) (some ⟨_, 0, none⟩) 1 1 [.int .i64 k] rfl rfl (fun h => by cases h) (fun ad h => by cases h; exact newsI (blk_new rfl)) (fun u hu => by simp at hu; subst hu <;> rfl) (by unfold maxLen; omega) (by omega) (by simp; omega) ?_; intro B2 d2' w4 h1 h2 h3))
            have r1 : w4.ownsRow wo.heap.size 34 3 (.slice A2 (sl.length + 1) c2') (sl.length + 1) (cellsOf 3 rdC sl ++ [.int .i64 r.s, .int .i64 r.p, .int .i64 r.e]) := (World.ownsRow.alloc Q.out _).kept h2 Q2.out.symm.row
            have r2 : Apart (.slice A2 (sl.length + 1) c2') (.slice B2 (xl.length + 1) d2') := Q2.out.symm.grow h3 fun k hk => Nat.lt_of_lt_of_le (World.ownsRow.lt Q.out k hk).2 (by simp)
            have r3 : Below wo.heap.size wo w4 := below_own (below_alloc _ (Nat.le_refl _) q3) h2 (World.ownsRow.alloc Q1.out _) (Nat.le_refl _) (by simp; omega)
            have hL1 : (subK l m (k + 1)).length = sl.length + 1 := by rw [HST.out]; simp
            have hL2 : (idxS m (k + 1)).length = xl.length + 1 := by rw [HXT.out]; simp
            have HL1 := Lib.hid hL1
            have HL2 := Lib.hid hL2
            have H1 : Hid (w4.ownsRow wo.heap.size 34 3 (.slice A2 (subK l m (k + 1)).length c2') (subK l m (k + 1)).length (cellsOf 3 rdC (subK l m (k + 1)))) := Lib.hid (by rw [hL1, HST.out, cellsOf_append]; exact r1)
            have H2 : Hid (w4.ownsRow wo.heap.size 3 1 (.slice B2 (idxS m (k + 1)).length d2') (idxS m (k + 1)).length (cellsOf 1 intC (idxS m (k + 1)))) := Lib.hid (by rw [hL2, HXT.out, cellsOf_append]; exact h1)
            have H3 : Hid (Apart (.slice A2 (subK l m (k + 1)).length c2') (.slice B2 (idxS m (k + 1)).length d2')) := Lib.hid (by rw [hL1, hL2]; exact r2)
            clear h1 h2 h3 r1 r2 Q Q1 Q2 hL1 hL2 q3 q4
            go_wp2_with (fail)
            go_roundw
            case rel => exact ⟨k + 1, A2, c2', B2, d2', by omega, by go_num, by rw [HL1.out], by rw [HL2.out], H1.out, H2.out, H3.out, r3⟩
            case measure => simp [intOf]; omega
        · obtain rfl : k = l.length := by omega
          have hR : RdsAt wi A' (subK l m l.length) := rowsAt_of_own OWA.out rfl (by decide)
          have hI : IntsAt wi B' (idxS m l.length) := rowsAt_of_own OWB.out rfl (by decide)
          have HC := Lib.hid (HCD.out m A' c' wi hR)
          have hil := HIL.out m
          have hst := HBS.out m
          have hne := HBL.out (m + 1)
          have hbr2 : Below w.heap.size w wi := hbr.trans (hbx.mono hbr.size)
          have HBX := Lib.hid hbx
          rw [← HCS.out] at HC
          have HR := Lib.hid hR
          clear hR HCD HCS hbx hbr OWA OWB HAP HBF HSU HIX HSL HXL HI1 HZ3 HZ4 HZ5 HI HZ0 HZ1 HZ2 HIL HBS hAo
          generalize subK l m l.length = sl at *
          generalize hxx : idxS m l.length = x at *
          clear hxx
          have hnl : ([] : List Int).length = 0 := rfl
          cases hce : (candS l m).isEmpty
          · have hle : ((((candS l m).length : Nat) : Int) == 0) = false := by
              rw [beq_eq_false_iff_ne]
              cases hcs : candS l m with
              | nil => rw [hcs] at hce; cases hce
              | cons a r => simp; omega
            have hle2 : ((candS l m).length == 0) = false := by
              cases hcs : candS l m with
              | nil => rw [hcs] at hce; cases hce
              | cons a r => rfl
            have hle3 : decide (candS l m = []) = false := by
              cases hcs : candS l m with
              | nil => rw [hcs] at hce; cases hce
              | cons a r => rfl
            rw [hce, Bool.false_and, if_neg (by decide)] at hst
            have HST := Lib.hid hst
            clear hce hst hne
            generalize candS l m = cs at *
            go_wp2_with (fail)
            refine HC.out.mono ?_
            rintro e w4 ⟨A4, c4, rfl, hI4, hb4⟩
            have hbr4 := hbr2.trans (hb4.mono hbr2.size)
            have hb34 := HBX.out.trans (hb4.mono HBX.out.size)
            have HB34 := Lib.hid hb34
            clear HC HR hI4 hI hb4 hb34
            go_wp2_with (fail)
            refine ⟨⟨m + 1, by omega, by omega, by go_num, ?_, hbr4⟩, by simp [intOf]; omega⟩
            rcases HV.out with ⟨q1, rfl, rfl⟩ | ⟨b, a, c'', q1, rfl, rfl, q3⟩
            · exact .inl ⟨HST.out.trans q1, rfl, rfl⟩
            · exact .inr ⟨b, a, c'', HST.out.trans q1, rfl, rfl, RowsAt.below q3 HB34.out⟩
          · have hcn : candS l m = [] := by
              cases hcs : candS l m with
              | nil => rfl
              | cons a r => rw [hcs] at hce; cases hce
            rw [hce, Bool.true_and] at hst
            rw [hcn] at HC
            clear hce hcn
            rcases HV.out with ⟨q1, rfl, rfl⟩ | ⟨b, a, c'', q1, rfl, rfl, q3⟩
            · rw [q1] at hst
              have hst2 : bestK l (m + 1) = some x := hst
              have HST := Lib.hid hst2
              clear hst hst2 q1 hne HV
              go_wp2_with (fail)
              refine HC.out.mono ?_
              rintro e w4 ⟨A4, c4, rfl, hI4, hb4⟩
              have hbr4 := hbr2.trans (hb4.mono hbr2.size)
              have HI4 := Lib.hid (RowsAt.below hI hb4)
              clear HC HR hI4 hI hb4
              go_wp2_with (fail)
              exact ⟨⟨m + 1, by omega, by omega, by go_num, .inr ⟨x, B', d', HST.out, rfl, rfl, HI4.out⟩, hbr4⟩, by simp [intOf]; omega⟩
            · rw [q1] at hst
              obtain ⟨hbl, -⟩ := HBL.out m b q1
              have hbn : betB x (some b) = (decide (x.length < b.length) || (decide (x.length = b.length) && lexB x b)) := rfl
              have HBE := Lib.hid (fun (W : World) (h1 : IntsAt W B' x) (h2 : IntsAt W a b) => Before_any B' a x b d' c'' W (by omega) (by omega) h1 h2)
              clear HV
              by_cases hn1 : x.length < b.length
              · have e1 : decide ((x.length : Int) < (b.length : Int)) = true := decide_eq_true (by omega)
                have e1n : decide (x.length < b.length) = true := decide_eq_true (by omega)
                rw [hbn, e1n, Bool.true_or, if_pos rfl] at hst
                have HST := Lib.hid hst
                clear hst hbn q1 hne q3 HBE
                go_wp2_with (fail)
                refine HC.out.mono ?_
                rintro e w4 ⟨A4, c4, rfl, hI4, hb4⟩
                have hbr4 := hbr2.trans (hb4.mono hbr2.size)
                have HI4 := Lib.hid (RowsAt.below hI hb4)
                clear HC HR hI4 hI hb4
                go_wp2_with (fail)
                exact ⟨⟨m + 1, by omega, by omega, by go_num, .inr ⟨x, B', d', HST.out, rfl, rfl, HI4.out⟩, hbr4⟩, by simp [intOf]; omega⟩
              · have e1 : decide ((x.length : Int) < (b.length : Int)) = false := decide_eq_false (by omega)
                have e1n : decide (x.length < b.length) = false := decide_eq_false (by omega)
                rw [e1n, Bool.false_or] at hbn
                by_cases h2 : x.length = b.length
                · have e2 : ((x.length : Int) == (b.length : Int)) = true := by rw [beq_iff_eq]; omega
                  have e2n : (x.length == b.length) = true := by rw [beq_iff_eq]; omega
                  have e2d : decide (x.length = b.length) = true := decide_eq_true (by omega)
                  rw [e2d, Bool.true_and] at hbn
                  rw [hbn] at hst
                  have HST := Lib.hid hst
                  clear hst hbn q1 hne h2 hn1
                  generalize lexB x b = lb at *
                  go_wp2_with (fail)
                  refine HC.out.mono ?_
                  rintro e w4 ⟨A4, c4, rfl, hI4, hb4⟩
                  have hbr4 := hbr2.trans (hb4.mono hbr2.size)
                  have hI5 := RowsAt.below hI hb4
                  have hb34 := HBX.out.trans (hb4.mono HBX.out.size)
                  have q5 := RowsAt.below q3 hb34
                  clear HC HR hI4 hI hb4 hb34 q3 HBX
                  go_wp2_with (fail)
                  refine (HBE.out _ hI5 q5).mono ?_
                  rintro e w5 ⟨rfl, hb5⟩
                  have hbr5 := hbr4.trans (hb5.mono hbr4.size)
                  have HI6 := Lib.hid (RowsAt.below hI5 hb5)
                  have HQ6 := Lib.hid (RowsAt.below q5 hb5)
                  clear HBE hI5 q5 hb5
                  cases lb
                  · rw [if_neg (by decide)] at HST
                    go_wp2_with (fail)
                    exact ⟨⟨m + 1, by omega, by omega, by go_num, .inr ⟨b, a, c'', HST.out, rfl, rfl, HQ6.out⟩, hbr5⟩, by simp [intOf]; omega⟩
                  · rw [if_pos rfl] at HST
                    go_wp2_with (fail)
                    exact ⟨⟨m + 1, by omega, by omega, by go_num, .inr ⟨x, B', d', HST.out, rfl, rfl, HI6.out⟩, hbr5⟩, by simp [intOf]; omega⟩
                · have e2 : ((x.length : Int) == (b.length : Int)) = false := by rw [beq_eq_false_iff_ne]; omega
                  have e2n : (x.length == b.length) = false := by rw [beq_eq_false_iff_ne]; omega
                  have e2d : decide (x.length = b.length) = false := decide_eq_false (by omega)
                  rw [hbn, e2d, Bool.false_and, if_neg (by decide)] at hst
                  have HST := Lib.hid hst
                  have HX := Lib.hid h2
                  clear hst hbn q1 hne HBE
                  go_wp2_with (fail)
                  refine HC.out.mono ?_
                  rintro e w4 ⟨A4, c4, rfl, hI4, hb4⟩
                  have hbr4 := hbr2.trans (hb4.mono hbr2.size)
                  have hb34 := HBX.out.trans (hb4.mono HBX.out.size)
                  have HQ6 := Lib.hid (RowsAt.below q3 hb34)
                  clear HC HR hI4 hI hb4 hb34 q3 HBX
                  go_wp2_with (fail)
                  exact ⟨⟨m + 1, by omega, by omega, by go_num, .inr ⟨b, a, c'', HST.out, rfl, rfl, HQ6.out⟩, hbr4⟩, by simp [intOf]; omega⟩
    · obtain rfl : m = N := by omega
      have HBA2 := Lib.hid (HBA.out.trans (by rw [← HNE.out]))
      clear HCD HCS HBS HBL HIL HB1 HBA HIX HSU HSL HXL
      rcases hv with ⟨q1, rfl, rfl⟩ | ⟨b, a, c', q1, rfl, rfl, q3⟩
      · have HQ := Lib.hid (HBA2.out.trans q1)
        clear q1
        go_wp2_with (fail)
        go_ret2
        exact ⟨.inl ⟨HQ.out, rfl⟩, hbr⟩
      · have HQ := Lib.hid (HBA2.out.trans q1)
        clear q1
        go_wp2_with (fail)
        go_ret2
        exact ⟨.inr ⟨b, a, c', HQ.out, rfl, q3⟩, hbr⟩
end Go.Proofs.YtppghnbabnhnbaaDoor
