/-
  Chapter 2: the next spacing.
-/
import Derived.Test.YtlnbbioponmcfaaDoorECnd
namespace Go.Proofs.YtlnbbioponmcfaaDoor
open Go.ChangeShapes Go.WideShapes Go.ChangeAt Go.RowKit
set_option linter.unusedVariables false
set_option linter.unusedSimpArgs false

/-- the error of spacings -/
def spsE (l : List Int) : Int := firstE (l.map fun n => unl (withinB n (-360) 360) 2)
theorem spsE_cons (x : Int) (r : List Int) : spsE (x :: r) = if unl (withinB x (-360) 360) 2 = 0 then spsE r else unl (withinB x (-360) 360) 2 := rfl
theorem spsE_zero {l : List Int} (h : spsE l = 0) : ∀ x ∈ l, -360 ≤ x ∧ x ≤ 360 := by
  induction l with
  | nil => intro x hx; cases hx
  | cons y r ih =>
    rw [spsE_cons] at h
    cases hb : withinB y (-360) 360
    · rw [hb, unl_false, if_neg (by decide)] at h; cases h
    · rw [hb, unl_true, if_pos rfl] at h
      intro x hx
      rcases List.mem_cons.1 hx with rfl | hx
      · exact withinB_true.1 hb
      · exact ih h x hx
theorem eachI_any (A : Option Addr) (l : List Int) (cap : Nat) (w : World) (hl : l.length ≤ 1000) (hA : IntsAt w A l) :
    Calls Tryd.prog 39 #[.slice A l.length cap, .func (.func 40) #[] #[]] w fun e w' => e = .returned (.int .i64 (spsE l)) ∧ w = w' := by
  go_enter Tryd.func39, Tryd.ntmps39
  go_wp2_with (fail)
  go_loop [10] (fun i => ∃ k : Nat, k ≤ l.length ∧ i = .int .i64 k ∧ spsE l = spsE (l.drop k)) (fun i => l.length - (intOf i).toNat)
  case atStart => exact ⟨0, Nat.zero_le _, rfl, rfl⟩
  case round =>
    obtain ⟨k, hk, rfl, he⟩ := hrel
    have H := Lib.hid he
    clear he
    by_cases hlt : k < l.length
    · have hd : l.drop k = l[k] :: l.drop (k + 1) := List.drop_eq_getElem_cons hlt
      rw [hd, spsE_cons] at H
      clear hd
      obtain ⟨b1, o1, rfl, hb1, c0⟩ := IntsAt.at_ hA hlt
      have HS := Lib.hid (fun W => spacingErr_any l[k] W)
      generalize l[k] = g at *
      have hk1 : (k : Int) < (l.length : Int) := by omega
      generalize unl (withinB g (-360) 360) 2 = E at *
      by_cases hx : E = 0
      · rw [if_pos hx] at H
        rw [hx] at HS
        clear hx
        go_wp2_with (fail)
        refine (HS.out _).mono ?_
        rintro e w2 ⟨rfl, rfl⟩
        go_wp2_with (fail)
        exact ⟨⟨k + 1, by omega, by go_num, H.out⟩, by simp [intOf]; omega⟩
      · rw [if_neg hx] at H
        have e2 : (E != 0) = true := by simpa using hx
        clear hx
        go_wp2_with (fail)
        refine (HS.out _).mono ?_
        rintro e w2 ⟨rfl, rfl⟩
        go_wp2_with (fail)
        go_ret
        exact ⟨ret_int (by rw [H.out]), rfl⟩
    · have e : l.drop k = [] := List.drop_eq_nil_of_le (by omega)
      rw [e] at H
      clear e
      go_wp2_with (fail)
      go_ret
      exact ⟨ret_int (by rw [H.out]; rfl), rfl⟩
/-- two directions can't be told apart by a spacing -/
def near (s wr a b : Int) : Bool := decide (dstP (s * a) (s * b) ≤ wr)
def cntA (s wr a : Int) : List Int → Int
  | [] => 0
  | b :: r => (if near s wr a b then 1 else 0) + cntA s wr a r
theorem cntA_bd (s wr a : Int) : ∀ l : List Int, 0 ≤ cntA s wr a l ∧ cntA s wr a l ≤ l.length
  | [] => ⟨by simp [cntA], by simp [cntA]⟩
  | b :: r => by
    have := cntA_bd s wr a r
    rw [cntA, List.length_cons]
    split <;> omega
def wstGo (s wr : Int) (c : List Int) : List Int → Int → Int
  | [], m => m
  | a :: r, m => wstGo s wr c r (if m < cntA s wr a c then cntA s wr a c else m)
/-- the most candidates that a spacing leaves -/
def wst (s wr : Int) (c : List Int) : Int := wstGo s wr c c 0
theorem wstGo_bd (s wr : Int) (c : List Int) : ∀ (l : List Int) (m : Int), 0 ≤ m → m ≤ c.length → m ≤ wstGo s wr c l m ∧ wstGo s wr c l m ≤ c.length
  | [], m, h0, h1 => ⟨Int.le_refl _, h1⟩
  | a :: r, m, h0, h1 => by
    have hc := cntA_bd s wr a c
    rw [wstGo]
    by_cases h : m < cntA s wr a c
    · rw [if_pos h]
      have := wstGo_bd s wr c r (cntA s wr a c) (by omega) hc.2
      omega
    · rw [if_neg h]; exact wstGo_bd s wr c r m h0 h1
theorem wst_bd (s wr : Int) (c : List Int) : 0 ≤ wst s wr c ∧ wst s wr c ≤ c.length := wstGo_bd s wr c c 0 (by decide) (by omega)
def nxtGo (wr : Int) (c : List Int) : List Int → Int → Int → Int → Int × Int
  | [], _, b, m => (b, m)
  | s :: r, i, b, m => if wst s wr c < m then nxtGo wr c r (i + 1) i (wst s wr c) else nxtGo wr c r (i + 1) b m
def nxtRo (wr : Int) (c : List Int) : List Int → Int → Int → Int → Int × Int
  | [], _, b, m => (b, m)
  | s :: r, i, b, m => if m < 0 ∨ wst s wr c < m then nxtRo wr c r (i + 1) i (wst s wr c) else nxtRo wr c r (i + 1) b m
theorem nxtRo_eq (wr : Int) (c : List Int) : ∀ (l : List Int) (i b m : Int), 0 ≤ m → nxtRo wr c l i b m = nxtGo wr c l i b m
  | [], _, _, _, _ => rfl
  | s :: r, i, b, m, h => by
    have hw := wst_bd s wr c
    rw [nxtRo, nxtGo]
    by_cases h1 : wst s wr c < m
    · rw [if_pos h1, if_pos (.inr h1), nxtRo_eq wr c r _ _ _ hw.1]
    · rw [if_neg h1, if_neg (by omega), nxtRo_eq wr c r _ _ _ h]
/-- the spacing that leaves the fewest candidates, and how many -/
def nxt (wr : Int) (c sp : List Int) : Int × Int := nxtGo wr c sp 0 0 ((c.length : Int) + 1)
theorem nxt_ref {wr : Int} {c sp : List Int} (h : sp ≠ []) : nxtRo wr c sp 0 0 (-1) = nxt wr c sp := by
  cases sp with
  | nil => exact absurd rfl h
  | cons s r =>
    have hw := wst_bd s wr c
    unfold nxt
    rw [nxtRo, nxtGo, if_pos (.inl (by decide)), if_pos (by omega), nxtRo_eq wr c r _ _ _ hw.1]
theorem nxtGo_bd (wr : Int) (c : List Int) : ∀ (l : List Int) (i b m : Int), 0 ≤ b → b ≤ i → 0 ≤ m → 0 ≤ (nxtGo wr c l i b m).1 ∧ (nxtGo wr c l i b m).1 ≤ i + l.length ∧ 0 ≤ (nxtGo wr c l i b m).2 ∧ (nxtGo wr c l i b m).2 ≤ m
  | [], i, b, m, h1, h2, h3 => ⟨h1, by simp [nxtGo]; omega, h3, Int.le_refl _⟩
  | s :: r, i, b, m, h1, h2, h3 => by
    have hw := wst_bd s wr c
    rw [nxtGo]
    simp only [List.length_cons]
    by_cases h : wst s wr c < m
    · rw [if_pos h]
      have := nxtGo_bd wr c r (i + 1) i (wst s wr c) (by omega) (by omega) hw.1
      omega
    · rw [if_neg h]
      have := nxtGo_bd wr c r (i + 1) b m h1 (by omega) h3
      omega
def nextE (l : List Rd) (sp : List Int) (wr : Int) : Int := firstE [rdsE l, unl (decide (0 < sp.length)) 10, unl (decide (sp.length ≤ 20)) 8, spsE sp, unl (withinB wr 0 360) 2]
structure NxOk (l : List Rd) (sp : List Int) (wr : Int) : Prop where
  r : rdsE l = 0
  n0 : 0 < sp.length
  n1 : sp.length ≤ 20
  s : spsE sp = 0
  w0 : 0 ≤ wr
  w1 : wr ≤ 360
theorem nextE_zero {l : List Rd} {sp : List Int} {wr : Int} (h : nextE l sp wr = 0) : NxOk l sp wr := by
  unfold nextE at h
  by_cases h1 : rdsE l = 0
  · rw [h1, firstE_z] at h
    by_cases h2 : 0 < sp.length
    · rw [decide_eq_true h2, unl_true, firstE_z] at h
      by_cases h3 : sp.length ≤ 20
      · rw [decide_eq_true h3, unl_true, firstE_z] at h
        by_cases h4 : spsE sp = 0
        · rw [h4, firstE_z, firstE1] at h
          cases hb : withinB wr 0 360
          · rw [hb] at h; cases h
          · exact ⟨h1, h2, h3, h4, (withinB_true.1 hb).1, (withinB_true.1 hb).2⟩
        · rw [firstE_nz h4] at h; exact absurd h h4
      · rw [decide_eq_false h3, unl_false, firstE_nz (by decide)] at h; cases h
    · rw [decide_eq_false h2, unl_false, firstE_nz (by decide)] at h; cases h
  · rw [firstE_nz h1] at h; exact absurd h h1
def nextQ (l : List Rd) (sp : List Int) (wr : Int) : Int × Int × Int :=
  if nextE l sp wr = 0 then (if (candA l).length = 0 then (0, 0, 12) else ((nxt wr (candA l) sp).1, (nxt wr (candA l) sp).2, 0)) else (0, 0, nextE l sp wr)
set_option maxRecDepth 100000 in
set_option maxHeartbeats 4000000 in
theorem NextSpacing_any (A : Option Addr) (l : List Rd) (ca : Nat) (B : Option Addr) (sp : List Int) (cb : Nat) (wr : Int) (w : World) (hl : l.length ≤ 1000) (hsp : sp.length ≤ 1000) (hA : RdsAt w A l) (hB : IntsAt w B sp) :
    Calls Tryd.prog 17 #[.slice A l.length ca, .slice B sp.length cb, .int .i64 wr] w fun e w' => e = .returned (.tuple #[.int .i64 (nextQ l sp wr).1, .int .i64 (nextQ l sp wr).2.1, .int .i64 (nextQ l sp wr).2.2]) ∧ Below w.heap.size w w' := by
  have hq : nextQ l sp wr = if nextE l sp wr = 0 then (if (candA l).length = 0 then (0, 0, 12) else ((nxt wr (candA l) sp).1, (nxt wr (candA l) sp).2, 0)) else (0, 0, nextE l sp wr) := rfl
  have hE : nextE l sp wr = firstE [rdsE l, unl (decide (0 < sp.length)) 10, unl (decide (sp.length ≤ 20)) 8, spsE sp, unl (withinB wr 0 360) 2] := rfl
  have HRE := Lib.hid (fun W (h : RdsAt W A l) => readingsErr_any A l ca W hl h)
  have HEI := Lib.hid (fun W (h : IntsAt W B sp) => eachI_any B sp cb W hsp h)
  have HWI := Lib.hid (fun W => within_any wr 0 360 W)
  have e20 : decide ((sp.length : Int) ≤ 20) = decide (sp.length ≤ 20) := by by_cases h : sp.length ≤ 20 <;> simp [h] <;> omega
  by_cases h0 : nextE l sp wr = 0
  rotate_left 1
  · rw [if_neg h0] at hq
    have HQ := Lib.hid hq
    have HE := Lib.hid hE
    have e1 : (nextE l sp wr != 0) = true := by simpa using h0
    clear hq hE h0
    generalize nextE l sp wr = E at *
    generalize spsE sp = x4 at *
    generalize withinB wr 0 360 = b5 at *
    generalize rdsE l = x1 at *
    go_enter Tryd.func17, Tryd.ntmps17
    go_wp2_with (fail)
    refine (HRE.out _ hA).mono ?_
    rintro e w1 ⟨rfl, hb1⟩
    have hB1 := RowsAt.below hB hb1
    go_wp2_with (first | (go_at_call 28; refine (unless_any _ _ _).mono ?_; rintro e w' ⟨rfl, rfl⟩) | (go_at_call 39; with_reducible refine (HEI.out _ hB1).mono ?_; rintro e w' ⟨rfl, rfl⟩) | (go_at_call 32; with_reducible refine (HWI.out _).mono ?_; rintro e w' ⟨rfl, rfl⟩) | (go_at_call 27; refine (first5 _ _ _ _ _ _ _ (by simp) (cell_new (by simp) rfl) (cell_new (by simp) rfl) (cell_new (by simp) rfl) (cell_new (by simp) rfl) (cell_new (by simp) rfl)).mono ?_; rintro e w' ⟨rfl, rfl⟩; rw [← HE.out]))
    go_ret3
    rw [HQ.out]
    exact ⟨rfl, below_alloc _ (Nat.le_refl _) hb1⟩
  rw [if_pos h0] at hq
  rw [h0] at hE
  obtain ⟨r1, n0, n1, s1, w0, w1⟩ := nextE_zero h0
  rw [decide_eq_true n0, decide_eq_true n1] at hE
  obtain ⟨h8, hok⟩ := rdsE_zero r1
  have HSP := Lib.hid (spsE_zero s1)
  have HC := Lib.hid (fun W (h : RdsAt W A l) => candidates_any A l ca (2 ^ l.length - 1) W h8 (by have := pow_bd h8; omega) hok h)
  rw [candS_all] at HC
  have HV := Lib.hid (fun W => every_any l.length W h8)
  have hlen := candA_len l
  have hcb := @candA_bd l
  have HCB := Lib.hid hcb
  have HE := Lib.hid hE
  have HQ := Lib.hid hq
  clear hq hE h0 hok hcb r1 s1
  generalize candA l = c at *
  generalize spsE sp = x4 at *
  generalize withinB wr 0 360 = b5 at *
  generalize rdsE l = x1 at *
  go_enter Tryd.func17, Tryd.ntmps17
  go_wp2_with (fail)
  refine (HRE.out _ hA).mono ?_
  rintro e w1 ⟨rfl, hb1⟩
  have hB1 := RowsAt.below hB hb1
  have hA1 := RowsAt.below hA hb1
  go_wp2_with (first | (go_at_call 28; refine (unless_any _ _ _).mono ?_; rintro e w' ⟨rfl, rfl⟩) | (go_at_call 39; with_reducible refine (HEI.out _ hB1).mono ?_; rintro e w' ⟨rfl, rfl⟩) | (go_at_call 32; with_reducible refine (HWI.out _).mono ?_; rintro e w' ⟨rfl, rfl⟩) | (go_at_call 27; refine (first5 _ _ _ _ _ _ _ (by simp) (cell_new (by simp) rfl) (cell_new (by simp) rfl) (cell_new (by simp) rfl) (cell_new (by simp) rfl) (cell_new (by simp) rfl)).mono ?_; rintro e w' ⟨rfl, rfl⟩; rw [← HE.out]) | (go_at_call 38; with_reducible refine (HV.out _).mono ?_; rintro e w' ⟨rfl, rfl⟩))
  refine (HC.out _ (RowsAt.below hA1 (below_alloc _ (Nat.le_refl _) (Below.refl _ _)))).mono ?_
  rintro e w2 ⟨C, cc, rfl, hc, hb2⟩
  have hB2 := RowsAt.below hB1 ((below_alloc _ (Nat.le_refl _) (Below.refl _ _)).trans (hb2.mono (by simp)))
  have hb12 : Below w.heap.size w w2 := (below_alloc _ (Nat.le_refl _) hb1).trans (hb2.mono (by have := hb1.size; simp; omega))
  clear hb1 hb2 hA1 hB1 hA hB HRE HEI HWI HC HV HE
  by_cases hc0 : c.length = 0
  · have h3 := HQ.out.trans (if_pos hc0)
    have HQ3 := Lib.hid h3
    rw [hc0]
    clear hc0 h3 HQ
    go_wp2_with (fail)
    go_ret3
    rw [HQ3.out]
    exact ⟨rfl, hb12⟩
  have h3 := HQ.out.trans (if_neg hc0)
  have HQ3 := Lib.hid h3
  have hcp : 0 < c.length := by omega
  have ec0 : ((c.length : Int) == 0) = false := by rw [beq_eq_false_iff_ne]; omega
  have hnx : nxt wr c sp = nxtGo wr c sp 0 0 ((c.length : Int) + 1) := rfl
  have HNX := Lib.hid hnx
  clear hc0 h3 HQ hnx
  go_wp2_with (fail)
  go_loop [11, 12, 54] (fun b m i => ∃ (k : Nat) (bb mm : Int), k ≤ sp.length ∧ i = .int .i64 k ∧ b = .int .i64 bb ∧ m = .int .i64 mm ∧ 0 ≤ bb ∧ bb ≤ k ∧ 0 ≤ mm ∧ mm ≤ 200 ∧ nxt wr c sp = nxtGo wr c (sp.drop k) k bb mm) (fun _ _ i => sp.length - (intOf i).toNat)
  case atStart => exact ⟨0, 0, (c.length : Int) + 1, Nat.zero_le _, rfl, rfl, rfl, by decide, by decide, by omega, by omega, HNX.out⟩
  case round =>
    obtain ⟨k, bb, mm, hk, rfl, rfl, rfl, hb0, hbk, hm0, hm1, hgo⟩ := hrel
    have HGO := Lib.hid hgo
    clear hgo
    by_cases hkl : k < sp.length
    · obtain ⟨hs0, hs1⟩ := HSP.out _ (List.getElem_mem hkl)
      have hd2 : sp.drop k = sp[k] :: sp.drop (k + 1) := List.drop_eq_getElem_cons hkl
      rw [hd2, nxtGo] at HGO
      clear hd2
      obtain ⟨b2, o2, rfl, hb2', d0⟩ := IntsAt.at_ hB2 hkl
      generalize sp[k] = s at *
      have hws := wst_bd s wr c
      obtain ⟨hw0, hw1⟩ := hws
      have hwq : wst s wr c = wstGo s wr c c 0 := rfl
      have HW := Lib.hid hwq
      have hk1 : (k : Int) < (sp.length : Int) := by omega
      clear hwq
      go_wp2_with (fail)
      go_loop [15, 61] (fun m i => ∃ (j : Nat) (m2 : Int), j ≤ c.length ∧ i = .int .i64 j ∧ m = .int .i64 m2 ∧ 0 ≤ m2 ∧ m2 ≤ 200 ∧ wst s wr c = wstGo s wr c (c.drop j) m2) (fun _ i => c.length - (intOf i).toNat)
      case atStart => exact ⟨0, 0, Nat.zero_le _, rfl, rfl, by decide, by decide, HW.out⟩
      case round =>
        obtain ⟨j, m2, hj, rfl, rfl, hm20, hm21, hgw⟩ := hrel
        have HGW := Lib.hid hgw
        clear hgw
        by_cases hjl : j < c.length
        · obtain ⟨ha0, ha1⟩ := HCB.out _ (List.getElem_mem hjl)
          have hd3 : c.drop j = c[j] :: c.drop (j + 1) := List.drop_eq_getElem_cons hjl
          rw [hd3, wstGo] at HGW
          clear hd3
          have hca := IntsAt.at_ hc hjl
          generalize c[j] = a at *
          obtain ⟨b3, o3, rfl, hb3', f0⟩ := hca
          have hcq := cntA_bd s wr a c
          obtain ⟨hc0, hc1⟩ := hcq
          have hj1 : (j : Int) < (c.length : Int) := by omega
          obtain ⟨q0, q1⟩ := mul_bd hs0 hs1 ha0 ha1
          go_wp2_with (fail)
          go_loop [18, 67] (fun n i => ∃ (t : Nat) (n2 : Int), t ≤ c.length ∧ i = .int .i64 t ∧ n = .int .i64 n2 ∧ 0 ≤ n2 ∧ n2 ≤ t ∧ cntA s wr a c = n2 + cntA s wr a (c.drop t)) (fun _ i => c.length - (intOf i).toNat)
          case atStart => exact ⟨0, 0, Nat.zero_le _, rfl, rfl, by decide, by decide, by simp⟩
          case round =>
            obtain ⟨t, n2, ht, rfl, rfl, hn20, hn21, hgc⟩ := hrel
            have HGC := Lib.hid hgc
            clear hgc
            by_cases htl : t < c.length
            · obtain ⟨hx0, hx1⟩ := HCB.out _ (List.getElem_mem htl)
              have hd4 : c.drop t = c[t] :: c.drop (t + 1) := List.drop_eq_getElem_cons htl
              rw [hd4, cntA] at HGC
              clear hd4
              have hcx := IntsAt.at_ hc htl
              generalize c[t] = x at *
              obtain ⟨b4, o4, he4, hb4', g0⟩ := hcx
              have ht1 : (t : Int) < (c.length : Int) := by omega
              obtain ⟨z0, z1⟩ := mul_bd hs0 hs1 hx0 hx1
              obtain ⟨rfl, rfl⟩ : b3 = b4 ∧ o3 = o4 := by simpa using he4
              have HDI := Lib.hid (fun W => distance_any (s * a) (s * x) W (by omega) (by omega) (by omega) (by omega))
              have hnq : near s wr a x = decide (dstP (s * a) (s * x) ≤ wr) := rfl
              clear he4
              generalize dstP (s * a) (s * x) = dd at *
              cases hnb : near s wr a x
              · rw [hnb] at hnq HGC
                rw [if_neg (by decide), Int.zero_add] at HGC
                have e9 : decide (dd ≤ wr) = false := hnq.symm
                clear hnq hnb
                go_wp2_with (fail)
                refine (HDI.out _).mono ?_
                rintro e w' ⟨rfl, rfl⟩
                go_wp2_with (fail)
                exact ⟨⟨t + 1, n2, by omega, by go_num, rfl, hn20, by omega, HGC.out⟩, by simp [intOf]; omega⟩
              · rw [hnb] at hnq HGC
                rw [if_pos rfl, ← Int.add_assoc] at HGC
                have e9 : decide (dd ≤ wr) = true := hnq.symm
                clear hnq hnb
                go_wp2_with (fail)
                refine (HDI.out _).mono ?_
                rintro e w' ⟨rfl, rfl⟩
                go_wp2_with (fail)
                exact ⟨⟨t + 1, n2 + 1, by omega, by go_num, rfl, by omega, by omega, HGC.out⟩, by simp [intOf]; omega⟩
            · have hd4 : c.drop t = [] := List.drop_eq_nil_of_le (by omega)
              rw [hd4, cntA, Int.add_zero] at HGC
              rw [HGC.out] at HGW hc0 hc1
              have htl2 : c.length ≤ t := by omega
              clear hd4 HGC
              go_wp2_with (fail)
              all_goals
                exact ⟨⟨j + 1, _, by omega, by go_num, rfl, by omega, by omega, by first | exact HGW.out | exact HGW.out.trans (congrArg (wstGo s wr c _) (if_pos (by omega))) | exact HGW.out.trans (congrArg (wstGo s wr c _) (if_neg (by omega)))⟩, by simp [intOf]; omega⟩
        · have hd3 : c.drop j = [] := List.drop_eq_nil_of_le (by omega)
          rw [hd3, wstGo] at HGW
          have hjl2 : c.length ≤ j := by omega
          rw [HGW.out] at HGO hw0 hw1
          clear hd3 HGW HW
          by_cases hlt : m2 < mm
          · rw [if_pos hlt] at HGO
            go_wp2_with (fail)
            exact ⟨⟨k + 1, k, m2, by omega, by go_num, rfl, rfl, by omega, by omega, by omega, by omega, HGO.out⟩, by simp [intOf]; omega⟩
          · rw [if_neg hlt] at HGO
            go_wp2_with (fail)
            exact ⟨⟨k + 1, bb, mm, by omega, by go_num, rfl, rfl, by omega, by omega, by omega, by omega, HGO.out⟩, by simp [intOf]; omega⟩
    · have hd2 : sp.drop k = [] := List.drop_eq_nil_of_le (by omega)
      rw [hd2, nxtGo] at HGO
      have hkl2 : sp.length ≤ k := by omega
      clear hd2
      go_wp2_with (fail)
      go_ret3
      rw [HQ3.out, HGO.out]
      exact ⟨rfl, hb12⟩
end Go.Proofs.YtlnbbioponmcfaaDoor
