/-
  The program's words read into numbers (parse).
-/
import Derived.Test.YtlnbbioponmcfaaGreatDoorStrR
namespace Go.Proofs.YtlnbbioponmcfaaGreatDoor
open Go.ChangeShapes Go.WideShapes Go.ChangeAt Go.RowKit
set_option linter.unusedVariables false
set_option linter.unusedSimpArgs false

/-- pointers to the first n cells of a block -/
def PtAt (w : World) (A : Option Addr) (n b : Nat) : Prop := ∀ k, k < n → ∃ ab off, A = some ⟨ab, off, none⟩ ∧ ab < w.heap.size ∧ ab ≠ b ∧ w.cell? ⟨ab, off + k, none⟩ = some (.pointer (some ⟨b, k, none⟩))
theorem PtAt.below {w w' : World} {A : Option Addr} {n b : Nat} (h : PtAt w A n b) (hb : Below w.heap.size w w') : PtAt w' A n b := fun k hk => by
  obtain ⟨ab, off, e, h1, h2, h3⟩ := h k hk
  exact ⟨ab, off, e, Nat.lt_of_lt_of_le h1 hb.size, h2, cell_below' hb h3⟩
theorem PtAt.set {w : World} {A : Option Addr} {n b i : Nat} (h : PtAt w A n b) (u : Value) : PtAt (w.setCell ⟨b, i, none⟩ u) A n b := fun k hk => by
  obtain ⟨ab, off, e, h1, h2, h3⟩ := h k hk
  exact ⟨ab, off, e, by simpa using h1, h2, cell_far (fun e => h2 e.symm) h3⟩
/-- the numbers in the first cells of a block -/
def VsAt (w : World) (b : Nat) (vs : List Int) : Prop := ∀ k (h : k < vs.length), w.cell? ⟨b, k, none⟩ = some (.int .i64 vs[k]) ∧ w.frozen? ⟨b, k, none⟩ = false
theorem VsAt.below {w w' : World} {b : Nat} {vs : List Int} (h : VsAt w b vs) (hb : Below w.heap.size w w') : VsAt w' b vs := fun k hk =>
  ⟨cell_below' hb (h k hk).1, frozen_below hb (World.block_lt_of_cell? _ _ (h k hk).1) (h k hk).2⟩
theorem VsAt.set {w : World} {b : Nat} {vs : List Int} (h : VsAt w b vs) (k : Nat) (v : Int) : VsAt (w.setCell ⟨b, k, none⟩ (.int .i64 v)) b (vs.set k v) := fun j hj => by
  have hj' : j < vs.length := by simpa using hj
  obtain ⟨h1, h2⟩ := h j hj'
  refine ⟨?_, frozen_set _ _ h2⟩
  rw [List.getElem_set]
  by_cases e : k = j
  · subst e
    rw [if_pos rfl]
    exact cell_same h1
  · rw [if_neg e]
    exact cell_next (fun e' => e e') h1
theorem run_neq_nil (tp : TypeId) (p : Value) (w : World) : (binOp .neq 124 (.iface tp p) .nilIface).run Tryz.prog w = .ok (.bool true) w := by
  have h : ∀ d : Nat, (Op.equalIn (d + 2) 124 (.iface tp p) .nilIface).run Tryz.prog w = .ok false w := fun d => by
    simp [Op.equalIn, run_underlying Tryz.underlying124]
  simp only [binOp]
  simp [Op.equal, Op.maxDepth, h 9998]
attribute [local go_sem] run_neq_nil
theorem strs_set {w : World} {pb b i : Nat} {xs : List ByteArray} (h : StrsAt w (some ⟨pb, 0, none⟩) xs) (hne : pb ≠ b) (u : Value) : StrsAt (w.setCell ⟨b, i, none⟩ u) (some ⟨pb, 0, none⟩) xs := fun k x hk => by
  obtain ⟨b', off, e, hb, hc⟩ := h k x hk
  cases e
  exact ⟨pb, 0, rfl, by simpa using hb, fun j hj => cell_far (fun e => hne e.symm) (hc j hj)⟩
theorem toList_wd (v : Int) : (wd v).toList = Lib.itoa v := by
  unfold wd
  exact ByteArray.toList_mk _
theorem numB_some {d : Nat} {x : ByteArray} {v : Int} (h : numB d x = some v) : (wd v).toList = x.toList ∧ (toBA (magL x.data.toList)).size ≤ d := by
  obtain ⟨h1, h2⟩ := (numQ_iff d _ v).1 h
  rw [toList_wd, ByteArray.toList_eq, toBA_size]
  exact ⟨h1, h2⟩
theorem numB_ok {d : Nat} (hd : d ≤ 17) {x : ByteArray} {v : Int} (h : numB d x = some v) : Lib.atoiAll x.data.toList = .ok v := by
  have h0 := numQ_atoi d hd x.data.toList
  have h1 : numQ d x.data.toList = some v := h
  rw [h1] at h0
  cases ha : Lib.atoiAll x.data.toList with
  | ok u =>
    rw [ha] at h0
    simp only at h0
    split at h0
    · rw [Option.some.inj h0]
    · cases h0
  | «syntax» => rw [ha] at h0; cases h0
  | range => rw [ha] at h0; cases h0
theorem numB_no {d : Nat} (hd : d ≤ 17) {x : ByteArray} {v : Int} (h : numB d x = none) (ha : Lib.atoiAll x.data.toList = .ok v) : (wd v).toList ≠ x.toList ∨ ((wd v).toList = x.toList ∧ d < (toBA (magL x.data.toList)).size) := by
  have h0 := numQ_atoi d hd x.data.toList
  have h1 : numQ d x.data.toList = none := h
  rw [h1, ha] at h0
  simp only at h0
  rw [toList_wd, ByteArray.toList_eq, toBA_size]
  by_cases e : Lib.itoa v = x.data.toList
  · right
    refine ⟨e, ?_⟩
    by_cases hl : (magL x.data.toList).length ≤ d
    · rw [if_pos ⟨e, hl⟩] at h0; cases h0
    · omega
  · exact Or.inl e
theorem take_set_snoc {vs : List Int} {k : Nat} {v : Int} (h : k < vs.length) : (vs.set k v).take (k + 1) = vs.take k ++ [v] := by
  rw [List.take_succ_eq_append_getElem (by simpa using h), List.getElem_set_self, List.take_set_of_le (Nat.le_refl _)]
set_option maxRecDepth 100000 in
set_option maxHeartbeats 8000000 in
theorem parse_any (s : ByteArray) (A : Option Addr) (n cap b : Nat) (vs0 : List Int) (w : World) {B : Nat} (hE : Evn B w) (hBb : B ≤ b) (hbw : b < w.heap.size) (hn : vs0.length = n) (hn2 : n ≤ 1000) (hs : s.size ≤ 100000)
    (hA : PtAt w A n b) (hV : VsAt w b vs0) (hbd : ∀ x ∈ vs0, x.natAbs < 10000000000) :
    Calls Tryz.prog 33 #[.string s, .slice A n cap] w fun e w' => ∃ vs : List Int, e = .returned (.bool (parsQ n 10 s).isSome) ∧ vs.length = n ∧ (∀ x ∈ vs, x.natAbs < 10000000000) ∧ VsAt w' b vs ∧ (∀ l, parsQ n 10 s = some l → vs = l) ∧ Below b w w' := by
  obtain ⟨q, hq⟩ : ∃ q, q = parsQ n 10 s := ⟨_, rfl⟩
  rw [← hq]
  obtain ⟨hl1, hl2⟩ := cutB_small 32 s
  have HC := Lib.hid (split_any s 32 w hE (by omega))
  obtain ⟨xs, hxs⟩ : ∃ xs, xs = cutB 32 s := ⟨_, rfl⟩
  have hq2 : q = if xs.length = n then pars 10 xs else none := by rw [hq, hxs]; rfl
  rw [← hxs] at HC hl1 hl2
  have HL2 := Lib.hid hl2
  have HQ := Lib.hid hq2
  have HE := Lib.hid hE
  have HBD := Lib.hid hbd
  have HVS := Lib.hid hn
  clear hq hq2 hxs hl2 hE hbd
  by_cases hne : xs.length = n
  rotate_left 1
  · have e1 : ((xs.length : Int) != (n : Int)) = true := by rw [bne_iff_ne]; omega
    have e2 : (xs.length != n) = true := by rw [bne_iff_ne]; omega
    have HN := Lib.hid (HQ.out.trans (if_neg hne))
    clear hne HL2 hl1 hn
    go_enter Tryz.func33, Tryz.ntmps33
    go_wp2_with (go_at_call 62; refine HC.out.mono ?_; rintro e w1 ⟨rfl, hS1, hb1⟩)
    go_ret
    rw [HN.out]
    exact ⟨vs0, rfl, HVS.out, HBD.out, hV.below hb1, fun l h => (by cases h), hb1.mono (Nat.le_of_lt hbw)⟩
  have HN := Lib.hid (HQ.out.trans (if_pos hne))
  have hxs : xs.length ≤ 1000 := by omega
  subst hne
  clear HQ hn
  go_enter Tryz.func33, Tryz.ntmps33
  go_wp2_with (go_at_call 62; refine HC.out.mono ?_; rintro e w1 ⟨rfl, hS1, hb1⟩)
  have hA1 := hA.below hb1
  have hV1 := hV.below hb1
  have hbb1 : Below b w w1 := hb1.mono (Nat.le_of_lt hbw)
  have hbw1 : b < w1.heap.size := Nat.lt_of_lt_of_le hbw hb1.size
  have hpb : w.heap.size ≠ b := by omega
  obtain ⟨pb, hpb2⟩ : ∃ pb, pb = w.heap.size := ⟨_, rfl⟩
  rw [← hpb2] at hS1 hpb ⊢
  clear HC hA hV hb1 hpb2
  go_loopw [19] (fun i wr => ∃ (k : Nat) (vs : List Int), k ≤ xs.length ∧ i = .int .i64 k ∧ pars 10 (xs.take k) = some (vs.take k) ∧ vs.length = xs.length ∧ (∀ x ∈ vs, x.natAbs < 10000000000) ∧ VsAt wr b vs ∧ PtAt wr A xs.length b ∧ StrsAt wr (some ⟨pb, 0, none⟩) xs ∧ b < wr.heap.size ∧ Below b w wr) (fun i _ => xs.length - (intOf i).toNat)
  case atStart => exact ⟨0, vs0, Nat.zero_le _, rfl, rfl, HVS.out, HBD.out, hV1, hA1, hS1, hbw1, hbb1⟩
  case round =>
    obtain ⟨k, vs, hk, rfl, hp, hvl, hvb, hv, ha, hst, hbwo, hbr⟩ := hrel
    obtain ⟨wo, rfl⟩ : ∃ wo : World, wo = wr := ⟨_, rfl⟩
    clear hA1 hV1 hbb1 hS1 hbw1 HBD
    have HP := Lib.hid hp
    have HVL := Lib.hid hvl
    have HVB := Lib.hid hvb
    have HV := Lib.hid hv
    have HA := Lib.hid ha
    have HST := Lib.hid hst
    have EO := Lib.hid (HE.out.low (hbr.mono hBb))
    have hBo : B ≤ wo.heap.size := by omega
    clear hp hvl hvb hv ha hst
    by_cases hlt : k < xs.length
    · have hsx : xs.take (k + 1) = xs.take k ++ [xs[k]] := List.take_succ_eq_append_getElem hlt
      obtain ⟨b9, off, e9, hb9, c0⟩ := strs_at HST.out hlt
      cases e9
      rw [Nat.zero_add] at c0
      obtain ⟨ab, ao, rfl, hab, habb, p0⟩ := HA.out k hlt
      have hkv : k < vs.length := by rw [HVL.out]; exact hlt
      obtain ⟨v0, vf0⟩ := HV.out k hkv
      have HNO := Lib.hid (pars_none (d := 10) hlt)
      have HSN := Lib.hid (fun (v : Int) (h : numB 10 (xs[k]'hlt) = some v) => pars_snoc (x := xs[k]'hlt) (v := v) HP.out h)
      rw [← hsx] at HSN
      have hxz : (xs[k]'hlt).size ≤ 1000000 := Nat.le_trans (HL2.out _ (List.getElem_mem hlt)) (by omega)
      have HAT := Lib.hid (atoi_any (xs[k]'hlt) wo EO.out hBo hxz)
      have HBN := Lib.hid (fun (v : Int) (h : numB 10 (xs[k]'hlt) = some v) => numQ_bound (d := 10) (l := (xs[k]'hlt).data.toList) (v := v) h)
      have HSO := Lib.hid (fun (v : Int) (h : numB 10 (xs[k]'hlt) = some v) => numB_some h)
      have HOK := Lib.hid (fun (v : Int) (h : numB 10 (xs[k]'hlt) = some v) => numB_ok (d := 10) (by decide) h)
      have HNN := Lib.hid (fun (v : Int) (h : numB 10 (xs[k]'hlt) = none) (h' : Lib.atoiAll (xs[k]'hlt).data.toList = .ok v) => numB_no (d := 10) (by decide) h h')
      have HTR := Lib.hid (fun W => (trim_any (xs[k]'hlt) W).mono (fun e w' (h : _ ∧ w' = W) => (⟨h.1, h.2.symm⟩ : _ ∧ W = w')))
      have hkI : (k : Int) < (xs.length : Int) := by omega
      have zpb : pb < wo.heap.size := hb9
      clear hsx hxz hb9
      obtain ⟨u0, hu0⟩ : ∃ u, u = vs[k]'hkv := ⟨_, rfl⟩
      rw [← hu0] at v0
      have HKV := Lib.hid hkv
      clear hu0 hkv
      generalize hxk : xs[k]'hlt = x at *
      clear hxk
      obtain ⟨mg, hmg⟩ : ∃ m, m = toBA (magL x.data.toList) := ⟨_, rfl⟩
      rw [← hmg] at HTR HSO HNN
      clear hmg
      cases hnb : numB 10 x with
      | none =>
        have HN2 := Lib.hid (HN.out.trans (HNO.out hnb))
        have HNN2 := Lib.hid (fun v h => HNN.out v hnb h)
        clear HNO HSN HBN hnb HSO HOK HNN
        cases ha : Lib.atoiAll x.data.toList with
        | ok v =>
          have HAV : Hid (Calls Tryz.prog 63 #[.string x] wo fun e w' => e = .returned (.tuple #[.int .i64 v, .nilIface]) ∧ Below wo.heap.size wo w') := Lib.hid (HAT.out.mono (by
            rintro e w' (⟨v', h1, h2, rfl, h4⟩ | ⟨v', tp, p, h1, _, _⟩)
            · rw [ha] at h1
              cases h1
              exact ⟨rfl, h4⟩
            · exact absurd ha (h1 v)))
          have hv64 : I64 v := Lib.atoiAll_bounds ha
          have HIT := Lib.hid (fun W (h : Tab W) => itoa_any v W hv64.1 hv64.2 h)
          have hcase := HNN2.out v ha
          clear HAT HNN2 ha
          have htl := toList_wd v
          generalize wd v = y at *
          clear htl
          rcases hcase with hne | ⟨he, hlen⟩
          · have e1 : (y.toList == x.toList) = false := beq_eq_false_iff_ne.2 hne
            clear hne
            go_upto_region 8 with (go_at_call 63; refine HAV.out.mono ?_; rintro e w5 ⟨rfl, hb5⟩)
            replace c0 := cell_below' hb5 c0
            replace p0 := cell_below' hb5 p0
            replace v0 := cell_below' hb5 v0
            replace vf0 := frozen_below hb5 (show b < _ from hbwo) vf0
            have HV5 := Lib.hid (HV.out.below hb5)
            have HA5 := Lib.hid (HA.out.below hb5)
            have HST5 := Lib.hid (RowsAt.below HST.out hb5)
            have T5 := Lib.hid (EO.out.t.below hb5)
            have hb5w : Below b w w5 := hbr.trans (hb5.mono (Nat.le_of_lt hbwo))
            have hbw5 : b < w5.heap.size := Nat.lt_of_lt_of_le hbwo hb5.size
            have zp5 : pb < w5.heap.size := Nat.lt_of_lt_of_le zpb hb5.size
            have za5 : ab < w5.heap.size := Nat.lt_of_lt_of_le hab hb5.size
            clear HV HA HST EO hb5 hbr hbwo zpb hab
            (refine region_extx 19 (by kernel_rfl) (by kernel_rfl) fun hx => ?_; simp only [List.take_succ_cons, List.take_zero, List.drop_succ_cons, List.drop_zero]; (repeat (any_goals (first | go_big_quiet_step ((first | (go_at_call 64; with_reducible exact ext_call (HIT.out _ (T5.out.below (ext_bel _ _)))) | (go_at_call 65; with_reducible exact ext_same (HTR.out _)))) | quiet_step ((first | (go_at_call 64; with_reducible exact ext_call (HIT.out _ (T5.out.below (ext_bel _ _)))) | (go_at_call 65; with_reducible exact ext_same (HTR.out _))))))))
            (refine wpQuiet_nil ?_; clear hx; intro u; have hbw2 := ext_bel _ u; have hxw2 := ext_cell _ u; generalize ext _ u = w2 at *; clear u; have hsw2 := hbw2.size; (try simp at hsw2))
            go_wp2_with (fail)
            go_ret
            rw [HN2.out]
            exact ⟨vs, rfl, HVL.out, HVB.out, HV5.out.below hbw2, fun l h => (by cases h), hb5w.trans (hbw2.mono (Nat.le_of_lt hbw5))⟩
          · have e1 : (y.toList == x.toList) = true := beq_iff_eq.2 he
            have e2 : decide ((10 : Int) < (mg.size : Int)) = true := decide_eq_true (by omega)
            have e3 : decide (10 < mg.size) = true := decide_eq_true hlen
            clear he hlen
            go_upto_region 8 with (go_at_call 63; refine HAV.out.mono ?_; rintro e w5 ⟨rfl, hb5⟩)
            replace c0 := cell_below' hb5 c0
            replace p0 := cell_below' hb5 p0
            replace v0 := cell_below' hb5 v0
            replace vf0 := frozen_below hb5 (show b < _ from hbwo) vf0
            have HV5 := Lib.hid (HV.out.below hb5)
            have HA5 := Lib.hid (HA.out.below hb5)
            have HST5 := Lib.hid (RowsAt.below HST.out hb5)
            have T5 := Lib.hid (EO.out.t.below hb5)
            have hb5w : Below b w w5 := hbr.trans (hb5.mono (Nat.le_of_lt hbwo))
            have hbw5 : b < w5.heap.size := Nat.lt_of_lt_of_le hbwo hb5.size
            have zp5 : pb < w5.heap.size := Nat.lt_of_lt_of_le zpb hb5.size
            have za5 : ab < w5.heap.size := Nat.lt_of_lt_of_le hab hb5.size
            clear HV HA HST EO hb5 hbr hbwo zpb hab
            (refine region_extx 19 (by kernel_rfl) (by kernel_rfl) fun hx => ?_; simp only [List.take_succ_cons, List.take_zero, List.drop_succ_cons, List.drop_zero]; (repeat (any_goals (first | go_big_quiet_step ((first | (go_at_call 64; with_reducible exact ext_call (HIT.out _ (T5.out.below (ext_bel _ _)))) | (go_at_call 65; with_reducible exact ext_same (HTR.out _)))) | quiet_step ((first | (go_at_call 64; with_reducible exact ext_call (HIT.out _ (T5.out.below (ext_bel _ _)))) | (go_at_call 65; with_reducible exact ext_same (HTR.out _))))))))
            (refine wpQuiet_nil ?_; clear hx; intro u; have hbw2 := ext_bel _ u; have hxw2 := ext_cell _ u; generalize ext _ u = w2 at *; clear u; have hsw2 := hbw2.size; (try simp at hsw2))
            go_wp2_with (fail)
            go_ret
            rw [HN2.out]
            exact ⟨vs, rfl, HVL.out, HVB.out, HV5.out.below hbw2, fun l h => (by cases h), hb5w.trans (hbw2.mono (Nat.le_of_lt hbw5))⟩
        | «syntax» =>
          have HAV : Hid (Calls Tryz.prog 63 #[.string x] wo fun e w' => ∃ (v : Int) (tp : TypeId) (p : Value), e = .returned (.tuple #[.int .i64 v, .iface tp p]) ∧ Below wo.heap.size wo w') := Lib.hid (HAT.out.mono (by
            rintro e w' (⟨v', h1, h2, rfl, h4⟩ | ⟨v', tp, p, h1, rfl, h4⟩)
            · rw [ha] at h1
              cases h1
            · exact ⟨v', tp, p, rfl, h4⟩))
          clear HAT HNN2 ha
          go_upto_region 8 with (go_at_call 63; refine HAV.out.mono ?_; rintro e w5 ⟨v, tp, p, rfl, hb5⟩)
          replace c0 := cell_below' hb5 c0
          replace p0 := cell_below' hb5 p0
          replace v0 := cell_below' hb5 v0
          replace vf0 := frozen_below hb5 (show b < _ from hbwo) vf0
          have HV5 := Lib.hid (HV.out.below hb5)
          have HA5 := Lib.hid (HA.out.below hb5)
          have HST5 := Lib.hid (RowsAt.below HST.out hb5)
          have T5 := Lib.hid (EO.out.t.below hb5)
          have hb5w : Below b w w5 := hbr.trans (hb5.mono (Nat.le_of_lt hbwo))
          have hbw5 : b < w5.heap.size := Nat.lt_of_lt_of_le hbwo hb5.size
          have zp5 : pb < w5.heap.size := Nat.lt_of_lt_of_le zpb hb5.size
          have za5 : ab < w5.heap.size := Nat.lt_of_lt_of_le hab hb5.size
          clear HV HA HST EO hb5 hbr hbwo zpb hab
          (refine region_extx 19 (by kernel_rfl) (by kernel_rfl) fun hx => ?_; simp only [List.take_succ_cons, List.take_zero, List.drop_succ_cons, List.drop_zero]; (repeat (any_goals (first | go_big_quiet_step (fail) | quiet_step (fail)))))
          (refine wpQuiet_nil ?_; clear hx; intro u; have hbw2 := ext_bel _ u; have hxw2 := ext_cell _ u; generalize ext _ u = w2 at *; clear u; have hsw2 := hbw2.size; (try simp at hsw2))
          go_wp2_with (fail)
          go_ret
          rw [HN2.out]
          exact ⟨vs, rfl, HVL.out, HVB.out, HV5.out.below hbw2, fun l h => (by cases h), hb5w.trans (hbw2.mono (Nat.le_of_lt hbw5))⟩
        | range =>
          have HAV : Hid (Calls Tryz.prog 63 #[.string x] wo fun e w' => ∃ (v : Int) (tp : TypeId) (p : Value), e = .returned (.tuple #[.int .i64 v, .iface tp p]) ∧ Below wo.heap.size wo w') := Lib.hid (HAT.out.mono (by
            rintro e w' (⟨v', h1, h2, rfl, h4⟩ | ⟨v', tp, p, h1, rfl, h4⟩)
            · rw [ha] at h1
              cases h1
            · exact ⟨v', tp, p, rfl, h4⟩))
          clear HAT HNN2 ha
          go_upto_region 8 with (go_at_call 63; refine HAV.out.mono ?_; rintro e w5 ⟨v, tp, p, rfl, hb5⟩)
          replace c0 := cell_below' hb5 c0
          replace p0 := cell_below' hb5 p0
          replace v0 := cell_below' hb5 v0
          replace vf0 := frozen_below hb5 (show b < _ from hbwo) vf0
          have HV5 := Lib.hid (HV.out.below hb5)
          have HA5 := Lib.hid (HA.out.below hb5)
          have HST5 := Lib.hid (RowsAt.below HST.out hb5)
          have T5 := Lib.hid (EO.out.t.below hb5)
          have hb5w : Below b w w5 := hbr.trans (hb5.mono (Nat.le_of_lt hbwo))
          have hbw5 : b < w5.heap.size := Nat.lt_of_lt_of_le hbwo hb5.size
          have zp5 : pb < w5.heap.size := Nat.lt_of_lt_of_le zpb hb5.size
          have za5 : ab < w5.heap.size := Nat.lt_of_lt_of_le hab hb5.size
          clear HV HA HST EO hb5 hbr hbwo zpb hab
          (refine region_extx 19 (by kernel_rfl) (by kernel_rfl) fun hx => ?_; simp only [List.take_succ_cons, List.take_zero, List.drop_succ_cons, List.drop_zero]; (repeat (any_goals (first | go_big_quiet_step (fail) | quiet_step (fail)))))
          (refine wpQuiet_nil ?_; clear hx; intro u; have hbw2 := ext_bel _ u; have hxw2 := ext_cell _ u; generalize ext _ u = w2 at *; clear u; have hsw2 := hbw2.size; (try simp at hsw2))
          go_wp2_with (fail)
          go_ret
          rw [HN2.out]
          exact ⟨vs, rfl, HVL.out, HVB.out, HV5.out.below hbw2, fun l h => (by cases h), hb5w.trans (hbw2.mono (Nat.le_of_lt hbw5))⟩
      | some v =>
        have HP2 := Lib.hid (HSN.out v hnb)
        have hv := HBN.out v hnb
        have ha := HOK.out v hnb
        obtain ⟨he, hlen⟩ := HSO.out v hnb
        have HAV : Hid (Calls Tryz.prog 63 #[.string x] wo fun e w' => e = .returned (.tuple #[.int .i64 v, .nilIface]) ∧ Below wo.heap.size wo w') := Lib.hid (HAT.out.mono (by
            rintro e w' (⟨v', h1, h2, rfl, h4⟩ | ⟨v', tp, p, h1, _, _⟩)
            · rw [ha] at h1
              cases h1
              exact ⟨rfl, h4⟩
            · exact absurd ha (h1 v)))
        have hv64 : I64 v := Lib.atoiAll_bounds ha
        have HIT := Lib.hid (fun W (h : Tab W) => itoa_any v W hv64.1 hv64.2 h)
        clear HAT ha HNO HSN HBN hnb HSO HOK HNN
        generalize wd v = y at *
        have e1 : (y.toList == x.toList) = true := beq_iff_eq.2 he
        have e2 : decide ((10 : Int) < (mg.size : Int)) = false := decide_eq_false (by omega)
        have e3 : decide (10 < mg.size) = false := decide_eq_false (by omega)
        clear he hlen
        go_upto_region 8 with (go_at_call 63; refine HAV.out.mono ?_; rintro e w5 ⟨rfl, hb5⟩)
        replace c0 := cell_below' hb5 c0
        replace p0 := cell_below' hb5 p0
        replace v0 := cell_below' hb5 v0
        replace vf0 := frozen_below hb5 (show b < _ from hbwo) vf0
        have HV5 := Lib.hid (HV.out.below hb5)
        have HA5 := Lib.hid (HA.out.below hb5)
        have HST5 := Lib.hid (RowsAt.below HST.out hb5)
        have T5 := Lib.hid (EO.out.t.below hb5)
        have hb5w : Below b w w5 := hbr.trans (hb5.mono (Nat.le_of_lt hbwo))
        have hbw5 : b < w5.heap.size := Nat.lt_of_lt_of_le hbwo hb5.size
        have zp5 : pb < w5.heap.size := Nat.lt_of_lt_of_le zpb hb5.size
        have za5 : ab < w5.heap.size := Nat.lt_of_lt_of_le hab hb5.size
        clear HV HA HST EO hb5 hbr hbwo zpb hab
        (refine region_extx 19 (by kernel_rfl) (by kernel_rfl) fun hx => ?_; simp only [List.take_succ_cons, List.take_zero, List.drop_succ_cons, List.drop_zero]; (repeat (any_goals (first | go_big_quiet_step ((first | (go_at_call 64; with_reducible exact ext_call (HIT.out _ (T5.out.below (ext_bel _ _)))) | (go_at_call 65; with_reducible exact ext_same (HTR.out _)))) | quiet_step ((first | (go_at_call 64; with_reducible exact ext_call (HIT.out _ (T5.out.below (ext_bel _ _)))) | (go_at_call 65; with_reducible exact ext_same (HTR.out _))))))))
        (refine wpQuiet_nil ?_; clear hx; intro u; have hbw2 := ext_bel _ u; have hxw2 := ext_cell _ u; generalize ext _ u = w2 at *; clear u; have hsw2 := hbw2.size; (try simp at hsw2))
        replace p0 := cell_below' hbw2 p0
        replace v0 := cell_below' hbw2 v0
        replace vf0 := frozen_below hbw2 (show b < _ from hbw5) vf0
        have HV2 := Lib.hid (HV5.out.below hbw2)
        have HA2 := Lib.hid (HA5.out.below hbw2)
        have HST2 := Lib.hid (RowsAt.below HST5.out hbw2)
        have hb2w : Below b w w2 := hb5w.trans (hbw2.mono (Nat.le_of_lt hbw5))
        have hz2 : b < w2.heap.size := Nat.lt_of_lt_of_le hbw5 hbw2.size
        have HVB2 : Hid (∀ z ∈ vs.set k v, z.natAbs < 10000000000) := Lib.hid (fun z hz => by
          rcases List.mem_or_eq_of_mem_set hz with h | rfl
          · exact HVB.out z h
          · exact hv)
        clear HV5 HA5 HST5 T5 hb5w hbw2 hxw2 hsw2 HAV HIT HTR HVB c0
        go_wp2_with (fail)
        exact ⟨⟨k + 1, vs.set k v, by omega, by go_num, by rw [take_set_snoc HKV.out]; exact HP2.out, by rw [List.length_set]; exact HVL.out, HVB2.out, HV2.out.set k v, HA2.out.set _, strs_set HST2.out hpb _, by simpa using hz2, below_set _ (Nat.le_refl _) hb2w⟩, by simp [intOf]; omega⟩
    · obtain rfl : xs.length = k := by omega
      have HQ2 : Hid (q = some vs) := Lib.hid (by
        have h1 := HP.out
        rw [List.take_length, ← HVL.out, List.take_length] at h1
        rw [HN.out, h1])
      clear HP
      go_wp2_with (fail)
      go_ret
      rw [HQ2.out]
      exact ⟨vs, rfl, HVL.out, HVB.out, HV.out, fun l h => (by cases h; rfl), hbr⟩
end Go.Proofs.YtlnbbioponmcfaaGreatDoor
