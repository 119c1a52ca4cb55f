/-
  The reference's words: numbers written (numbers), words read (parse).
-/
import Derived.Test.YtlnbbioponmcfaaGreatDoorStrS
import Derived.Test.YtlnbbioponmcfaaGreatDoorECan
namespace Go.Proofs.YtlnbbioponmcfaaGreatDoor
open Go.ChangeShapes Go.WideShapes Go.ChangeAt Go.RowKit
set_option linter.unusedVariables false
set_option linter.unusedSimpArgs false

theorem strs_at {w : World} {A : Option Addr} {l : List ByteArray} (h : StrsAt w A l) {k : Nat} (hk : k < l.length) :
    ∃ b off, A = some ⟨b, off, none⟩ ∧ b < w.heap.size ∧ w.cell? ⟨b, off + k, none⟩ = some (.string l[k]) := by
  obtain ⟨b, off, e, hb, hc⟩ := h k l[k] (List.getElem?_eq_getElem hk)
  exact ⟨b, off, e, hb, by have := hc 0 (by omega); simpa using this⟩
theorem jn_nil (sep : ByteArray) : jn [] sep = ⟨#[]⟩ := rfl
theorem join_snoc (xs : List (List UInt8)) (y sep : List UInt8) (h : xs ≠ []) : Lib.join (xs ++ [y]) sep = Lib.join xs sep ++ sep ++ y := by
  cases xs with
  | nil => exact absurd rfl h
  | cons x r =>
    rw [List.cons_append, Lib.join_cons, Lib.join_cons]
    simp [Lib.joinTail]
theorem jn_one (y sep : ByteArray) : jn [y] sep = y := by
  unfold jn strL
  rw [List.map_cons, List.map_nil, Lib.join_one]
theorem jn_snoc (xs : List ByteArray) (y sep : ByteArray) (h : xs ≠ []) : jn (xs ++ [y]) sep = jn xs sep ++ sep ++ y := by
  unfold jn strL
  rw [List.map_append, List.map_cons, List.map_nil, join_snoc _ _ _ (by simpa using h)]
  apply ByteArray.ext
  simp
theorem jn_size {xs : List ByteArray} {m : Nat} (h : ∀ x ∈ xs, x.size ≤ m) : (jn xs ⟨#[32]⟩).size ≤ xs.length * (m + 1) := by
  have e : (jn xs ⟨#[32]⟩).size = (Lib.join (strL xs) [32]).length := by simp [jn, ByteArray.size]
  rw [e]
  have := join_le (xs := strL xs) (sep := [32]) (m := m) (fun z hz => by
    obtain ⟨y, hy, rfl⟩ := List.mem_map.1 hz
    have := h y hy
    rw [len_list]; exact this)
  simpa [strL] using this
theorem wd_size {x : Int} (h : I64 x) : (wd x).size ≤ 20 := wd_len h.1 h.2
set_option maxRecDepth 100000 in
set_option maxHeartbeats 4000000 in
theorem Rnumbers_any (A : Option Addr) (l : List Int) (cap : Nat) (w : World) (hl : l.length ≤ 1000) (hok : ∀ x ∈ l, I64 x) (hA : IntsAt w A l) :
    Calls Tryz.prog 58 #[.slice A l.length cap] w fun e w' => e = .returned (.string (wds l)) ∧ Below w.heap.size w w' := by
  obtain ⟨out, ho⟩ : ∃ o, o = wds l := ⟨_, rfl⟩
  rw [← ho]
  have HO := Lib.hid ho
  have HOK := Lib.hid hok
  clear ho hok
  go_enter Tryz.func58, Tryz.ntmps58
  go_wp2_with (fail)
  go_loopw [3, 4] (fun o i wr => ∃ (k : Nat) (S : ByteArray), k ≤ l.length ∧ i = .int .i64 k ∧ o = .string S ∧ S = jn ((l.take k).map wd) ⟨#[32]⟩ ∧ S.size ≤ 21 * k ∧ Below w.heap.size w wr) (fun _ i _ => l.length - (intOf i).toNat)
  case atStart => exact ⟨0, ⟨#[]⟩, Nat.zero_le _, rfl, rfl, rfl, Nat.le_refl _, Below.refl _ _⟩
  case round =>
    obtain ⟨k, S, hk, rfl, rfl, hS, hSz, hbr⟩ := hrel
    obtain ⟨wo, rfl⟩ : ∃ wo : World, wo = wr := ⟨_, rfl⟩
    have AR := RowsAt.below hA hbr
    have HS := Lib.hid hS
    clear hS
    have hSm : S.size ≤ 21000 := by omega
    by_cases hlt : k < l.length
    · have hsx : l.take (k + 1) = l.take k ++ [l[k]] := List.take_succ_eq_append_getElem hlt
      obtain ⟨b, off, rfl, hb, c0⟩ := IntsAt.at_ AR hlt
      have hx := HOK.out _ (List.getElem_mem hlt)
      have hsz := wd_size hx
      have HD := Lib.hid (fun W => Decimal_any l[k] W hx)
      have HNX : Hid ((l.take (k + 1)).map wd = (l.take k).map wd ++ [wd l[k]]) := Lib.hid (by rw [hsx, List.map_append]; rfl)
      have hkI : (k : Int) < (l.length : Int) := by omega
      clear hsx hx
      generalize l[k] = x at *
      generalize wd x = y at *
      have h32 : (⟨#[32]⟩ : ByteArray).size = 1 := rfl
      by_cases hk0 : k = 0
      · have e1 : decide ((0 : Int) < (k : Int)) = false := decide_eq_false (by omega)
        have e2 : decide (0 < k) = false := decide_eq_false (by omega)
        have HE : Hid (S = ⟨#[]⟩) := Lib.hid (by rw [HS.out, hk0]; rfl)
        have HK := Lib.hid hk0
        clear hk0
        go_wp2_with (go_at_call 86; refine (HD.out _).mono ?_; rintro e w5 ⟨rfl, hb5⟩)
        have hbw5 : Below w.heap.size w w5 := hbr.trans (hb5.mono hbr.size)
        clear hb5 hbr AR c0
        go_wp2_with (fail)
        refine ⟨⟨k + 1, S ++ y, by omega, by go_num, rfl, ?_, by rw [ByteArray.size_append]; omega, hbw5⟩, by simp [intOf]; omega⟩
        rw [HNX.out, HE.out, HK.out]
        rw [List.take_zero, List.map_nil, List.nil_append, jn_one]
        apply ByteArray.ext
        simp
      · have e1 : decide ((0 : Int) < (k : Int)) = true := decide_eq_true (by omega)
        have e2 : decide (0 < k) = true := decide_eq_true (by omega)
        have HE : Hid ((l.take k).map wd ≠ []) := Lib.hid (by
          intro e
          have := congrArg List.length e
          rw [List.length_map, List.length_take] at this
          change min k l.length = 0 at this
          omega)
        clear hk0
        go_wp2_with (go_at_call 86; refine (HD.out _).mono ?_; rintro e w5 ⟨rfl, hb5⟩)
        have hbw5 : Below w.heap.size w w5 := hbr.trans (hb5.mono hbr.size)
        clear hb5 hbr AR c0
        go_wp2_with (fail)
        refine ⟨⟨k + 1, S ++ ⟨#[32]⟩ ++ y, by omega, by go_num, rfl, ?_, by rw [ByteArray.size_append, ByteArray.size_append]; omega, hbw5⟩, by simp [intOf]; omega⟩
        rw [HNX.out, jn_snoc _ _ _ HE.out, ← HS.out]
    · obtain rfl : l.length = k := by omega
      have HE : Hid (S = out) := Lib.hid (by rw [HS.out, HO.out, List.take_length]; rfl)
      go_wp2_with (fail)
      go_ret
      exact ⟨by rw [HE.out]; rfl, hbr⟩
def qV (q : Option (List Int)) (A : Option Addr) (c : Nat) : Value := .tuple #[.slice A (q.getD []).length c, .bool q.isSome]
set_option maxRecDepth 100000 in
set_option maxHeartbeats 4000000 in
theorem Rparse_any (s : ByteArray) (n : Nat) (w : World) (hn : n ≤ 1000) (hs : s.size ≤ 100000) :
    Calls Tryz.prog 56 #[.string s, .int .i64 (n : Int)] w fun e w' => ∃ (A : Option Addr) (c : Nat), e = .returned (qV (parsQ n 10 s) A c) ∧ IntsAt w' A ((parsQ n 10 s).getD []) ∧ Below w.heap.size w w' := by
  obtain ⟨i0, hi0, hz0, hz1, hz2⟩ := infoInt_
  have HI := Lib.hid hi0
  have HZ0 := Lib.hid hz0
  have HZ1 := Lib.hid hz1
  have HZ2 := Lib.hid hz2
  obtain ⟨q, hq⟩ : ∃ q, q = parsQ n 10 s := ⟨_, rfl⟩
  rw [← hq]
  obtain ⟨hl1, hl2⟩ := cutB_small 32 s
  have HC := Lib.hid (Cut_any s 32 32 w rfl (by omega))
  obtain ⟨xs, hxs⟩ : ∃ xs, xs = cutB 32 s := ⟨_, rfl⟩
  have hq2 : q = if xs.length = n then pars 10 xs else none := by rw [hq, hxs]; rfl
  rw [← hxs] at HC hl1 hl2
  have HL2 := Lib.hid hl2
  have HQ := Lib.hid hq2
  clear hi0 hz0 hz1 hz2 hq hq2 hxs hl2
  by_cases hne : xs.length = n
  rotate_left 1
  · have e1 : ((xs.length : Int) != (n : Int)) = true := by rw [bne_iff_ne]; omega
    have e2 : (xs.length != n) = true := by rw [bne_iff_ne]; omega
    have HN := Lib.hid (HQ.out.trans (if_neg hne))
    clear hne HL2 hl1
    go_enter Tryz.func56, Tryz.ntmps56
    go_wp2_with (go_at_call 57; refine HC.out.mono ?_; rintro e w1 ⟨A1, c1, rfl, own1, hb1⟩)
    go_ret2
    rw [HN.out]
    exact ⟨none, 0, rfl, RowsAt.nil, hb1⟩
  have HN := Lib.hid (HQ.out.trans (if_pos hne))
  have hxs : xs.length ≤ 1000 := by omega
  subst hne
  clear HQ
  go_enter Tryz.func56, Tryz.ntmps56
  go_wp2_with (go_at_call 57; refine HC.out.mono ?_; rintro e w1 ⟨A1, c1, rfl, own1, hb1⟩)
  have hS1 : StrsAt w1 A1 xs := rowsAt_of_own own1 rfl (by decide)
  clear HC own1
  go_loopw [7, 8] (fun o i wr => ∃ (k : Nat) (vs : List Int) (A' : Option Addr) (c' : Nat), k ≤ xs.length ∧ i = .int .i64 k ∧ o = .slice A' vs.length c' ∧ pars 10 (xs.take k) = some vs ∧ vs.length = k ∧ wr.ownsRow w1.heap.size 3 1 (.slice A' vs.length c') vs.length (cellsOf 1 intC vs) ∧ Below w1.heap.size w1 wr) (fun _ i _ => xs.length - (intOf i).toNat)
  case atStart => exact ⟨0, [], none, 0, Nat.zero_le _, rfl, rfl, rfl, rfl, World.ownsRow_nil _ _ _ _, Below.refl _ _⟩
  case round =>
    obtain ⟨k, vs, A', c', hk, rfl, rfl, hp, hvl, own, hbr⟩ := hrel
    obtain ⟨wo, rfl⟩ : ∃ wo : World, wo = wr := ⟨_, rfl⟩
    have AR := RowsAt.below hS1 hbr
    have HP := Lib.hid hp
    have OWN := Lib.hid own
    have HVL := Lib.hid hvl
    clear hp own hvl
    by_cases hlt : k < xs.length
    · have hsx : xs.take (k + 1) = xs.take k ++ [xs[k]] := List.take_succ_eq_append_getElem hlt
      obtain ⟨b, off, rfl, hb, c0⟩ := strs_at AR hlt
      have HNO := Lib.hid (pars_none (d := 10) hlt)
      have HSN := Lib.hid (fun (v : Int) (h : numB 10 (xs[k]'hlt) = some v) => pars_snoc (x := xs[k]'hlt) (v := v) HP.out h)
      rw [← hsx] at HSN
      have HNB := Lib.hid (fun W => Number_any xs[k] 10 W (by decide) (Nat.le_trans (HL2.out _ (List.getElem_mem hlt)) (by omega)))
      have HBD := Lib.hid (fun (v : Int) (h : numB 10 (xs[k]'hlt) = some v) => numQ_bound (d := 10) (l := (xs[k]'hlt).data.toList) (v := v) h)
      have hkI : (k : Int) < (xs.length : Int) := by omega
      clear hsx
      cases hnb : numB 10 xs[k] with
      | none =>
        have HN2 := Lib.hid (HN.out.trans (HNO.out hnb))
        have hbw : Below w.heap.size w wo := hb1.trans (hbr.mono hb1.size)
        rw [hnb] at HNB
        clear HNO HSN HBD hnb HP OWN
        generalize xs[k] = x at *
        go_wp2_with (go_at_call 85; refine (HNB.out _).mono ?_; rintro e w5 ⟨rfl, rfl⟩)
        go_ret2
        rw [HN2.out]
        exact ⟨none, 0, rfl, RowsAt.nil, hbw⟩
      | some v =>
        have HP2 := Lib.hid (HSN.out v hnb)
        have hv := HBD.out v hnb
        have hv64 : I64 v := ⟨by omega, by omega⟩
        rw [hnb] at HNB
        have hvl : vs.length ≤ 1000 := by have := HVL.out; omega
        have hbw1 : w1.heap.size ≤ wo.heap.size := hbr.size
        clear HNO HSN HBD hnb HP
        generalize xs[k] = x at *
        go_wp2_with (first
          | (go_at_call 85; refine (HNB.out _).mono ?_; rintro e w5 ⟨rfl, rfl⟩)
          | (at_builtin; (refine wpList_append_rows _ rfl (.tmp 32) (.tmp 34) 28 rfl w1.heap.size 3 i0 (.int .i64 0) 1 8 Tryz.underlying28 HI.out HZ0.out HZ1.out HZ2.out rfl (by decide) A' vs.length c' (cellsOf 1 intC vs) rfl (World.ownsRow.alloc OWN.out _) (some ⟨_, 0, none⟩) 1 1 [.int .i64 v] rfl rfl (fun h => by cases h) (fun ad h => by cases h; exact newsI (blk_new rfl)) (fun u hu => by simp at hu; subst hu; rfl) (by unfold maxLen; omega) (by omega) (by simp; omega) ?_; intro A2' c2' w3 h1 h2 h3)))
        have hL : (vs ++ [v]).length = vs.length + 1 := by simp
        have h4 : w3.ownsRow w1.heap.size 3 1 (.slice A2' (vs ++ [v]).length c2') (vs ++ [v]).length (cellsOf 1 intC (vs ++ [v])) := by rw [hL, cellsOf_append]; exact h1
        have h5 : Below w1.heap.size w1 w3 := below_own (below_alloc _ (Nat.le_refl _) hbr) h2 (World.ownsRow.alloc OWN.out _) (Nat.le_refl _) (by simp; omega)
        have HL := Lib.hid hL
        clear h1 h2 h3 hL OWN
        go_wp2_with (fail)
        exact ⟨⟨k + 1, vs ++ [v], A2', c2', by omega, by go_num, by rw [HL.out], HP2.out, by rw [HL.out, HVL.out], h4, h5⟩, by simp [intOf]; omega⟩
    · obtain rfl : xs.length = k := by omega
      have HQ2 : Hid (q = some vs) := Lib.hid (by rw [HN.out, ← HP.out, List.take_length])
      have hbw : Below w.heap.size w wo := hb1.trans (hbr.mono hb1.size)
      have HOW := Lib.hid (show IntsAt wo A' vs from rowsAt_of_own OWN.out rfl (by decide))
      clear OWN HP
      go_wp2_with (fail)
      go_ret2
      rw [HQ2.out]
      exact ⟨A', c', rfl, HOW.out, hbw⟩
end Go.Proofs.YtlnbbioponmcfaaGreatDoor
