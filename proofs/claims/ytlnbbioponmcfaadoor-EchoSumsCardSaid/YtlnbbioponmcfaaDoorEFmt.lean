/-
  Chapter 2: the words of an echo.
-/
import Derived.Test.YtlnbbioponmcfaaDoorEEch
import Derived.Test.YtlnbbioponmcfaaDoorShelf
namespace Go.Proofs.YtlnbbioponmcfaaDoor
open Go.ChangeShapes Go.WideShapes Go.ChangeAt Go.RowKit Go.Sort
set_option linter.unusedVariables false
set_option linter.unusedSimpArgs false

def Tab (w : World) : Prop := Lib.TabIs Tryd.prog w "internal/strconv.uint64pow10" .u64 Lib.pow10Tab
theorem gPow : ∃ g, Tryd.prog.globalNamed "internal/strconv.uint64pow10" = some g := by
  have h : (Tryd.prog.globalNamed "internal/strconv.uint64pow10").isSome = true := by kernel_rfl
  exact Option.isSome_iff_exists.1 h
theorem Tab.below {w w' : World} (h : Tab w) (hb : Below w.heap.size w w') : Tab w' := by
  obtain ⟨g, hg⟩ := gPow
  unfold Tab Lib.TabIs World.var? at h ⊢
  rw [hg] at h ⊢
  simp only [Option.bind_some] at h ⊢
  have hlt : g < w.heap.size := by
    rcases Nat.lt_or_ge g w.heap.size with h' | h'
    · exact h'
    · rw [Array.getElem?_eq_none h'] at h; cases h
  rw [hb.block g hlt]
  exact h
abbrev StrsAt := RowsAt 1 (fun (x : ByteArray) _ => Value.string x)
def strC (x : ByteArray) (_ : Nat) : Value := .string x
theorem strC_one (x : ByteArray) (i : Nat) : (strC x i).oneCell' = true := rfl
theorem infoStr : (Tryd.prog.info? 9).map (fun i => (i.zero, i.size, i.bytes)) = some (some (.string ⟨#[]⟩), 1, 16) := by kernel_rfl
theorem infoStr_ : ∃ i : TypeInfo, Tryd.prog.info? 9 = some i ∧ i.zero = some (.string ⟨#[]⟩) ∧ i.size = 1 ∧ i.bytes = 16 := by
  have h := infoStr
  cases hi : Tryd.prog.info? 9 with
  | none => rw [hi] at h; cases h
  | some i =>
    rw [hi] at h
    simp only [Option.map_some, Option.some.injEq, Prod.mk.injEq] at h
    exact ⟨i, rfl, h.1, h.2.1, h.2.2⟩
theorem newsStr {w : World} {vb : Nat} {s : ByteArray} (hv : w.heap[vb]? = some (.cells #[.string s] 9)) : ∀ j u, [Value.string s][j]? = some u → w.cell? ((⟨vb, 0, none⟩ : Addr).add j) = some u := fun j u hu => by
  rw [Addr.add_lit, Nat.zero_add]
  exact blk_cell hv (by simpa using hu)
def strL (xs : List ByteArray) : List (List UInt8) := xs.map (·.data.toList)
/-- strings joined -/
def jn (xs : List ByteArray) (sep : ByteArray) : ByteArray := ⟨(Lib.join (strL xs) sep.data.toList).toArray⟩
theorem lens_le (m : Nat) : ∀ xs : List (List UInt8), (∀ x ∈ xs, x.length ≤ m) → Lib.lens xs ≤ xs.length * m
  | [], _ => by simp [Lib.lens]
  | x :: r, h => by
    have h1 := h x (by simp)
    have h2 := lens_le m r (fun y hy => h y (by simp [hy]))
    have h3 : Lib.lens (x :: r) = x.length + Lib.lens r := by simp [Lib.lens]
    rw [h3, List.length_cons, Nat.succ_mul]
    omega
theorem join_le {xs : List (List UInt8)} {sep : List UInt8} {m : Nat} (h : ∀ x ∈ xs, x.length ≤ m) : (Lib.join xs sep).length ≤ xs.length * (m + sep.length) := by
  cases xs with
  | nil => simp [Lib.join_nil]
  | cons x r =>
    have h1 := lens_le m (x :: r) h
    rw [Lib.join_length, Nat.mul_add]
    have h2 : sep.length * r.length ≤ (x :: r).length * sep.length := by rw [Nat.mul_comm]; exact Nat.mul_le_mul (by simp) (Nat.le_refl _)
    omega
theorem join_any (A : Option Addr) (xs : List ByteArray) (c : Nat) (sep : ByteArray) (w : World) (m : Nat) (hA : StrsAt w A xs) (hc : xs.length ≤ c) (hn : xs.length ≤ 1000) (hm : ∀ x ∈ xs, x.data.size ≤ m) (hm2 : m + sep.data.size ≤ 1000000) :
    Calls Tryd.prog 51 #[.slice A xs.length c, .string sep] w fun e w' => e = .returned (.string (jn xs sep)) ∧ Below w.heap.size w w' := by
  cases xs with
  | nil => exact (shf_strings_Join_none A c sep w).mono fun e w' ⟨he, hw⟩ => ⟨he, by subst hw; exact Below.refl _ _⟩
  | cons x r =>
    obtain ⟨b, off, e, hb, _⟩ := hA 0 x rfl
    subst e
    refine shf_strings_Join b off c (x :: r) sep w (fun j y hy => ?_) hb (Nat.le_trans hn (by decide)) hc ?_
    · obtain ⟨b', off', e', _, hc'⟩ := hA j y hy
      cases e'
      have := hc' 0 (by decide)
      simpa using this
    · refine Nat.le_trans (join_le (m := m) fun z hz => ?_) ?_
      · obtain ⟨y, hy, rfl⟩ := List.mem_map.1 hz
        simpa using hm y hy
      · rw [List.length_map]
        refine Nat.le_trans (Nat.mul_le_mul hn (show m + sep.data.toList.length ≤ 1000000 by simpa using hm2)) (by decide)
theorem below_grow (w : World) (os : Array Obj) : Below w.heap.size w (grow w os) :=
  ⟨rfl, rfl, rfl, by simp [grow], fun k hk => by simp only [grow]; rw [Array.getElem?_append_left hk]⟩
theorem own_cap {w : World} {base n c : Nat} {e : TypeId} {size : Nat} {A : Option Addr} {xs : List Value} (h : w.ownsRow base e size (.slice A n c) n xs) : n ≤ c := by
  obtain ⟨_, ⟨h1, h2⟩ | ⟨g, cap, cur, h1, _, _, h2, _⟩⟩ := h
  · omega
  · cases h1; exact h2
/-- a number in words -/
def wd (x : Int) : ByteArray := ⟨(Lib.itoa x).toArray⟩
theorem dec_len : ∀ (k u : Nat), u < 10 ^ (k + 1) → (Lib.decDigits u).length ≤ k + 1
  | 0, u, h => by rw [Lib.decDigits_one (by simpa using h)]; simp
  | k + 1, u, h => by
    rw [Lib.decDigits]
    split
    · simp
    · have := dec_len k (u / 10) (Nat.div_lt_of_lt_mul (by rw [Nat.pow_succ] at h; omega))
      simp
      omega
theorem wd_len {x : Int} (h0 : -9223372036854775808 ≤ x) (h1 : x ≤ 9223372036854775807) : (wd x).data.size ≤ 20 := by
  have e : (wd x).data.size = (Lib.itoa x).length := by simp [wd]
  rw [e]
  unfold Lib.itoa
  split
  · have := dec_len 18 x.natAbs (by omega)
    simp
    omega
  · have := dec_len 18 x.toNat (by omega)
    omega
theorem itoa_any (x : Int) (w : World) (h0 : -9223372036854775808 ≤ x) (h1 : x ≤ 9223372036854775807) (ht : Tab w) :
    Calls Tryd.prog 65 #[.int .i64 x] w fun e w' => e = .returned (.string (wd x)) ∧ Below w.heap.size w w' :=
  (shf_strconv_Itoa x h0 h1 w ht).mono fun e w' ⟨he, k, os, hw⟩ => ⟨he, by subst hw; exact (below_drewN (Below.refl _ _) k).trans (below_grow (w.drewN k) os)⟩
/-- numbers in words -/
def wds (l : List Int) : ByteArray := jn (l.map wd) ⟨#[32]⟩
def I64 (x : Int) : Prop := -9223372036854775808 ≤ x ∧ x ≤ 9223372036854775807
abbrev PtrsAt := RowsAt 1 (fun (x : Addr × Int) _ => Value.pointer (some x.1))
theorem PtrsAt.at_ {w : World} {A : Option Addr} {l : List (Addr × Int)} (h : PtrsAt w A l) {k : Nat} (hk : k < l.length) :
    ∃ b off, A = some ⟨b, off, none⟩ ∧ b < w.heap.size ∧ w.cell? ⟨b, off + k, none⟩ = some (.pointer (some l[k].1)) := by
  obtain ⟨b, off, e, hb, hc⟩ := h k l[k] (List.getElem?_eq_getElem hk)
  exact ⟨b, off, e, hb, by have := hc 0 (by omega); simpa using this⟩
def PInt (w : World) (x : Addr × Int) : Prop := w.cell? x.1 = some (.int .i64 x.2) ∧ I64 x.2 ∧ x.1.block < w.heap.size
theorem PInt.below {w w' : World} {x : Addr × Int} (h : PInt w x) (hb : Below w.heap.size w w') : PInt w' x := ⟨cell_below' hb h.1, h.2.1, Nat.lt_of_lt_of_le h.2.2 hb.size⟩
set_option maxRecDepth 100000 in
set_option maxHeartbeats 4000000 in
theorem words_any (A : Option Addr) (l : List (Addr × Int)) (cap : Nat) (w : World) (hl : l.length ≤ 1000) (hok : ∀ x ∈ l, PInt w x) (hA : PtrsAt w A l) (ht : Tab w) :
    Calls Tryd.prog 49 #[.slice A l.length cap] w fun e w' => e = .returned (.string (wds (l.map (·.2)))) ∧ Below w.heap.size w w' := by
  obtain ⟨i0, hi0, hz0, hz1, hz2⟩ := infoStr_
  have HI := Lib.hid hi0
  have HZ0 := Lib.hid hz0
  have HZ1 := Lib.hid hz1
  have HZ2 := Lib.hid hz2
  have HOK := Lib.hid hok
  have HT := Lib.hid ht
  have HW : Hid (jn (l.map fun x => wd x.2) ⟨#[32]⟩ = wds (l.map (·.2))) := Lib.hid (by unfold wds; rw [List.map_map]; rfl)
  have hll : (l.length : Int) ≤ 1000 := by omega
  clear hi0 hz0 hz1 hz2 hok ht
  go_enter Tryd.func49, Tryd.ntmps49
  go_wp2_with (fail)
  go_loopw [3, 8] (fun o i wr => ∃ (k : Nat) (A' : Option Addr) (c' : Nat), k ≤ l.length ∧ i = .int .i64 k ∧ o = .slice A' ((l.take k).map fun x => wd x.2).length c' ∧ wr.ownsRow w.heap.size 9 1 (.slice A' ((l.take k).map fun x => wd x.2).length c') ((l.take k).map fun x => wd x.2).length (cellsOf 1 strC ((l.take k).map fun x => wd x.2)) ∧ Below w.heap.size w wr) (fun _ i _ => l.length - (intOf i).toNat)
  case atStart => exact ⟨0, none, 0, Nat.zero_le _, rfl, rfl, World.ownsRow_nil _ _ _ _, Below.refl _ _⟩
  case round =>
    obtain ⟨k, A', c', hk, rfl, rfl, own, hbr⟩ := hrel
    obtain ⟨wo, rfl⟩ : ∃ wo : World, wo = wr := ⟨_, rfl⟩
    have AR := RowsAt.below hA hbr
    have TR := Lib.hid (HT.out.below hbr)
    have OWN := Lib.hid own
    clear own
    by_cases hlt : k < l.length
    · have hsx : l.take (k + 1) = l.take k ++ [l[k]] := List.take_succ_eq_append_getElem hlt
      have hlen : ((l.take k).map fun x => wd x.2).length = k := by simp; omega
      obtain ⟨x0, ⟨hx0, hx1⟩, xz⟩ := (HOK.out _ (List.getElem_mem hlt)).below hbr
      obtain ⟨b, off, rfl, hb, c0⟩ := PtrsAt.at_ AR hlt
      have hk1 : (k : Int) < (l.length : Int) := by omega
      have HSX := Lib.hid (show (l.take (k + 1)).map (fun x => wd x.2) = (l.take k).map (fun x => wd x.2) ++ [wd l[k].2] by rw [hsx, List.map_append]; rfl)
      clear hsx
      generalize l[k] = px at *
      obtain ⟨⟨pb, po, ps⟩, x⟩ := px
      simp only at *
      have H1 := Lib.hid (itoa_any x wo hx0 hx1 TR.out)
      have HLEN := Lib.hid hlen
      clear hlen
      generalize (l.take k).map (fun x => wd x.2) = q at *
      have hkm : (k : Int) ≤ 1000 := by omega
      go_wp2_with (fail)
      go_wp2_with (first
        | (go_at_call 65; refine H1.out.mono ?_; rintro e1 w1 ⟨rfl, hb1⟩; have OWN1 := Lib.hid (own_below OWN.out hb1); have hbw1 : Below w.heap.size w w1 := hbr.trans (hb1.mono hbr.size); generalize wd x = s at *; clear H1 OWN hb1)
        | (at_builtin; (refine wpList_append_rows _ rfl (.tmp 12) (.tmp 17) 106 rfl w.heap.size 9 i0 (.string ⟨#[]⟩) 1 16 Tryd.underlying106 HI.out HZ0.out HZ1.out HZ2.out rfl (by decide) A' q.length c' (cellsOf 1 strC q) rfl (World.ownsRow.alloc OWN1.out _) (some ⟨_, 0, none⟩) 1 1 [.string s] rfl rfl (fun h => by cases h) (fun ad h => by cases h; exact newsStr (blk_new rfl)) (fun u hu => by simp at hu; subst hu; rfl) (by have := HLEN.out; unfold maxLen; omega) (by have := HLEN.out; omega) (by have := hbw1.size; simp; omega) ?_; intro A2' c2' w3 h1 h2 h3)))
      have hL : (q ++ [s]).length = q.length + 1 := by simp
      have h4 : w3.ownsRow w.heap.size 9 1 (.slice A2' (q ++ [s]).length c2') (q ++ [s]).length (cellsOf 1 strC (q ++ [s])) := by rw [hL, cellsOf_append]; exact h1
      have h5 : Below w.heap.size w w3 := below_own (below_alloc _ (Nat.le_refl _) hbw1) h2 (World.ownsRow.alloc OWN1.out _) (Nat.le_refl _) (by have := hbw1.size; simp; omega)
      rw [← HSX.out] at h4 hL
      have HL := Lib.hid hL
      clear h1 h2 h3 hL OWN1
      go_wp2_with (fail)
      exact ⟨⟨k + 1, A2', c2', by omega, by go_num, by rw [HL.out], h4, h5⟩, by simp [intOf]; omega⟩
    · have hk2 : k = l.length := by omega
      subst hk2
      have hlen : ((l.take l.length).map fun x => wd x.2) = l.map fun x => wd x.2 := by rw [List.take_length]
      rw [hlen] at OWN ⊢
      have hq2 : ∀ x ∈ l.map (fun x => wd x.2), x.data.size ≤ 20 := fun z hz => by
        obtain ⟨y, hy, rfl⟩ := List.mem_map.1 hz
        exact wd_len (HOK.out y hy).2.1.1 (HOK.out y hy).2.1.2
      have hq3 : (l.map fun x => wd x.2).length ≤ 1000 := by simpa using hl
      clear hlen
      generalize l.map (fun x => wd x.2) = q at *
      have hA3 : StrsAt wo A' q := rowsAt_of_own OWN.out rfl (by decide)
      have hcap : q.length ≤ c' := own_cap OWN.out
      have H2 := Lib.hid (join_any A' q c' ⟨#[32]⟩ wo 20 hA3 hcap hq3 hq2 (by decide))
      clear hq2 hA3 OWN AR
      go_wp2_with (fail)
      go_wp2_with (go_at_call 51; refine H2.out.mono ?_; rintro e1 w1 ⟨rfl, hb1⟩)
      have hbw1 : Below w.heap.size w w1 := hbr.trans (hb1.mono hbr.size)
      go_wp2_with (fail)
      go_ret
      exact ⟨by rw [HW.out]; rfl, hbw1⟩
def itP (b : Nat) (x : It) : List (Addr × Int) := [(⟨b, 0, none⟩, x.l), (⟨b, 1, none⟩, x.p), (⟨b, 2, none⟩, x.t), (⟨b, 3, none⟩, x.lo), (⟨b, 4, none⟩, x.hi)]
structure OkIt (x : It) : Prop where
  l : I64 x.l
  p : I64 x.p
  t : I64 x.t
  lo : I64 x.lo
  hi : I64 x.hi
set_option maxRecDepth 100000 in
set_option maxHeartbeats 4000000 in
theorem parts_any (b : Nat) (x : It) (w : World) (hz : b < w.heap.size) (i0 : w.cell? ⟨b, 0, none⟩ = some (.int .i64 x.l)) :
    Calls Tryd.prog 50 #[.pointer (some ⟨b, 0, none⟩)] w fun e w' => ∃ A', e = .returned (.slice A' 5 5) ∧ PtrsAt w' A' (itP b x) ∧ Below w.heap.size w w' := by
  go_enter Tryd.func50, Tryd.ntmps50
  go_wp2_with (fail)
  (refine region_extx 17 (by kernel_rfl) (by kernel_rfl) fun hx => ?_; simp only [List.take_succ_cons, List.take_zero, List.drop_succ_cons, List.drop_zero]; (repeat (any_goals (first | go_big_quiet_step (fail) | quiet_step (fail)))))
  (refine wpQuiet_nil ?_; clear hx; intro u; have hbw2 := ext_bel _ u; have hxw2 := ext_cell _ u; generalize ext _ u = w2 at *; clear u; have hsw2 := hbw2.size; (try simp at hsw2))
  go_wp2_with (fail)
  go_ret
  refine ⟨_, rfl, fun k y hk => ⟨w2.heap.size, 0, rfl, by simp, fun j hj => ?_⟩, (hbw2.trans ((below_alloc _ (Nat.le_refl _) (Below.refl _ w2)).mono hsw2))⟩
  obtain rfl : j = 0 := by omega
  have hk5 : k < 5 := (List.getElem?_eq_some_iff.1 hk).1
  rcases k with _ | _ | _ | _ | _ | k
  · cases hk; exact cell_new rfl rfl
  · cases hk; exact cell_new rfl rfl
  · cases hk; exact cell_new rfl rfl
  · cases hk; exact cell_new rfl rfl
  · cases hk; exact cell_new rfl rfl
  · omega
/-- an echo in words -/
def itW (x : It) : ByteArray := wds [x.l, x.p, x.t, x.lo, x.hi]
theorem wds_len (l : List Int) (h : ∀ x ∈ l, I64 x) (hl : l.length ≤ 5) : (wds l).data.size ≤ 105 := by
  have e : (wds l).data.size = (Lib.join (strL (l.map wd)) [32]).length := by simp [wds, jn]
  rw [e]
  refine Nat.le_trans (join_le (m := 20) fun z hz => ?_) ?_
  · obtain ⟨y, hy, rfl⟩ := List.mem_map.1 hz
    obtain ⟨u, hu, rfl⟩ := List.mem_map.1 hy
    simpa using wd_len (h u hu).1 (h u hu).2
  · simp [strL]
    omega
theorem OkIt.all {x : It} (h : OkIt x) : ∀ y ∈ [x.l, x.p, x.t, x.lo, x.hi], I64 y := fun y hy => by
  simp at hy
  rcases hy with rfl | rfl | rfl | rfl | rfl
  · exact h.l
  · exact h.p
  · exact h.t
  · exact h.lo
  · exact h.hi
theorem itW_len {x : It} (h : OkIt x) : (itW x).data.size ≤ 105 := wds_len _ h.all (by simp)
/-- echoes in words -/
def fmtE (l : List It) : ByteArray := if l = [] then ⟨#[45]⟩ else jn (l.map itW) ⟨#[44]⟩
set_option maxRecDepth 100000 in
set_option maxHeartbeats 8000000 in
theorem FormatEchoes_any (A : Option Addr) (l : List It) (cap : Nat) (w : World) (hl : l.length ≤ 1000) (hok : ∀ x ∈ l, OkIt x) (hA : ItsAt w A l) (ht : Tab w) :
    Calls Tryd.prog 24 #[.slice A l.length cap] w fun e w' => e = .returned (.string (fmtE l)) ∧ Below w.heap.size w w' := by
  by_cases hne : l = []
  · subst hne
    go_enter Tryd.func24, Tryd.ntmps24
    go_wp2_with (fail)
    go_ret
    exact ⟨rfl, Below.refl _ _⟩
  obtain ⟨i0, hi0, hz0, hz1, hz2⟩ := infoStr_
  have HI := Lib.hid hi0
  have HZ0 := Lib.hid hz0
  have HZ1 := Lib.hid hz1
  have HZ2 := Lib.hid hz2
  have HOK := Lib.hid hok
  have HT := Lib.hid ht
  have HW : Hid (jn (l.map itW) ⟨#[44]⟩ = fmtE l) := Lib.hid (by unfold fmtE; rw [if_neg hne])
  have hll : (l.length : Int) ≤ 1000 := by omega
  have hl0 : 0 < l.length := List.length_pos_iff.2 hne
  have hle : ((l.length : Int) == 0) = false := by simp; omega
  have hlp : (0 : Int) < l.length := by omega
  have HN := Lib.hid hne
  clear hi0 hz0 hz1 hz2 hok ht hne
  go_enter Tryd.func24, Tryd.ntmps24
  go_wp2_with (fail)
  go_loopw [3, 11] (fun o i wr => ∃ (k : Nat) (A' : Option Addr) (c' : Nat), k ≤ l.length ∧ i = .int .i64 k ∧ o = .slice A' ((l.take k).map itW).length c' ∧ wr.ownsRow w.heap.size 9 1 (.slice A' ((l.take k).map itW).length c') ((l.take k).map itW).length (cellsOf 1 strC ((l.take k).map itW)) ∧ Below w.heap.size w wr) (fun _ i _ => l.length - (intOf i).toNat)
  case atStart => exact ⟨0, none, 0, Nat.zero_le _, rfl, rfl, World.ownsRow_nil _ _ _ _, Below.refl _ _⟩
  case round =>
    obtain ⟨k, A', c', hk, rfl, rfl, own, hbr⟩ := hrel
    obtain ⟨wo, rfl⟩ : ∃ wo : World, wo = wr := ⟨_, rfl⟩
    have AR := RowsAt.below hA hbr
    have TR := Lib.hid (HT.out.below hbr)
    have OWN := Lib.hid own
    clear own
    by_cases hlt : k < l.length
    · have hsx : l.take (k + 1) = l.take k ++ [l[k]] := List.take_succ_eq_append_getElem hlt
      have hlen : ((l.take k).map itW).length = k := by simp; omega
      have hokx := Lib.hid (HOK.out _ (List.getElem_mem hlt))
      obtain ⟨b, off, rfl, hb, c0, c1, c2, c3, c4⟩ := ItsAt.at_ AR hlt
      have hk1 : (k : Int) < (l.length : Int) := by omega
      have HSX := Lib.hid (show (l.take (k + 1)).map itW = (l.take k).map itW ++ [itW l[k]] by rw [hsx, List.map_append]; rfl)
      clear hsx
      generalize l[k] = x at *
      have HLEN := Lib.hid hlen
      clear hlen
      generalize (l.take k).map itW = q at *
      have hkm : (k : Int) ≤ 1000 := by omega
      go_wp2_with (fail)
      have hb1 : Below wo.heap.size wo (wo.alloc (.cells #[.int .i64 x.l, .int .i64 x.p, .int .i64 x.t, .int .i64 x.lo, .int .i64 x.hi] 105)) := below_alloc _ (Nat.le_refl _) (Below.refl _ _)
      have x0 : (wo.alloc (.cells #[.int .i64 x.l, .int .i64 x.p, .int .i64 x.t, .int .i64 x.lo, .int .i64 x.hi] 105)).cell? ⟨wo.heap.size, 0, none⟩ = some (.int .i64 x.l) := cell_new (by simp) rfl
      have x1 : (wo.alloc (.cells #[.int .i64 x.l, .int .i64 x.p, .int .i64 x.t, .int .i64 x.lo, .int .i64 x.hi] 105)).cell? ⟨wo.heap.size, 1, none⟩ = some (.int .i64 x.p) := cell_new (by simp) rfl
      have x2 : (wo.alloc (.cells #[.int .i64 x.l, .int .i64 x.p, .int .i64 x.t, .int .i64 x.lo, .int .i64 x.hi] 105)).cell? ⟨wo.heap.size, 2, none⟩ = some (.int .i64 x.t) := cell_new (by simp) rfl
      have x3 : (wo.alloc (.cells #[.int .i64 x.l, .int .i64 x.p, .int .i64 x.t, .int .i64 x.lo, .int .i64 x.hi] 105)).cell? ⟨wo.heap.size, 3, none⟩ = some (.int .i64 x.lo) := cell_new (by simp) rfl
      have x4 : (wo.alloc (.cells #[.int .i64 x.l, .int .i64 x.p, .int .i64 x.t, .int .i64 x.lo, .int .i64 x.hi] 105)).cell? ⟨wo.heap.size, 4, none⟩ = some (.int .i64 x.hi) := cell_new (by simp) rfl
      have zx : wo.heap.size < (wo.alloc (.cells #[.int .i64 x.l, .int .i64 x.p, .int .i64 x.t, .int .i64 x.lo, .int .i64 x.hi] 105)).heap.size := World.block_lt_of_cell? _ _ x0
      generalize (wo.alloc (.cells #[.int .i64 x.l, .int .i64 x.p, .int .i64 x.t, .int .i64 x.lo, .int .i64 x.hi] 105)) = w1 at *
      have hbw1 : Below w.heap.size w w1 := hbr.trans (hb1.mono hbr.size)
      have T1 := Lib.hid (TR.out.below hb1)
      have OWN1 := Lib.hid (own_below OWN.out hb1)
      have hbz : wo.heap.size < w1.heap.size := zx
      have hbz2 : w.heap.size ≤ wo.heap.size := hbr.size
      generalize wo.heap.size = xb at *
      have HP := Lib.hid (parts_any xb x w1 zx x0)
      have HC : Hid (∀ y ∈ itP xb x, PInt w1 y) := Lib.hid fun y hy => by
        simp [itP] at hy
        rcases hy with rfl | rfl | rfl | rfl | rfl
        · exact ⟨x0, hokx.out.l, zx⟩
        · exact ⟨x1, hokx.out.p, zx⟩
        · exact ⟨x2, hokx.out.t, zx⟩
        · exact ⟨x3, hokx.out.lo, zx⟩
        · exact ⟨x4, hokx.out.hi, zx⟩
      have HIW : Hid (wds ((itP xb x).map (·.2)) = itW x) := Lib.hid rfl
      clear x1 x2 x3 x4 c0 c1 c2 c3 c4 OWN TR
      go_wp2_with (first
        | (go_at_call 50; (refine HP.out.mono ?_; rintro e1 w2 ⟨A2, rfl, hpt, hb2⟩; have T2 := Lib.hid (T1.out.below hb2); have HC2 := Lib.hid (fun y hy => (HC.out y hy).below hb2); have OWN2 := Lib.hid (own_below OWN1.out hb2); have hbw2 : Below w.heap.size w w2 := hbw1.trans (hb2.mono hbw1.size); have HWD := Lib.hid (words_any A2 (itP xb x) 5 w2 (show 5 ≤ 1000 by decide) HC2.out hpt T2.out); clear HP HC HC2 OWN1 T1 T2 hpt hb2 x0 hb1 hbr hbw1 AR))
        | (go_at_call 49; refine HWD.out.mono ?_; rintro e1 w3 ⟨rfl, hb3⟩; have OWN3 := Lib.hid (own_below OWN2.out hb3); have hbw3 : Below w.heap.size w w3 := hbw2.trans (hb3.mono hbw2.size); rw [HIW.out]; generalize itW x = s at *; clear HIW HWD OWN2 hb3 hbw2)
        | (at_builtin; (refine wpList_append_rows _ rfl (.tmp 15) (.tmp 18) 106 rfl w.heap.size 9 i0 (.string ⟨#[]⟩) 1 16 Tryd.underlying106 HI.out HZ0.out HZ1.out HZ2.out rfl (by decide) A' q.length c' (cellsOf 1 strC q) rfl (World.ownsRow.alloc OWN3.out _) (some ⟨_, 0, none⟩) 1 1 [.string s] rfl rfl (fun h => by cases h) (fun ad h => by cases h; exact newsStr (blk_new rfl)) (fun u hu => by simp at hu; subst hu; rfl) (by have := HLEN.out; unfold maxLen; omega) (by have := HLEN.out; omega) (by have := hbw3.size; simp; omega) ?_; intro A2' c2' w4 h1 h2 h3)))
      have hL : (q ++ [s]).length = q.length + 1 := by simp
      have h4 : w4.ownsRow w.heap.size 9 1 (.slice A2' (q ++ [s]).length c2') (q ++ [s]).length (cellsOf 1 strC (q ++ [s])) := by rw [hL, cellsOf_append]; exact h1
      have h5 : Below w.heap.size w w4 := below_own (below_alloc _ (Nat.le_refl _) hbw3) h2 (World.ownsRow.alloc OWN3.out _) (Nat.le_refl _) (by have := hbw3.size; simp; omega)
      rw [← HSX.out] at h4 hL
      have HL := Lib.hid hL
      clear h1 h2 h3 hL OWN3
      go_wp2_with (fail)
      exact ⟨⟨k + 1, A2', c2', by omega, by go_num, by rw [HL.out], h4, h5⟩, by simp [intOf]; omega⟩
    · have hk2 : k = l.length := by omega
      subst hk2
      have hlen : ((l.take l.length).map itW) = l.map itW := by rw [List.take_length]
      rw [hlen] at OWN ⊢
      have hq2 : ∀ x ∈ l.map itW, x.data.size ≤ 105 := fun z hz => by
        obtain ⟨y, hy, rfl⟩ := List.mem_map.1 hz
        exact itW_len (HOK.out y hy)
      have hq3 : (l.map itW).length ≤ 1000 := by simpa using hl
      clear hlen
      generalize l.map itW = q at *
      have hA3 : StrsAt wo A' q := rowsAt_of_own OWN.out rfl (by decide)
      have hcap : q.length ≤ c' := own_cap OWN.out
      have H2 := Lib.hid (join_any A' q c' ⟨#[44]⟩ wo 105 hA3 hcap hq3 hq2 (by decide))
      clear hq2 hA3 OWN AR
      go_wp2_with (fail)
      go_wp2_with (go_at_call 51; refine H2.out.mono ?_; rintro e1 w1 ⟨rfl, hb1⟩)
      have hbw1 : Below w.heap.size w w1 := hbr.trans (hb1.mono hbr.size)
      go_wp2_with (fail)
      go_ret
      exact ⟨by rw [HW.out]; rfl, hbw1⟩
end Go.Proofs.YtlnbbioponmcfaaDoor
