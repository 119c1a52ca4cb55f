/-
  The strings' small functions: what the library's functions give (Split, Atoi, TrimPrefix), words read as numbers.
-/
import Derived.Test.YtlnbbioponmcfaaGreatDoorStrC
import Derived.Test.YtlnbbioponmcfaaGreatDoorStrD
import Derived.Lib.AtoiErrMem
namespace Go.Proofs.YtlnbbioponmcfaaGreatDoor
open Go.ChangeShapes Go.WideShapes Go.ChangeAt Go.RowKit
set_option linter.unusedVariables false
set_option linter.unusedSimpArgs false

theorem gMax : Tryz.prog.globalNamed "internal/bytealg.MaxLen" = some 4 := by kernel_rfl
theorem gSyn : Tryz.prog.globalNamed "strconv.ErrSyntax" = some 0 := by kernel_rfl
theorem gRng : Tryz.prog.globalNamed "strconv.ErrRange" = some 1 := by kernel_rfl
/-- what the library's variables hold; their blocks lie below B -/
structure Evn (B : Nat) (w : World) : Prop where
  t : Tab w
  m : ∃ m : Int, w.cell? ⟨4, 0, none⟩ = some (.int .i64 m)
  s : ∃ (tp : TypeId) (p : Value), w.var? Tryz.prog "strconv.ErrSyntax" = some #[.iface tp p]
  r : ∃ (tp : TypeId) (p : Value), w.var? Tryz.prog "strconv.ErrRange" = some #[.iface tp p]
  z : Tryz.prog.globals.size ≤ B
theorem var_low {n : String} {g B : Nat} {w w' : World} {cs : Array Value} (hg : Tryz.prog.globalNamed n = some g) (hz : g < B) (hb : Below B w w') (h : w.var? Tryz.prog n = some cs) : w'.var? Tryz.prog n = some cs := by
  unfold World.var? at h ⊢
  rw [hg] at h ⊢
  simp only [Option.bind_some] at h ⊢
  rw [hb.block g hz]
  exact h
theorem gPow2 : Tryz.prog.globalNamed "internal/strconv.uint64pow10" = some 5 := by kernel_rfl
theorem lt_globals : 4 < Tryz.prog.globals.size ∧ 0 < Tryz.prog.globals.size ∧ 1 < Tryz.prog.globals.size ∧ 5 < Tryz.prog.globals.size :=
  ⟨of_decide_eq_true (by kernel_rfl), of_decide_eq_true (by kernel_rfl), of_decide_eq_true (by kernel_rfl), of_decide_eq_true (by kernel_rfl)⟩
theorem Evn.low {B : Nat} {w w' : World} (h : Evn B w) (hb : Below B w w') : Evn B w' := by
  obtain ⟨h1, h2, h3, h4⟩ := lt_globals
  obtain ⟨m, hm⟩ := h.m
  obtain ⟨t1, p1, hs⟩ := h.s
  obtain ⟨t2, p2, hr⟩ := h.r
  have hz := h.z
  exact ⟨var_low gPow2 (by omega) hb h.t, ⟨m, (hb.cell (show 4 < B by omega)).trans hm⟩, ⟨t1, p1, var_low gSyn (by omega) hb hs⟩, ⟨t2, p2, var_low gRng (by omega) hb hr⟩, hz⟩
theorem Evn.up {B C : Nat} {w : World} (h : Evn B w) (hBC : B ≤ C) : Evn C w := ⟨h.t, h.m, h.s, h.r, Nat.le_trans h.z hBC⟩
theorem Evn.below {B : Nat} {w w' : World} (h : Evn B w) (hB : B ≤ w.heap.size) (hb : Below w.heap.size w w') : Evn B w' := h.low (hb.mono hB)
theorem split_any (s : ByteArray) (c : UInt8) (w : World) {B : Nat} (hE : Evn B w) (hs : s.size ≤ 1000000) :
    Calls Tryz.prog 62 #[.string s, .string ⟨#[c]⟩] w fun e w' => e = .returned (.slice (some ⟨w.heap.size, 0, none⟩) (cutB c s).length (cutB c s).length) ∧ StrsAt w' (some ⟨w.heap.size, 0, none⟩) (cutB c s) ∧ Below w.heap.size w w' := by
  obtain ⟨m, hm⟩ := hE.m
  refine (shf_strings_Split s ⟨#[c]⟩ m w (by omega) hm (Nat.le_refl 1)).mono ?_
  rintro e w' ⟨rfl, rfl⟩
  rw [splitB_cut, ← cutB_len]
  refine ⟨rfl, fun k x hk => ⟨w.heap.size, 0, rfl, by simp, fun j hj => ?_⟩, below_alloc _ (Nat.le_refl _) (Below.refl _ w)⟩
  obtain rfl : j = 0 := by omega
  have hk2 : k < (cutB c s).length := (List.getElem?_eq_some_iff.1 hk).1
  refine cell_new (by simp) ?_
  simp [List.getElem?_map, hk]
/-- the number that Atoi gives; whether there is an error -/
theorem atoi_any (s : ByteArray) (w : World) {B : Nat} (hE : Evn B w) (hB : B ≤ w.heap.size) (hs : s.size ≤ 1000000) :
    Calls Tryz.prog 63 #[.string s] w fun e w' => (∃ v : Int, Lib.atoiAll s.data.toList = .ok v ∧ I64 v ∧ e = .returned (.tuple #[.int .i64 v, .nilIface]) ∧ Below w.heap.size w w') ∨
      (∃ (v : Int) (tp : TypeId) (p : Value), (∀ u, Lib.atoiAll s.data.toList ≠ .ok u) ∧ e = .returned (.tuple #[.int .i64 v, .iface tp p]) ∧ Below w.heap.size w w') := by
  obtain ⟨t1, p1, hs1⟩ := hE.s
  obtain ⟨t2, p2, hr1⟩ := hE.r
  cases ha : Lib.atoiAll s.data.toList with
  | ok v =>
    refine (shf_strconv_Atoi_ok s (by omega) v ha w).mono ?_
    rintro e w' ⟨rfl, h⟩
    refine Or.inl ⟨v, rfl, Lib.atoiAll_bounds ha, rfl, ?_⟩
    rcases h with rfl | ⟨t, rfl⟩
    · exact Below.refl _ _
    · exact Lib.bytesWorld_below w _ _
  | «syntax» =>
    refine (shf_strconv_Atoi_syntax_var s (by omega) ha t1 p1 w hs1).mono ?_
    rintro e w' ⟨N, rfl, _, _, hb⟩
    exact Or.inr ⟨_, _, _, fun u h => (by cases h), rfl, hb⟩
  | range =>
    refine (shf_strconv_Atoi_range_var s (by omega) ha t2 p2 w hr1).mono ?_
    rintro e w' ⟨N, rfl, _, _, hb⟩
    exact Or.inr ⟨_, _, _, fun u h => (by cases h), rfl, hb⟩
theorem trim_any (s : ByteArray) (w : World) :
    Calls Tryz.prog 65 #[.string s, .string ⟨#[45]⟩] w fun e w' => e = .returned (.string (toBA (magL s.data.toList))) ∧ w' = w := shf_strings_TrimPrefix s ⟨#[45]⟩ w
theorem toBA_size (l : List UInt8) : (toBA l).size = l.length := by simp [toBA, ByteArray.size]
/-- words as numbers of at most d digits -/
def pars (d : Nat) : List ByteArray → Option (List Int)
  | [] => some []
  | x :: r => match numB d x with
    | none => none
    | some v => (pars d r).map (v :: ·)
theorem pars_none {d : Nat} : ∀ {xs : List ByteArray} {k : Nat} (hk : k < xs.length), numB d xs[k] = none → pars d xs = none
  | [], k, hk, _ => by simp at hk
  | x :: r, 0, hk, h => by simp only [List.getElem_cons_zero] at h; simp [pars, h]
  | x :: r, k + 1, hk, h => by
    simp only [List.getElem_cons_succ] at h
    simp only [pars]
    rw [pars_none (by simpa using hk) h]
    cases numB d x <;> rfl
theorem pars_snoc {d : Nat} : ∀ {xs : List ByteArray} {vs : List Int} {x : ByteArray} {v : Int}, pars d xs = some vs → numB d x = some v → pars d (xs ++ [x]) = some (vs ++ [v])
  | [], vs, x, v, h, hv => by
    obtain rfl : [] = vs := by simpa [pars] using h
    simp [pars, hv]
  | y :: r, vs, x, v, h, hv => by
    simp only [pars] at h
    cases hy : numB d y with
    | none => rw [hy] at h; cases h
    | some u =>
      rw [hy] at h
      cases hr : pars d r with
      | none => rw [hr] at h; cases h
      | some l =>
        rw [hr] at h
        obtain rfl : u :: l = vs := by simpa using h
        simp only [List.cons_append, pars, hy]
        rw [pars_snoc hr hv]
        rfl
theorem pars_len {d : Nat} : ∀ {xs : List ByteArray} {vs : List Int}, pars d xs = some vs → vs.length = xs.length
  | [], vs, h => by
    obtain rfl : [] = vs := by simpa [pars] using h
    rfl
  | y :: r, vs, h => by
    simp only [pars] at h
    cases hy : numB d y with
    | none => rw [hy] at h; cases h
    | some u =>
      rw [hy] at h
      cases hr : pars d r with
      | none => rw [hr] at h; cases h
      | some l =>
        rw [hr] at h
        obtain rfl : u :: l = vs := by simpa using h
        simp [pars_len hr]
theorem pars_bd {d : Nat} : ∀ {xs : List ByteArray} {vs : List Int}, pars d xs = some vs → ∀ v ∈ vs, v.natAbs < 10 ^ d
  | [], vs, h, v, hv => by
    obtain rfl : [] = vs := by simpa [pars] using h
    cases hv
  | y :: r, vs, h, v, hv => by
    simp only [pars] at h
    cases hy : numB d y with
    | none => rw [hy] at h; cases h
    | some u =>
      rw [hy] at h
      cases hr : pars d r with
      | none => rw [hr] at h; cases h
      | some l =>
        rw [hr] at h
        obtain rfl : u :: l = vs := by simpa using h
        rcases List.mem_cons.1 hv with rfl | hv
        · exact numQ_bound hy
        · exact pars_bd hr v hv
/-- so many words as numbers of at most d digits -/
def parsQ (n d : Nat) (s : ByteArray) : Option (List Int) := if (cutB 32 s).length = n then pars d (cutB 32 s) else none
theorem parsQ_len {n d : Nat} {s : ByteArray} {l : List Int} (h : parsQ n d s = some l) : l.length = n := by
  unfold parsQ at h
  split at h
  · rename_i he
    rw [pars_len h, he]
  · cases h
theorem parsQ_bd {n d : Nat} {s : ByteArray} {l : List Int} (h : parsQ n d s = some l) : ∀ v ∈ l, v.natAbs < 10 ^ d := by
  unfold parsQ at h
  split at h
  · exact pars_bd h
  · cases h
theorem cutA_small (c : UInt8) : ∀ (l cur : List UInt8), (cutA c cur l).length ≤ l.length + 1 ∧ ∀ x ∈ cutA c cur l, x.length ≤ cur.length + l.length
  | [], cur => ⟨by simp [cutA], fun x hx => by simp [cutA] at hx; subst hx; simp⟩
  | y :: r, cur => by
    simp only [cutA]
    split
    · obtain ⟨h1, h2⟩ := cutA_small c r []
      refine ⟨by simp; omega, fun x hx => ?_⟩
      rcases List.mem_cons.1 hx with rfl | hx
      · omega
      · have := h2 x hx; simp at this; simp; omega
    · obtain ⟨h1, h2⟩ := cutA_small c r (cur ++ [y])
      refine ⟨by simp; omega, fun x hx => ?_⟩
      have := h2 x hx
      simp at this
      simp
      omega
theorem cutB_small (c : UInt8) (s : ByteArray) : (cutB c s).length ≤ s.size + 1 ∧ ∀ x ∈ cutB c s, x.size ≤ s.size := by
  obtain ⟨h1, h2⟩ := cutA_small c s.data.toList []
  rw [len_list] at h1
  refine ⟨by rw [cutB_eq, List.length_map]; exact h1, fun x hx => ?_⟩
  rw [cutB_eq] at hx
  obtain ⟨y, hy, rfl⟩ := List.mem_map.1 hx
  have := h2 y hy
  rw [len_list] at this
  rw [toBA_size]
  simpa using this
end Go.Proofs.YtlnbbioponmcfaaGreatDoor
