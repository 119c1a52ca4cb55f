/-
  Plain laws of strings: decimal numbers read and written, a string cut at a byte.
-/
import Derived.Lib.AtoiTie
import Derived.Lib.ItoaNum
import Derived.Lib.Itoa
import Derived.Lib.Strings
import Derived.Lib.Split
import Derived.Lib.SplitLaws
import Derived.Lib.Join
namespace Go.Proofs.YtlnbbioponmcfaaGreatDoor
set_option linter.unusedVariables false
set_option linter.unusedSimpArgs false

theorem decFrom_snoc : ∀ (l : List UInt8) (acc : Nat) (c : UInt8), Lib.decFrom acc (l ++ [c]) = (Lib.decFrom acc l).bind fun n => (Lib.digitVal c).map fun d => n * 10 + d
  | [], acc, c => by
    simp only [List.nil_append, Lib.decFrom, Option.bind_some]
    cases Lib.digitVal c <;> rfl
  | x :: r, acc, c => by
    simp only [List.cons_append, Lib.decFrom]
    cases h : Lib.digitVal x with
    | none => rfl
    | some d => exact decFrom_snoc r _ c
theorem digitVal_of {d : Nat} (h : d < 10) : Lib.digitVal (UInt8.ofNat (48 + d)) = some d := by
  have : ∀ x : Fin 10, Lib.digitVal (UInt8.ofNat (48 + x.val)) = some x.val := by decide +kernel
  exact this ⟨d, h⟩
theorem digitVal_inv {c : UInt8} {d : Nat} (h : Lib.digitVal c = some d) : d < 10 ∧ c = UInt8.ofNat (48 + d) := by
  obtain ⟨h1, h2, h3⟩ := Lib.digitVal_eq h
  refine ⟨by omega, ?_⟩
  apply UInt8.toNat_inj.1
  rw [UInt8.toNat_ofNat']
  omega
theorem decDigits_ge {u : Nat} (h : 10 ≤ u) : Lib.decDigits u = Lib.decDigits (u / 10) ++ [UInt8.ofNat (48 + u % 10)] := by
  rw [Lib.decDigits, dif_neg (by omega)]
/-- the digits of a number are read as it -/
theorem decFrom_digits : ∀ (k u : Nat), u ≤ k → Lib.decFrom 0 (Lib.decDigits u) = some u
  | 0, u, h => by obtain rfl : u = 0 := by omega
                  rw [Lib.decDigits_one (by decide)]; rfl
  | k + 1, u, h => by
    by_cases h1 : u < 10
    · rw [Lib.decDigits_one h1]
      have := digitVal_of h1
      simp only [Lib.decFrom, this]
      simp
    · rw [decDigits_ge (by omega), decFrom_snoc, decFrom_digits k (u / 10) (by omega), digitVal_of (by omega)]
      simp
      omega
theorem decDigits_ne (u : Nat) : Lib.decDigits u ≠ [] := by
  intro h
  have h1 := Lib.decDigits_length u
  have h2 := Lib.nDigits_pos u
  rw [h] at h1
  simp at h1
  omega
theorem decFrom_all : ∀ (l : List UInt8) (acc n : Nat), Lib.decFrom acc l = some n → ∀ c ∈ l, 48 ≤ c.toNat ∧ c.toNat ≤ 57
  | [], _, _, _, _, h => by cases h
  | x :: r, acc, n, h, c, hc => by
    simp only [Lib.decFrom] at h
    cases hd : Lib.digitVal x with
    | none => rw [hd] at h; cases h
    | some d =>
      rw [hd] at h
      rcases List.mem_cons.1 hc with rfl | hc
      · have := Lib.digitVal_eq hd; omega
      · exact decFrom_all r _ n h c hc
theorem digits_all (u : Nat) : ∀ c ∈ Lib.decDigits u, 48 ≤ c.toNat ∧ c.toNat ≤ 57 := decFrom_all _ 0 u (decFrom_digits u u (Nat.le_refl _))
/-- whoever reads a number without a leading zero reads its digits -/
theorem digits_of_dec : ∀ (k : Nat) (l : List UInt8) (m : Nat), l.length ≤ k → l ≠ [] → Lib.decFrom 0 l = some m → (l.head? ≠ some 48 ∨ l = [48]) → Lib.decDigits m = l
  | 0, l, m, hk, hn, _, _ => by cases l with
    | nil => exact absurd rfl hn
    | cons _ _ => simp at hk
  | k + 1, l, m, hk, hn, hd, h0 => by
    rcases List.eq_nil_or_concat l with rfl | ⟨r, c, rfl⟩
    · exact absurd rfl hn
    have hk' : r.length ≤ k := by
      rw [List.length_concat] at hk
      omega
    clear hk
    rw [List.concat_eq_append] at *
    rw [decFrom_snoc] at hd
    cases hr : Lib.decFrom 0 r with
    | none => rw [hr] at hd; cases hd
    | some n =>
      rw [hr, Option.bind_some] at hd
      cases hc : Lib.digitVal c with
      | none => rw [hc] at hd; cases hd
      | some d =>
        rw [hc] at hd
        obtain ⟨hd10, rfl⟩ := digitVal_inv hc
        obtain rfl : n * 10 + d = m := by simpa using hd
        by_cases hrn : r = []
        · subst hrn
          obtain rfl : 0 = n := by simpa [Lib.decFrom] using hr
          rw [Nat.zero_mul, Nat.zero_add, Lib.decDigits_one hd10]
          rfl
        · have hh : r.head? ≠ some 48 := by
            rcases h0 with h0 | h0
            · intro e
              apply h0
              cases r with
              | nil => exact absurd rfl hrn
              | cons x q => simpa using e
            · exfalso
              have := congrArg List.length h0
              simp at this
              exact hrn this
          have ih := digits_of_dec k r n hk' hrn hr (Or.inl hh)
          have hn1 : n ≠ 0 := by
            intro e
            subst e
            rw [Lib.decDigits_one (by decide)] at ih
            rw [← ih] at hh
            exact hh rfl
          rw [decDigits_ge (by omega), show (n * 10 + d) / 10 = n by omega, show (n * 10 + d) % 10 = d by omega, ih]
theorem digits_head {u : Nat} (h : u ≠ 0) : (Lib.decDigits u).head? ≠ some 48 := by
  have : ∀ k u : Nat, u ≤ k → u ≠ 0 → (Lib.decDigits u).head? ≠ some 48 := by
    intro k
    induction k with
    | zero => intro u h1 h2; omega
    | succ k ih =>
      intro u h1 h2
      by_cases h3 : u < 10
      · rw [Lib.decDigits_one h3]
        intro e
        have h4 : ∀ x : Fin 10, x.val ≠ 0 → UInt8.ofNat (48 + x.val) ≠ 48 := by decide +kernel
        exact h4 ⟨u, h3⟩ h2 (by simpa using e)
      · rw [decDigits_ge (by omega)]
        have h5 := ih (u / 10) (by omega) (by omega)
        cases hd : Lib.decDigits (u / 10) with
        | nil => exact absurd hd (decDigits_ne _)
        | cons x q => rw [hd] at h5; simpa using h5
  exact this u u (Nat.le_refl _) h
def negQ (d : Nat) (r : List UInt8) : Option Int := if r = [] ∨ d < r.length ∨ r.head? = some 48 then none else (Lib.decFrom 0 r).map fun (m : Nat) => -(m : Int)
def posQ (d : Nat) (l : List UInt8) : Option Int := if l = [] ∨ d < l.length ∨ (l.head? = some 48 ∧ 1 < l.length) then none else (Lib.decFrom 0 l).map fun (m : Nat) => (m : Int)
/-- a number of at most d digits with a string -/
def numQ (d : Nat) (l : List UInt8) : Option Int := if l.head? = some 45 then negQ d l.tail else posQ d l
/-- the digits behind the sign -/
def magL (l : List UInt8) : List UInt8 := Lib.trimPrefix l [45]
theorem magL_minus (r : List UInt8) : magL (45 :: r) = r := by simp [magL, Lib.trimPrefix, Lib.hasPrefix]
theorem magL_other {l : List UInt8} (h : l.head? ≠ some 45) : magL l = l := by
  unfold magL Lib.trimPrefix
  rw [if_neg]
  intro e
  apply h
  cases l with
  | nil => simp [Lib.hasPrefix] at e
  | cons x q =>
    have e2 : 45 = x := by simpa [Lib.hasPrefix] using e
    rw [e2]; rfl
theorem itoa_nonneg {v : Int} (h : 0 ≤ v) : Lib.itoa v = Lib.decDigits v.toNat := by unfold Lib.itoa; rw [if_neg (by omega)]
theorem itoa_neg {v : Int} (h : v < 0) : Lib.itoa v = 45 :: Lib.decDigits v.natAbs := by unfold Lib.itoa; rw [if_pos h]
theorem digits_no45 (u : Nat) : (Lib.decDigits u).head? ≠ some 45 := by
  intro e
  have h := digits_all u 45 (List.mem_of_mem_head? e)
  revert h
  decide
theorem numQ_iff (d : Nat) (l : List UInt8) (v : Int) : numQ d l = some v ↔ Lib.itoa v = l ∧ (magL l).length ≤ d := by
  constructor
  · intro h
    unfold numQ at h
    by_cases hm : l.head? = some 45
    · obtain ⟨r, rfl⟩ : ∃ r, l = 45 :: r := by
        cases l with
        | nil => cases hm
        | cons x q => exact ⟨q, by rw [List.head?_cons, Option.some.injEq] at hm; rw [hm]⟩
      rw [if_pos hm, List.tail_cons] at h
      unfold negQ at h
      by_cases hc : r = [] ∨ d < r.length ∨ r.head? = some 48
      · rw [if_pos hc] at h; cases h
      · rw [if_neg hc] at h
        simp only [not_or] at hc
        obtain ⟨c1, c2, c3⟩ := hc
        cases hd : Lib.decFrom 0 r with
        | none => rw [hd] at h; cases h
        | some m =>
          rw [hd] at h
          obtain rfl : -(m : Int) = v := by simpa using h
          have e := digits_of_dec _ r m (Nat.le_refl _) c1 hd (Or.inl c3)
          have hm0 : m ≠ 0 := fun e0 => by
            subst e0
            rw [Lib.decDigits_one (by decide)] at e
            rw [← e] at c3
            exact c3 rfl
          refine ⟨?_, by rw [magL_minus]; omega⟩
          rw [itoa_neg (by omega), show (-(m : Int)).natAbs = m by omega, e]
    · rw [if_neg hm] at h
      unfold posQ at h
      by_cases hc : l = [] ∨ d < l.length ∨ (l.head? = some 48 ∧ 1 < l.length)
      · rw [if_pos hc] at h; cases h
      · rw [if_neg hc] at h
        simp only [not_or, not_and] at hc
        obtain ⟨c1, c2, c3⟩ := hc
        cases hd : Lib.decFrom 0 l with
        | none => rw [hd] at h; cases h
        | some m =>
          rw [hd] at h
          obtain rfl : (m : Int) = v := by simpa using h
          have e := digits_of_dec _ l m (Nat.le_refl _) c1 hd (by
            by_cases h48 : l.head? = some 48
            · right
              have := c3 h48
              cases l with
              | nil => exact absurd rfl c1
              | cons x q =>
                simp at this
                subst this
                simpa using h48
            · exact Or.inl h48)
          refine ⟨?_, by rw [magL_other hm]; omega⟩
          rw [itoa_nonneg (by omega), show ((m : Int)).toNat = m by omega, e]
  · rintro ⟨rfl, hlen⟩
    unfold numQ
    by_cases hv : v < 0
    · rw [itoa_neg hv] at hlen ⊢
      rw [magL_minus] at hlen
      rw [if_pos (show (45 :: Lib.decDigits v.natAbs).head? = some 45 from rfl), List.tail_cons]
      unfold negQ
      rw [if_neg, decFrom_digits _ _ (Nat.le_refl _)]
      · show some (-((v.natAbs : Nat) : Int)) = some v
        congr 1
        omega
      · simp only [not_or]
        exact ⟨decDigits_ne _, by omega, digits_head (by omega)⟩
    · rw [itoa_nonneg (by omega)] at hlen ⊢
      rw [magL_other (digits_no45 _)] at hlen
      rw [if_neg (digits_no45 _)]
      unfold posQ
      rw [if_neg, decFrom_digits _ _ (Nat.le_refl _)]
      · show some ((v.toNat : Nat) : Int) = some v
        congr 1
        omega
      · simp only [not_or, not_and]
        refine ⟨decDigits_ne _, by omega, fun h => ?_⟩
        by_cases h0 : v.toNat = 0
        · rw [h0, Lib.decDigits_one (by decide)]
          simp
        · exact absurd h (digits_head h0)
theorem decNat_digits (u : Nat) : Lib.decNat (Lib.decDigits u) = some u := by
  unfold Lib.decNat
  rw [decFrom_digits _ _ (Nat.le_refl _)]
  have := decDigits_ne u
  cases h : Lib.decDigits u with
  | nil => exact absurd h this
  | cons x q => rfl
theorem atoi_itoa {v : Int} (h : (Lib.itoa v).length ≤ 18) : Lib.atoiAll (Lib.itoa v) = .ok v := by
  by_cases hv : v < 0
  · rw [itoa_neg hv] at h ⊢
    rw [Lib.atoiAll_minus, Lib.signed_short (by simp at h; omega), decNat_digits]
    show Lib.NumEnd.ok (-((v.natAbs : Nat) : Int)) = _
    congr 1
    omega
  · rw [itoa_nonneg (by omega)] at h ⊢
    have hd := digits_all v.toNat
    cases hx : Lib.decDigits v.toNat with
    | nil => exact absurd hx (decDigits_ne _)
    | cons x q =>
      have hx1 := hd x (by rw [hx]; simp)
      rw [Lib.atoiAll_plain x q (by have := hx1; omega) (by have := hx1; omega), ← hx, Lib.signless_short h, decNat_digits]
      show Lib.NumEnd.ok ((v.toNat : Nat) : Int) = _
      congr 1
      omega
/-- reading by Atoi and by the reference -/
theorem numQ_atoi (d : Nat) (hd : d ≤ 17) (l : List UInt8) : numQ d l = match Lib.atoiAll l with
    | .ok v => if Lib.itoa v = l ∧ (magL l).length ≤ d then some v else none
    | _ => none := by
  cases hq : numQ d l with
  | some v =>
    obtain ⟨h1, h2⟩ := (numQ_iff d l v).1 hq
    have h3 : l.length ≤ 18 := by
      by_cases hm : l.head? = some 45
      · cases l with
        | nil => cases hm
        | cons x q =>
          rw [List.head?_cons, Option.some.injEq] at hm
          subst hm
          rw [magL_minus] at h2
          simp
          omega
      · rw [magL_other hm] at h2; omega
    rw [← h1, atoi_itoa (by rw [h1]; exact h3), h1]
    simp only
    rw [if_pos ⟨h1, h2⟩]
  | none =>
    cases ha : Lib.atoiAll l with
    | ok v =>
      simp only
      rw [if_neg]
      intro h
      have := (numQ_iff d l v).2 h
      rw [hq] at this
      cases this
    | «syntax» => rfl
    | range => rfl
theorem numQ_itoa {d : Nat} {v : Int} (h : v.natAbs < 10 ^ d) (hd : 0 < d) : numQ d (Lib.itoa v) = some v := by
  have hn : Lib.nDigits v.natAbs ≤ d := by
    rcases Nat.lt_or_ge d (Lib.nDigits v.natAbs) with h1 | h1
    · exfalso
      have h2 : ∀ (k u : Nat), u < 10 ^ (k + 1) → Lib.nDigits u ≤ k + 1 := by
        intro k
        induction k with
        | zero => intro u hu; rw [Lib.nDigits_small (by simpa using hu)]; exact Nat.le_refl _
        | succ k ih =>
          intro u hu
          by_cases h10 : u < 10
          · rw [Lib.nDigits_small h10]; omega
          · rw [Lib.nDigits_big h10]
            have := ih (u / 10) (Nat.div_lt_of_lt_mul (by rw [Nat.pow_succ] at hu; omega))
            omega
      obtain ⟨e, rfl⟩ : ∃ e, d = e + 1 := ⟨d - 1, by omega⟩
      have := h2 e _ h
      omega
    · exact h1
  refine (numQ_iff d _ v).2 ⟨rfl, ?_⟩
  by_cases hv : v < 0
  · rw [itoa_neg hv, magL_minus, Lib.decDigits_length]; exact hn
  · rw [itoa_nonneg (by omega), magL_other (digits_no45 _), Lib.decDigits_length, show v.toNat = v.natAbs by omega]; exact hn
theorem numQ_bound {d : Nat} {l : List UInt8} {v : Int} (h : numQ d l = some v) : v.natAbs < 10 ^ d := by
  obtain ⟨h1, h2⟩ := (numQ_iff d l v).1 h
  have h3 : Lib.nDigits v.natAbs ≤ d := by
    subst h1
    by_cases hv : v < 0
    · rw [itoa_neg hv, magL_minus, Lib.decDigits_length] at h2; exact h2
    · rw [itoa_nonneg (by omega), magL_other (digits_no45 _), Lib.decDigits_length, show v.toNat = v.natAbs by omega] at h2; exact h2
  exact Nat.lt_of_lt_of_le (Lib.lt_pow_nDigits _) (Nat.pow_le_pow_right (by decide) h3)

/-! ## cutting -/
/-- a string cut at a byte; `cur` is what has been passed of the piece -/
def cutA (c : UInt8) (cur : List UInt8) : List UInt8 → List (List UInt8)
  | [] => [cur]
  | x :: r => if x = c then cur :: cutA c [] r else cutA c (cur ++ [x]) r
def cutL (c : UInt8) (l : List UInt8) : List (List UInt8) := cutA c [] l
theorem cutA_app (c : UInt8) : ∀ (p cur r : List UInt8), c ∉ p → cutA c cur (p ++ r) = cutA c (cur ++ p) r
  | [], cur, r, _ => by simp
  | x :: q, cur, r, h => by
    simp only [List.mem_cons, not_or] at h
    simp only [List.cons_append, cutA]
    rw [if_neg (fun e => h.1 e.symm), cutA_app c q _ r h.2]
    simp
theorem cutL_none {c : UInt8} {l : List UInt8} (h : c ∉ l) : cutL c l = [l] := by
  have := cutA_app c l [] [] h
  simpa [cutL, cutA] using this
theorem cutL_cons {c : UInt8} {p r : List UInt8} (h : c ∉ p) : cutL c (p ++ c :: r) = p :: cutL c r := by
  unfold cutL
  rw [cutA_app c p [] _ h]
  simp [cutA]
theorem cutL_join (c : UInt8) : ∀ (ps : List (List UInt8)), ps ≠ [] → (∀ p ∈ ps, c ∉ p) → cutL c (Lib.join ps [c]) = ps
  | [], h, _ => absurd rfl h
  | [p], _, h => by rw [Lib.join_one]; exact cutL_none (h p (by simp))
  | p :: q :: r, _, h => by
    have e : Lib.join (p :: q :: r) [c] = p ++ c :: Lib.join (q :: r) [c] := by
      rw [Lib.join_cons, Lib.join_cons]
      simp [Lib.joinTail]
    rw [e, cutL_cons (h p (by simp)), cutL_join c (q :: r) (by simp) (fun x hx => h x (by simp [hx]))]
theorem cutA_ne (c : UInt8) : ∀ (l cur : List UInt8), cutA c cur l ≠ []
  | [], cur => by simp [cutA]
  | x :: r, cur => by
    simp only [cutA]
    split
    · simp
    · exact cutA_ne c r _
theorem cutL_ne (c : UInt8) (l : List UInt8) : cutL c l ≠ [] := cutA_ne c l []
theorem index_one_none {c : UInt8} {l : List UInt8} (h : Lib.index l [c] = -1) : c ∉ l := by
  intro hm
  have h1 := Lib.count_miss h
  rw [Lib.count_one] at h1
  exact absurd h1 (by have := List.count_pos_iff.2 hm; omega)
theorem index_cons_ne {x c : UInt8} {l : List UInt8} (h : x ≠ c) : Lib.index (x :: l) [c] = if Lib.index l [c] == -1 then -1 else Lib.index l [c] + 1 := by
  have := Lib.index_drop (s := x :: l) (sub := [c]) (i := 1) (fun j hj => by
    obtain rfl : j = 0 := by omega
    simp [Lib.occAt, List.isPrefixOf]
    exact fun e => h e.symm) (by simp)
  simpa using this
theorem index_cons_eq (c : UInt8) (l : List UInt8) : Lib.index (c :: l) [c] = 0 :=
  Lib.index_hit (i := 0) (Lib.NoOcc.zero _ _) (Nat.zero_le _) (by simp [Lib.occAt])
theorem index_nonneg_or {c : UInt8} {l : List UInt8} : Lib.index l [c] = -1 ∨ 0 ≤ Lib.index l [c] := by
    induction l with
    | nil => exact Or.inl rfl
    | cons x r ih =>
      by_cases hx : x = c
      · subst hx; rw [index_cons_eq]; exact Or.inr (Int.le_refl _)
      · rw [index_cons_ne hx]
        split
        · exact Or.inl rfl
        · rename_i h
          rcases ih with ih | ih
          · rw [ih] at h; simp at h
          · right; omega
theorem index_spec (c : UInt8) : ∀ (l : List UInt8) (i : Nat), Lib.index l [c] = i → c ∉ l.take i ∧ l = l.take i ++ c :: l.drop (i + 1)
  | [], i, h => by
    exfalso
    have h1 : Lib.index ([] : List UInt8) [c] = -1 := by rfl
    rw [h1] at h
    omega
  | x :: r, i, h => by
    by_cases hx : x = c
    · subst hx
      rw [index_cons_eq] at h
      obtain rfl : i = 0 := by omega
      simp
    · rw [index_cons_ne hx] at h
      split at h
      · omega
      · rename_i hne
        obtain ⟨j, rfl⟩ : ∃ j, i = j + 1 := by
          refine ⟨i - 1, ?_⟩
          rcases i with _ | i
          · exfalso
            by_cases hm : c ∈ r
            · have h2 := index_nonneg_or (c := c) (l := r)
              rcases h2 with h2 | h2
              · rw [h2] at hne; simp at hne
              · omega
            · have h2 := index_nonneg_or (c := c) (l := r)
              rcases h2 with h2 | h2
              · rw [h2] at hne; simp at hne
              · omega
          · simp
        have ih := index_spec c r j (by omega)
        simp only [List.take_succ_cons, List.drop_succ_cons, List.cons_append, List.mem_cons, not_or]
        exact ⟨⟨fun e => hx e.symm, ih.1⟩, by rw [← ih.2]⟩
theorem splitK_cut (c : UInt8) : ∀ (n : Nat) (l : List UInt8), l.length ≤ n → Lib.splitK [c] 0 (Lib.count l [c]) l = cutL c l
  | 0, l, hn => by
    obtain rfl : l = [] := List.eq_nil_of_length_eq_zero (by omega)
    rfl
  | n + 1, l, hn => by
    rcases index_nonneg_or (c := c) (l := l) with h | h
    · rw [Lib.count_miss h, cutL_none (index_one_none h)]
      rfl
    · obtain ⟨i, hi⟩ : ∃ i : Nat, Lib.index l [c] = i := ⟨(Lib.index l [c]).toNat, by omega⟩
      obtain ⟨h1, h2⟩ := index_spec c l i hi
      rw [Lib.count_hit (by simp) hi, Nat.add_comm, Lib.splitK, if_neg (by rw [hi]; simp), hi]
      simp only [Int.toNat_natCast, Nat.add_zero, List.length_singleton]
      have hl : (l.drop (i + 1)).length ≤ n := by
        have := congrArg List.length h2
        simp only [List.length_append, List.length_cons] at this
        omega
      rw [splitK_cut c n _ hl]
      conv => rhs; rw [h2]
      rw [cutL_cons h1]
theorem split_cut (c : UInt8) (l : List UInt8) : Lib.split l [c] = cutL c l := splitK_cut c _ l (Nat.le_refl _)
/-- the pieces, as strings -/
def cutB (c : UInt8) (s : ByteArray) : List ByteArray := (cutL c s.data.toList).map fun x => ⟨x.toArray⟩
theorem splitB_cut (c : UInt8) (s : ByteArray) : Lib.splitB ⟨#[c]⟩ 0 (Lib.countB s ⟨#[c]⟩) s = cutB c s := by
  have h := Lib.splitB_data ⟨#[c]⟩ 0 (Lib.countB s ⟨#[c]⟩) s
  have h2 : Lib.splitK [c] 0 (Lib.countB s ⟨#[c]⟩) s.data.toList = cutL c s.data.toList := split_cut c s.data.toList
  rw [show (⟨#[c]⟩ : ByteArray).data.toList = [c] from rfl, h2] at h
  unfold cutB
  rw [← h, List.map_map]
  conv => lhs; rw [← List.map_id (Lib.splitB _ _ _ _)]
  apply List.map_congr_left
  intro x _
  rfl
theorem cutB_len (c : UInt8) (s : ByteArray) : (cutB c s).length = Lib.countB s ⟨#[c]⟩ + 1 := by
  rw [← splitB_cut]
  exact Lib.splitB_all ⟨#[c]⟩ (Nat.le_refl 1) 0 _ s rfl
end Go.Proofs.YtlnbbioponmcfaaGreatDoor
