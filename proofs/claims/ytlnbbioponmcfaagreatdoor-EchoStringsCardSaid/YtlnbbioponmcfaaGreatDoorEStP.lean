/-
  Chapter 2: rules and echoes come back from their words (plain).
-/
import Derived.Test.YtlnbbioponmcfaaGreatDoorEItR
import Derived.Test.YtlnbbioponmcfaaGreatDoorERuP
namespace Go.Proofs.YtlnbbioponmcfaaGreatDoor
open Go.ChangeShapes Go.WideShapes Go.ChangeAt Go.RowKit
set_option linter.unusedVariables false
set_option linter.unusedSimpArgs false

theorem itoa_mem {v : Int} {c : UInt8} (h : c ∈ Lib.itoa v) : c.toNat = 45 ∨ (48 ≤ c.toNat ∧ c.toNat ≤ 57) := by
  by_cases hv : v < 0
  · rw [itoa_neg hv] at h
    rcases List.mem_cons.1 h with rfl | h
    · exact Or.inl rfl
    · exact Or.inr (digits_all _ c h)
  · rw [itoa_nonneg (by omega)] at h
    exact Or.inr (digits_all _ c h)
theorem no_byte {v : Int} {c : UInt8} (h1 : c.toNat ≠ 45) (h2 : c.toNat < 48) : c ∉ Lib.itoa v := fun h => by
  rcases itoa_mem h with e | ⟨e, _⟩ <;> omega
theorem strL_wd (l : List Int) : strL (l.map wd) = l.map Lib.itoa := by
  unfold strL
  rw [List.map_map]
  rfl
theorem cut_wds {l : List Int} (h : l ≠ []) : cutB 32 (wds l) = l.map wd := by
  unfold cutB
  have e : (wds l).data.toList = Lib.join (l.map Lib.itoa) [32] := by
    show (Lib.join (strL (l.map wd)) [32]).toArray.toList = _
    rw [strL_wd]
  rw [e, cutL_join 32 _ (by simpa using h) (fun p hp => by
    obtain ⟨v, _, rfl⟩ := List.mem_map.1 hp
    exact no_byte (by decide) (by decide)), List.map_map]
  rfl
theorem numB_wd {d : Nat} {v : Int} (h : v.natAbs < 10 ^ d) (hd : 0 < d) : numB d (wd v) = some v := numQ_itoa h hd
theorem pars_wd {d : Nat} (hd : 0 < d) : ∀ l : List Int, (∀ v ∈ l, v.natAbs < 10 ^ d) → pars d (l.map wd) = some l
  | [], _ => rfl
  | v :: r, h => by
    simp only [List.map_cons, pars, numB_wd (h v (by simp)) hd, pars_wd hd r (fun u hu => h u (by simp [hu]))]
    rfl
theorem parsQ_wds {n d : Nat} {l : List Int} (hl : l.length = n) (hn : 0 < n) (hd : 0 < d) (h : ∀ v ∈ l, v.natAbs < 10 ^ d) : parsQ n d (wds l) = some l := by
  have hne : l ≠ [] := fun e => by rw [e] at hl; simp at hl; omega
  unfold parsQ
  rw [cut_wds hne, if_pos (by simpa using hl), pars_wd hd l h]
theorem rus_back {r : Ru} (h : ruE r = 0) : rusQ (wds (ruL r)) = (r, 0) := by
  have hk := ruE_zero h
  have hb : ∀ v ∈ ruL r, v.natAbs < 10 ^ 10 := fun v hv => by
    obtain ⟨⟨⟨m0, m1, m2, m3⟩, ⟨n0, n1, n2, n3⟩, _⟩, a0, a1, b0, b1, c0, c1, d0, d1, e0, e1, f0, f1⟩ := hk
    simp only [ruL, List.mem_cons, List.not_mem_nil, or_false] at hv
    rcases hv with rfl | rfl | rfl | rfl | rfl | rfl | rfl | rfl | rfl | rfl <;> omega
  have h2 : ruE (ruOf (ruL r)) = 0 := h
  unfold rusQ
  rw [parsQ_wds (n := 10) rfl (by decide) (by decide) hb]
  show (if ruE (ruOf (ruL r)) = 0 then (ruOf (ruL r), (0 : Int)) else (ruZ, ruE (ruOf (ruL r)))) = (r, 0)
  rw [if_pos h2]
  rfl
theorem itE_zero {la : Int} {x : It} (h : itE la x = 0) : rgB x = true ∧ withinB x.t 0 3 = true := by
  unfold itE at h
  cases h1 : rgB x
  · rw [h1, unl_false, firstE_nz (by decide)] at h; cases h
  · rw [h1, unl_true, firstE_z] at h
    cases h2 : withinB x.t 0 3
    · rw [h2, unl_false, firstE_nz (by decide)] at h; cases h
    · exact ⟨rfl, rfl⟩
theorem it_small {la : Int} {x : It} (h : itE la x = 0) : ∀ v ∈ itL x, v.natAbs < 10 ^ 10 := fun v hv => by
  obtain ⟨h1, h2⟩ := itE_zero h
  unfold rgB at h1
  rw [Bool.and_eq_true, Bool.and_eq_true, Bool.and_eq_true, withinB_true, withinB_true, withinB_true, withinB_true] at h1
  rw [withinB_true] at h2
  simp only [itL, List.mem_cons, List.not_mem_nil, or_false] at hv
  rcases hv with rfl | rfl | rfl | rfl | rfl <;> omega
theorem itsE_all : ∀ {l : List It} {la : Int}, itsE la l = 0 → ∀ x ∈ l, ∀ v ∈ itL x, v.natAbs < 10 ^ 10
  | [], _, _, x, hx => by cases hx
  | y :: r, la, h, x, hx => by
    simp only [itsE] at h
    by_cases he : itE la y = 0
    · rw [if_pos he] at h
      rcases List.mem_cons.1 hx with rfl | hx
      · exact it_small he
      · exact itsE_all h x hx
    · rw [if_neg he] at h; exact absurd h he
theorem itW_no {x : It} : (44 : UInt8) ∉ (itW x).data.toList := by
  have e : (itW x).data.toList = Lib.join ((itL x).map Lib.itoa) [32] := by
    show (Lib.join (strL ((itL x).map wd)) [32]).toArray.toList = _
    rw [strL_wd]
  rw [e]
  have : ∀ l : List Int, (44 : UInt8) ∉ Lib.join (l.map Lib.itoa) [32] := by
    intro l
    induction l with
    | nil => simp [Lib.join_nil]
    | cons v r ih =>
      cases r with
      | nil => rw [List.map_cons, List.map_nil, Lib.join_one]; exact no_byte (by decide) (by decide)
      | cons u q =>
        rw [List.map_cons, Lib.join_cons]
        rw [List.map_cons, Lib.join_cons] at ih
        simp only [List.map_cons, Lib.joinTail, List.flatten_cons, List.mem_append, not_or, List.mem_cons, List.not_mem_nil, or_false] at ih ⊢
        exact ⟨no_byte (by decide) (by decide), ⟨by decide, ih.1⟩, ih.2⟩
  exact this _
theorem cut_fmtE {l : List It} (h : l ≠ []) : cutB 44 (fmtE l) = l.map itW := by
  unfold fmtE
  rw [if_neg h]
  unfold cutB
  show (cutL 44 (Lib.join (strL (l.map itW)) [44])).map _ = _
  rw [cutL_join 44 _ (by simpa [strL] using h) (fun p hp => by
    unfold strL at hp
    rw [List.map_map] at hp
    obtain ⟨x, _, rfl⟩ := List.mem_map.1 hp
    exact itW_no)]
  unfold strL
  rw [List.map_map, List.map_map]
  rfl
theorem parsQ_itW {x : It} (h : ∀ v ∈ itL x, v.natAbs < 10 ^ 10) : parsQ 5 10 (itW x) = some (itL x) := parsQ_wds (l := itL x) rfl (by decide) (by decide) h
theorem itsP_back : ∀ l : List It, (∀ x ∈ l, ∀ v ∈ itL x, v.natAbs < 10 ^ 10) → itsP (l.map itW) = some l
  | [], _ => rfl
  | x :: r, h => by
    simp only [List.map_cons, itsP, parsQ_itW (h x (by simp)), itsP_back r (fun y hy => h y (by simp [hy]))]
    rfl
theorem its_back {l : List It} (h : itsE (-1) l = 0) : itsQ (fmtE l) = (l, 0) := by
  by_cases hne : l = []
  · subst hne
    have e : (fmtE []).toList = [45] := by
      show (⟨#[45]⟩ : ByteArray).toList = [45]
      rw [ByteArray.toList_eq]
    unfold itsQ
    rw [if_pos e]
  · have ha := itsE_all h
    unfold itsQ
    rw [if_neg, cut_fmtE hne, itsP_back l ha]
    · simp only
      rw [if_pos h]
    · intro e
      rw [ByteArray.toList_eq] at e
      have hc := cut_fmtE hne
      unfold cutB at hc
      rw [e] at hc
      have hc2 : l.map itW = [⟨#[45]⟩] := by rw [← hc]; rfl
      obtain ⟨x, hx, hw⟩ : ∃ x ∈ l, itW x = ⟨#[45]⟩ := by
        cases l with
        | nil => exact absurd rfl hne
        | cons x r =>
          rw [List.map_cons] at hc2
          exact ⟨x, by simp, (List.cons.inj hc2).1⟩
      have hp := parsQ_itW (ha x hx)
      rw [hw] at hp
      have : parsQ 5 10 ⟨#[45]⟩ = none := by decide +kernel
      rw [this] at hp
      cases hp
theorem fmtE_size {l : List It} (hl : l.length ≤ 20) (hok : ∀ x ∈ l, OkIt x) : (fmtE l).size ≤ 10000 := by
  by_cases hne : l = []
  · subst hne; decide
  · unfold fmtE
    rw [if_neg hne]
    have e : (jn (l.map itW) ⟨#[44]⟩).size = (Lib.join (strL (l.map itW)) [44]).length := by simp [jn, ByteArray.size]
    rw [e]
    have h := join_le (xs := strL (l.map itW)) (sep := [44]) (m := 105) (fun z hz => by
      unfold strL at hz
      rw [List.map_map] at hz
      obtain ⟨x, hx, rfl⟩ := List.mem_map.1 hz
      have := itW_size (hok x hx)
      rw [Function.comp, len_list]; exact this)
    rw [show (strL (l.map itW)).length = l.length by simp [strL]] at h
    rw [show ([44] : List UInt8).length = 1 from rfl] at h
    omega
theorem wds_size {l : List Int} (hl : l.length ≤ 100) (h : ∀ x ∈ l, I64 x) : (wds l).size ≤ 10000 := by
  have h1 := jn_size (xs := l.map wd) (m := 20) (fun x hx => by
    obtain ⟨v, hv, rfl⟩ := List.mem_map.1 hx
    exact wd_size (h v hv))
  rw [List.length_map] at h1
  show (jn (l.map wd) ⟨#[32]⟩).size ≤ 10000
  omega
end Go.Proofs.YtlnbbioponmcfaaGreatDoor
