/-
  append, whatever is appended (a slice that reads as a list, nil too), onto a slice that the call owns. Plain theorems, no program in sight.
-/
import Derived.Test.YtlnbbioponmcfaaDoorMem
import Derived.Deep.AppendLies
import Derived.Laws.AppendOwnNone
import Derived.Deep.RegionLaw
import Derived.Deep.RegionHeldLaw
namespace Go.Proofs.YtlnbbioponmcfaaDoor
open Go.ChangeShapes Go.WideShapes Go.ChangeAt Go.RowKit
set_option linter.unusedVariables false
set_option linter.unusedSimpArgs false

def cellsOf {α : Type} (m : Nat) (f : α → Nat → Value) : List α → List Value
  | [] => []
  | x :: r => (List.range m).map (f x) ++ cellsOf m f r
section
variable {α : Type} {m : Nat} {f : α → Nat → Value}
theorem cellsOf_length (l : List α) : (cellsOf m f l).length = l.length * m := by
  induction l with
  | nil => simp [cellsOf]
  | cons x r ih => simp [cellsOf, ih, Nat.add_mul]; omega
theorem cellsOf_append (l r : List α) : cellsOf m f (l ++ r) = cellsOf m f l ++ cellsOf m f r := by
  induction l with
  | nil => rfl
  | cons x l ih => simp [cellsOf, ih]
theorem cellsOf_get {l : List α} {k j : Nat} {x : α} (h : l[k]? = some x) (hj : j < m) : (cellsOf m f l)[k * m + j]? = some (f x j) := by
  induction l generalizing k with
  | nil => simp at h
  | cons y r ih =>
    cases k with
    | zero =>
      simp at h
      subst h
      simp only [cellsOf, Nat.zero_mul, Nat.zero_add]
      rw [List.getElem?_append_left (by simpa using hj)]
      simp [hj]
    | succ k =>
      simp at h
      simp only [cellsOf]
      rw [List.getElem?_append_right (by simp [Nat.add_mul]; omega)]
      have e : (k + 1) * m + j - ((List.range m).map (f y)).length = k * m + j := by simp [Nat.add_mul]; omega
      rw [e]
      exact ih h
theorem cellsOf_inv {l : List α} {j : Nat} {u : Value} (hm : 0 < m) (h : (cellsOf m f l)[j]? = some u) : ∃ k x i, l[k]? = some x ∧ i < m ∧ j = k * m + i ∧ u = f x i := by
  have hj : j < l.length * m := by rw [← cellsOf_length (m := m) (f := f)]; exact (List.getElem?_eq_some_iff.1 h).1
  have hk : j / m < l.length := Nat.div_lt_of_lt_mul (by rw [Nat.mul_comm]; exact hj)
  have e : j = j / m * m + j % m := by rw [Nat.mul_comm]; exact (Nat.div_add_mod j m).symm
  refine ⟨j / m, l[j / m], j % m, List.getElem?_eq_getElem hk, Nat.mod_lt _ hm, e, ?_⟩
  rw [e, cellsOf_get (List.getElem?_eq_getElem hk) (Nat.mod_lt _ hm)] at h
  exact (Option.some.inj h).symm
theorem cellsOf_one (h1 : ∀ x i, (f x i).oneCell' = true) (hm : 0 < m) (l : List α) : ∀ u ∈ cellsOf m f l, u.oneCell' = true := fun u hu => by
  obtain ⟨j, hj⟩ := List.getElem?_of_mem hu
  obtain ⟨k, x, i, _, _, _, rfl⟩ := cellsOf_inv hm hj
  exact h1 x i
theorem rowsAt_block {w : World} {A : Option Addr} {l : List α} (h : RowsAt m f w A l) {k : Nat} {x : α} (hx : l[k]? = some x) : ∃ b off, A = some ⟨b, off, none⟩ ∧ b < w.heap.size := by
  obtain ⟨b, off, e, hb, _⟩ := h k x hx
  exact ⟨b, off, e, hb⟩
/-- the cells to be appended, as the laws want them -/
theorem RowsAt.news {w : World} {ad : Addr} {l : List α} (h : RowsAt m f w (some ad) l) (hm : 0 < m) : ∀ j u, (cellsOf m f l)[j]? = some u → w.cell? (ad.add j) = some u := fun j u hu => by
  obtain ⟨k, x, i, hk, hi, rfl, rfl⟩ := cellsOf_inv hm hu
  obtain ⟨b, off, e, hb, hc⟩ := h k x hk
  obtain rfl := Option.some.inj e
  have := hc i hi
  have ea : (⟨b, off, none⟩ : Addr).add (k * m + i) = ⟨b, off + k * m + i, none⟩ := by
    unfold Addr.add
    split
    · (first | (simp; omega) | (simp; done))
    · simp [Nat.add_assoc]
  rw [ea]
  exact this
/-- what is owned reads as a list -/
theorem rowsAt_of_own {w : World} {B : Nat} {T : TypeId} {A : Option Addr} {n c : Nat} {l : List α} (h : w.ownsRow B T m (.slice A n c) n (cellsOf m f l)) (hl : l.length = n) (hm : 0 < m) : RowsAt m f w A l := fun k x hk => by
  have hkl : k < l.length := (List.getElem?_eq_some_iff.1 hk).1
  obtain ⟨g, cap, hv, hb, hlt⟩ := h.form (by omega)
  have hA : A = some ⟨g, 0, none⟩ := by injection hv
  subst hA
  refine ⟨g, 0, rfl, hlt, fun j hj => ?_⟩
  have := h.cells (g := g) rfl _ _ (cellsOf_get (f := f) hk hj)
  have ea : (⟨g, 0, none⟩ : Addr).add (k * m + j) = ⟨g, 0 + k * m + j, none⟩ := by
    unfold Addr.add
    split
    · (first | (simp; omega) | (simp; done))
    · simp
  rw [ea] at this
  exact this
end

section
variable {P : Program} (w : World)
theorem run_append_rows (base : Nat) (t ty e : TypeId) (i : TypeInfo) (z : Value) (size bytes : Nat) (ht : P.underlying t = some (.slice e)) (hi : P.info? e = some i) (hz : i.zero = some z)
    (hsize : i.size = size) (hby : i.bytes = bytes) (hzs : z.cells.size = size) (hsz : 0 < size)
    (A0 : Option Addr) (n c0 : Nat) (xs : List Value) (hown : w.ownsRow base e size (.slice A0 n c0) n xs)
    (A : Option Addr) (m c : Nat) (news : List Value) (hl : news.length = m * size) (hA : A = none → m = 0) (hnews : ∀ ad, A = some ad → ∀ j u, news[j]? = some u → w.cell? (ad.add j) = some u) (h1 : ∀ u ∈ news, u.oneCell' = true)
    (h63 : n + m ≤ maxLen) (hbytes : (n + m) * bytes ≤ 140737488355328) (hbase : base ≤ w.heap.size) :
    ∃ A' c' w', (Builtin.append_ #[t, t] ty #[.slice A0 n c0, .slice A m c]).run P w = .ok (.slice A' (n + m) c') w' ∧ w'.ownsRow base e size (.slice A' (n + m) c') (n + m) (xs ++ news) ∧ w.grownBy w' (Value.ownBlock (.slice A0 n c0)) ∧
      (Value.ownBlock (.slice A' (n + m) c') = Value.ownBlock (.slice A0 n c0) ∨ Value.ownBlock (.slice A' (n + m) c') = some w.heap.size) := by
  cases A with
  | some ad =>
    obtain ⟨v', w', hr, h2, h3, h4, h5⟩ := run_append_own_at (P := P) w base t ty e i z size bytes ht hi hz hsize hby hzs hsz _ n xs hown ad m c news hl (hnews ad rfl) h1 h63 hbytes hbase
    have hv : ∃ A' c', v' = .slice A' (n + m) c' := by
      rcases h2.2 with ⟨rfl, h0⟩ | ⟨g, cap, cur, hv, _⟩
      · exact ⟨none, 0, by rw [h0]⟩
      · exact ⟨_, _, hv⟩
    obtain ⟨A', c', rfl⟩ := hv
    exact ⟨A', c', w', hr, h2, h3, h5⟩
  | none =>
    obtain rfl := hA rfl
    have hn : news = [] := List.eq_nil_of_length_eq_zero (by simpa using hl)
    subst hn
    have hc : n ≤ c0 := by
      rcases hown.2 with ⟨hv, h0⟩ | ⟨g, cap, cur, hv, _, _, hnc, _⟩
      · omega
      · have : c0 = cap := by injection hv
        omega
    refine ⟨A0, c0, w, ?_, by simpa using hown, ⟨rfl, rfl, rfl, Nat.le_refl _, fun _ _ _ => rfl⟩, .inl rfl⟩
    cases A0 with
    | none => simp [Builtin.append_, run_underlying ht, sizeOf, typeInfo, hi, Builtin.lenOf, Builtin.firstCells, hc]
    | some a => simp [Builtin.append_, run_underlying ht, sizeOf, typeInfo, hi, Builtin.lenOf, Builtin.firstCells, hc, storeCells]
theorem wp_append_rows {o : Oper} {a : Act} {K : Act → World → Prop} {Q : Exit → Act → World → Prop} (s x : Operand) (t : TypeId)
    (ho : o.op = .call { callee := .builtin .append, args := #[s, x], argTypes := #[t, t] })
    (base : Nat) (e : TypeId) (i : TypeInfo) (z : Value) (size bytes : Nat) (ht : P.underlying t = some (.slice e)) (hi : P.info? e = some i) (hz : i.zero = some z)
    (hsize : i.size = size) (hby : i.bytes = bytes) (hzs : z.cells.size = size) (hsz : 0 < size)
    (A0 : Option Addr) (n c0 : Nat) (xs : List Value) (hs : a.eval s = .slice A0 n c0) (hown : w.ownsRow base e size (.slice A0 n c0) n xs)
    (A : Option Addr) (m c : Nat) (news : List Value) (hx : a.eval x = .slice A m c) (hl : news.length = m * size) (hA : A = none → m = 0) (hnews : ∀ ad, A = some ad → ∀ j u, news[j]? = some u → w.cell? (ad.add j) = some u) (h1 : ∀ u ∈ news, u.oneCell' = true)
    (h63 : n + m ≤ maxLen) (hbytes : (n + m) * bytes ≤ 140737488355328) (hbase : base ≤ w.heap.size)
    (h : ∀ A' c' w', w'.ownsRow base e size (.slice A' (n + m) c') (n + m) (xs ++ news) → w.grownBy w' (Value.ownBlock (.slice A0 n c0)) → (Value.ownBlock (.slice A' (n + m) c') = Value.ownBlock (.slice A0 n c0) ∨ Value.ownBlock (.slice A' (n + m) c') = some w.heap.size) → K (a.put o.dst (.slice A' (n + m) c')) w') : o.wp P a w K Q := by
  obtain ⟨A', c', w', hr, h2, h3, h4⟩ := run_append_rows (P := P) w base t o.type e i z size bytes ht hi hz hsize hby hzs hsz A0 n c0 xs hown A m c news hl hA hnews h1 h63 hbytes hbase
  unfold Oper.wp execOp
  simp only [ho, resolve, invoke, builtin, Sem.run_bind, Sem.run_pure, Result.andThen_ok, List.map_toArray, List.map_cons, List.map_nil, hs, hx, hr]
  exact h A' c' w' h2 h3 h4
theorem wpList_append_rows {ops : Array Oper} {rest : List Oper} {o : Oper} {a : Act} {Q : Exit → Act → World → Prop} (hgd : o.guard = none) (s x : Operand) (t : TypeId)
    (ho : o.op = .call { callee := .builtin .append, args := #[s, x], argTypes := #[t, t] })
    (base : Nat) (e : TypeId) (i : TypeInfo) (z : Value) (size bytes : Nat) (ht : P.underlying t = some (.slice e)) (hi : P.info? e = some i) (hz : i.zero = some z)
    (hsize : i.size = size) (hby : i.bytes = bytes) (hzs : z.cells.size = size) (hsz : 0 < size)
    (A0 : Option Addr) (n c0 : Nat) (xs : List Value) (hs : a.eval s = .slice A0 n c0) (hown : w.ownsRow base e size (.slice A0 n c0) n xs)
    (A : Option Addr) (m c : Nat) (news : List Value) (hx : a.eval x = .slice A m c) (hl : news.length = m * size) (hA : A = none → m = 0) (hnews : ∀ ad, A = some ad → ∀ j u, news[j]? = some u → w.cell? (ad.add j) = some u) (h1 : ∀ u ∈ news, u.oneCell' = true)
    (h63 : n + m ≤ maxLen) (hbytes : (n + m) * bytes ≤ 140737488355328) (hbase : base ≤ w.heap.size)
    (h : ∀ A' c' w', w'.ownsRow base e size (.slice A' (n + m) c') (n + m) (xs ++ news) → w.grownBy w' (Value.ownBlock (.slice A0 n c0)) → (Value.ownBlock (.slice A' (n + m) c') = Value.ownBlock (.slice A0 n c0) ∨ Value.ownBlock (.slice A' (n + m) c') = some w.heap.size) → wpList P ops Q rest (a.put o.dst (.slice A' (n + m) c')) w') : wpList P ops Q (o :: rest) a w :=
  wpList_plain hgd fun _ hK => wp_append_rows w s x t ho base e i z size bytes ht hi hz hsize hby hzs hsz A0 n c0 xs hs hown A m c news hx hl hA hnews h1 h63 hbytes hbase fun A' c' w' h2 h3 h4 => hK _ _ (h A' c' w' h2 h3 h4)
theorem step_append_rows {ops : Array Oper} {o : Oper} {a : Act} {K : Act → World → Prop} {Q : Exit → Act → World → Prop} {E : Prop} (hgd : o.guard = none) (s x : Operand) (t : TypeId)
    (ho : o.op = .call { callee := .builtin .append, args := #[s, x], argTypes := #[t, t] })
    (base : Nat) (e : TypeId) (i : TypeInfo) (z : Value) (size bytes : Nat) (ht : P.underlying t = some (.slice e)) (hi : P.info? e = some i) (hz : i.zero = some z)
    (hsize : i.size = size) (hby : i.bytes = bytes) (hzs : z.cells.size = size) (hsz : 0 < size)
    (A0 : Option Addr) (n c0 : Nat) (xs : List Value) (hs : a.eval s = .slice A0 n c0) (hown : w.ownsRow base e size (.slice A0 n c0) n xs)
    (A : Option Addr) (m c : Nat) (news : List Value) (hx : a.eval x = .slice A m c) (hl : news.length = m * size) (hA : A = none → m = 0) (hnews : ∀ ad, A = some ad → ∀ j u, news[j]? = some u → w.cell? (ad.add j) = some u) (h1 : ∀ u ∈ news, u.oneCell' = true)
    (h63 : n + m ≤ maxLen) (hbytes : (n + m) * bytes ≤ 140737488355328) (hbase : base ≤ w.heap.size)
    (h : ∀ A' c' w', w'.ownsRow base e size (.slice A' (n + m) c') (n + m) (xs ++ news) → w.grownBy w' (Value.ownBlock (.slice A0 n c0)) → (Value.ownBlock (.slice A' (n + m) c') = Value.ownBlock (.slice A0 n c0) ∨ Value.ownBlock (.slice A' (n + m) c') = some w.heap.size) → K (a.put o.dst (.slice A' (n + m) c')) w') :
    if Region.wanted o (yielded ops a.tmps) = true then Oper.wp P o a w K Q else E := by
  have hw : Region.wanted o (yielded ops a.tmps) = true := by simp [Region.wanted, hgd]
  rw [if_pos hw]
  exact wp_append_rows w s x t ho base e i z size bytes ht hi hz hsize hby hzs hsz A0 n c0 xs hs hown A m c news hx hl hA hnews h1 h63 hbytes hbase h
end
theorem frozen_grown {w w1 : World} {row : Option Nat} {p : Addr} (hb : w.grownBy w1 row) (h : w.frozen? p = false) (hlt : p.block < w.heap.size) (hne : some p.block ≠ row) : w1.frozen? p = false :=
  (World.frozen?_of_block (hb.block _ hlt hne)).trans h
theorem own_mono {w : World} {B B' : Nat} {e : TypeId} {size : Nat} {v : Value} {n : Nat} {xs : List Value} (h : w.ownsRow B e size v n xs) (hB : B' ≤ B) : w.ownsRow B' e size v n xs := by
  obtain ⟨h1, h2⟩ := h
  refine ⟨h1, ?_⟩
  rcases h2 with h2 | ⟨g, cap, cur, hv, hg, r⟩
  · exact Or.inl h2
  · exact Or.inr ⟨g, cap, cur, hv, Nat.le_trans hB hg, r⟩
theorem grown_below {B g o n c : Nat} {w0 W w1 : World} (hg : W.grownBy w1 (Value.ownBlock (.slice (some ⟨g, o, none⟩) n c))) (h1 : B ≤ g) (h2 : B ≤ w0.heap.size) (hb : Below B w0 W) : Below B w0 w1 :=
  hb.grown hg (Nat.le_trans h2 hb.size) (fun k hk => by have e : g = k := Option.some.inj hk; omega)
theorem grown_below_nil {B n c : Nat} {w0 W w1 : World} (hg : W.grownBy w1 (Value.ownBlock (.slice none n c))) (h2 : B ≤ w0.heap.size) (hb : Below B w0 W) : Below B w0 w1 :=
  hb.grown hg (Nat.le_trans h2 hb.size) (fun k hk => by cases hk)
theorem own_empty {w : World} {B b : Nat} {e : TypeId} {size : Nat} (hB : B ≤ b) (h : w.heap[b]? = some (.cells #[] e (0, 0))) : w.ownsRow B e size (.slice (some ⟨b, 0, none⟩) 0 0) 0 [] :=
  ⟨by simp, .inr ⟨b, 0, #[], rfl, hB, h, Nat.le_refl _, by decide, by simp, by simp⟩⟩
theorem RowsAt.nil_len {α : Type} {m : Nat} {f : α → Nat → Value} {w : World} {l : List α} (h : RowsAt m f w none l) : l.length = 0 := by
  cases l with
  | nil => rfl
  | cons x r => obtain ⟨b, off, e, _⟩ := h 0 x rfl; cases e
theorem below_own {B : Nat} {a w w' : World} {v : Value} (h : Below B a w) (hg : w.grownBy w' v.ownBlock) {base : Nat} {e : TypeId} {size n : Nat} {xs : List Value} (ho : w.ownsRow base e size v n xs) (hB : B ≤ base) (hs : B ≤ w.heap.size) : Below B a w' :=
  h.grown hg hs fun k hk => Nat.le_trans hB (ho.lt k hk).1
end Go.Proofs.YtlnbbioponmcfaaDoor
