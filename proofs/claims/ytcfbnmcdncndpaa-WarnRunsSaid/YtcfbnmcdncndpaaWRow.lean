/-
  Rows of the call's own: copy, clear, append on them, elements of several cells. Plain theorems, no program in sight.
-/
import Derived.Test.YtcfbnmcdncndpaaApp
import Derived.Lib.AppendZerosOnto
import Derived.Lib.Overlaps
import Derived.Laws.CopyOwn
namespace Go.Proofs.Ytcfbnmcdncndpaa
open Go.ChangeShapes Go.WideShapes Go.ChangeAt Go.RowKit
set_option linter.unusedVariables false
set_option linter.unusedSimpArgs false
section
variable {P : Program}
theorem wpList_copy_is (w : World) {ops : Array Oper} {rest : List Oper} {o : Oper} {a : Act} {Q : Exit → Act → World → Prop} (hgd : o.guard = none) (d s : Operand) (t t' : TypeId)
    (ho : o.op = .call { callee := .builtin .copy, args := #[d, s], argTypes := #[t, t'] }) (v u : Value) (hd : a.eval d = v) (hs : a.eval s = u) {v' : Value} {w' : World}
    (hr : (Builtin.copy_ #[t, t'] o.type #[v, u]).run P w = .ok v' w') (h : wpList P ops Q rest (a.put o.dst v') w') : wpList P ops Q (o :: rest) a w := by
  refine wpList_plain hgd fun K hK => ?_
  unfold Oper.wp execOp
  simp only [ho, resolve, invoke, builtin, Sem.run_bind, Sem.run_pure, Result.andThen_ok, List.map_toArray, List.map_cons, List.map_nil, hd, hs, hr]
  exact hK _ _ h
theorem step_copy_is {ops : Array Oper} {o : Oper} {a : Act} {w : World} {K : Act → World → Prop} {Q : Exit → Act → World → Prop} {E : Prop} (hg : o.guard = none) (d s : Operand) (t t' : TypeId)
    (ho : o.op = .call { callee := .builtin .copy, args := #[d, s], argTypes := #[t, t'] }) (v u : Value) (hd : a.eval d = v) (hs : a.eval s = u) {v' : Value} {w' : World}
    (hr : (Builtin.copy_ #[t, t'] o.type #[v, u]).run P w = .ok v' w') (hK : K (a.put o.dst v') w') :
    if Region.wanted o (yielded ops a.tmps) = true then Oper.wp P o a w K Q else E := by
  have hw : Region.wanted o (yielded ops a.tmps) = true := by simp [Region.wanted, hg]
  rw [if_pos hw]
  unfold Oper.wp execOp
  simp only [ho, resolve, invoke, builtin, Sem.run_bind, Sem.run_pure, Result.andThen_ok, List.map_toArray, List.map_cons, List.map_nil, hd, hs, hr]
  exact hK
theorem wpList_app_is (w : World) {ops : Array Oper} {rest : List Oper} {o : Oper} {a : Act} {Q : Exit → Act → World → Prop} (hgd : o.guard = none) (d s : Operand) (t t' : TypeId)
    (ho : o.op = .call { callee := .builtin .append, args := #[d, s], argTypes := #[t, t'] }) (v u : Value) (hd : a.eval d = v) (hs : a.eval s = u) {v' : Value} {w' : World}
    (hr : (Builtin.append_ #[t, t'] o.type #[v, u]).run P w = .ok v' w') (h : wpList P ops Q rest (a.put o.dst v') w') : wpList P ops Q (o :: rest) a w := by
  refine wpList_plain hgd fun K hK => ?_
  unfold Oper.wp execOp
  simp only [ho, resolve, invoke, builtin, Sem.run_bind, Sem.run_pure, Result.andThen_ok, List.map_toArray, List.map_cons, List.map_nil, hd, hs, hr]
  exact hK _ _ h
theorem step_app_is {ops : Array Oper} {o : Oper} {a : Act} {w : World} {K : Act → World → Prop} {Q : Exit → Act → World → Prop} {E : Prop} (hg : o.guard = none) (d s : Operand) (t t' : TypeId)
    (ho : o.op = .call { callee := .builtin .append, args := #[d, s], argTypes := #[t, t'] }) (v u : Value) (hd : a.eval d = v) (hs : a.eval s = u) {v' : Value} {w' : World}
    (hr : (Builtin.append_ #[t, t'] o.type #[v, u]).run P w = .ok v' w') (hK : K (a.put o.dst v') w') :
    if Region.wanted o (yielded ops a.tmps) = true then Oper.wp P o a w K Q else E := by
  have hw : Region.wanted o (yielded ops a.tmps) = true := by simp [Region.wanted, hg]
  rw [if_pos hw]
  unfold Oper.wp execOp
  simp only [ho, resolve, invoke, builtin, Sem.run_bind, Sem.run_pure, Result.andThen_ok, List.map_toArray, List.map_cons, List.map_nil, hd, hs, hr]
  exact hK
theorem wpList_clear_is (w : World) {ops : Array Oper} {rest : List Oper} {o : Oper} {a : Act} {Q : Exit → Act → World → Prop} (hgd : o.guard = none) (d : Operand) (t : TypeId)
    (ho : o.op = .call { callee := .builtin .clear, args := #[d], argTypes := #[t] }) (v : Value) (hd : a.eval d = v) {v' : Value} {w' : World}
    (hr : (Builtin.clear_ #[t] o.type #[v]).run P w = .ok v' w') (h : wpList P ops Q rest (a.put o.dst v') w') : wpList P ops Q (o :: rest) a w := by
  refine wpList_plain hgd fun K hK => ?_
  unfold Oper.wp execOp
  simp only [ho, resolve, invoke, builtin, Sem.run_bind, Sem.run_pure, Result.andThen_ok, List.map_toArray, List.map_cons, List.map_nil, hd, hr]
  exact hK _ _ h

theorem run_copy_k (w : World) (dT sT ty elem : TypeId) (k g o dLen dCap : Nat) (a : Addr) (sLen sCap : Nat) (cur : Array Value) (t : TypeId) (cs : List Value)
    (hu : P.underlying dT = some (.slice elem)) (hs : (P.info? elem).map (·.size) = some k)
    (hg : w.heap[g]? = some (.cells cur t (0, 0))) (hn : cs.length = Nat.min sLen dLen * k)
    (hsrc : ∀ j v, cs[j]? = some v → w.cell? (a.add j) = some v) (hfit : o + cs.length ≤ cur.size) (h1 : ∀ v ∈ cs, v.oneCell' = true) :
    (Builtin.copy_ #[dT, sT] ty #[.slice (some ⟨g, o, none⟩) dLen dCap, .slice (some a) sLen sCap]).run P w =
      .ok (goInt (Nat.min sLen dLen)) (w.setRow g (cur.toList.take o ++ cs ++ cur.toList.drop (o + cs.length)).toArray) := by
  have hl := run_loadCells_list (P := P) w a cs hsrc
  have hst := run_storeCells_at P g o t cs 0 cur w hg (by simpa using hfit) h1
  cases hq : P.info? elem with
  | none => simp [hq] at hs
  | some i =>
    have hi : i.size = k := by simpa [hq] using hs
    simp [Builtin.copy_, run_underlying hu, Builtin.lenOf, Builtin.firstCells, sizeOf, typeInfo, hq, hi, ← hn, hl, hst]
theorem run_clear_k (w : World) (t e ty : TypeId) (z : Value) (ht : P.underlying t = some (.slice e)) (hv : ∀ w, (zeroValue e).run P w = .ok z w) (h1 : ∀ v ∈ z.cells, v.oneCell' = true) (g o n c : Nat) (hn : 0 < n) (cur : Array Value) (t' : TypeId)
    (hg : w.heap[g]? = some (.cells cur t' (0, 0))) (hfit : o + n * z.cells.size ≤ cur.size) (hz : 0 < z.cells.size) :
    (Builtin.clear_ #[t] ty #[.slice (some ⟨g, o, none⟩) n c]).run P w = .ok (.tuple #[]) (w.setRow g (cur.toList.take o ++ (Builtin.zeroCells z.cells n).toList ++ cur.toList.drop (o + n * z.cells.size)).toArray) := by
  have hlen : (Builtin.zeroCells z.cells n).toList.length = n * z.cells.size := by rw [Array.length_toList, size_zeroCells]
  have hst := run_storeCells_at P g o t' (Builtin.zeroCells z.cells n).toList 0 cur w hg (by rw [hlen]; simpa using hfit) (fun v hv' => by
    unfold Builtin.zeroCells at hv'
    simp only [Array.toList_map, List.mem_map] at hv'
    obtain ⟨i, _, rfl⟩ := hv'
    have hi : i % z.cells.size < z.cells.size := Nat.mod_lt _ hz
    rw [getElem!_pos z.cells _ hi]
    exact h1 _ (Array.getElem_mem hi))
  rw [hlen] at hst
  obtain ⟨m, rfl⟩ : ∃ m, n = m + 1 := ⟨n - 1, by omega⟩
  simp [Builtin.clear_, run_underlying ht, hv, hst]
theorem app_types (w : World) (t t' ty e e' : TypeId) (i : TypeInfo) (ht : P.underlying t = some (.slice e)) (ht' : P.underlying t' = some (.slice e')) (hi : P.info? e = some i) (A0 A : Option Addr) (n c0 m c : Nat) :
    (Builtin.append_ #[t, t'] ty #[.slice A0 n c0, .slice A m c]).run P w = (Builtin.append_ #[t, t] ty #[.slice A0 n c0, .slice A m c]).run P w := by
  simp [Builtin.append_, run_underlying ht, run_underlying ht', sizeOf, typeInfo, hi]
theorem wpList_app_rows {ops : Array Oper} {rest : List Oper} {o : Oper} {a : Act} {Q : Exit → Act → World → Prop} (w : World) (hgd : o.guard = none) (s x : Operand) (t t' : TypeId)
    (ho : o.op = .call { callee := .builtin .append, args := #[s, x], argTypes := #[t, t'] })
    (base : Nat) (e e' : TypeId) (i : TypeInfo) (z : Value) (size bytes : Nat) (ht : P.underlying t = some (.slice e)) (ht' : P.underlying t' = some (.slice e')) (hi : P.info? e = some i) (hz : i.zero = some z)
    (hsize : i.size = size) (hby : i.bytes = bytes) (hzs : z.cells.size = size) (hsz : 0 < size)
    (A0 : Option Addr) (n c0 : Nat) (xs : List Value) (hs : a.eval s = .slice A0 n c0) (hown : w.ownsRow base e size (.slice A0 n c0) n xs)
    (A : Option Addr) (m c : Nat) (news : List Value) (hx : a.eval x = .slice A m c) (hl : news.length = m * size) (hA : A = none → m = 0) (hnews : ∀ ad, A = some ad → ∀ j u, news[j]? = some u → w.cell? (ad.add j) = some u) (h1 : ∀ u ∈ news, u.oneCell' = true)
    (h63 : n + m ≤ maxLen) (hbytes : (n + m) * bytes ≤ 140737488355328) (hbase : base ≤ w.heap.size)
    (h : ∀ A' c' w', w'.ownsRow base e size (.slice A' (n + m) c') (n + m) (xs ++ news) → w.grownBy w' (Value.ownBlock (.slice A0 n c0)) → (Value.ownBlock (.slice A' (n + m) c') = Value.ownBlock (.slice A0 n c0) ∨ Value.ownBlock (.slice A' (n + m) c') = some w.heap.size) → wpList P ops Q rest (a.put o.dst (.slice A' (n + m) c')) w') : wpList P ops Q (o :: rest) a w := by
  obtain ⟨A', c', w', hr, h2, h3, h4⟩ := run_append_rows (P := P) w base t o.type e i z size bytes ht hi hz hsize hby hzs hsz A0 n c0 xs hown A m c news hl hA hnews h1 h63 hbytes hbase
  rw [← app_types w t t' o.type e e' i ht ht' hi] at hr
  exact wpList_app_is w hgd s x t t' ho _ _ hs hx hr (h A' c' w' h2 h3 h4)
end

section
variable {w w' : World} {B g n cap size : Nat} {e : TypeId} {cur : Array Value} {xs : List Value}
theorem own_mk (hB : B ≤ g) (hg : w.heap[g]? = some (.cells cur e (0, 0))) (hn : n ≤ cap) (hm : cap ≤ maxLen) (hs : cur.size = cap * size) (ht : cur.toList.take (n * size) = xs) (hx : xs.length = n * size) : w.ownsRow B e size (.slice (some ⟨g, 0, none⟩) n cap) n xs :=
  ⟨hx, .inr ⟨g, cap, cur, rfl, hB, hg, hn, hm, hs, ht⟩⟩
theorem own_open {A : Option Addr} {c : Nat} (h : w.ownsRow B e size (.slice A n c) n xs) (hn : 0 < n) :
    ∃ g cur, A = some ⟨g, 0, none⟩ ∧ B ≤ g ∧ w.heap[g]? = some (.cells cur e (0, 0)) ∧ n ≤ c ∧ c ≤ maxLen ∧ cur.size = c * size ∧ cur.toList.take (n * size) = xs := by
  rcases h.2 with ⟨_, h0⟩ | ⟨g, cap, cur, hv, r⟩
  · omega
  · injection hv with h1 h2 h3
    subst h1 h3
    exact ⟨g, cur, rfl, r⟩
theorem grown_setRow (w : World) (g n c : Nat) (cs : Array Value) : w.grownBy (w.setRow g cs) (Value.ownBlock (.slice (some ⟨g, 0, none⟩) n c)) :=
  ⟨rfl, rfl, rfl, by simp, fun k _ hk => setRow_other w g k _ (fun e => hk (by simp [Value.ownBlock, e]))⟩
theorem grown_trans {w1 w2 w3 : World} {row : Option Nat} (h : w1.grownBy w2 row) (k : w2.grownBy w3 row) : w1.grownBy w3 row :=
  ⟨k.os.trans h.os, k.tape.trans h.tape, k.output.trans h.output, Nat.le_trans h.size k.size, fun i hi hne => (k.block i (Nat.lt_of_lt_of_le hi h.size) hne).trans (h.block i hi hne)⟩
theorem grown_new {w1 w2 w3 : World} {row : Option Nat} {r2 : Nat} (h : w1.grownBy w2 row) (k : w2.grownBy w3 (some r2)) (hr : w1.heap.size ≤ r2) : w1.grownBy w3 row :=
  ⟨k.os.trans h.os, k.tape.trans h.tape, k.output.trans h.output, Nat.le_trans h.size k.size, fun i hi hne => (k.block i (Nat.lt_of_lt_of_le hi h.size) (fun e => by have := Option.some.inj e; omega)).trans (h.block i hi hne)⟩
theorem grown_drew {w1 w2 : World} {row : Option Nat} (h : w1.grownBy w2 row) : w1.grownBy w2.drew row := ⟨h.os, h.tape, h.output, h.size, h.block⟩
theorem grown_of_below {w1 w2 : World} (h : Below w1.heap.size w1 w2) (row : Option Nat) : w1.grownBy w2 row := ⟨h.os, h.tape, h.output, h.size, fun k hk _ => h.block k hk⟩
theorem ins_row {α : Type} (L X M : List α) (a q k : Nat) (hX : L.take (a + q) = X) (hXl : X.length = a + q) (hM : M.length = k) (hL : a + q + k ≤ L.length) :
    let r1 := L.take (a + k) ++ X.drop a ++ L.drop (a + k + (X.drop a).length)
    let r2 := r1.take a ++ M ++ r1.drop (a + M.length)
    r2.length = L.length ∧ r2.take (a + q + k) = X.take a ++ (M ++ X.drop a) := by
  intro r1 r2
  have e1 : (X.drop a).length = q := by rw [List.length_drop, hXl]; omega
  have l1 : (L.take (a + k)).length = a + k := by rw [List.length_take]; omega
  have t1 : r1.take a = X.take a := by
    show (L.take (a + k) ++ X.drop a ++ _).take a = _
    rw [List.append_assoc, List.take_append_of_le_length (by omega), List.take_take, Nat.min_eq_left (by omega), ← hX, List.take_take, Nat.min_eq_left (by omega)]
  have d1 : r1.drop (a + M.length) = X.drop a ++ L.drop (a + k + q) := by
    show (L.take (a + k) ++ X.drop a ++ _).drop _ = _
    rw [hM, e1, List.append_assoc, List.drop_append_of_le_length (by omega), List.drop_eq_nil_of_le (by omega), List.nil_append]
  have l2 : (X.take a).length = a := by rw [List.length_take, hXl]; omega
  have hr : r2 = X.take a ++ M ++ (X.drop a ++ L.drop (a + k + q)) := by
    show r1.take a ++ M ++ r1.drop (a + M.length) = _
    rw [t1, d1]
  rw [hr]
  refine ⟨?_, ?_⟩
  · simp only [List.length_append, l2, e1, hM, List.length_drop]; omega
  · rw [← List.append_assoc, List.take_append_of_le_length (by simp only [List.length_append, l2, e1, hM]; omega), List.take_of_length_le (by simp only [List.length_append, l2, e1, hM]; omega), List.append_assoc]
theorem grow_row {α : Type} (Z X M : List α) (a q k G : Nat) (hXl : X.length = a + q) (hM : M.length = k) (hZ : Z.length = q + k + G) :
    let r0 := X.take a ++ Z
    let r1 := r0.take a ++ M ++ r0.drop (a + M.length)
    let r2 := r1.take (a + k) ++ X.drop a ++ r1.drop (a + k + (X.drop a).length)
    r2.length = a + q + k + G ∧ r2.take (a + q + k) = X.take a ++ (M ++ X.drop a) := by
  intro r0 r1 r2
  have e1 : (X.drop a).length = q := by rw [List.length_drop, hXl]; omega
  have l2 : (X.take a).length = a := by rw [List.length_take, hXl]; omega
  have h1 : r1 = X.take a ++ M ++ Z.drop k := by
    show (X.take a ++ Z).take a ++ M ++ (X.take a ++ Z).drop (a + M.length) = _
    rw [List.take_append_of_le_length (by omega), List.take_of_length_le (by omega), hM, List.drop_append, List.drop_eq_nil_of_le (by omega), List.nil_append, l2, Nat.add_sub_cancel_left]
  have h2 : r2 = X.take a ++ M ++ (X.drop a ++ Z.drop (k + q)) := by
    show r1.take (a + k) ++ X.drop a ++ r1.drop (a + k + (X.drop a).length) = _
    have l3 : (X.take a ++ M).length = a + k := by rw [List.length_append, l2, hM]
    have d3 : (X.take a ++ M ++ Z.drop k).drop (a + k + (X.drop a).length) = Z.drop (k + q) := by
      rw [e1, List.drop_append, l3, (List.drop_eq_nil_of_le (by omega) : (X.take a ++ M).drop (a + k + q) = []), List.nil_append, List.drop_drop]
      congr 1; omega
    rw [h1, d3, List.take_append_of_le_length (by omega), List.take_of_length_le (by omega), List.append_assoc]
  rw [h2]
  refine ⟨?_, ?_⟩
  · simp only [List.length_append, l2, e1, hM, List.length_drop]; omega
  · rw [← List.append_assoc, List.take_append_of_le_length (by simp only [List.length_append, l2, e1, hM]; omega), List.take_of_length_le (by simp only [List.length_append, l2, e1, hM]; omega), List.append_assoc]
end
end Go.Proofs.Ytcfbnmcdncndpaa
