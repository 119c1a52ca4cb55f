/-
  A region that draws its order, all of whose operations read, compute, assign or call: one walk in the order of the text. Plain theorems, no program in sight.
-/
import Derived.Test.YtlnbbioponmcfaaDoorOrd
namespace Go.Proofs.YtlnbbioponmcfaaDoor
open Go.ChangeShapes Go.WideShapes Go.ChangeAt Go.RowKit
set_option linter.unusedVariables false
section
variable {P : Program} {ops : Array Oper} {C : World → Prop}
theorem simF {S : Nat → Prop} {n g : Nat} {a t : Act} {Q : Exit → Act → World → Prop} (hg : n + g = ops.size) (hB : ordB ops n = true) (hsel : Region.noSelect ops = true) (hwt : ∀ listed, HeadInv .any ops n listed → ∀ m, m < n → listed.getD m true = false → ∀ i, i ∈ Region.ready .any ops listed → i < n)
    (hy : ∀ i o, i < n → S i → ops[i]? = some o → ∃ v ai, YieldsIn P ops C o v ai ∧ (∀ s, s ∈ o.looksAt ops → ai.tmps[s]? = t.tmps[s]?) ∧ ai.tmps.size = t.tmps.size ∧ (∀ s, o.dst = some s → t.tmps[s]? = if s < t.tmps.size then some v else none))
    (hend : ∀ listed w, C w → HeadInv .any ops n listed → (∀ i, i < n → listed.getD i true = true) → wpAny P .any ops Q g listed t w) :
    ∀ (f : Nat) (listed : Array Bool) (x : Act) (w : World), left listed n = f → HeadInv .any ops n listed → (∀ i, i < n → listed.getD i true = false → S i) → St ops n a t listed x → C w → wpAny P .any ops Q (f + g) listed x w
  | 0, listed, x, w, hf, inv, hSl, st, hw => by
    have hl := left_zero hf
    have e : x = t := by
      obtain ⟨xt, xd⟩ := x
      obtain ⟨tt, td⟩ := t
      have h1 : xt = tt := Array.ext' (List.ext_getElem? fun s => by
        rw [Array.getElem?_toList, Array.getElem?_toList]
        by_cases hd : ∃ i, i < n ∧ dstIs ops i s
        · obtain ⟨i, hi, hd⟩ := hd
          exact st.done i s hi (hl i hi) hd
        · exact st.other s fun i hi hdi => hd ⟨i, hi, hdi⟩)
      have h2 : xd = td := st.defers
      rw [h1, h2]
    subst e
    rw [Nat.zero_add]
    exact hend listed w hw inv hl
  | f + 1, listed, x, w, hf, inv, hSl, st, hw => by
    obtain ⟨m, hm, hmu, hml⟩ := left_least (listed := listed) (k := n) (by omega)
    rw [show f + 1 + g = (f + g) + 1 by omega]
    refine ⟨fun h0 => ?_, fun i hi => ?_⟩
    · exfalso
      have ho : ops[m]? = some (ops[m]'(by omega)) := Array.getElem?_eq_getElem (by omega)
      have : m ∈ Region.ready .any ops listed := mem_ready.2 ⟨hmu, _, ho, fun e he hb => by
        have hlt := ordB_after hB hm ho he hb
        have h1 := hml e.on hlt
        have hz : e.on < listed.size := by rw [inv.size]; omega
        simpa [hz] using h1⟩
      rw [h0] at this; cases this
    · have hin : i < n := hwt listed inv m hm hmu i hi
      obtain ⟨hiu, o, ho, hall⟩ := mem_ready.1 hi
      obtain ⟨v, ai, hyi, hlk, hsz, hdst⟩ := hy i o hin (hSl i hin hiu) ho
      have hyx : YieldsIn P ops C o v x := yields_same (fun cs b => Region.noSelect_spec hsel i o cs b ho) (fun s hs' => by
        rw [hlk s hs']
        by_cases hd : ∃ j, j < n ∧ dstIs ops j s
        · obtain ⟨j, hj, hd⟩ := hd
          obtain ⟨_, e, he, hb, hon⟩ := (ordB_dst hB hin hj ho hd).2 hs'
          have hlj := hall e he hb
          rw [hon] at hlj
          have hlj' : listed.getD j true = true := by
            have hz : j < listed.size := by rw [inv.size]; omega
            simpa [hz] using hlj
          exact (st.done j s hj hlj' hd).symm
        · exact (st.other s fun j hj hdj => hd ⟨j, hj, hdj⟩).symm) hyi
      have st' : St ops n a t (listed.setIfInBounds i true) (x.put o.dst v) := by
        refine ⟨(put_size _ _ _).trans st.size, (put_defers _ _ _).trans st.defers, fun j s hj hlj hd => ?_, fun s hs' => ?_⟩
        · by_cases e : i = j
          · subst e
            obtain ⟨p, hp, hps⟩ := hd
            obtain rfl : p = o := Option.some.inj (hp.symm.trans ho)
            rw [hps, put_same, st.size, hdst s hps]
          · rw [getD_set_ne true e] at hlj
            refine (put_other x v fun hds => e ?_).trans (st.done j s hj hlj hd)
            exact (ordB_dst hB hin hj ho hd).1 hds
        · exact (put_other x v fun hds => hs' i hin ⟨o, ho, hds⟩).trans (st.other s hs')
      have hcont : ∀ w', C w' → wpAny P .any ops Q (f + g) (listed.setIfInBounds i true) (x.put o.dst v) w' := fun w' hw' =>
        simF hg hB hsel hwt hy hend f _ _ w' (by have := left_set hiu n; rw [if_pos hin] at this; omega) (inv.set hi hin) (fun j hj hlj => by
          by_cases e : i = j
          · subst e; exact hSl i hin hiu
          · rw [getD_set_ne true e] at hlj; exact hSl j hj hlj) st' hw'
      have hq := YieldsIn.qOp (K := fun x' => x' = x.put o.dst v) ho hyx rfl
      exact wpOp_of_qOp hw (fun x' w' hw' e => by subst e; exact hcont w' hw') hq

end
/-- a region all of whose operations read, compute, assign or call, in whatever order -/
theorem region_full {P : Program} {id : Nat} {Q : Exit → Act → World → Prop} {a : Act} {w : World} {l : List Oper} (hm : P.follows .mixedOrders = true) (hB : (ordB l.toArray l.length && Region.noSelect l.toArray) = true)
    (h : (∀ (u : Ext w) (p : Addr), (w.cell? p).isSome = true → (ext w u).cell? p = w.cell? p) → wpQuiet P l.toArray (fun w' => ∃ u, w' = ext w u) (fun a' => ∀ u, Q .normal a' (ext w u)) l a) : (Code.region id l.toArray true).wp P Q a w := by
  rw [Bool.and_eq_true] at hB
  obtain ⟨hB, hsel⟩ := hB
  obtain ⟨t, hlx, hQ⟩ := lex_of_walk _ _ (h fun u p => ext_cell w u p)
  obtain ⟨e1, e2, e3, e4⟩ := lex_end hB l 0 a t (fun j hj => by simp) (by simp) hlx
  have inv0 : HeadInv .any l.toArray l.length (Array.replicate l.toArray.size false) :=
    ⟨by simp, fun j oj _ hl => (by rw [getD_replicate_false] at hl; cases hl), fun i hi1 hi => by simp at hi; omega⟩
  refine wp_region_any hm ?_
  have H := simF (S := fun _ => True) (P := P) (C := fun w' => ∃ u, w' = ext w u) (Q := Q) (g := 0) (n := l.length) (a := a) (t := t) (by simp) hB hsel
    (fun listed inv m hm2 hmu i hi => by
      obtain ⟨_, o, ho, _⟩ := mem_ready.1 hi
      have := (Array.getElem?_eq_some_iff.1 ho).1
      simpa using this)
    (fun i o hi _ ho => e4 i o (Nat.zero_le _) hi ho)
    (fun listed w' hw' inv hall => by
      refine ⟨?_, by obtain ⟨u, rfl⟩ := hw'; exact hQ u⟩
      apply List.eq_nil_iff_forall_not_mem.2
      intro i hi
      obtain ⟨hiu, o, ho, _⟩ := mem_ready.1 hi
      have := (Array.getElem?_eq_some_iff.1 ho).1
      rw [hall i (by simpa using this)] at hiu
      cases hiu) l.length (Array.replicate l.toArray.size false) a w.drew (left_all (N := l.toArray.size) l.length (by simp)) inv0 (fun _ _ _ => trivial)
    ⟨e1.symm, e2.symm, fun i s hi hl _ => (by rw [getD_in (i := i) (by simp; omega) (getD_replicate_false _ _)] at hl; cases hl), fun s hs' => (e3 s fun i _ hi => hs' i hi).symm⟩ ⟨⟨w.drew, (Below.refl _ w).drew⟩, rfl⟩
  simpa using H
end Go.Proofs.YtlnbbioponmcfaaDoor
