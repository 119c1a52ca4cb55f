/-
  The strings' small functions: a string cut at a byte (Cut).
-/
import Derived.Test.YtlnbbioponmcfaaGreatDoorStrN
import Derived.Test.YtlnbbioponmcfaaGreatDoorEFmt
namespace Go.Proofs.YtlnbbioponmcfaaGreatDoor
open Go.ChangeShapes Go.WideShapes Go.ChangeAt Go.RowKit
set_option linter.unusedVariables false
set_option linter.unusedSimpArgs false

def toBA (l : List UInt8) : ByteArray := ⟨l.toArray⟩
theorem ext_ba (s : ByteArray) (f k : Nat) : s.extract f k = toBA ((s.data.toList.drop f).take (k - f)) := by
  have h := ByteArray.extract_mk s.data.toList f k
  rw [Array.toArray_toList] at h
  exact h
theorem cutB_eq (c : UInt8) (s : ByteArray) : cutB c s = (cutA c [] s.data.toList).map toBA := rfl
theorem cutA_hit {c : UInt8} {l : List UInt8} {k : Nat} (cur : List UInt8) (h : k < l.length) (hx : l[k] = c) : cutA c cur (l.drop k) = cur :: cutA c [] (l.drop (k + 1)) := by
  rw [List.drop_eq_getElem_cons h, cutA, if_pos hx]
theorem cutA_miss {c : UInt8} {l : List UInt8} {k : Nat} (cur : List UInt8) (h : k < l.length) (hx : l[k] ≠ c) : cutA c cur (l.drop k) = cutA c (cur ++ [l[k]]) (l.drop (k + 1)) := by
  rw [List.drop_eq_getElem_cons h, cutA, if_neg hx]
theorem take_drop_snoc {l : List UInt8} {f k : Nat} (hf : f ≤ k) (h : k < l.length) : (l.drop f).take (k - f) ++ [l[k]] = (l.drop f).take (k + 1 - f) := by
  have h1 : k - f < (l.drop f).length := by rw [List.length_drop]; omega
  rw [show k + 1 - f = (k - f) + 1 by omega, List.take_succ_eq_append_getElem h1]
  congr 2
  rw [List.getElem_drop]
  congr 1
  omega
set_option maxRecDepth 100000 in
set_option maxHeartbeats 4000000 in
theorem Cut_any (s : ByteArray) (c : UInt8) (ci : Int) (w : World) (hci : ci = (c.toNat : Int)) (hs : s.size ≤ 1000000) :
    Calls Tryz.prog 57 #[.string s, .int .u8 ci] w fun e w' => ∃ (A : Option Addr) (cap : Nat), e = .returned (.slice A (cutB c s).length cap) ∧ w'.ownsRow w.heap.size 9 1 (.slice A (cutB c s).length cap) (cutB c s).length (cellsOf 1 strC (cutB c s)) ∧ Below w.heap.size w w' := by
  obtain ⟨i0, hi0, hz0, hz1, hz2⟩ := infoStr_
  have HI := Lib.hid hi0
  have HZ0 := Lib.hid hz0
  have HZ1 := Lib.hid hz1
  have HZ2 := Lib.hid hz2
  have hll := len_list s
  have HEX := Lib.hid (ext_ba s)
  obtain ⟨L, hL⟩ : ∃ L, L = s.data.toList := ⟨_, rfl⟩
  obtain ⟨ps, hps⟩ : ∃ ps, ps = cutB c s := ⟨_, rfl⟩
  rw [← hps]
  have hcut0 := hps.trans (cutB_eq c s)
  have HIX := Lib.hid (fun (k : Nat) (h : k < s.size) => get_str s k h)
  rw [← hL] at HIX hll hcut0 HEX
  have HLL := Lib.hid hll
  have HCI := Lib.hid hci
  have HC0 := Lib.hid hcut0
  clear hi0 hz0 hz1 hz2 hL hps hll hci hcut0
  go_enter Tryz.func57, Tryz.ntmps57
  go_wp2_with (fail)
  go_loopw [5, 6, 7] (fun o fv i wr => ∃ (f k : Nat) (xs : List ByteArray) (A' : Option Addr) (c' : Nat), f ≤ k ∧ k ≤ s.size ∧ xs.length ≤ k ∧ i = .int .i64 k ∧ fv = .int .i64 f ∧ o = .slice A' xs.length c' ∧ wr.ownsRow w.heap.size 9 1 (.slice A' xs.length c') xs.length (cellsOf 1 strC xs) ∧ ps = xs ++ (cutA c ((L.drop f).take (k - f)) (L.drop k)).map toBA ∧ Below w.heap.size w wr) (fun _ _ i _ => s.size - (intOf i).toNat)
  case atStart => exact ⟨0, 0, [], none, 0, Nat.le_refl _, Nat.zero_le _, Nat.le_refl _, rfl, rfl, rfl, World.ownsRow_nil _ _ _ _, by rw [HC0.out]; rfl, Below.refl _ _⟩
  case round =>
    obtain ⟨f, k, xs, A', c', hfk, hk, hxl, rfl, rfl, rfl, own, hps, hbr⟩ := hrel
    obtain ⟨wo, rfl⟩ : ∃ wo : World, wo = wr := ⟨_, rfl⟩
    have OWN := Lib.hid own
    have HPS := Lib.hid hps
    clear own hps
    have hfkI : (f : Int) ≤ (k : Int) := by omega
    have hxl2 : xs.length ≤ 1000000 := by omega
    by_cases hlt : k < s.size
    · have hltI : (k : Int) < (s.size : Int) := by omega
      have hkI : (k : Int) ≤ (s.size : Int) := by omega
      have hlL : k < L.length := by rw [HLL.out]; exact hlt
      have ik := HIX.out k hlt
      have hx := chL_get hlL
      rw [hx] at ik
      clear hx
      by_cases hxc : L[k] = c
      · have e1 : (((L[k]).toNat : Int) == ci) = true := by rw [hxc, HCI.out]; simp
        have hnew := HPS.out.trans (by rw [cutA_hit _ hlL hxc])
        rw [List.map_cons, ← HEX.out f k] at hnew
        have HNEW : Hid (ps = (xs ++ [s.extract f k]) ++ (cutA c ((L.drop (k + 1)).take (k + 1 - (k + 1))) (L.drop (k + 1))).map toBA) := Lib.hid (by
          rw [hnew, Nat.sub_self, List.take_zero]
          simp)
        clear hnew hxc
        generalize ((L[k]).toNat : Int) = x at *
        clear hlL
        generalize hpc : s.extract f k = pc at *
        go_wp2_with (at_builtin; (refine wpList_append_rows _ rfl (.tmp 19) (.tmp 24) 105 rfl w.heap.size 9 i0 (.string ⟨#[]⟩) 1 16 Tryz.underlying105 HI.out HZ0.out HZ1.out HZ2.out rfl (by decide) A' xs.length c' (cellsOf 1 strC xs) rfl (World.ownsRow.alloc OWN.out _) (some ⟨_, 0, none⟩) 1 1 [.string pc] rfl rfl (fun h => by cases h) (fun ad h => by cases h; exact newsStr (blk_new rfl)) (fun u hu => by simp at hu; subst hu; rfl) (by unfold maxLen; omega) (by omega) (by have := hbr.size; simp; omega) ?_; intro A2' c2' w3 h1 h2 h3))
        have hL : (xs ++ [pc]).length = xs.length + 1 := by simp
        have h4 : w3.ownsRow w.heap.size 9 1 (.slice A2' (xs ++ [pc]).length c2') (xs ++ [pc]).length (cellsOf 1 strC (xs ++ [pc])) := by rw [hL, cellsOf_append]; exact h1
        have h5 : Below w.heap.size w w3 := below_own (below_alloc _ (Nat.le_refl _) hbr) h2 (World.ownsRow.alloc OWN.out _) (Nat.le_refl _) (by have := hbr.size; simp; omega)
        have HL := Lib.hid hL
        clear h1 h2 h3 hL OWN
        go_wp2_with (fail)
        exact ⟨⟨k + 1, k + 1, xs ++ [pc], A2', c2', Nat.le_refl _, by omega, by rw [HL.out]; omega, by go_num, by go_num, by rw [HL.out], h4, HNEW.out, h5⟩, by simp [intOf]; omega⟩
      · have e1 : (((L[k]).toNat : Int) == ci) = false := by
          rw [HCI.out, beq_eq_false_iff_ne]
          intro e
          apply hxc
          apply UInt8.toNat_inj.1
          omega
        have hnew := HPS.out.trans (by rw [cutA_miss _ hlL hxc, take_drop_snoc hfk hlL])
        have HNEW := Lib.hid hnew
        clear hnew hxc
        generalize ((L[k]).toNat : Int) = x at *
        clear hlL
        go_wp2_with (fail)
        exact ⟨⟨f, k + 1, xs, A', c', by omega, by omega, by omega, by go_num, rfl, rfl, OWN.out, HNEW.out, hbr⟩, by simp [intOf]; omega⟩
    · obtain rfl : s.size = k := by omega
      have hnew := HPS.out
      rw [show L.drop s.size = [] from List.drop_of_length_le (by rw [HLL.out]; exact Nat.le_refl _)] at hnew
      have hnew2 : ps = xs ++ [s.extract f s.size] := by rw [hnew, HEX.out f s.size]; rfl
      have HNEW := Lib.hid hnew2
      have hext : s.extract f s.data.size = s.extract f s.size := rfl
      clear hnew hnew2 hfk
      have hf0 : (f : Int) ≤ (s.size : Int) := by omega
      generalize hpc : s.extract f s.size = pc at *
      go_wp2_with (at_builtin; (refine wpList_append_rows _ rfl (.tmp 28) (.tmp 32) 105 rfl w.heap.size 9 i0 (.string ⟨#[]⟩) 1 16 Tryz.underlying105 HI.out HZ0.out HZ1.out HZ2.out rfl (by decide) A' xs.length c' (cellsOf 1 strC xs) rfl (World.ownsRow.alloc OWN.out _) (some ⟨_, 0, none⟩) 1 1 [.string pc] rfl rfl (fun h => by cases h) (fun ad h => by cases h; exact newsStr (blk_new rfl)) (fun u hu => by simp at hu; subst hu; rfl) (by unfold maxLen; omega) (by omega) (by have := hbr.size; simp; omega) ?_; intro A2' c2' w3 h1 h2 h3))
      have hL : (xs ++ [pc]).length = xs.length + 1 := by simp
      have h4 : w3.ownsRow w.heap.size 9 1 (.slice A2' (xs ++ [pc]).length c2') (xs ++ [pc]).length (cellsOf 1 strC (xs ++ [pc])) := by rw [hL, cellsOf_append]; exact h1
      have h5 : Below w.heap.size w w3 := below_own (below_alloc _ (Nat.le_refl _) hbr) h2 (World.ownsRow.alloc OWN.out _) (Nat.le_refl _) (by have := hbr.size; simp; omega)
      rw [hL] at h4
      have HL := Lib.hid hL
      clear h1 h2 h3 hL OWN
      go_wp2_with (fail)
      go_ret
      have hp2 := HNEW.out
      exact ⟨A2', c2', by rw [hp2, HL.out]; rfl, by rw [hp2, HL.out]; exact h4, h5⟩
end Go.Proofs.YtlnbbioponmcfaaGreatDoor
