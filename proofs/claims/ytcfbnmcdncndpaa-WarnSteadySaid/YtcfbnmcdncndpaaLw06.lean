/-
  WarnStates: the walk.
-/
import Derived.Test.YtcfbnmcdncndpaaWStO
import Derived.Test.YtcfbnmcdncndpaaWREv
import Derived.Deep.RegionHeld3
namespace Go.Proofs.Ytcfbnmcdncndpaa
open Go.ChangeShapes Go.WideShapes Go.ChangeAt Go.RowKit
set_option linter.unusedVariables false
set_option linter.unusedSimpArgs false

theorem StateOf_v (nm : ByteArray) (A : Option Addr) (u : List Int) (ca : Nat) (B : Option Addr) (d : List Int) (cb : Nat) (hold : Int) (V : Option Addr) (vs : List Int) (cv : Nat) (w : World) (hs : nm.size ≤ 1000) (hu : u.length ≤ 100) (hd : d.length ≤ 100) (hcb : d.length ≤ cb) (hv : vs.length ≤ 1000000)
    (hA : IntsAt w A u) (hB : IntsAt w B d) (hV : IntsAt w V vs) :
    Calls Try.prog 35 #[.agg #[.string nm, .slice A u.length ca, .slice B d.length cb, .int .i64 hold], .slice V vs.length cv] w fun e w' => e = .returned (.tuple #[.agg #[.int .i64 (okSta nm u d hold vs).l, .int .i64 (okSta nm u d hold vs).b, .int .i64 (okSta nm u d hold vs).v], .int .i64 (valE nm u d hold vs)]) ∧ Below w.heap.size w w' :=
  StateOf_any nm A u ca B d cb hold V vs cv w hs hu hd hcb hv hA hB hV
theorem RStateOf_v (nm : ByteArray) (A : Option Addr) (u : List Int) (ca : Nat) (B : Option Addr) (d : List Int) (cb : Nat) (hold : Int) (V : Option Addr) (vs : List Int) (cv : Nat) (w : World) (ho : OkR nm u d hold) (hl : vs.length ≤ 1000) (hA : IntsAt w A u) (hB : IntsAt w B d) (hV : IntsAt w V vs) :
    Calls Try.prog 40 #[.agg #[.string nm, .slice A u.length ca, .slice B d.length cb, .int .i64 hold], .slice V vs.length cv] w fun e w' => e = .returned (.agg #[.int .i64 (runS u d hold ⟨0, 0, 0⟩ vs).l, .int .i64 (runS u d hold ⟨0, 0, 0⟩ vs).b, .int .i64 (runS u d hold ⟨0, 0, 0⟩ vs).v]) ∧ Below w.heap.size w w' :=
  RStateOf_any nm A u ca B d cb hold V vs cv w ho hl hA hB hV
theorem evs_len (u d : List Int) (hold : Int) (vs : List Int) : (evs u d hold vs).length ≤ vs.length := by
  unfold evs
  rw [List.length_map]
  exact chs_len u d hold vs 0 _
set_option maxRecDepth 100000 in
set_option maxHeartbeats 4000000 in
theorem WarnStates_any (nm : ByteArray) (A : Option Addr) (u : List Int) (ca : Nat) (B : Option Addr) (d : List Int) (cb : Nat) (hold : Int) (V : Option Addr) (vs : List Int) (cv : Nat) (w : World) (hA : IntsAt w A u) (hB : IntsAt w B d) (hV : IntsAt w V vs) :
    Calls Try.prog 6 #[.agg #[.string nm, .slice A u.length ca, .slice B d.length cb, .int .i64 hold], .slice V vs.length cv] w fun e w' => e = .returned (.bool true) ∧ Below w.heap.size w w' := by
  go_enter Try.func6, Try.ntmps6
  go_wp2_with (fail)
  have hb0 : Below w.heap.size w (w.alloc (.cells #[.string nm, .slice A u.length ca, .slice B d.length cb, .int .i64 hold] 24)) := below_alloc _ (Nat.le_refl _) (Below.refl _ _)
  have x0 : (w.alloc (.cells #[.string nm, .slice A u.length ca, .slice B d.length cb, .int .i64 hold] 24)).cell? ⟨w.heap.size, 0, none⟩ = some (.string nm) := cell_new (by simp) rfl
  have x1 : (w.alloc (.cells #[.string nm, .slice A u.length ca, .slice B d.length cb, .int .i64 hold] 24)).cell? ⟨w.heap.size, 1, none⟩ = some (.slice A u.length ca) := cell_new (by simp) rfl
  have x2 : (w.alloc (.cells #[.string nm, .slice A u.length ca, .slice B d.length cb, .int .i64 hold] 24)).cell? ⟨w.heap.size, 2, none⟩ = some (.slice B d.length cb) := cell_new (by simp) rfl
  have x3 : (w.alloc (.cells #[.string nm, .slice A u.length ca, .slice B d.length cb, .int .i64 hold] 24)).cell? ⟨w.heap.size, 3, none⟩ = some (.int .i64 hold) := cell_new (by simp) rfl
  have zx : w.heap.size < (w.alloc (.cells #[.string nm, .slice A u.length ca, .slice B d.length cb, .int .i64 hold] 24)).heap.size := World.block_lt_of_cell? _ _ x0
  generalize (w.alloc (.cells #[.string nm, .slice A u.length ca, .slice B d.length cb, .int .i64 hold] 24)) = w0 at *
  have hA0 := RowsAt.below hA hb0
  have hB0 := RowsAt.below hB hb0
  have hV0 := RowsAt.below hV hb0
  clear hA hB hV
  refine (awake_any _).mono ?_
  rintro e w1 ⟨rfl, hb1⟩
  have h1 : Below w.heap.size w w1 := (hb0).trans ((hb1).mono (hb0).size)
  replace x0 := cell_below' hb1 x0
  replace x1 := cell_below' hb1 x1
  replace x2 := cell_below' hb1 x2
  replace x3 := cell_below' hb1 x3
  replace zx := Nat.lt_of_lt_of_le zx (hb1).size
  replace hA0 := RowsAt.below hA0 hb1
  replace hB0 := RowsAt.below hB0 hb1
  replace hV0 := RowsAt.below hV0 hb1
  clear hb1 hb0
  go_wp2_with (fail)
  refine (few_any nm A u ca B d cb hold _).mono ?_
  rintro e w2 ⟨rfl, hb2⟩
  have h2 : Below w.heap.size w w2 := (h1).trans ((hb2).mono (h1).size)
  replace x0 := cell_below' hb2 x0
  replace x1 := cell_below' hb2 x1
  replace x2 := cell_below' hb2 x2
  replace x3 := cell_below' hb2 x3
  replace zx := Nat.lt_of_lt_of_le zx (hb2).size
  replace hA0 := RowsAt.below hA0 hb2
  replace hB0 := RowsAt.below hB0 hb2
  replace hV0 := RowsAt.below hV0 hb2
  clear hb2 h1
  cases hf : fewB nm u d
  · clear hf
    go_wp2_with (fail)
    go_ret
    exact ⟨rfl, h2⟩
  obtain ⟨hu6, hd6, hn30⟩ := fewB_true hf
  clear hf
  cases hsh : shortB vs.length
  · have HSH := Lib.hid hsh
    clear hsh
    go_wp2_with (go_at_call 34; refine (short_any _ _ _ _).mono ?_; rintro e w' ⟨rfl, rfl⟩; rw [HSH.out])
    go_ret
    exact ⟨rfl, h2⟩
  have hvl := shortB_true hsh
  have HSH := Lib.hid hsh
  clear hsh
  go_wp2_with (go_at_call 34; refine (short_any _ _ _ _).mono ?_; rintro e w' ⟨rfl, rfl⟩; rw [HSH.out])
  clear HSH
  refine (CopyRules_any nm A u ca B d cb hold _ (by omega) (by omega) hA0 hB0).mono ?_
  rintro e w3 ⟨A3, ca3, B3, cb3, rfl, ra, rb, hcb3, hb3⟩
  have h3 : Below w.heap.size w w3 := (h2).trans ((hb3).mono (h2).size)
  replace x0 := cell_below' hb3 x0
  replace x1 := cell_below' hb3 x1
  replace x2 := cell_below' hb3 x2
  replace x3 := cell_below' hb3 x3
  replace zx := Nat.lt_of_lt_of_le zx (hb3).size
  replace hA0 := RowsAt.below hA0 hb3
  replace hB0 := RowsAt.below hB0 hb3
  replace hV0 := RowsAt.below hV0 hb3
  clear hb3 h2
  go_wp2_with (fail)
  refine (CopyInts_any V vs cv _ (by omega) hV0).mono ?_
  rintro e w4 ⟨A4, c4, rfl, own4, hb4⟩
  replace ra := RowsAt.below ra hb4
  replace rb := RowsAt.below rb hb4
  have h4 : Below w.heap.size w w4 := (h3).trans ((hb4).mono (h3).size)
  replace x0 := cell_below' hb4 x0
  replace x1 := cell_below' hb4 x1
  replace x2 := cell_below' hb4 x2
  replace x3 := cell_below' hb4 x3
  replace zx := Nat.lt_of_lt_of_le zx (hb4).size
  replace hA0 := RowsAt.below hA0 hb4
  replace hB0 := RowsAt.below hB0 hb4
  replace hV0 := RowsAt.below hV0 hb4
  clear hb4 h3
  go_wp2_with (fail)
  refine (StateOf_v nm A3 u ca3 B3 d cb3 hold A4 vs c4 _ (by omega) (by omega) (by omega) hcb3 (by omega) ra rb (rowsAt_of_own (f := intC) own4 rfl (by decide))).mono ?_
  rintro e w5 ⟨rfl, hb5⟩
  have h5 : Below w.heap.size w w5 := (h4).trans ((hb5).mono (h4).size)
  replace x0 := cell_below' hb5 x0
  replace x1 := cell_below' hb5 x1
  replace x2 := cell_below' hb5 x2
  replace x3 := cell_below' hb5 x3
  replace zx := Nat.lt_of_lt_of_le zx (hb5).size
  replace hA0 := RowsAt.below hA0 hb5
  replace hB0 := RowsAt.below hB0 hb5
  replace hV0 := RowsAt.below hV0 hb5
  clear hb5 h4
  clear ra rb own4
  have HEQ := Lib.hid (show evQ nm u d hold vs = if valE nm u d hold vs = 0 then (evs u d hold vs, 0) else ([], valE nm u d hold vs) from rfl)
  have HT := Lib.hid (show okSta nm u d hold vs = if valE nm u d hold vs = 0 then runS u d hold ⟨0, 0, 0⟩ vs else ⟨0, 0, 0⟩ from rfl)
  have HF := Lib.hid (valE_vls nm u d hold vs)
  have HEV := Lib.hid (fun (A' : Option Addr) (ca' : Nat) (B' : Option Addr) (cb' : Nat) (V' : Option Addr) (cv' : Nat) (W : World) (hcb' : d.length ≤ cb') (hA' : IntsAt W A' u) (hB' : IntsAt W B' d) (hV' : IntsAt W V' vs) => EventsOf_any nm A' u ca' B' d cb' hold V' vs cv' W (by omega) (by omega) (by omega) hcb' (by omega) hA' hB' hV')
  generalize okSta nm u d hold vs = T at *
  generalize evQ nm u d hold vs = EQ at *
  generalize valE nm u d hold vs = F at *
  go_wp2_with (fail)
  have hb6 : Below w5.heap.size w5 (w5.alloc (.cells #[.int .i64 T.l, .int .i64 T.b, .int .i64 T.v] 61)) := below_alloc _ (Nat.le_refl _) (Below.refl _ _)
  have r0 : (w5.alloc (.cells #[.int .i64 T.l, .int .i64 T.b, .int .i64 T.v] 61)).cell? ⟨w5.heap.size, 0, none⟩ = some (.int .i64 T.l) := cell_new (by simp) rfl
  have r1 : (w5.alloc (.cells #[.int .i64 T.l, .int .i64 T.b, .int .i64 T.v] 61)).cell? ⟨w5.heap.size, 1, none⟩ = some (.int .i64 T.b) := cell_new (by simp) rfl
  have r2 : (w5.alloc (.cells #[.int .i64 T.l, .int .i64 T.b, .int .i64 T.v] 61)).cell? ⟨w5.heap.size, 2, none⟩ = some (.int .i64 T.v) := cell_new (by simp) rfl
  have zr : w5.heap.size < (w5.alloc (.cells #[.int .i64 T.l, .int .i64 T.b, .int .i64 T.v] 61)).heap.size := World.block_lt_of_cell? _ _ r0
  generalize (w5.alloc (.cells #[.int .i64 T.l, .int .i64 T.b, .int .i64 T.v] 61)) = w6 at *
  have h6 : Below w.heap.size w w6 := (h5).trans ((hb6).mono (h5).size)
  replace x0 := cell_below' hb6 x0
  replace x1 := cell_below' hb6 x1
  replace x2 := cell_below' hb6 x2
  replace x3 := cell_below' hb6 x3
  replace zx := Nat.lt_of_lt_of_le zx (hb6).size
  replace hA0 := RowsAt.below hA0 hb6
  replace hB0 := RowsAt.below hB0 hb6
  replace hV0 := RowsAt.below hV0 hb6
  clear hb6 h5
  refine (CopyRules_any nm A u ca B d cb hold _ (by omega) (by omega) hA0 hB0).mono ?_
  rintro e w7 ⟨A7, ca7, B7, cb7, rfl, ra, rb, hcb7, hb7⟩
  have h7 : Below w.heap.size w w7 := (h6).trans ((hb7).mono (h6).size)
  replace x0 := cell_below' hb7 x0
  replace x1 := cell_below' hb7 x1
  replace x2 := cell_below' hb7 x2
  replace x3 := cell_below' hb7 x3
  replace zx := Nat.lt_of_lt_of_le zx (hb7).size
  replace r0 := cell_below' hb7 r0
  replace r1 := cell_below' hb7 r1
  replace r2 := cell_below' hb7 r2
  replace zr := Nat.lt_of_lt_of_le zr (hb7).size
  replace hA0 := RowsAt.below hA0 hb7
  replace hB0 := RowsAt.below hB0 hb7
  replace hV0 := RowsAt.below hV0 hb7
  clear hb7 h6
  go_wp2_with (fail)
  refine (CopyInts_any V vs cv _ (by omega) hV0).mono ?_
  rintro e w8 ⟨A8, c8, rfl, own8, hb8⟩
  replace ra := RowsAt.below ra hb8
  replace rb := RowsAt.below rb hb8
  have h8 : Below w.heap.size w w8 := (h7).trans ((hb8).mono (h7).size)
  replace x0 := cell_below' hb8 x0
  replace x1 := cell_below' hb8 x1
  replace x2 := cell_below' hb8 x2
  replace x3 := cell_below' hb8 x3
  replace zx := Nat.lt_of_lt_of_le zx (hb8).size
  replace r0 := cell_below' hb8 r0
  replace r1 := cell_below' hb8 r1
  replace r2 := cell_below' hb8 r2
  replace zr := Nat.lt_of_lt_of_le zr (hb8).size
  replace hA0 := RowsAt.below hA0 hb8
  replace hB0 := RowsAt.below hB0 hb8
  replace hV0 := RowsAt.below hV0 hb8
  clear hb8 h7
  go_wp2_with (fail)
  refine (HEV.out A7 ca7 B7 cb7 A8 c8 _ hcb7 ra rb (rowsAt_of_own (f := intC) own8 rfl (by decide))).mono ?_
  rintro e w9 ⟨A9, c9, rfl, hE9, hb9⟩
  have h9 : Below w.heap.size w w9 := (h8).trans ((hb9).mono (h8).size)
  replace x0 := cell_below' hb9 x0
  replace x1 := cell_below' hb9 x1
  replace x2 := cell_below' hb9 x2
  replace x3 := cell_below' hb9 x3
  replace zx := Nat.lt_of_lt_of_le zx (hb9).size
  replace r0 := cell_below' hb9 r0
  replace r1 := cell_below' hb9 r1
  replace r2 := cell_below' hb9 r2
  replace zr := Nat.lt_of_lt_of_le zr (hb9).size
  replace hA0 := RowsAt.below hA0 hb9
  replace hB0 := RowsAt.below hB0 hb9
  replace hV0 := RowsAt.below hV0 hb9
  clear hb9 h8
  clear ra rb own8 HEV
  go_wp2_with (fail)
  refine (RulesErr_any nm A u ca B d cb hold _ (by omega) (by omega) (by omega) hA0 hB0).mono ?_
  rintro e w10 ⟨rfl, hb10⟩
  replace hE9 := RowsAt.below hE9 hb10
  have h10 : Below w.heap.size w w10 := (h9).trans ((hb10).mono (h9).size)
  replace x0 := cell_below' hb10 x0
  replace x1 := cell_below' hb10 x1
  replace x2 := cell_below' hb10 x2
  replace x3 := cell_below' hb10 x3
  replace zx := Nat.lt_of_lt_of_le zx (hb10).size
  replace r0 := cell_below' hb10 r0
  replace r1 := cell_below' hb10 r1
  replace r2 := cell_below' hb10 r2
  replace zr := Nat.lt_of_lt_of_le zr (hb10).size
  replace hA0 := RowsAt.below hA0 hb10
  replace hB0 := RowsAt.below hB0 hb10
  replace hV0 := RowsAt.below hV0 hb10
  clear hb10 h9
  have HOK := Lib.hid (fun h : chkRE nm u d hold = 0 => (okR_of h : OkR nm u d hold))
  generalize chkRE nm u d hold = C at *
  by_cases hC : C = 0
  rotate_left 1
  · have hF := HF.out.trans (if_neg hC)
    have hT := HT.out.trans (if_neg (by rw [hF]; exact hC))
    have hQ := HEQ.out.trans (if_neg (by rw [hF]; exact hC))
    have e1 : (C == 0) = false := by simpa using hC
    have e2 : (C != 0) = true := by simpa using hC
    subst hF hT hQ
    have e3 : (F == F) = true := by simp
    clear hC HF HT HEQ HOK
    go_wp2_with (fail)
    go_ret
    exact ⟨rfl, h10⟩
  subst hC
  have HO := Lib.hid (HOK.out rfl)
  have hF := HF.out.trans (if_pos rfl)
  have HVL := Lib.hid (fun W (h : IntsAt W V vs) => ValuesErr_any V vs cv W (by omega) h)
  rw [← hF] at HVL
  clear hF HF HOK
  by_cases hF : F = 0
  rotate_left 1
  · have hT := HT.out.trans (if_neg hF)
    have hQ := HEQ.out.trans (if_neg hF)
    have e1 : (F == 0) = false := by simpa using hF
    have e2 : (F != 0) = true := by simpa using hF
    subst hT hQ
    have e3 : (F == F) = true := by simp
    clear hF HT HEQ
    go_wp2_with (go_at_call 39; refine (HVL.out _ hV0).mono ?_; rintro e w' ⟨rfl, rfl⟩)
    go_ret
    exact ⟨rfl, h10⟩
  subst hF
  have hT := HT.out.trans (if_pos rfl)
  have hQ := HEQ.out.trans (if_pos rfl)
  subst hQ
  have hlen := evs_len u d hold vs
  have HRS := Lib.hid (fun W (hA' : IntsAt W A u) (hB' : IntsAt W B d) (hV' : IntsAt W V vs) => RStateOf_v nm A u ca B d cb hold V vs cv W HO.out (by omega) hA' hB' hV')
  rw [← hT] at HRS
  have HRE := Lib.hid (fun W (hA' : IntsAt W A u) (hB' : IntsAt W B d) (hV' : IntsAt W V vs) => REvents_any nm A u ca B d cb hold V vs cv W HO.out (by omega) hA' hB' hV')
  clear hT HT HEQ
  generalize evs u d hold vs = E at *
  have t0 : (T.l == T.l) = true := by simp
  have t1 : (T.b == T.b) = true := by simp
  have t2 : (T.v == T.v) = true := by simp
  go_upto_region 12 with (go_at_call 39; refine (HVL.out _ hV0).mono ?_; rintro e w' ⟨rfl, rfl⟩)
  go_region_held3 (fun w' => w'.cell? ⟨w.heap.size, 0, none⟩ = some (.string nm) ∧ w'.cell? ⟨w.heap.size, 1, none⟩ = some (.slice A u.length ca) ∧ w'.cell? ⟨w.heap.size, 2, none⟩ = some (.slice B d.length cb) ∧ w'.cell? ⟨w.heap.size, 3, none⟩ = some (.int .i64 hold) ∧ w'.cell? ⟨w5.heap.size, 0, none⟩ = some (.int .i64 T.l) ∧ w'.cell? ⟨w5.heap.size, 1, none⟩ = some (.int .i64 T.b) ∧ w'.cell? ⟨w5.heap.size, 2, none⟩ = some (.int .i64 T.v))
    ((((try go_split_ands); (repeat' (apply And.intro)) <;> (repeat (first | (with_reducible assumption) | (with_reducible refine cell_drew ?_) | (with_reducible refine cell_alloc _ ?_) | (with_reducible refine cell_below' (by with_reducible assumption) ?_) | (with_reducible refine cell_far ?_ ?_; focus (first | omega | (simp; omega) | (simp; done))))))))
    (first
      | (go_at_call 40; ((with_reducible refine (HRS.out _ ?_ ?_ ?_).mono ?_); (focus (exact RowsAt.below hA0 (Below.refl _ w10).drew)); (focus (exact RowsAt.below hB0 (Below.refl _ w10).drew)); (focus (exact RowsAt.below hV0 (Below.refl _ w10).drew)); rintro e w11 ⟨rfl, hb11⟩; have hy11 : Below w10.heap.size w10 w11 := ((Below.refl _ w10).drew).trans hb11))
      | (go_at_call 42; ((with_reducible refine (HRE.out _ ?_ ?_ ?_).mono ?_); (focus (exact RowsAt.below hA0 hy11)); (focus (exact RowsAt.below hB0 hy11)); (focus (exact RowsAt.below hV0 hy11)); rintro e w12 ⟨A12, c12, rfl, hE12, hb12⟩; have hy12 : Below w10.heap.size w10 w12 := hy11.trans (hb12.mono hy11.size)))
      | (go_at_call 41; ((with_reducible refine (SameEvents_refl A9 A12 E c9 c12 _ (by omega) ?_ ?_).mono ?_); (focus (exact RowsAt.below hE9 hy12)); (focus (exact hE12)); rintro e w13 ⟨rfl, hb13⟩; have hy13 : Below w10.heap.size w10 w13 := hy12.trans (hb13.mono hy12.size))))
  go_wp2_with (fail)
  go_ret
  exact ⟨rfl, h10.trans (hy13.mono h10.size)⟩
end Go.Proofs.Ytcfbnmcdncndpaa
