/-
  Chapter 2: the reference's echoes in words, and back.
-/
import Derived.Test.YtlnbbioponmcfaaGreatDoorEItP
namespace Go.Proofs.YtlnbbioponmcfaaGreatDoor
open Go.ChangeShapes Go.WideShapes Go.ChangeAt Go.RowKit
set_option linter.unusedVariables false
set_option linter.unusedSimpArgs false

theorem itW_size {x : It} (h : OkIt x) : (itW x).size ≤ 105 := itW_len h
set_option maxRecDepth 100000 in
set_option maxHeartbeats 4000000 in
theorem RFormatEchoes_any (A : Option Addr) (l : List It) (cap : Nat) (w : World) (hl : l.length ≤ 1000) (hok : ∀ x ∈ l, OkIt x) (hA : ItsAt w A l) :
    Calls Tryz.prog 25 #[.slice A l.length cap] w fun e w' => e = .returned (.string (fmtE l)) ∧ Below w.heap.size w w' := by
  by_cases hne : l = []
  · subst hne
    go_enter Tryz.func25, Tryz.ntmps25
    go_wp2_with (fail)
    go_ret
    exact ⟨rfl, Below.refl _ _⟩
  obtain ⟨out, ho⟩ : ∃ o, o = fmtE l := ⟨_, rfl⟩
  rw [← ho]
  have ho2 : out = jn (l.map itW) ⟨#[44]⟩ := by rw [ho]; unfold fmtE; rw [if_neg hne]
  have hl0 : 0 < l.length := List.length_pos_iff.2 hne
  have e0 : ((l.length : Int) == 0) = false := by rw [beq_eq_false_iff_ne]; omega
  have e1 : (l.length == 0) = false := by rw [beq_eq_false_iff_ne]; omega
  have HO := Lib.hid ho2
  have HOK := Lib.hid hok
  have HNE := Lib.hid hne
  clear ho ho2 hok hne
  go_enter Tryz.func25, Tryz.ntmps25
  go_wp2_with (fail)
  go_loopw [3, 4] (fun o i wr => ∃ (k : Nat) (S : ByteArray), k ≤ l.length ∧ i = .int .i64 k ∧ o = .string S ∧ S = jn ((l.take k).map itW) ⟨#[44]⟩ ∧ S.size ≤ 106 * k ∧ Below w.heap.size w wr) (fun _ i _ => l.length - (intOf i).toNat)
  case atStart => exact ⟨0, ⟨#[]⟩, Nat.zero_le _, rfl, rfl, rfl, Nat.le_refl _, Below.refl _ _⟩
  case round =>
    obtain ⟨k, S, hk, rfl, rfl, hS, hSz, hbr⟩ := hrel
    obtain ⟨wo, rfl⟩ : ∃ wo : World, wo = wr := ⟨_, rfl⟩
    have AR := RowsAt.below hA hbr
    have HS := Lib.hid hS
    clear hS
    have hSm : S.size ≤ 106000 := by omega
    by_cases hlt : k < l.length
    · have hsx : l.take (k + 1) = l.take k ++ [l[k]] := List.take_succ_eq_append_getElem hlt
      obtain ⟨b, off, rfl, hb, c0, c1, c2, c3, c4⟩ := ItsAt.at_ AR hlt
      have hx := HOK.out _ (List.getElem_mem hlt)
      have hsz := itW_size hx
      have HNX : Hid ((l.take (k + 1)).map itW = (l.take k).map itW ++ [itW l[k]]) := Lib.hid (by rw [hsx, List.map_append]; rfl)
      have HD : Hid (∀ (A : Option Addr) (c : Nat) (W : World), IntsAt W A (itL (l[k]'hlt)) → Calls Tryz.prog 58 #[.slice A 5 c] W fun e w' => e = .returned (.string (itW (l[k]'hlt))) ∧ Below W.heap.size W w') := Lib.hid (fun A c W h => Rnumbers_any A (itL (l[k]'hlt)) c W (show 5 ≤ 1000 by decide) hx.all h)
      have hkI : (k : Int) < (l.length : Int) := by omega
      have hbwo := hb
      clear hsx hx
      generalize itW l[k] = y at *
      generalize l[k] = x at *
      obtain ⟨xl, xp, xt, xlo, xhi⟩ := x
      simp only at c0 c1 c2 c3 c4
      have h44 : (⟨#[44]⟩ : ByteArray).size = 1 := rfl
      have hq1 : ¬ (9223372036854775807 < S.size + y.size) := by omega
      have hq2 : ¬ (9223372036854775807 < S.size + 1 + y.size) := by omega
      by_cases hk0 : k = 0
      · have e2 : decide ((0 : Int) < (k : Int)) = false := decide_eq_false (by omega)
        have e3 : decide (0 < k) = false := decide_eq_false (by omega)
        have HE : Hid (S = ⟨#[]⟩) := Lib.hid (by rw [HS.out, hk0]; rfl)
        have HK := Lib.hid hk0
        clear hk0
        go_upto_region 9 with (fail)
        go_region_held3 (fun w' => w'.cell? ⟨b, off + k * 5, none⟩ = some (.int .i64 xl) ∧ w'.cell? ⟨b, off + k * 5 + 1, none⟩ = some (.int .i64 xp) ∧ w'.cell? ⟨b, off + k * 5 + 2, none⟩ = some (.int .i64 xt) ∧ w'.cell? ⟨b, off + k * 5 + 3, none⟩ = some (.int .i64 xlo) ∧ w'.cell? ⟨b, off + k * 5 + 4, none⟩ = some (.int .i64 xhi)) ((((try go_split_ands); (repeat' (apply And.intro)) <;> (repeat (first | (with_reducible assumption) | (with_reducible refine cell_drew ?_) | (with_reducible refine cell_alloc _ ?_) | (with_reducible refine cell_below' (by with_reducible assumption) ?_) | (with_reducible refine cell_far ?_ ?_; focus (first | omega | (simp; omega) | (simp; done)))))))) (first
          | (go_at_call 58; (with_reducible refine (HD.out _ 5 _ ?_).mono ?_); (focus (exact ints_new (by first | exact blk_drew (blk_new rfl) | exact blk_new rfl) (fun k x hk => by
              rcases k with _ | _ | _ | _ | _ | k
              all_goals first | (cases hk; rfl) | (exfalso; have := (List.getElem?_eq_some_iff.1 hk).1; simp [itL] at this; omega)))); rintro e w5 ⟨rfl, hb5⟩))
        have hb5w : Below wo.heap.size wo w5 := (by repeat (first | with_reducible assumption | with_reducible exact Below.refl _ _ | with_reducible refine Below.drew ?_ | (with_reducible refine below_alloc _ (by first | exact Nat.le_refl _ | exact Nat.le_refl _) ?_) | with_reducible refine below_drewN ?_ _ | (with_reducible refine below_call (by with_reducible assumption) (by first | exact Nat.le_refl _ | exact Nat.le_refl _) ?_)))
        have hbw5 : Below w.heap.size w w5 := hbr.trans (hb5w.mono hbr.size)
        clear hb5 hb5w AR c0 c1 c2 c3 c4
        go_wp2_with (fail)
        refine ⟨⟨k + 1, S ++ y, by omega, by go_num, rfl, ?_, by rw [ByteArray.size_append]; omega, hbw5⟩, by simp [intOf]; omega⟩
        rw [HNX.out, HE.out, HK.out]
        rw [List.take_zero, List.map_nil, List.nil_append, jn_one]
        apply ByteArray.ext
        simp
      · have e2 : decide ((0 : Int) < (k : Int)) = true := decide_eq_true (by omega)
        have e3 : decide (0 < k) = true := decide_eq_true (by omega)
        have HE : Hid ((l.take k).map itW ≠ []) := Lib.hid (by
          intro e
          have := congrArg List.length e
          rw [List.length_map, List.length_take] at this
          change min k l.length = 0 at this
          omega)
        clear hk0
        go_upto_region 9 with (fail)
        go_region_held3 (fun w' => w'.cell? ⟨b, off + k * 5, none⟩ = some (.int .i64 xl) ∧ w'.cell? ⟨b, off + k * 5 + 1, none⟩ = some (.int .i64 xp) ∧ w'.cell? ⟨b, off + k * 5 + 2, none⟩ = some (.int .i64 xt) ∧ w'.cell? ⟨b, off + k * 5 + 3, none⟩ = some (.int .i64 xlo) ∧ w'.cell? ⟨b, off + k * 5 + 4, none⟩ = some (.int .i64 xhi)) ((((try go_split_ands); (repeat' (apply And.intro)) <;> (repeat (first | (with_reducible assumption) | (with_reducible refine cell_drew ?_) | (with_reducible refine cell_alloc _ ?_) | (with_reducible refine cell_below' (by with_reducible assumption) ?_) | (with_reducible refine cell_far ?_ ?_; focus (first | omega | (simp; omega) | (simp; done)))))))) (first
          | (go_at_call 58; (with_reducible refine (HD.out _ 5 _ ?_).mono ?_); (focus (exact ints_new (by first | exact blk_drew (blk_new rfl) | exact blk_new rfl) (fun k x hk => by
              rcases k with _ | _ | _ | _ | _ | k
              all_goals first | (cases hk; rfl) | (exfalso; have := (List.getElem?_eq_some_iff.1 hk).1; simp [itL] at this; omega)))); rintro e w5 ⟨rfl, hb5⟩))
        have hb5w : Below wo.heap.size wo w5 := (by repeat (first | with_reducible assumption | with_reducible exact Below.refl _ _ | with_reducible refine Below.drew ?_ | (with_reducible refine below_alloc _ (by first | exact Nat.le_refl _ | exact Nat.le_refl _) ?_) | with_reducible refine below_drewN ?_ _ | (with_reducible refine below_call (by with_reducible assumption) (by first | exact Nat.le_refl _ | exact Nat.le_refl _) ?_)))
        have hbw5 : Below w.heap.size w w5 := hbr.trans (hb5w.mono hbr.size)
        clear hb5 hb5w AR c0 c1 c2 c3 c4
        go_wp2_with (fail)
        refine ⟨⟨k + 1, S ++ ⟨#[44]⟩ ++ y, by omega, by go_num, rfl, ?_, by rw [ByteArray.size_append, ByteArray.size_append]; omega, hbw5⟩, by simp [intOf]; omega⟩
        rw [HNX.out, jn_snoc _ _ _ HE.out, ← HS.out]
    · obtain rfl : l.length = k := by omega
      have HE : Hid (S = out) := Lib.hid (by rw [HS.out, HO.out, List.take_length])
      go_wp2_with (fail)
      go_ret
      exact ⟨by rw [HE.out]; rfl, hbr⟩
set_option maxRecDepth 100000 in
set_option maxHeartbeats 4000000 in
theorem EchoesErr_any (A : Option Addr) (l : List It) (cap : Nat) (w : World) (hl : l.length ≤ 100000) (hA : ItsAt w A l) :
    Calls Tryz.prog 26 #[.slice A l.length cap] w fun e w' => e = .returned (.int .i64 (itsE (-1) l)) ∧ Below w.heap.size w w' := by
  have hlI : (l.length : Int) ≤ 100000 := by omega
  obtain ⟨R, hR⟩ : ∃ R, R = itsE (-1) l := ⟨_, rfl⟩
  rw [← hR]
  have HR := Lib.hid hR
  clear hR
  go_enter Tryz.func26, Tryz.ntmps26
  go_wp2_with (fail)
  go_loopw [3] (fun i wr => ∃ (k : Nat) (la : Int), k ≤ l.length ∧ i = .int .i64 k ∧ R = itsE la (l.drop k) ∧ (∀ j (h : j < l.length), k = j + 1 → la = l[j].l) ∧ (k = 0 → la = -1) ∧ Below w.heap.size w wr) (fun i _ => l.length - (intOf i).toNat)
  case atStart => exact ⟨0, -1, Nat.zero_le _, rfl, HR.out, fun j h e => (by omega), fun _ => rfl, Below.refl _ _⟩
  case round =>
    obtain ⟨k, la, hk, rfl, hE2, hla, hla0, hbr⟩ := hrel
    obtain ⟨wo, rfl⟩ : ∃ wo : World, wo = wr := ⟨_, rfl⟩
    have HE2 := Lib.hid hE2
    have HLA := Lib.hid hla
    have HLA0 := Lib.hid hla0
    clear hE2 hla hla0
    by_cases hlt : k < l.length
    · have AR := RowsAt.below hA hbr
      obtain ⟨b, off, rfl, hb, c0, c1, c2, c3, c4⟩ := ItsAt.at_ AR hlt
      have hdr : l.drop k = l[k] :: l.drop (k + 1) := List.drop_eq_getElem_cons hlt
      have hE3 := HE2.out.trans (by rw [hdr])
      have HE3 := Lib.hid (show R = if itE la l[k] = 0 then itsE l[k].l (l.drop (k + 1)) else itE la l[k] from hE3)
      have HLN := Lib.hid (fun (j : Nat) (h : j < l.length) (e : k + 1 = j + 1) => show l[k].l = l[j].l by congr 2 <;> omega)
      have hkI : (k : Int) < (l.length : Int) := by omega
      clear hdr hE3
      generalize hxk : l[k] = x at *
      clear hxk
      obtain ⟨xl, xp, xt, xlo, xhi⟩ := x
      simp only at c0 c1 c2 c3 c4 HE3 HLN
      have hEE : itE la ⟨xl, xp, xt, xlo, xhi⟩ = firstE [unl (rgB ⟨xl, xp, xt, xlo, xhi⟩) 2, unl (withinB xt 0 3) 15, unl (odB la ⟨xl, xp, xt, xlo, xhi⟩) 9] := rfl
      have hRG : rgB ⟨xl, xp, xt, xlo, xhi⟩ = (withinB xl 0 1000000 && (withinB xp 1 1000000000 && (withinB xlo (-2000000000) 2000000000 && withinB xhi (-2000000000) 2000000000))) := rfl
      have hOD : odB la ⟨xl, xp, xt, xlo, xhi⟩ = (decide (xlo ≤ xhi) && decide (la < xl)) := rfl
      have HW1 := Lib.hid (fun W => Within_any xl 0 1000000 W)
      have HW2 := Lib.hid (fun W => Within_any xp 1 1000000000 W)
      have HW3 := Lib.hid (fun W => Within_any xlo (-2000000000) 2000000000 W)
      have HW4 := Lib.hid (fun W => Within_any xhi (-2000000000) 2000000000 W)
      have HW5 := Lib.hid (fun W => Within_any xt 0 3 W)
      have HX0 : Hid (withinB xl 0 1000000 = true → 0 ≤ xl) := Lib.hid (fun h => (withinB_true.1 h).1)
      rw [hRG] at hEE
      generalize itE la ⟨xl, xp, xt, xlo, xhi⟩ = E at *
      generalize hob : odB la ⟨xl, xp, xt, xlo, xhi⟩ = ob at *
      have HOB := Lib.hid hOD
      generalize withinB xl 0 1000000 = b1 at *
      generalize withinB xp 1 1000000000 = b2 at *
      generalize withinB xlo (-2000000000) 2000000000 = b3 at *
      generalize withinB xhi (-2000000000) 2000000000 = b4 at *
      generalize withinB xt 0 3 = b5 at *
      have HEE := Lib.hid hEE
      clear hEE hRG hOD hob
      go_upto_region 5 with (fail)
      have hb1 : Below wo.heap.size wo (wo.alloc (.cells #[.int .i64 xl, .int .i64 xp, .int .i64 xt, .int .i64 xlo, .int .i64 xhi] 58)) := below_alloc _ (Nat.le_refl _) (Below.refl _ _)
      have x0 : (wo.alloc (.cells #[.int .i64 xl, .int .i64 xp, .int .i64 xt, .int .i64 xlo, .int .i64 xhi] 58)).cell? ⟨wo.heap.size, 0, none⟩ = some (.int .i64 xl) := cell_new (by simp) rfl
      have x1 : (wo.alloc (.cells #[.int .i64 xl, .int .i64 xp, .int .i64 xt, .int .i64 xlo, .int .i64 xhi] 58)).cell? ⟨wo.heap.size, 1, none⟩ = some (.int .i64 xp) := cell_new (by simp) rfl
      have x2 : (wo.alloc (.cells #[.int .i64 xl, .int .i64 xp, .int .i64 xt, .int .i64 xlo, .int .i64 xhi] 58)).cell? ⟨wo.heap.size, 2, none⟩ = some (.int .i64 xt) := cell_new (by simp) rfl
      have x3 : (wo.alloc (.cells #[.int .i64 xl, .int .i64 xp, .int .i64 xt, .int .i64 xlo, .int .i64 xhi] 58)).cell? ⟨wo.heap.size, 3, none⟩ = some (.int .i64 xlo) := cell_new (by simp) rfl
      have x4 : (wo.alloc (.cells #[.int .i64 xl, .int .i64 xp, .int .i64 xt, .int .i64 xlo, .int .i64 xhi] 58)).cell? ⟨wo.heap.size, 4, none⟩ = some (.int .i64 xhi) := cell_new (by simp) rfl
      have zx : wo.heap.size < (wo.alloc (.cells #[.int .i64 xl, .int .i64 xp, .int .i64 xt, .int .i64 xlo, .int .i64 xhi] 58)).heap.size := World.block_lt_of_cell? _ _ x0
      generalize (wo.alloc (.cells #[.int .i64 xl, .int .i64 xp, .int .i64 xt, .int .i64 xlo, .int .i64 xhi] 58)) = w1 at *
      have hbr1 := hbr.trans (hb1.mono hbr.size)
      have AR1 := RowsAt.below AR hb1
      go_cut [38] from 15 to 38 (fun t wx => t = .bool (!b1 || (!b2 || (!b3 || !b4))) ∧ wx = w1)
      case first =>
        cases b1
        · go_wp2_with (first | (go_at_call 9; with_reducible refine (HW1.out _).mono ?_; rintro e w' ⟨rfl, rfl⟩) | (go_at_call 9; with_reducible refine (HW2.out _).mono ?_; rintro e w' ⟨rfl, rfl⟩) | (go_at_call 9; with_reducible refine (HW3.out _).mono ?_; rintro e w' ⟨rfl, rfl⟩) | (go_at_call 9; with_reducible refine (HW4.out _).mono ?_; rintro e w' ⟨rfl, rfl⟩))
          go_meet
          exact ⟨rfl, rfl⟩
        · cases b2
          · go_wp2_with (first | (go_at_call 9; with_reducible refine (HW1.out _).mono ?_; rintro e w' ⟨rfl, rfl⟩) | (go_at_call 9; with_reducible refine (HW2.out _).mono ?_; rintro e w' ⟨rfl, rfl⟩) | (go_at_call 9; with_reducible refine (HW3.out _).mono ?_; rintro e w' ⟨rfl, rfl⟩) | (go_at_call 9; with_reducible refine (HW4.out _).mono ?_; rintro e w' ⟨rfl, rfl⟩))
            go_meet
            exact ⟨rfl, rfl⟩
          · cases b3
            · go_wp2_with (first | (go_at_call 9; with_reducible refine (HW1.out _).mono ?_; rintro e w' ⟨rfl, rfl⟩) | (go_at_call 9; with_reducible refine (HW2.out _).mono ?_; rintro e w' ⟨rfl, rfl⟩) | (go_at_call 9; with_reducible refine (HW3.out _).mono ?_; rintro e w' ⟨rfl, rfl⟩) | (go_at_call 9; with_reducible refine (HW4.out _).mono ?_; rintro e w' ⟨rfl, rfl⟩))
              go_meet
              exact ⟨rfl, rfl⟩
            · cases b4
              · go_wp2_with (first | (go_at_call 9; with_reducible refine (HW1.out _).mono ?_; rintro e w' ⟨rfl, rfl⟩) | (go_at_call 9; with_reducible refine (HW2.out _).mono ?_; rintro e w' ⟨rfl, rfl⟩) | (go_at_call 9; with_reducible refine (HW3.out _).mono ?_; rintro e w' ⟨rfl, rfl⟩) | (go_at_call 9; with_reducible refine (HW4.out _).mono ?_; rintro e w' ⟨rfl, rfl⟩))
                go_meet
                exact ⟨rfl, rfl⟩
              · go_wp2_with (first | (go_at_call 9; with_reducible refine (HW1.out _).mono ?_; rintro e w' ⟨rfl, rfl⟩) | (go_at_call 9; with_reducible refine (HW2.out _).mono ?_; rintro e w' ⟨rfl, rfl⟩) | (go_at_call 9; with_reducible refine (HW3.out _).mono ?_; rintro e w' ⟨rfl, rfl⟩) | (go_at_call 9; with_reducible refine (HW4.out _).mono ?_; rintro e w' ⟨rfl, rfl⟩))
                go_meet
                exact ⟨rfl, rfl⟩
      case rest =>
      obtain ⟨v1, rfl⟩ : ∃ v1 : World, v1 = wc := ⟨_, rfl⟩
      obtain ⟨rfl, rfl⟩ := hcut
      obtain ⟨bN, hbN⟩ : ∃ bN, bN = (!b1 || (!b2 || (!b3 || !b4))) := ⟨_, rfl⟩
      have HBN : Hid ((b1 && (b2 && (b3 && b4))) = !bN) := Lib.hid (by rw [hbN]; cases b1 <;> cases b2 <;> cases b3 <;> cases b4 <;> rfl)
      have HB1 : Hid (bN = false → b1 = true) := Lib.hid (by rw [hbN]; cases b1 <;> simp)
      rw [← hbN]
      clear hbN
      cases bN
      rotate_left 1
      · have hE : E = 2 := by rw [HEE.out, HBN.out]; rfl
        have HF : Hid (R = 2) := Lib.hid (by rw [HE3.out, if_neg (by rw [hE]; decide), hE])
        clear HBN HB1 HE3 HEE hE
        go_wp2_with (fail)
        go_ret
        exact ⟨by rw [HF.out]; rfl, hbr1⟩
      have hx0 := HX0.out (HB1.out rfl)
      cases b5
      · have hE : E = 15 := by rw [HEE.out, HBN.out]; rfl
        have HF : Hid (R = 15) := Lib.hid (by rw [HE3.out, if_neg (by rw [hE]; decide), hE])
        clear HBN HB1 HE3 HEE hE
        go_wp2_with (go_at_call 9; with_reducible refine (HW5.out _).mono ?_; rintro e w' ⟨rfl, rfl⟩)
        go_ret
        exact ⟨by rw [HF.out]; rfl, hbr1⟩
      have hEob : E = unl ob 9 := by rw [HEE.out, HBN.out, unl_true, Bool.not_false, unl_true, firstE_z, firstE_z, firstE1]
      have HEOB := Lib.hid hEob
      clear HBN HB1 HEE hEob
      go_upto_region 9 with (go_at_call 9; with_reducible refine (HW5.out _).mono ?_; rintro e w' ⟨rfl, rfl⟩)
      by_cases hhl : xhi < xlo
      · have e1 : decide (xhi < xlo) = true := decide_eq_true hhl
        have hE : E = 9 := by rw [HEOB.out, HOB.out, decide_eq_false (by omega)]; rfl
        have HF : Hid (R = 9) := Lib.hid (by rw [HE3.out, if_neg (by rw [hE]; decide), hE])
        clear hE hhl HEOB HOB HE3
        (refine region_extx 21 (by kernel_rfl) (by kernel_rfl) fun hx => ?_; simp only [List.take_succ_cons, List.take_zero, List.drop_succ_cons, List.drop_zero]; (repeat (any_goals (first | go_big_quiet_step (fail) | quiet_step (fail)))))
        (refine wpQuiet_nil ?_; clear hx; intro u; have hbw3 := ext_bel _ u; have hxw3 := ext_cell _ u; generalize ext _ u = w3 at *; clear u; have hsw3 := hbw3.size; (try simp at hsw3))
        go_wp2_with (fail)
        go_ret
        exact ⟨by rw [HF.out]; rfl, hbr1.trans (hbw3.mono hbr1.size)⟩
      have e1 : decide (xhi < xlo) = false := decide_eq_false hhl
      by_cases hk0 : k = 0
      · have e2 : decide ((0 : Int) < (k : Int)) = false := decide_eq_false (by omega)
        have e3 : decide (0 < k) = false := decide_eq_false (by omega)
        have hE : E = 0 := by rw [HEOB.out, HOB.out, decide_eq_true (by omega), decide_eq_true (by have := HLA0.out hk0; omega)]; rfl
        have HF := Lib.hid (HE3.out.trans (if_pos hE))
        clear hE hhl HEOB HOB HE3 hk0
        (refine region_extx 21 (by kernel_rfl) (by kernel_rfl) fun hx => ?_; simp only [List.take_succ_cons, List.take_zero, List.drop_succ_cons, List.drop_zero]; (repeat (any_goals (first | go_big_quiet_step (fail) | quiet_step (fail)))))
        (refine wpQuiet_nil ?_; clear hx; intro u; have hbw3 := ext_bel _ u; have hxw3 := ext_cell _ u; generalize ext _ u = w3 at *; clear u; have hsw3 := hbw3.size; (try simp at hsw3))
        go_wp2_with (fail)
        exact ⟨⟨k + 1, xl, by omega, by go_num, HF.out, HLN.out, fun e => (by omega), hbr1.trans (hbw3.mono hbr1.size)⟩, by simp [intOf]; omega⟩
      obtain ⟨j, rfl⟩ : ∃ j, k = j + 1 := ⟨k - 1, by omega⟩
      have hjl : j < l.length := by omega
      obtain ⟨b', o', e', _, d0, _, _, _, _⟩ := ItsAt.at_ AR1 hjl
      cases e'
      have hlj := HLA.out j hjl rfl
      rw [← hlj] at d0
      have e2 : decide ((0 : Int) < ((j + 1 : Nat) : Int)) = true := decide_eq_true (by omega)
      have e3 : decide (0 < j + 1) = true := decide_eq_true (by omega)
      have hj1 : (j : Int) < (l.length : Int) := by omega
      have hj2 : (0 : Int) < (j : Int) + 1 := by omega
      have hj3 : IntKind.i64.wrap ((j : Int) + 1 - 1) = (j : Int) := by rw [IntKind.wrap_i64]; omega
      clear hlj
      by_cases hxl : xl ≤ la
      · have e4 : decide (xl ≤ la) = true := decide_eq_true hxl
        have hE : E = 9 := by rw [HEOB.out, HOB.out, decide_eq_true (by omega : xlo ≤ xhi), decide_eq_false (by omega : ¬ la < xl)]; rfl
        have HF : Hid (R = 9) := Lib.hid (by rw [HE3.out, if_neg (by rw [hE]; decide), hE])
        clear hE hhl HEOB HOB HE3 hxl
        (refine region_extx 21 (by kernel_rfl) (by kernel_rfl) fun hx => ?_; simp only [List.take_succ_cons, List.take_zero, List.drop_succ_cons, List.drop_zero]; (repeat (any_goals (first | go_big_quiet_step (fail) | quiet_step (fail)))))
        (refine wpQuiet_nil ?_; clear hx; intro u; have hbw3 := ext_bel _ u; have hxw3 := ext_cell _ u; generalize ext _ u = w3 at *; clear u; have hsw3 := hbw3.size; (try simp at hsw3))
        go_wp2_with (fail)
        go_ret
        exact ⟨by rw [HF.out]; rfl, hbr1.trans (hbw3.mono hbr1.size)⟩
      · have e4 : decide (xl ≤ la) = false := decide_eq_false hxl
        have hE : E = 0 := by rw [HEOB.out, HOB.out, decide_eq_true (by omega : xlo ≤ xhi), decide_eq_true (by omega : la < xl)]; rfl
        have HF := Lib.hid (HE3.out.trans (if_pos hE))
        clear hE hhl HEOB HOB HE3 hxl
        (refine region_extx 21 (by kernel_rfl) (by kernel_rfl) fun hx => ?_; simp only [List.take_succ_cons, List.take_zero, List.drop_succ_cons, List.drop_zero]; (repeat (any_goals (first | go_big_quiet_step (fail) | quiet_step (fail)))))
        (refine wpQuiet_nil ?_; clear hx; intro u; have hbw3 := ext_bel _ u; have hxw3 := ext_cell _ u; generalize ext _ u = w3 at *; clear u; have hsw3 := hbw3.size; (try simp at hsw3))
        go_wp2_with (fail)
        exact ⟨⟨j + 1 + 1, xl, by omega, by go_num, HF.out, HLN.out, fun e => (by omega), hbr1.trans (hbw3.mono hbr1.size)⟩, by simp [intOf]; omega⟩
    · obtain rfl : l.length = k := by omega
      have hE6 := HE2.out
      rw [List.drop_length] at hE6
      have HF := Lib.hid (show R = 0 from hE6)
      clear hE6
      go_wp2_with (fail)
      go_ret
      exact ⟨by rw [HF.out]; rfl, hbr⟩
end Go.Proofs.YtlnbbioponmcfaaGreatDoor
