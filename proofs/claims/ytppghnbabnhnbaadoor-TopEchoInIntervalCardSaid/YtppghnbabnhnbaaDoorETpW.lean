/-
  TopEchoInInterval, walked.
-/
import Derived.Test.YtppghnbabnhnbaaDoorETpA
import Derived.Test.YtppghnbabnhnbaaDoorEInP
import Derived.Test.YtppghnbabnhnbaaDoorESpc
import Derived.Test.YtppghnbabnhnbaaDoorESpR
import Derived.Test.YtppghnbabnhnbaaDoorERdo
namespace Go.Proofs.YtppghnbabnhnbaaDoor
open Go.ChangeShapes Go.WideShapes Go.ChangeAt Go.RowKit
set_option linter.unusedVariables false
set_option linter.unusedSimpArgs false

def mdV : Array Value := #[.int .i64 12, .int .i64 5, .int .i64 5, .int .i64 12, .int .i64 (-5), .int .i64 12, .int .i64 (-12), .int .i64 5, .int .i64 (-12), .int .i64 (-5), .int .i64 (-5), .int .i64 (-12), .int .i64 5, .int .i64 (-12), .int .i64 12, .int .i64 (-5)]
theorem mid_cell {w : World} {b : Nat} (h : w.heap[b]? = some (.cells #[.int .i64 12, .int .i64 5, .int .i64 5, .int .i64 12, .int .i64 (-5), .int .i64 12, .int .i64 (-12), .int .i64 5, .int .i64 (-12), .int .i64 (-5), .int .i64 (-5), .int .i64 (-12), .int .i64 5, .int .i64 (-12), .int .i64 12, .int .i64 (-5)] 28)) {o : Nat} (ho : o < 8) : w.cell? ⟨b, o * 2, none⟩ = some (.int .i64 (mid o).re) ∧ w.cell? ⟨b, o * 2 + 1, none⟩ = some (.int .i64 (mid o).im) := by
  have : o = 0 ∨ o = 1 ∨ o = 2 ∨ o = 3 ∨ o = 4 ∨ o = 5 ∨ o = 6 ∨ o = 7 := by omega
  rcases this with rfl | rfl | rfl | rfl | rfl | rfl | rfl | rfl <;> exact ⟨blk_cell h rfl, blk_cell h rfl⟩
theorem newsR {w : World} {vb : Nat} {x : Rd} (hv : w.heap[vb]? = some (.cells #[.int .i64 x.s, .int .i64 x.p, .int .i64 x.e] 34)) : ∀ j u, [Value.int .i64 x.s, .int .i64 x.p, .int .i64 x.e][j]? = some u → w.cell? ((⟨vb, 0, none⟩ : Addr).add j) = some u := fun j u hu => by
  rw [Addr.add_lit, Nat.zero_add]
  exact blk_cell hv (by simpa using hu)
/-- the readings of the first k spacings -/
def rdL (vs : List Int) (d : Int) (k : Nat) : List Rd := (vs.take k).map fun s => rdW s d
theorem rdL_succ {vs : List Int} {d : Int} {k : Nat} (h : k < vs.length) : rdL vs d (k + 1) = rdL vs d k ++ [rdW vs[k] d] := by
  unfold rdL
  rw [List.take_add_one, List.map_append, List.getElem?_eq_getElem h]
  rfl
theorem rdL_len {vs : List Int} {d : Int} {k : Nat} (h : k ≤ vs.length) : (rdL vs d k).length = k := by simp [rdL]; omega
theorem rdW_ok {s d : Int} (h0 : -360 ≤ s) (h1 : s ≤ 360) : OkRd (rdW s d) := by
  have hb : rdB (rdW s d) = true := by
    unfold rdB rdW
    simp only
    generalize s * d = a
    rw [Bool.and_eq_true, Bool.and_eq_true, withinB_true, withinB_true, withinB_true]
    omega
  exact rdB_true hb
theorem rdL_ok {vs : List Int} {d : Int} {k : Nat} (h : ∀ j (hj : j < vs.length), j < k → -360 ≤ vs[j] ∧ vs[j] ≤ 360) : ∀ r ∈ rdL vs d k, OkRd r := fun r hr => by
  simp only [rdL, List.mem_map] at hr
  obtain ⟨s, hs, rfl⟩ := hr
  obtain ⟨j, hj, rfl⟩ := List.mem_take_iff_getElem.1 hs
  obtain ⟨a, b⟩ := h j (by omega) (by omega)
  exact rdW_ok a b
theorem rdL_mem {vs : List Int} {d : Int} {k : Nat} (h0 : -90 ≤ d) (h1 : d ≤ 90) : d ∈ candA (rdL vs d k) := W_mem _ d h0 h1
theorem candQ_ok {l : List Rd} {d : Int} (hl : l.length ≤ 8) (hok : ∀ r ∈ l, OkRd r) (h : d ∈ candA l) : candQ l = (candA l, 0) := by
  unfold candQ
  have hp : 0 < (candA l).length := List.length_pos_of_mem h
  rw [if_pos (rdsE_of hl hok), decide_eq_true hp]
  rfl
theorem rdo_ok {g : Gs} (hg : Sz 50 g) (hn : nzP g.re g.im) {s d : Int} (h0 : -360 ≤ s) (h1 : s ≤ 360) {o : Nat} (ho : o = (s * d % 720 / 90).toNat) (ho8 : o < 8) : rdoQ g (gmul g (mid o)) s = (rdW s d, 0) := by
  obtain ⟨-, m2, m3⟩ := mid_oct ho8
  have hs2 : Sz 10000 (gmul g (mid o)) := (hg.mul m3).mono (by decide)
  have nn : ∀ {a : Gs}, nzP a.re a.im → neB a gz = true := fun {a} h => neB_of (fun e => by subst e; rcases h with h | h <;> exact h rfl)
  have hn2 : nzP (gmul g (mid o)).re (gmul g (mid o)).im := by
    have hc : nzP (gconj (mid o)).re (gconj (mid o)).im := by
      rcases m2 with h | h
      · exact .inl h
      · exact .inr (by show -(mid o).im ≠ 0; omega)
    have := nz_mul hc hn
    unfold rdG2 at this
    have e : gconj (gconj (mid o)) = mid o := by apply Gs.ext2 <;> simp [gconj]
    rw [e] at this
    exact this
  have hw : withinB s (-360) 360 = true := withinB_true.2 ⟨h0, h1⟩
  have e : rdoE g (gmul g (mid o)) s = 0 := by
    unfold rdoE
    rw [smpE_of (hg.mono (by decide)), smpE_of hs2, hw, nn hn, nn hn2]
    rfl
  unfold rdoQ
  rw [if_pos e]
  have q := @rdo_W g hn s d
  rw [← ho] at q
  rw [q]
theorem spsE_of : ∀ {l : List Int}, (∀ x ∈ l, -360 ≤ x ∧ x ≤ 360) → spsE l = 0
  | [], _ => rfl
  | x :: r, h => by
    rw [spsE_cons, withinB_true.2 (h x (List.mem_cons_self ..)), unl_true, if_pos rfl]
    exact spsE_of fun y hy => h y (List.mem_cons_of_mem _ hy)
theorem next_ok {r0 : Rd} {vs : List Int} {d : Int} (h0 : OkRd r0) (hn : 0 < vs.length) (hn2 : vs.length ≤ 20) (hs : ∀ x ∈ vs, -360 ≤ x ∧ x ≤ 360) (hd : d ∈ candA [r0]) : ∃ (k : Nat) (hk : k < vs.length), nextQ [r0] vs 45 = ((k : Int), wst vs[k] 45 (candA [r0]), 0) := by
  have hr : rdsE [r0] = 0 := rdsE_of (by simp) fun r h => by rw [List.mem_singleton.1 h]; exact h0
  have e : nextE [r0] vs 45 = 0 := by
    unfold nextE
    rw [hr, firstE_z, decide_eq_true hn, unl_true, firstE_z, decide_eq_true hn2, unl_true, firstE_z, spsE_of hs, firstE_z, firstE1]
    rfl
  obtain ⟨k, hk, hx⟩ := @nxt_spec 45 (candA [r0]) vs hn
  refine ⟨k, hk, ?_⟩
  have hne : (candA [r0]).length ≠ 0 := by have := List.length_pos_of_mem hd; omega
  rw [nextQ_ok e hne, hx]
theorem cand_nil : (candA []).length = 181 := by decide +kernel
theorem phase_ok {s d : Int} (hs : -360 ≤ s ∧ s ≤ 360) (hd0 : -90 ≤ d) (hd1 : d ≤ 90) (W : World) : Calls Tryd.prog 20 #[.int .i64 s, .int .i64 d] W fun e w' => e = .returned (.tuple #[.int .i64 (s * d % 720), .int .i64 0]) ∧ Below W.heap.size W w' := by
  have q := PhaseOf_any s d W
  have hp : phaseQ s d = (s * d % 720, 0) := by unfold phaseQ; rw [withinB_true.2 hs, withinB_true.2 ⟨hd0, hd1⟩]; rfl
  rw [hp] at q
  exact q
theorem reading_ok {g : Gs} (hg : Sz 50 g) (hn : nzP g.re g.im) {s d : Int} (hs : -360 ≤ s ∧ s ≤ 360) {o : Nat} (ho : o = (s * d % 720 / 90).toNat) (ho8 : o < 8) (W : World) : Calls Tryd.prog 21 #[gv g, gv (gmul g (mid o)), .int .i64 s] W fun e w' => e = .returned (.tuple #[rv (rdW s d), .int .i64 0]) ∧ Below W.heap.size W w' := by
  have q := ReadingOf_any g (gmul g (mid o)) s W
  rw [rdo_ok hg hn hs.1 hs.2 ho ho8] at q
  exact q
theorem rck_ok {r : Rd} (h : OkRd r) (W : World) : Calls Tryd.prog 23 #[rv r] W fun e w' => e = .returned (.int .i64 0) ∧ Below W.heap.size W w' := by
  have q := RCheckReading_any r W
  rw [rdE_of h] at q
  exact q
theorem wi_ok {n lo hi : Int} (h : lo ≤ n ∧ n ≤ hi) (W : World) : Calls Tryd.prog 18 #[.int .i64 n, .int .i64 lo, .int .i64 hi] W fun e w' => e = .returned (.bool true) ∧ W = w' := by
  have q := Within_any n lo hi W
  rw [withinB_true.2 h] at q
  exact q
theorem cpr_ok {L : List Rd} {k : Nat} (hk : L.length = k) (hk2 : k ≤ 8) (W : World) (B : Option Addr) (c : Nat) (hB : RdsAt W B L) : Calls Tryd.prog 25 #[.slice B k c] W fun e w' => ∃ A' c', e = .returned (.slice A' k c') ∧ RdsAt w' A' L ∧ Below W.heap.size W w' := by
  subst hk
  exact (CopyR_any B L c W (by omega) hB).mono fun e w' h => h.rows
theorem can_ok {L : List Rd} {k : Nat} {d : Int} (hk : L.length = k) (hk2 : k ≤ 8) (hd : d ∈ candA L) (hok : ∀ r ∈ L, OkRd r) (W : World) (B : Option Addr) (c : Nat) (hB : RdsAt W B L) : Calls Tryd.prog 24 #[.slice B k c] W fun e w' => ∃ A' c', e = .returned (.tuple #[.slice A' (candA L).length c', .int .i64 0]) ∧ IntsAt w' A' (candA L) ∧ Below W.heap.size W w' := by
  subst hk
  have q := Candidates_any B L c W (by omega) hB
  rw [candQ_ok hk2 hok hd] at q
  exact q
theorem has_ok {L : List Rd} {d : Int} (hd : d ∈ candA L) (W : World) (B : Option Addr) (c : Nat) (hB : IntsAt W B (candA L)) : Calls Tryd.prog 26 #[.slice B (candA L).length c, .int .i64 d] W fun e w' => e = .returned (.bool true) ∧ Below W.heap.size W w' := by
  have q := Has_any B (candA L) d c W (Nat.le_trans (candA_len _) (by decide)) hB
  rw [any_mem hd] at q
  exact q
theorem cpi_ok {vs : List Int} (h : vs.length ≤ 6) (W : World) (V : Option Addr) (cv : Nat) (hB : IntsAt W V vs) : Calls Tryd.prog 28 #[.slice V vs.length cv] W fun e w' => ∃ A' c', e = .returned (.slice A' vs.length c') ∧ IntsAt w' A' vs ∧ Below W.heap.size W w' :=
  (CopyInts_any V vs cv W (by omega) hB).mono fun e w' ⟨A', c', e1, own, hb⟩ => ⟨A', c', e1, rowsAt_of_own own rfl (by decide), hb⟩
theorem nxs_ok {r0 : Rd} {vs : List Int} {kn : Nat} {ms : Int} (hn : vs.length ≤ 6) (hq : nextQ [r0] vs 45 = ((kn : Int), ms, 0)) (W : World) (A : Option Addr) (ca : Nat) (B : Option Addr) (cb : Nat) (hA : RdsAt W A [r0]) (hB : IntsAt W B vs) : Calls Tryd.prog 27 #[.slice A 1 ca, .slice B vs.length cb, .int .i64 45] W fun e w' => e = .returned (.tuple #[.int .i64 kn, .int .i64 ms, .int .i64 0]) ∧ Below W.heap.size W w' := by
  have q := NextSpacing_any A [r0] ca B vs cb 45 W (by simp) (by omega) hA hB
  rw [hq] at q
  exact q
theorem wrap8_ok {o : Nat} (hoI : (o : Int) < 8) : IntKind.i64.wrap (o : Int) = o := by
  unfold IntKind.wrap IntKind.bits IntKind.signed; simp; omega
theorem oct_ok (a : Int) : ∃ o : Nat, (a % 720).tdiv 90 = (o : Int) ∧ o < 8 ∧ o = (a % 720 / 90).toNat := by
  rw [Int.tdiv_eq_ediv_of_nonneg (by omega)]
  exact ⟨(a % 720 / 90).toNat, by omega, by omega, rfl⟩
theorem ph_bd (a : Int) : 0 ≤ a % 720 ∧ a % 720 ≤ 719 := by omega
theorem rds2_ok {vs : List Int} {k : Nat} {s : Int} (hs : -360 ≤ s ∧ s ≤ 360) (h : ∀ j (hj : j < vs.length), j < k → -360 ≤ vs[j] ∧ vs[j] ≤ 360) (he : ∀ hk : k < vs.length, vs[k] = s) : ∀ j (hj : j < vs.length), j < k + 1 → -360 ≤ vs[j] ∧ vs[j] ≤ 360 := fun j hj hjk => if e : j = k then (by subst e; rw [he hj]; exact hs) else h j hj (by omega)
theorem r1_ok {s d : Int} (hs : -360 ≤ s ∧ s ≤ 360) : OkRd ⟨s, s * d % 720, 45⟩ := by
  have hb : rdB ⟨s, s * d % 720, 45⟩ = true := by
    unfold rdB
    simp only
    generalize s * d = a
    rw [Bool.and_eq_true, Bool.and_eq_true, withinB_true, withinB_true, withinB_true]
    omega
  exact rdB_true hb
theorem two_ok {a b : Rd} (ha : OkRd a) (hb : OkRd b) : ∀ r ∈ [a, b], OkRd r := fun r hr => by
  simp only [List.mem_cons, List.not_mem_nil, or_false] at hr
  rcases hr with rfl | rfl
  · exact ha
  · exact hb
theorem take1_ok {vs : List Int} {d : Int} (h : 0 < vs.length) : (rdL vs d vs.length).take 1 = [rdW vs[0] d] := by
  cases vs with
  | nil => simp at h
  | cons a t => rfl
theorem sl1_ok (b o n c : Nat) (h1 : 1 ≤ n) (h2 : n ≤ c) (W : World) : (Instr.sliceAt 29 (.slice (some ⟨b, o, none⟩) n c) none (some (.int .i64 1)) none).run Tryd.prog W = .ok (.slice (some ⟨b, o, none⟩) 1 c) W := by
  have h1 : 1 ≤ c := by omega
  go_simp
  try (intro hx; omega)
set_option maxRecDepth 100000 in
set_option maxHeartbeats 16000000 in
theorem TopEchoInInterval_any (d : Int) (V : Option Addr) (vs : List Int) (cv : Nat) (g : Gs) (w : World) (ht : Tab w) (hV : IntsAt w V vs) (hcv : vs.length ≤ cv) :
    Calls Tryd.prog 3 #[.int .i64 d, .slice V vs.length cv, gv g] w fun e w' => e = .returned (.bool true) ∧ Below w.heap.size w w' := by
  have HT := Lib.hid ht
  have HD := Lib.hid (fun W => IsDirection_any d W)
  have HW1 := Lib.hid (fun W => Within_any g.re (-50) 50 W)
  have HW2 := Lib.hid (fun W => Within_any g.im (-50) 50 W)
  have hge := eqG g gz
  have hne : eqB g gz = !(neB g gz) := by unfold neB; simp
  rw [hne] at hge
  have HDT := Lib.hid (fun (h : withinB d (-90) 90 = true) => withinB_true.1 h)
  have HG1 := Lib.hid (fun (h : withinB g.re (-50) 50 = true) => withinB_true.1 h)
  have HG2 := Lib.hid (fun (h : withinB g.im (-50) 50 = true) => withinB_true.1 h)
  have HGZ := Lib.hid (fun (h : neB g gz = true) => neB_nz h)
  clear ht hne
  generalize withinB d (-90) 90 = bd at *
  generalize withinB g.re (-50) 50 = b1 at *
  generalize withinB g.im (-50) 50 = b2 at *
  generalize neB g gz = gn at *
  obtain ⟨g0, g1⟩ := g
  simp only [gv, gz] at *
  go_enter Tryd.func3, Tryd.ntmps3
  go_upto_region 1 with (fail)
  have hb0 : Below w.heap.size w (w.alloc (.cells #[.int .i64 g0, .int .i64 g1] 24)) := below_alloc _ (Nat.le_refl _) (Below.refl _ _)
  have gb0 : (w.alloc (.cells #[.int .i64 g0, .int .i64 g1] 24)).cell? ⟨w.heap.size, 0, none⟩ = some (.int .i64 g0) := cell_new (by simp) rfl
  have gb1 : (w.alloc (.cells #[.int .i64 g0, .int .i64 g1] 24)).cell? ⟨w.heap.size, 1, none⟩ = some (.int .i64 g1) := cell_new (by simp) rfl
  have zgb : w.heap.size < (w.alloc (.cells #[.int .i64 g0, .int .i64 g1] 24)).heap.size := World.block_lt_of_cell? _ _ gb0
  generalize (w.alloc (.cells #[.int .i64 g0, .int .i64 g1] 24)) = w0 at *
  have HT0 := Lib.hid (HT.out.below hb0)
  have hV0 := RowsAt.below hV hb0
  go_wp2_with (fail)
  refine (echoShown_any w0 HT0.out).mono ?_
  rintro e w1 ⟨rfl, hb1⟩
  have k1 : Below w.heap.size w w1 := (hb0).trans ((hb1).mono (hb0).size)
  replace gb0 := cell_below' hb1 gb0
  replace gb1 := cell_below' hb1 gb1
  replace zgb := Nat.lt_of_lt_of_le zgb (hb1).size
  replace hV0 := RowsAt.below hV0 hb1
  clear hb1 hb0
  clear HT HT0 hV
  go_upto_region 3 with (fail)
  go_cut [55] from 26 to 55 (fun t wx => ∃ b : Bool, t = .bool b ∧ (b = false → bd = true ∧ 2 ≤ vs.length ∧ vs.length ≤ 6 ∧ b1 = true ∧ b2 = true ∧ gn = true) ∧ w1 = wx)
  case first =>
    clear HDT HG1 HG2 HGZ
    go_wp2_with (fail)
    refine (HD.out _).mono ?_
    rintro e w' ⟨rfl, rfl⟩
    cases bd
    · go_wp2_with (fail)
      go_meet
      exact ⟨true, rfl, fun h => (by cases h), rfl⟩
    by_cases h2 : vs.length < 2
    · have e1 : decide ((vs.length : Int) < 2) = true := decide_eq_true (by omega)
      clear h2
      go_wp2_with (fail)
      go_meet
      exact ⟨true, rfl, fun h => (by cases h), rfl⟩
    have e1 : decide ((vs.length : Int) < 2) = false := decide_eq_false (by omega)
    by_cases h6 : 6 < vs.length
    · have e2 : decide ((6 : Int) < (vs.length : Int)) = true := decide_eq_true (by omega)
      clear h6 h2
      go_wp2_with (fail)
      go_meet
      exact ⟨true, rfl, fun h => (by cases h), rfl⟩
    have e2 : decide ((6 : Int) < (vs.length : Int)) = false := decide_eq_false (by omega)
    go_wp2_with (fail)
    refine (HW1.out _).mono ?_
    rintro e w' ⟨rfl, rfl⟩
    cases b1
    · go_wp2_with (fail)
      go_meet
      exact ⟨true, rfl, fun h => (by cases h), rfl⟩
    go_wp2_with (fail)
    refine (HW2.out _).mono ?_
    rintro e w' ⟨rfl, rfl⟩
    cases b2
    · go_wp2_with (fail)
      go_meet
      exact ⟨true, rfl, fun h => (by cases h), rfl⟩
    cases gn
    · go_wp2_with (fail)
      go_meet
      exact ⟨true, rfl, fun h => (by cases h), rfl⟩
    · go_wp2_with (fail)
      go_meet
      exact ⟨false, rfl, fun _ => ⟨by first | rfl | trivial, by omega, by omega, by first | rfl | trivial, by first | rfl | trivial, by first | rfl | trivial⟩, rfl⟩
  case rest =>
  obtain ⟨b, rfl, hF, rfl⟩ := hcut
  clear HD HW1 HW2 hge
  cases b
  rotate_left 1
  · clear hF
    go_wp2_with (fail)
    go_ret
    exact ⟨rfl, k1⟩
  obtain ⟨rfl, hn2, hn6, rfl, rfl, rfl⟩ := hF rfl
  obtain ⟨hd0, hd1⟩ := HDT.out rfl
  obtain ⟨hs0, hs1⟩ := HG1.out rfl
  obtain ⟨hs2, hs3⟩ := HG2.out rfl
  have hnz := HGZ.out rfl
  have hgs : Sz 50 ⟨g0, g1⟩ := ⟨hs0, hs1, hs2, hs3⟩
  have HNZ := Lib.hid hnz
  have HGS := Lib.hid hgs
  have HDM := Lib.hid (fun k => @rdL_mem vs d k hd0 hd1)
  have hni : (vs.length : Int) ≤ 6 := by omega
  have hni2 : (2 : Int) ≤ (vs.length : Int) := by omega
  clear HDT HG1 HG2 HGZ hF hnz hgs hs0 hs1 hs2 hs3
  obtain ⟨i0, hi0, hz0, hz1, hz2⟩ := infoRd_
  have HI := Lib.hid hi0
  have HZ0 := Lib.hid hz0
  have HZ1 := Lib.hid hz1
  have HZ2 := Lib.hid hz2
  clear hi0 hz0 hz1 hz2
  go_upto_region 6 with (fail)
  have hb2 : Below w1.heap.size w1 (w1.alloc (.cells #[.int .i64 12, .int .i64 5, .int .i64 5, .int .i64 12, .int .i64 (-5), .int .i64 12, .int .i64 (-12), .int .i64 5, .int .i64 (-12), .int .i64 (-5), .int .i64 (-5), .int .i64 (-12), .int .i64 5, .int .i64 (-12), .int .i64 12, .int .i64 (-5)] 28)) := below_alloc _ (Nat.le_refl _) (Below.refl _ _)
  have m0 : (w1.alloc (.cells #[.int .i64 12, .int .i64 5, .int .i64 5, .int .i64 12, .int .i64 (-5), .int .i64 12, .int .i64 (-12), .int .i64 5, .int .i64 (-12), .int .i64 (-5), .int .i64 (-5), .int .i64 (-12), .int .i64 5, .int .i64 (-12), .int .i64 12, .int .i64 (-5)] 28)).cell? ⟨w1.heap.size, 0, none⟩ = some (.int .i64 12) := cell_new (by simp) rfl
  have m1 : (w1.alloc (.cells #[.int .i64 12, .int .i64 5, .int .i64 5, .int .i64 12, .int .i64 (-5), .int .i64 12, .int .i64 (-12), .int .i64 5, .int .i64 (-12), .int .i64 (-5), .int .i64 (-5), .int .i64 (-12), .int .i64 5, .int .i64 (-12), .int .i64 12, .int .i64 (-5)] 28)).cell? ⟨w1.heap.size, 1, none⟩ = some (.int .i64 5) := cell_new (by simp) rfl
  have m2 : (w1.alloc (.cells #[.int .i64 12, .int .i64 5, .int .i64 5, .int .i64 12, .int .i64 (-5), .int .i64 12, .int .i64 (-12), .int .i64 5, .int .i64 (-12), .int .i64 (-5), .int .i64 (-5), .int .i64 (-12), .int .i64 5, .int .i64 (-12), .int .i64 12, .int .i64 (-5)] 28)).cell? ⟨w1.heap.size, 2, none⟩ = some (.int .i64 5) := cell_new (by simp) rfl
  have m3 : (w1.alloc (.cells #[.int .i64 12, .int .i64 5, .int .i64 5, .int .i64 12, .int .i64 (-5), .int .i64 12, .int .i64 (-12), .int .i64 5, .int .i64 (-12), .int .i64 (-5), .int .i64 (-5), .int .i64 (-12), .int .i64 5, .int .i64 (-12), .int .i64 12, .int .i64 (-5)] 28)).cell? ⟨w1.heap.size, 3, none⟩ = some (.int .i64 12) := cell_new (by simp) rfl
  have m4 : (w1.alloc (.cells #[.int .i64 12, .int .i64 5, .int .i64 5, .int .i64 12, .int .i64 (-5), .int .i64 12, .int .i64 (-12), .int .i64 5, .int .i64 (-12), .int .i64 (-5), .int .i64 (-5), .int .i64 (-12), .int .i64 5, .int .i64 (-12), .int .i64 12, .int .i64 (-5)] 28)).cell? ⟨w1.heap.size, 4, none⟩ = some (.int .i64 (-5)) := cell_new (by simp) rfl
  have m5 : (w1.alloc (.cells #[.int .i64 12, .int .i64 5, .int .i64 5, .int .i64 12, .int .i64 (-5), .int .i64 12, .int .i64 (-12), .int .i64 5, .int .i64 (-12), .int .i64 (-5), .int .i64 (-5), .int .i64 (-12), .int .i64 5, .int .i64 (-12), .int .i64 12, .int .i64 (-5)] 28)).cell? ⟨w1.heap.size, 5, none⟩ = some (.int .i64 12) := cell_new (by simp) rfl
  have m6 : (w1.alloc (.cells #[.int .i64 12, .int .i64 5, .int .i64 5, .int .i64 12, .int .i64 (-5), .int .i64 12, .int .i64 (-12), .int .i64 5, .int .i64 (-12), .int .i64 (-5), .int .i64 (-5), .int .i64 (-12), .int .i64 5, .int .i64 (-12), .int .i64 12, .int .i64 (-5)] 28)).cell? ⟨w1.heap.size, 6, none⟩ = some (.int .i64 (-12)) := cell_new (by simp) rfl
  have m7 : (w1.alloc (.cells #[.int .i64 12, .int .i64 5, .int .i64 5, .int .i64 12, .int .i64 (-5), .int .i64 12, .int .i64 (-12), .int .i64 5, .int .i64 (-12), .int .i64 (-5), .int .i64 (-5), .int .i64 (-12), .int .i64 5, .int .i64 (-12), .int .i64 12, .int .i64 (-5)] 28)).cell? ⟨w1.heap.size, 7, none⟩ = some (.int .i64 5) := cell_new (by simp) rfl
  have m8 : (w1.alloc (.cells #[.int .i64 12, .int .i64 5, .int .i64 5, .int .i64 12, .int .i64 (-5), .int .i64 12, .int .i64 (-12), .int .i64 5, .int .i64 (-12), .int .i64 (-5), .int .i64 (-5), .int .i64 (-12), .int .i64 5, .int .i64 (-12), .int .i64 12, .int .i64 (-5)] 28)).cell? ⟨w1.heap.size, 8, none⟩ = some (.int .i64 (-12)) := cell_new (by simp) rfl
  have m9 : (w1.alloc (.cells #[.int .i64 12, .int .i64 5, .int .i64 5, .int .i64 12, .int .i64 (-5), .int .i64 12, .int .i64 (-12), .int .i64 5, .int .i64 (-12), .int .i64 (-5), .int .i64 (-5), .int .i64 (-12), .int .i64 5, .int .i64 (-12), .int .i64 12, .int .i64 (-5)] 28)).cell? ⟨w1.heap.size, 9, none⟩ = some (.int .i64 (-5)) := cell_new (by simp) rfl
  have m10 : (w1.alloc (.cells #[.int .i64 12, .int .i64 5, .int .i64 5, .int .i64 12, .int .i64 (-5), .int .i64 12, .int .i64 (-12), .int .i64 5, .int .i64 (-12), .int .i64 (-5), .int .i64 (-5), .int .i64 (-12), .int .i64 5, .int .i64 (-12), .int .i64 12, .int .i64 (-5)] 28)).cell? ⟨w1.heap.size, 10, none⟩ = some (.int .i64 (-5)) := cell_new (by simp) rfl
  have m11 : (w1.alloc (.cells #[.int .i64 12, .int .i64 5, .int .i64 5, .int .i64 12, .int .i64 (-5), .int .i64 12, .int .i64 (-12), .int .i64 5, .int .i64 (-12), .int .i64 (-5), .int .i64 (-5), .int .i64 (-12), .int .i64 5, .int .i64 (-12), .int .i64 12, .int .i64 (-5)] 28)).cell? ⟨w1.heap.size, 11, none⟩ = some (.int .i64 (-12)) := cell_new (by simp) rfl
  have m12 : (w1.alloc (.cells #[.int .i64 12, .int .i64 5, .int .i64 5, .int .i64 12, .int .i64 (-5), .int .i64 12, .int .i64 (-12), .int .i64 5, .int .i64 (-12), .int .i64 (-5), .int .i64 (-5), .int .i64 (-12), .int .i64 5, .int .i64 (-12), .int .i64 12, .int .i64 (-5)] 28)).cell? ⟨w1.heap.size, 12, none⟩ = some (.int .i64 5) := cell_new (by simp) rfl
  have m13 : (w1.alloc (.cells #[.int .i64 12, .int .i64 5, .int .i64 5, .int .i64 12, .int .i64 (-5), .int .i64 12, .int .i64 (-12), .int .i64 5, .int .i64 (-12), .int .i64 (-5), .int .i64 (-5), .int .i64 (-12), .int .i64 5, .int .i64 (-12), .int .i64 12, .int .i64 (-5)] 28)).cell? ⟨w1.heap.size, 13, none⟩ = some (.int .i64 (-12)) := cell_new (by simp) rfl
  have m14 : (w1.alloc (.cells #[.int .i64 12, .int .i64 5, .int .i64 5, .int .i64 12, .int .i64 (-5), .int .i64 12, .int .i64 (-12), .int .i64 5, .int .i64 (-12), .int .i64 (-5), .int .i64 (-5), .int .i64 (-12), .int .i64 5, .int .i64 (-12), .int .i64 12, .int .i64 (-5)] 28)).cell? ⟨w1.heap.size, 14, none⟩ = some (.int .i64 12) := cell_new (by simp) rfl
  have m15 : (w1.alloc (.cells #[.int .i64 12, .int .i64 5, .int .i64 5, .int .i64 12, .int .i64 (-5), .int .i64 12, .int .i64 (-12), .int .i64 5, .int .i64 (-12), .int .i64 (-5), .int .i64 (-5), .int .i64 (-12), .int .i64 5, .int .i64 (-12), .int .i64 12, .int .i64 (-5)] 28)).cell? ⟨w1.heap.size, 15, none⟩ = some (.int .i64 (-5)) := cell_new (by simp) rfl
  have mk : (w1.alloc (.cells #[.int .i64 12, .int .i64 5, .int .i64 5, .int .i64 12, .int .i64 (-5), .int .i64 12, .int .i64 (-12), .int .i64 5, .int .i64 (-12), .int .i64 (-5), .int .i64 (-5), .int .i64 (-12), .int .i64 5, .int .i64 (-12), .int .i64 12, .int .i64 (-5)] 28)).heap[w1.heap.size]? = some (.cells #[.int .i64 12, .int .i64 5, .int .i64 5, .int .i64 12, .int .i64 (-5), .int .i64 12, .int .i64 (-12), .int .i64 5, .int .i64 (-12), .int .i64 (-5), .int .i64 (-5), .int .i64 (-12), .int .i64 5, .int .i64 (-12), .int .i64 12, .int .i64 (-5)] 28) := blk_new (by simp)
  have zm : w1.heap.size < (w1.alloc (.cells #[.int .i64 12, .int .i64 5, .int .i64 5, .int .i64 12, .int .i64 (-5), .int .i64 12, .int .i64 (-12), .int .i64 5, .int .i64 (-12), .int .i64 (-5), .int .i64 (-5), .int .i64 (-12), .int .i64 5, .int .i64 (-12), .int .i64 12, .int .i64 (-5)] 28)).heap.size := World.block_lt_of_cell? _ _ m0
  generalize (w1.alloc (.cells #[.int .i64 12, .int .i64 5, .int .i64 5, .int .i64 12, .int .i64 (-5), .int .i64 12, .int .i64 (-12), .int .i64 5, .int .i64 (-12), .int .i64 (-5), .int .i64 (-5), .int .i64 (-12), .int .i64 5, .int .i64 (-12), .int .i64 12, .int .i64 (-5)] 28)) = w2 at *
  have HMD := Lib.hid (fun o (ho : o < 8) => mid_cell mk ho)
  clear mk m0 m1 m2 m3 m4 m5 m6 m7 m8 m9 m10 m11 m12 m13 m14 m15
  have k2 : Below w.heap.size w w2 := (k1).trans ((hb2).mono (k1).size)
  replace gb0 := cell_below' hb2 gb0
  replace gb1 := cell_below' hb2 gb1
  replace zgb := Nat.lt_of_lt_of_le zgb (hb2).size
  replace hV0 := RowsAt.below hV0 hb2
  clear hb2 k1
  generalize w1.heap.size = mb at *
  have hl0 : (((candA (rdL vs d 0)).length : Nat) : Int) = 181 := by
    have e : rdL vs d 0 = [] := rfl
    rw [e, cand_nil]; rfl
  have HL0 := Lib.hid hl0
  clear hl0
  go_wp2_with (fail)
  go_loopw [8, 9, 10] (fun o la i wr => ∃ (k : Nat) (A' : Option Addr) (c' : Nat), k ≤ vs.length ∧ i = .int .i64 k ∧ o = .slice A' k c' ∧ la = .int .i64 ((candA (rdL vs d k)).length : Nat) ∧ (∀ j (hj : j < vs.length), j < k → -360 ≤ vs[j] ∧ vs[j] ≤ 360) ∧ wr.ownsRow w2.heap.size 34 3 (.slice A' k c') k (cellsOf 3 rdC (rdL vs d k)) ∧ Below w2.heap.size w2 wr) (fun _ _ i _ => vs.length - (intOf i).toNat)
  case atStart => exact ⟨0, none, 0, Nat.zero_le _, rfl, rfl, by rw [HL0.out], fun j hj hk => absurd hk (by omega), World.ownsRow_nil _ _ _ _, Below.refl _ _⟩
  case round =>
    obtain ⟨k, A', c', hk, rfl, rfl, rfl, hsp, own, hbr⟩ := hrel
    obtain ⟨wo, rfl⟩ : ∃ wo : World, wo = wr := ⟨_, rfl⟩
    have OWN := Lib.hid own
    have HSP := Lib.hid hsp
    have hbr' := hbr
    have HMDo := Lib.hid (fun o (ho : o < 8) => (⟨cell_below' hbr (HMD.out o ho).1, cell_below' hbr (HMD.out o ho).2⟩ : _ ∧ _))
    have zmo : mb < wo.heap.size := Nat.lt_of_lt_of_le zm hbr.size
    have k2c := k2
    have hVc := hV0
    have gc0 := gb0
    have gc1 := gb1
    have k3 : Below w.heap.size w wo := (k2).trans ((hbr).mono (k2).size)
    replace gb0 := cell_below' hbr gb0
    replace gb1 := cell_below' hbr gb1
    replace zgb := Nat.lt_of_lt_of_le zgb (hbr).size
    replace hV0 := RowsAt.below hV0 hbr
    clear hbr k2
    clear own hsp HL0 HMD
    by_cases hlt : k < vs.length
    · obtain ⟨vb, vo, rfl, hvb, cs⟩ := IntsAt.at_ hV0 hlt
      have hk1 : (k : Int) < (vs.length : Int) := by omega
      have hsu := rdL_succ (d := d) hlt
      have hlen1 : (rdL vs d (k + 1)).length = k + 1 := rdL_len hlt
      have hdm := HDM.out (k + 1)
      have hk8 : k + 1 ≤ 8 := by omega
      have HCPR := Lib.hid (cpr_ok hlen1 hk8)
      have HCAN := Lib.hid (can_ok hlen1 hk8 hdm)
      have HHAS := Lib.hid (has_ok hdm)
      have HSU := Lib.hid hsu
      have HCLE := Lib.hid (candA_less (rdL vs d k) (rdW vs[k] d))
      have HIS := Lib.hid (fun (W : World) => IsSpacing_any vs[k] W)
      have HSPK := Lib.hid (fun (hs : -360 ≤ vs[k] ∧ vs[k] ≤ 360) => rds2_ok hs HSP.out (fun _ => rfl))
      clear hsu hlen1 hdm hk8
      generalize hsk : vs[k] = s at *
      clear hsk
      have hwb : withinB s (-360) 360 = true ∨ withinB s (-360) 360 = false := by cases withinB s (-360) 360 <;> simp
      rcases hwb with hwb | hwb
      rotate_left 1
      · rw [hwb] at HIS
        clear hwb HSU HSP HSPK OWN HCPR HCAN HHAS HCLE
        go_wp2_with (fail)
        refine (HIS.out _).mono ?_
        rintro e w' ⟨rfl, rfl⟩
        go_wp2_with (fail)
        go_ret
        exact ⟨rfl, k3⟩
      have hs := withinB_true.1 hwb
      rw [hwb] at HIS
      have HPH2 := Lib.hid (phase_ok hs hd0 hd1)
      have HSP2 := Lib.hid (HSPK.out hs)
      have HCAN2 := Lib.hid (HCAN.out (rdL_ok (d := d) HSP2.out))
      obtain ⟨hnb0, hnb1⟩ := ph_bd (s * d)
      obtain ⟨o, hoe, ho8, hot⟩ := oct_ok (s * d)
      obtain ⟨mc0, mc1⟩ := HMDo.out o ho8
      have HGM := Lib.hid (fun (W : World) => GMul_any ⟨g0, g1⟩ (mid o) W (HGS.out.mono (by decide)) ((mid_oct ho8).2.2.mono (by decide)))
      have HRD := Lib.hid (reading_ok HGS.out HNZ.out hs hot ho8)
      have HCK := Lib.hid (rck_ok (rdW_ok (d := d) hs.1 hs.2))
      have HWI := Lib.hid (wi_ok ⟨hnb0, hnb1⟩)
      have hoI : (o : Int) < 8 := by omega
      have ho0 : (0 : Int) ≤ (o : Int) := by omega
      have hwo : IntKind.i64.wrap (o : Int) = (o : Int) := wrap8_ok hoI
      rw [HSU.out] at HCAN2 HHAS
      clear HSPK HSP HCAN hot hwb hs HMDo
      generalize s * d % 720 = n at *
      generalize gmul ⟨g0, g1⟩ (mid o) = gm at *
      generalize mid o = mo at *
      generalize rdW s d = r at *
      have HSU2 := Lib.hid HSU.out
      obtain ⟨cl, hcl⟩ : ∃ cl, cl = candA (rdL vs d k ++ [r]) := ⟨_, rfl⟩
      have hcle := HCLE.out
      rw [← hcl] at HCAN2 hcle HHAS
      have HCL := Lib.hid (show cl = candA (rdL vs d (k + 1)) from hcl.trans (congrArg candA HSU.out.symm))
      clear HCLE hcl HSU2
      rw [← HSU.out] at HCAN2
      obtain ⟨gm0, gm1⟩ := gm
      obtain ⟨mo0, mo1⟩ := mo
      obtain ⟨r0, r1, r2⟩ := r
      simp only [gv, rv] at mc0 mc1 HGM HRD HCK
      go_wp2_with (fail)
      refine (HIS.out _).mono ?_
      rintro e w' ⟨rfl, rfl⟩
      go_wp2_with (fail)
      refine (HPH2.out _).mono ?_
      rintro e w4 ⟨rfl, hb4⟩
      have hbr4 := hbr'.trans (hb4.mono hbr'.size)
      have OWN4 := Lib.hid (own_below OWN.out hb4)
      replace mc0 := cell_below' hb4 mc0
      replace mc1 := cell_below' hb4 mc1
      replace cs := cell_below' hb4 cs
      have k4 : Below w.heap.size w w4 := (k3).trans ((hb4).mono (k3).size)
      replace gb0 := cell_below' hb4 gb0
      replace gb1 := cell_below' hb4 gb1
      replace zgb := Nat.lt_of_lt_of_le zgb (hb4).size
      replace hV0 := RowsAt.below hV0 hb4
      clear hb4 k3
      clear OWN HPH2 HIS
      go_wp2_with (fail)
      refine (HWI.out _).mono ?_
      rintro e w' ⟨rfl, rfl⟩
      go_upto_region 16 with (fail)
      go_cut [13, 14] from 93 to 107 (fun t u wx => ∃ nr : Nat, t = .pointer (some ⟨nr, 0, none⟩) ∧ u = .int .i64 0 ∧ wx.cell? ⟨nr, 0, none⟩ = some (.int .i64 r0) ∧ wx.cell? ⟨nr, 1, none⟩ = some (.int .i64 r1) ∧ wx.cell? ⟨nr, 2, none⟩ = some (.int .i64 r2) ∧ Below w4.heap.size w4 wx)
      case first =>
        clear HCPR HCAN2 HHAS HCL HSU HSP2 HCK HWI OWN4 HGS HNZ HDM HI HZ0 HZ1 HZ2 hcle
        have zm4 : mb < w4.heap.size := World.block_lt_of_cell? _ _ mc0
        have zv4 : vb < w4.heap.size := World.block_lt_of_cell? _ _ cs
        go_region_held3 (fun w' => w'.cell? ⟨w.heap.size, 0, none⟩ = some (.int .i64 g0) ∧ w'.cell? ⟨w.heap.size, 1, none⟩ = some (.int .i64 g1) ∧ w'.cell? ⟨mb, o * 2, none⟩ = some (.int .i64 mo0) ∧ w'.cell? ⟨mb, o * 2 + 1, none⟩ = some (.int .i64 mo1) ∧ w'.cell? ⟨vb, vo + k, none⟩ = some (.int .i64 s)) ((((try go_split_ands); (repeat' (apply And.intro)) <;> (repeat (first | (with_reducible assumption) | (with_reducible refine cell_drew ?_) | (with_reducible refine cell_alloc _ ?_) | (with_reducible refine cell_below' (by with_reducible assumption) ?_) | (with_reducible refine cell_far ?_ ?_; focus (first | omega | (simp; omega) | (simp; done)))))))) (first
          | (go_at_call 22; (with_reducible refine (HGM.out _).mono ?_); rintro e x1 ⟨rfl, hx1⟩; (have hy1 : w4.heap.size ≤ x1.heap.size := (by have := hx1.size; (try simp at this); omega)); (try have v0 : World.cell? x1 ⟨(w4).heap.size, 0, none⟩ = some (.int .i64 0) := cell_below' hx1 (cell_new (by simp) rfl)); (try have v1 : World.cell? x1 ⟨(w4).heap.size, 1, none⟩ = some (.int .i64 0) := cell_below' hx1 (cell_new (by simp) rfl)); (try have v2 : World.cell? x1 ⟨(w4).heap.size, 2, none⟩ = some (.int .i64 0) := cell_below' hx1 (cell_new (by simp) rfl)); (try have y0 : World.frozen? x1 ⟨(w4).heap.size, 0, none⟩ = false := frozen_below hx1 (by simp) (frozen_new (by simp))); (try have y1 : World.frozen? x1 ⟨(w4).heap.size, 1, none⟩ = false := frozen_below hx1 (by simp) (frozen_new (by simp))); (try have y2 : World.frozen? x1 ⟨(w4).heap.size, 2, none⟩ = false := frozen_below hx1 (by simp) (frozen_new (by simp))))
          | (go_at_call 21; (with_reducible refine (HRD.out _).mono ?_); rintro e x2 ⟨rfl, hx2⟩; (have hy2 : w4.heap.size ≤ x2.heap.size := (by have := hx2.size; (try simp at this); omega)); (try replace y0 := frozen_below hx2 (World.block_lt_of_cell? _ _ v0) y0); (try replace y1 := frozen_below hx2 (World.block_lt_of_cell? _ _ v1) y1); (try replace y2 := frozen_below hx2 (World.block_lt_of_cell? _ _ v2) y2); (try replace v0 := cell_below' hx2 v0); (try replace v1 := cell_below' hx2 v1); (try replace v2 := cell_below' hx2 v2); (try have v0 : World.cell? x2 ⟨(x1).heap.size, 0, none⟩ = some (.int .i64 0) := cell_below' hx2 (cell_new (by simp) rfl)); (try have v1 : World.cell? x2 ⟨(x1).heap.size, 1, none⟩ = some (.int .i64 0) := cell_below' hx2 (cell_new (by simp) rfl)); (try have v2 : World.cell? x2 ⟨(x1).heap.size, 2, none⟩ = some (.int .i64 0) := cell_below' hx2 (cell_new (by simp) rfl)); (try have y0 : World.frozen? x2 ⟨(x1).heap.size, 0, none⟩ = false := frozen_below hx2 (by simp) (frozen_new (by simp))); (try have y1 : World.frozen? x2 ⟨(x1).heap.size, 1, none⟩ = false := frozen_below hx2 (by simp) (frozen_new (by simp))); (try have y2 : World.frozen? x2 ⟨(x1).heap.size, 2, none⟩ = false := frozen_below hx2 (by simp) (frozen_new (by simp)))))
        all_goals
          have hx : Below w4.heap.size w4 x2 := (by repeat (first | assumption | exact Below.refl _ _ | refine Below.drew ?_ | (refine below_alloc _ ?_ ?_; focus (first | omega | (simp; done) | (simp; omega) | (simp at *; omega))) | (refine below_set _ ?_ ?_; focus (first | omega | (simp; done) | (simp; omega) | (simp at *; omega))) | refine below_drewN ?_ _ | (refine below_call (by assumption) ?_ ?_; focus (first | omega | (simp; done) | (simp; omega) | (simp at *; omega))) | (refine below_call' (by assumption) ?_ ?_; focus (first | omega | (simp; done) | (simp; omega) | (simp at *; omega)))))
          go_wp2_with (fail)
          first
            | (obtain ⟨s0, s1, s2⟩ := set3 (v0 := .int .i64 r0) (v1 := .int .i64 r1) (v2 := .int .i64 r2) v0 v1 v2
               go_meet
               exact ⟨_, rfl, rfl, s0, s1, s2, below_set _ (by first | exact Nat.le_refl _ | assumption) (below_set _ (by first | exact Nat.le_refl _ | assumption) (below_set _ (by first | exact Nat.le_refl _ | assumption) hx))⟩)
            | (go_meet
               exact ⟨_, rfl, rfl, cell_new rfl rfl, cell_new rfl rfl, cell_new rfl rfl, below_alloc _ (Nat.le_refl _) hx⟩)
      case rest =>
      obtain ⟨w5, rfl⟩ : ∃ w5 : World, w5 = wc := ⟨_, rfl⟩
      obtain ⟨nr, rfl, rfl, rr0, rr1, rr2, hb5⟩ := hcut
      have hbr5 := hbr4.trans (hb5.mono hbr4.size)
      have OWN5 := Lib.hid (own_below OWN4.out hb5)
      have k5 : Below w.heap.size w w5 := (k4).trans ((hb5).mono (k4).size)
      replace gb0 := cell_below' hb5 gb0
      replace gb1 := cell_below' hb5 gb1
      replace zgb := Nat.lt_of_lt_of_le zgb (hb5).size
      replace hV0 := RowsAt.below hV0 hb5
      clear hb5 k4
      have zr : nr < w5.heap.size := World.block_lt_of_cell? _ _ rr0
      clear HGM HRD mc0 mc1 cs OWN4 hbr4
      go_wp2_with (fail)
      refine (HCK.out _).mono ?_
      rintro e w6 ⟨rfl, hb6⟩
      have hbr6 := hbr5.trans (hb6.mono hbr5.size)
      have OWN6 := Lib.hid (own_below OWN5.out hb6)
      replace rr0 := cell_below' hb6 rr0
      replace rr1 := cell_below' hb6 rr1
      replace rr2 := cell_below' hb6 rr2
      replace zr := Nat.lt_of_lt_of_le zr hb6.size
      have k6 : Below w.heap.size w w6 := (k5).trans ((hb6).mono (k5).size)
      replace gb0 := cell_below' hb6 gb0
      replace gb1 := cell_below' hb6 gb1
      replace zgb := Nat.lt_of_lt_of_le zgb (hb6).size
      replace hV0 := RowsAt.below hV0 hb6
      clear hb6 k5
      have zx : w2.heap.size ≤ w6.heap.size := hbr6.size
      clear HCK OWN5 hbr5
      go_wp2_with (at_builtin; (refine wpList_append_rows _ rfl (.tmp 115) (.tmp 117) 29 rfl w2.heap.size 34 i0 (.agg #[.int .i64 0, .int .i64 0, .int .i64 0]) 3 24 Tryd.underlying29 HI.out HZ0.out HZ1.out HZ2.out rfl (by decide) A' k c' (cellsOf 3 rdC (rdL vs d k)) rfl (World.ownsRow.alloc OWN6.out _) (some ⟨_, 0, none⟩) 1 1 [.int .i64 r0, .int .i64 r1, .int .i64 r2] rfl rfl (fun h => by cases h) (fun ad h => by cases h; exact newsR (x := ⟨r0, r1, r2⟩) (blk_new rfl)) (fun u hu => by simp at hu; rcases hu with rfl | rfl | rfl <;> rfl) (by unfold maxLen; omega) (by omega) (by simp; omega) ?_; intro A2' c2' w7 h1 h2 h3))
      have h4 : w7.ownsRow w2.heap.size 34 3 (.slice A2' (k + 1) c2') (k + 1) (cellsOf 3 rdC (rdL vs d (k + 1))) := by rw [HSU.out, cellsOf_append]; exact h1
      have hbr7 : Below w2.heap.size w2 w7 := below_own (below_alloc _ (Nat.le_refl _) hbr6) h2 (World.ownsRow.alloc OWN6.out _) (Nat.le_refl _) (by simp; omega)
      have k7 : Below w.heap.size w w7 := k2c.trans (hbr7.mono k2c.size)
      have OWN7 := Lib.hid h4
      have hR7 : RdsAt w7 A2' (rdL vs d (k + 1)) := rowsAt_of_own (by rw [show (rdL vs d (k + 1)).length = k + 1 from rdL_len (by omega)]; exact h4) rfl (by decide)
      clear h1 h2 h3 h4 OWN6 hbr6 HI HZ0 HZ1 HZ2 HSU rr0 rr1 rr2 zr k6 gb0 gb1 zgb hV0
      go_wp2_with (fail)
      refine (HCPR.out _ _ _ hR7).mono ?_
      rintro e w8 ⟨A3, c3, rfl, hR8, hb8⟩
      have hbr8 := hbr7.trans (hb8.mono hbr7.size)
      have OWN8 := Lib.hid (own_below OWN7.out hb8)
      clear hb8 hbr7 OWN7 hR7 k7
      go_wp2_with (fail)
      refine (HCAN2.out _ _ _ hR8).mono ?_
      rintro e w9 ⟨A4, c4, rfl, hI9, hb9⟩
      have hbr9 := hbr8.trans (hb9.mono hbr8.size)
      have OWN9 := Lib.hid (own_below OWN8.out hb9)
      clear hb9 hbr8 OWN8 hR8 HCPR HCAN2
      go_wp2_with (fail)
      refine (HHAS.out _ _ _ hI9).mono ?_
      rintro e wa ⟨rfl, hba⟩
      have hbra := hbr9.trans (hba.mono hbr9.size)
      have OWNa := Lib.hid (own_below OWN9.out hba)
      have e7 : decide ((((candA (rdL vs d k)).length : Nat) : Int) < ((cl.length : Nat) : Int)) = false := decide_eq_false (by omega)
      have e7n : decide ((candA (rdL vs d k)).length < cl.length) = false := decide_eq_false (by omega)
      clear hba hbr9 OWN9 hI9 HHAS hcle
      go_wp2_with (fail)
      exact ⟨⟨k + 1, A2', c2', by omega, by go_num, by first | rfl | trivial, by rw [HCL.out], HSP2.out, OWNa.out, hbra⟩, by simp [intOf]; omega⟩
    · obtain rfl : k = vs.length := by omega
      have hall : ∀ x ∈ vs, -360 ≤ x ∧ x ≤ 360 := fun x hx => by
        obtain ⟨j, hj, rfl⟩ := List.mem_iff_getElem.1 hx
        exact HSP.out j hj hj
      have hR : RdsAt wo A' (rdL vs d vs.length) := rowsAt_of_own (by rw [show (rdL vs d vs.length).length = vs.length from rdL_len (Nat.le_refl _)]; exact OWN.out) rfl (by decide)
      have hcap : vs.length ≤ c' := own_cap OWN.out
      have h0n : 0 < vs.length := by omega
      have hn6' : vs.length ≤ 6 := hn6
      have ht1 := take1_ok (d := d) h0n
      have hR1 : RdsAt wo A' [rdW vs[0] d] := by rw [← ht1]; exact hR.take 1
      have hs0 := hall _ (List.getElem_mem h0n)
      have hr0 : OkRd (rdW vs[0] d) := rdW_ok hs0.1 hs0.2
      have hd0' : d ∈ candA [rdW vs[0] d] := W_mem [vs[0]] d hd0 hd1
      obtain ⟨kn, hkn, hnx⟩ := next_ok hr0 h0n (by omega) hall hd0'
      have hsk := hall _ (List.getElem_mem hkn)
      obtain ⟨hm1, hm2⟩ := next_most (rdW vs[0] d) d vs[kn] hd0'
      have hr1 : OkRd ⟨vs[kn], vs[kn] * d % 720, 45⟩ := r1_ok hsk
      have hl1 : [rdW vs[0] d].length = 1 := rfl
      have hl2 : [rdW vs[0] d, ⟨vs[kn], vs[kn] * d % 720, 45⟩].length = 2 := rfl
      have h18 : 1 ≤ 8 := by decide
      have h28 : 2 ≤ 8 := by decide
      have HCP := Lib.hid (cpr_ok hl1 h18)
      have HCI := Lib.hid (cpi_ok hn6')
      have HNX := Lib.hid (nxs_ok hn6' hnx)
      have HPH := Lib.hid (phase_ok hsk hd0 hd1)
      have hkb : (0 : Int) ≤ (kn : Int) ∧ (kn : Int) ≤ (vs.length : Int) - 1 := by omega
      have HW1 := Lib.hid (wi_ok hkb)
      have HW2 := Lib.hid (wi_ok (ph_bd (vs[kn] * d)))
      have HCA := Lib.hid (can_ok hl2 h28 hm1 (two_ok hr0 hr1))
      have HHS := Lib.hid (has_ok hm1)
      obtain ⟨cl, hcl⟩ : ∃ cl, cl = candA [rdW vs[0] d, ⟨vs[kn], vs[kn] * d % 720, 45⟩] := ⟨_, rfl⟩
      rw [← hcl] at HCA HHS hm2
      have e9 : decide (((cl.length : Nat) : Int) ≤ wst vs[kn] 45 (candA [rdW vs[0] d])) = true := decide_eq_true hm2
      obtain ⟨vb, vo, rfl, hvb, cs⟩ := IntsAt.at_ hV0 hkn
      obtain ⟨lb, lo, rfl, hlb, l0, l1, l2⟩ := RdsAt.at_ hR1 (show 0 < 1 by decide)
      have hsl := sl1_ok lb lo vs.length c' h0n hcap
      have hkI : (kn : Int) < (vs.length : Int) := by omega
      clear hall hR ht1 hs0 hr0 hd0' hnx hsk hm1 hm2 hr1 hl1 hl2 h18 h28 hkb hcl OWN HSP HMDo HDM HGS HNZ gb0 gb1 zgb HI HZ0 HZ1 HZ2
      simp only [List.getElem_cons_zero] at l0 l1 l2
      generalize wst vs[kn] 45 (candA [rdW vs[0] d]) = ms at *
      generalize hnn : vs[kn] * d % 720 = n at *
      generalize rdW vs[0] d = r at *
      clear hnn
      generalize vs[kn] = s at *
      obtain ⟨r0, r1, r2⟩ := r
      simp only at l0 l1 l2
      have lz : lo + 0 * 3 = lo := by omega
      rw [lz] at l0 l1 l2
      clear lz
      go_wp2_with (fail)
      refine (HCP.out _ _ _ hR1).mono ?_
      rintro e w4 ⟨B4, c4, rfl, hR4, hb4⟩
      have l0' := cell_below' hb4 l0
      have l1' := cell_below' hb4 l1
      have l2' := cell_below' hb4 l2
      replace cs := cell_below' hb4 cs
      have k4 : Below w.heap.size w w4 := (k3).trans ((hb4).mono (k3).size)
      replace hV0 := RowsAt.below hV0 hb4
      clear hb4 k3
      clear l0 l1 l2 hR1 HCP
      go_wp2_with (fail)
      refine (HCI.out _ _ _ hV0).mono ?_
      rintro e w5 ⟨B5, c5, rfl, hI5, hb5⟩
      replace l0' := cell_below' hb5 l0'
      replace l1' := cell_below' hb5 l1'
      replace l2' := cell_below' hb5 l2'
      replace cs := cell_below' hb5 cs
      have hR5 := RowsAt.below hR4 hb5
      have k5 : Below w.heap.size w w5 := (k4).trans ((hb5).mono (k4).size)
      replace hV0 := RowsAt.below hV0 hb5
      clear hb5 k4
      clear hR4 HCI
      go_wp2_with (fail)
      refine (HNX.out _ _ _ _ _ hR5 hI5).mono ?_
      rintro e w6 ⟨rfl, hb6⟩
      replace l0' := cell_below' hb6 l0'
      replace l1' := cell_below' hb6 l1'
      replace l2' := cell_below' hb6 l2'
      replace cs := cell_below' hb6 cs
      have k6 : Below w.heap.size w w6 := (k5).trans ((hb6).mono (k5).size)
      replace hV0 := RowsAt.below hV0 hb6
      clear hb6 k5
      clear hR5 hI5 HNX
      go_wp2_with (fail)
      refine (HW1.out _).mono ?_
      rintro e w' ⟨rfl, rfl⟩
      go_wp2_with (fail)
      refine (HPH.out _).mono ?_
      rintro e w7 ⟨rfl, hb7⟩
      replace l0' := cell_below' hb7 l0'
      replace l1' := cell_below' hb7 l1'
      replace l2' := cell_below' hb7 l2'
      replace cs := cell_below' hb7 cs
      have k7 : Below w.heap.size w w7 := (k6).trans ((hb7).mono (k6).size)
      clear hb7 k6
      clear HPH HW1 hV0
      go_wp2_with (fail)
      refine (HW2.out _).mono ?_
      rintro e w' ⟨rfl, rfl⟩
      go_upto_region 30 with (fail)
      go_cut [22, 23] from 177 to 190 (fun t u wx => ∃ A2 c2, t = .slice A2 cl.length c2 ∧ u = .int .i64 0 ∧ IntsAt wx A2 cl ∧ Below w7.heap.size w7 wx)
      case first =>
        clear HHS HW2 e9
        go_region_held3 (fun w' => w'.cell? ⟨lb, lo, none⟩ = some (.int .i64 r0) ∧ w'.cell? ⟨lb, lo + 1, none⟩ = some (.int .i64 r1) ∧ w'.cell? ⟨lb, lo + 2, none⟩ = some (.int .i64 r2) ∧ w'.cell? ⟨vb, vo + kn, none⟩ = some (.int .i64 s)) ((((try go_split_ands); (repeat' (apply And.intro)) <;> (repeat (first | (with_reducible assumption) | (with_reducible refine cell_drew ?_) | (with_reducible refine cell_alloc _ ?_) | (with_reducible refine cell_below' (by with_reducible assumption) ?_) | (with_reducible refine cell_far ?_ ?_; focus (first | omega | (simp; omega) | (simp; done)))))))) (first
          | (go_at_call 24; (refine (HCA.out _ _ _ (rows_blk (by repeat (first | assumption | (refine blk_new ?_; focus (simp; done)) | refine blk_drew ?_ | refine blk_alloc _ ?_ | refine blk_drewN _ ?_ | (refine blk_far _ ?_ ?_; focus (first | omega | (simp; omega) | (simp; done))) | refine blk_below' (by assumption) ?_)) rfl)).mono ?_); rintro e x1 ⟨A2, c2, rfl, hi, hx1⟩))
        all_goals
          go_wp2_with (fail)
          go_meet
          exact ⟨_, _, rfl, rfl, hi, (by repeat (first | assumption | exact Below.refl _ _ | refine Below.drew ?_ | (refine below_alloc _ ?_ ?_; focus (first | omega | (simp; done) | (simp; omega) | (simp at *; omega))) | (refine below_set _ ?_ ?_; focus (first | omega | (simp; done) | (simp; omega) | (simp at *; omega))) | refine below_drewN ?_ _ | (refine below_call (by assumption) ?_ ?_; focus (first | omega | (simp; done) | (simp; omega) | (simp at *; omega))) | (refine below_call' (by assumption) ?_ ?_; focus (first | omega | (simp; done) | (simp; omega) | (simp at *; omega)))))⟩
      case rest =>
      obtain ⟨w8, rfl⟩ : ∃ w8 : World, w8 = wc := ⟨_, rfl⟩
      obtain ⟨A2, c2, rfl, rfl, hi8, hb8⟩ := hcut
      have k8 : Below w.heap.size w w8 := (k7).trans ((hb8).mono (k7).size)
      clear hb8 k7
      clear HCA l0' l1' l2' cs
      go_wp2_with (fail)
      refine (HHS.out _ _ _ hi8).mono ?_
      rintro e w9 ⟨rfl, hb9⟩
      have k9 : Below w.heap.size w w9 := (k8).trans ((hb9).mono (k8).size)
      clear hb9 k8
      go_wp2_with (fail)
      go_ret
      exact ⟨rfl, k9⟩
end Go.Proofs.YtppghnbabnhnbaaDoor
