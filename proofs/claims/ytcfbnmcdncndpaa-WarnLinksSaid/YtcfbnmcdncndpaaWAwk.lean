/-
  Chapter 8: the law's own rules, messages, moves; awake.
-/
import Derived.Test.YtcfbnmcdncndpaaWOpB
import Derived.Test.YtcfbnmcdncndpaaWSeq
namespace Go.Proofs.Ytcfbnmcdncndpaa
open Go.ChangeShapes Go.WideShapes Go.ChangeAt Go.RowKit
set_option linter.unusedVariables false
set_option linter.unusedSimpArgs false

def stormB : ByteArray := ⟨#[115, 116, 111, 114, 109]⟩
def aB : ByteArray := ⟨#[97]⟩
def aU : List Int := [50, 80]
def aD : List Int := [40, 65]
def aV : List Int := [30, 55, 45, 39, 41, 39, 38]
def mA (v : Int) : Msg := ⟨aB, v, 1⟩
def mvS (m : Msg) : Mv := ⟨0, 0, m⟩
def mz : Msg := ⟨⟨#[]⟩, 0, 0⟩
def aMv : List Mv := [mvS (mA 1), ⟨1, 0, mz⟩, mvS (mA 2), ⟨4, 0, mz⟩, ⟨4, 0, mz⟩, ⟨1, 0, mz⟩, ⟨4, 0, mz⟩, ⟨4, 0, mz⟩]
theorem aEv : evQ stormB aU aD 2 aV = ([⟨1, 0, 1, 1⟩, ⟨6, 3, 0, 2⟩], 0) := by kernel_rfl
theorem aOp : opE stormB aU aD 2 100 = 0 := by kernel_rfl
theorem aOB : oB aU aD 100 = 5 := by kernel_rfl
theorem aRun1 : (runL Lz (aMv.take 5)).2.2 = 0 := by kernel_rfl
theorem aPen : pendQ (runL Lz (aMv.take 5)).1 = ([aB], 0) := by kernel_rfl
theorem aRun2 : (runL Lz aMv).2.2 = 0 ∧ (runL Lz aMv).1.box.length = 0 ∧ (runL Lz aMv).1.store = [mA 2] := by refine ⟨?_, ?_, ?_⟩ <;> kernel_rfl
theorem aLev : firstE [chkRE stormB aU aD 2, unl (withinB 80 (-1000000) 1000000) 2] = 0 ∧ reach aU 80 = 2 := by refine ⟨?_, ?_⟩ <;> kernel_rfl
theorem Message_any (s : ByteArray) (v : Int) (w : World) :
    Calls Try.prog 83 #[.string s, .int .i64 v] w fun e w' => e = .returned (.agg #[.string s, .int .i64 v, .int .i64 1]) ∧ Below w.heap.size w w' := by
  go_enter Try.func83, Try.ntmps83
  go_wp2
  have h0 : ((w.alloc (.cells #[.string ⟨#[]⟩, .int .i64 0, .int .i64 0] 45))).heap.size = w.heap.size + 1 := by simp
  refine bodyPost_ret (v := .agg #[.string s, .int .i64 v, .int .i64 1]) (by simp [results, Try.results83, go_sem]) rfl ?_
  exact ⟨rfl, (by repeat (first | assumption | exact Below.refl _ _ | refine Below.drew ?_ | (refine below_alloc _ ?_ ?_; focus (first | omega | (simp; done) | (simp; omega) | (simp at *; omega))) | (refine below_set _ ?_ ?_; focus (first | omega | (simp; done) | (simp; omega) | (simp at *; omega))) | refine below_drewN ?_ _ | (refine below_call (by assumption) ?_ ?_; focus (first | omega | (simp; done) | (simp; omega) | (simp at *; omega))) | (refine below_call' (by assumption) ?_ ?_; focus (first | omega | (simp; done) | (simp; omega) | (simp at *; omega)))))⟩
theorem rows_blkW {α : Type} {m : Nat} {f : α → Nat → Value} {W : World} {nb : Nat} {cs : Array Value} {T : TypeId} {fr : Nat × Nat} {l : List α} (h : W.heap[nb]? = some (.cells cs T fr)) (hc : cs.toList = cellsOf m f l) : RowsAt m f W (some ⟨nb, 0, none⟩) l := fun k x hk => by
  refine ⟨nb, 0, rfl, (Array.getElem?_eq_some_iff.1 h).1, fun j hj => ?_⟩
  have := cellsOf_get (f := f) hk hj
  rw [← hc, Array.getElem?_toList] at this
  rw [Nat.zero_add]
  exact blk_cell h this
def RulesMk (w : World) (e : Ending) (w' : World) : Prop := ∃ A' B', e = .returned (rulV stormB A' aU 2 B' aD 2 2) ∧ IntsAt w' A' aU ∧ IntsAt w' B' aD ∧ Below w.heap.size w w'
theorem Rules_any (w : World) : Calls Try.prog 81 #[] w (RulesMk w) := by
  go_enter Try.func81, Try.ntmps81
  go_wp2
  have hbf : Below w.heap.size w (((w.alloc (Obj.cells #[Value.string { data := #[115, 116, 111, 114, 109] }, Value.slice (some { block := w.heap.size + 1, off := 0 }) 2 2, Value.slice (some { block := w.heap.size + 1 + 1, off := 0 }) 2 2, Value.int IntKind.i64 2] 24)).alloc (Obj.cells #[Value.int IntKind.i64 50, Value.int IntKind.i64 80] 3)).alloc (Obj.cells #[Value.int IntKind.i64 40, Value.int IntKind.i64 65] 3)) := (by repeat (first | assumption | exact Below.refl _ _ | refine Below.drew ?_ | (refine below_alloc _ ?_ ?_; focus (first | omega | (simp; done) | (simp; omega) | (simp at *; omega))) | (refine below_set _ ?_ ?_; focus (first | omega | (simp; done) | (simp; omega) | (simp at *; omega))) | refine below_drewN ?_ _ | (refine below_call (by assumption) ?_ ?_; focus (first | omega | (simp; done) | (simp; omega) | (simp at *; omega))) | (refine below_call' (by assumption) ?_ ?_; focus (first | omega | (simp; done) | (simp; omega) | (simp at *; omega)))))
  have s0 : World.cell? (((w.alloc (Obj.cells #[Value.string { data := #[115, 116, 111, 114, 109] }, Value.slice (some { block := w.heap.size + 1, off := 0 }) 2 2, Value.slice (some { block := w.heap.size + 1 + 1, off := 0 }) 2 2, Value.int IntKind.i64 2] 24)).alloc (Obj.cells #[Value.int IntKind.i64 50, Value.int IntKind.i64 80] 3)).alloc (Obj.cells #[Value.int IntKind.i64 40, Value.int IntKind.i64 65] 3)) ⟨w.heap.size, 0, none⟩ = some (.string ⟨#[115, 116, 111, 114, 109]⟩) := (by repeat (first | assumption | (refine cell_new ?_ rfl; focus (simp; done)) | refine cell_drew ?_ | refine cell_alloc _ ?_ | refine cell_drewN _ ?_ | (refine cell_far ?_ ?_; focus (first | omega | (simp; omega) | (simp; done))) | refine cell_below' (by assumption) ?_))
  have s1 : World.cell? (((w.alloc (Obj.cells #[Value.string { data := #[115, 116, 111, 114, 109] }, Value.slice (some { block := w.heap.size + 1, off := 0 }) 2 2, Value.slice (some { block := w.heap.size + 1 + 1, off := 0 }) 2 2, Value.int IntKind.i64 2] 24)).alloc (Obj.cells #[Value.int IntKind.i64 50, Value.int IntKind.i64 80] 3)).alloc (Obj.cells #[Value.int IntKind.i64 40, Value.int IntKind.i64 65] 3)) ⟨w.heap.size, 1, none⟩ = some (.slice (some ⟨w.heap.size + 1, 0, none⟩) 2 2) := (by repeat (first | assumption | (refine cell_new ?_ rfl; focus (simp; done)) | refine cell_drew ?_ | refine cell_alloc _ ?_ | refine cell_drewN _ ?_ | (refine cell_far ?_ ?_; focus (first | omega | (simp; omega) | (simp; done))) | refine cell_below' (by assumption) ?_))
  have s2 : World.cell? (((w.alloc (Obj.cells #[Value.string { data := #[115, 116, 111, 114, 109] }, Value.slice (some { block := w.heap.size + 1, off := 0 }) 2 2, Value.slice (some { block := w.heap.size + 1 + 1, off := 0 }) 2 2, Value.int IntKind.i64 2] 24)).alloc (Obj.cells #[Value.int IntKind.i64 50, Value.int IntKind.i64 80] 3)).alloc (Obj.cells #[Value.int IntKind.i64 40, Value.int IntKind.i64 65] 3)) ⟨w.heap.size, 2, none⟩ = some (.slice (some ⟨w.heap.size + 1 + 1, 0, none⟩) 2 2) := (by repeat (first | assumption | (refine cell_new ?_ rfl; focus (simp; done)) | refine cell_drew ?_ | refine cell_alloc _ ?_ | refine cell_drewN _ ?_ | (refine cell_far ?_ ?_; focus (first | omega | (simp; omega) | (simp; done))) | refine cell_below' (by assumption) ?_))
  have s3 : World.cell? (((w.alloc (Obj.cells #[Value.string { data := #[115, 116, 111, 114, 109] }, Value.slice (some { block := w.heap.size + 1, off := 0 }) 2 2, Value.slice (some { block := w.heap.size + 1 + 1, off := 0 }) 2 2, Value.int IntKind.i64 2] 24)).alloc (Obj.cells #[Value.int IntKind.i64 50, Value.int IntKind.i64 80] 3)).alloc (Obj.cells #[Value.int IntKind.i64 40, Value.int IntKind.i64 65] 3)) ⟨w.heap.size, 3, none⟩ = some (.int .i64 2) := (by repeat (first | assumption | (refine cell_new ?_ rfl; focus (simp; done)) | refine cell_drew ?_ | refine cell_alloc _ ?_ | refine cell_drewN _ ?_ | (refine cell_far ?_ ?_; focus (first | omega | (simp; omega) | (simp; done))) | refine cell_below' (by assumption) ?_))
  have k1 : (((w.alloc (Obj.cells #[Value.string { data := #[115, 116, 111, 114, 109] }, Value.slice (some { block := w.heap.size + 1, off := 0 }) 2 2, Value.slice (some { block := w.heap.size + 1 + 1, off := 0 }) 2 2, Value.int IntKind.i64 2] 24)).alloc (Obj.cells #[Value.int IntKind.i64 50, Value.int IntKind.i64 80] 3)).alloc (Obj.cells #[Value.int IntKind.i64 40, Value.int IntKind.i64 65] 3)).heap[w.heap.size + 1]? = some (.cells #[Value.int IntKind.i64 50, Value.int IntKind.i64 80] 3) := (by repeat (first | assumption | (refine blk_new ?_; focus (simp; done)) | refine blk_drew ?_ | refine blk_alloc _ ?_ | refine blk_drewN _ ?_ | (refine blk_far _ ?_ ?_; focus (first | omega | (simp; omega) | (simp; done))) | refine blk_below' (by assumption) ?_))
  have k2 : (((w.alloc (Obj.cells #[Value.string { data := #[115, 116, 111, 114, 109] }, Value.slice (some { block := w.heap.size + 1, off := 0 }) 2 2, Value.slice (some { block := w.heap.size + 1 + 1, off := 0 }) 2 2, Value.int IntKind.i64 2] 24)).alloc (Obj.cells #[Value.int IntKind.i64 50, Value.int IntKind.i64 80] 3)).alloc (Obj.cells #[Value.int IntKind.i64 40, Value.int IntKind.i64 65] 3)).heap[w.heap.size + 1 + 1]? = some (.cells #[Value.int IntKind.i64 40, Value.int IntKind.i64 65] 3) := (by repeat (first | assumption | (refine blk_new ?_; focus (simp; done)) | refine blk_drew ?_ | refine blk_alloc _ ?_ | refine blk_drewN _ ?_ | (refine blk_far _ ?_ ?_; focus (first | omega | (simp; omega) | (simp; done))) | refine blk_below' (by assumption) ?_))
  generalize (((w.alloc (Obj.cells #[Value.string { data := #[115, 116, 111, 114, 109] }, Value.slice (some { block := w.heap.size + 1, off := 0 }) 2 2, Value.slice (some { block := w.heap.size + 1 + 1, off := 0 }) 2 2, Value.int IntKind.i64 2] 24)).alloc (Obj.cells #[Value.int IntKind.i64 50, Value.int IntKind.i64 80] 3)).alloc (Obj.cells #[Value.int IntKind.i64 40, Value.int IntKind.i64 65] 3)) = W9 at *
  refine bodyPost_ret (v := .agg #[.string ⟨#[115, 116, 111, 114, 109]⟩, .slice (some ⟨w.heap.size + 1, 0, none⟩) 2 2, .slice (some ⟨w.heap.size + 1 + 1, 0, none⟩) 2 2, .int .i64 2]) (by simp [results, Try.results81, go_sem, s0, s1, s2, s3]) rfl ?_
  exact ⟨some ⟨w.heap.size + 1, 0, none⟩, some ⟨w.heap.size + 1 + 1, 0, none⟩, rfl, rows_blkW (f := fun (x : Int) _ => Value.int .i64 x) k1 rfl, rows_blkW (f := fun (x : Int) _ => Value.int .i64 x) k2 rfl, hbf⟩
def MovesMk (w : World) (e : Ending) (w' : World) : Prop := ∃ b, e = .returned (.slice (some ⟨b, 0, none⟩) 8 8) ∧ MvsAt w' (some ⟨b, 0, none⟩) aMv ∧ Below w.heap.size w w'
set_option maxRecDepth 100000 in
set_option maxHeartbeats 4000000 in
theorem Moves_any (w : World) : Calls Try.prog 82 #[] w (MovesMk w) := by
  go_enter Try.func82, Try.ntmps82
  go_wp2_with (fail)
  (refine region_extx 10 (by kernel_rfl) (by kernel_rfl) fun hx => ?_; simp only [List.take_succ_cons, List.take_zero, List.drop_succ_cons, List.drop_zero]; (repeat (any_goals (first | go_big_quiet_step (((go_at_call 83; exact ext_call (Message_any _ _ _)))) | quiet_step (((go_at_call 83; exact ext_call (Message_any _ _ _))))))))
  (refine wpQuiet_nil ?_; clear hx; intro u; have hbw2 := ext_bel _ u; have hxw2 := ext_cell _ u; generalize ext _ u = w2 at *; clear u; have hsw2 := hbw2.size; (try simp at hsw2))
  go_wp2_with (fail)
  go_ret
  exact ⟨_, rfl, rows_blkW (blk_new rfl) rfl, (by repeat (first | assumption | exact Below.refl _ _ | refine Below.drew ?_ | (refine below_alloc _ ?_ ?_; focus (first | omega | (simp; done) | (simp; omega) | (simp at *; omega))) | (refine below_set _ ?_ ?_; focus (first | omega | (simp; done) | (simp; omega) | (simp at *; omega))) | refine below_drewN ?_ _ | (refine below_call (by assumption) ?_ ?_; focus (first | omega | (simp; done) | (simp; omega) | (simp at *; omega))) | (refine below_call' (by assumption) ?_ ?_; focus (first | omega | (simp; done) | (simp; omega) | (simp at *; omega)))))⟩
theorem runL_few1 : FewL Lz := ⟨by decide, by decide, by decide, by simp [Lz], by simp [Lz], by simp [Lz]⟩
def aL1 : Lnk := ⟨[mA 2], [], [mA 1]⟩
def aL2 : Lnk := ⟨[], [], [mA 2]⟩
theorem aLnk1 : runL Lz (aMv.take 5) = (aL1, 0, 0) := by kernel_rfl
theorem aLnk2 : runL Lz aMv = (aL2, 0, 0) := by kernel_rfl
theorem aPen1 : pendQ aL1 = ([aB], 0) := by kernel_rfl
theorem aL1_few : FewL aL1 := ⟨by decide, by decide, by decide, by decide, by decide, by decide⟩
theorem aMv_names : ∀ x ∈ aMv, x.m.s.size ≤ 1000 := by decide
theorem AEvents (A B V : Option Addr) (w : World) (hA : IntsAt w A aU) (hB : IntsAt w B aD) (hV : IntsAt w V aV) :
    Calls Try.prog 37 #[rulV stormB A aU 2 B aD 2 2, .slice V 7 7] w fun e w' => ∃ A' c', e = .returned (.tuple #[.slice A' 2 c', .int .i64 0]) ∧ EvsAt w' A' [⟨1, 0, 1, 1⟩, ⟨6, 3, 0, 2⟩] ∧ Below w.heap.size w w' := by
  have h := EventsOf_any stormB A aU 2 B aD 2 2 V aV 7 w (by decide) (by decide) (by decide) (by decide) (by decide) hA hB hV
  rw [aEv] at h
  exact h
theorem AOpen (A B : Option Addr) (w : World) (hA : IntsAt w A aU) (hB : IntsAt w B aD) :
    Calls Try.prog 20 #[rulV stormB A aU 2 B aD 2 2, .int .i64 100] w fun e w' => e = .returned (.tuple #[.int .i64 5, .int .i64 0]) ∧ Below w.heap.size w w' := by
  have h := OpeningsBound_any stormB A aU 2 B aD 2 2 100 w (by decide) (by decide) (by decide) hA hB
  rw [if_pos aOp, aOp, aOB] at h
  exact h
theorem ALevel (A B : Option Addr) (w : World) (hA : IntsAt w A aU) (hB : IntsAt w B aD) :
    Calls Try.prog 19 #[rulV stormB A aU 2 B aD 2 2, .int .i64 80] w fun e w' => e = .returned (.tuple #[.int .i64 2, .int .i64 0]) ∧ Below w.heap.size w w' := by
  have h := LevelFrom_any stormB A aU 2 B aD 2 2 80 w (by decide) (by decide) (by decide) hA hB
  rw [if_pos aLev.1, aLev.1, aLev.2] at h
  exact h
theorem ARun1 (b : Nat) (w : World) (hA : MvsAt w (some ⟨b, 0, none⟩) aMv) :
    Calls Try.prog 27 #[.agg #[.slice none 0 0, .slice none 0 0, .slice none 0 0], .slice (some ⟨b, 0, none⟩) 5 8] w (LnkE3 (aL1, 0, 0) w) := by
  have h := RunOf_any none 0 none 0 none 0 Lz (some ⟨b, 0, none⟩) (aMv.take 5) 8 w runL_few1 lnkR_z (by decide) (fun x hx => aMv_names x (List.mem_of_mem_take hx)) (hA.take 5)
  rw [aLnk1] at h
  exact h
theorem ARun2 (b : Nat) (w : World) (hA : MvsAt w (some ⟨b, 0, none⟩) aMv) :
    Calls Try.prog 27 #[.agg #[.slice none 0 0, .slice none 0 0, .slice none 0 0], .slice (some ⟨b, 0, none⟩) 8 8] w (LnkE3 (aL2, 0, 0) w) := by
  have h := RunOf_any none 0 none 0 none 0 Lz (some ⟨b, 0, none⟩) aMv 8 w runL_few1 lnkR_z (by decide) aMv_names hA
  rw [aLnk2] at h
  exact h
theorem APend (A1 : Option Addr) (c1 : Nat) (A2 : Option Addr) (c2 : Nat) (A3 : Option Addr) (c3 : Nat) (w : World) (hR : LnkR A1 A2 A3 aL1 w) :
    Calls Try.prog 47 #[.agg #[.slice A1 1 c1, .slice A3 0 c3, .slice A2 1 c2]] w fun e w' => ∃ A' c', e = .returned (.tuple #[.slice A' 1 c', .int .i64 0]) ∧ StrsAt w' A' [aB] ∧ Below w.heap.size w w' := by
  have h := PendingIn_any A1 c1 A2 c2 A3 c3 aL1 w aL1_few hR
  rw [aPen1] at h
  exact h
theorem ASameE (A : Option Addr) (c b : Nat) (w : World) (h1 : EvsAt w A [⟨1, 0, 1, 1⟩, ⟨6, 3, 0, 2⟩]) (h2 : EvsAt w (some ⟨b, 0, none⟩) [⟨1, 0, 1, 1⟩, ⟨6, 3, 0, 2⟩]) :
    Calls Try.prog 41 #[.slice A 2 c, .slice (some ⟨b, 0, none⟩) 2 2] w fun e w' => e = .returned (.bool true) ∧ Below w.heap.size w w' :=
  SameEvents_refl A _ [⟨1, 0, 1, 1⟩, ⟨6, 3, 0, 2⟩] c 2 w (by decide) h1 h2
theorem ATexts (A : Option Addr) (c b : Nat) (w : World) (h1 : StrsAt w A [aB]) (h2 : StrsAt w (some ⟨b, 0, none⟩) [aB]) :
    Calls Try.prog 50 #[.slice A 1 c, .slice (some ⟨b, 0, none⟩) 1 1] w fun e w' => e = .returned (.bool true) ∧ Below w.heap.size w w' :=
  Texts_refl A _ [aB] c 1 w (by decide) h1 h2
theorem ASameM (A : Option Addr) (c b : Nat) (w : World) (h1 : MsgsAt w A [mA 2]) (h2 : MsgsAt w (some ⟨b, 0, none⟩) [mA 2]) :
    Calls Try.prog 57 #[.slice A 1 c, .slice (some ⟨b, 0, none⟩) 1 1] w fun e w' => e = .returned (.bool true) ∧ Below w.heap.size w w' :=
  SameM_refl A _ [mA 2] c 1 w (by decide) h1 h2
set_option maxRecDepth 100000 in
set_option maxHeartbeats 8000000 in
theorem awake_any (w : World) : Calls Try.prog 15 #[] w fun e w' => e = .returned (.bool true) ∧ Below w.heap.size w w' := by
  go_enter Try.func15, Try.ntmps15
  go_wp2_with (fail)
  refine (Rules_any _).mono ?_
  rintro e w1 ⟨A1, B1, rfl, ra1, rb1, hb1⟩
  go_wp2_with (fail)
  refine (AEvents A1 B1 (some ⟨w1.heap.size, 0, none⟩) _ (ra1.below (by repeat (first | assumption | exact Below.refl _ _ | refine Below.drew ?_ | (refine below_alloc _ ?_ ?_; focus (first | omega | (simp; done) | (simp; omega) | (simp at *; omega))) | (refine below_set _ ?_ ?_; focus (first | omega | (simp; done) | (simp; omega) | (simp at *; omega))) | refine below_drewN ?_ _ | (refine below_call (by assumption) ?_ ?_; focus (first | omega | (simp; done) | (simp; omega) | (simp at *; omega))) | (refine below_call' (by assumption) ?_ ?_; focus (first | omega | (simp; done) | (simp; omega) | (simp at *; omega)))))) (rb1.below (by repeat (first | assumption | exact Below.refl _ _ | refine Below.drew ?_ | (refine below_alloc _ ?_ ?_; focus (first | omega | (simp; done) | (simp; omega) | (simp at *; omega))) | (refine below_set _ ?_ ?_; focus (first | omega | (simp; done) | (simp; omega) | (simp at *; omega))) | refine below_drewN ?_ _ | (refine below_call (by assumption) ?_ ?_; focus (first | omega | (simp; done) | (simp; omega) | (simp at *; omega))) | (refine below_call' (by assumption) ?_ ?_; focus (first | omega | (simp; done) | (simp; omega) | (simp at *; omega)))))) (rows_blkW (f := fun (x : Int) _ => Value.int .i64 x) (blk_new rfl) rfl)).mono ?_
  rintro e w2 ⟨A2, c2, rfl, ev2, hb2⟩
  have hw2 : Below w.heap.size w w2 := hb1.trans (below_call' hb2 (by have := hb1.size; simp; omega) (below_alloc _ hb1.size (Below.refl _ _)) |>.mono (by omega))
  clear ra1 rb1 hb1 hb2
  go_wp2_with (fail)
  refine (Rules_any _).mono ?_
  rintro e w3 ⟨A3, B3, rfl, ra3, rb3, hb3⟩
  replace ev2 := RowsAt.below ev2 hb3
  have hw3 : Below w.heap.size w w3 := hw2.trans (hb3.mono hw2.size)
  clear hw2 hb3
  go_wp2_with (fail)
  refine (AOpen A3 B3 _ ra3 rb3).mono ?_
  rintro e w4 ⟨rfl, hb4⟩
  replace ev2 := RowsAt.below ev2 hb4
  have hw4 : Below w.heap.size w w4 := hw3.trans (hb4.mono hw3.size)
  clear hw3 hb4 ra3 rb3
  go_wp2_with (fail)
  refine (Moves_any _).mono ?_
  rintro e w5 ⟨b5, rfl, mv5, hb5⟩
  replace ev2 := RowsAt.below ev2 hb5
  have hw5 : Below w.heap.size w w5 := hw4.trans (hb5.mono hw4.size)
  clear hw4 hb5
  go_wp2_with (fail)
  refine (ARun1 b5 _ mv5).mono ?_
  rintro e w6 ⟨P1, e1, P2, e2, P3, e3, rfl, lr6, hb6⟩
  replace ev2 := RowsAt.below ev2 hb6
  have hw6 : Below w.heap.size w w6 := hw5.trans (hb6.mono hw5.size)
  clear hw5 hb6 mv5
  go_wp2_with (fail)
  have hba : Below w6.heap.size w6 (w6.alloc (Obj.cells #[Value.slice P1 aL1.box.length e1, Value.slice P3 aL1.wire.length e3, Value.slice P2 aL1.store.length e2] 41)) := (by repeat (first | assumption | exact Below.refl _ _ | refine Below.drew ?_ | (refine below_alloc _ ?_ ?_; focus (first | omega | (simp; done) | (simp; omega) | (simp at *; omega))) | (refine below_set _ ?_ ?_; focus (first | omega | (simp; done) | (simp; omega) | (simp at *; omega))) | refine below_drewN ?_ _ | (refine below_call (by assumption) ?_ ?_; focus (first | omega | (simp; done) | (simp; omega) | (simp at *; omega))) | (refine below_call' (by assumption) ?_ ?_; focus (first | omega | (simp; done) | (simp; omega) | (simp at *; omega)))))
  replace ev2 := RowsAt.below ev2 hba
  replace lr6 := lr6.below hba
  replace hw6 := hw6.trans (hba.mono hw6.size)
  generalize (w6.alloc (Obj.cells #[Value.slice P1 aL1.box.length e1, Value.slice P3 aL1.wire.length e3, Value.slice P2 aL1.store.length e2] 41)) = w6' at *
  clear hba
  refine (APend P1 e1 P2 e2 P3 e3 _ lr6).mono ?_
  rintro e w7 ⟨A7, c7, rfl, st7, hb7⟩
  replace ev2 := RowsAt.below ev2 hb7
  have hw7 : Below w.heap.size w w7 := hw6.trans (hb7.mono hw6.size)
  clear hw6 hb7 lr6
  go_wp2_with (fail)
  refine (Moves_any _).mono ?_
  rintro e w8 ⟨b8, rfl, mv8, hb8⟩
  replace ev2 := RowsAt.below ev2 hb8
  replace st7 := RowsAt.below st7 hb8
  have hw8 : Below w.heap.size w w8 := hw7.trans (hb8.mono hw7.size)
  clear hw7 hb8
  go_wp2_with (fail)
  refine (ARun2 b8 _ mv8).mono ?_
  rintro e w9 ⟨Q1, f1, Q2, f2, Q3, f3, rfl, lr9, hb9⟩
  replace ev2 := RowsAt.below ev2 hb9
  replace st7 := RowsAt.below st7 hb9
  have hw9 : Below w.heap.size w w9 := hw8.trans (hb9.mono hw8.size)
  clear hw8 hb9 mv8
  go_wp2_with (fail)
  have hba : Below w9.heap.size w9 (w9.alloc (Obj.cells #[Value.slice Q1 aL2.box.length f1, Value.slice Q3 aL2.wire.length f3, Value.slice Q2 aL2.store.length f2] 41)) := (by repeat (first | assumption | exact Below.refl _ _ | refine Below.drew ?_ | (refine below_alloc _ ?_ ?_; focus (first | omega | (simp; done) | (simp; omega) | (simp at *; omega))) | (refine below_set _ ?_ ?_; focus (first | omega | (simp; done) | (simp; omega) | (simp at *; omega))) | refine below_drewN ?_ _ | (refine below_call (by assumption) ?_ ?_; focus (first | omega | (simp; done) | (simp; omega) | (simp at *; omega))) | (refine below_call' (by assumption) ?_ ?_; focus (first | omega | (simp; done) | (simp; omega) | (simp at *; omega)))))
  have k0 : (w9.alloc (Obj.cells #[Value.slice Q1 aL2.box.length f1, Value.slice Q3 aL2.wire.length f3, Value.slice Q2 aL2.store.length f2] 41)).cell? ⟨w9.heap.size, 0, none⟩ = some (.slice Q1 0 f1) := cell_new rfl rfl
  have k2 : (w9.alloc (Obj.cells #[Value.slice Q1 aL2.box.length f1, Value.slice Q3 aL2.wire.length f3, Value.slice Q2 aL2.store.length f2] 41)).cell? ⟨w9.heap.size, 2, none⟩ = some (.slice Q2 1 f2) := cell_new rfl rfl
  replace ev2 := RowsAt.below ev2 hba
  replace st7 := RowsAt.below st7 hba
  have ms9 : MsgsAt _ Q2 [mA 2] := (lr9.below hba).r2
  replace hw9 := hw9.trans (hba.mono hw9.size)
  generalize (w9.alloc (Obj.cells #[Value.slice Q1 aL2.box.length f1, Value.slice Q3 aL2.wire.length f3, Value.slice Q2 aL2.store.length f2] 41)) = w9' at *
  clear hba lr9
  refine (Rules_any _).mono ?_
  rintro e w10 ⟨A10, B10, rfl, ra10, rb10, hb10⟩
  replace ev2 := RowsAt.below ev2 hb10
  replace st7 := RowsAt.below st7 hb10
  replace ms9 := RowsAt.below ms9 hb10
  replace k0 := cell_below' hb10 k0
  replace k2 := cell_below' hb10 k2
  have hw10 : Below w.heap.size w w10 := hw9.trans (hb10.mono hw9.size)
  clear hw9 hb10
  go_wp2_with (fail)
  refine (ALevel A10 B10 _ ra10 rb10).mono ?_
  rintro e w11 ⟨rfl, hb11⟩
  replace ev2 := RowsAt.below ev2 hb11
  replace st7 := RowsAt.below st7 hb11
  replace ms9 := RowsAt.below ms9 hb11
  replace k0 := cell_below' hb11 k0
  replace k2 := cell_below' hb11 k2
  have hw11 : Below w.heap.size w w11 := hw10.trans (hb11.mono hw10.size)
  clear hw10 hb11 ra10 rb10
  generalize w9.heap.size = nb at *
  go_wp2_with (fail)
  have HEV := Lib.hid ev2
  have HST := Lib.hid st7
  have HMS := Lib.hid ms9
  clear ev2 st7 ms9
  have HSE := Lib.hid (fun (W : World) (b : Nat) (h1 : EvsAt W A2 [⟨1, 0, 1, 1⟩, ⟨6, 3, 0, 2⟩]) (h2 : EvsAt W (some ⟨b, 0, none⟩) [⟨1, 0, 1, 1⟩, ⟨6, 3, 0, 2⟩]) => ASameE A2 c2 b W h1 h2)
  have HTX := Lib.hid (fun (W : World) (b : Nat) (h1 : StrsAt W A7 [aB]) (h2 : StrsAt W (some ⟨b, 0, none⟩) [aB]) => ATexts A7 c7 b W h1 h2)
  have HSM := Lib.hid (fun (W : World) (b : Nat) (h1 : MsgsAt W Q2 [mA 2]) (h2 : MsgsAt W (some ⟨b, 0, none⟩) [mA 2]) => ASameM Q2 f2 b W h1 h2)
  have hbz : Below w11.heap.size w11 w11.drew := (Below.refl _ _).drew
  refine wp_region_any (by kernel_rfl) ?_
  (refine wpAny_chunk 3 0 53 (by decide) (by kernel_rfl) fun K hK => ?_; simp only [List.drop_succ_cons, List.drop_zero, List.take_succ_cons, List.take_zero])
  go_wp2_with (fail)
  (refine wpAny_fst (f := 52) 3 (.slice A2 2 c2) rfl (fun _ _ _ h => h) (by kernel_rfl) (.inl ⟨by first | rfl | (simp [Region.wanted, yielded]; done), fun _ => by first | rfl | (simp [go_sem]; done)⟩) ?_; simp only [Act.put, List.setIfInBounds_toArray, List.set_cons_zero, List.set_cons_succ])
  (refine wpAny_fst (f := 51) 4 (.agg #[.int .i64 1, .int .i64 0, .int .i64 1, .int .i64 1]) rfl (fun _ _ _ h => h) (by kernel_rfl) (.inl ⟨by first | rfl | (simp [Region.wanted, yielded]; done), fun _ => by first | rfl | (simp [go_sem]; done)⟩) ?_; simp only [Act.put, List.setIfInBounds_toArray, List.set_cons_zero, List.set_cons_succ])
  (refine wpAny_fst (f := 50) 5 (.agg #[.int .i64 6, .int .i64 3, .int .i64 0, .int .i64 2]) rfl (fun _ _ _ h => h) (by kernel_rfl) (.inl ⟨by first | rfl | (simp [Region.wanted, yielded]; done), fun _ => by first | rfl | (simp [go_sem]; done)⟩) ?_; simp only [Act.put, List.setIfInBounds_toArray, List.set_cons_zero, List.set_cons_succ])
  (refine wpAny_chunk 20 6 30 (by decide) (by kernel_rfl) fun K hK => ?_; simp only [List.drop_succ_cons, List.drop_zero, List.take_succ_cons, List.take_zero])
  go_wp2_with (fail)
  refine (HSE.out _ _ (RowsAt.below HEV.out (Below.drew (below_alloc _ (Nat.le_refl _) (Below.refl _ _)))) (rows_blkW (f := evC) (blk_drew (blk_new rfl)) rfl)).mono ?_
  rintro e w12 ⟨rfl, hb12⟩
  have hbA : Below w11.heap.size w11 w12 := (Below.drew (below_alloc _ (Nat.le_refl _) (Below.refl _ _))).trans (hb12.mono (by show w11.heap.size ≤ (World.alloc _ _).heap.size; simp))
  clear hb12
  go_wp2_with (fail)
  (refine wpAny_fst (f := 29) 26 (.slice A7 1 c7) rfl (fun _ _ _ h => h) (by kernel_rfl) (.inl ⟨by first | rfl | (simp [Region.wanted, yielded]; done), fun _ => by first | rfl | (simp [go_sem]; done)⟩) ?_; simp only [Act.put, List.setIfInBounds_toArray, List.set_cons_zero, List.set_cons_succ])
  (refine wpAny_chunk 14 27 15 (by decide) (by kernel_rfl) fun K hK => ?_; simp only [List.drop_succ_cons, List.drop_zero, List.take_succ_cons, List.take_zero])
  go_wp2_with (fail)
  refine (HTX.out _ _ (RowsAt.below HST.out (below_alloc _ (Nat.le_refl _) hbA)) (rows_blkW (f := strC) (blk_new rfl) rfl)).mono ?_
  rintro e w13 ⟨rfl, hb13⟩
  have hbB : Below w11.heap.size w11 w13 := (below_alloc _ (Nat.le_refl _) hbA).trans (hb13.mono (by have := hbA.size; simp; omega))
  clear hb13 hbA
  have k0B := cell_below' hbB k0
  have k2B := cell_below' hbB k2
  have zB : nb < w13.heap.size := World.block_lt_of_cell? _ _ k2B
  have hw13 : Below w.heap.size w w13 := hw11.trans (hbB.mono hw11.size)
  go_wp2_with (fail)
  (refine wpAny_fst (f := 14) 41 (.pointer (some ⟨nb, 2, none⟩)) rfl (fun _ _ _ h => h) (by kernel_rfl) (.inl ⟨by first | rfl | (simp [Region.wanted, yielded]; done), fun _ => by first | rfl | (simp [go_sem]; done)⟩) ?_; simp only [Act.put, List.setIfInBounds_toArray, List.set_cons_zero, List.set_cons_succ])
  refine wpAny_two (f := 13) (i := 42) (j := 43) rfl rfl (by kernel_rfl) (fun K hK => ?_) (fun K hK => ?_)
  · go_wp2_with (fail)
    (refine wpAny_chunk 13 43 0 (by decide) (by kernel_rfl) fun K hK => ?_; simp only [List.drop_succ_cons, List.drop_zero, List.take_succ_cons, List.take_zero])
    go_wp2_with (fail)
    (refine (Message_any _ _ _).mono ?_; rintro e w14 ⟨rfl, hb14⟩; have hbC : Below w11.heap.size w11 w14 := hbB.trans (hb14.mono hbB.size); clear hb14; have k0C := cell_below' hbC k0; have k2C := cell_below' hbC k2; have zC : nb < w14.heap.size := World.block_lt_of_cell? _ _ k2C)
    go_wp2_with (fail)
    (refine (HSM.out _ _ (RowsAt.below HMS.out (below_alloc _ (Nat.le_refl _) hbC)) (rows_blkW (f := msgC) (blk_new rfl) rfl)).mono ?_; rintro e w15 ⟨rfl, hb15⟩; have hbD : Below w11.heap.size w11 w15 := (below_alloc _ (Nat.le_refl _) hbC).trans (hb15.mono (by have := hbC.size; simp; omega)); have hw15 : Below w.heap.size w w15 := hw11.trans (hbD.mono hw11.size); clear hb15; go_wp2_with (fail); refine ⟨by kernel_rfl, ?_⟩; go_wp2_with (fail); go_ret; exact ⟨rfl, hw15⟩)
  · go_wp2_with (fail)
    (refine (Message_any _ _ _).mono ?_; rintro e w14 ⟨rfl, hb14⟩; have hbC : Below w11.heap.size w11 w14 := hbB.trans (hb14.mono hbB.size); clear hb14; have k0C := cell_below' hbC k0; have k2C := cell_below' hbC k2; have zC : nb < w14.heap.size := World.block_lt_of_cell? _ _ k2C)
    go_wp2_with (fail)
    refine wpAny_two (f := 12) (i := 42) (j := 44) rfl rfl (by kernel_rfl) (fun K hK => ?_) (fun K hK => ?_)
    · go_wp2_with (fail)
      (refine wpAny_chunk 12 44 0 (by decide) (by kernel_rfl) fun K hK => ?_; simp only [List.drop_succ_cons, List.drop_zero, List.take_succ_cons, List.take_zero])
      go_wp2_with (fail)
      (refine (HSM.out _ _ (RowsAt.below HMS.out (below_alloc _ (Nat.le_refl _) hbC)) (rows_blkW (f := msgC) (blk_new rfl) rfl)).mono ?_; rintro e w15 ⟨rfl, hb15⟩; have hbD : Below w11.heap.size w11 w15 := (below_alloc _ (Nat.le_refl _) hbC).trans (hb15.mono (by have := hbC.size; simp; omega)); have hw15 : Below w.heap.size w w15 := hw11.trans (hbD.mono hw11.size); clear hb15; go_wp2_with (fail); refine ⟨by kernel_rfl, ?_⟩; go_wp2_with (fail); go_ret; exact ⟨rfl, hw15⟩)
    · go_wp2_with (fail)
      have k2D : (w14.alloc (.cells #[.string ⟨#[97]⟩, .int .i64 2, .int .i64 1] 45)).cell? ⟨nb, 2, none⟩ = some (.slice Q2 1 f2) := cell_alloc _ k2C
      (refine wpAny_chunk 1 42 11 (by decide) (by kernel_rfl) fun K hK => ?_; simp only [List.drop_succ_cons, List.drop_zero, List.take_succ_cons, List.take_zero])
      go_wp2_with (fail)
      (refine wpAny_chunk 11 45 0 (by decide) (by kernel_rfl) fun K hK => ?_; simp only [List.drop_succ_cons, List.drop_zero, List.take_succ_cons, List.take_zero])
      go_wp2_with (fail)
      (refine (HSM.out _ _ (RowsAt.below HMS.out (below_alloc _ (Nat.le_refl _) hbC)) (rows_blkW (f := msgC) (blk_new rfl) rfl)).mono ?_; rintro e w15 ⟨rfl, hb15⟩; have hbD : Below w11.heap.size w11 w15 := (below_alloc _ (Nat.le_refl _) hbC).trans (hb15.mono (by have := hbC.size; simp; omega)); have hw15 : Below w.heap.size w w15 := hw11.trans (hbD.mono hw11.size); clear hb15; go_wp2_with (fail); refine ⟨by kernel_rfl, ?_⟩; go_wp2_with (fail); go_ret; exact ⟨rfl, hw15⟩)
end Go.Proofs.Ytcfbnmcdncndpaa
