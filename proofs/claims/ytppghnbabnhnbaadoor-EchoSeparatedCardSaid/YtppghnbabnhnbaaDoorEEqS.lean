/-
  Chapter 2: equality of samples of two antennas, and of separations.
-/
import Derived.Test.YtppghnbabnhnbaaDoorELin
import Derived.Test.YtppghnbabnhnbaaDoorECsp
namespace Go.Proofs.YtppghnbabnhnbaaDoor
open Go.ChangeShapes Go.WideShapes Go.ChangeAt Go.RowKit
set_option linter.unusedVariables false
set_option linter.unusedSimpArgs false

theorem eqPd (n : Nat) (hd : ∀ (a b : Gs) w, (Op.equalIn n 24 (.agg #[.int .i64 a.re, .int .i64 a.im]) (.agg #[.int .i64 b.re, .int .i64 b.im])).run Tryd.prog w = .ok (eqB a b) w) (a b c d : Gs) (w : World) : (Op.equalIn (n + 1) 57 (gv2 a b) (gv2 c d)).run Tryd.prog w = .ok (eqB a c && eqB b d) w := by
  have hU : Tryd.prog.underlying 57 = some (.array 2 24) := by kernel_rfl
  have hz : ∀ w, (sizeOf 24).run Tryd.prog w = .ok 2 w := fun w => by kernel_rfl
  have p0 : ∀ (c0 c1 c2 c3 : Value) w, (part 24 #[c0, c1, c2, c3] 0).run Tryd.prog w = .ok (.agg #[c0, c1]) w := fun _ _ _ _ w => by kernel_rfl
  have p1 : ∀ (c0 c1 c2 c3 : Value) w, (part 24 #[c0, c1, c2, c3] 2).run Tryd.prog w = .ok (.agg #[c2, c3]) w := fun _ _ _ _ w => by kernel_rfl
  simp only [Op.equalIn, Sem.run_bind, run_underlying hU, Result.andThen_ok, hz, Std.Legacy.Range.forIn_eq_forIn_range', Std.Legacy.Range.size, List.range', List.forIn_cons, List.forIn_nil, Nat.zero_mul, Nat.one_mul, Nat.reduceMul, Nat.reduceAdd, p0, p1, hd]
  cases h0 : eqB a c <;> cases h1 : eqB b d <;> simp [hd, p1, h0, h1]
theorem eqP (a b c d : Gs) (w : World) : (binOp .eql 57 (gv2 a b) (gv2 c d)).run Tryd.prog w = .ok (.bool (eqB a c && eqB b d)) w := by
  rw [run_eql_struct, eqPd 9999 eqIn a b c d w]; rfl
def eqSp (s t : Spl) : Bool := eqB s.o t.o && (eqB s.e t.e && s.d == t.d)
theorem eqSp_iff {s t : Spl} : eqSp s t = true ↔ s = t := by
  unfold eqSp
  constructor
  · intro h
    rw [Bool.and_eq_true, Bool.and_eq_true, beq_iff_eq] at h
    unfold eqB at h
    simp only [Bool.and_eq_true, beq_iff_eq] at h
    exact Spl.ext2 (Gs.ext2 h.1.1 h.1.2) (Gs.ext2 h.2.1.1 h.2.1.2) h.2.2
  · rintro rfl
    simp [eqB]
theorem eqSd (s t : Spl) (w : World) : (Op.equalIn (9999 + 1) 108 (spv s) (spv t)).run Tryd.prog w = .ok (eqSp s t) w := by
  have hS : Tryd.prog.underlying 108 = some (.struct (Tryd.prog.fieldsOf 108)) := by kernel_rfl
  have hp : Tryd.prog.stoodInHeld 108 = false := by kernel_rfl
  rw [run_equalIn_agg w 9999 108 _ _ hS hp]
  simp only [Program.fieldsOf, Tryd.underlying108]
  unfold eqSp
  have e0 := eqIn s.o t.o
  have e1 := eqIn s.e t.e
  cases h0 : eqB s.o t.o <;> cases h1 : eqB s.e t.e <;> cases h2 : (s.d == t.d) <;> (rw [h0] at e0; rw [h1] at e1; go_simp)
theorem eqS (s t : Spl) (w : World) : (binOp .eql 108 (spv s) (spv t)).run Tryd.prog w = .ok (.bool (eqSp s t)) w := by
  rw [run_eql_struct, eqSd s t w]; rfl
theorem neS (s t : Spl) (w : World) : (binOp .neq 108 (spv s) (spv t)).run Tryd.prog w = .ok (.bool (!(eqSp s t))) w := by
  rw [run_neq_struct, eqSd s t w]; rfl
theorem eqB_self (a : Gs) : eqB a a = true := by simp [eqB]
theorem eqSp_self (s : Spl) : eqSp s s = true := eqSp_iff.2 rfl
end Go.Proofs.YtppghnbabnhnbaaDoor
