/-
  Two words compare as their parts do.
-/
import Derived.Test.YtlbhfpcbbembgaaK5h
namespace Go.Proofs.Ytlbhfpcbbembgaa
set_option linter.unusedSimpArgs false
set_option linter.unusedVariables false
open Go.RowKit Go.Maps

theorem word_eql (a b : WordV) (w : World) : (binOp .eql 30 (.agg #[.int .i64 a.val, .int .u32 a.ver, .int .u32 a.ref]) (.agg #[.int .i64 b.val, .int .u32 b.ver, .int .u32 b.ref])).run Try.prog w = .ok (.bool (a.val == b.val && (a.ver == b.ver && a.ref == b.ref))) w := by
  have u2 := Try.underlying2
  have u3 := Try.underlying28
  have a2 := Try.isAgg2
  have a3 := Try.isAgg28
  have z2 := Try.sizeOf2
  have z3 := Try.sizeOf28
  have hS : Try.prog.underlying 30 = some (.struct (Try.prog.fieldsOf 30)) := by kernel_rfl
  have hp : Try.prog.stoodInHeld 30 = false := by kernel_rfl
  rw [run_eql_struct, show (10000 : Nat) = 9999 + 1 from rfl, run_equalIn_agg w 9999 30 _ _ hS hp]
  simp only [Program.fieldsOf, Try.underlying30]
  go_simp
  by_cases h1 : a.val = b.val <;> by_cases h2 : a.ver = b.ver <;> by_cases h3 : a.ref = b.ref <;> simp [h1, h2, h3]
theorem eqsh_word (a b : WordV) : EqSh 30 (.agg (eWord a)) (.agg (eWord b)) (a.val == b.val && (a.ver == b.ver && a.ref == b.ref)) := by
  intro H E w u1 u2 o1 o2 hs h1 h2
  have e : ∀ {x : WordV} {u : Value}, Rep H E (.agg (eWord x)) u → u = .agg #[.int .i64 x.val, .int .u32 x.ver, .int .u32 x.ref] := fun h => by
    cases h with
    | agg h _ =>
      cases h with
      | cons p1 h =>
        cases h with
        | cons p2 h =>
          cases h with
          | cons p3 h =>
            cases h
            cases p1; cases p2; cases p3
            rfl
  obtain rfl := e h1
  obtain rfl := e h2
  have hq := word_eql a b w
  have hg : Try.prog.eqGuardType Try.prog.depth 30 = false := by kernel_rfl
  refine ⟨by simpa [eqGuard, hg] using hq, ?_⟩
  simp only [binOp, Sem.run_bind] at hq
  cases hr : Sem.run Try.prog (Op.equal 30 (.agg #[.int .i64 a.val, .int .u32 a.ver, .int .u32 a.ref]) (.agg #[.int .i64 b.val, .int .u32 b.ver, .int .u32 b.ref])) w with
  | ok v w1 =>
    rw [hr] at hq
    simp at hq
    obtain ⟨rfl, rfl⟩ := hq
    simp [eqGuard, hg, binOp, hr]
  | halt x w1 => rw [hr] at hq; simp at hq
theorem eqsh_word_refl (a : WordV) : EqSh 30 (.agg (eWord a)) (.agg (eWord a)) true := by simpa using eqsh_word a a
end Go.Proofs.Ytlbhfpcbbembgaa
