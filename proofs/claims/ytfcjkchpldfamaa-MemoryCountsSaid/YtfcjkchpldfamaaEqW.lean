/-
  Two words compare as their parts do.
-/
import Derived.Test.YtfcjkchpldfamaaK0
namespace Go.Proofs.Ytfcjkchpldfamaa
set_option linter.unusedSimpArgs false
set_option linter.unusedVariables false
open Go.RowKit Go.Maps

theorem word_eql (a b : WordV) (w : World) : (binOp .eql 29 (.agg #[.int .i64 a.val, .int .u32 a.ver, .int .u32 a.ref]) (.agg #[.int .i64 b.val, .int .u32 b.ver, .int .u32 b.ref])).run Try.prog w = .ok (.bool (a.val == b.val && (a.ver == b.ver && a.ref == b.ref))) w := by
  have u2 := Try.underlying2
  have u3 := Try.underlying27
  have a2 := Try.isAgg2
  have a3 := Try.isAgg27
  have z2 := Try.sizeOf2
  have z3 := Try.sizeOf27
  have hS : Try.prog.underlying 29 = some (.struct (Try.prog.fieldsOf 29)) := by kernel_rfl
  have hp : Try.prog.stoodInHeld 29 = false := by kernel_rfl
  rw [run_eql_struct, show (10000 : Nat) = 9999 + 1 from rfl, run_equalIn_agg w 9999 29 _ _ hS hp]
  simp only [Program.fieldsOf, Try.underlying29]
  go_simp
  by_cases h1 : a.val = b.val <;> by_cases h2 : a.ver = b.ver <;> by_cases h3 : a.ref = b.ref <;> simp [h1, h2, h3]
theorem eqsh_word (a b : WordV) : EqSh 29 (.agg (eWord a)) (.agg (eWord b)) (a.val == b.val && (a.ver == b.ver && a.ref == b.ref)) := by
  intro H E w u1 u2 o1 o2 hs h1 h2
  have e : ∀ {x : WordV} {u : Value}, Rep H E (.agg (eWord x)) u → u = .agg #[.int .i64 x.val, .int .u32 x.ver, .int .u32 x.ref] := fun h => by
    cases h with
    | agg h _ =>
      cases h with
      | cons p1 h =>
        cases h with
        | cons p2 h =>
          cases h with
          | cons p3 h =>
            cases h
            cases p1; cases p2; cases p3
            rfl
  obtain rfl := e h1
  obtain rfl := e h2
  have hq := word_eql a b w
  have hg : Try.prog.eqGuardType Try.prog.depth 29 = false := by kernel_rfl
  refine ⟨by simpa [eqGuard, hg] using hq, ?_⟩
  simp only [binOp, Sem.run_bind] at hq
  cases hr : Sem.run Try.prog (Op.equal 29 (.agg #[.int .i64 a.val, .int .u32 a.ver, .int .u32 a.ref]) (.agg #[.int .i64 b.val, .int .u32 b.ver, .int .u32 b.ref])) w with
  | ok v w1 =>
    rw [hr] at hq
    simp at hq
    obtain ⟨rfl, rfl⟩ := hq
    simp [eqGuard, hg, binOp, hr]
  | halt x w1 => rw [hr] at hq; simp at hq
theorem eqsh_word_refl (a : WordV) : EqSh 29 (.agg (eWord a)) (.agg (eWord a)) true := by simpa using eqsh_word a a
end Go.Proofs.Ytfcjkchpldfamaa
