/-
  Two results compare as their parts do.
-/
import Derived.Test.YtkoibcblmgmdmaaMC
namespace Go.Proofs.Ytkoibcblmgmdmaa
set_option linter.unusedSimpArgs false
set_option linter.unusedVariables false
open Go.RowKit Go.Maps

set_option maxRecDepth 100000 in
theorem got_eql (a b : WordV) (x y : Bool) (w : World) : (binOp .eql 50 (.agg #[.int .i64 a.val, .int .u32 a.ver, .int .u32 a.ref, .bool x]) (.agg #[.int .i64 b.val, .int .u32 b.ver, .int .u32 b.ref, .bool y])).run Try.prog w = .ok (.bool ((a.val == b.val && (a.ver == b.ver && a.ref == b.ref)) && x == y)) w := by
  have u2 := Try.underlying2
  have u3 := Try.underlying25
  have u4 := Try.underlying4
  have a1 := Try.isAgg27
  have a2 := Try.isAgg2
  have a3 := Try.isAgg25
  have a4 := Try.isAgg4
  have z1 := Try.sizeOf27
  have z2 := Try.sizeOf2
  have z3 := Try.sizeOf25
  have z4 := Try.sizeOf4
  have hS : Try.prog.underlying 50 = some (.struct (Try.prog.fieldsOf 50)) := by kernel_rfl
  have hp : Try.prog.stoodInHeld 50 = false := by kernel_rfl
  have hS1 : Try.prog.underlying 27 = some (.struct (Try.prog.fieldsOf 27)) := by kernel_rfl
  have hp1 : Try.prog.stoodInHeld 27 = false := by kernel_rfl
  rw [run_eql_struct, show (10000 : Nat) = 9999 + 1 from rfl, run_equalIn_agg w 9999 50 _ _ hS hp]
  simp only [Program.fieldsOf, Try.underlying50]
  have e1 : (Op.equalIn 9999 27 (.agg #[.int .i64 a.val, .int .u32 a.ver, .int .u32 a.ref]) (.agg #[.int .i64 b.val, .int .u32 b.ver, .int .u32 b.ref])).run Try.prog w = .ok (a.val == b.val && (a.ver == b.ver && a.ref == b.ref)) w := by
    rw [show (9999 : Nat) = 9998 + 1 from rfl, run_equalIn_agg w 9998 27 _ _ hS1 hp1]
    simp only [Program.fieldsOf, Try.underlying27]
    go_simp
    by_cases h1 : a.val = b.val <;> by_cases h2 : a.ver = b.ver <;> by_cases h3 : a.ref = b.ref <;> simp [h1, h2, h3]
  have e2 : (Op.equalIn 9999 4 (.bool x) (.bool y)).run Try.prog w = .ok (x == y) w := run_equalIn_bool' w 9998 4 x y u4
  have p1 : ∀ c : WordV, ∀ z : Bool, (part 27 #[.int .i64 c.val, .int .u32 c.ver, .int .u32 c.ref, .bool z] 0).run Try.prog w = .ok (.agg #[.int .i64 c.val, .int .u32 c.ver, .int .u32 c.ref]) w := fun c z => by simp [part, a1, z1]
  have p2 : ∀ c : WordV, ∀ z : Bool, (part 4 #[.int .i64 c.val, .int .u32 c.ver, .int .u32 c.ref, .bool z] 3).run Try.prog w = .ok (.bool z) w := fun c z => by simp [part, a4]
  simp only [Op.eqFields, Sem.run_bind, Sem.run_ite, p1, p2, Result.andThen_ok, e1, e2, Sem.run_pure]
  simp only [if_pos (show ("Word" : String) ≠ "_" by decide), if_pos (show ("OK" : String) ≠ "_" by decide)]
  cases h1 : (a.val == b.val && (a.ver == b.ver && a.ref == b.ref)) <;> cases x <;> cases y <;> simp
theorem eqsh_got (a b : WordV) (x y : Bool) : EqSh 50 (.agg [sI a.val, sU a.ver, sU a.ref, sB x]) (.agg [sI b.val, sU b.ver, sU b.ref, sB y]) ((a.val == b.val && (a.ver == b.ver && a.ref == b.ref)) && x == y) := by
  intro H E w u1 u2 o1 o2 hs h1 h2
  have e : ∀ {c : WordV} {z : Bool} {u : Value}, Rep H E (.agg [sI c.val, sU c.ver, sU c.ref, sB z]) u → u = .agg #[.int .i64 c.val, .int .u32 c.ver, .int .u32 c.ref, .bool z] := fun h => by
    cases h with
    | agg h _ =>
      cases h with
      | cons p1 h =>
        cases h with
        | cons p2 h =>
          cases h with
          | cons p3 h =>
            cases h with
            | cons p4 h =>
              cases h
              cases p1; cases p2; cases p3; cases p4
              rfl
  obtain rfl := e h1
  obtain rfl := e h2
  have hq := got_eql a b x y w
  have hg : Try.prog.eqGuardType Try.prog.depth 50 = false := by kernel_rfl
  refine ⟨by simpa [eqGuard, hg] using hq, ?_⟩
  simp only [binOp, Sem.run_bind] at hq
  cases hr : Sem.run Try.prog (Op.equal 50 (.agg #[.int .i64 a.val, .int .u32 a.ver, .int .u32 a.ref, .bool x]) (.agg #[.int .i64 b.val, .int .u32 b.ver, .int .u32 b.ref, .bool y])) w with
  | ok v w1 =>
    rw [hr] at hq
    simp at hq
    obtain ⟨rfl, rfl⟩ := hq
    simp [eqGuard, hg, binOp, hr]
  | halt x w1 => rw [hr] at hq; simp at hq
theorem eqsh_got_refl (a : WordV) (x : Bool) : EqSh 50 (.agg [sI a.val, sU a.ver, sU a.ref, sB x]) (.agg [sI a.val, sU a.ver, sU a.ref, sB x]) true := by simpa using eqsh_got a a x x
end Go.Proofs.Ytkoibcblmgmdmaa
