/-
  Two results compare as their parts do.
-/
import Derived.Test.YtkbgdhomdbolnaaGreatDoorMC
namespace Go.Proofs.YtkbgdhomdbolnaaGreatDoor
set_option linter.unusedSimpArgs false
set_option linter.unusedVariables false
open Go.RowKit Go.Maps

set_option maxRecDepth 100000 in
theorem got_eql (a b : WordV) (x y : Bool) (w : World) : (binOp .eql 102 (.agg #[.int .i64 a.val, .int .u32 a.ver, .int .u32 a.ref, .bool x]) (.agg #[.int .i64 b.val, .int .u32 b.ver, .int .u32 b.ref, .bool y])).run Tryz.prog w = .ok (.bool ((a.val == b.val && (a.ver == b.ver && a.ref == b.ref)) && x == y)) w := by
  have u2 := Tryz.underlying2
  have u3 := Tryz.underlying68
  have u4 := Tryz.underlying4
  have a1 := Tryz.isAgg70
  have a2 := Tryz.isAgg2
  have a3 := Tryz.isAgg68
  have a4 := Tryz.isAgg4
  have z1 := Tryz.sizeOf70
  have z2 := Tryz.sizeOf2
  have z3 := Tryz.sizeOf68
  have z4 := Tryz.sizeOf4
  have hS : Tryz.prog.underlying 102 = some (.struct (Tryz.prog.fieldsOf 102)) := by kernel_rfl
  have hp : Tryz.prog.stoodInHeld 102 = false := by kernel_rfl
  have hS1 : Tryz.prog.underlying 70 = some (.struct (Tryz.prog.fieldsOf 70)) := by kernel_rfl
  have hp1 : Tryz.prog.stoodInHeld 70 = false := by kernel_rfl
  rw [run_eql_struct, show (10000 : Nat) = 9999 + 1 from rfl, run_equalIn_agg w 9999 102 _ _ hS hp]
  simp only [Program.fieldsOf, Tryz.underlying102]
  have e1 : (Op.equalIn 9999 70 (.agg #[.int .i64 a.val, .int .u32 a.ver, .int .u32 a.ref]) (.agg #[.int .i64 b.val, .int .u32 b.ver, .int .u32 b.ref])).run Tryz.prog w = .ok (a.val == b.val && (a.ver == b.ver && a.ref == b.ref)) w := by
    rw [show (9999 : Nat) = 9998 + 1 from rfl, run_equalIn_agg w 9998 70 _ _ hS1 hp1]
    simp only [Program.fieldsOf, Tryz.underlying70]
    go_simp
    by_cases h1 : a.val = b.val <;> by_cases h2 : a.ver = b.ver <;> by_cases h3 : a.ref = b.ref <;> simp [h1, h2, h3]
  have e2 : (Op.equalIn 9999 4 (.bool x) (.bool y)).run Tryz.prog w = .ok (x == y) w := run_equalIn_bool' w 9998 4 x y u4
  have p1 : ∀ c : WordV, ∀ z : Bool, (part 70 #[.int .i64 c.val, .int .u32 c.ver, .int .u32 c.ref, .bool z] 0).run Tryz.prog w = .ok (.agg #[.int .i64 c.val, .int .u32 c.ver, .int .u32 c.ref]) w := fun c z => by simp [part, a1, z1]
  have p2 : ∀ c : WordV, ∀ z : Bool, (part 4 #[.int .i64 c.val, .int .u32 c.ver, .int .u32 c.ref, .bool z] 3).run Tryz.prog w = .ok (.bool z) w := fun c z => by simp [part, a4]
  simp only [Op.eqFields, Sem.run_bind, Sem.run_ite, p1, p2, Result.andThen_ok, e1, e2, Sem.run_pure]
  simp only [if_pos (show ("Word" : String) ≠ "_" by decide), if_pos (show ("OK" : String) ≠ "_" by decide)]
  cases h1 : (a.val == b.val && (a.ver == b.ver && a.ref == b.ref)) <;> cases x <;> cases y <;> simp
theorem eqsh_got (a b : WordV) (x y : Bool) : EqSh 102 (.agg [sI a.val, sU a.ver, sU a.ref, sB x]) (.agg [sI b.val, sU b.ver, sU b.ref, sB y]) ((a.val == b.val && (a.ver == b.ver && a.ref == b.ref)) && x == y) := by
  intro H E w u1 u2 o1 o2 hs h1 h2
  have e : ∀ {c : WordV} {z : Bool} {u : Value}, Rep H E (.agg [sI c.val, sU c.ver, sU c.ref, sB z]) u → u = .agg #[.int .i64 c.val, .int .u32 c.ver, .int .u32 c.ref, .bool z] := fun h => by
    cases h with
    | agg h _ =>
      cases h with
      | cons p1 h =>
        cases h with
        | cons p2 h =>
          cases h with
          | cons p3 h =>
            cases h with
            | cons p4 h =>
              cases h
              cases p1; cases p2; cases p3; cases p4
              rfl
  obtain rfl := e h1
  obtain rfl := e h2
  have hq := got_eql a b x y w
  have hg : Tryz.prog.eqGuardType Tryz.prog.depth 102 = false := by kernel_rfl
  refine ⟨by simpa [eqGuard, hg] using hq, ?_⟩
  simp only [binOp, Sem.run_bind] at hq
  cases hr : Sem.run Tryz.prog (Op.equal 102 (.agg #[.int .i64 a.val, .int .u32 a.ver, .int .u32 a.ref, .bool x]) (.agg #[.int .i64 b.val, .int .u32 b.ver, .int .u32 b.ref, .bool y])) w with
  | ok v w1 =>
    rw [hr] at hq
    simp at hq
    obtain ⟨rfl, rfl⟩ := hq
    simp [eqGuard, hg, binOp, hr]
  | halt x w1 => rw [hr] at hq; simp at hq
theorem eqsh_got_refl (a : WordV) (x : Bool) : EqSh 102 (.agg [sI a.val, sU a.ver, sU a.ref, sB x]) (.agg [sI a.val, sU a.ver, sU a.ref, sB x]) true := by simpa using eqsh_got a a x x
/-! Two acts. -/
abbrev cAct8 (o p : Int) (a b : WordV) : Array Value := #[.int .i64 o, .int .i64 p, .int .i64 a.val, .int .u32 a.ver, .int .u32 a.ref, .int .i64 b.val, .int .u32 b.ver, .int .u32 b.ref]
abbrev sAct8 (o p : Int) (a b : WordV) : Sh := .agg [sI o, sI p, sI a.val, sU a.ver, sU a.ref, sI b.val, sU b.ver, sU b.ref]
set_option maxRecDepth 100000 in
set_option maxHeartbeats 1000000 in
theorem act_eql (o p o' p' : Int) (a b a' b' : WordV) (w : World) : (binOp .eql 72 (.agg (cAct8 o p a b)) (.agg (cAct8 o' p' a' b'))).run Tryz.prog w = .ok (.bool (o == o' && (p == p' && ((a.val == a'.val && (a.ver == a'.ver && a.ref == a'.ref)) && (b.val == b'.val && (b.ver == b'.ver && b.ref == b'.ref)))))) w := by
  have u2 := Tryz.underlying2
  have u3 := Tryz.underlying68
  have u4 := Tryz.underlying3
  have u5 := Tryz.underlying24
  have a1 := Tryz.isAgg70
  have a2 := Tryz.isAgg2
  have a3 := Tryz.isAgg68
  have a4 := Tryz.isAgg3
  have a5 := Tryz.isAgg24
  have z1 := Tryz.sizeOf70
  have z2 := Tryz.sizeOf2
  have z3 := Tryz.sizeOf68
  have hS : Tryz.prog.underlying 72 = some (.struct (Tryz.prog.fieldsOf 72)) := by kernel_rfl
  have hp : Tryz.prog.stoodInHeld 72 = false := by kernel_rfl
  have hS1 : Tryz.prog.underlying 70 = some (.struct (Tryz.prog.fieldsOf 70)) := by kernel_rfl
  have hp1 : Tryz.prog.stoodInHeld 70 = false := by kernel_rfl
  rw [run_eql_struct, show (10000 : Nat) = 9999 + 1 from rfl, run_equalIn_agg w 9999 72 _ _ hS hp]
  simp only [Program.fieldsOf, Tryz.underlying72]
  have e1 : ∀ a b : WordV, (Op.equalIn 9999 70 (.agg #[.int .i64 a.val, .int .u32 a.ver, .int .u32 a.ref]) (.agg #[.int .i64 b.val, .int .u32 b.ver, .int .u32 b.ref])).run Tryz.prog w = .ok (a.val == b.val && (a.ver == b.ver && a.ref == b.ref)) w := fun a b => by
    rw [show (9999 : Nat) = 9998 + 1 from rfl, run_equalIn_agg w 9998 70 _ _ hS1 hp1]
    simp only [Program.fieldsOf, Tryz.underlying70]
    go_simp
    by_cases h1 : a.val = b.val <;> by_cases h2 : a.ver = b.ver <;> by_cases h3 : a.ref = b.ref <;> simp [h1, h2, h3]
  have e2 : ∀ x y : Int, (Op.equalIn 9999 3 (.int .i64 x) (.int .i64 y)).run Tryz.prog w = .ok (x == y) w := fun x y => run_equalIn_int w 9998 3 .i64 .i64 x y u4
  have e3 : ∀ x y : Int, (Op.equalIn 9999 24 (.int .i64 x) (.int .i64 y)).run Tryz.prog w = .ok (x == y) w := fun x y => run_equalIn_int w 9998 24 .i64 .i64 x y u5
  have p1 : ∀ o p a b, (part 3 (cAct8 o p a b) 0).run Tryz.prog w = .ok (.int .i64 o) w := fun o p a b => by simp [part, a4]
  have p2 : ∀ o p a b, (part 24 (cAct8 o p a b) 1).run Tryz.prog w = .ok (.int .i64 p) w := fun o p a b => by simp [part, a5]
  have p3 : ∀ o p a b, (part 70 (cAct8 o p a b) 2).run Tryz.prog w = .ok (.agg #[.int .i64 a.val, .int .u32 a.ver, .int .u32 a.ref]) w := fun o p a b => by simp [part, a1, z1]
  have p4 : ∀ o p a b, (part 70 (cAct8 o p a b) 5).run Tryz.prog w = .ok (.agg #[.int .i64 b.val, .int .u32 b.ver, .int .u32 b.ref]) w := fun o p a b => by simp [part, a1, z1]
  simp only [Op.eqFields, Sem.run_bind, Sem.run_ite, p1, p2, p3, p4, Result.andThen_ok, e1, e2, e3, Sem.run_pure]
  simp only [if_pos (show ("Op" : String) ≠ "_" by decide), if_pos (show ("At" : String) ≠ "_" by decide), if_pos (show ("Old" : String) ≠ "_" by decide), if_pos (show ("New" : String) ≠ "_" by decide)]
  cases o == o' <;> cases p == p' <;> cases (a.val == a'.val && (a.ver == a'.ver && a.ref == a'.ref)) <;> cases (b.val == b'.val && (b.ver == b'.ver && b.ref == b'.ref)) <;> simp
theorem eqsh_act (o p o' p' : Int) (a b a' b' : WordV) : EqSh 72 (sAct8 o p a b) (sAct8 o' p' a' b') (o == o' && (p == p' && ((a.val == a'.val && (a.ver == a'.ver && a.ref == a'.ref)) && (b.val == b'.val && (b.ver == b'.ver && b.ref == b'.ref))))) := by
  intro H E w u1 u2 o1 o2 hs h1 h2
  have e : ∀ {o p : Int} {a b : WordV} {u : Value}, Rep H E (sAct8 o p a b) u → u = .agg (cAct8 o p a b) := fun h => by
    cases h with
    | agg h _ =>
      cases h with
      | cons p1 h =>
        cases h with
        | cons p2 h =>
          cases h with
          | cons p3 h =>
            cases h with
            | cons p4 h =>
              cases h with
              | cons p5 h =>
                cases h with
                | cons p6 h =>
                  cases h with
                  | cons p7 h =>
                    cases h with
                    | cons p8 h =>
                      cases h
                      cases p1; cases p2; cases p3; cases p4; cases p5; cases p6; cases p7; cases p8
                      rfl
  obtain rfl := e h1
  obtain rfl := e h2
  have hq := act_eql o p o' p' a b a' b' w
  have hg : Tryz.prog.eqGuardType Tryz.prog.depth 72 = false := by kernel_rfl
  refine ⟨by simpa [eqGuard, hg] using hq, ?_⟩
  simp only [binOp, Sem.run_bind] at hq
  cases hr : Sem.run Tryz.prog (Op.equal 72 (.agg (cAct8 o p a b)) (.agg (cAct8 o' p' a' b'))) w with
  | ok v w1 =>
    rw [hr] at hq
    simp at hq
    obtain ⟨rfl, rfl⟩ := hq
    simp [eqGuard, hg, binOp, hr]
  | halt x w1 => rw [hr] at hq; simp at hq
theorem eqsh_act_refl (o p : Int) (a b : WordV) : EqSh 72 (sAct8 o p a b) (sAct8 o p a b) true := by simpa using eqsh_act o p o p a b a b
end Go.Proofs.YtkbgdhomdbolnaaGreatDoor
