/-
  Two results compare as their parts do.
  Operations that are told by a relation: a method behind an interface value, a type assertion, a place of an array value, bits.
-/
import Derived.Test.YtenbagffdlljdaaMC
import Derived.WideLaws
namespace Go.Proofs.Ytenbagffdlljdaa
set_option linter.unusedSimpArgs false
set_option linter.unusedVariables false
open Go.RowKit Go.Maps

end Go.Proofs.Ytenbagffdlljdaa
namespace Go.Proofs.Ytenbagffdlljdaa
set_option linter.unusedSimpArgs false
set_option linter.unusedVariables false
open Go.RowKit Go.Maps

theorem gen_val {op : Op} {xs : List Operand} {l : List Sh} {r : Sh} (h : ∀ (o : Oper) (a : Act) (w : World) (H : Hp), o.op = op → Sub H w → RepL H E0 l (xs.map a.eval) → ∃ v, (execOp a.eval o).run Try.prog w = .ok (.value v) w ∧ Rep H E0 r v) : GenRel op xs l r := by
  intro o a w H ho h1 hA
  obtain ⟨v, e, hr⟩ := h o a w H ho h1 hA
  unfold Oper.wp
  rw [e]
  exact ⟨v, H, rfl, Grow.refl h1, hr⟩
theorem gen_inv {x : Operand} {name : String} {args : Array Operand} {tys : Array TypeId} {t : TypeId} {s : Sh} {l : List Sh} {r : Sh} {f : FuncId} (hm : MethodIs t name f) (hE : Enters f) (hr : Ok f (s :: l) r) : GenRel (.call ⟨.invoke x name, args, tys⟩) (x :: args.toList) (.ifc t s :: l) r := by
  intro o a w H ho h1 hA
  cases hA with
  | cons hi hl =>
    generalize hq : a.eval x = q at hi
    cases hi with
    | ifc hi =>
      rename_i u
      have hc := hr w H _ h1 (.cons hi hl)
      have e : (execOp a.eval o).run Try.prog w = .ok (.enter f (u :: args.toList.map a.eval).toArray) w := by
        have := hE (u :: args.toList.map a.eval).toArray w
        have hm' := hm u w
        have e2 : (u :: args.toList.map a.eval).toArray = #[u] ++ args.map a.eval := by apply Array.ext'; simp
        have e3 : ((#[Value.iface t u] ++ args.map a.eval).extract 1 (#[Value.iface t u] ++ args.map a.eval).size) = args.map a.eval := by
          apply Array.ext'; simp
          rw [List.take_of_length_le (by simp)]
        have e4 : (#[Value.iface t u] ++ args.map a.eval)[0]? = some (Value.iface t u) := by rw [Array.getElem?_append_left (by simp)]; rfl
        rw [e2] at this ⊢
        simp only [execOp, ho, resolve, hq, invoke, Sem.run_bind, Sem.run_pure, Result.andThen_ok, e4, callMethod, e3, run_program, hm']
        exact this
      unfold Oper.wp
      rw [e, Oper.upon_enter]
      refine Calls.mono hc fun e' w' he => ?_
      obtain ⟨v, H', rfl, hg, hrr⟩ := he
      exact ⟨v, H', rfl, hg, hrr⟩
theorem gen_asr_yes {x : Operand} {t0 t : TypeId} {s : Sh} {d : TypeDesc} (hu : Try.prog.underlying t = some d) (hd : isIfc d = false) : GenRel (.typeAssert x t0 t true) [x] [.ifc t s] (.tup [s, .v (.bool true)]) := gen_val fun o a w H ho h1 hA => by
  cases hA with
  | cons hi hl =>
    generalize hq : a.eval x = q at hi
    cases hi with
    | ifc hi =>
      rename_i u
      refine ⟨.tuple #[u, .bool true], ?_, .tup (.cons hi (.cons (.v rfl) .nil))⟩
      cases d <;> first | (cases hd; done) | simp [execOp, ho, hq, Instr.typeAssert, run_underlying hu]
theorem gen_some_eq {t t2 t' : TypeId} {x : Operand} {c : Value} {s : Sh} (h : Try.prog.underlying t = some (.interface (Try.prog.methodsAt t))) : GenRel (.binOp .eql t x (.const c) t2) [x, .const c] [.ifc t' s, .v .nilIface] (.v (.bool false)) := gen_val fun o a w H ho h1 hA => by
  cases hA with
  | cons h1 hA =>
    cases hA with
    | cons h2 hA =>
      generalize hq : a.eval x = q at h1
      cases h1
      have hc : c = .nilIface := by
        have h2 : Rep H E0 (.v .nilIface) c := h2
        cases h2; rfl
      subst hc
      exact ⟨.bool false, by simp [execOp, ho, hq, show a.eval (.const .nilIface) = Value.nilIface from rfl, eqGuard, run_eql_held_nil w t _ _ h], .v rfl⟩
section
variable {P : Program}
set_option maxRecDepth 100000 in
set_option maxHeartbeats 1000000 in
theorem run_eql_fn {t : TypeId} {ps rs : Array TypeId} {vr : Bool} (hu : P.underlying t = some (.func ps rs vr)) (w : World) : (binOp .eql t .nilFunc .nilFunc).run P w = .ok (.bool true) w ∧ (binOp .neq t .nilFunc .nilFunc).run P w = .ok (.bool false) w ∧ ∀ f a b, (binOp .eql t (.func f a b) .nilFunc).run P w = .ok (.bool false) w ∧ (binOp .neq t (.func f a b) .nilFunc).run P w = .ok (.bool true) w := by
  have h1 : (Op.equalIn (9999 + 1) t .nilFunc .nilFunc).run P w = .ok true w := by unfold Op.equalIn; rw [Sem.run_bind, run_underlying hu]; rfl
  have h2 : ∀ f a b, (Op.equalIn (9999 + 1) t (.func f a b) .nilFunc).run P w = .ok false w := fun f a b => by unfold Op.equalIn; rw [Sem.run_bind, run_underlying hu]; rfl
  have h1 : (Op.equal t .nilFunc .nilFunc).run P w = .ok true w := h1
  have h2 : ∀ f a b, (Op.equal t (.func f a b) .nilFunc).run P w = .ok false w := h2
  have c1 : binOp .eql t .nilFunc .nilFunc = (Op.equal t .nilFunc .nilFunc >>= fun b => pure (.bool b)) := rfl
  have c2 : binOp .neq t .nilFunc .nilFunc = (Op.equal t .nilFunc .nilFunc >>= fun b => pure (.bool !b)) := rfl
  have c3 : ∀ f a b, binOp .eql t (.func f a b) .nilFunc = (Op.equal t (.func f a b) .nilFunc >>= fun b => pure (.bool b)) := fun _ _ _ => rfl
  have c4 : ∀ f a b, binOp .neq t (.func f a b) .nilFunc = (Op.equal t (.func f a b) .nilFunc >>= fun b => pure (.bool !b)) := fun _ _ _ => rfl
  refine ⟨?_, ?_, fun f a b => ⟨?_, ?_⟩⟩
  · rw [c1, Sem.run_bind, h1]; rfl
  · rw [c2, Sem.run_bind, h1]; rfl
  · rw [c3, Sem.run_bind, h2]; rfl
  · rw [c4, Sem.run_bind, h2]; rfl
end
theorem eqsh_fn_nil {t : TypeId} {ps rs : Array TypeId} {vr : Bool} (hu : Try.prog.underlying t = some (.func ps rs vr)) : EqSh t (.v .nilFunc) (.v .nilFunc) true := by
  intro H E w u1 u2 o1 o2 hs h1 h2
  cases h1; cases h2
  obtain ⟨a, b, _⟩ := run_eql_fn hu w
  exact ⟨by simpa [eqGuard] using a, by simpa [eqGuard] using b⟩
theorem eqsh_fn_some {t : TypeId} {f : Fn} {a b : List Sh} {ps rs : Array TypeId} {vr : Bool} (hu : Try.prog.underlying t = some (.func ps rs vr)) : EqSh t (.fn f a b) (.v .nilFunc) false := by
  intro H E w u1 u2 o1 o2 hs h1 h2
  cases h1; cases h2
  obtain ⟨_, _, h⟩ := run_eql_fn hu w
  obtain ⟨a, b⟩ := h f _ _
  exact ⟨by simpa [eqGuard] using a, by simpa [eqGuard] using b⟩
end Go.Proofs.Ytenbagffdlljdaa
