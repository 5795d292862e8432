/-
  Two results compare as their parts do.
  Operations that are told by a relation: a method behind an interface value, a type assertion, a place of an array value, bits.
-/
import Derived.Test.YtkmbcjnaaokilaaGreatDoorMC
import Derived.WideLaws
namespace Go.Proofs.YtkmbcjnaaokilaaGreatDoor
set_option linter.unusedSimpArgs false
set_option linter.unusedVariables false
open Go.RowKit Go.Maps

end Go.Proofs.YtkmbcjnaaokilaaGreatDoor
namespace Go.Proofs.YtkmbcjnaaokilaaGreatDoor
set_option linter.unusedSimpArgs false
set_option linter.unusedVariables false
open Go.RowKit Go.Maps

theorem gen_val {op : Op} {xs : List Operand} {l : List Sh} {r : Sh} (h : ∀ (o : Oper) (a : Act) (w : World) (H : Hp),o.op = op → Sub H w → RepL H E0 l (xs.map a.eval) → ∃ v,(execOp a.eval o).run Tryz.prog w = .ok (.value v) w ∧ Rep H E0 r v) : GenRel op xs l r := by
 intro o a w H ho h1 hA
 obtain ⟨v,e,hr⟩ := h o a w H ho h1 hA
 unfold Oper.wp
 rw [e]
 exact ⟨v,H,rfl,Grow.refl h1,hr⟩
theorem gen_asr_yes {x : Operand} {t0 t : TypeId} {s : Sh} {d : TypeDesc} (hu : Tryz.prog.underlying t = some d) (hd : isIfc d = false) : GenRel (.typeAssert x t0 t true) [x] [.ifc t s] (.tup [s,.v (.bool true)]) := gen_val fun o a w H ho h1 hA => by
 cases hA with
 | cons hi hl =>
  generalize hq : a.eval x = q at hi
  cases hi with
  | ifc hi =>
   rename_i u
   refine ⟨.tuple #[u,.bool true],?_,.tup (.cons hi (.cons (.v rfl) .nil))⟩
   cases d <;> first | (cases hd; done) | simp [execOp,ho,hq,Instr.typeAssert,run_underlying hu]
theorem gen_asr_no {x : Operand} {t0 t t' : TypeId} {s z : Sh} {d : TypeDesc} {zv : Value} (hu : Tryz.prog.underlying t = some d) (hd : isIfc d = false) (hne : t' ≠ t) (hz : ∀ w,(zeroValue t).run Tryz.prog w = .ok zv w) (hr : ∀ H,Rep H E0 z zv) : GenRel (.typeAssert x t0 t true) [x] [.ifc t' s] (.tup [z,.v (.bool false)]) := gen_val fun o a w H ho h1 hA => by
 cases hA with
 | cons hi hl =>
  generalize hq : a.eval x = q at hi
  cases hi with
  | ifc hi =>
   rename_i u
   refine ⟨.tuple #[zv,.bool false],?_,.tup (.cons (hr H) (.cons (.v rfl) .nil))⟩
   cases d <;> first | (cases hd; done) | simp [execOp,ho,hq,Instr.typeAssert,run_underlying hu,hne,hz]
theorem gen_some_eq {t t2 t' : TypeId} {x : Operand} {c : Value} {s : Sh} (h : Tryz.prog.underlying t = some (.interface (Tryz.prog.methodsAt t))) : GenRel (.binOp .eql t x (.const c) t2) [x,.const c] [.ifc t' s,.v .nilIface] (.v (.bool false)) := gen_val fun o a w H ho h1 hA => by
 cases hA with
 | cons h1 hA =>
  cases hA with
  | cons h2 hA =>
   generalize hq : a.eval x = q at h1
   cases h1
   have hc : c = .nilIface := by
    have h2 : Rep H E0 (.v .nilIface) c := h2
    cases h2; rfl
   subst hc
   exact ⟨.bool false,by simp [execOp,ho,hq,show a.eval (.const .nilIface) = Value.nilIface from rfl,eqGuard,run_eql_held_nil w t _ _ h],.v rfl⟩
section
variable {P : Program}
set_option maxRecDepth 100000 in
set_option maxHeartbeats 1000000 in
theorem run_eql_fn {t : TypeId} {ps rs : Array TypeId} {vr : Bool} (hu : P.underlying t = some (.func ps rs vr)) (w : World) : (binOp .eql t .nilFunc .nilFunc).run P w = .ok (.bool true) w ∧ (binOp .neq t .nilFunc .nilFunc).run P w = .ok (.bool false) w ∧ ∀ f a b,(binOp .eql t (.func f a b) .nilFunc).run P w = .ok (.bool false) w ∧ (binOp .neq t (.func f a b) .nilFunc).run P w = .ok (.bool true) w := by
 have h1 : (Op.equalIn (9999 + 1) t .nilFunc .nilFunc).run P w = .ok true w := by unfold Op.equalIn; rw [Sem.run_bind,run_underlying hu]; rfl
 have h2 : ∀ f a b,(Op.equalIn (9999 + 1) t (.func f a b) .nilFunc).run P w = .ok false w := fun f a b => by unfold Op.equalIn; rw [Sem.run_bind,run_underlying hu]; rfl
 have h1 : (Op.equal t .nilFunc .nilFunc).run P w = .ok true w := h1
 have h2 : ∀ f a b,(Op.equal t (.func f a b) .nilFunc).run P w = .ok false w := h2
 have c1 : binOp .eql t .nilFunc .nilFunc = (Op.equal t .nilFunc .nilFunc >>= fun b => pure (.bool b)) := rfl
 have c2 : binOp .neq t .nilFunc .nilFunc = (Op.equal t .nilFunc .nilFunc >>= fun b => pure (.bool !b)) := rfl
 have c3 : ∀ f a b,binOp .eql t (.func f a b) .nilFunc = (Op.equal t (.func f a b) .nilFunc >>= fun b => pure (.bool b)) := fun _ _ _ => rfl
 have c4 : ∀ f a b,binOp .neq t (.func f a b) .nilFunc = (Op.equal t (.func f a b) .nilFunc >>= fun b => pure (.bool !b)) := fun _ _ _ => rfl
 refine ⟨?_,?_,fun f a b => ⟨?_,?_⟩⟩
 ·rw [c1,Sem.run_bind,h1]; rfl
 ·rw [c2,Sem.run_bind,h1]; rfl
 ·rw [c3,Sem.run_bind,h2]; rfl
 ·rw [c4,Sem.run_bind,h2]; rfl
end
theorem eqsh_fn_nil {t : TypeId} {ps rs : Array TypeId} {vr : Bool} (hu : Tryz.prog.underlying t = some (.func ps rs vr)) : EqSh t (.v .nilFunc) (.v .nilFunc) true := by
 intro H E w u1 u2 o1 o2 hs h1 h2
 cases h1; cases h2
 obtain ⟨a,b,_⟩ := run_eql_fn hu w
 exact ⟨by simpa [eqGuard] using a,by simpa [eqGuard] using b⟩
theorem eqsh_fn_some {t : TypeId} {f : Fn} {a b : List Sh} {ps rs : Array TypeId} {vr : Bool} (hu : Tryz.prog.underlying t = some (.func ps rs vr)) : EqSh t (.fn f a b) (.v .nilFunc) false := by
 intro H E w u1 u2 o1 o2 hs h1 h2
 cases h1; cases h2
 obtain ⟨_,_,h⟩ := run_eql_fn hu w
 obtain ⟨a,b⟩ := h f _ _
 exact ⟨by simpa [eqGuard] using a,by simpa [eqGuard] using b⟩
end Go.Proofs.YtkmbcjnaaokilaaGreatDoor
