/-
  Two results compare as their parts do.
-/
import Derived.Test.YtkmbcjnaaokilaaGreatDoorMC
import Derived.WideLaws
namespace Go.Proofs.YtkmbcjnaaokilaaGreatDoor
set_option linter.unusedSimpArgs false
set_option linter.unusedVariables false
open Go.RowKit Go.Maps


theorem vg {op : Op} {xs : List Operand} {l : List av} {r : av} (h : ∀ (o : Oper) (a : Act) (w : World) (H : bg),o.op = op → Sub H w → db H ep l (xs.map a.eval) → ∃ v,(execOp a.eval o).run Tryz.prog w = .ok (.value v) w ∧ ca H ep r v) : rl op xs l r := by
 intro o a w H ay af br
 obtain ⟨v,e,ax⟩ := h o a w H ay af br
 unfold Oper.wp
 rw [e]
 exact ⟨v,H,rfl,Grow.refl af,ax⟩
theorem yD {x : Operand} {t0 t : TypeId} {s : av} {d : TypeDesc} (hu : Tryz.prog.underlying t = some d) (aX : Jz d = false) : rl (.typeAssert x t0 t true) [x] [.dr t s] (.bR [s,.v (.bool true)]) := vg fun o a w H ay af br => by
 cases br with
 | cons aq aF =>
  generalize aS : a.eval x = q at aq
  cases aq with
  | dr aq =>
   rename_i u
   refine ⟨.tuple #[u,.bool true],?_,.bR (.cons aq (.cons (.v rfl) .nil))⟩
   cases d <;> first | (cases aX; done) | simp [execOp,ay,aS,Instr.typeAssert,run_underlying hu]
theorem Oj {x : Operand} {t0 t t' : TypeId} {s z : av} {d : TypeDesc} {Mk : Value} (hu : Tryz.prog.underlying t = some d) (aX : Jz d = false) (dd : t' ≠ t) (bO : ∀ w,(zeroValue t).run Tryz.prog w = .ok Mk w) (ax : ∀ H,ca H ep z Mk) : rl (.typeAssert x t0 t true) [x] [.dr t' s] (.bR [z,.v (.bool false)]) := vg fun o a w H ay af br => by
 cases br with
 | cons aq aF =>
  generalize aS : a.eval x = q at aq
  cases aq with
  | dr aq =>
   rename_i u
   refine ⟨.tuple #[Mk,.bool false],?_,.bR (.cons (ax H) (.cons (.v rfl) .nil))⟩
   cases d <;> first | (cases aX; done) | simp [execOp,ay,aS,Instr.typeAssert,run_underlying hu,dd,bO]
theorem aa9 {t t2 : TypeId} {x : Operand} {c : Value} (h : Tryz.prog.underlying t = some (.interface (Tryz.prog.methodsAt t))) : rl (.binOp .eql t x (.const c) t2) [x,.const c] [.v .nilIface,.v .nilIface] (.v (.bool true)) := vg fun o a w H ay af br => by
 cases br with
 | cons af br =>
  cases br with
  | cons aj br =>
   generalize aS : a.eval x = q at af
   cases af
   have az : c = .nilIface := by
    have aj : ca H ep (.v .nilIface) c := aj
    cases aj; rfl
   subst az
   exact ⟨.bool true,by simp [execOp,ay,aS,show a.eval (.const .nilIface) = Value.nilIface from rfl,eqGuard,run_eql_nil_nil w t h],.v rfl⟩
theorem yE {t t2 t' : TypeId} {x : Operand} {c : Value} {s : av} (h : Tryz.prog.underlying t = some (.interface (Tryz.prog.methodsAt t))) : rl (.binOp .eql t x (.const c) t2) [x,.const c] [.dr t' s,.v .nilIface] (.v (.bool false)) := vg fun o a w H ay af br => by
 cases br with
 | cons af br =>
  cases br with
  | cons aj br =>
   generalize aS : a.eval x = q at af
   cases af
   have az : c = .nilIface := by
    have aj : ca H ep (.v .nilIface) c := aj
    cases aj; rfl
   subst az
   exact ⟨.bool false,by simp [execOp,ay,aS,show a.eval (.const .nilIface) = Value.nilIface from rfl,eqGuard,run_eql_held_nil w t _ _ h],.v rfl⟩
section
variable {P : Program}
set_option maxRecDepth 100000 in
set_option maxHeartbeats 1000000 in
theorem Ru {t : TypeId} {ps rs : Array TypeId} {CD : Bool} (hu : P.underlying t = some (.func ps rs CD)) (w : World) : (binOp .eql t .nilFunc .nilFunc).run P w = .ok (.bool true) w ∧ (binOp .neq t .nilFunc .nilFunc).run P w = .ok (.bool false) w ∧ ∀ f a b,(binOp .eql t (.func f a b) .nilFunc).run P w = .ok (.bool false) w ∧ (binOp .neq t (.func f a b) .nilFunc).run P w = .ok (.bool true) w := by
 have af : (Op.equalIn (9999 + 1) t .nilFunc .nilFunc).run P w = .ok true w := by unfold Op.equalIn; rw [Sem.run_bind,run_underlying hu]; rfl
 have aj : ∀ f a b,(Op.equalIn (9999 + 1) t (.func f a b) .nilFunc).run P w = .ok false w := fun f a b => by unfold Op.equalIn; rw [Sem.run_bind,run_underlying hu]; rfl
 have af : (Op.equal t .nilFunc .nilFunc).run P w = .ok true w := af
 have aj : ∀ f a b,(Op.equal t (.func f a b) .nilFunc).run P w = .ok false w := aj
 have cw : binOp .eql t .nilFunc .nilFunc = (Op.equal t .nilFunc .nilFunc >>= fun b => pure (.bool b)) := rfl
 have c2 : binOp .neq t .nilFunc .nilFunc = (Op.equal t .nilFunc .nilFunc >>= fun b => pure (.bool !b)) := rfl
 have eE : ∀ f a b,binOp .eql t (.func f a b) .nilFunc = (Op.equal t (.func f a b) .nilFunc >>= fun b => pure (.bool b)) := fun _ _ _ => rfl
 have hb : ∀ f a b,binOp .neq t (.func f a b) .nilFunc = (Op.equal t (.func f a b) .nilFunc >>= fun b => pure (.bool !b)) := fun _ _ _ => rfl
 refine ⟨?_,?_,fun f a b => ⟨?_,?_⟩⟩
 ·rw [cw,Sem.run_bind,af]; rfl
 ·rw [c2,Sem.run_bind,af]; rfl
 ·rw [eE,Sem.run_bind,aj]; rfl
 ·rw [hb,Sem.run_bind,aj]; rfl
end
theorem aax {t : TypeId} {ps rs : Array TypeId} {CD : Bool} (hu : Tryz.prog.underlying t = some (.func ps rs CD)) : sA t (.v .nilFunc) (.v .nilFunc) true := by
 intro H E w l4 iD eX eI ao af aj
 cases af; cases aj
 obtain ⟨a,b,_⟩ := Ru hu w
 exact ⟨by simpa [eqGuard] using a,by simpa [eqGuard] using b⟩
theorem aay {t : TypeId} {f : Fn} {a b : List av} {ps rs : Array TypeId} {CD : Bool} (hu : Tryz.prog.underlying t = some (.func ps rs CD)) : sA t (.fn f a b) (.v .nilFunc) false := by
 intro H E w l4 iD eX eI ao af aj
 cases af; cases aj
 obtain ⟨_,_,h⟩ := Ru hu w
 obtain ⟨a,b⟩ := h f _ _
 exact ⟨by simpa [eqGuard] using a,by simpa [eqGuard] using b⟩
end Go.Proofs.YtkmbcjnaaokilaaGreatDoor
namespace Go.Proofs.YtkmbcjnaaokilaaGreatDoor
open Go.RowKit

def S9 : bU := (.seq (.ops [ab 2 (.cm 84 [.nilIface,.nilFunc,.int .i64,.int .i64,.int .i64,.int .u32,.int .u32,.int .i64,.int .u32,.int .u32,.au 4])]) (.seq (.seq (.ops [ab 3 (.ah (aa 0)),ab 4 (.gen (.binOp .eql 35 (aa 3) (.const .nilIface) 35) [.tmp 3,.const .nilIface])]) (.cond (aa 4) (.seq (.ops [ab 5 (.dE [.nilIface,.nilFunc,.int .i64,.int .i64,.int .i64,.int .u32,.int .u32,.int .i64,.int .u32,.int .u32,.au 4] []),aR (.st 11 (aa 2) (aa 5))]) .ret) .skip)) (.seq (.ops [ab 6 (.dE [.nilIface,.nilFunc,.int .i64,.int .i64,.int .i64,.int .u32,.int .u32,.int .i64,.int .u32,.int .u32,.au 4] []),ab 7 (.ah (aa 0)),ab 8 (.dE [.int .i64,.int .u32,.int .u32,.bool] []),ab 9 (.gen (.call (.mk (.invoke (aa 7) "Next") #[.tmp 8] #[100])) [.tmp 7,.tmp 8]),ab 10 (.ext (aa 9) 0),ab 11 (.ext (aa 9) 1),ab 12 (.ext (aa 9) 2),ab 13 (.call 82 [.tmp 6,.tmp 10,.tmp 11,.tmp 12]),aR (.st 11 (aa 2) (aa 13))]) .ret)))
def R2 : List b3 := [(.eh 2 (some 11))]
theorem ajH : cJ Tryz.prog rfl Tryz.f67 = some (S9,R2) := by kernel_rfl
def S3 : bU := (.seq (.ops [ab 1 (.box 84 (aa 0)),ab 2 (.cm 81 [.int .i64,.int .i64,.int .i64,.int .u32,.int .u32,.int .i64,.int .u32,.int .u32]),ab 3 (.ah (a6 false))]) (.seq (.ord (.b1 0 (.alt (.step 1 (.step 2 (.step 3 (.b1 4 (.step 5 (.b1 6 .leaf)))))) (.step 2 (.alt (.step 1 (.step 3 (.b1 4 (.step 5 (.b1 6 .leaf))))) (.step 3 (.b1 4 (.step 1 (.step 5 (.b1 6 .leaf))))))))) [ab 4 (.a3 (aa 1) 2),ab 5 (.aC (aa 4) (some 8)),ab 6 (.aC (aa 1) (some 11)),ab 7 (.call 55 [.tmp 6]),ab 8 (.not (aa 7)),aR (.st 8 (aa 2) (aa 5)),ab 3 (.ah (aa 8))]) .ret))
def RW : List b3 := [(.eh 2 (some 8)),.tmp 3]
theorem ajA : cJ Tryz.prog rfl Tryz.f72 = some (S3,RW) := by kernel_rfl
def S7 : bU := (.seq (.ops [ab 1 (.box 84 (aa 0)),ab 2 (.ah (a6 false))]) (.seq (.ops [ab 3 (.a3 (aa 1) 1),ab 4 (.aC (aa 3) none),ab 5 (.eqv false 75 (aa 4) (.const .nilFunc)),ab 2 (.ah (aa 5))]) .ret))
def R0 : List b3 := [.tmp 2]
theorem ajE : cJ Tryz.prog rfl Tryz.f55 = some (S7,R0) := by kernel_rfl
def S5 : bU := (.seq (.ops [ab 1 (.box 84 (aa 0)),ab 2 (.ah (.const .nilIface))]) (.seq (.ops [ab 3 (.a3 (aa 1) 0),ab 4 (.aC (aa 3) none),ab 2 (.ah (aa 4))]) .ret))
def RY : List b3 := [.tmp 2]
theorem ajC : cJ Tryz.prog rfl Tryz.f45 = some (S5,RY) := by kernel_rfl
def xU : bU := (.seq (.ops [ab 2 (.box 63 (aa 0)),ab 3 (.box 67 (aa 1)),ab 4 (.cm 63 [.au 1,.au 1,.au 3,.au 2,.mp 3,.au 1,.int .i64,.au 11,.au 1]),ab 5 (.ah (a6 false))]) (.seq (.block 0 (.seq (.ops [ab 7 (.aC (aa 2) (some 9)),ab 8 (.call 49 [.tmp 7]),ab 6 (.ah (aa 8))]) (.cond (aa 6) .skip (.seq (.ops [ab 10 (.a3 (aa 3) 0),ab 11 (.aC (aa 10) none),ab 12 (.bin .eql (aa 11) (aA 2)),ab 9 (.ah (aa 12))]) (.cond (aa 9) (.seq (.ops [ab 13 (.a3 (aa 2) 0),ab 14 (.aC (aa 13) (some 7)),ab 15 (.a3 (aa 3) 2),ab 16 (.aC (aa 15) none),ab 17 (.call 50 [.tmp 14,.tmp 16]),ab 18 (.dE [.au 1,.au 1,.au 3,.au 2,.mp 3,.au 1,.int .i64,.au 11,.au 1] [(0,(7,(aa 17)))]),aR (.st 9 (aa 4) (aa 18)),ab 5 (.ah (a6 true))]) .ret) (.seq (.ops [ab 20 (.aC (aa 2) (some 9)),ab 21 (.a3 (aa 3) 1),ab 22 (.aC (aa 21) none),ab 23 (.call 51 [.tmp 20,.tmp 22]),ab 24 (.not (aa 23)),ab 19 (.ah (aa 24))]) (.cond (aa 19) .skip (.seq (.ops [ab 26 (.a3 (aa 3) 0),ab 27 (.aC (aa 26) none),ab 28 (.bin .eql (aa 27) (aA 0)),ab 25 (.ah (aa 28))]) (.cond (aa 25) (.seq (.ops [ab 29 (.aC (aa 2) (some 9)),ab 30 (.a3 (aa 3) 1),ab 31 (.aC (aa 30) none),ab 32 (.a3 (aa 3) 2),ab 33 (.aC (aa 32) none),ab 34 (.call 52 [.tmp 29,.tmp 31,.tmp 33]),aR (.st 9 (aa 4) (aa 34)),ab 5 (.ah (a6 true))]) .ret) (.seq (.ops [ab 36 (.a3 (aa 3) 0),ab 37 (.aC (aa 36) none),ab 38 (.bin .eql (aa 37) (aA 1)),ab 35 (.ah (aa 38))]) (.cond (aa 35) (.seq (.ops [ab 39 (.aC (aa 2) (some 9)),ab 40 (.a3 (aa 3) 1),ab 41 (.aC (aa 40) none),ab 42 (.call 53 [.tmp 39,.tmp 41]),aR (.st 9 (aa 4) (aa 42)),ab 5 (.ah (a6 true))]) .ret) .skip))))))))))) (.seq (.ops [ab 43 (.aC (aa 2) (some 9)),aR (.st 9 (aa 4) (aa 43)),ab 5 (.ah (a6 false))]) .ret)))
def xR : List b3 := [(.eh 4 (some 9)),.tmp 5]
theorem ajI : cJ Tryz.prog rfl Tryz.f24 = some (xU,xR) := by kernel_rfl
def S4 : bU := (.seq (.ops [ab 3 (.box 63 (aa 0)),ab 6 (.cm 63 [.au 1,.au 1,.au 3,.au 2,.mp 3,.au 1,.int .i64,.au 11,.au 1]),ab 7 (.ah (a6 false))]) (.seq (.seq (.ops [ab 10 (.ah (aa 1)),ab 11 (.bin .lss (aa 10) (aA 1)),ab 12 (.ah (aa 11)),a9 13 12 false (.ah (aa 1)),a9 14 12 false (.a3 (aa 3) 7),a9 15 12 false (.aC (aa 14) none),a9 16 12 false (.len (aa 15)),a9 17 12 false (.bin .gtr (aa 13) (aa 16)),ab 18 (.pick (aa 12) (a6 true) (aa 17)),ab 19 (.ah (aa 18)),a9 20 19 false (.aC (aa 3) (some 9)),a9 21 19 false (.ah (aa 1)),a9 22 19 false (.bin .sub (aa 21) (aA 1)),a9 23 19 false (.call 54 [.tmp 20,.tmp 22]),ab 24 (.pick (aa 19) (a6 true) (aa 23))]) (.cond (aa 24) (.seq (.ops [ab 25 (.aC (aa 3) (some 9)),aR (.st 9 (aa 6) (aa 25)),ab 7 (.ah (a6 false))]) .ret) .skip)) (.seq (.seq (.ops [ab 26 (.ah (aa 2)),ab 27 (.kH true (aa 26) (aA 0)),ab 28 (.ah (aA 0))]) (.block 0 (.loop (.seq (.ops [ab 29 (.bin .lss (aa 28) (aa 27))]) (.seq (.cond (aa 29) .skip (.exit 0)) (.seq (.block 1 (.seq (.ops [ab 31 (.aC (aa 3) (some 9)),ab 32 (.ah (aa 1)),ab 33 (.dE [.int .i64,.int .i64,.int .i64] [(0,(1,(aA 0))),(1,(1,(aa 32)))]),ab 34 (.call 24 [.tmp 31,.tmp 33]),ab 30 (.ah (aa 34)),ab 35 (.ext (aa 30) 0),ab 36 (.ext (aa 30) 1),ab 8 (.cm 63 [.au 1,.au 1,.au 3,.au 2,.mp 3,.au 1,.int .i64,.au 11,.au 1]),aR (.st 9 (aa 8) (aa 35)),ab 9 (.ah (aa 36))]) (.seq (.seq (.ops [ab 37 (.ah (aa 9)),ab 38 (.not (aa 37))]) (.cond (aa 38) (.exit 0) .skip)) (.ops [ab 39 (.aC (aa 8) (some 9)),aR (.st 9 (aa 3) (aa 39))])))) (.ops [ab 40 (.bin .add (aa 28) (aA 1)),ab 28 (.ah (aa 40))]))))))) (.seq (.hc 8 [ab 41 (.aC (aa 3) (some 9)),ab 42 (.a3 (aa 3) 7),ab 43 (.aC (aa 42) none),ab 44 (.ah (aa 1)),ab 45 (.bin .sub (aa 44) (aA 1)),ab 46 (.dU (aa 43) (aa 45) 11),ab 47 (.aC (aa 46) (some 11)),ab 48 (.call 55 [.tmp 47]),aR (.st 9 (aa 6) (aa 41)),ab 7 (.ah (aa 48))]) .ret))))
def RX : List b3 := [(.eh 6 (some 9)),.tmp 7]
theorem ajB : cJ Tryz.prog rfl Tryz.f26 = some (S4,RX) := by kernel_rfl
def Lr : bU := (.seq (.ops [ab 2 (.box 63 (aa 0)),ab 4 (.ah (a6 false))]) (.seq (.ops [ab 5 (.ah (aa 1)),ab 6 (.a3 (aa 2) 8),ab 7 (.aC (aa 6) none),ab 8 (.len (aa 7)),ab 9 (.bin .lss (aa 5) (aa 8)),ab 10 (.ah (aa 9)),a9 11 10 true (.a3 (aa 2) 8),a9 12 10 true (.aC (aa 11) none),a9 13 10 true (.ah (aa 1)),a9 14 10 true (.dU (aa 12) (aa 13) 1),a9 15 10 true (.aC (aa 14) none),ab 16 (.pick (aa 10) (aa 15) (a6 false)),ab 4 (.ah (aa 16))]) .ret))
def KZ : List b3 := [.tmp 4]
theorem ajJ : cJ Tryz.prog rfl Tryz.f54 = some (Lr,KZ) := by kernel_rfl
def Ls : bU := (.seq (.ops [ab 4 (.box 84 (aa 0)),ab 6 (.box 81 (aa 2)),ab 8 (.cm 84 [.nilIface,.nilFunc,.int .i64,.int .i64,.int .i64,.int .u32,.int .u32,.int .i64,.int .u32,.int .u32,.au 4])]) (.seq (.ord (.b1 0 (.b1 2 (.alt (.step 1 (.step 3 (.b1 4 (.step 5 (.b1 6 (.step 7 .leaf)))))) (.step 3 (.step 1 (.b1 4 (.step 5 (.b1 6 (.step 7 .leaf))))))))) [ab 9 (.ah (aa 1)),ab 10 (.aC (aa 6) (some 8)),ab 11 (.a3 (aa 4) 0),aR (.st 1 (aa 11) (aa 9)),ab 12 (.a3 (aa 4) 2),aR (.st 8 (aa 12) (aa 10)),ab 13 (.a3 (aa 4) 1),aR (.st 1 (aa 13) (.const .nilFunc))]) (.seq (.seq (.ops [ab 14 (.ah (aa 3)),ab 15 (.ah (aa 14)),a9 16 15 false (.ah (aa 1)),a9 17 15 false (.gen (.binOp .eql 35 (aa 16) (.const .nilIface) 35) [.tmp 16,.const .nilIface]),ab 18 (.pick (aa 15) (a6 true) (aa 17))]) (.cond (aa 18) (.seq (.ops [ab 19 (.dE [.int .i64,.int .i64,.int .i64,.int .u32,.int .u32,.int .i64,.int .u32,.int .u32] []),ab 20 (.a3 (aa 4) 2),aR (.st 8 (aa 20) (aa 19))]) (.seq (.ops [ab 21 (.aC (aa 4) (some 11)),aR (.st 11 (aa 8) (aa 21))]) .ret)) .skip)) (.seq (.ops [ab 22 (.ah (aa 1)),ab 23 (.k3 (aa 22)),ab 24 (.jY (.method "Next") [.tmp 23] []),ab 25 (.a3 (aa 4) 1),aR (.st 1 (aa 25) (aa 24))]) (.seq (.ops [ab 26 (.aC (aa 4) (some 11)),aR (.st 11 (aa 8) (aa 26))]) .ret)))))
def K0 : List b3 := [(.eh 8 (some 11))]
theorem ajL : cJ Tryz.prog rfl Tryz.f82 = some (Ls,K0) := by kernel_rfl
def S6 : bU := (.seq (.ops [ab 1 (.box 63 (aa 0)),ab 2 (.ah (a6 false))]) (.seq (.ops [ab 6 (.a3 (aa 1) 0),ab 7 (.aC (aa 6) (some 7)),ab 8 (.call 47 [.tmp 7]),ab 5 (.ah (aa 8)),ab 9 (.ext (aa 5) 0),ab 10 (.ext (aa 5) 1),ab 3 (.ah (aa 9)),ab 4 (.ah (aa 10))]) (.seq (.ops [ab 11 (.ah (aa 3)),ab 12 (.bin .eql (aa 11) (aA 0)),ab 2 (.ah (aa 12))]) .ret)))
def RZ : List b3 := [.tmp 2]
theorem ajD : cJ Tryz.prog rfl Tryz.f49 = some (S6,RZ) := by kernel_rfl
def Cp : bU := (.seq (.ops [ab 2 (.box 63 (aa 0)),ab 4 (.ah (a6 false))]) (.seq (.ops [ab 5 (.ah (aa 1)),ab 6 (.bin .geq (aa 5) (aA 1)),ab 7 (.ah (aa 6)),a9 8 7 true (.ah (aa 1)),a9 9 7 true (.a3 (aa 2) 7),a9 10 7 true (.aC (aa 9) none),a9 11 7 true (.len (aa 10)),a9 12 7 true (.bin .leq (aa 8) (aa 11)),ab 13 (.pick (aa 7) (aa 12) (a6 false)),ab 14 (.ah (aa 13)),a9 15 14 true (.aC (aa 2) (some 9)),a9 16 14 true (.ah (aa 1)),a9 17 14 true (.bin .sub (aa 16) (aA 1)),a9 18 14 true (.call 54 [.tmp 15,.tmp 17]),a9 19 14 true (.not (aa 18)),ab 20 (.pick (aa 14) (aa 19) (a6 false)),ab 21 (.ah (aa 20)),a9 22 21 true (.a3 (aa 2) 7),a9 23 21 true (.aC (aa 22) none),a9 24 21 true (.ah (aa 1)),a9 25 21 true (.bin .sub (aa 24) (aA 1)),a9 26 21 true (.dU (aa 23) (aa 25) 11),a9 27 21 true (.aC (aa 26) (some 11)),a9 28 21 true (.call 55 [.tmp 27]),a9 29 21 true (.not (aa 28)),ab 30 (.pick (aa 21) (aa 29) (a6 false)),ab 4 (.ah (aa 30))]) .ret))
def Ci : List b3 := [.tmp 4]
theorem ajK : cJ Tryz.prog rfl Tryz.f51 = some (Cp,Ci) := by kernel_rfl
def Ta : bU := (.seq (.ops [ab 2 (.box 63 (aa 0)),ab 4 (.cm 63 [.au 1,.au 1,.au 3,.au 2,.mp 3,.au 1,.int .i64,.au 11,.au 1])]) (.seq (.ops [ab 6 (.a3 (aa 2) 7),ab 7 (.aC (aa 6) none),ab 8 (.len (aa 7)),ab 9 (.mm (aa 8) 4 1 1 [.bool]),ab 5 (.ah (aa 9))]) (.seq (.ops [ab 10 (.ah (aa 5)),ab 11 (.a3 (aa 2) 8),ab 12 (.aC (aa 11) none),ab 13 (.qJ (aa 10) (aa 12) 1)]) (.seq (.ops [ab 14 (.ah (aa 5)),ab 15 (.ah (aa 1)),ab 16 (.bin .sub (aa 15) (aA 1)),ab 17 (.dU (aa 14) (aa 16) 1),aR (.st 1 (aa 17) (a6 true))]) (.seq (.ops [ab 18 (.ah (aa 5)),ab 19 (.a3 (aa 2) 8),aR (.st 1 (aa 19) (aa 18))]) (.seq (.ops [ab 20 (.aC (aa 2) (some 9)),aR (.st 9 (aa 4) (aa 20))]) .ret))))))
def R3 : List b3 := [(.eh 4 (some 9))]
theorem ajN : cJ Tryz.prog rfl Tryz.f53 = some (Ta,R3) := by kernel_rfl
def SS : bU := (.seq (.ops [ab 2 (.ah (.const (.slice none 0 0)))]) (.seq (.ops [ab 3 (.ah (aa 0)),ab 4 (.ah (aa 0)),ab 5 (.len (aa 4)),ab 6 (.ah (aa 0)),ab 7 (.len (aa 6)),ab 8 (.kk 4 (aa 3) none (some (aa 5)) (some (aa 7))),ab 2 (.ah (aa 8))]) .ret))
def RN : List b3 := [.tmp 2]
theorem ajp : cJ Tryz.prog rfl Tryz.f94 = some (SS,RN) := by kernel_rfl
end Go.Proofs.YtkmbcjnaaokilaaGreatDoor
