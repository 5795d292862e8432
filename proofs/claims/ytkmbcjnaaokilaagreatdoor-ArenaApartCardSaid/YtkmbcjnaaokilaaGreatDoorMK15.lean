/-
  Two results compare as their parts do.
-/
import Derived.Test.YtkmbcjnaaokilaaGreatDoorMC
import Derived.WideLaws
namespace Go.Proofs.YtkmbcjnaaokilaaGreatDoor
set_option linter.unusedSimpArgs false
set_option linter.unusedVariables false
open Go.RowKit Go.Maps


theorem wU {op : Op} {xs : List Operand} {l : List aw} {r : aw} (h : ∀ (o : Oper) (a : Act) (w : World) (H : bl),o.op = op → Sub H w → dg H eD l (xs.map a.eval) → ∃ v,(execOp a.eval o).run Tryz.prog w = .ok (.value v) w ∧ cl H eD r v) : ss op xs l r := by
 intro o a w H ax af br
 obtain ⟨v,e,aA⟩ := h o a w H ax af br
 unfold Oper.wp
 rw [e]
 exact ⟨v,H,rfl,Grow.refl af,aA⟩
theorem Al {x : Operand} {t0 t : TypeId} {s : aw} {d : TypeDesc} (hu : Tryz.prog.underlying t = some d) (a6 : LZ d = false) : ss (.typeAssert x t0 t true) [x] [.ds t s] (.bY [s,.v (.bool true)]) := wU fun o a w H ax af br => by
 cases br with
 | cons aq aE =>
  generalize aT : a.eval x = q at aq
  cases aq with
  | ds aq =>
   rename_i u
   refine ⟨.tuple #[u,.bool true],?_,.bY (.cons aq (.cons (.v rfl) .nil))⟩
   cases d <;> first | (cases a6; done) | simp [execOp,ax,aT,Instr.typeAssert,run_underlying hu]
theorem Rb {x : Operand} {t0 t t' : TypeId} {s z : aw} {d : TypeDesc} {O7 : Value} (hu : Tryz.prog.underlying t = some d) (a6 : LZ d = false) (dj : t' ≠ t) (bR : ∀ w,(zeroValue t).run Tryz.prog w = .ok O7 w) (aA : ∀ H,cl H eD z O7) : ss (.typeAssert x t0 t true) [x] [.ds t' s] (.bY [z,.v (.bool false)]) := wU fun o a w H ax af br => by
 cases br with
 | cons aq aE =>
  generalize aT : a.eval x = q at aq
  cases aq with
  | ds aq =>
   rename_i u
   refine ⟨.tuple #[O7,.bool false],?_,.bY (.cons (aA H) (.cons (.v rfl) .nil))⟩
   cases d <;> first | (cases a6; done) | simp [execOp,ax,aT,Instr.typeAssert,run_underlying hu,dj,bR]
theorem aeA {t t2 : TypeId} {x : Operand} {c : Value} (h : Tryz.prog.underlying t = some (.interface (Tryz.prog.methodsAt t))) : ss (.binOp .eql t x (.const c) t2) [x,.const c] [.v .nilIface,.v .nilIface] (.v (.bool true)) := wU fun o a w H ax af br => by
 cases br with
 | cons af br =>
  cases br with
  | cons aj br =>
   generalize aT : a.eval x = q at af
   cases af
   have aB : c = .nilIface := by
    have aj : cl H eD (.v .nilIface) c := aj
    cases aj; rfl
   subst aB
   exact ⟨.bool true,by simp [execOp,ax,aT,show a.eval (.const .nilIface) = Value.nilIface from rfl,eqGuard,run_eql_nil_nil w t h],.v rfl⟩
theorem Am {t t2 t' : TypeId} {x : Operand} {c : Value} {s : aw} (h : Tryz.prog.underlying t = some (.interface (Tryz.prog.methodsAt t))) : ss (.binOp .eql t x (.const c) t2) [x,.const c] [.ds t' s,.v .nilIface] (.v (.bool false)) := wU fun o a w H ax af br => by
 cases br with
 | cons af br =>
  cases br with
  | cons aj br =>
   generalize aT : a.eval x = q at af
   cases af
   have aB : c = .nilIface := by
    have aj : cl H eD (.v .nilIface) c := aj
    cases aj; rfl
   subst aB
   exact ⟨.bool false,by simp [execOp,ax,aT,show a.eval (.const .nilIface) = Value.nilIface from rfl,eqGuard,run_eql_held_nil w t _ _ h],.v rfl⟩
section
variable {P : Program}
set_option maxRecDepth 100000 in
set_option maxHeartbeats 1000000 in
theorem UF {t : TypeId} {ps rs : Array TypeId} {Ei : Bool} (hu : P.underlying t = some (.func ps rs Ei)) (w : World) : (binOp .eql t .nilFunc .nilFunc).run P w = .ok (.bool true) w ∧ (binOp .neq t .nilFunc .nilFunc).run P w = .ok (.bool false) w ∧ ∀ f a b,(binOp .eql t (.func f a b) .nilFunc).run P w = .ok (.bool false) w ∧ (binOp .neq t (.func f a b) .nilFunc).run P w = .ok (.bool true) w := by
 have af : (Op.equalIn (9999 + 1) t .nilFunc .nilFunc).run P w = .ok true w := by unfold Op.equalIn; rw [Sem.run_bind,run_underlying hu]; rfl
 have aj : ∀ f a b,(Op.equalIn (9999 + 1) t (.func f a b) .nilFunc).run P w = .ok false w := fun f a b => by unfold Op.equalIn; rw [Sem.run_bind,run_underlying hu]; rfl
 have af : (Op.equal t .nilFunc .nilFunc).run P w = .ok true w := af
 have aj : ∀ f a b,(Op.equal t (.func f a b) .nilFunc).run P w = .ok false w := aj
 have cd : binOp .eql t .nilFunc .nilFunc = (Op.equal t .nilFunc .nilFunc >>= fun b => pure (.bool b)) := rfl
 have c2 : binOp .neq t .nilFunc .nilFunc = (Op.equal t .nilFunc .nilFunc >>= fun b => pure (.bool !b)) := rfl
 have eu : ∀ f a b,binOp .eql t (.func f a b) .nilFunc = (Op.equal t (.func f a b) .nilFunc >>= fun b => pure (.bool b)) := fun _ _ _ => rfl
 have fR : ∀ f a b,binOp .neq t (.func f a b) .nilFunc = (Op.equal t (.func f a b) .nilFunc >>= fun b => pure (.bool !b)) := fun _ _ _ => rfl
 refine ⟨?_,?_,fun f a b => ⟨?_,?_⟩⟩
 ·rw [cd,Sem.run_bind,af]; rfl
 ·rw [c2,Sem.run_bind,af]; rfl
 ·rw [eu,Sem.run_bind,aj]; rfl
 ·rw [fR,Sem.run_bind,aj]; rfl
end
theorem adY {t : TypeId} {ps rs : Array TypeId} {Ei : Bool} (hu : Tryz.prog.underlying t = some (.func ps rs Ei)) : sr t (.v .nilFunc) (.v .nilFunc) true := by
 intro H E w mG ha e2 eQ ao af aj
 cases af; cases aj
 obtain ⟨a,b,_⟩ := UF hu w
 exact ⟨by simpa [eqGuard] using a,by simpa [eqGuard] using b⟩
theorem adZ {t : TypeId} {f : Fn} {a b : List aw} {ps rs : Array TypeId} {Ei : Bool} (hu : Tryz.prog.underlying t = some (.func ps rs Ei)) : sr t (.fn f a b) (.v .nilFunc) false := by
 intro H E w mG ha e2 eQ ao af aj
 cases af; cases aj
 obtain ⟨_,_,h⟩ := UF hu w
 obtain ⟨a,b⟩ := h f _ _
 exact ⟨by simpa [eqGuard] using a,by simpa [eqGuard] using b⟩
end Go.Proofs.YtkmbcjnaaokilaaGreatDoor
namespace Go.Proofs.YtkmbcjnaaokilaaGreatDoor
open Go.RowKit

def Wm : bZ := (.seq (.ops [ab 2 (.cw 84 [.nilIface,.nilFunc,.int .i64,.int .i64,.int .i64,.int .u32,.int .u32,.int .i64,.int .u32,.int .u32,.au 4])]) (.seq (.seq (.ops [ab 3 (.ah (aa 0)),ab 4 (.gen (.binOp .eql 35 (aa 3) (.const .nilIface) 35) [.tmp 3,.const .nilIface])]) (.cond (aa 4) (.seq (.ops [ab 5 (.dO [.nilIface,.nilFunc,.int .i64,.int .i64,.int .i64,.int .u32,.int .u32,.int .i64,.int .u32,.int .u32,.au 4] []),aQ (.st 11 (aa 2) (aa 5))]) .ret) .skip)) (.seq (.ops [ab 6 (.dO [.nilIface,.nilFunc,.int .i64,.int .i64,.int .i64,.int .u32,.int .u32,.int .i64,.int .u32,.int .u32,.au 4] []),ab 7 (.ah (aa 0)),ab 8 (.dO [.int .i64,.int .u32,.int .u32,.bool] []),ab 9 (.gen (.call (.mk (.invoke (aa 7) "Next") #[.tmp 8] #[100])) [.tmp 7,.tmp 8]),ab 10 (.ext (aa 9) 0),ab 11 (.ext (aa 9) 1),ab 12 (.ext (aa 9) 2),ab 13 (.call 82 [.tmp 6,.tmp 10,.tmp 11,.tmp 12]),aQ (.st 11 (aa 2) (aa 13))]) .ret)))
def Ve : List b6 := [(.eB 2 (some 11))]
theorem anl : cP Tryz.prog rfl Tryz.f67 = some (Wm,Ve) := by kernel_rfl
def Wg : bZ := (.seq (.ops [ab 1 (.box 84 (aa 0)),ab 2 (.cw 81 [.int .i64,.int .i64,.int .i64,.int .u32,.int .u32,.int .i64,.int .u32,.int .u32]),ab 3 (.ah (a3 false))]) (.seq (.ord (.b4 0 (.alt (.step 1 (.step 2 (.step 3 (.b4 4 (.step 5 (.b4 6 .leaf)))))) (.step 2 (.alt (.step 1 (.step 3 (.b4 4 (.step 5 (.b4 6 .leaf))))) (.step 3 (.b4 4 (.step 1 (.step 5 (.b4 6 .leaf))))))))) [ab 4 (.aU (aa 1) 2),ab 5 (.aC (aa 4) (some 8)),ab 6 (.aC (aa 1) (some 11)),ab 7 (.call 55 [.tmp 6]),ab 8 (.not (aa 7)),aQ (.st 8 (aa 2) (aa 5)),ab 3 (.ah (aa 8))]) .ret))
def U8 : List b6 := [(.eB 2 (some 8)),.tmp 3]
theorem ane : cP Tryz.prog rfl Tryz.f72 = some (Wg,U8) := by kernel_rfl
def Wk : bZ := (.seq (.ops [ab 1 (.box 84 (aa 0)),ab 2 (.ah (a3 false))]) (.seq (.ops [ab 3 (.aU (aa 1) 1),ab 4 (.aC (aa 3) none),ab 5 (.eqv false 75 (aa 4) (.const .nilFunc)),ab 2 (.ah (aa 5))]) .ret))
def Vc : List b6 := [.tmp 2]
theorem ani : cP Tryz.prog rfl Tryz.f55 = some (Wk,Vc) := by kernel_rfl
def Wi : bZ := (.seq (.ops [ab 1 (.box 84 (aa 0)),ab 2 (.ah (.const .nilIface))]) (.seq (.ops [ab 3 (.aU (aa 1) 0),ab 4 (.aC (aa 3) none),ab 2 (.ah (aa 4))]) .ret))
def Va : List b6 := [.tmp 2]
theorem ang : cP Tryz.prog rfl Tryz.f45 = some (Wi,Va) := by kernel_rfl
def zA : bZ := (.seq (.ops [ab 2 (.box 63 (aa 0)),ab 3 (.box 67 (aa 1)),ab 4 (.cw 63 [.au 1,.au 1,.au 3,.au 2,.mp 3,.au 1,.int .i64,.au 11,.au 1]),ab 5 (.ah (a3 false))]) (.seq (.block 0 (.seq (.ops [ab 7 (.aC (aa 2) (some 9)),ab 8 (.call 49 [.tmp 7]),ab 6 (.ah (aa 8))]) (.cond (aa 6) .skip (.seq (.ops [ab 10 (.aU (aa 3) 0),ab 11 (.aC (aa 10) none),ab 12 (.bin .eql (aa 11) (ay 2)),ab 9 (.ah (aa 12))]) (.cond (aa 9) (.seq (.ops [ab 13 (.aU (aa 2) 0),ab 14 (.aC (aa 13) (some 7)),ab 15 (.aU (aa 3) 2),ab 16 (.aC (aa 15) none),ab 17 (.call 50 [.tmp 14,.tmp 16]),ab 18 (.dO [.au 1,.au 1,.au 3,.au 2,.mp 3,.au 1,.int .i64,.au 11,.au 1] [(0,(7,(aa 17)))]),aQ (.st 9 (aa 4) (aa 18)),ab 5 (.ah (a3 true))]) .ret) (.seq (.ops [ab 20 (.aC (aa 2) (some 9)),ab 21 (.aU (aa 3) 1),ab 22 (.aC (aa 21) none),ab 23 (.call 51 [.tmp 20,.tmp 22]),ab 24 (.not (aa 23)),ab 19 (.ah (aa 24))]) (.cond (aa 19) .skip (.seq (.ops [ab 26 (.aU (aa 3) 0),ab 27 (.aC (aa 26) none),ab 28 (.bin .eql (aa 27) (ay 0)),ab 25 (.ah (aa 28))]) (.cond (aa 25) (.seq (.ops [ab 29 (.aC (aa 2) (some 9)),ab 30 (.aU (aa 3) 1),ab 31 (.aC (aa 30) none),ab 32 (.aU (aa 3) 2),ab 33 (.aC (aa 32) none),ab 34 (.call 52 [.tmp 29,.tmp 31,.tmp 33]),aQ (.st 9 (aa 4) (aa 34)),ab 5 (.ah (a3 true))]) .ret) (.seq (.ops [ab 36 (.aU (aa 3) 0),ab 37 (.aC (aa 36) none),ab 38 (.bin .eql (aa 37) (ay 1)),ab 35 (.ah (aa 38))]) (.cond (aa 35) (.seq (.ops [ab 39 (.aC (aa 2) (some 9)),ab 40 (.aU (aa 3) 1),ab 41 (.aC (aa 40) none),ab 42 (.call 53 [.tmp 39,.tmp 41]),aQ (.st 9 (aa 4) (aa 42)),ab 5 (.ah (a3 true))]) .ret) .skip))))))))))) (.seq (.ops [ab 43 (.aC (aa 2) (some 9)),aQ (.st 9 (aa 4) (aa 43)),ab 5 (.ah (a3 false))]) .ret)))
def zx : List b6 := [(.eB 4 (some 9)),.tmp 5]
theorem anm : cP Tryz.prog rfl Tryz.f24 = some (zA,zx) := by kernel_rfl
def Wh : bZ := (.seq (.ops [ab 3 (.box 63 (aa 0)),ab 6 (.cw 63 [.au 1,.au 1,.au 3,.au 2,.mp 3,.au 1,.int .i64,.au 11,.au 1]),ab 7 (.ah (a3 false))]) (.seq (.seq (.ops [ab 10 (.ah (aa 1)),ab 11 (.bin .lss (aa 10) (ay 1)),ab 12 (.ah (aa 11)),a8 13 12 false (.ah (aa 1)),a8 14 12 false (.aU (aa 3) 7),a8 15 12 false (.aC (aa 14) none),a8 16 12 false (.len (aa 15)),a8 17 12 false (.bin .gtr (aa 13) (aa 16)),ab 18 (.pick (aa 12) (a3 true) (aa 17)),ab 19 (.ah (aa 18)),a8 20 19 false (.aC (aa 3) (some 9)),a8 21 19 false (.ah (aa 1)),a8 22 19 false (.bin .sub (aa 21) (ay 1)),a8 23 19 false (.call 54 [.tmp 20,.tmp 22]),ab 24 (.pick (aa 19) (a3 true) (aa 23))]) (.cond (aa 24) (.seq (.ops [ab 25 (.aC (aa 3) (some 9)),aQ (.st 9 (aa 6) (aa 25)),ab 7 (.ah (a3 false))]) .ret) .skip)) (.seq (.seq (.ops [ab 26 (.ah (aa 2)),ab 27 (.kX true (aa 26) (ay 0)),ab 28 (.ah (ay 0))]) (.block 0 (.loop (.seq (.ops [ab 29 (.bin .lss (aa 28) (aa 27))]) (.seq (.cond (aa 29) .skip (.exit 0)) (.seq (.block 1 (.seq (.ops [ab 31 (.aC (aa 3) (some 9)),ab 32 (.ah (aa 1)),ab 33 (.dO [.int .i64,.int .i64,.int .i64] [(0,(1,(ay 0))),(1,(1,(aa 32)))]),ab 34 (.call 24 [.tmp 31,.tmp 33]),ab 30 (.ah (aa 34)),ab 35 (.ext (aa 30) 0),ab 36 (.ext (aa 30) 1),ab 8 (.cw 63 [.au 1,.au 1,.au 3,.au 2,.mp 3,.au 1,.int .i64,.au 11,.au 1]),aQ (.st 9 (aa 8) (aa 35)),ab 9 (.ah (aa 36))]) (.seq (.seq (.ops [ab 37 (.ah (aa 9)),ab 38 (.not (aa 37))]) (.cond (aa 38) (.exit 0) .skip)) (.ops [ab 39 (.aC (aa 8) (some 9)),aQ (.st 9 (aa 3) (aa 39))])))) (.ops [ab 40 (.bin .add (aa 28) (ay 1)),ab 28 (.ah (aa 40))]))))))) (.seq (.g0 8 [ab 41 (.aC (aa 3) (some 9)),ab 42 (.aU (aa 3) 7),ab 43 (.aC (aa 42) none),ab 44 (.ah (aa 1)),ab 45 (.bin .sub (aa 44) (ay 1)),ab 46 (.dD (aa 43) (aa 45) 11),ab 47 (.aC (aa 46) (some 11)),ab 48 (.call 55 [.tmp 47]),aQ (.st 9 (aa 6) (aa 41)),ab 7 (.ah (aa 48))]) .ret))))
def U9 : List b6 := [(.eB 6 (some 9)),.tmp 7]
theorem anf : cP Tryz.prog rfl Tryz.f26 = some (Wh,U9) := by kernel_rfl
def N5 : bZ := (.seq (.ops [ab 2 (.box 63 (aa 0)),ab 4 (.ah (a3 false))]) (.seq (.ops [ab 5 (.ah (aa 1)),ab 6 (.aU (aa 2) 8),ab 7 (.aC (aa 6) none),ab 8 (.len (aa 7)),ab 9 (.bin .lss (aa 5) (aa 8)),ab 10 (.ah (aa 9)),a8 11 10 true (.aU (aa 2) 8),a8 12 10 true (.aC (aa 11) none),a8 13 10 true (.ah (aa 1)),a8 14 10 true (.dD (aa 12) (aa 13) 1),a8 15 10 true (.aC (aa 14) none),ab 16 (.pick (aa 10) (aa 15) (a3 false)),ab 4 (.ah (aa 16))]) .ret))
def NB : List b6 := [.tmp 4]
theorem ann : cP Tryz.prog rfl Tryz.f54 = some (N5,NB) := by kernel_rfl
def N6 : bZ := (.seq (.ops [ab 4 (.box 84 (aa 0)),ab 6 (.box 81 (aa 2)),ab 8 (.cw 84 [.nilIface,.nilFunc,.int .i64,.int .i64,.int .i64,.int .u32,.int .u32,.int .i64,.int .u32,.int .u32,.au 4])]) (.seq (.ord (.b4 0 (.b4 2 (.alt (.step 1 (.step 3 (.b4 4 (.step 5 (.b4 6 (.step 7 .leaf)))))) (.step 3 (.step 1 (.b4 4 (.step 5 (.b4 6 (.step 7 .leaf))))))))) [ab 9 (.ah (aa 1)),ab 10 (.aC (aa 6) (some 8)),ab 11 (.aU (aa 4) 0),aQ (.st 1 (aa 11) (aa 9)),ab 12 (.aU (aa 4) 2),aQ (.st 8 (aa 12) (aa 10)),ab 13 (.aU (aa 4) 1),aQ (.st 1 (aa 13) (.const .nilFunc))]) (.seq (.seq (.ops [ab 14 (.ah (aa 3)),ab 15 (.ah (aa 14)),a8 16 15 false (.ah (aa 1)),a8 17 15 false (.gen (.binOp .eql 35 (aa 16) (.const .nilIface) 35) [.tmp 16,.const .nilIface]),ab 18 (.pick (aa 15) (a3 true) (aa 17))]) (.cond (aa 18) (.seq (.ops [ab 19 (.dO [.int .i64,.int .i64,.int .i64,.int .u32,.int .u32,.int .i64,.int .u32,.int .u32] []),ab 20 (.aU (aa 4) 2),aQ (.st 8 (aa 20) (aa 19))]) (.seq (.ops [ab 21 (.aC (aa 4) (some 11)),aQ (.st 11 (aa 8) (aa 21))]) .ret)) .skip)) (.seq (.ops [ab 22 (.ah (aa 1)),ab 23 (.lB (aa 22)),ab 24 (.kj (.method "Next") [.tmp 23] []),ab 25 (.aU (aa 4) 1),aQ (.st 1 (aa 25) (aa 24))]) (.seq (.ops [ab 26 (.aC (aa 4) (some 11)),aQ (.st 11 (aa 8) (aa 26))]) .ret)))))
def NC : List b6 := [(.eB 8 (some 11))]
theorem anp : cP Tryz.prog rfl Tryz.f82 = some (N6,NC) := by kernel_rfl
def Wj : bZ := (.seq (.ops [ab 1 (.box 63 (aa 0)),ab 2 (.ah (a3 false))]) (.seq (.ops [ab 6 (.aU (aa 1) 0),ab 7 (.aC (aa 6) (some 7)),ab 8 (.call 47 [.tmp 7]),ab 5 (.ah (aa 8)),ab 9 (.ext (aa 5) 0),ab 10 (.ext (aa 5) 1),ab 3 (.ah (aa 9)),ab 4 (.ah (aa 10))]) (.seq (.ops [ab 11 (.ah (aa 3)),ab 12 (.bin .eql (aa 11) (ay 0)),ab 2 (.ah (aa 12))]) .ret)))
def Vb : List b6 := [.tmp 2]
theorem anh : cP Tryz.prog rfl Tryz.f49 = some (Wj,Vb) := by kernel_rfl
def D7 : bZ := (.seq (.ops [ab 2 (.box 63 (aa 0)),ab 4 (.ah (a3 false))]) (.seq (.ops [ab 5 (.ah (aa 1)),ab 6 (.bin .geq (aa 5) (ay 1)),ab 7 (.ah (aa 6)),a8 8 7 true (.ah (aa 1)),a8 9 7 true (.aU (aa 2) 7),a8 10 7 true (.aC (aa 9) none),a8 11 7 true (.len (aa 10)),a8 12 7 true (.bin .leq (aa 8) (aa 11)),ab 13 (.pick (aa 7) (aa 12) (a3 false)),ab 14 (.ah (aa 13)),a8 15 14 true (.aC (aa 2) (some 9)),a8 16 14 true (.ah (aa 1)),a8 17 14 true (.bin .sub (aa 16) (ay 1)),a8 18 14 true (.call 54 [.tmp 15,.tmp 17]),a8 19 14 true (.not (aa 18)),ab 20 (.pick (aa 14) (aa 19) (a3 false)),ab 21 (.ah (aa 20)),a8 22 21 true (.aU (aa 2) 7),a8 23 21 true (.aC (aa 22) none),a8 24 21 true (.ah (aa 1)),a8 25 21 true (.bin .sub (aa 24) (ay 1)),a8 26 21 true (.dD (aa 23) (aa 25) 11),a8 27 21 true (.aC (aa 26) (some 11)),a8 28 21 true (.call 55 [.tmp 27]),a8 29 21 true (.not (aa 28)),ab 30 (.pick (aa 21) (aa 29) (a3 false)),ab 4 (.ah (aa 30))]) .ret))
def D3 : List b6 := [.tmp 4]
theorem ano : cP Tryz.prog rfl Tryz.f51 = some (D7,D3) := by kernel_rfl
def Wn : bZ := (.seq (.ops [ab 2 (.box 63 (aa 0)),ab 4 (.cw 63 [.au 1,.au 1,.au 3,.au 2,.mp 3,.au 1,.int .i64,.au 11,.au 1])]) (.seq (.ops [ab 6 (.aU (aa 2) 7),ab 7 (.aC (aa 6) none),ab 8 (.len (aa 7)),ab 9 (.mY (aa 8) 4 1 1 [.bool]),ab 5 (.ah (aa 9))]) (.seq (.ops [ab 10 (.ah (aa 5)),ab 11 (.aU (aa 2) 8),ab 12 (.aC (aa 11) none),ab 13 (.rO (aa 10) (aa 12) 1)]) (.seq (.ops [ab 14 (.ah (aa 5)),ab 15 (.ah (aa 1)),ab 16 (.bin .sub (aa 15) (ay 1)),ab 17 (.dD (aa 14) (aa 16) 1),aQ (.st 1 (aa 17) (a3 true))]) (.seq (.ops [ab 18 (.ah (aa 5)),ab 19 (.aU (aa 2) 8),aQ (.st 1 (aa 19) (aa 18))]) (.seq (.ops [ab 20 (.aC (aa 2) (some 9)),aQ (.st 9 (aa 4) (aa 20))]) .ret))))))
def Vf : List b6 := [(.eB 4 (some 9))]
theorem anr : cP Tryz.prog rfl Tryz.f53 = some (Wn,Vf) := by kernel_rfl
def V7 : bZ := (.seq (.ops [ab 2 (.ah (.const (.slice none 0 0)))]) (.seq (.ops [ab 3 (.ah (aa 0)),ab 4 (.ah (aa 0)),ab 5 (.len (aa 4)),ab 6 (.ah (aa 0)),ab 7 (.len (aa 6)),ab 8 (.k1 4 (aa 3) none (some (aa 5)) (some (aa 7))),ab 2 (.ah (aa 8))]) .ret))
def UZ : List b6 := [.tmp 2]
theorem am2 : cP Tryz.prog rfl Tryz.f94 = some (V7,UZ) := by kernel_rfl
end Go.Proofs.YtkmbcjnaaokilaaGreatDoor
