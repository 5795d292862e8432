/-
  More operations that are told by a relation: a place of an array value, bits, shifts, a slice of an array.
-/
import Derived.Test.YtkmbcjnaaokilaaGreatDoorMK15
import Derived.Test.YtkmbcjnaaokilaaGreatDoorMC
namespace Go.Proofs.YtkmbcjnaaokilaaGreatDoor
set_option linter.unusedSimpArgs false
set_option linter.unusedVariables false
open Go.RowKit Go.Maps

theorem aez {t e : TypeId} {x j : Operand} {N : Nat} {k : IntKind} {n : Int} {cs : List aw} {s : aw} {i : TypeInfo} (hu : Tryz.prog.underlying t = some (.array N e)) (aq : Tryz.prog.info? e = some i) (af : i.size = 1)
  (a5 : ∀ w,(isAgg e).run Tryz.prog w = .ok false w) (ba : 0 ≤ n) (a9 : n < N) (ao : cs[n.toNat]? = some s) : ss (.index t x j) [x,j] [.agg cs,.v (.int k n)] s := wU fun o a w H ax aO br => by
 cases br with
 | cons ar br =>
  cases br with
  | cons aN br =>
   generalize aT : a.eval x = q at ar
   generalize mA : a.eval j = m0 at aN
   cases aN
   cases ar with
   | agg fS _ =>
    obtain ⟨u,Dh,aA⟩ := fS.get ao
    refine ⟨u,?_,aA⟩
    simp [execOp,ax,aT,mA,Instr.index,asIntOf,run_underlying hu,ba,a9,part,run_sizeOf aq,af,a5,Dh]
def gV (op : BinOp) (k : IntKind) (x y : Int) : Int :=
 match op with
 | .and => k.wrap (BitVec.ofInt k.bits x &&& BitVec.ofInt k.bits y).toNat
 | .or => k.wrap (BitVec.ofInt k.bits x ||| BitVec.ofInt k.bits y).toNat
 | .xor => k.wrap (BitVec.ofInt k.bits x ^^^ BitVec.ofInt k.bits y).toNat
 | .andNot => k.wrap (BitVec.ofInt k.bits x &&& ~~~BitVec.ofInt k.bits y).toNat
 | _ => 0
theorem u5 {op : BinOp} {t t2 : TypeId} {x y : Operand} {k : IntKind} {p q : Int} (ki : op = .and ∨ op = .or ∨ op = .xor ∨ op = .andNot) : ss (.binOp op t x y t2) [x,y] [.v (.int k p),.v (.int k q)] (.v (.int k (gV op k p q))) := wU fun o a w H ax aO br => by
 cases br with
 | cons ar br =>
  cases br with
  | cons aV br =>
   generalize aT : a.eval x = u at ar
   generalize mA : a.eval y = v at aV
   cases ar; cases aV
   refine ⟨_,?_,.v rfl⟩
   rcases ki with rfl | rfl | rfl | rfl <;> simp [execOp,ax,aT,mA,eqGuard,binOp,Op.intBits,gV]
end Go.Proofs.YtkmbcjnaaokilaaGreatDoor
namespace Go.Proofs.YtkmbcjnaaokilaaGreatDoor
open Go.RowKit

def WL : bZ := (.seq (.ops [ab 2 (.box 25 (aa 0)),ab 4 (.ah (ay 0))]) (.seq (.ops [ab 5 (.aU (aa 2) 0),ab 6 (.aC (aa 5) none),ab 7 (.aU (aa 2) 0),ab 8 (.aC (aa 7) none),ab 9 (.aU (aa 2) 1),ab 10 (.aC (aa 9) none),ab 11 (.aU (aa 2) 0),ab 12 (.aC (aa 11) none),ab 13 (.aU (aa 2) 2),ab 14 (.aC (aa 13) none),ab 15 (.aU (aa 2) 2),ab 16 (.aC (aa 15) none),ab 17 (.dO [.int .i64,.int .i64,.int .i64,.int .i64,.int .i64,.int .i64,.int .i64] [(0,(1,(ay 1))),(1,(1,(aa 6))),(2,(1,(aa 8))),(3,(1,(aa 10))),(4,(1,(aa 12))),(5,(1,(aa 14))),(6,(1,(aa 16)))]),ab 18 (.ah (aa 1)),ab 19 (.gen (.index 147 (aa 17) (aa 18)) [.tmp 17,.tmp 18]),ab 4 (.ah (aa 19))]) .ret))
def VB : List b6 := [.tmp 4]
theorem anS : cP Tryz.prog rfl Tryz.f79 = some (WL,VB) := by kernel_rfl
def HS : bZ := (.seq (.ops [ab 2 (.box 25 (aa 0)),ab 4 (.ah (ay 0))]) (.seq (.g0 6 [ab 6 (.aC (aa 2) (some 3)),ab 7 (.ah (aa 1)),ab 8 (.call 79 [.tmp 6,.tmp 7]),ab 9 (.ah (aa 1)),ab 10 (.mV (.global 0) (aa 9) 1 7),ab 11 (.aC (aa 10) none),ab 12 (.bin .mul (aa 8) (aa 11)),ab 5 (.ah (aa 12))]) (.seq (.seq (.ops [ab 13 (.ah (aa 1)),ab 14 (.mV (.global 0) (aa 13) 1 7),ab 15 (.aC (aa 14) none),ab 16 (.bin .eql (aa 15) (ay 0)),ab 17 (.ah (aa 16)),a8 18 17 true (.aC (aa 2) (some 3)),a8 19 17 true (.ah (aa 1)),a8 20 17 true (.call 79 [.tmp 18,.tmp 19]),a8 21 17 true (.bin .gtr (aa 20) (ay 0)),ab 22 (.pick (aa 17) (aa 21) (a3 false))]) (.cond (aa 22) (.ops [ab 5 (.ah (ay 8))]) .skip)) (.seq (.ops [ab 23 (.ah (aa 5)),ab 24 (.bin .add (aa 23) (ay 8)),ab 25 (.bin .sub (aa 24) (ay 1)),ab 26 (.bin .quo (aa 25) (ay 8)),ab 27 (.bin .mul (aa 26) (ay 8)),ab 4 (.ah (aa 27))]) .ret))))
def HH : List b6 := [.tmp 4]
theorem anR : cP Tryz.prog rfl Tryz.f78 = some (HS,HH) := by kernel_rfl
def WK : bZ := (.seq (.ops [ab 2 (.box 25 (aa 0)),ab 4 (.ah (ay 0))]) (.seq (.ops [ab 5 (.ah (ay 0))]) (.seq (.seq (.ops [ab 7 (.ah (aa 1)),ab 8 (.ah (ay 0))]) (.block 0 (.loop (.seq (.ops [ab 9 (.bin .lss (aa 8) (aa 7))]) (.seq (.cond (aa 9) .skip (.exit 0)) (.seq (.block 1 (.seq (.ops [ab 10 (.ah (aa 8)),ab 6 (.ah (aa 10))]) (.ops [ab 11 (.ah (aa 5)),ab 12 (.aC (aa 2) (some 3)),ab 13 (.ah (aa 6)),ab 14 (.call 78 [.tmp 12,.tmp 13]),ab 15 (.bin .add (aa 11) (aa 14)),ab 5 (.ah (aa 15))]))) (.ops [ab 16 (.bin .add (aa 8) (ay 1)),ab 8 (.ah (aa 16))]))))))) (.seq (.ops [ab 17 (.ah (aa 5)),ab 4 (.ah (aa 17))]) .ret))))
def VA : List b6 := [.tmp 4]
theorem anQ : cP Tryz.prog rfl Tryz.f60 = some (WK,VA) := by kernel_rfl
def N8 : bZ := (.seq (.ops [ab 6 (.ah (a3 false))]) (.seq (.ops [ab 7 (.ah (aa 0)),ab 8 (.ah (aa 1)),ab 9 (.bin .geq (aa 7) (aa 8)),ab 10 (.ah (aa 9)),a8 11 10 true (.ah (aa 0)),a8 12 10 true (.ah (aa 2)),a8 13 10 true (.bin .leq (aa 11) (aa 12)),ab 14 (.pick (aa 10) (aa 13) (a3 false)),ab 6 (.ah (aa 14))]) .ret))
def NF : List b6 := [.tmp 6]
theorem anK : cP Tryz.prog rfl Tryz.f77 = some (N8,NF) := by kernel_rfl
def A0 : bZ := (.seq (.ops [ab 1 (.box 25 (aa 0)),ab 2 (.ah (ay 0))]) (.seq (.block 0 (.seq (.seq (.ops [ab 4 (.aU (aa 1) 0),ab 5 (.aC (aa 4) none),ab 6 (.call 77 [.tmp 5,(ay 1),(ay 8)]),ab 7 (.not (aa 6)),ab 3 (.ah (aa 7))]) (.cond (aa 3) .skip (.seq (.ops [ab 8 (.aU (aa 1) 1),ab 9 (.aC (aa 8) none),ab 10 (.call 77 [.tmp 9,(ay 1),(ay 2048)]),ab 11 (.not (aa 10)),ab 3 (.ah (aa 11))]) (.cond (aa 3) .skip (.ops [ab 12 (.aU (aa 1) 2),ab 13 (.aC (aa 12) none),ab 14 (.call 77 [.tmp 13,(ay 0),(ay 64)]),ab 15 (.not (aa 14)),ab 3 (.ah (aa 15))]))))) (.cond (aa 3) (.seq (.ops [ab 2 (.ah (ay 3))]) .ret) (.seq (.ops [ab 17 (.aC (aa 1) (some 3)),ab 18 (.call 60 [.tmp 17,(ay 7)]),ab 19 (.bin .gtr (aa 18) (ay 4096)),ab 16 (.ah (aa 19))]) (.cond (aa 16) (.seq (.ops [ab 2 (.ah (ay 19))]) .ret) .skip))))) (.seq (.ops [ab 2 (.ah (ay 0))]) .ret)))
def AW : List b6 := [.tmp 2]
theorem anN : cP Tryz.prog rfl Tryz.f59 = some (A0,AW) := by kernel_rfl
def WM : bZ := (.seq (.ops [ab 1 (.box 25 (aa 0)),ab 2 (.ah (a3 false))]) (.seq (.ops [ab 3 (.aC (aa 1) (some 3)),ab 4 (.call 59 [.tmp 3]),ab 5 (.bin .eql (aa 4) (ay 0)),ab 2 (.ah (aa 5))]) .ret))
def VC : List b6 := [.tmp 2]
theorem anT : cP Tryz.prog rfl Tryz.f29 = some (WM,VC) := by kernel_rfl
def N9 : bZ := (.seq (.ops [ab 1 (.box 25 (aa 0)),ab 2 (.ah (ay 0))]) (.seq (.seq (.ops [ab 3 (.aC (aa 1) (some 3)),ab 4 (.call 29 [.tmp 3]),ab 5 (.not (aa 4))]) (.cond (aa 5) (.seq (.ops [ab 2 (.ah (ay 0))]) .ret) .skip)) (.seq (.ops [ab 6 (.aC (aa 1) (some 3)),ab 7 (.call 60 [.tmp 6,(ay 7)]),ab 2 (.ah (aa 7))]) .ret)))
def NG : List b6 := [.tmp 2]
theorem anU : cP Tryz.prog rfl Tryz.f30 = some (N9,NG) := by kernel_rfl
def D8 : bZ := (.seq (.ops [ab 4 (.box 25 (aa 0)),ab 8 (.ah (ay 0))]) (.seq (.seq (.ops [ab 9 (.aC (aa 4) (some 3)),ab 10 (.call 29 [.tmp 9]),ab 11 (.not (aa 10)),ab 12 (.ah (aa 11)),a8 13 12 false (.ah (aa 2)),a8 14 12 false (.bin .lss (aa 13) (ay 0)),ab 15 (.pick (aa 12) (a3 true) (aa 14)),ab 16 (.ah (aa 15)),a8 17 16 false (.ah (aa 2)),a8 18 16 false (.aC (aa 4) (some 3)),a8 19 16 false (.ah (aa 1)),a8 20 16 false (.call 79 [.tmp 18,.tmp 19]),a8 21 16 false (.bin .geq (aa 17) (aa 20)),ab 22 (.pick (aa 16) (a3 true) (aa 21))]) (.cond (aa 22) (.seq (.ops [ab 8 (.ah (ay (-1)))]) .ret) .skip)) (.seq (.g0 10 [ab 23 (.aC (aa 4) (some 3)),ab 24 (.ah (aa 1)),ab 25 (.call 60 [.tmp 23,.tmp 24]),ab 26 (.ah (aa 2)),ab 27 (.ah (aa 1)),ab 28 (.mV (.global 0) (aa 27) 1 7),ab 29 (.aC (aa 28) none),ab 30 (.bin .mul (aa 26) (aa 29)),ab 31 (.bin .add (aa 25) (aa 30)),ab 32 (.ah (aa 3)),ab 33 (.bin .add (aa 31) (aa 32)),ab 8 (.ah (aa 33))]) .ret)))
def D4 : List b6 := [.tmp 8]
theorem anJ : cP Tryz.prog rfl Tryz.f61 = some (D8,D4) := by kernel_rfl
def WI : bZ := (.seq (.ops [ab 1 (.box 25 (aa 0)),ab 2 (.ah (ay 0))]) (.seq (.ops [ab 3 (.aC (aa 1) (some 3)),ab 4 (.call 61 [.tmp 3,(ay 0),(ay 0),(ay 1)]),ab 2 (.ah (aa 4))]) .ret))
def Vy : List b6 := [.tmp 2]
theorem anO : cP Tryz.prog rfl Tryz.f31 = some (WI,Vy) := by kernel_rfl
def WN : bZ := (.seq (.ops [ab 2 (.box 25 (aa 0)),ab 4 (.ah (ay 0))]) (.seq (.ops [ab 5 (.aC (aa 2) (some 3)),ab 6 (.ah (aa 1)),ab 7 (.bin .sub (aa 6) (ay 1)),ab 8 (.call 61 [.tmp 5,(ay 4),.tmp 7,(ay 0)]),ab 4 (.ah (aa 8))]) .ret))
def VD : List b6 := [.tmp 4]
theorem anV : cP Tryz.prog rfl Tryz.f32 = some (WN,VD) := by kernel_rfl
def WH : bZ := (.seq (.ops [ab 2 (.box 25 (aa 0)),ab 4 (.ah (ay 0))]) (.seq (.ops [ab 5 (.aC (aa 2) (some 3)),ab 6 (.ah (aa 1)),ab 7 (.call 61 [.tmp 5,(ay 6),.tmp 6,(ay 0)]),ab 4 (.ah (aa 7))]) .ret))
def Vx : List b6 := [.tmp 4]
theorem anM : cP Tryz.prog rfl Tryz.f33 = some (WH,Vx) := by kernel_rfl
def WG : bZ := (.seq (.ops [ab 2 (.box 25 (aa 0)),ab 4 (.ah (ay 0)),ab 5 (.ah (ay 0))]) (.seq (.ops [ab 7 (.aC (aa 2) (some 3)),ab 8 (.ah (aa 1)),ab 9 (.ah (aa 1)),ab 10 (.bin .quo (aa 9) (ay 32)),ab 11 (.call 61 [.tmp 7,(ay 5),.tmp 8,.tmp 10]),ab 6 (.ah (aa 11))]) (.seq (.seq (.ops [ab 12 (.ah (aa 6)),ab 13 (.bin .lss (aa 12) (ay 0))]) (.cond (aa 13) (.seq (.ops [ab 4 (.ah (ay (-1))),ab 5 (.ah (ay 0))]) .ret) .skip)) (.seq (.g0 5 [ab 14 (.ah (aa 6)),ab 15 (.ah (aa 1)),ab 16 (.bin .rem (aa 15) (ay 32)),ab 17 (.gen (.binOp .shl 2 (ay 1) (aa 16) 3) [(ay 1),.tmp 16]),ab 4 (.ah (aa 14)),ab 5 (.ah (aa 17))]) .ret))))
def Vw : List b6 := [.tmp 4,.tmp 5]
theorem anL : cP Tryz.prog rfl Tryz.f38 = some (WG,Vw) := by kernel_rfl
def WJ : bZ := (.seq (.ops [ab 1 (.box 25 (aa 0)),ab 2 (.ah (.const (.slice none 0 0)))]) (.seq (.seq (.ops [ab 6 (.aC (aa 1) (some 3)),ab 7 (.call 29 [.tmp 6]),ab 8 (.not (aa 7))]) (.cond (aa 8) (.seq (.ops [ab 2 (.ah (.const (.slice none 0 0)))]) .ret) .skip)) (.seq (.ops [ab 9 (.aC (aa 1) (some 3)),ab 10 (.call 30 [.tmp 9]),ab 11 (.mY (aa 10) 79 3 16 [.int .i64,.int .u32,.int .u32]),ab 3 (.ah (aa 11))]) (.seq (.ops [ab 12 (.ah (aa 3)),ab 13 (.aC (aa 1) (some 3)),ab 14 (.call 31 [.tmp 13]),ab 15 (.dD (aa 12) (aa 14) 3),ab 16 (.aU (aa 15) 0),aQ (.st 1 (aa 16) (ay 1))]) (.seq (.seq (.ops [ab 4 (.ah (ay 1))]) (.block 0 (.loop (.seq (.seq (.ops [ab 17 (.ah (aa 4)),ab 18 (.aU (aa 1) 0),ab 19 (.aC (aa 18) none),ab 20 (.bin .leq (aa 17) (aa 19))]) (.cond (aa 20) .skip (.exit 0))) (.seq (.block 1 (.ops [ab 23 (.ah (aa 3)),ab 24 (.aC (aa 1) (some 3)),ab 25 (.ah (aa 4)),ab 26 (.call 32 [.tmp 24,.tmp 25]),ab 27 (.dD (aa 23) (aa 26) 3),ab 28 (.aU (aa 27) 0),aQ (.st 1 (aa 28) (ay 2))])) (.ops [ab 21 (.ah (aa 4)),ab 22 (.bin .add (aa 21) (ay 1)),ab 4 (.ah (aa 22))])))))) (.seq (.seq (.ops [ab 29 (.aU (aa 1) 2),ab 30 (.aC (aa 29) none),ab 31 (.ah (ay 0))]) (.block 2 (.loop (.seq (.ops [ab 32 (.bin .lss (aa 31) (aa 30))]) (.seq (.cond (aa 32) .skip (.exit 2)) (.seq (.block 3 (.seq (.ops [ab 33 (.ah (aa 31)),ab 5 (.ah (aa 33))]) (.ops [ab 34 (.ah (aa 3)),ab 35 (.aC (aa 1) (some 3)),ab 36 (.ah (aa 5)),ab 37 (.call 33 [.tmp 35,.tmp 36]),ab 38 (.dD (aa 34) (aa 37) 3),ab 39 (.aU (aa 38) 0),aQ (.st 1 (aa 39) (ay 2))]))) (.ops [ab 40 (.bin .add (aa 31) (ay 1)),ab 31 (.ah (aa 40))]))))))) (.seq (.ops [ab 41 (.ah (aa 3)),ab 2 (.ah (aa 41))]) .ret)))))))
def Vz : List b6 := [.tmp 2]
theorem anP : cP Tryz.prog rfl Tryz.f10 = some (WJ,Vz) := by kernel_rfl
end Go.Proofs.YtkmbcjnaaokilaaGreatDoor
