/-
  More operations that are told by a relation: a place of an array value, bits, shifts, a slice of an array.
-/
import Derived.Test.YtkmbcjnaaokilaaGreatDoorMK20
import Derived.Test.YtkmbcjnaaokilaaGreatDoorMC
namespace Go.Proofs.YtkmbcjnaaokilaaGreatDoor
set_option linter.unusedSimpArgs false
set_option linter.unusedVariables false
open Go.RowKit Go.Maps

theorem aa8 {t e : TypeId} {x j : Operand} {N : Nat} {k : IntKind} {n : Int} {cs : List av} {s : av} {i : TypeInfo} (hu : Tryz.prog.underlying t = some (.array N e)) (aq : Tryz.prog.info? e = some i) (af : i.size = 1)
  (aZ : ∀ w,(isAgg e).run Tryz.prog w = .ok false w) (bb : 0 ≤ n) (a7 : n < N) (ao : cs[n.toNat]? = some s) : rl (.index t x j) [x,j] [.agg cs,.v (.int k n)] s := vg fun o a w H ay aN br => by
 cases br with
 | cons ar br =>
  cases br with
  | cons aM br =>
   generalize aS : a.eval x = q at ar
   generalize lV : a.eval j = zf at aM
   cases aM
   cases ar with
   | agg ej _ =>
    obtain ⟨u,BE,ax⟩ := ej.get ao
    refine ⟨u,?_,ax⟩
    simp [execOp,ay,aS,lV,Instr.index,asIntOf,run_underlying hu,bb,a7,part,run_sizeOf aq,af,aZ,BE]
def gN (op : BinOp) (k : IntKind) (x y : Int) : Int :=
 match op with
 | .and => k.wrap (BitVec.ofInt k.bits x &&& BitVec.ofInt k.bits y).toNat
 | .or => k.wrap (BitVec.ofInt k.bits x ||| BitVec.ofInt k.bits y).toNat
 | .xor => k.wrap (BitVec.ofInt k.bits x ^^^ BitVec.ofInt k.bits y).toNat
 | .andNot => k.wrap (BitVec.ofInt k.bits x &&& ~~~BitVec.ofInt k.bits y).toNat
 | _ => 0
theorem tM {op : BinOp} {t t2 : TypeId} {x y : Operand} {k : IntKind} {p q : Int} (jX : op = .and ∨ op = .or ∨ op = .xor ∨ op = .andNot) : rl (.binOp op t x y t2) [x,y] [.v (.int k p),.v (.int k q)] (.v (.int k (gN op k p q))) := vg fun o a w H ay aN br => by
 cases br with
 | cons ar br =>
  cases br with
  | cons a1 br =>
   generalize aS : a.eval x = u at ar
   generalize lV : a.eval y = v at a1
   cases ar; cases a1
   refine ⟨_,?_,.v rfl⟩
   rcases jX with rfl | rfl | rfl | rfl <;> simp [execOp,ay,aS,lV,eqGuard,binOp,Op.intBits,gN]
end Go.Proofs.YtkmbcjnaaokilaaGreatDoor
namespace Go.Proofs.YtkmbcjnaaokilaaGreatDoor
open Go.RowKit

def Tv : bU := (.seq (.ops [ab 2 (.box 25 (aa 0)),ab 4 (.ah (aA 0))]) (.seq (.ops [ab 5 (.a3 (aa 2) 0),ab 6 (.aC (aa 5) none),ab 7 (.a3 (aa 2) 0),ab 8 (.aC (aa 7) none),ab 9 (.a3 (aa 2) 1),ab 10 (.aC (aa 9) none),ab 11 (.a3 (aa 2) 0),ab 12 (.aC (aa 11) none),ab 13 (.a3 (aa 2) 2),ab 14 (.aC (aa 13) none),ab 15 (.a3 (aa 2) 2),ab 16 (.aC (aa 15) none),ab 17 (.dE [.int .i64,.int .i64,.int .i64,.int .i64,.int .i64,.int .i64,.int .i64] [(0,(1,(aA 1))),(1,(1,(aa 6))),(2,(1,(aa 8))),(3,(1,(aa 10))),(4,(1,(aa 12))),(5,(1,(aa 14))),(6,(1,(aa 16)))]),ab 18 (.ah (aa 1)),ab 19 (.gen (.index 147 (aa 17) (aa 18)) [.tmp 17,.tmp 18]),ab 4 (.ah (aa 19))]) .ret))
def Sn : List b3 := [.tmp 4]
theorem akb : cJ Tryz.prog rfl Tryz.f79 = some (Tv,Sn) := by kernel_rfl
def FV : bU := (.seq (.ops [ab 2 (.box 25 (aa 0)),ab 4 (.ah (aA 0))]) (.seq (.hc 6 [ab 6 (.aC (aa 2) (some 3)),ab 7 (.ah (aa 1)),ab 8 (.call 79 [.tmp 6,.tmp 7]),ab 9 (.ah (aa 1)),ab 10 (.mi (.global 0) (aa 9) 1 7),ab 11 (.aC (aa 10) none),ab 12 (.bin .mul (aa 8) (aa 11)),ab 5 (.ah (aa 12))]) (.seq (.seq (.ops [ab 13 (.ah (aa 1)),ab 14 (.mi (.global 0) (aa 13) 1 7),ab 15 (.aC (aa 14) none),ab 16 (.bin .eql (aa 15) (aA 0)),ab 17 (.ah (aa 16)),a9 18 17 true (.aC (aa 2) (some 3)),a9 19 17 true (.ah (aa 1)),a9 20 17 true (.call 79 [.tmp 18,.tmp 19]),a9 21 17 true (.bin .gtr (aa 20) (aA 0)),ab 22 (.pick (aa 17) (aa 21) (a6 false))]) (.cond (aa 22) (.ops [ab 5 (.ah (aA 8))]) .skip)) (.seq (.ops [ab 23 (.ah (aa 5)),ab 24 (.bin .add (aa 23) (aA 8)),ab 25 (.bin .sub (aa 24) (aA 1)),ab 26 (.bin .quo (aa 25) (aA 8)),ab 27 (.bin .mul (aa 26) (aA 8)),ab 4 (.ah (aa 27))]) .ret))))
def FK : List b3 := [.tmp 4]
theorem aka : cJ Tryz.prog rfl Tryz.f78 = some (FV,FK) := by kernel_rfl
def Tu : bU := (.seq (.ops [ab 2 (.box 25 (aa 0)),ab 4 (.ah (aA 0))]) (.seq (.ops [ab 5 (.ah (aA 0))]) (.seq (.seq (.ops [ab 7 (.ah (aa 1)),ab 8 (.ah (aA 0))]) (.block 0 (.loop (.seq (.ops [ab 9 (.bin .lss (aa 8) (aa 7))]) (.seq (.cond (aa 9) .skip (.exit 0)) (.seq (.block 1 (.seq (.ops [ab 10 (.ah (aa 8)),ab 6 (.ah (aa 10))]) (.ops [ab 11 (.ah (aa 5)),ab 12 (.aC (aa 2) (some 3)),ab 13 (.ah (aa 6)),ab 14 (.call 78 [.tmp 12,.tmp 13]),ab 15 (.bin .add (aa 11) (aa 14)),ab 5 (.ah (aa 15))]))) (.ops [ab 16 (.bin .add (aa 8) (aA 1)),ab 8 (.ah (aa 16))]))))))) (.seq (.ops [ab 17 (.ah (aa 5)),ab 4 (.ah (aa 17))]) .ret))))
def Sm : List b3 := [.tmp 4]
theorem aj9 : cJ Tryz.prog rfl Tryz.f60 = some (Tu,Sm) := by kernel_rfl
def Lu : bU := (.seq (.ops [ab 6 (.ah (a6 false))]) (.seq (.ops [ab 7 (.ah (aa 0)),ab 8 (.ah (aa 1)),ab 9 (.bin .geq (aa 7) (aa 8)),ab 10 (.ah (aa 9)),a9 11 10 true (.ah (aa 0)),a9 12 10 true (.ah (aa 2)),a9 13 10 true (.bin .leq (aa 11) (aa 12)),ab 14 (.pick (aa 10) (aa 13) (a6 false)),ab 6 (.ah (aa 14))]) .ret))
def K2 : List b3 := [.tmp 6]
theorem aj3 : cJ Tryz.prog rfl Tryz.f77 = some (Lu,K2) := by kernel_rfl
def zn : bU := (.seq (.ops [ab 1 (.box 25 (aa 0)),ab 2 (.ah (aA 0))]) (.seq (.block 0 (.seq (.seq (.ops [ab 4 (.a3 (aa 1) 0),ab 5 (.aC (aa 4) none),ab 6 (.call 77 [.tmp 5,(aA 1),(aA 8)]),ab 7 (.not (aa 6)),ab 3 (.ah (aa 7))]) (.cond (aa 3) .skip (.seq (.ops [ab 8 (.a3 (aa 1) 1),ab 9 (.aC (aa 8) none),ab 10 (.call 77 [.tmp 9,(aA 1),(aA 2048)]),ab 11 (.not (aa 10)),ab 3 (.ah (aa 11))]) (.cond (aa 3) .skip (.ops [ab 12 (.a3 (aa 1) 2),ab 13 (.aC (aa 12) none),ab 14 (.call 77 [.tmp 13,(aA 0),(aA 64)]),ab 15 (.not (aa 14)),ab 3 (.ah (aa 15))]))))) (.cond (aa 3) (.seq (.ops [ab 2 (.ah (aA 3))]) .ret) (.seq (.ops [ab 17 (.aC (aa 1) (some 3)),ab 18 (.call 60 [.tmp 17,(aA 7)]),ab 19 (.bin .gtr (aa 18) (aA 4096)),ab 16 (.ah (aa 19))]) (.cond (aa 16) (.seq (.ops [ab 2 (.ah (aA 19))]) .ret) .skip))))) (.seq (.ops [ab 2 (.ah (aA 0))]) .ret)))
def zi : List b3 := [.tmp 2]
theorem aj6 : cJ Tryz.prog rfl Tryz.f59 = some (zn,zi) := by kernel_rfl
def Tw : bU := (.seq (.ops [ab 1 (.box 25 (aa 0)),ab 2 (.ah (a6 false))]) (.seq (.ops [ab 3 (.aC (aa 1) (some 3)),ab 4 (.call 59 [.tmp 3]),ab 5 (.bin .eql (aa 4) (aA 0)),ab 2 (.ah (aa 5))]) .ret))
def So : List b3 := [.tmp 2]
theorem akc : cJ Tryz.prog rfl Tryz.f29 = some (Tw,So) := by kernel_rfl
def Lv : bU := (.seq (.ops [ab 1 (.box 25 (aa 0)),ab 2 (.ah (aA 0))]) (.seq (.seq (.ops [ab 3 (.aC (aa 1) (some 3)),ab 4 (.call 29 [.tmp 3]),ab 5 (.not (aa 4))]) (.cond (aa 5) (.seq (.ops [ab 2 (.ah (aA 0))]) .ret) .skip)) (.seq (.ops [ab 6 (.aC (aa 1) (some 3)),ab 7 (.call 60 [.tmp 6,(aA 7)]),ab 2 (.ah (aa 7))]) .ret)))
def K3 : List b3 := [.tmp 2]
theorem akd : cJ Tryz.prog rfl Tryz.f30 = some (Lv,K3) := by kernel_rfl
def Cq : bU := (.seq (.ops [ab 4 (.box 25 (aa 0)),ab 8 (.ah (aA 0))]) (.seq (.seq (.ops [ab 9 (.aC (aa 4) (some 3)),ab 10 (.call 29 [.tmp 9]),ab 11 (.not (aa 10)),ab 12 (.ah (aa 11)),a9 13 12 false (.ah (aa 2)),a9 14 12 false (.bin .lss (aa 13) (aA 0)),ab 15 (.pick (aa 12) (a6 true) (aa 14)),ab 16 (.ah (aa 15)),a9 17 16 false (.ah (aa 2)),a9 18 16 false (.aC (aa 4) (some 3)),a9 19 16 false (.ah (aa 1)),a9 20 16 false (.call 79 [.tmp 18,.tmp 19]),a9 21 16 false (.bin .geq (aa 17) (aa 20)),ab 22 (.pick (aa 16) (a6 true) (aa 21))]) (.cond (aa 22) (.seq (.ops [ab 8 (.ah (aA (-1)))]) .ret) .skip)) (.seq (.hc 10 [ab 23 (.aC (aa 4) (some 3)),ab 24 (.ah (aa 1)),ab 25 (.call 60 [.tmp 23,.tmp 24]),ab 26 (.ah (aa 2)),ab 27 (.ah (aa 1)),ab 28 (.mi (.global 0) (aa 27) 1 7),ab 29 (.aC (aa 28) none),ab 30 (.bin .mul (aa 26) (aa 29)),ab 31 (.bin .add (aa 25) (aa 30)),ab 32 (.ah (aa 3)),ab 33 (.bin .add (aa 31) (aa 32)),ab 8 (.ah (aa 33))]) .ret)))
def Cj : List b3 := [.tmp 8]
theorem aj2 : cJ Tryz.prog rfl Tryz.f61 = some (Cq,Cj) := by kernel_rfl
def Ts : bU := (.seq (.ops [ab 1 (.box 25 (aa 0)),ab 2 (.ah (aA 0))]) (.seq (.ops [ab 3 (.aC (aa 1) (some 3)),ab 4 (.call 61 [.tmp 3,(aA 0),(aA 0),(aA 1)]),ab 2 (.ah (aa 4))]) .ret))
def Sk : List b3 := [.tmp 2]
theorem aj7 : cJ Tryz.prog rfl Tryz.f31 = some (Ts,Sk) := by kernel_rfl
def Tx : bU := (.seq (.ops [ab 2 (.box 25 (aa 0)),ab 4 (.ah (aA 0))]) (.seq (.ops [ab 5 (.aC (aa 2) (some 3)),ab 6 (.ah (aa 1)),ab 7 (.bin .sub (aa 6) (aA 1)),ab 8 (.call 61 [.tmp 5,(aA 4),.tmp 7,(aA 0)]),ab 4 (.ah (aa 8))]) .ret))
def Sp : List b3 := [.tmp 4]
theorem ake : cJ Tryz.prog rfl Tryz.f32 = some (Tx,Sp) := by kernel_rfl
def Tr : bU := (.seq (.ops [ab 2 (.box 25 (aa 0)),ab 4 (.ah (aA 0))]) (.seq (.ops [ab 5 (.aC (aa 2) (some 3)),ab 6 (.ah (aa 1)),ab 7 (.call 61 [.tmp 5,(aA 6),.tmp 6,(aA 0)]),ab 4 (.ah (aa 7))]) .ret))
def Sj : List b3 := [.tmp 4]
theorem aj5 : cJ Tryz.prog rfl Tryz.f33 = some (Tr,Sj) := by kernel_rfl
def Tq : bU := (.seq (.ops [ab 2 (.box 25 (aa 0)),ab 4 (.ah (aA 0)),ab 5 (.ah (aA 0))]) (.seq (.ops [ab 7 (.aC (aa 2) (some 3)),ab 8 (.ah (aa 1)),ab 9 (.ah (aa 1)),ab 10 (.bin .quo (aa 9) (aA 32)),ab 11 (.call 61 [.tmp 7,(aA 5),.tmp 8,.tmp 10]),ab 6 (.ah (aa 11))]) (.seq (.seq (.ops [ab 12 (.ah (aa 6)),ab 13 (.bin .lss (aa 12) (aA 0))]) (.cond (aa 13) (.seq (.ops [ab 4 (.ah (aA (-1))),ab 5 (.ah (aA 0))]) .ret) .skip)) (.seq (.hc 5 [ab 14 (.ah (aa 6)),ab 15 (.ah (aa 1)),ab 16 (.bin .rem (aa 15) (aA 32)),ab 17 (.gen (.binOp .shl 2 (aA 1) (aa 16) 3) [(aA 1),.tmp 16]),ab 4 (.ah (aa 14)),ab 5 (.ah (aa 17))]) .ret))))
def Si : List b3 := [.tmp 4,.tmp 5]
theorem aj4 : cJ Tryz.prog rfl Tryz.f38 = some (Tq,Si) := by kernel_rfl
def Tt : bU := (.seq (.ops [ab 1 (.box 25 (aa 0)),ab 2 (.ah (.const (.slice none 0 0)))]) (.seq (.seq (.ops [ab 6 (.aC (aa 1) (some 3)),ab 7 (.call 29 [.tmp 6]),ab 8 (.not (aa 7))]) (.cond (aa 8) (.seq (.ops [ab 2 (.ah (.const (.slice none 0 0)))]) .ret) .skip)) (.seq (.ops [ab 9 (.aC (aa 1) (some 3)),ab 10 (.call 30 [.tmp 9]),ab 11 (.mm (aa 10) 79 3 16 [.int .i64,.int .u32,.int .u32]),ab 3 (.ah (aa 11))]) (.seq (.ops [ab 12 (.ah (aa 3)),ab 13 (.aC (aa 1) (some 3)),ab 14 (.call 31 [.tmp 13]),ab 15 (.dU (aa 12) (aa 14) 3),ab 16 (.a3 (aa 15) 0),aR (.st 1 (aa 16) (aA 1))]) (.seq (.seq (.ops [ab 4 (.ah (aA 1))]) (.block 0 (.loop (.seq (.seq (.ops [ab 17 (.ah (aa 4)),ab 18 (.a3 (aa 1) 0),ab 19 (.aC (aa 18) none),ab 20 (.bin .leq (aa 17) (aa 19))]) (.cond (aa 20) .skip (.exit 0))) (.seq (.block 1 (.ops [ab 23 (.ah (aa 3)),ab 24 (.aC (aa 1) (some 3)),ab 25 (.ah (aa 4)),ab 26 (.call 32 [.tmp 24,.tmp 25]),ab 27 (.dU (aa 23) (aa 26) 3),ab 28 (.a3 (aa 27) 0),aR (.st 1 (aa 28) (aA 2))])) (.ops [ab 21 (.ah (aa 4)),ab 22 (.bin .add (aa 21) (aA 1)),ab 4 (.ah (aa 22))])))))) (.seq (.seq (.ops [ab 29 (.a3 (aa 1) 2),ab 30 (.aC (aa 29) none),ab 31 (.ah (aA 0))]) (.block 2 (.loop (.seq (.ops [ab 32 (.bin .lss (aa 31) (aa 30))]) (.seq (.cond (aa 32) .skip (.exit 2)) (.seq (.block 3 (.seq (.ops [ab 33 (.ah (aa 31)),ab 5 (.ah (aa 33))]) (.ops [ab 34 (.ah (aa 3)),ab 35 (.aC (aa 1) (some 3)),ab 36 (.ah (aa 5)),ab 37 (.call 33 [.tmp 35,.tmp 36]),ab 38 (.dU (aa 34) (aa 37) 3),ab 39 (.a3 (aa 38) 0),aR (.st 1 (aa 39) (aA 2))]))) (.ops [ab 40 (.bin .add (aa 31) (aA 1)),ab 31 (.ah (aa 40))]))))))) (.seq (.ops [ab 41 (.ah (aa 3)),ab 2 (.ah (aa 41))]) .ret)))))))
def Sl : List b3 := [.tmp 2]
theorem aj8 : cJ Tryz.prog rfl Tryz.f10 = some (Tt,Sl) := by kernel_rfl
end Go.Proofs.YtkmbcjnaaokilaaGreatDoor
