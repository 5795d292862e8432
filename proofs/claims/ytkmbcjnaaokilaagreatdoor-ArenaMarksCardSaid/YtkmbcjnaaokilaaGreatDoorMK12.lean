/-
  More operations that are told by a relation: a place of an array value, bits, shifts, a slice of an array.
  The shadow code of functions, written by a program; each is what the translator makes of the function.
-/
import Derived.Test.YtkmbcjnaaokilaaGreatDoorMK5
import Derived.Test.YtkmbcjnaaokilaaGreatDoorMC
namespace Go.Proofs.YtkmbcjnaaokilaaGreatDoor
set_option linter.unusedSimpArgs false
set_option linter.unusedVariables false
open Go.RowKit Go.Maps

theorem gen_index1 {t e : TypeId} {x j : Operand} {N : Nat} {k : IntKind} {n : Int} {cs : List Sh} {s : Sh} {i : TypeInfo} (hu : Tryz.prog.underlying t = some (.array N e)) (hi : Tryz.prog.info? e = some i) (h1 : i.size = 1)
  (ha : ∀ w,(isAgg e).run Tryz.prog w = .ok false w) (h0 : 0 ≤ n) (hn : n < N) (hs : cs[n.toNat]? = some s) : GenRel (.index t x j) [x,j] [.agg cs,.v (.int k n)] s := gen_val fun o a w H ho hS hA => by
 cases hA with
 | cons hx hA =>
  cases hA with
  | cons hj hA =>
   generalize hq : a.eval x = q at hx
   generalize hqj : a.eval j = qj at hj
   cases hj
   cases hx with
   | agg hL _ =>
    obtain ⟨u,hu1,hr⟩ := hL.get hs
    refine ⟨u,?_,hr⟩
    simp [execOp,ho,hq,hqj,Instr.index,asIntOf,run_underlying hu,h0,hn,part,run_sizeOf hi,h1,ha,hu1]
def bitsI (op : BinOp) (k : IntKind) (x y : Int) : Int :=
 match op with
 | .and => k.wrap (BitVec.ofInt k.bits x &&& BitVec.ofInt k.bits y).toNat
 | .or => k.wrap (BitVec.ofInt k.bits x ||| BitVec.ofInt k.bits y).toNat
 | .xor => k.wrap (BitVec.ofInt k.bits x ^^^ BitVec.ofInt k.bits y).toNat
 | .andNot => k.wrap (BitVec.ofInt k.bits x &&& ~~~BitVec.ofInt k.bits y).toNat
 | _ => 0
theorem gen_bits {op : BinOp} {t t2 : TypeId} {x y : Operand} {k : IntKind} {p q : Int} (hop : op = .and ∨ op = .or ∨ op = .xor ∨ op = .andNot) : GenRel (.binOp op t x y t2) [x,y] [.v (.int k p),.v (.int k q)] (.v (.int k (bitsI op k p q))) := gen_val fun o a w H ho hS hA => by
 cases hA with
 | cons hx hA =>
  cases hA with
  | cons hy hA =>
   generalize hq : a.eval x = u at hx
   generalize hqj : a.eval y = v at hy
   cases hx; cases hy
   refine ⟨_,?_,.v rfl⟩
   rcases hop with rfl | rfl | rfl | rfl <;> simp [execOp,ho,hq,hqj,eqGuard,binOp,Op.intBits,bitsI]
end Go.Proofs.YtkmbcjnaaokilaaGreatDoor
namespace Go.Proofs.YtkmbcjnaaokilaaGreatDoor
open Go.RowKit

def sc_layMany : SC := (.seq (.ops [⟨some 2,none,.box 25 (.tmp 0)⟩,⟨some 4,none,.mv (.const (.int .i64 0))⟩]) (.seq (.ops [⟨some 5,none,.fa (.tmp 2) 0⟩,⟨some 6,none,.ld (.tmp 5) none⟩,⟨some 7,none,.fa (.tmp 2) 0⟩,⟨some 8,none,.ld (.tmp 7) none⟩,⟨some 9,none,.fa (.tmp 2) 1⟩,⟨some 10,none,.ld (.tmp 9) none⟩,⟨some 11,none,.fa (.tmp 2) 0⟩,⟨some 12,none,.ld (.tmp 11) none⟩,⟨some 13,none,.fa (.tmp 2) 2⟩,⟨some 14,none,.ld (.tmp 13) none⟩,⟨some 15,none,.fa (.tmp 2) 2⟩,⟨some 16,none,.ld (.tmp 15) none⟩,⟨some 17,none,.bld [.int .i64,.int .i64,.int .i64,.int .i64,.int .i64,.int .i64,.int .i64] [(0,(1,(.const (.int .i64 1)))),(1,(1,(.tmp 6))),(2,(1,(.tmp 8))),(3,(1,(.tmp 10))),(4,(1,(.tmp 12))),(5,(1,(.tmp 14))),(6,(1,(.tmp 16)))]⟩,⟨some 18,none,.mv (.tmp 1)⟩,⟨some 19,none,.gen (.index 147 (.tmp 17) (.tmp 18)) [.tmp 17,.tmp 18]⟩,⟨some 4,none,.mv (.tmp 19)⟩]) .ret))
def rv_layMany : List RV := [.tmp 4]
theorem tr_layMany : trFn Tryz.prog rfl Tryz.f79 = some (sc_layMany,rv_layMany) := by kernel_rfl
def sc_layLong : SC := (.seq (.ops [⟨some 2,none,.box 25 (.tmp 0)⟩,⟨some 4,none,.mv (.const (.int .i64 0))⟩]) (.seq (.drw 6 [⟨some 6,none,.ld (.tmp 2) (some 3)⟩,⟨some 7,none,.mv (.tmp 1)⟩,⟨some 8,none,.call 79 [.tmp 6,.tmp 7]⟩,⟨some 9,none,.mv (.tmp 1)⟩,⟨some 10,none,.ixp (.global 0) (.tmp 9) 1 7⟩,⟨some 11,none,.ld (.tmp 10) none⟩,⟨some 12,none,.bin .mul (.tmp 8) (.tmp 11)⟩,⟨some 5,none,.mv (.tmp 12)⟩]) (.seq (.seq (.ops [⟨some 13,none,.mv (.tmp 1)⟩,⟨some 14,none,.ixp (.global 0) (.tmp 13) 1 7⟩,⟨some 15,none,.ld (.tmp 14) none⟩,⟨some 16,none,.bin .eql (.tmp 15) (.const (.int .i64 0))⟩,⟨some 17,none,.mv (.tmp 16)⟩,⟨some 18,some (17,true),.ld (.tmp 2) (some 3)⟩,⟨some 19,some (17,true),.mv (.tmp 1)⟩,⟨some 20,some (17,true),.call 79 [.tmp 18,.tmp 19]⟩,⟨some 21,some (17,true),.bin .gtr (.tmp 20) (.const (.int .i64 0))⟩,⟨some 22,none,.pick (.tmp 17) (.tmp 21) (.const (.bool false))⟩]) (.cond (.tmp 22) (.ops [⟨some 5,none,.mv (.const (.int .i64 8))⟩]) .skip)) (.seq (.ops [⟨some 23,none,.mv (.tmp 5)⟩,⟨some 24,none,.bin .add (.tmp 23) (.const (.int .i64 8))⟩,⟨some 25,none,.bin .sub (.tmp 24) (.const (.int .i64 1))⟩,⟨some 26,none,.bin .quo (.tmp 25) (.const (.int .i64 8))⟩,⟨some 27,none,.bin .mul (.tmp 26) (.const (.int .i64 8))⟩,⟨some 4,none,.mv (.tmp 27)⟩]) .ret))))
def rv_layLong : List RV := [.tmp 4]
theorem tr_layLong : trFn Tryz.prog rfl Tryz.f78 = some (sc_layLong,rv_layLong) := by kernel_rfl
def sc_layFrom : SC := (.seq (.ops [⟨some 2,none,.box 25 (.tmp 0)⟩,⟨some 4,none,.mv (.const (.int .i64 0))⟩]) (.seq (.ops [⟨some 5,none,.mv (.const (.int .i64 0))⟩]) (.seq (.seq (.ops [⟨some 7,none,.mv (.tmp 1)⟩,⟨some 8,none,.mv (.const (.int .i64 0))⟩]) (.block 0 (.loop (.seq (.ops [⟨some 9,none,.bin .lss (.tmp 8) (.tmp 7)⟩]) (.seq (.cond (.tmp 9) .skip (.exit 0)) (.seq (.block 1 (.seq (.ops [⟨some 10,none,.mv (.tmp 8)⟩,⟨some 6,none,.mv (.tmp 10)⟩]) (.ops [⟨some 11,none,.mv (.tmp 5)⟩,⟨some 12,none,.ld (.tmp 2) (some 3)⟩,⟨some 13,none,.mv (.tmp 6)⟩,⟨some 14,none,.call 78 [.tmp 12,.tmp 13]⟩,⟨some 15,none,.bin .add (.tmp 11) (.tmp 14)⟩,⟨some 5,none,.mv (.tmp 15)⟩]))) (.ops [⟨some 16,none,.bin .add (.tmp 8) (.const (.int .i64 1))⟩,⟨some 8,none,.mv (.tmp 16)⟩]))))))) (.seq (.ops [⟨some 17,none,.mv (.tmp 5)⟩,⟨some 4,none,.mv (.tmp 17)⟩]) .ret))))
def rv_layFrom : List RV := [.tmp 4]
theorem tr_layFrom : trFn Tryz.prog rfl Tryz.f60 = some (sc_layFrom,rv_layFrom) := by kernel_rfl
def sc_layBetween : SC := (.seq (.ops [⟨some 6,none,.mv (.const (.bool false))⟩]) (.seq (.ops [⟨some 7,none,.mv (.tmp 0)⟩,⟨some 8,none,.mv (.tmp 1)⟩,⟨some 9,none,.bin .geq (.tmp 7) (.tmp 8)⟩,⟨some 10,none,.mv (.tmp 9)⟩,⟨some 11,some (10,true),.mv (.tmp 0)⟩,⟨some 12,some (10,true),.mv (.tmp 2)⟩,⟨some 13,some (10,true),.bin .leq (.tmp 11) (.tmp 12)⟩,⟨some 14,none,.pick (.tmp 10) (.tmp 13) (.const (.bool false))⟩,⟨some 6,none,.mv (.tmp 14)⟩]) .ret))
def rv_layBetween : List RV := [.tmp 6]
theorem tr_layBetween : trFn Tryz.prog rfl Tryz.f77 = some (sc_layBetween,rv_layBetween) := by kernel_rfl
def sc_layCheck : SC := (.seq (.ops [⟨some 1,none,.box 25 (.tmp 0)⟩,⟨some 2,none,.mv (.const (.int .i64 0))⟩]) (.seq (.block 0 (.seq (.seq (.ops [⟨some 4,none,.fa (.tmp 1) 0⟩,⟨some 5,none,.ld (.tmp 4) none⟩,⟨some 6,none,.call 77 [.tmp 5,(.const (.int .i64 1)),(.const (.int .i64 8))]⟩,⟨some 7,none,.not (.tmp 6)⟩,⟨some 3,none,.mv (.tmp 7)⟩]) (.cond (.tmp 3) .skip (.seq (.ops [⟨some 8,none,.fa (.tmp 1) 1⟩,⟨some 9,none,.ld (.tmp 8) none⟩,⟨some 10,none,.call 77 [.tmp 9,(.const (.int .i64 1)),(.const (.int .i64 2048))]⟩,⟨some 11,none,.not (.tmp 10)⟩,⟨some 3,none,.mv (.tmp 11)⟩]) (.cond (.tmp 3) .skip (.ops [⟨some 12,none,.fa (.tmp 1) 2⟩,⟨some 13,none,.ld (.tmp 12) none⟩,⟨some 14,none,.call 77 [.tmp 13,(.const (.int .i64 0)),(.const (.int .i64 64))]⟩,⟨some 15,none,.not (.tmp 14)⟩,⟨some 3,none,.mv (.tmp 15)⟩]))))) (.cond (.tmp 3) (.seq (.ops [⟨some 2,none,.mv (.const (.int .i64 3))⟩]) .ret) (.seq (.ops [⟨some 17,none,.ld (.tmp 1) (some 3)⟩,⟨some 18,none,.call 60 [.tmp 17,(.const (.int .i64 7))]⟩,⟨some 19,none,.bin .gtr (.tmp 18) (.const (.int .i64 4096))⟩,⟨some 16,none,.mv (.tmp 19)⟩]) (.cond (.tmp 16) (.seq (.ops [⟨some 2,none,.mv (.const (.int .i64 19))⟩]) .ret) .skip))))) (.seq (.ops [⟨some 2,none,.mv (.const (.int .i64 0))⟩]) .ret)))
def rv_layCheck : List RV := [.tmp 2]
theorem tr_layCheck : trFn Tryz.prog rfl Tryz.f59 = some (sc_layCheck,rv_layCheck) := by kernel_rfl
def sc_layRight : SC := (.seq (.ops [⟨some 1,none,.box 25 (.tmp 0)⟩,⟨some 2,none,.mv (.const (.bool false))⟩]) (.seq (.ops [⟨some 3,none,.ld (.tmp 1) (some 3)⟩,⟨some 4,none,.call 59 [.tmp 3]⟩,⟨some 5,none,.bin .eql (.tmp 4) (.const (.int .i64 0))⟩,⟨some 2,none,.mv (.tmp 5)⟩]) .ret))
def rv_layRight : List RV := [.tmp 2]
theorem tr_layRight : trFn Tryz.prog rfl Tryz.f29 = some (sc_layRight,rv_layRight) := by kernel_rfl
def sc_laySize : SC := (.seq (.ops [⟨some 1,none,.box 25 (.tmp 0)⟩,⟨some 2,none,.mv (.const (.int .i64 0))⟩]) (.seq (.seq (.ops [⟨some 3,none,.ld (.tmp 1) (some 3)⟩,⟨some 4,none,.call 29 [.tmp 3]⟩,⟨some 5,none,.not (.tmp 4)⟩]) (.cond (.tmp 5) (.seq (.ops [⟨some 2,none,.mv (.const (.int .i64 0))⟩]) .ret) .skip)) (.seq (.ops [⟨some 6,none,.ld (.tmp 1) (some 3)⟩,⟨some 7,none,.call 60 [.tmp 6,(.const (.int .i64 7))]⟩,⟨some 2,none,.mv (.tmp 7)⟩]) .ret)))
def rv_laySize : List RV := [.tmp 2]
theorem tr_laySize : trFn Tryz.prog rfl Tryz.f30 = some (sc_laySize,rv_laySize) := by kernel_rfl
def sc_layAt : SC := (.seq (.ops [⟨some 4,none,.box 25 (.tmp 0)⟩,⟨some 8,none,.mv (.const (.int .i64 0))⟩]) (.seq (.seq (.ops [⟨some 9,none,.ld (.tmp 4) (some 3)⟩,⟨some 10,none,.call 29 [.tmp 9]⟩,⟨some 11,none,.not (.tmp 10)⟩,⟨some 12,none,.mv (.tmp 11)⟩,⟨some 13,some (12,false),.mv (.tmp 2)⟩,⟨some 14,some (12,false),.bin .lss (.tmp 13) (.const (.int .i64 0))⟩,⟨some 15,none,.pick (.tmp 12) (.const (.bool true)) (.tmp 14)⟩,⟨some 16,none,.mv (.tmp 15)⟩,⟨some 17,some (16,false),.mv (.tmp 2)⟩,⟨some 18,some (16,false),.ld (.tmp 4) (some 3)⟩,⟨some 19,some (16,false),.mv (.tmp 1)⟩,⟨some 20,some (16,false),.call 79 [.tmp 18,.tmp 19]⟩,⟨some 21,some (16,false),.bin .geq (.tmp 17) (.tmp 20)⟩,⟨some 22,none,.pick (.tmp 16) (.const (.bool true)) (.tmp 21)⟩]) (.cond (.tmp 22) (.seq (.ops [⟨some 8,none,.mv (.const (.int .i64 (-1)))⟩]) .ret) .skip)) (.seq (.drw 10 [⟨some 23,none,.ld (.tmp 4) (some 3)⟩,⟨some 24,none,.mv (.tmp 1)⟩,⟨some 25,none,.call 60 [.tmp 23,.tmp 24]⟩,⟨some 26,none,.mv (.tmp 2)⟩,⟨some 27,none,.mv (.tmp 1)⟩,⟨some 28,none,.ixp (.global 0) (.tmp 27) 1 7⟩,⟨some 29,none,.ld (.tmp 28) none⟩,⟨some 30,none,.bin .mul (.tmp 26) (.tmp 29)⟩,⟨some 31,none,.bin .add (.tmp 25) (.tmp 30)⟩,⟨some 32,none,.mv (.tmp 3)⟩,⟨some 33,none,.bin .add (.tmp 31) (.tmp 32)⟩,⟨some 8,none,.mv (.tmp 33)⟩]) .ret)))
def rv_layAt : List RV := [.tmp 8]
theorem tr_layAt : trFn Tryz.prog rfl Tryz.f61 = some (sc_layAt,rv_layAt) := by kernel_rfl
def sc_layEra : SC := (.seq (.ops [⟨some 1,none,.box 25 (.tmp 0)⟩,⟨some 2,none,.mv (.const (.int .i64 0))⟩]) (.seq (.ops [⟨some 3,none,.ld (.tmp 1) (some 3)⟩,⟨some 4,none,.call 61 [.tmp 3,(.const (.int .i64 0)),(.const (.int .i64 0)),(.const (.int .i64 1))]⟩,⟨some 2,none,.mv (.tmp 4)⟩]) .ret))
def rv_layEra : List RV := [.tmp 2]
theorem tr_layEra : trFn Tryz.prog rfl Tryz.f31 = some (sc_layEra,rv_layEra) := by kernel_rfl
def sc_laySlot : SC := (.seq (.ops [⟨some 2,none,.box 25 (.tmp 0)⟩,⟨some 4,none,.mv (.const (.int .i64 0))⟩]) (.seq (.ops [⟨some 5,none,.ld (.tmp 2) (some 3)⟩,⟨some 6,none,.mv (.tmp 1)⟩,⟨some 7,none,.bin .sub (.tmp 6) (.const (.int .i64 1))⟩,⟨some 8,none,.call 61 [.tmp 5,(.const (.int .i64 4)),.tmp 7,(.const (.int .i64 0))]⟩,⟨some 4,none,.mv (.tmp 8)⟩]) .ret))
def rv_laySlot : List RV := [.tmp 4]
theorem tr_laySlot : trFn Tryz.prog rfl Tryz.f32 = some (sc_laySlot,rv_laySlot) := by kernel_rfl
def sc_layBlock : SC := (.seq (.ops [⟨some 2,none,.box 25 (.tmp 0)⟩,⟨some 4,none,.mv (.const (.int .i64 0))⟩]) (.seq (.ops [⟨some 5,none,.ld (.tmp 2) (some 3)⟩,⟨some 6,none,.mv (.tmp 1)⟩,⟨some 7,none,.call 61 [.tmp 5,(.const (.int .i64 6)),.tmp 6,(.const (.int .i64 0))]⟩,⟨some 4,none,.mv (.tmp 7)⟩]) .ret))
def rv_layBlock : List RV := [.tmp 4]
theorem tr_layBlock : trFn Tryz.prog rfl Tryz.f33 = some (sc_layBlock,rv_layBlock) := by kernel_rfl
def sc_layBits : SC := (.seq (.ops [⟨some 2,none,.box 25 (.tmp 0)⟩,⟨some 4,none,.mv (.const (.int .i64 0))⟩,⟨some 5,none,.mv (.const (.int .i64 0))⟩]) (.seq (.ops [⟨some 7,none,.ld (.tmp 2) (some 3)⟩,⟨some 8,none,.mv (.tmp 1)⟩,⟨some 9,none,.mv (.tmp 1)⟩,⟨some 10,none,.bin .quo (.tmp 9) (.const (.int .i64 32))⟩,⟨some 11,none,.call 61 [.tmp 7,(.const (.int .i64 5)),.tmp 8,.tmp 10]⟩,⟨some 6,none,.mv (.tmp 11)⟩]) (.seq (.seq (.ops [⟨some 12,none,.mv (.tmp 6)⟩,⟨some 13,none,.bin .lss (.tmp 12) (.const (.int .i64 0))⟩]) (.cond (.tmp 13) (.seq (.ops [⟨some 4,none,.mv (.const (.int .i64 (-1)))⟩,⟨some 5,none,.mv (.const (.int .i64 0))⟩]) .ret) .skip)) (.seq (.drw 5 [⟨some 14,none,.mv (.tmp 6)⟩,⟨some 15,none,.mv (.tmp 1)⟩,⟨some 16,none,.bin .rem (.tmp 15) (.const (.int .i64 32))⟩,⟨some 17,none,.gen (.binOp .shl 2 (.const (.int .i64 1)) (.tmp 16) 3) [(.const (.int .i64 1)),.tmp 16]⟩,⟨some 4,none,.mv (.tmp 14)⟩,⟨some 5,none,.mv (.tmp 17)⟩]) .ret))))
def rv_layBits : List RV := [.tmp 4,.tmp 5]
theorem tr_layBits : trFn Tryz.prog rfl Tryz.f38 = some (sc_layBits,rv_layBits) := by kernel_rfl
def sc_layFirst : SC := (.seq (.ops [⟨some 1,none,.box 25 (.tmp 0)⟩,⟨some 2,none,.mv (.const (.slice none 0 0))⟩]) (.seq (.seq (.ops [⟨some 6,none,.ld (.tmp 1) (some 3)⟩,⟨some 7,none,.call 29 [.tmp 6]⟩,⟨some 8,none,.not (.tmp 7)⟩]) (.cond (.tmp 8) (.seq (.ops [⟨some 2,none,.mv (.const (.slice none 0 0))⟩]) .ret) .skip)) (.seq (.ops [⟨some 9,none,.ld (.tmp 1) (some 3)⟩,⟨some 10,none,.call 30 [.tmp 9]⟩,⟨some 11,none,.mks (.tmp 10) 79 3 16 [.int .i64,.int .u32,.int .u32]⟩,⟨some 3,none,.mv (.tmp 11)⟩]) (.seq (.ops [⟨some 12,none,.mv (.tmp 3)⟩,⟨some 13,none,.ld (.tmp 1) (some 3)⟩,⟨some 14,none,.call 31 [.tmp 13]⟩,⟨some 15,none,.ixa (.tmp 12) (.tmp 14) 3⟩,⟨some 16,none,.fa (.tmp 15) 0⟩,⟨none,none,.st 1 (.tmp 16) (.const (.int .i64 1))⟩]) (.seq (.seq (.ops [⟨some 4,none,.mv (.const (.int .i64 1))⟩]) (.block 0 (.loop (.seq (.seq (.ops [⟨some 17,none,.mv (.tmp 4)⟩,⟨some 18,none,.fa (.tmp 1) 0⟩,⟨some 19,none,.ld (.tmp 18) none⟩,⟨some 20,none,.bin .leq (.tmp 17) (.tmp 19)⟩]) (.cond (.tmp 20) .skip (.exit 0))) (.seq (.block 1 (.ops [⟨some 23,none,.mv (.tmp 3)⟩,⟨some 24,none,.ld (.tmp 1) (some 3)⟩,⟨some 25,none,.mv (.tmp 4)⟩,⟨some 26,none,.call 32 [.tmp 24,.tmp 25]⟩,⟨some 27,none,.ixa (.tmp 23) (.tmp 26) 3⟩,⟨some 28,none,.fa (.tmp 27) 0⟩,⟨none,none,.st 1 (.tmp 28) (.const (.int .i64 2))⟩])) (.ops [⟨some 21,none,.mv (.tmp 4)⟩,⟨some 22,none,.bin .add (.tmp 21) (.const (.int .i64 1))⟩,⟨some 4,none,.mv (.tmp 22)⟩])))))) (.seq (.seq (.ops [⟨some 29,none,.fa (.tmp 1) 2⟩,⟨some 30,none,.ld (.tmp 29) none⟩,⟨some 31,none,.mv (.const (.int .i64 0))⟩]) (.block 2 (.loop (.seq (.ops [⟨some 32,none,.bin .lss (.tmp 31) (.tmp 30)⟩]) (.seq (.cond (.tmp 32) .skip (.exit 2)) (.seq (.block 3 (.seq (.ops [⟨some 33,none,.mv (.tmp 31)⟩,⟨some 5,none,.mv (.tmp 33)⟩]) (.ops [⟨some 34,none,.mv (.tmp 3)⟩,⟨some 35,none,.ld (.tmp 1) (some 3)⟩,⟨some 36,none,.mv (.tmp 5)⟩,⟨some 37,none,.call 33 [.tmp 35,.tmp 36]⟩,⟨some 38,none,.ixa (.tmp 34) (.tmp 37) 3⟩,⟨some 39,none,.fa (.tmp 38) 0⟩,⟨none,none,.st 1 (.tmp 39) (.const (.int .i64 2))⟩]))) (.ops [⟨some 40,none,.bin .add (.tmp 31) (.const (.int .i64 1))⟩,⟨some 31,none,.mv (.tmp 40)⟩]))))))) (.seq (.ops [⟨some 41,none,.mv (.tmp 3)⟩,⟨some 2,none,.mv (.tmp 41)⟩]) .ret)))))))
def rv_layFirst : List RV := [.tmp 2]
theorem tr_layFirst : trFn Tryz.prog rfl Tryz.f10 = some (sc_layFirst,rv_layFirst) := by kernel_rfl
end Go.Proofs.YtkmbcjnaaokilaaGreatDoor
