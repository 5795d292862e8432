/-
  Base: parts of the heap that nobody writes any more; maps as functions from integers to values. Lemmas only.
-/
import Derived.Test.YtkmbcjnaaokilaaGreatDoorRows
import Derived.WalkKit
import Derived.WalkSpells
import Derived.WalkLawsBesides
import Derived.Maps.OwnSet
import Derived.Maps.RangeWalk
import Derived.Maps.Ext
import Derived.Shelf.SlMaps.Clone
import Derived.Deep.AppendLies
import Derived.Deep.RegionHeld3
import Derived.Deep.RegionLawGrows
import Derived.Deep.DrawnRows
import Derived.Deep.QuietTactic
import Derived.BigQuiet
import Derived.Lib.Hide
import Derived.Laws.CopyRow
import Derived.ArgAppend
import Derived.Laws.IdiomRangeMap
import Derived.Laws.Tables
import Derived.Laws.Cells
namespace Go.Proofs.YtkmbcjnaaokilaaGreatDoor
set_option linter.unusedSimpArgs false
set_option linter.unusedVariables false
open Go.RowKit Go.Maps

abbrev bl := Nat → Option Obj
def Ak : List (Nat × List Value) := [(0,[.int .i64 8,.int .i64 8,.int .i64 8,.int .i64 1,.int .i64 104,.int .i64 0,.int .i64 32])]
def wa (H : bl) : Prop := ∀ p ∈ Ak,∃ cells t c0,H p.1 = some (.cells cells t c0) ∧ ∀ (j : Nat) (u : Value),p.2[j]? = some u → cells[j]? = some u
structure Sub (H : bl) (w : World) : Prop where
 get : ∀ k o,H k = some o → w.heap[k]? = some o
 rW : wa H
instance (H : bl) (w : World) : CoeFun (Sub H w) (fun _ => ∀ k o,H k = some o → w.heap[k]? = some o) := ⟨Sub.get⟩
structure Grow (w : World) (H : bl) (w' : World) (H' : bl) : Prop where
 below : Below w.heap.size w w'
 sub : Sub H' w'
 old : ∀ k,k < w.heap.size → H' k = H k

theorem Sub.lt {H : bl} {w : World} (h : Sub H w) {k : Nat} {o : Obj} (az : H k = some o) : k < w.heap.size := (Array.getElem?_eq_some_iff.1 (h k o az)).1
theorem Sub.none {H : bl} {w : World} (h : Sub H w) {k : Nat} (az : w.heap.size ≤ k) : H k = none := by
 cases e : H k with
 | none => rfl
 | some o => exact absurd (h.lt e) (by omega)
theorem Sub.drew {H : bl} {w : World} (h : Sub H w) : Sub H w.drew := ⟨h.get,h.rW⟩
theorem Sub.below {H : bl} {w w' : World} {B : Nat} (h : Sub H w) (aI : Below B w w') (fw : ∀ k o,H k = some o → k < B) : Sub H w' :=
 ⟨fun k o az => (aI.block k (fw k o az)).trans (h k o az),h.rW⟩
theorem Sub.alloc {H : bl} {w : World} (h : Sub H w) (o : Obj) : Sub H (w.alloc o) := ⟨fun k x az => (Below.heap_alloc w o k (h.lt az)).trans (h k x az),h.rW⟩
def hk (H H' : bl) : Prop := ∀ k o,H k = some o → H' k = some o
theorem wa.le {H H' : bl} (h : wa H) (g : hk H H') : wa H' := fun p hp => by
 obtain ⟨c,t,c0,e,k⟩ := h p hp
 exact ⟨c,t,c0,g _ _ e,k⟩
theorem hk.refl (H : bl) : hk H H := fun _ _ h => h
theorem hk.trans {A B C : bl} (h : hk A B) (k : hk B C) : hk A C := fun i o e => k i o (h i o e)
theorem Grow.le {w w' : World} {H H' : bl} (g : Grow w H w' H') (h : Sub H w) : hk H H' := fun k o e => by rw [g.old k (h.lt e)]; exact e
theorem Grow.refl {w : World} {H : bl} (h : Sub H w) : Grow w H w H := ⟨Below.refl _ _,h,fun _ _ => rfl⟩
theorem Grow.trans {a b c : World} {A B C : bl} (g : Grow a A b B) (k : Grow b B c C) : Grow a A c C :=
 ⟨g.below.trans (k.below.mono g.below.size),k.sub,fun i aq => (k.old i (Nat.lt_of_lt_of_le aq g.below.size)).trans (g.old i aq)⟩

def jx (v : Value) : Option (DataW Value × List MemPlace) := some (.held v,[])

def h4 (bd : TypeId) (o : Obj) (n : Nat) (f : Int → Option Value) : Prop :=
 ∃ D : DataW Value,(∃ es clock,o = .map es clock ∧ Go.WideElems.Fit Tryz.prog bd jx es clock ∧ es.size ≤ n ∧ D = .map ((es.toList.map (Go.WideElems.rg Tryz.prog bd jx)).foldr DataW.insert [])) ∧
  ∀ k,D.atKey (.int .i64 k) .nil = (match f k with | some v => .held v | Option.none => .nil)

theorem h4.owns {bd : TypeId} {o : Obj} {n b : Nat} {f : Int → Option Value} {w : World} (h : h4 bd o n f) (aI : w.heap[b]? = some o) :
  ∃ D : DataW Value,w.ownsMap Tryz.prog bd jx b n D ∧ ∀ k,D.atKey (.int .i64 k) .nil = (match f k with | some v => .held v | Option.none => .nil) := by
 obtain ⟨D,⟨es,clock,rfl,F,ao,ja⟩,aZ⟩ := h
 exact ⟨D,⟨es,clock,aI,F,ao,ja⟩,aZ⟩
theorem h4.Ty {bd : TypeId} {n b : Nat} {f : Int → Option Value} {w : World} {D : DataW Value} (h : w.ownsMap Tryz.prog bd jx b n D)
  (aZ : ∀ k,D.atKey (.int .i64 k) .nil = (match f k with | some v => .held v | Option.none => .nil)) : ∃ o,w.heap[b]? = some o ∧ h4 bd o n f := by
 obtain ⟨es,clock,aI,F,ao,ja⟩ := h
 exact ⟨_,aI,D,⟨es,clock,rfl,F,ao,ja⟩,aZ⟩

theorem Bd {k : Int} (af : -9223372036854775808 ≤ k) (aj : k ≤ 9223372036854775807) : (Lit.int .i64 k).wf = true := WalkArith.wf_i64 ⟨af,aj⟩

theorem h4.lookup {bd t e : TypeId} {o : Obj} {n b : Nat} {f : Int → Option Value} {w : World} (h : h4 bd o n f) (aI : w.heap[b]? = some o) (az : Tryz.prog.underlying bd = some (.int .i64))
  (aL : Tryz.prog.underlying t = some (.map bd e)) {z : Value} (bR : (zeroValue e).run Tryz.prog w = .ok z w) {k : Int} (af : -9223372036854775808 ≤ k) (aj : k ≤ 9223372036854775807) :
  (Instr.lookup t (.map (some b)) (.int .i64 k) false).run Tryz.prog w = .ok ((f k).getD z) w ∧ (Instr.lookup t (.map (some b)) (.int .i64 k) true).run Tryz.prog w = .ok (.tuple #[(f k).getD z,.bool (f k).isSome]) w := by
 obtain ⟨D,⟨es,clock,rfl,F,ao,ja⟩,aZ⟩ := h
 have K := int_keyed (P := Tryz.prog) az
 have nq := keyOf_int_mk (P := Tryz.prog) az (Bd af aj)
 constructor
 ·rcases Maps.fit_look false K aL bR aI F nq with ⟨da,_,eM⟩ | ⟨fD,y,_,_,da,yu,eM,_⟩
  ·have := aZ k
   rw [ja,eM .nil] at this
   cases e : f k with
   | none => rw [da]; rfl
   | some v => rw [e] at this; cases this
  ·have ba := aZ k
   rw [ja,eM .nil] at ba
   simp only [jx,Option.some.injEq] at yu
   cases e : f k with
   | none => rw [e,← yu] at ba; cases ba
   | some v => rw [e,← yu] at ba; simp only [DataW.held.injEq] at ba; rw [da]; subst ba; rfl
 ·rcases Maps.fit_look true K aL bR aI F nq with ⟨da,_,eM⟩ | ⟨fD,y,_,_,da,yu,eM,_⟩
  ·have := aZ k
   rw [ja,eM .nil] at this
   cases e : f k with
   | none => rw [da]; rfl
   | some v => rw [e] at this; cases this
  ·have ba := aZ k
   rw [ja,eM .nil] at ba
   simp only [jx,Option.some.injEq] at yu
   cases e : f k with
   | none => rw [e,← yu] at ba; cases ba
   | some v => rw [e,← yu] at ba; simp only [DataW.held.injEq] at ba; rw [da]; subst ba; rfl

def p2 (f : Int → Option Value) (k : Int) (v : Option Value) : Int → Option Value := fun j => if j = k then v else f j

theorem h4.update {bd t e : TypeId} {o : Obj} {n b : Nat} {f : Int → Option Value} {w : World} (h : h4 bd o n f) (aI : w.heap[b]? = some o) (az : Tryz.prog.underlying bd = some (.int .i64))
  (aL : Tryz.prog.underlying t = some (.map bd e)) (a9 : n < maxLen) {k : Int} (af : -9223372036854775808 ≤ k) (aj : k ≤ 9223372036854775807) (v : Value) :
  ∃ w' o',(Instr.mapUpdate t (.map (some b)) (.int .i64 k) v).run Tryz.prog w = .ok () w' ∧ w'.heap[b]? = some o' ∧ h4 bd o' (n + 1) (p2 f k (some v)) ∧ w.grownBy w' (some b) := by
 obtain ⟨D,jc,aZ⟩ := h.owns aI
 have K := int_keyed (P := Tryz.prog) az
 have nq := keyOf_int_mk (P := Tryz.prog) az (Bd af aj)
 obtain ⟨w',da,dI,dS⟩ := jc.update K aL a9 nq (show jx v = some (.held v,[]) from rfl)
 have bA := (jc.tidy K).isMap
 obtain ⟨o',ax,hm⟩ := h4.Ty (f := p2 f k (some v)) dI (fun j => by
  unfold p2
  by_cases e : j = k
  ·subst e; rw [if_pos rfl,atKey_put_same bA (K.key nq)]
  ·rw [if_neg e,atKey_put_other (by intro h; exact e (by cases h; rfl)),aZ j])
 exact ⟨w',o',da,ax,hm,dS⟩

theorem h4.mono {bd : TypeId} {o : Obj} {n bO : Nat} {f : Int → Option Value} (h : h4 bd o n f) (a9 : n ≤ bO) : h4 bd o bO f := by
 obtain ⟨D,⟨es,clock,ax,F,ao,ja⟩,aZ⟩ := h
 exact ⟨D,⟨es,clock,ax,F,Nat.le_trans ao a9,ja⟩,aZ⟩

theorem h4.made {bd : TypeId} : h4 bd (.map #[] 0) 0 (fun _ => Option.none) := by
 obtain ⟨es,clock,aI,F,ao,ja⟩ := World.ownsMap_made (default : World) Tryz.prog bd jx
 have e : ((default : World).alloc (.map #[] 0)).heap[(default : World).heap.size]? = some (.map #[] 0) := (MapKept.heap_alloc (default : World) _).1
 rw [e] at aI
 cases aI
 exact ⟨.map [],⟨_,_,rfl,F,Nat.le_refl _,ja⟩,fun k => rfl⟩

theorem Ts : ∀ (n : Nat) (l : List Nat),l.Nodup → (∀ x ∈ l,x < n) → l.length ≤ n
 | 0,l,_,h => by cases l with | nil => simp | cons x r => exact absurd (h x (by simp)) (by omega)
 | n + 1,l,a9,h => by
  have af := Ts n (l.erase n) (a9.erase n) (fun x ar => by
   have aj := h x (List.mem_of_mem_erase ar)
   have : x ≠ n := fun e => by subst e; exact (List.Nodup.not_mem_erase a9) ar
   omega)
  rw [List.length_erase] at af
  split at af <;> omega

def Mf : Lit → Nat | .int _ k => k.toNat | _ => 0
theorem h4.tight {bd : TypeId} {o : Obj} {n : Nat} {f : Int → Option Value} (h : h4 bd o n f) (az : Tryz.prog.underlying bd = some (.int .i64)) (m : Nat) (aZ : ∀ k,(f k).isSome = true → 0 ≤ k ∧ k < m) : h4 bd o m f := by
 have ba := h
 obtain ⟨D,⟨es,clock,rfl,F,ao,ja⟩,RG⟩ := h
 have K := int_keyed (P := Tryz.prog) az
 let w : World := (default : World).alloc (.map es clock)
 have hw : w.heap[(default : World).heap.size]? = some (.map es clock) := (MapKept.heap_alloc (default : World) _).1
 have jc : w.ownsMap Tryz.prog bd jx (default : World).heap.size n D := ⟨es,clock,hw,F,ao,ja⟩
 obtain ⟨BZ,bL,pG,Gu⟩ := jc.entries K
 have hi : es.size = BZ.length := by
  have : (DataW.map ((es.toList.map (Go.WideElems.rg Tryz.prog bd jx)).foldr DataW.insert []) : DataW Value) = .map BZ := by rw [← ja,bL]
  simp only [DataW.map.injEq] at this
  rw [← this,length_sorted]; simp
 refine ⟨D,⟨es,clock,rfl,F,?_,ja⟩,RG⟩
 have RO := Maps.fit_apart K F
 have CT : ∀ x ∈ es.toList,∃ k : Int,(Go.WideElems.rg Tryz.prog bd jx x).1 = .int .i64 k ∧ 0 ≤ k ∧ k < m := by
  intro x ar
  obtain ⟨v,bj⟩ := Maps.fit_keys F _ (List.mem_map.2 ⟨x,ar,rfl⟩)
  obtain ⟨k,_,aH,_⟩ := Maps.keyOf_int_inv az bj
  refine ⟨k,aH,?_⟩
  obtain ⟨y,aV⟩ := F.reads x ar
  obtain ⟨z,bR,LV⟩ := Go.WideElems.rd_val aV
  have CY : Go.WideElems.rg Tryz.prog bd jx x ∈ BZ := by
   have : (DataW.map ((es.toList.map (Go.WideElems.rg Tryz.prog bd jx)).foldr DataW.insert []) : DataW Value) = .map BZ := by rw [← ja,bL]
   simp only [DataW.map.injEq] at this
   rw [← this]; exact mem_sorted.2 (List.mem_map.2 ⟨x,ar,rfl⟩)
  obtain ⟨p,hp⟩ : ∃ p,p = Go.WideElems.rg Tryz.prog bd jx x := ⟨_,rfl⟩
  rw [← hp] at CY aH
  have vz := Go.WideElems.rg_of aV
  rw [← hp] at vz
  have eM := WideAt.atKey_mem (entries := BZ) (k := p.1) (d := p.2) .nil (Gu p CY) pG CY
  rw [aH,← bL,RG k] at eM
  apply aZ k
  cases e : f k with
  | some v => rfl
  | none =>
   rw [e,vz,LV] at eM
   simp only [jx,Option.some.injEq] at bR
   rw [← bR] at eM
   cases eM
 have aE := Ts m (es.toList.map fun x => Mf (Go.WideElems.rg Tryz.prog bd jx x).1) (by
  rw [List.Nodup,List.pairwise_map]
  rw [List.pairwise_map] at RO
  refine List.Pairwise.imp_of_mem ?_ RO
  intro a b a5 aI dj he
  obtain ⟨cL,a1,dI,_⟩ := CT a a5
  obtain ⟨k2,a7,dS,_⟩ := CT b aI
  rw [a1,a7] at dj; rw [a1,a7] at he
  simp only [Mf] at he
  exact dj (by rw [show cL = k2 from by omega])) (by
  intro x ar
  obtain ⟨y,aV,rfl⟩ := List.mem_map.1 ar
  obtain ⟨cL,a1,dI,dS⟩ := CT y aV
  rw [a1]; simp only [Mf]; omega)
 simpa using aE

theorem Gl (w : World) (o : Obj) {k : Nat} {x : Obj} (h : w.heap[k]? = some x) : (w.alloc o).heap[k]? = some x :=
 (Below.heap_alloc w o k (Array.getElem?_eq_some_iff.1 h).1).trans h

def bl.add (H : bl) (b : Nat) (o : Obj) : bl := fun k => if k = b then some o else H k
theorem bl.x4 (H : bl) (b : Nat) (o : Obj) : H.add b o b = some o := if_pos rfl
theorem bl.x5 {H : bl} {b : Nat} {o : Obj} (h : H b = Option.none) : hk H (H.add b o) := fun k x e => by
 unfold bl.add; rw [if_neg (fun a7 => by subst a7; rw [h] at e; cases e)]; exact e
theorem bl.acj {H : bl} {b : Nat} {o : Obj} {w : World} (h : Sub H w) (aI : w.heap[b]? = some o) : Sub (H.add b o) w := ⟨fun k x e => by
 unfold bl.add at e
 split at e
 ·rename_i az; subst az; cases e; exact aI
 ·exact h k x e,fun p hp => by
 obtain ⟨c,t,c0,e,k⟩ := h.rW p hp
 refine ⟨c,t,c0,?_,k⟩
 unfold bl.add
 split
 ·rename_i az
  have := h _ _ e
  rw [az,aI] at this
  exact this
 ·exact e⟩
theorem Grow.add {w w' : World} {H H' : bl} (g : Grow w H w' H') {b : Nat} {o : Obj} (aI : w'.heap[b]? = some o) (a9 : w.heap.size ≤ b) : Grow w H w' (H'.add b o) :=
 ⟨g.below,bl.acj g.sub aI,fun k az => by unfold bl.add; rw [if_neg (by omega)]; exact g.old k az⟩
theorem Grow.alloc {w w' : World} {H H' : bl} (g : Grow w H w' H') (o : Obj) : Grow w H (w'.alloc o) H' := ⟨g.below.alloc g.below.size o,g.sub.alloc o,g.old⟩
theorem Grow.drew {w w' : World} {H H' : bl} (g : Grow w H w' H') : Grow w H w'.drew H' := ⟨g.below.drew,g.sub.drew,g.old⟩
theorem Grow.ai7 {w w' : World} {H : bl} (h : Sub H w) (aI : Below w.heap.size w w') : Grow w H w' H := ⟨aI,⟨fun k o az => (aI.block k (h.lt az)).trans (h k o az),h.rW⟩,fun _ _ => rfl⟩
theorem Grow.grown {w w' OU : World} {H H' : bl} (g : Grow w H w' H') {row : Option Nat} (aJ : w'.grownBy OU row) (aA : ∀ k,row = some k → w.heap.size ≤ k ∧ H' k = Option.none) : Grow w H OU H' :=
 ⟨g.below.grown aJ g.below.size (fun k e => (aA k e).1),⟨fun k o az => (aJ.block k (g.sub.lt az) (fun e => by have := (aA k e.symm).2; rw [this] at az; cases az)).trans (g.sub k o az),g.sub.rW⟩,g.old⟩

end Go.Proofs.YtkmbcjnaaokilaaGreatDoor
namespace Go.Proofs.YtkmbcjnaaokilaaGreatDoor
set_option linter.unusedSimpArgs false
set_option linter.unusedVariables false
open Go.RowKit

abbrev Rel := Value → World → bl → Prop
def wh (R : Rel) : Prop := ∀ v w H w' H',R v w H → Grow w H w' H' → Sub H w → R v w' H'
theorem ah8 (c : Value) : wh (fun v _ _ => v = c) := fun _ _ _ _ _ h _ _ => h

def mh (ops : Array Oper) (a : Act) (j : Nat) : Value := match (ops[j]?).bind (·.dst) with | some t => a.eval (.tmp t) | none => undef
def waits (o : Oper) (j : Nat) : Bool := o.after.toList.any fun e => e.on == j && Region.binds .any e
def tj (ops : Array Oper) (n : Nat) (t : Tmp) : Bool := (ops.toList.take n).all fun o => o.dst != some t
def qQ (ops : Array Oper) (n : Nat) (a0 a : Act) : Prop := a.defers = a0.defers ∧ a.tmps.size = a0.tmps.size ∧ ∀ t,tj ops n t = true → a.tmps[t]? = a0.tmps[t]?
def Bp : Exit → Act → World → Prop := fun _ _ _ => False

section
variable {P : Program} {ops : Array Oper} {Q : Exit → Act → World → Prop} {n : Nat} {a0 : Act} {w0 : World} {H0 : bl}

def rG (ops : Array Oper) (Γ : List Rel) (o : Oper) (a : Act) (w : World) (H : bl) : Prop :=
 ∀ (j : Nat) (R : Rel),waits o j = true → Γ[j]? = some R → R (mh ops a j) w H

def zU (P : Program) (ops : Array Oper) (n : Nat) (a0 : Act) (w0 : World) (H0 : bl) (Γ : List Rel) (o : Oper) (R : Rel) : Prop :=
 ∀ a w H,Grow w0 H0 w H → rG ops Γ o a w H → qQ ops n a0 a →
  if Region.wanted o (yielded ops a.tmps) = true then o.wp P a w (fun dN w' => ∃ v H',dN = a.put o.dst v ∧ Grow w H w' H' ∧ R v w' H') Bp else R undef w H

def zS (P : Program) (ops : Array Oper) (n : Nat) (a0 : Act) (w0 : World) (H0 : bl) (Γ : List Rel) (o : Oper) (R : Rel) : Prop :=
 ∀ a w H,Grow w0 H0 w H → rG ops Γ o a w H → qQ ops n a0 a → ∃ v,Yields P ops o v a ∧ R v w H

def xX (P : Program) (ops : Array Oper) (Q : Exit → Act → World → Prop) (n : Nat) (w : World) (H : bl) : List Oper → List Rel → Act → Prop
 | o :: os,R :: wo,a => ∀ v,R v w H → xX P ops Q n w H os wo (a.put o.dst v)
 | _,_,a => wpList P ops Q (ops.toList.drop n) a w

def J (ops : Array Oper) (n : Nat) (a0 : Act) (w0 : World) (H0 : bl) (Γ : List Rel) (listed : Array Bool) (a : Act) (w : World) : Prop :=
 ∃ H,Grow w0 H0 w H ∧ (∀ (j : Nat) (R : Rel),listed.getD j false = true → Γ[j]? = some R → R (mh ops a j) w H) ∧ qQ ops n a0 a ∧ listed.size = ops.size ∧ (∀ j,n ≤ j → listed.getD j false = false) ∧ ∀ (j : Nat) (o : Oper),listed.getD j false = true → ops[j]? = some o → ∀ k,waits o k = true → listed.getD k false = true

theorem Oper.Ep {o : Oper} {a : Act} {w : World} {K p6 : Act → World → Prop} (h : ∀ a w,K a w → p6 a w) (cy : o.wp P a w K Bp) : o.wp P a w p6 Q := by
 unfold Oper.wp at *
 generalize (execOp a.eval o).run P w = r at *
 cases r with
 | ok n w' =>
  cases n <;> simp only [Oper.upon] at cy ⊢
  case value u => exact h _ _ cy
  case skip => exact h _ _ cy
  case defer d => exact h _ _ cy
  case enter f args =>
   refine Calls.mono cy fun e OU he => ?_
   cases e with
   | returned u => exact h _ _ he
   | panicked c => exact he.elim
   | outgrown => obtain ⟨_,_,aZ⟩ := he; exact aZ.elim
  case row row args => exact Rows.mono cy (fun _ _ he => h _ _ he)
 | halt x w' => cases x <;> simp only [Oper.upon] at cy ⊢ <;> exact cy.elim

theorem Rf {listed : Array Bool} {i j : Nat} (h : (listed.setIfInBounds i true).getD j false = true) : j = i ∨ listed.getD j false = true := by
 by_cases iN : i = j
 ·exact .inl iN.symm
 ·right; rw [getD_set_ne false iN] at h; exact h

def mD (listed : Array Bool) : Nat := listed.toList.countP (fun b => !b)
theorem G4 {listed : Array Bool} {i : Nat} (aq : i < listed.size) (h : listed.getD i false = false) : mD (listed.setIfInBounds i true) + 1 = mD listed := by
 unfold mD
 have af : listed[i]'aq = false := by simpa [aq] using h
 rw [Array.toList_setIfInBounds]
 have aj : i < listed.toList.length := by simpa using aq
 have av : listed.toList[i] = false := by simpa using af
 rw [List.set_eq_take_append_cons_drop,if_pos aj]
 have aY : listed.toList = listed.toList.take i ++ listed.toList[i] :: listed.toList.drop (i + 1) := by rw [← List.drop_eq_getElem_cons aj,List.take_append_drop]
 have bM : listed.toList.countP (fun b => !b) = (listed.toList.take i ++ listed.toList[i] :: listed.toList.drop (i + 1)).countP (fun b => !b) := by rw [← aY]
 rw [bM,av]
 simp [List.countP_append,List.countP_cons]
 omega
theorem Dx {listed : Array Bool} (h : mD listed = 0) (j : Nat) (aN : j < listed.size) : listed.getD j false = true := by
 unfold mD at h
 rw [List.countP_eq_zero] at h
 have := h (listed[j]) (by simp)
 simp [aN] at this ⊢
 exact this
def wl (o : Oper) : List Nat := o.after.toList.filterMap fun e => if Region.binds .any e = true then some e.on else none
def Aa (ops : Array Oper) : Nat → List Nat → List Nat
 | 0,acc => acc
 | k + 1,acc => Aa ops k (if acc.contains k = true then (match ops[k]? with | some o => wl o ++ acc | none => acc) else acc)
theorem En {o : Oper} {j : Nat} (h : j ∈ wl o) : waits o j = true := by
 unfold wl at h
 obtain ⟨e,he,h⟩ := List.mem_filterMap.1 h
 split at h
 ·rename_i aI
  cases h
  unfold waits
  rw [List.any_eq_true]
  exact ⟨e,he,by simp [aI]⟩
 ·cases h
theorem Qg {ops : Array Oper} {P : Nat → Prop} (cb : ∀ k o,P k → ops[k]? = some o → ∀ j,waits o j = true → P j) : ∀ (k : Nat) (acc : List Nat),(∀ j ∈ acc,P j) → ∀ j ∈ Aa ops k acc,P j
 | 0,_,h,j,aN => h j aN
 | k + 1,acc,h,j,aN => by
  refine Qg cb k _ (fun i aq => ?_) j aN
  split at aq
  ·rename_i aB
   split at aq
   ·rename_i o ax
    rcases List.mem_append.1 aq with aq | aq
    ·exact cb k o (h k (by simpa using aB)) ax i (En aq)
    ·exact h i aq
   ·exact h i aq
  ·exact h i aq
def zX (ops : Array Oper) (n : Nat) (eZ : List Nat) : Bool :=
 Region.noSelect ops && decide (n ≤ ops.size) &&
 (List.range ops.size).all (fun i => match ops[i]? with
  | some o => o.after.all (fun e => !Region.binds .any e || decide (e.on < i)) &&
   (decide (i < n) || (List.range i).all (fun j => (decide (j < n) && eZ.contains j) || waits o j || (decide (n ≤ j) && (List.range i).any (fun k => decide (j < k) && waits o k)) || (decide (j < n) && (Aa ops i (wl o)).contains j)))
  | none => false) &&
 (List.range n).all (fun i => (List.range n).all (fun j => decide (i = j) || match (ops[i]?).bind (·.dst) with | some d => (ops[j]?).bind (·.dst) != some d | none => true)) &&
 eZ.all (fun f => decide (f < n) && match ops[f]? with
  | some o => o.after.all (fun e => !Region.binds .any e || !eZ.contains e.on) &&
   (List.range ops.size).all (fun j => decide (j = f) || waits o j || match ops[j]? with | some hP => waits hP f || o.apart ops hP | none => true)
  | none => false)

theorem adB {a : Act} {i : Nat} {o : Oper} {v : Value} (aq : ops[i]? = some o) (hi : ∀ d,o.dst = some d → d < a.tmps.size) (a6 : o.dst ≠ none) : mh ops (a.put o.dst v) i = v := by
 unfold mh
 rw [aq]
 cases ax : o.dst with
 | none => exact absurd ax a6
 | some d =>
  have := hi d ax
  simp [Act.put,Act.eval,ax,this]

theorem XT (afU : ∀ i o,ops[i]? = some o → ∀ e ∈ o.after,Region.binds .any e = true → e.on < i) (ahg : ∀ i o,n ≤ i → ops[i]? = some o → ∀ j,n ≤ j → j < i → ∃ k,j ≤ k ∧ waits o k = true) :
  ∀ (m k : Nat) (listed : Array Bool) (a : Act) (w : World),n ≤ k → k + m = ops.size → listed.size = ops.size → (∀ j,j < k → listed.getD j false = true) → (∀ j,k ≤ j → listed.getD j false = false) →
  wpList P ops Q (ops.toList.drop k) a w → wpAny P .any ops Q m listed a w := by
 intro m
 induction m with
 | zero =>
  intro k listed a w _ az hi aE _ h
  have ba : ops.toList.drop k = [] := List.drop_eq_nil_of_le (by simp; omega)
  rw [ba] at h
  refine ⟨?_,h⟩
  rw [List.eq_nil_iff_forall_not_mem]
  intro j aN
  obtain ⟨af,o,ax,_⟩ := mem_ready.1 aN
  have bQ : j < ops.size := (Array.getElem?_eq_some_iff.1 ax).1
  have aj := aE j (by omega)
  have yC : j < listed.size := by omega
  simp [yC] at af aj
  rw [af] at aj; cases aj
 | succ m dW =>
  intro k listed a w agM az hi aE hu h
  have bQ : k < ops.size := by omega
  have CU : k < listed.size := by omega
  obtain ⟨o,ax⟩ : ∃ o,ops[k]? = some o := ⟨ops[k],by simp [bQ]⟩
  have KF : ops.toList.drop k = o :: ops.toList.drop (k + 1) := by
   have af : k < ops.toList.length := by simpa using bQ
   rw [List.drop_eq_getElem_cons af]
   congr 1
   have : ops.toList[k]? = some o := by simpa using ax
   rw [List.getElem?_eq_getElem af] at this
   exact Option.some.inj this
  have Sa : k ∈ Region.ready .any ops listed := mem_ready.2 ⟨by have := hu k (Nat.le_refl _); simp [CU] at this ⊢; exact this,o,ax,fun e he aI => aE _ (afU k o ax e he aI)⟩
  refine ⟨fun ba => (by rw [ba] at Sa; cases Sa),fun i aq => ?_⟩
  obtain ⟨af,kG,fm,ec⟩ := mem_ready.1 aq
  have aqC : i < ops.size := (Array.getElem?_eq_some_iff.1 fm).1
  have CH : i < listed.size := by omega
  have af6 : i = k := by
   rcases Nat.lt_trichotomy i k with aj | aj | aj
   ·have := aE i aj; simp [CH] at af this; rw [af] at this; cases this
   ·exact aj
   ·have av := ahg i kG (by omega) fm k agM aj
    obtain ⟨dG,jn,av⟩ := av
    unfold waits at av
    rw [List.any_eq_true] at av
    obtain ⟨e,he,aY⟩ := av
    simp only [Bool.and_eq_true,beq_iff_eq] at aY
    have bM := ec e (by simpa using he) aY.2
    rw [aY.1,hu dG jn] at bM
    cases bM
  subst af6
  rw [KF] at h
  unfold wpOp
  rw [ax]
  unfold wpList at h
  have Sh : ∀ a w,wpList P ops Q (ops.toList.drop (i + 1)) a w → wpAny P .any ops Q m (listed.setIfInBounds i true) a w := fun a w h => by
   refine dW (i + 1) _ a w (by omega) (by omega) (by simpa using hi) (fun j aN => ?_) (fun j aN => ?_) h
   ·by_cases e : i = j
    ·subst e; simp [CU]
    ·rw [getD_set_ne false e]; exact aE j (by omega)
   ·rw [getD_set_ne false (by omega)]; exact hu j (by omega)
  simp only
  split
  ·rename_i hw
   rw [if_pos hw] at h
   exact h.imp (Oper.wp_mono Sh) id
  ·rename_i hw
   rw [if_neg hw] at h
   exact Sh _ _ h

structure Eu (ops : Array Oper) (n : Nat) (eZ : List Nat) : Prop where
 W8 : Region.noSelect ops = true
 le : n ≤ ops.size
 py : ∀ i o,ops[i]? = some o → ∀ e ∈ o.after,Region.binds .any e = true → e.on < i
 H5 : ∀ i o,n ≤ i → ops[i]? = some o → ∀ j,j < i → (j < n ∧ j ∈ eZ) ∨ waits o j = true ∨ (n ≤ j ∧ ∃ k,j < k ∧ k < i ∧ waits o k = true) ∨ (j < n ∧ j ∈ Aa ops i (wl o))
 dst : ∀ i j,i < n → j < n → i ≠ j → ∀ d,(ops[i]?).bind (·.dst) = some d → (ops[j]?).bind (·.dst) ≠ some d
 eZ : ∀ f,f ∈ eZ → f < n ∧ ∃ o,ops[f]? = some o ∧ (∀ e ∈ o.after,Region.binds .any e = true → e.on ∉ eZ) ∧ ∀ j hP,ops[j]? = some hP → j ≠ f → waits o j = true ∨ waits hP f = true ∨ o.apart ops hP = true

theorem PO {eZ : List Nat} (h : zX ops n eZ = true) : Eu ops n eZ := by
 unfold zX at h
 simp only [Bool.and_eq_true,decide_eq_true_eq,List.all_eq_true,List.mem_range] at h
 obtain ⟨⟨⟨⟨af,aj⟩,av⟩,aY⟩,bM⟩ := h
 refine ⟨af,aj,?_,?_,?_,?_⟩
 ·intro i o ax e he aI
  have bQ : i < ops.size := (Array.getElem?_eq_some_iff.1 ax).1
  have bN := av i bQ
  rw [ax] at bN
  simp only [Bool.and_eq_true] at bN
  have cJ := bN.1
  rw [Array.all_eq_true_iff_forall_mem] at cJ
  have c9 := cJ e he
  rw [aI] at c9
  simpa using c9
 ·intro i o aq ax j aN
  have bQ : i < ops.size := (Array.getElem?_eq_some_iff.1 ax).1
  have bN := av i bQ
  rw [ax] at bN
  simp only [Bool.and_eq_true,Bool.or_eq_true,decide_eq_true_eq,List.all_eq_true,List.mem_range] at bN
  rcases bN.2 with cJ | cJ
  ·omega
  ·rcases cJ j aN with ((⟨a,b⟩ | b) | ⟨a,b⟩) | ⟨a,b⟩
   ·exact .inl ⟨a,by simpa using b⟩
   ·exact .inr (.inl b)
   ·rw [List.any_eq_true] at b
    obtain ⟨k,az,b⟩ := b
    simp only [Bool.and_eq_true,decide_eq_true_eq] at b
    exact .inr (.inr (.inl ⟨a,k,b.1,by simpa using az,b.2⟩))
   ·exact .inr (.inr (.inr ⟨a,by simpa using b⟩))
 ·intro i j aq aN dj d a6
  have bN := aY i aq j aN
  rw [a6] at bN
  simp only [Bool.or_eq_true,decide_eq_true_eq] at bN
  rcases bN with bN | bN
  ·exact absurd bN dj
  ·simpa using bN
 ·intro f aZ
  have bN := bM f aZ
  refine ⟨bN.1,?_⟩
  cases ax : ops[f]? with
  | none => rw [ax] at bN; simp at bN
  | some o =>
   rw [ax] at bN
   simp only [Bool.and_eq_true,List.all_eq_true,List.mem_range,Bool.or_eq_true,decide_eq_true_eq] at bN
   refine ⟨o,rfl,fun e he aI => ?_,fun j hP qo dj => ?_⟩
   ·have cJ := bN.2.1
    rw [Array.all_eq_true_iff_forall_mem] at cJ
    have c9 := cJ e he
    rw [aI] at c9
    simpa using c9
   ·have bQ : j < ops.size := (Array.getElem?_eq_some_iff.1 qo).1
    have cJ := bN.2.2 j bQ
    rw [qo] at cJ
    simp only [Bool.or_eq_true] at cJ
    rcases cJ with (cJ | cJ) | (cJ | cJ)
    ·exact absurd cJ dj
    ·exact .inl cJ
    ·exact .inr (.inl cJ)
    ·exact .inr (.inr cJ)

theorem tz {o : Oper} {j : Nat} (h : waits o j = true) : ∃ e ∈ o.after,Region.binds .any e = true ∧ e.on = j := by
 unfold waits at h
 rw [List.any_eq_true] at h
 obtain ⟨e,he,aY⟩ := h
 simp only [Bool.and_eq_true,beq_iff_eq] at aY
 exact ⟨e,by simpa using he,aY.2,aY.1⟩
theorem acz {eZ : List Nat} {Γ : List Rel} (aZ : Eu ops n eZ) (hlen : Γ.length = n) (az : ∀ (j : Nat) (R : Rel),Γ[j]? = some R → wh R)
  (my : ∀ (j : Nat) (o : Oper) (R : Rel),Γ[j]? = some R → ops[j]? = some o → j ∉ eZ → zU P ops n a0 w0 H0 Γ o R)
  (afX : ∀ (j : Nat) (o : Oper) (R : Rel),Γ[j]? = some R → ops[j]? = some o → j ∈ eZ → zS P ops n a0 w0 H0 Γ o R)
  (kv : ∀ c a (d : Tmp) v w,Q (.panic c) (Act.put a (some d) v) w → Q (.panic c) a w)
  (hi : ∀ (i : Nat) (o : Oper) d,ops[i]? = some o → o.dst = some d → d < a0.tmps.size)
  (kS : ∀ (i : Nat) (o : Oper),i < n → ops[i]? = some o → o.dst ≠ none)
  (oW : ∀ a w H,Grow w0 H0 w H → (∀ (j : Nat) (R : Rel),Γ[j]? = some R → R (mh ops a j) w H) → qQ ops n a0 a → wpList P ops Q (ops.toList.drop n) a w) :
  ∀ (fuel : Nat) (listed : Array Bool) (a : Act) (w : World),mD listed = fuel → J ops n a0 w0 H0 Γ listed a w → wpAny P .any ops Q fuel listed a w := by
 have LG : ∀ {listed : Array Bool} {a : Act} {w w' : World} {H H' : bl} {i : Nat} {o : Oper} {v : Value} {R : Rel},Sub H w → i < n → ops[i]? = some o → Γ[i]? = some R → listed.getD i false = false →
   Grow w0 H0 w H → (∀ (j : Nat) (R : Rel),listed.getD j false = true → Γ[j]? = some R → R (mh ops a j) w H) → qQ ops n a0 a → listed.size = ops.size → (∀ j,n ≤ j → listed.getD j false = false) → (∀ (j : Nat) (o : Oper),listed.getD j false = true → ops[j]? = some o → ∀ k,waits o k = true → listed.getD k false = true) → (∀ k,waits o k = true → listed.getD k false = true) →
   Grow w H w' H' → R v w' H' → J ops n a0 w0 H0 Γ (listed.setIfInBounds i true) (a.put o.dst v) w' := by
  intro listed a w w' H H' i o v R ud aq ax bf GO aJ vy o2 nr qn gP ug sV bj
  have Gj := kS i o aq ax
  obtain ⟨d,a6⟩ : ∃ d,o.dst = some d := by cases h : o.dst with | none => exact absurd h Gj | some d => exact ⟨d,rfl⟩
  have jX : ∀ k,listed.getD k false = true → (listed.setIfInBounds i true).getD k false = true := fun k az => by
   by_cases e : i = k
   ·subst e; rw [GO] at az; cases az
   ·rw [getD_set_ne false e]; exact az
  refine ⟨H',aJ.trans sV,?_,?_,by simpa using nr,?_,fun j hP aN qo k az => ?_⟩
  ·intro j jg aN sT
   by_cases pJ : j = i
   ·subst pJ
    rw [bf] at sT; cases sT
    rw [adB ax (fun Qe w3 => by rw [o2.2.1]; exact hi j o Qe ax w3) Gj]
    exact bj
   ·have kA : listed.getD j false = true := by rcases Rf aN with h | h; exact absurd h pJ; exact h
    have age : j < n := by
     rcases Nat.lt_or_ge j n with h | h
     ·exact h
     ·rw [qn j h] at kA; cases kA
    have dj : mh ops (a.put o.dst v) j = mh ops a j := by
     unfold mh
     cases afK : (ops[j]?).bind (·.dst) with
     | none => rfl
     | some t =>
      have af : d ≠ t := fun e => by
       subst e
       exact aZ.dst j i age aq pJ d afK (by rw [ax]; exact a6)
      simp only
      exact Act.eval_put (fun Qe w3 e => by rw [a6] at w3; cases w3; cases e; exact af rfl)
    rw [dj]
    exact az j jg sT _ _ _ _ _ (vy j jg kA sT) sV ud
  ·refine ⟨by rw [← o2.1,a6]; rfl,by rw [← o2.2.1,a6]; simp [Act.put],fun t aL => ?_⟩
   rw [← o2.2.2 t aL,a6]
   have af : d ≠ t := fun e => by
    subst e
    unfold tj at aL
    rw [List.all_eq_true] at aL
    have aj : o ∈ ops.toList.take n := by
     rw [List.mem_take_iff_getElem]
     have bQ : i < ops.size := (Array.getElem?_eq_some_iff.1 ax).1
     refine ⟨i,by simp; omega,?_⟩
     have : ops.toList[i]? = some o := by simpa using ax
     rw [List.getElem?_eq_getElem (by simpa using bQ)] at this
     exact Option.some.inj this
    have := aL o aj
    rw [a6] at this
    simp at this
   simp [Act.put,Array.getElem?_setIfInBounds_ne af]
  ·intro j aN
   rw [getD_set_ne false (by omega)]
   exact qn j aN
  ·rcases Rf aN with rfl | aN
   ·rw [ax] at qo; cases qo
    exact jX k (ug k az)
   ·exact jX k (gP j hP aN qo k az)
 intro fuel
 induction fuel with
 | zero =>
  intro listed a w aE ⟨H,aJ,vy,o2,nr,qn,_⟩
  have ec : ∀ j,j < ops.size → listed.getD j false = true := fun j aN => Dx aE j (by omega)
  have a9 : n = ops.size := by
   rcases Nat.lt_or_ge n ops.size with h | h
   ·have af := ec n h; rw [qn n (Nat.le_refl _)] at af; cases af
   ·have := aZ.le; omega
  refine XT (n := n) aZ.py (fun i o aq ax j aqJ aN => by rcases aZ.H5 i o aq ax j aN with h | h | ⟨_,k,af,_,aj⟩ | h; exact absurd h.1 (by omega); exact ⟨j,Nat.le_refl _,h⟩; exact ⟨k,by omega,aj⟩; exact absurd h.1 (by omega)) 0 n listed a w (Nat.le_refl _) (by omega) nr (fun j aN => ec j (by omega)) qn ?_
  exact oW a w H aJ (fun j R bf => vy j R (ec j (by have := (List.getElem?_eq_some_iff.1 bf).1; omega)) bf) o2
 | succ fuel dW =>
  intro listed a w aE gO
  have aql := gO
  obtain ⟨H,aJ,vy,o2,nr,qn,gP⟩ := gO
  have ud := aJ.sub
  have GO : ∀ i,i ∈ Region.ready .any ops listed → i < ops.size ∧ listed.getD i false = false := fun i aq => by
   obtain ⟨af,kG,fm,_⟩ := mem_ready.1 aq
   have bQ : i < ops.size := (Array.getElem?_eq_some_iff.1 fm).1
   have : i < listed.size := by omega
   refine ⟨bQ,?_⟩
   simp [this] at af ⊢; exact af
  have Db : ∀ i o,ops[i]? = some o → i ∈ Region.ready .any ops listed → rG ops Γ o a w H := fun i o ax aq j R hw bf => by
   obtain ⟨_,kG,fm,ec⟩ := mem_ready.1 aq
   rw [ax] at fm; cases fm
   obtain ⟨e,he,aI,rfl⟩ := tz hw
   exact vy _ R (ec e he aI) bf
  have GI : ∀ i o,ops[i]? = some o → i ∈ Region.ready .any ops listed → ∀ k,waits o k = true → listed.getD k false = true := fun i o ax aq k hw => by
   obtain ⟨_,kG,fm,ec⟩ := mem_ready.1 aq
   rw [ax] at fm; cases fm
   obtain ⟨e,he,aI,rfl⟩ := tz hw
   exact ec e he aI
  by_cases KP : ∃ f,f ∈ eZ ∧ f ∈ Region.ready .any ops listed
  ·obtain ⟨f,RY,yz⟩ := KP
   obtain ⟨Ar,o,ax,aqw,KO⟩ := aZ.eZ f RY
   obtain ⟨bQ,Su⟩ := GO f yz
   obtain ⟨R,bf⟩ : ∃ R,Γ[f]? = some R := ⟨Γ[f]'(by omega),by simp⟩
   obtain ⟨v,aV,bj⟩ := afX f o R bf ax RY a w H aJ (Db f o ax yz) o2
   refine wpAny_first ax (Region.noSelect_spec aZ.W8) (fun c a w h => by obtain ⟨d,a6⟩ := Option.ne_none_iff_exists'.1 (kS f o Ar ax); rw [a6] at h; exact kv c a d _ w h) fuel listed a w ?_ yz aV (dW _ _ _ ?_ (LG ud Ar ax bf Su aJ vy o2 nr qn gP (GI f o ax yz) (Grow.refl ud) bj))
   ·intro j hP qo dj AA rj
    rcases KO j hP qo dj with h | h | h
    ·obtain ⟨e,he,aI,rfl⟩ := tz h
     obtain ⟨_,kG,fm,ec⟩ := mem_ready.1 yz
     rw [ax] at fm; cases fm
     have aj := ec e he aI
     have av : e.on < listed.size := by
      rcases Nat.lt_or_ge e.on listed.size with aY | aY
      ·exact aY
      ·simp [Array.getElem?_eq_none aY] at aj
     simp [av] at aj AA
     rw [aj] at AA; cases AA
    ·obtain ⟨e,he,aI,qm⟩ := tz h
     exact absurd qm (rj e he aI)
    ·exact h
   ·have := G4 (listed := listed) (by omega) Su
    omega
  ·have ag9 : ∀ i o,ops[i]? = some o → listed.getD i false = false → (∀ j,j < i → listed.getD j false = true) → i ∈ Region.ready .any ops listed := fun i o ax aq aN => by
    have bQ : i < ops.size := (Array.getElem?_eq_some_iff.1 ax).1
    have : i < listed.size := by omega
    exact mem_ready.2 ⟨by simp [this] at aq ⊢; exact aq,o,ax,fun e he aI => aN _ (aZ.py i o ax e he aI)⟩
   refine ⟨fun ba => ?_,fun i aq => ?_⟩
   ·exfalso
    have hex : ∃ i,i < ops.size ∧ listed.getD i false = false := by
     by_cases h : ∃ i,i < ops.size ∧ listed.getD i false = false
     ·exact h
     ·exfalso
      have ec : ∀ b ∈ listed.toList,(!b) = false := fun b aI => by
       obtain ⟨i,aq,rfl⟩ := List.mem_iff_getElem.1 aI
       have iM : i < listed.size := by simpa using aq
       cases aB : listed[i] with
       | true => simp [aB]
       | false => exact absurd ⟨i,by omega,by simp [iM,aB]⟩ h
      have : mD listed = 0 := by
       unfold mD
       rw [List.countP_eq_zero]
       intro b aI
       simp [ec b aI]
      omega
    have Li : ∀ m i,i < m → i < ops.size → listed.getD i false = false → ∃ k,k < ops.size ∧ listed.getD k false = false ∧ ∀ j,j < k → listed.getD j false = true := by
     intro m
     induction m with
     | zero => intro i h; omega
     | succ m ahD =>
      intro i aqD aq KW
      by_cases h : ∃ j,j < i ∧ listed.getD j false = false
      ·obtain ⟨j,aN,agd⟩ := h
       exact ahD j (by omega) (by omega) agd
      ·refine ⟨i,aq,KW,fun j aN => ?_⟩
       cases aB : listed.getD j false with
       | true => rfl
       | false => exact absurd ⟨j,aN,aB⟩ h
    obtain ⟨i,aq,KW⟩ := hex
    obtain ⟨k,tZ,aH,K0⟩ := Li (i + 1) i (by omega) aq KW
    have := ag9 k ops[k] (by simp [tZ]) aH K0
    rw [ba] at this; cases this
   ·obtain ⟨bQ,LO⟩ := GO i aq
    obtain ⟨o,ax⟩ : ∃ o,ops[i]? = some o := ⟨ops[i],by simp [bQ]⟩
    by_cases kz : i < n
    ·have agL : i ∉ eZ := fun h => KP ⟨i,h,aq⟩
     obtain ⟨R,bf⟩ : ∃ R,Γ[i]? = some R := ⟨Γ[i]'(by omega),by simp⟩
     have dX := my i o R bf ax agL a w H aJ (Db i o ax aq) o2
     unfold wpOp
     rw [ax]
     simp only
     have aqH := G4 (listed := listed) (i := i) (by omega) LO
     split
     ·rename_i hw
      rw [if_pos hw] at dX
      refine .inl (Oper.Ep ?_ dX)
      rintro dN w' ⟨v,H',rfl,sV,bj⟩
      exact dW _ _ _ (by omega) (LG ud kz ax bf LO aJ vy o2 nr qn gP (GI i o ax aq) sV bj)
     ·rename_i hw
      rw [if_neg hw] at dX
      exact dW _ _ _ (by omega) (LG ud kz ax bf LO aJ vy o2 nr qn gP (GI i o ax aq) (Grow.refl ud) dX)
    ·have Gg : ∀ j,j < i → listed.getD j false = true := fun j aN => by
      have kh : ∀ k,n ≤ k → waits o k = true → False := fun k az hw => by
       obtain ⟨a7,qm,iL,bM⟩ := tz hw
       obtain ⟨_,kG,fm,ec⟩ := mem_ready.1 aq
       rw [ax] at fm; cases fm
       have bN := ec a7 qm iL
       rw [bM,qn k az] at bN; cases bN
      have kS : ∀ j,j ∈ Aa ops i (wl o) → listed.getD j false = true := Qg (P := fun k => listed.getD k false = true) (fun k ok az nt j hw => gP k ok az nt j hw) i _ (fun j aN => GI i o ax aq j (En aN))
      rcases aZ.H5 i o (by omega) ax j aN with ⟨af,aj⟩ | h | ⟨af,k,aj,_,av⟩ | ⟨_,h⟩
      ·cases aB : listed.getD j false with
       | true => rfl
       | false =>
        exfalso
        obtain ⟨_,hP,qo,r1,_⟩ := aZ.eZ j aj
        have agf : j < listed.size := by omega
        refine KP ⟨j,aj,mem_ready.2 ⟨by simp [agf] at aB ⊢; exact aB,hP,qo,fun e he aI => ?_⟩⟩
        have av := aZ.py j hP qo e he aI
        rcases aZ.H5 i o (by omega) ax e.on (by omega) with ⟨_,aY⟩ | aY | ⟨aY,k,bN,_,cJ⟩ | ⟨_,aY⟩
        ·exact absurd aY (r1 e he aI)
        ·obtain ⟨a7,qm,iL,bM⟩ := tz aY
         obtain ⟨_,kG,fm,ec⟩ := mem_ready.1 aq
         rw [ax] at fm; cases fm
         rw [← bM]; exact ec a7 qm iL
        ·exact (kh k (by omega) cJ).elim
        ·exact kS _ aY
      ·obtain ⟨a7,qm,iL,bM⟩ := tz h
       obtain ⟨_,kG,fm,ec⟩ := mem_ready.1 aq
       rw [ax] at fm; cases fm
       rw [← bM]; exact ec a7 qm iL
      ·exact (kh k (by omega) av).elim
      ·exact kS _ h
     have af4 : i = n := by
      rcases Nat.lt_or_ge n i with h | h
      ·have := Gg n h; rw [qn n (Nat.le_refl _)] at this; cases this
      ·omega
     subst af4
     have aqt : mD listed = ops.size - i := by
      have : ∀ (m : Nat) (l : List Bool),(∀ j b,l[j]? = some b → (j < m → b = true) ∧ (m ≤ j → b = false)) → l.countP (fun b => !b) = l.length - m := by
       intro m l
       induction l generalizing m with
       | nil => intro _; simp
       | cons b r SC =>
        intro h
        cases m with
        | zero =>
         have af := (h 0 b rfl).2 (by omega)
         have aj := SC 0 (fun j c aN => ⟨fun h => by omega,fun _ => (h (j + 1) c (by simpa using aN)).2 (by omega)⟩)
         rw [List.countP_cons,aj,af]; simp
        | succ m =>
         have af := (h 0 b rfl).1 (by omega)
         have aj := SC m (fun j c aN => ⟨fun cy => (h (j + 1) c (by simpa using aN)).1 (by omega),fun cy => (h (j + 1) c (by simpa using aN)).2 (by omega)⟩)
         rw [List.countP_cons,aj,af]; simp
      unfold mD
      rw [this i listed.toList]
      ·simp [nr]
      ·intro j b aN
       have R8 : listed[j]? = some b := by simpa using aN
       refine ⟨fun h => ?_,fun h => ?_⟩
       ·have := Gg j h; rw [Array.getD_eq_getD_getElem?,R8] at this; simpa using this
       ·have := qn j h; rw [Array.getD_eq_getD_getElem?,R8] at this; simpa using this
     have ng := XT (P := P) (Q := Q) (n := i) aZ.py (fun jC o' jR fy j r1 kA => by rcases aZ.H5 jC o' jR fy j kA with h | h | ⟨_,k,af,_,aj⟩ | h; exact absurd h.1 (by omega); exact ⟨j,Nat.le_refl _,h⟩; exact ⟨k,by omega,aj⟩; exact absurd h.1 (by omega)) (fuel + 1) i listed a w (Nat.le_refl _) (by omega) nr Gg qn
      (oW a w H aJ (fun j R bf => vy j R (Gg j (by have := (List.getElem?_eq_some_iff.1 bf).1; omega)) bf) o2)
     exact ng.2 i aq

def qG (P : Program) (ops : Array Oper) (Q : Exit → Act → World → Prop) (n : Nat) (eZ : List Nat) (a0 : Act) (w0 : World) (H0 : bl) : List Rel → List Oper → Prop
 | Γ,[] => ∀ W H,Grow w0 H0 W H → xX P ops Q n W H (ops.toList.take n) Γ a0
 | Γ,o :: rest => ∃ R,wh R ∧ (if eZ.contains Γ.length = true then zS P ops n a0 w0 H0 Γ o R else zU P ops n a0 w0 H0 Γ o R) ∧ qG P ops Q n eZ a0 w0 H0 (Γ ++ [R]) rest

def Hu (ops : Array Oper) (a : Act) : List Oper → Nat → Act → Act
 | [],_,b => b
 | o :: os,k,b => Hu ops a os (k + 1) (b.put o.dst (mh ops a k))

theorem Un (a : Act) : ∀ (os : List Oper) (k : Nat) (b : Act),(∀ j,os[j]? = none ∨ os[j]? = ops[k + j]?) → b.defers = a.defers → b.tmps.size = a.tmps.size →
  (∀ t : Nat,b.tmps[t]? = a.tmps[t]? ∨ ∃ o ∈ os,o.dst = some t) → Hu ops a os k b = a
 | [],k,b,_,a6,ao,aL => by
  have : b.tmps = a.tmps := Array.ext_getElem? fun t => (aL t).resolve_right (by simp)
  cases b; cases a; simp_all [Hu]
 | o :: os,k,b,vx,a6,ao,aL => by
  have ax : ops[k]? = some o := by
   rcases vx 0 with h | h
   ·simp at h
   ·simpa using h.symm
  refine Un a os (k + 1) _ (fun j => ?_) ?_ ?_ (fun t => ?_)
  ·rcases vx (j + 1) with h | h
   ·exact .inl (by simpa using h)
   ·exact .inr (by simpa [Nat.add_assoc,Nat.add_comm 1 j] using h)
  ·cases o.dst <;> exact a6
  ·cases o.dst <;> simpa [Act.put] using ao
  ·cases KG : o.dst with
   | none =>
    rcases aL t with h | ⟨o',fy,h⟩
    ·exact .inl h
    ·rcases List.mem_cons.1 fy with rfl | hm
     ·rw [KG] at h; cases h
     ·exact .inr ⟨o',hm,h⟩
   | some d =>
    by_cases KH : d = t
    ·subst KH
     left
     unfold mh
     rw [ax]
     simp only [Option.bind_some,KG,Act.put,Act.eval]
     rw [Array.getElem?_setIfInBounds]
     by_cases bQ : d < a.tmps.size
     ·simp [ao,bQ]
     ·simp [ao,bQ]
    ·rcases aL t with h | ⟨o',fy,h⟩
     ·left; simp only [Act.put]; rw [Array.getElem?_setIfInBounds_ne KH]; exact h
     ·rcases List.mem_cons.1 fy with rfl | hm
      ·rw [KG] at h; cases h; exact absurd rfl KH
      ·exact .inr ⟨o',hm,h⟩

theorem Pm {w : World} {H : bl} (a : Act) : ∀ (os : List Oper) (wo : List Rel) (k : Nat) (b : Act),os.length = wo.length → (∀ (j : Nat) (R : Rel),wo[j]? = some R → R (mh ops a (k + j)) w H) → xX P ops Q n w H os wo b →
  wpList P ops Q (ops.toList.drop n) (Hu ops a os k b) w
 | [],[],_,_,_,_,h => h
 | o :: os,R :: wo,k,b,aE,aA,h => Pm a os wo (k + 1) _ (by simpa using aE) (fun j jg sT => by have := aA (j + 1) jg (by simpa using sT); simpa [Nat.add_assoc,Nat.add_comm 1 j] using this) (h _ (aA 0 R (by simp)))
 | [],_ :: _,_,_,aE,_,_ => by simp at aE
 | _ :: _,[],_,_,aE,_,_ => by simp at aE

theorem O9 {eZ : List Nat} : ∀ (rest : List Oper) (Γ : List Rel),(∀ j,rest[j]? = none ∨ rest[j]? = ops[Γ.length + j]?) → qG P ops Q n eZ a0 w0 H0 Γ rest → (∀ (j : Nat) (R : Rel),Γ[j]? = some R → wh R) →
  (∀ (j : Nat) (o : Oper) (R : Rel),Γ[j]? = some R → ops[j]? = some o → if eZ.contains j = true then zS P ops n a0 w0 H0 Γ o R else zU P ops n a0 w0 H0 Γ o R) →
  ∃ Γ',Γ'.length = Γ.length + rest.length ∧ (∀ (j : Nat) (R : Rel),Γ'[j]? = some R → wh R) ∧
   (∀ (j : Nat) (o : Oper) (R : Rel),Γ'[j]? = some R → ops[j]? = some o → if eZ.contains j = true then zS P ops n a0 w0 H0 Γ' o R else zU P ops n a0 w0 H0 Γ' o R) ∧ ∀ W H,Grow w0 H0 W H → xX P ops Q n W H (ops.toList.take n) Γ' a0
 | [],Γ,_,h,az,ax => ⟨Γ,by simp,az,ax,h⟩
 | o :: rest,Γ,aA,⟨R,bf,dX,h⟩,az,ax => by
  have Sf : ∀ (o' : Oper) (a : Act) (w : World) (H : bl),rG ops (Γ ++ [R]) o' a w H → rG ops Γ o' a w H := fun o' a w H hp j jg hw sT => hp j jg hw (by
   rw [List.getElem?_append_left (List.getElem?_eq_some_iff.1 sT).1]; exact sT)
  have Sc : ∀ (o' : Oper) (jg : Rel) (b : Bool),(if b = true then zS P ops n a0 w0 H0 Γ o' jg else zU P ops n a0 w0 H0 Γ o' jg) → (if b = true then zS P ops n a0 w0 H0 (Γ ++ [R]) o' jg else zU P ops n a0 w0 H0 (Γ ++ [R]) o' jg) := fun o' jg b aI => by
   cases b with
   | true => simp only [if_true] at aI ⊢; exact fun a w H aJ hp ao => aI a w H aJ (Sf _ _ _ _ hp) ao
   | false => simp only [Bool.false_eq_true,if_false] at aI ⊢; exact fun a w H aJ hp ao => aI a w H aJ (Sf _ _ _ _ hp) ao
  have dZ : ∀ (j : Nat) (jg : Rel),(Γ ++ [R])[j]? = some jg → (j < Γ.length ∧ Γ[j]? = some jg) ∨ (j = Γ.length ∧ jg = R) := fun j jg aN => by
   rcases Nat.lt_or_ge j Γ.length with af | af
   ·rw [List.getElem?_append_left af] at aN; exact .inl ⟨af,aN⟩
   ·rw [List.getElem?_append_right af] at aN
    have aj : j - Γ.length = 0 := by
     have := (List.getElem?_eq_some_iff.1 aN).1; simp at this; omega
    rw [aj] at aN; simp at aN
    exact .inr ⟨by omega,aN.symm⟩
  obtain ⟨Γ',af,aj,av,aY⟩ := O9 rest (Γ ++ [R]) (fun j => by
    rcases aA (j + 1) with h | h
    ·exact .inl (by simpa using h)
    ·exact .inr (by simpa [Nat.add_assoc,Nat.add_comm 1 j] using h)) h
   (fun j jg aN => by rcases dZ j jg aN with ⟨_,h⟩ | ⟨_,rfl⟩; exact az j jg h; exact bf)
   (fun j o' jg aN fy => by
    rcases dZ j jg aN with ⟨_,h⟩ | ⟨rfl,rfl⟩
    ·exact Sc _ _ _ (ax j o' jg h fy)
    ·have : ops[Γ.length]? = some o := by
      rcases aA 0 with h | h
      ·simp at h
      ·simpa using h.symm
     rw [this] at fy; cases fy
     exact Sc _ _ _ dX)
  exact ⟨Γ',by simp [af]; omega,aj,av,aY⟩

def By (ops : Array Oper) (n : Nat) (ju : Nat) : Bool := (ops.toList.all fun o => match o.dst with | some d => decide (d < ju) | none => true) && ((ops.toList.take n).all fun o => o.dst.isSome)

theorem acB {eZ : List Nat} {w : World} (aB : zX ops n eZ = true) (a6 : By ops n a0.tmps.size = true)
  (kv : ∀ c a (d : Tmp) v w,Q (.panic c) (Act.put a (some d) v) w → Q (.panic c) a w) (aJ : Grow w0 H0 w H0)
  (h : qG P ops Q n eZ a0 w0 H0 [] (ops.toList.take n)) : wpAny P .any ops Q ops.size (Array.replicate ops.size false) a0 w := by
 have aZ := PO aB
 unfold By at a6
 simp only [Bool.and_eq_true,List.all_eq_true] at a6
 obtain ⟨afJ,w4⟩ := a6
 have GM : ∀ j : Nat,(ops.toList.take n)[j]? = none ∨ (ops.toList.take n)[j]? = ops[([] : List Rel).length + j]? := fun j => by
  by_cases aN : j < n
  ·right; rw [List.getElem?_take,if_pos aN]; simp
  ·left; rw [List.getElem?_take,if_neg aN]
 obtain ⟨Γ,af,aj,av,aY⟩ := O9 _ [] GM h (fun j R aN => by simp at aN) (fun j o R aN => by simp at aN)
 have hlen : Γ.length = n := by rw [af]; simp; have := aZ.le; omega
 refine acz (a0 := a0) (w0 := w0) (H0 := H0) aZ hlen aj (fun j o R bf ax ni => ?_) (fun j o R bf ax ni => ?_) kv ?_ ?_ ?_ _ _ _ _ ?_ ?_
 ·have := av j o R bf ax
  rw [if_neg (by simpa using ni)] at this
  exact this
 ·have := av j o R bf ax
  rw [if_pos (by simpa using ni)] at this
  exact this
 ·intro i o d ax Gj
  have := afJ o (by rw [List.mem_iff_getElem?]; exact ⟨i,by simpa using ax⟩)
  rw [Gj] at this
  simpa using this
 ·intro i o aq ax a9
  have := w4 o (by rw [List.mem_iff_getElem?]; exact ⟨i,by rw [List.getElem?_take,if_pos aq]; simpa using ax⟩)
  rw [a9] at this; cases this
 ·intro a w' H sV aA ao
  have bu := aY w' H sV
  have hp := Pm (P := P) (Q := Q) (n := n) a (ops.toList.take n) Γ 0 a0 (by rw [hlen]; simp; have := aZ.le; omega) (fun j R bf => by rw [Nat.zero_add]; exact aA j R bf) bu
  rw [Un a _ 0 a0 (fun j => GM j) ao.1.symm ao.2.1.symm (fun t => ?_)] at hp
  ·exact hp
  ·by_cases aL : tj ops n t = true
   ·exact .inl (ao.2.2 t aL).symm
   ·right
    unfold tj at aL
    rw [List.all_eq_true] at aL
    simp only [bne_iff_ne,ne_eq] at aL
    by_cases hex : ∃ o ∈ ops.toList.take n,o.dst = some t
    ·exact hex
    ·exact absurd (fun o ax cy => hex ⟨o,ax,cy⟩) aL
 ·unfold mD
  rw [Array.toList_replicate,List.countP_replicate]; simp
 ·have r5 : ∀ j,(Array.replicate ops.size false).getD j false = false := fun j => by
   rw [Array.getD_eq_getD_getElem?,Array.getElem?_replicate]; split <;> rfl
  exact ⟨H0,aJ,fun j R aN => (by rw [r5 j] at aN; cases aN),⟨rfl,rfl,fun _ _ => rfl⟩,by simp,fun j _ => r5 j,fun j o aN => (by rw [r5 j] at aN; cases aN)⟩

theorem aoB {id : Nat} (n : Nat) (eZ : List Nat) (H0 : bl) (hm : P.follows .mixedOrders = true) (aB : zX ops n eZ = true) (a6 : By ops n a0.tmps.size = true)
  (kv : ∀ c a (d : Tmp) v w,Q (.panic c) (Act.put a (some d) v) w → Q (.panic c) a w) (ao : Sub H0 w0)
  (h : qG P ops Q n eZ a0 w0 H0 [] (ops.toList.take n)) : (Code.region id ops true).wp P Q a0 w0 :=
 wp_region_any hm (acB aB a6 kv (Grow.refl ao).drew h)

end
section
variable {P : Program} {ops : Array Oper} {Q : Exit → Act → World → Prop} {n : Nat} {eZ : List Nat} {a0 : Act} {w0 : World} {H0 : bl} {Γ : List Rel} {o : Oper} {rest : List Oper}

theorem ai6 {a : Act} (h : qQ ops n a0 a) {t : Tmp} (aL : tj ops n t = true) : a.eval (.tmp t) = a0.eval (.tmp t) := by
 have := h.2.2 t aL
 simp [Act.eval,this]
theorem aoG {a : Act} {j : Nat} {b : Bool} (h : mh ops a j = .bool b) : yielded ops a.tmps j = some b := by
 unfold mh at h
 unfold yielded
 cases a6 : (ops[j]?).bind (·.dst) with
 | none => rw [a6] at h; cases h
 | some t =>
  rw [a6] at h
  simp only [Act.eval] at h
  cases aL : a.tmps[t]? with
  | none => rw [Array.getD_eq_getD_getElem?,aL] at h; cases h
  | some v => rw [Array.getD_eq_getD_getElem?,aL] at h; simp only [Option.getD_some] at h; subst h; simp [aL]
theorem Bc {y : Nat → Option Bool} (h : o.guard = none) : Region.wanted o y = true := by simp [Region.wanted,h]
theorem Ek {a : Act} {j : Nat} {b gb : Bool} (h : o.guard = some (j,b)) (aN : mh ops a j = .bool gb) : Region.wanted o (yielded ops a.tmps) = (gb == b) := by
 simp [Region.wanted,h,aoG aN]
theorem arB {a : Act} {j : Nat} {b : Bool} (h : o.guard = some (j,b)) (aN : mh ops a j = .bool b) : Region.wanted o (yielded ops a.tmps) = true := by
 rw [Ek h aN]; exact beq_self_eq_true b

def E0 (w : World) (H : bl) {X : Type} (c : X → Value) (Φ : X → bl → Prop) (e : Ending) (w' : World) : Prop := ∃ x H',e = .returned (c x) ∧ Grow w H w' H' ∧ Φ x H'
theorem DY {w : World} {H : bl} {X : Type} {c : X → Value} {Φ : X → bl → Prop} {w' : World} (x : X) (H' : bl) (aJ : Grow w H w' H') (ar : Φ x H') : E0 w H c Φ (.returned (c x)) w' := ⟨x,H',rfl,aJ,ar⟩
def IW (P : Program) (f : FuncId) (args : Array Value) (w : World) (H : bl) {X : Type} (c : X → Value) (Φ : X → bl → Prop) : Prop := Calls P f args w (E0 w H c Φ)
def IX (w : World) (v : Value) (e : Ending) (w' : World) : Prop := e = .returned v ∧ Below w.heap.size w w'
theorem akY {w : World} {v : Value} {w' : World} (aI : Below w.heap.size w w') : IX w v (.returned v) w' := ⟨rfl,aI⟩
def wm (P : Program) (f : FuncId) (args : Array Value) (w : World) (v : Value) : Prop :=
 Calls P f args w (IX w v)

theorem IW.use {P : Program} {f : FuncId} {args : Array Value} {w : World} {H : bl} {X : Type} {c : X → Value} {Φ : X → bl → Prop} {jg : Ending → World → Prop} (h : IW P f args w H c Φ)
  (k : ∀ x w' H',Grow w H w' H' → Φ x H' → jg (.returned (c x)) w') : Calls P f args w jg := Calls.mono h fun _ w' he => by obtain ⟨x,H',rfl,aJ,ar⟩ := he; exact k x w' H' aJ ar
theorem wm.use {P : Program} {f : FuncId} {args : Array Value} {w : World} {v : Value} {jg : Ending → World → Prop} (h : wm P f args w v)
  (k : ∀ w',Below w.heap.size w w' → jg (.returned v) w') : Calls P f args w jg := Calls.mono h fun _ w' he => by obtain ⟨rfl,aI⟩ := he; exact k w' aI
theorem DZ {w : World} {k : IntKind} {x y : Int} {w' : World} (h : x = y) (aI : Below w.heap.size w w') : IX w (.int k y) (.returned (.int k x)) w' := ⟨by rw [h],aI⟩
theorem acA (h : ∀ W H,Grow w0 H0 W H → xX P ops Q n W H (ops.toList.take n) Γ a0) : qG P ops Q n eZ a0 w0 H0 Γ [] := h
variable {w : World} {H : bl} {os : List Oper} {wo : List Rel} {a : Act}
end

def j3 (w : World) (b : Nat) (cs : Array Value) (t : TypeId) : Prop := w.heap[b]? = some (.cells cs t (0,0))
structure uL (w : World) (b : Nat) (cs : Array Value) (t : TypeId) (w' : World) : Prop where
 box : j3 w' b cs t
 same : ∀ k,k ≠ b → w'.heap[k]? = w.heap[k]?
 size : w'.heap.size = w.heap.size
 os : w'.os = w.os
 tape : w'.tape = w.tape
 output : w'.output = w.output

theorem j3.lt {w : World} {b : Nat} {cs : Array Value} {t : TypeId} (h : j3 w b cs t) : b < w.heap.size := (Array.getElem?_eq_some_iff.1 h).1
theorem j3.cell {w : World} {b : Nat} {cs : Array Value} {t : TypeId} (h : j3 w b cs t) : ∀ i,w.cell? ⟨b,i,none⟩ = cs[i]? := fun i => by
 unfold j3 at h
 simp [World.cell?,h]
theorem j3.frozen {w : World} {b : Nat} {cs : Array Value} {t : TypeId} (h : j3 w b cs t) : ∀ i,w.frozen? ⟨b,i,none⟩ = false := fun i => by
 unfold j3 at h
 simp [World.frozen?,h]
theorem j3.grow {w w' : World} {H H' : bl} {b : Nat} {cs : Array Value} {t : TypeId} (h : j3 w b cs t) (g : Grow w H w' H') : j3 w' b cs t :=
 (g.below.block b h.lt).trans h
theorem j3.below {w w' : World} {b B : Nat} {cs : Array Value} {t : TypeId} (h : j3 w b cs t) (g : Below B w w') (fw : b < B) : j3 w' b cs t := (g.block b fw).trans h
theorem j3.put {w w' : World} {b gb : Nat} {cs cs' : Array Value} {t t' : TypeId} (h : j3 w b cs t) (p : uL w gb cs' t' w') (dj : b ≠ gb) : j3 w' b cs t := (p.same b dj).trans h
theorem j3.grownBy {w w' : World} {b : Nat} {row : Option Nat} {cs : Array Value} {t : TypeId} (h : j3 w b cs t) (g : w.grownBy w' row) (dj : some b ≠ row) : j3 w' b cs t := (g.block b h.lt dj).trans h
theorem uL.grow {w fB w' : World} {H H1 : bl} {b : Nat} {cs : Array Value} {t : TypeId} (p : uL fB b cs t w') (g : Grow w H fB H1) (aI : w.heap.size ≤ b) (om : H1 b = none) : Grow w H w' H1 :=
 ⟨⟨p.os.trans g.below.os,p.tape.trans g.below.tape,p.output.trans g.below.output,by rw [p.size]; exact g.below.size,fun k az => (p.same k (by omega)).trans (g.below.block k az)⟩,
  ⟨fun k o az => (p.same k (fun e => by rw [e,om] at az; cases az)).trans (g.sub k o az),g.sub.rW⟩,g.old⟩
theorem Sub.put {w w' : World} {H : bl} {b : Nat} {cs : Array Value} {t : TypeId} (h : Sub H w) (p : uL w b cs t w') (om : H b = Option.none) : Sub H w' :=
 ⟨fun k o az => (p.same k (fun e => by rw [e,om] at az; cases az)).trans (h k o az),h.rW⟩
theorem Ht {w : World} {b : Nat} {cs cs' : Array Value} {t : TypeId} (h : j3 w b cs t) : uL w b cs' t (w.setRow b cs') := by
 refine ⟨setRow_heap w b cs cs' t _ h,fun k az => ?_,?_,rfl,rfl,rfl⟩
 ·simp only [World.setRow,Array.getElem?_modify]
  rw [if_neg (by omega)]
 ·simp [World.setRow]

section
variable {P : Program} {ops : Array Oper} {rest : List Oper} {o : Oper} {a : Act} {w : World} {Q : Exit → Act → World → Prop}

theorem Nn (t : TypeId) (b : Nat) (cs : Array Value) (t0 : TypeId) (aI : j3 w b cs t0) (val : Value) (off : Nat) (aq : (P.info? t).map (·.size) = some val.cells.size) (a9 : off + val.cells.size ≤ cs.size) (af : ∀ v ∈ val.cells.toList,v.oneCell' = true) :
  (Instr.storeAt t (.pointer (some ⟨b,off,none⟩)) val).run P w = .ok () (w.setRow b (cs.toList.take off ++ val.cells.toList ++ cs.toList.drop (off + val.cells.size)).toArray) := by
 have hi : ∃ i,P.info? t = some i ∧ i.size = val.cells.size := by
  cases h : P.info? t with
  | none => rw [h] at aq; cases aq
  | some i => rw [h] at aq; exact ⟨i,rfl,by simpa using aq⟩
 obtain ⟨i,aT,ao⟩ := hi
 have := run_storeCells_at (P := P) b off t0 val.cells.toList 0 cs w aI (by simpa using a9) af
 simp only [Nat.add_zero,Array.length_toList] at this
 simp [Instr.storeAt,Instr.sureAddr,storeVar,sizeOf,typeInfo,aT,ao,this,Result.andThen]

variable {c : Code}
end

abbrev xW (α : Type) := bl → List Value → α → Prop
def Pt {α : Type} (R : xW α) : Prop := ∀ H H' cs x,hk H H' → R H cs x → R H' cs x

def j4 {α : Type} (k : Nat) (R : xW α) (H : bl) (xs : List Value) (l : List α) : Prop :=
 xs.length = l.length * k ∧ ∀ i x,l[i]? = some x → R H ((xs.drop (i * k)).take k) x

def nO {α : Type} (k : Nat) (R : xW α) (H : bl) (a : Option Addr) (n c : Nat) (l : List α) : Prop :=
 ∃ xs : List Value,l.length = n ∧ n ≤ c ∧ (a = none → c = 0) ∧ j4 k R H xs l ∧ (∀ u ∈ xs,u.oneCell' = true) ∧
  ∀ j u,xs[j]? = some u → ∃ b o cells t c0,a = some ⟨b,o,none⟩ ∧ H b = some (.cells cells t c0) ∧ cells[o + j]? = some u

variable {α : Type} {k : Nat} {R : xW α} {H H' : bl} {a : Option Addr} {n c : Nat} {l : List α} {xs : List Value}

theorem j4.le (h : j4 k R H xs l) (hm : Pt R) (g : hk H H') : j4 k R H' xs l := ⟨h.1,fun i x ar => hm _ _ _ _ g (h.2 i x ar)⟩
theorem nO.le (h : nO k R H a n c l) (hm : Pt R) (g : hk H H') : nO k R H' a n c l := by
 obtain ⟨xs,af,aj,av,aY,bM,bN⟩ := h
 refine ⟨xs,af,aj,av,aY.le hm g,bM,fun j u hu => ?_⟩
 obtain ⟨b,o,cells,t,c0,a1,a7,ct⟩ := bN j u hu
 exact ⟨b,o,cells,t,c0,a1,g _ _ a7,ct⟩
theorem j4.nil : j4 k R H [] ([] : List α) := ⟨by simp,fun i x h => by simp at h⟩
theorem j4.append {ys : List Value} {m : List α} (h : j4 k R H xs l) (e6 : j4 k R H ys m) : j4 k R H (xs ++ ys) (l ++ m) := by
 refine ⟨by simp [h.1,e6.1,Nat.add_mul],fun i x ar => ?_⟩
 rcases Nat.lt_or_ge i l.length with aq | aq
 ·rw [List.getElem?_append_left aq] at ar
  have af := h.2 i x ar
  have aj : i * k + k ≤ xs.length := by rw [h.1]; have := Nat.mul_le_mul_right k (show i + 1 ≤ l.length from aq); rw [Nat.add_mul] at this; omega
  rw [List.drop_append_of_le_length (by omega),List.take_append_of_le_length (by simp; omega)]
  exact af
 ·rw [List.getElem?_append_right aq] at ar
  have af := e6.2 _ x ar
  have aj : i * k - xs.length = (i - l.length) * k := by rw [h.1,Nat.sub_mul]
  have av : xs.length ≤ i * k := by rw [h.1]; exact Nat.mul_le_mul_right k aq
  rw [List.drop_append,List.drop_of_length_le av,List.nil_append,aj]
  exact af
theorem j4.one {es : List Value} {x : α} (aE : es.length = k) (h : R H es x) : j4 k R H es [x] :=
 ⟨by simp [aE],fun i y aV => by
  cases i with
  | zero => simp at aV; subst aV; simpa [← aE] using h
  | succ i => simp at aV⟩
theorem j4.take (h : j4 k R H xs l) (m : Nat) : j4 k R H (xs.take (m * k)) (l.take m) := by
 refine ⟨?_,fun i x ar => ?_⟩
 ·rw [List.length_take,List.length_take,h.1]
  rcases Nat.le_total m l.length with hm | hm
  ·rw [Nat.min_eq_left hm,Nat.min_eq_left (Nat.mul_le_mul_right k hm)]
  ·rw [Nat.min_eq_right hm,Nat.min_eq_right (Nat.mul_le_mul_right k hm)]
 ·rw [List.getElem?_take] at ar
  split at ar
  ·rename_i aq
   have af := h.2 i x ar
   have aj : i * k + k ≤ m * k := by have := Nat.mul_le_mul_right k (show i + 1 ≤ m from aq); rw [Nat.add_mul] at this; omega
   rw [List.drop_take,List.take_take,Nat.min_eq_left (by omega)]
   exact af
  ·cases ar
theorem j4.drop (h : j4 k R H xs l) (m : Nat) : j4 k R H (xs.drop (m * k)) (l.drop m) := by
 refine ⟨?_,fun i x ar => ?_⟩
 ·rw [List.length_drop,List.length_drop,h.1,Nat.sub_mul]
 ·rw [List.getElem?_drop] at ar
  have af := h.2 _ x ar
  rw [List.drop_drop]
  rw [Nat.add_mul] at af
  exact af

theorem nO.len (h : nO k R H a n c l) : l.length = n := h.choose_spec.1
theorem nO.cap (h : nO k R H a n c l) : n ≤ c := h.choose_spec.2.1
theorem nO.nil (R : xW α) (H : bl) : nO k R H none 0 0 ([] : List α) := ⟨[],rfl,Nat.le_refl _,fun _ => rfl,j4.nil,by simp,fun j u h => by simp at h⟩

theorem nO.at (h : nO k R H a n c l) {i : Nat} {x : α} (ar : l[i]? = some x) (az : 0 < k) :
  ∃ b o es,a = some ⟨b,o,none⟩ ∧ es.length = k ∧ R H es x ∧ (∃ ob,H b = some ob) ∧ ∀ w,Sub H w → ∀ j u,es[j]? = some u → w.cell? ⟨b,o + i * k + j,none⟩ = some u := by
 obtain ⟨xs,af,aj,av,aY,bM,bN⟩ := h
 have aq : i < l.length := (List.getElem?_eq_some_iff.1 ar).1
 have hlen : i * k + k ≤ xs.length := by rw [aY.1]; have := Nat.mul_le_mul_right k (show i + 1 ≤ l.length from aq); rw [Nat.add_mul] at this; omega
 obtain ⟨Eg,Dg⟩ : ∃ u,xs[i * k]? = some u := ⟨xs[i * k]'(by omega),by simp⟩
 obtain ⟨b,o,cells,t,c0,a1,a7,ct⟩ := bN _ Eg Dg
 refine ⟨b,o,(xs.drop (i * k)).take k,a1,by simp; omega,aY.2 i x ar,⟨_,a7⟩,fun w hw j u hu => ?_⟩
 have aN : j < k := by have := (List.getElem?_eq_some_iff.1 hu).1; simp at this; omega
 rw [List.getElem?_take,if_pos aN,List.getElem?_drop] at hu
 obtain ⟨gb,o',Js,t',JX,f1,f2,f3⟩ := bN _ u hu
 rw [a1] at f1
 simp only [Option.some.injEq,Addr.mk.injEq] at f1
 obtain ⟨rfl,rfl,_⟩ := f1
 rw [a7] at f2
 simp only [Option.some.injEq,Obj.cells.injEq] at f2
 obtain ⟨rfl,_,_⟩ := f2
 have := hw _ _ a7
 rw [← Nat.add_assoc] at f3
 simp [World.cell?,this,f3]

theorem nO.cells (h : nO k R H a n c l) : ∃ xs : List Value,xs.length = n * k ∧ j4 k R H xs l ∧ (∀ u ∈ xs,u.oneCell' = true) ∧ ∀ w,Sub H w → ∀ cm,a = some cm → ∀ j u,xs[j]? = some u → w.cell? (cm.add j) = some u := by
 obtain ⟨xs,af,aj,av,aY,bM,bN⟩ := h
 refine ⟨xs,by rw [aY.1,af],aY,bM,fun w hw cm afy j u hu => ?_⟩
 obtain ⟨b,o,cells,t,c0,a1,a7,ct⟩ := bN j u hu
 rw [afy] at a1
 cases a1
 rw [Addr.add_lit]
 have := hw _ _ a7
 simp [World.cell?,this,ct]

theorem nO.lit {b : Nat} {cs : Array Value} {t : TypeId} {c0 : Nat × Nat} (om : H b = some (.cells cs t c0)) (aZ : j4 k R H cs.toList l) (af : ∀ u ∈ cs.toList,u.oneCell' = true) (a9 : l.length = n) : nO k R H (some ⟨b,0,none⟩) n n l :=
 ⟨cs.toList,a9,Nat.le_refl _,fun e => (by cases e),aZ,af,fun j u hu => ⟨b,0,cs,t,c0,rfl,om,by simpa using hu⟩⟩

structure Z5 where
 a : Option Addr
 n : Nat
 c : Nat

end Go.Proofs.YtkmbcjnaaokilaaGreatDoor
namespace Go.Proofs.YtkmbcjnaaokilaaGreatDoor
set_option linter.unusedSimpArgs false
set_option linter.unusedVariables false
open Go.RowKit Go.Maps

def sq (D : DataW Value) (f : Int → Option Value) : Prop := ∃ es,D = .map es ∧ es.Pairwise (fun p q => p.1.before q.1 = true) ∧ ∀ p,p ∈ es ↔ ∃ k v,p = (.int .i64 k,.held v) ∧ f k = some v
theorem sq.one {D Pj : DataW Value} {f : Int → Option Value} (h : sq D f) (e6 : sq Pj f) : D = Pj := by
 obtain ⟨es,rfl,r,m⟩ := h
 obtain ⟨FK,rfl,h7,lY⟩ := e6
 rw [eq_of_mem_rising r h7 (fun p => (m p).trans (lY p).symm)]
theorem sq.nil {f : Int → Option Value} (h : ∀ k,f k = none) : sq (.map []) f := ⟨[],rfl,List.Pairwise.nil,fun p => ⟨fun h => by simp at h,fun ⟨k,v,_,aj⟩ => by rw [h] at aj; cases aj⟩⟩

theorem h4.jO {bd : TypeId} {o : Obj} {n b : Nat} {f : Int → Option Value} {w : World} (h : h4 bd o n f) (aI : w.heap[b]? = some o) (az : Tryz.prog.underlying bd = some (.int .i64)) :
  ∃ D : DataW Value,w.ownsMap Tryz.prog bd jx b n D ∧ sq D f := by
 obtain ⟨D,jc,aZ⟩ := h.owns aI
 have K := int_keyed (P := Tryz.prog) az
 have agT := jc
 obtain ⟨es,rfl,vA,CU⟩ := jc.canon K
 have pG := apart_of_rising vA
 have CT : ∀ p ∈ es,∃ k v,p = (.int .i64 k,.held v) := by
  obtain ⟨aqa,clock,_,F,_,ja⟩ := agT
  simp only [DataW.map.injEq] at ja
  intro p hp
  rw [ja] at hp
  obtain ⟨x,ar,rfl⟩ := List.mem_map.1 (mem_sorted.1 hp)
  obtain ⟨y,aV⟩ := F.reads x ar
  obtain ⟨z,bR,LV⟩ := Go.WideElems.rd_val aV
  have vz := Go.WideElems.rg_of aV
  obtain ⟨v,bj⟩ := Maps.fit_keys F _ (List.mem_map.2 ⟨x,ar,rfl⟩)
  obtain ⟨k,_,aH,_⟩ := Maps.keyOf_int_inv az bj
  simp only [jx,Option.some.injEq] at bR
  refine ⟨k,x.val,Prod.ext aH ?_⟩
  rw [vz,LV,← bR]
 refine ⟨_,jc,es,rfl,vA,fun p => ⟨fun hp => ?_,fun ⟨k,v,hp,bj⟩ => ?_⟩⟩
 ·obtain ⟨k,v,rfl⟩ := CT p hp
  refine ⟨k,v,rfl,?_⟩
  have eM := WideAt.atKey_mem (entries := es) (k := .int .i64 k) (d := .held v) .nil (CU _ hp) pG hp
  rw [aZ k] at eM
  cases e : f k with
  | some hb => rw [e] at eM; simp only [DataW.held.injEq] at eM; rw [eM]
  | none => rw [e] at eM; cases eM
 ·subst hp
  have eM := aZ k
  rw [bj] at eM
  cases cy : Maps.has (.map es) (.int .i64 k) with
  | false => rw [Maps.atKey_of_not_has cy .nil] at eM; cases eM
  | true =>
   obtain ⟨p,hp,ao⟩ := List.any_eq_true.1 (show es.any (fun p => p.1.sameKey (.int .i64 k)) = true from cy)
   have a1 : p.1 = .int .i64 k := WideAt.sameKey_eq ao
   have a7 : (DataW.map es).atKey (.int .i64 k) .nil = p.2 := by rw [← a1]; exact WideAt.atKey_mem .nil (CU p hp) pG hp
   have : p = (.int .i64 k,.held v) := Prod.ext a1 (by rw [← a7,eM])
   rw [← this]; exact hp

end Go.Proofs.YtkmbcjnaaokilaaGreatDoor
namespace Go.Proofs.YtkmbcjnaaokilaaGreatDoor
set_option linter.unusedSimpArgs false
set_option linter.unusedVariables false
open Go.RowKit

inductive aw where
 | v (x : Value)
 | agg (cs : List aw)
 | bY (cs : List aw)
 | au (k : Nat) (g : Nat) (es : List (List aw))
 | mp (bd : TypeId) (f : Int → Option aw)
 | fn (f : Fn) (first cap : List aw)
 | ds (t : TypeId) (x : aw)
 | di (e : List aw) (off : Nat)
 | own (i : Nat)
 | ptr (i idx off : Nat)
 | any

def aw.one : aw → Bool
 | .agg _ | .bY _ => false
 | .v _ | .au .. | .mp .. | .fn .. | .ds .. | .di .. | .own _ | .ptr .. | .any => true
def aw.pure : aw → Bool
 | .agg _ | .bY _ | .own _ | .ptr .. => false
 | .v _ | .au .. | .mp .. | .fn .. | .ds .. | .di .. | .any => true

abbrev Env := Nat → Option (Value × Nat × Option Nat)
def eD : Env := fun _ => none
def fW (E E' : Env) : Prop := ∀ i p,E i = some p → E' i = some p

def Bi (g n c : Nat) : Prop := (g = 1 → c = n) ∧ (g = 0 → n = 0 → c = 0)

mutual
inductive cl (H : bl) : Env → aw → Value → Prop
 | v {E x} : x.oneCell' = true → cl H E (.v x) x
 | agg {E cs vs} : dg H E cs vs → (cs.all aw.one) = true → cl H E (.agg cs) (.agg vs.toArray)
 | bY {E cs vs} : dg H E cs vs → cl H E (.bY cs) (.tuple vs.toArray)
 | au {E k full es a n c xs} : eN H k es xs → es.length = n → n ≤ c → c ≤ maxLen → Bi full n c → (a = none → c = 0) →
   (∀ j u,xs[j]? = some u → ∃ b o cells t c0,a = some ⟨b,o,none⟩ ∧ H b = some (.cells cells t c0) ∧ cells[o + j]? = some u) → cl H E (.au k full es) (.slice a n c)
 | nA {E bd f} : (∀ i,f i = none) → cl H E (.mp bd f) (.map none)
 | mp {E bd f b o N F} : H b = some o → h4 bd o N F → N ≤ 1000000 → (∀ i,f i = none ↔ F i = none) → (∀ i s u,f i = some s → F i = some u → cl H eD s u) → cl H E (.mp bd f) (.map (some b))
 | fn {E f first cap vs us} : dg H eD first vs → dg H eD cap us → cl H E (.fn f first cap) (.func f vs.toArray us.toArray)
 | ds {E t x u} : cl H eD x u → cl H E (.ds t x) (.iface t u)
 | di {E e off b o xs} : dg H eD e xs → (e.all aw.one) = true →
   (∀ j u,xs[j]? = some u → ∃ cells t c0,H b = some (.cells cells t c0) ∧ cells[o + j]? = some u) → cl H E (.di e off) (.pointer (some ⟨b,o + off,none⟩))
 | own {E i u k b} : E i = some (u,k,b) → u.oneCell' = true → cl H E (.own i) u
 | ptr {E i idx off u k b} : E i = some (u,k,some b) → cl H E (.ptr i idx off) (.pointer (some ⟨b,idx * k + off,none⟩))
 | any {E u} : u.oneCell' = true → cl H E .any u
inductive dg (H : bl) : Env → List aw → List Value → Prop
 | nil {E} : dg H E [] []
 | cons {E x u cs vs} : cl H E x u → dg H E cs vs → dg H E (x :: cs) (u :: vs)
inductive eN (H : bl) : Nat → List (List aw) → List Value → Prop
 | nil {k} : eN H k [] []
 | cons {k e vs es xs} : dg H eD e vs → vs.length = k → (e.all aw.one) = true → eN H k es xs → eN H k (e :: es) (vs ++ xs)
end

section
variable {H H' : bl} {E E' : Env}

theorem mb (E : Env) : fW eD E := fun _ _ h => by cases h
theorem fW.refl (E : Env) : fW E E := fun _ _ h => h

theorem cl.aiJ (om : hk H H') {E x v} (h : cl H E x v) : ∀ E',fW E E' → cl H' E' x v := by
 refine cl.rec (motive_1 := fun E x v _ => ∀ E',fW E E' → cl H' E' x v) (motive_2 := fun E x v _ => ∀ E',fW E E' → dg H' E' x v) (motive_3 := fun k x v _ => eN H' k x v)
  ?_ ?_ ?_ ?_ ?_ ?_ ?_ ?_ ?_ ?_ ?_ ?_ ?_ ?_ ?_ ?_ h
 ·intro E x h E' _; exact .v h
 ·intro E cs vs _ af dW E' g; exact .agg (dW E' g) af
 ·intro E cs vs _ dW E' g; exact .bY (dW E' g)
 ·intro E k full es a n c xs _ af aj av aY bM bN dW E' _
  exact .au dW af aj av aY bM (fun j u hu => by obtain ⟨b,o,cells,t,c0,a1,a7,ct⟩ := bN j u hu; exact ⟨b,o,cells,t,c0,a1,om _ _ a7,ct⟩)
 ·intro E bd f h E' _; exact .nA h
 ·intro E bd f b o N F af aj av aY _ dW E' _; exact .mp (om _ _ af) aj av aY (fun i s u a b => dW i s u a b eD (fW.refl _))
 ·intro E f first cap vs us _ _ vE vF E' _; exact .fn (vE eD (fW.refl _)) (vF eD (fW.refl _))
 ·intro E t x u _ dW E' _; exact .ds (dW eD (fW.refl _))
 ·intro E e off b o xs _ af aj dW E' _
  exact .di (dW eD (fW.refl _)) af (fun j u hu => by obtain ⟨cells,t,c0,a7,ct⟩ := aj j u hu; exact ⟨cells,t,c0,om _ _ a7,ct⟩)
 ·intro E i u k b h af E' g; exact .own (g _ _ h) af
 ·intro E i idx off u k b h E' g; exact .ptr (g _ _ h)
 ·intro E u h E' _; exact .any h
 ·intro E E' _; exact .nil
 ·intro E x u cs vs _ _ vE vF E' g; exact .cons (vE E' g) (vF E' g)
 ·intro k; exact .nil
 ·intro k e vs es xs _ af aj _ vE vF; exact .cons (vE eD (fW.refl _)) af aj vF
theorem cl.mono {x v} (h : cl H E x v) (om : hk H H') (g : fW E E') : cl H' E' x v := h.aiJ om E' g
theorem dg.mono {E E' : Env} (om : hk H H') (g : fW E E') : ∀ {cs vs},dg H E cs vs → dg H' E' cs vs
 | _,_,.nil => .nil
 | _,_,.cons h t => .cons (h.mono om g) (dg.mono om g t)
theorem eN.mono (om : hk H H') {k} : ∀ {es xs},eN H k es xs → eN H' k es xs
 | _,_,.nil => .nil
 | _,_,.cons h af aj t => .cons (h.mono om (fW.refl _)) af aj (eN.mono om t)

theorem cl.pure {x v} (h : cl H E x v) (hp : x.pure = true) (E' : Env) : cl H E' x v := by
 cases h with
 | v h => exact .v h
 | agg => cases hp
 | bY => cases hp
 | au a b c d e f g => exact .au a b c d e f g
 | nA h => exact .nA h
 | mp a b c d e => exact .mp a b c d e
 | fn a b => exact .fn a b
 | ds a => exact .ds a
 | di a b c => exact .di a b c
 | any h => exact .any h
 | own => cases hp
 | ptr => cases hp
theorem dg.pure {E : Env} (E' : Env) : ∀ {cs vs},dg H E cs vs → cs.all aw.pure = true → dg H E' cs vs
 | _,_,.nil,_ => .nil
 | _,_,.cons h t,hp => by simp only [List.all_cons,Bool.and_eq_true] at hp; exact .cons (h.pure hp.1 E') (dg.pure E' t hp.2)

theorem cl.Hm {x v} (h : cl H E x v) (af : x.one = true) : v.oneCell' = true := by
 cases h with
 | v h => exact h
 | agg => cases af
 | bY => cases af
 | own _ h => exact h
 | any h => exact h
 | _ => rfl
theorem dg.length {E} : ∀ {cs : List aw} {vs : List Value},dg H E cs vs → cs.length = vs.length
 | _,_,.nil => rfl
 | _,_,.cons _ t => by simp [dg.length t]
theorem dg.one {E} : ∀ {cs : List aw} {vs : List Value},dg H E cs vs → cs.all aw.one = true → ∀ u ∈ vs,u.oneCell' = true
 | _,_,.nil,_ => by simp
 | _,_,.cons h t,a5 => by
  simp only [List.all_cons,Bool.and_eq_true] at a5
  intro u hu
  rcases List.mem_cons.1 hu with rfl | hu
  ·exact h.Hm a5.1
  ·exact dg.one t a5.2 u hu
theorem dg.get {E} : ∀ {cs : List aw} {vs : List Value} {i : Nat} {x : aw},dg H E cs vs → cs[i]? = some x → ∃ u,vs[i]? = some u ∧ cl H E x u
 | _,_,_,_,.nil,h => by simp at h
 | _,_,0,_,.cons h t,ar => by simp at ar; subst ar; exact ⟨_,rfl,h⟩
 | _,_,i + 1,_,.cons h t,ar => by simp at ar ⊢; exact dg.get t ar
theorem dg.append {E} : ∀ {cs cs' : List aw} {vs l8 : List Value},dg H E cs vs → dg H E cs' l8 → dg H E (cs ++ cs') (vs ++ l8)
 | _,_,_,_,.nil,h => h
 | _,_,_,_,.cons h t,e6 => .cons h (dg.append t e6)
theorem dg.take {E} : ∀ {cs : List aw} {vs : List Value} (n : Nat),dg H E cs vs → dg H E (cs.take n) (vs.take n)
 | _,_,0,_ => by simp; exact .nil
 | _,_,n + 1,.nil => by simp; exact .nil
 | _,_,n + 1,.cons h t => by simp; exact .cons h (dg.take n t)
theorem dg.drop {E} : ∀ {cs : List aw} {vs : List Value} (n : Nat),dg H E cs vs → dg H E (cs.drop n) (vs.drop n)
 | _,_,0,h => by simpa using h
 | _,_,n + 1,.nil => by simp; exact .nil
 | _,_,n + 1,.cons h t => by simp; exact dg.drop n t
theorem dg.set {E} {x : aw} {u : Value} (ar : cl H E x u) : ∀ {cs : List aw} {vs : List Value} (n : Nat),dg H E cs vs → dg H E (cs.set n x) (vs.set n u)
 | _,_,_,.nil => by simp; exact .nil
 | _,_,0,.cons h t => by simp; exact .cons ar t
 | _,_,n + 1,.cons h t => by simp; exact .cons h (dg.set ar n t)

theorem eN.length {k} : ∀ {es : List (List aw)} {xs : List Value},eN H k es xs → xs.length = es.length * k
 | _,_,.nil => by simp
 | _,_,.cons h af _ t => by simp [eN.length t,af,Nat.add_mul,Nat.add_comm]
theorem eN.one {k} : ∀ {es : List (List aw)} {xs : List Value},eN H k es xs → ∀ u ∈ xs,u.oneCell' = true
 | _,_,.nil => by simp
 | _,_,.cons h af aj t => by
  intro u hu
  rcases List.mem_append.1 hu with hu | hu
  ·exact h.one aj u hu
  ·exact eN.one t u hu
theorem eN.get {k} : ∀ {es : List (List aw)} {xs : List Value} {i : Nat} {e : List aw},eN H k es xs → es[i]? = some e →
  ∃ vs,vs.length = k ∧ dg H eD e vs ∧ e.all aw.one = true ∧ ∀ j u,vs[j]? = some u → xs[i * k + j]? = some u
 | _,_,_,_,.nil,h => by simp at h
 | _,_,0,_,.cons h af aj t,ar => by
  simp at ar; subst ar
  refine ⟨_,af,h,aj,fun j u hu => ?_⟩
  have := (List.getElem?_eq_some_iff.1 hu).1
  rw [List.getElem?_append_left (by omega)]; simpa using hu
 | _,_,i + 1,_,.cons (vs := arz) h af aj t,ar => by
  simp at ar
  obtain ⟨vs,a,b,c,d⟩ := eN.get t ar
  refine ⟨vs,a,b,c,fun j u hu => ?_⟩
  rw [List.getElem?_append_right (by rw [Nat.add_mul]; omega)]
  have := d j u hu
  rw [← this]; congr 1; rw [Nat.add_mul]; omega
theorem eN.append {k} : ∀ {es FK : List (List aw)} {xs XX : List Value},eN H k es xs → eN H k FK XX → eN H k (es ++ FK) (xs ++ XX)
 | _,_,_,_,.nil,h => h
 | _,_,_,_,.cons h af aj t,e6 => by rw [List.append_assoc]; exact .cons h af aj (eN.append t e6)
theorem eN.take {k} : ∀ {es : List (List aw)} {xs : List Value} (n : Nat),eN H k es xs → eN H k (es.take n) (xs.take (n * k))
 | _,_,0,_ => by simp; exact .nil
 | _,_,n + 1,.nil => by simp; exact .nil
 | _,_,n + 1,.cons (vs := vs) (xs := xs) h af aj t => by
  have e : (vs ++ xs).take ((n + 1) * k) = vs ++ xs.take (n * k) := by
   rw [List.take_append,af,List.take_of_length_le (by rw [Nat.add_mul]; omega)]; congr 2; rw [Nat.add_mul]; omega
  rw [e,List.take_succ_cons]
  exact .cons h af aj (eN.take n t)
theorem eN.drop {k} : ∀ {es : List (List aw)} {xs : List Value} (n : Nat),eN H k es xs → eN H k (es.drop n) (xs.drop (n * k))
 | _,_,0,h => by simpa using h
 | _,_,n + 1,.nil => by simp; exact .nil
 | _,_,n + 1,.cons (vs := vs) (xs := xs) h af aj t => by
  have e : (vs ++ xs).drop ((n + 1) * k) = xs.drop (n * k) := by
   rw [List.drop_append,af,List.drop_of_length_le (by rw [Nat.add_mul]; omega),List.nil_append]; congr 1; rw [Nat.add_mul]; omega
  rw [e,List.drop_succ_cons]
  exact eN.drop n t
theorem eN.akm {k} {e : List aw} {vs : List Value} (h : dg H eD e vs) (aE : vs.length = k) (af : e.all aw.one = true) : eN H k [e] vs := by
 have := eN.cons h aE af (eN.nil (H := H) (k := k)); simpa using this
theorem eN.set {k} {e : List aw} {vs : List Value} (h : dg H eD e vs) (aE : vs.length = k) (af : e.all aw.one = true) :
  ∀ {es : List (List aw)} {xs : List Value} (i : Nat),i < es.length → eN H k es xs → eN H k (es.set i e) (xs.take (i * k) ++ vs ++ xs.drop ((i + 1) * k))
 | es,xs,i,aq,bL => by
  have a := bL.take i
  have b := bL.drop (i + 1)
  rw [List.set_eq_take_append_cons_drop,if_pos aq]
  have := (a.append (eN.akm h aE af)).append b
  simpa using this
end

inductive bo where
 | box (t : TypeId) (cs : List aw)
 | row (e : TypeId) (k : Nat) (es : List (List aw))
 | map (bd : TypeId) (N : Nat) (f : Int → Option aw)
 | iter (f : Int → Option aw) (left : Int → Bool) (hU : Nat) (cur : Option (Int × aw))
 | gi (x : aw)
 | h2 (e : TypeId) (cs : List aw)
 | cB (J : bl → Env → Prop)
def bo.live : bo → Bool
 | .gi _ => false
 | .cB _ => false
 | _ => true

structure ak where
 T : List (Nat × aw)
 O : List (Nat × bo)
 n : Nat

section
variable {α : Type}
def an : List (Nat × α) → Nat → Option α
 | [],_ => none
 | (k,x) :: l,i => if k = i then some x else an l i
def ef : List (Nat × α) → Nat → List (Nat × α)
 | [],_ => []
 | (k,x) :: l,i => if k = i then ef l i else (k,x) :: ef l i
theorem Re (l : List (Nat × α)) (i : Nat) : an (ef l i) i = none := by
 induction l with
 | nil => rfl
 | cons p l dW => obtain ⟨k,x⟩ := p; unfold ef; split; exact dW; (rename_i h; simp only [an,if_neg h]; exact dW)
theorem wV (l : List (Nat × α)) {i j : Nat} (h : i ≠ j) : an (ef l i) j = an l j := by
 induction l with
 | nil => rfl
 | cons p l dW =>
  obtain ⟨k,x⟩ := p
  unfold ef
  split
  ·rename_i az; subst az; rw [dW]; simp only [an,if_neg h]
  ·simp only [an,dW]
theorem mR (l : List (Nat × α)) (i j : Nat) (x : α) : an ((i,x) :: ef l i) j = if i = j then some x else an l j := by
 simp only [an]
 split
 ·rfl
 ·rename_i h; exact wV l h
def cS (o : Option α) (k : α → Prop) : Prop := match o with | some x => k x | none => False
theorem iE (x : α) (k : α → Prop) : cS (some x) k = k x := rfl
theorem b2 {o : Option α} {k : α → Prop} (h : cS o k) : ∃ x,o = some x ∧ k x := by
 cases o with
 | none => exact h.elim
 | some x => exact ⟨x,rfl,h⟩
end

def ak.put (S : ak) (d : Nat) (x : aw) : ak := ⟨(d,x) :: ef S.T d,S.O,S.n⟩
def ak.b3 (S : ak) (d : Option Nat) (x : aw) : ak := match d with | some d => S.put d x | none => S
def ak.eT (S : ak) (i : Nat) (o : bo) : ak := ⟨S.T,(i,o) :: ef S.O i,S.n⟩
def ak.fT (S : ak) (o : bo) : ak := ⟨S.T,(S.n,o) :: S.O,S.n + 1⟩

def ak.res (S : ak) : aw → aw
 | .v x => .v x
 | .agg cs => .agg cs
 | .bY cs => .bY cs
 | .au k g es => .au k g es
 | .mp bd f => .mp bd f
 | .fn f a b => .fn f a b
 | .ds t x => .ds t x
 | .di e o => .di e o
 | .any => .any
 | .own i => match an S.O i with | some (.gi x) => x | _ => .own i
 | .ptr i idx off => match an S.O i with | some (.gi (.di e 0)) => .di e off | _ => .ptr i idx off
def ak.bg (S : ak) : Operand → Option aw
 | .tmp t => (an S.T t).map S.res
 | .const v => if v.oneCell' then some (.v v) else none
 | .func f => some (.fn (.func f) [] [])
 | .global g => (Ak.lookup g).map fun vs => .di (vs.map aw.v) 0
def ak.mM (S : ak) (x : aw) : Option aw := let y := S.res x; if y.pure then some y else none
def ak.rK (S : ak) : List aw → Option (List aw)
 | [] => some []
 | x :: l => (S.mM x).bind fun y => (S.rK l).map (y :: ·)
def ak.arg (S : ak) : aw → Option aw
 | .agg cs => (S.rK cs).map .agg
 | .v x => some (.v x)
 | .bY _ => none
 | .au k g es => some (.au k g es)
 | .mp bd f => some (.mp bd f)
 | .fn f a b => some (.fn f a b)
 | .ds t x => some (.ds t x)
 | .di e o => some (.di e o)
 | .any => some .any
 | .own i => S.mM (.own i)
 | .ptr i idx off => S.mM (.ptr i idx off)
def ak.args (S : ak) : List Operand → Option (List aw)
 | [] => some []
 | x :: l => ((S.bg x).bind S.arg).bind fun y => (S.args l).map (y :: ·)
def aw.cells : aw → List aw
 | .agg cs => cs
 | .v x => [.v x]
 | .bY l => [.bY l]
 | .au k g es => [.au k g es]
 | .mp bd f => [.mp bd f]
 | .fn f a b => [.fn f a b]
 | .ds t x => [.ds t x]
 | .di e o => [.di e o]
 | .any => [.any]
 | .own i => [.own i]
 | .ptr i idx off => [.ptr i idx off]
def ak.at (S : ak) : aw → Option (List aw × Nat)
 | .ptr i idx off => match an S.O i with
  | some (.box _ cs) => some (cs,off)
  | some (.row _ _ es) => (es[idx]?).map fun e => (e,off)
  | some (.h2 _ cs) => some (cs,idx + off)
  | _ => none
 | .di e off => some (e,off)
 | _ => none
def cut (cs : List aw) (off : Nat) (dK : Option Nat) (k : aw → Prop) : Prop :=
 match dK with
 | some n => off + n ≤ cs.length ∧ k (.agg ((cs.drop off).take n))
 | none => cS cs[off]? k

inductive ej where
 | int (k : IntKind) | bool | au (k : Nat) | mp (bd : TypeId) | nilFunc | nilIface | nilPtr | Tq
def ej.ia : ej → aw
 | .int k => .v (.int k 0)
 | .bool => .v (.bool false)
 | .au k => .au k 0 []
 | .mp bd => .mp bd fun _ => none
 | .nilFunc => .v .nilFunc
 | .nilIface => .v .nilIface
 | .nilPtr => .v (.pointer none)
 | .Tq => .v (.map none)
def ej.val : ej → Value
 | .int k => .int k 0
 | .bool => .bool false
 | .au _ => .slice none 0 0
 | .mp _ => .map none
 | .nilFunc => .nilFunc
 | .nilIface => .nilIface
 | .nilPtr => .pointer none
 | .Tq => .map none

inductive b7 where
 | ah (x : Operand)
 | aC (x : Operand) (dK : Option Nat)
 | aU (x : Operand) (off : Nat)
 | pD (x : Operand) (off : Nat) (dK : Option Nat)
 | dD (x i : Operand) (k : Nat)
 | mV (x i : Operand) (k n : Nat)
 | dO (dE : List ej) (ps : List (Nat × Nat × Operand))
 | hE (k : Nat) (xs : List Operand)
 | k1 (k : Nat) (x : Operand) (jD aq mx : Option Operand)
 | len (x : Operand)
 | te (bd : TypeId) (x : Operand)
 | mW (bd : TypeId) (m key : Operand) (z : ej) (ok : Bool)
 | ext (x : Operand) (i : Nat)
 | bin (op : BinOp) (x y : Operand)
 | eqv (neg : Bool) (t : TypeId) (x y : Operand)
 | not (x : Operand)
 | mf (k : IntKind) (x : Operand)
 | call (f : FuncId) (xs : List Operand)
 | kP (x : Operand) (xs : List Operand)
 | kj (f : Fn) (first cap : List Operand)
 | iC (t : TypeId) (x : Operand)
 | pick (c a b : Operand)
 | kX (max : Bool) (x y : Operand)
 | lB (x : Operand)
 | mY (n : Operand) (e : TypeId) (k bytes : Nat) (dE : List ej)
 | o5 (t bd : TypeId)
 | app (x y : Operand) (e : TypeId) (k bytes : Nat)
 | cw (t : TypeId) (dE : List ej)
 | box (t : TypeId) (x : Operand)
 | st (k : Nat) (x y : Operand)
 | rO (x y : Operand) (k : Nat)
 | qv (bd : TypeId) (m key x : Operand)
 | del (bd : TypeId) (m key : Operand)
 | kl (bd : TypeId) (x : Operand)
 | o7 (x : Operand)
 | rS (x : Operand)
 | gen (op : Op) (xs : List Operand)
 | uV (k : Nat) (xs : List Operand) (e : TypeId)

def cq (f : FuncId) (args : List aw) (r : aw) : Prop :=
 ∀ (w : World) (H : bl) (vs : List Value),Sub H w → dg H eD args vs → IW Tryz.prog f vs.toArray w H (fun v : Value => v) (fun v H' => cl H' eD r v)
def ZZ (w : World) (H : bl) (e : TypeId) (k : Nat) (es : List (List aw)) (fI : Ending) (w' : World) : Prop :=
 ∃ v xs,fI = .returned v ∧ Grow w H w' H ∧ 0 < k ∧ w'.ownsRow w.heap.size e k v es.length xs ∧ eN H k es xs ∧ (es = [] → ∃ a,v = .slice a 0 0)
def uJ (f : FuncId) (args : List aw) (e : TypeId) (k : Nat) (es : List (List aw)) : Prop :=
 ∀ (w : World) (H : bl) (vs : List Value),Sub H w → dg H eD args vs → Calls Tryz.prog f vs.toArray w (ZZ w H e k es)
def ZN (w : World) (H : bl) (bd : TypeId) (M : Nat) (f : Int → Option aw) (fI : Ending) (w' : World) : Prop :=
 ∃ v,fI = .returned v ∧ Grow w H w' H ∧ ((v = .map none ∧ ∀ i,f i = none) ∨ ∃ b o F,v = .map (some b) ∧ w.heap.size ≤ b ∧ w'.heap[b]? = some o ∧ h4 bd o M F ∧ M ≤ 1000000 ∧ (∀ j,f j = none ↔ F j = none) ∧ (∀ j s u,f j = some s → F j = some u → cl H eD s u))
def Br (f : FuncId) (args : List aw) (bd : TypeId) (M : Nat) (g : Int → Option aw) : Prop :=
 ∀ (w : World) (H : bl) (vs : List Value),Sub H w → dg H eD args vs → Calls Tryz.prog f vs.toArray w (ZN w H bd M g)
def Enters (f : FuncId) : Prop := ∀ args w,(callFunc f args).run Tryz.prog w = .ok (.enter f args) w
def ss (op : Op) (xs : List Operand) (l : List aw) (r : aw) : Prop :=
 ∀ (o : Oper) (a : Act) (w : World) (H : bl),o.op = op → Sub H w → dg H eD l (xs.map a.eval) → o.wp Tryz.prog a w (fun dN w' => ∃ v H',dN = a.put o.dst v ∧ Grow w H w' H' ∧ cl H' eD r v) Bp
def sy (t : TypeId) (name : String) (f : FuncId) : Prop := ∀ (v : Value) (w : World),(method (Tryz.prog.types.size + Made.depth) t v name).run Tryz.prog w = .ok (f,v) w
def sr (t : TypeId) (x y : aw) (b : Bool) : Prop :=
 ∀ (H : bl) (E : Env) (w : World) (mG ha : Value) (e2 eQ : Operand),Sub H w → cl H E x mG → cl H E y ha →
  ((do eqGuard .eql t e2 eQ mG ha; binOp .eql t mG ha : Sem Value)).run Tryz.prog w = .ok (.bool b) w ∧ ((do eqGuard .neq t e2 eQ mG ha; binOp .neq t mG ha : Sem Value)).run Tryz.prog w = .ok (.bool !b) w

def nV (op : BinOp) (k : IntKind) (a b : Int) : Option Value :=
 match op with
 | .add => some (.int k (k.wrap (a + b)))
 | .sub => some (.int k (k.wrap (a - b)))
 | .mul => some (.int k (k.wrap (a * b)))
 | .quo => if b = 0 then none else some (.int k (k.wrap (a.tdiv b)))
 | .rem => if b = 0 then none else some (.int k (a.tmod b))
 | .eql => some (.bool (a == b))
 | .neq => some (.bool (a != b))
 | .lss => some (.bool (a < b))
 | .leq => some (.bool (a ≤ b))
 | .gtr => some (.bool (b < a))
 | .geq => some (.bool (b ≤ a))
 | _ => none

def DR (ez : Bool) (x y : Option aw) : Option aw :=
 match x,y with
 | some (.v (.bool p)),some (.v (.bool q)) => some (.v (.bool (if ez = true then p else q)))
 | _,_ => if ez = true then x else y
theorem Uh {ez : Bool} {x y : Option aw} {r : aw} (h : DR ez x y = some r) : (ez = true → x = some r) ∧ (ez = false → y = some r) := by
 unfold DR at h
 split at h
 ·cases h
  exact ⟨fun e => by rw [if_pos e],fun e => by subst e; rfl⟩
 ·split at h
  ·rename_i e; exact ⟨fun _ => h,fun e5 => by rw [e] at e5; cases e5⟩
  ·rename_i e; exact ⟨fun e5 => absurd e5 e,fun _ => h⟩
def sN (S : ak) : List aw → List (Nat × Nat × Operand) → Option (List aw)
 | cs,[] => some cs
 | cs,(off,ju,x) :: r => (S.bg x).bind fun s => if s.cells.length = ju ∧ off + ju ≤ cs.length ∧ s.cells.all aw.one = true then sN S (cs.take off ++ s.cells ++ cs.drop (off + ju)) r else none
def ak.elems (S : ak) (k : Nat) : List Operand → Option (List (List aw))
 | [] => some []
 | x :: l => ((S.bg x).bind S.arg).bind fun y => if y.cells.length = k ∧ y.cells.all aw.one = true ∧ y.cells.all aw.pure = true then (S.elems k l).map (y.cells :: ·) else none

def xN (g : Nat) (jD aq : Option Operand) : Nat :=
 match aq with
 | none => if g = 1 then 1 else (match jD with | none => g | _ => 2)
 | some _ => 2
def ak.sd (S : ak) (d : Int) : Option Operand → Option Int
 | none => some d
 | some o => (S.bg o).bind fun j => match j with | .v (.int _ n) => some n | _ => none

def cx (op : b7) (S : ak) (k : aw → Prop) : Prop :=
 match op with
 | .ah x => cS (S.bg x) k
 | .aC x dK => cS (S.bg x) fun s => cS (S.at s) fun p => cut p.1 p.2 dK k
 | .aU x off => cS (S.bg x) fun s => match s with
  | .ptr i idx o => k (.ptr i idx (o + off))
  | .di e o => k (.di e (o + off))
  | _ => False
 | .pD x off dK => cS (S.bg x) fun s => match s with | .agg cs => cut cs off dK k | _ => False
 | .dD x i dz => cS (S.bg x) fun s => cS (S.bg i) fun j => match s,j with
  | .au dG _ es,.v (.int _ n) => dG = dz ∧ 0 ≤ n ∧ cS es[n.toNat]? fun e => k (.di e 0)
  | .own jC,.v (.int _ n) => (match an S.O jC with | some (.row _ dG es) => dG = dz ∧ 0 ≤ n ∧ n.toNat < es.length ∧ k (.ptr jC n.toNat 0) | some (.h2 _ cs) => dz = 1 ∧ 0 ≤ n ∧ n.toNat < cs.length ∧ k (.ptr jC n.toNat 0) | _ => False)
  | _,_ => False
 | .mV x i dz N => cS (S.bg x) fun s => cS (S.bg i) fun j => match s,j with
  | .ptr jC idx o,.v (.int _ n) => 0 ≤ n ∧ n < N ∧ k (.ptr jC idx (o + n.toNat * dz))
  | .di e o,.v (.int _ n) => 0 ≤ n ∧ n < N ∧ k (.di e (o + n.toNat * dz))
  | _,_ => False
 | .dO dE ps => cS (sN S (dE.map ej.ia) ps) fun cs => k (.agg cs)
 | .hE dz xs => cS (S.elems dz xs) fun es => es.length ≤ 1000000 ∧ k (.au dz 0 es)
 | .k1 dG x jD aq mx => cS (S.bg x) fun s => match s with
  | .au dz full es => dz = dG ∧
   cS (S.sd 0 jD) fun l =>
   cS (S.sd es.length aq) fun h =>
   0 ≤ l ∧ l ≤ h ∧ h ≤ es.length ∧ (match mx with
    | none => k (.au dz (xN full jD aq) ((es.take h.toNat).drop l.toNat))
    | some o => cS (S.bg o) fun j => match j with | .v (.int _ m) => m = h ∧ aq.isSome = true ∧ k (.au dz 1 ((es.take h.toNat).drop l.toNat)) | _ => False)
  | _ => False
 | .len x => cS (S.bg x) fun s => match s with
  | .au _ _ es => k (.v (.int .i64 es.length))
  | .own i => (match an S.O i with | some (.row _ _ es) => k (.v (.int .i64 es.length)) | some (.h2 _ cs) => k (.v (.int .i64 cs.length)) | _ => False)
  | _ => False
 | .mW bd m key z ok => cS (S.bg m) fun s => cS (S.bg key) fun j => match s,j with
  | .mp iS f,.v (.int .i64 n) => iS = bd ∧ -9223372036854775808 ≤ n ∧ n ≤ 9223372036854775807 ∧ k (if ok then .bY [(f n).getD z.ia,.v (.bool (f n).isSome)] else (f n).getD z.ia)
  | .own i,.v (.int .i64 n) => (match an S.O i with | some (.map iS _ f) => iS = bd ∧ -9223372036854775808 ≤ n ∧ n ≤ 9223372036854775807 ∧ k (if ok then .bY [(f n).getD z.ia,.v (.bool (f n).isSome)] else (f n).getD z.ia) | _ => False)
  | _,_ => False
 | .ext x i => cS (S.bg x) fun s => match s with | .bY cs => cS cs[i]? k | _ => False
 | .bin op x y => cS (S.bg x) fun s => cS (S.bg y) fun j => match s,j with
  | .v (.int cL a),.v (.int k2 b) => cL = k2 ∧ cS (nV op cL a b) fun r => k (.v r)
  | _,_ => False
 | .eqv neg t x y => cS (S.bg x) fun s => cS (S.bg y) fun j => ∃ b,sr t s j b ∧ k (.v (.bool (if neg then !b else b)))
 | .not x => cS (S.bg x) fun s => match s with | .v (.bool b) => k (.v (.bool !b)) | _ => False
 | .mf dz x => cS (S.bg x) fun s => match s with | .v (.int _ n) => k (.v (.int dz (dz.wrap n))) | _ => False
 | .call f xs => cS (S.args xs) fun l => ∃ r,cq f l r ∧ k r
 | .kP x xs => cS (S.bg x) fun s => cS (S.args xs) fun l => match s with | .fn (.func f) first cap => Enters f ∧ ∃ r,cq f (first ++ l ++ cap) r ∧ k r | .fn (.method name) (.ds t s :: first) _ => ∃ f,sy t name f ∧ Enters f ∧ ∃ r,cq f (s :: (first ++ l)) r ∧ k r | _ => False
 | .gen op xs => cS (S.args xs) fun l => ∃ r,ss op xs l r ∧ k r
 | .kj f first cap => cS (S.args first) fun a => cS (S.args cap) fun b => k (.fn f a b)
 | .iC t x => cS ((S.bg x).bind S.arg) fun s => k (.ds t s)
 | .pick c a b => cS (S.bg c) fun s => match s with | .v (.bool ez) => cS (DR ez (S.bg a) (S.bg b)) k | _ => False
 | .kX mx x y => cS (S.bg x) fun s => cS (S.bg y) fun j => match s,j with
  | .v (.int cL a),.v (.int k2 b) => cL = k2 ∧ k (.v (.int cL (if mx then max a b else min a b)))
  | _,_ => False
 | .lB x => cS (S.bg x) fun s => match s with
  | .ptr i idx o => k (.ptr i idx o)
  | .di e o => k (.di e o)
  | .ds t y => k (.ds t y)
  | .fn (.func f) a b => k (.fn (.func f) a b)
  | _ => False
 | .mY n _ dz bytes dE => cS (S.bg n) fun s => match s with
  | .v (.int _ m) => 0 ≤ m ∧ m ≤ 1000000 ∧ m.toNat * bytes ≤ 140737488355328 ∧ k (.au dz 0 (List.replicate m.toNat (dE.map ej.ia)))
  | _ => False
 | .o5 _ bd => k (.mp bd fun _ => none)
 | .app x y _ dz bytes => cS (S.bg x) fun s => cS (S.bg y) fun j => match s,j with
  | .au cL full xs,.au k2 _ ys => cL = dz ∧ k2 = dz ∧ (full = 1 ∨ (full = 0 ∧ xs = [])) ∧ (xs = [] ∨ 0 < ys.length) ∧ xs.length + ys.length ≤ 140737488355328 ∧ (xs.length + ys.length) * bytes ≤ 140737488355328 ∧ k (.au dz 0 (xs ++ ys))
  | _,_ => False
 | _ => False

def ak.oi (S : ak) (i : Nat) : ak :=
 match an S.O i with
 | some (.row _ k es) => S.eT i (.gi (.au k 0 es))
 | some (.map bd _ f) => S.eT i (.gi (.mp bd f))
 | _ => S
def ak.fv (S : ak) : List aw → ak
 | [] => S
 | .own i :: l => (S.oi i).fv l
 | .v _ :: l => S.fv l
 | .agg _ :: l => S.fv l
 | .bY _ :: l => S.fv l
 | .au .. :: l => S.fv l
 | .mp .. :: l => S.fv l
 | .fn .. :: l => S.fv l
 | .ds .. :: l => S.fv l
 | .di .. :: l => S.fv l
 | .any :: l => S.fv l
 | .ptr .. :: l => S.fv l
def ak.yo (S : ak) (i : Nat) : ak :=
 match an S.O i with
 | some (.box _ cs) => match (S.fv cs).rK cs with
  | some ys => (S.fv cs).eT i (.gi (.di ys 0))
  | none => S.fv cs
 | _ => S
def ak.jA (S : ak) : aw → ak
 | .own i => S.oi i
 | .ptr i _ _ => S.yo i
 | .agg cs => S.fv cs
 | .v _ | .bY _ | .au .. | .mp .. | .fn .. | .ds .. | .di .. | .any => S
def ak.mQ (S : ak) : List Operand → ak
 | [] => S
 | x :: l => match S.bg x with
  | some s => (S.jA s).mQ l
  | none => S.mQ l
def b7.fL : b7 → List Operand
 | .call _ xs | .kP _ xs | .hE _ xs | .gen _ xs | .uV _ xs _ => xs
 | .iC _ x | .k1 _ x _ _ _ | .qv _ _ _ x | .kl _ x => [x]
 | .app _ y _ _ _ => [y]
 | .kj _ a b => a ++ b
 | .ah _ => []
 | .aC .. => []
 | .aU .. => []
 | .pD .. => []
 | .dD .. => []
 | .mV .. => []
 | .dO .. => []
 | .len _ => []
 | .te .. => []
 | .mW .. => []
 | .ext .. => []
 | .bin .. => []
 | .eqv .. => []
 | .not _ => []
 | .mf .. => []
 | .pick .. => []
 | .kX .. => []
 | .lB _ => []
 | .mY .. => []
 | .o5 .. => []
 | .del .. => []
 | .o7 _ => []
 | .rS _ => []
 | .st .. => []
 | .rO .. => []
 | .cw .. => []
 | .box .. => []

inductive rC where
 | slot (t : Nat) (e : Option TypeId) (k : Nat)
 | cell (i c : Nat) (e : Option TypeId) (k : Nat)
 | any (t : Nat)
 | PR (t c : Nat)
 | h2 (i : Nat)
def xv : aw → Bool
 | .v (.slice none 0 0) => true
 | .au _ 0 [] => true
 | _ => false
def ak.cast (S : ak) : rC → ak
 | .slot t e k => match an S.T t with
  | some x => if (xv x && decide (0 < k)) = true then (match e with | none => S.put t (.au k 0 []) | some e => (S.fT (.row e k [])).put t (.own S.n)) else S
  | none => S
 | .cell i c e k => match an S.O i with
  | some (.box iY cs) => match cs[c]? with
   | some x => if (xv x && decide (0 < k)) = true then (match e with | none => S.eT i (.box iY (cs.set c (.au k 0 []))) | some e => (S.fT (.row e k [])).eT i (.box iY (cs.set c (.own S.n)))) else S
   | none => S
  | _ => S
 | .any t => match an S.T t with
  | some x => if x.one = true then S.put t .any else S
  | none => S
 | .PR t c => match an S.T t with
  | some (.agg cs) => S.put t (.agg (cs.set c .any))
  | _ => S
 | .h2 i => match an S.O i with
  | some (.row e 1 (c :: es)) => S.eT i (.h2 e ((c :: es).flatten))
  | _ => S
def ak.gM (S : ak) : List rC → ak
 | [] => S
 | c :: l => (S.cast c).gM l

def EU (H : bl) (r : Nat) (ob : Obj) (f : Int → Option aw) (left : Int → Bool) (hU : Nat) : Prop :=
 (∃ a s c,ob = .mapIter none a s c ∧ ∀ j,left j = false) ∨ ∃ b jo bd M D AH F,H b = some jo ∧ Tryz.prog.underlying bd = some (.int .i64) ∧
  (∀ w : World,w.heap[b]? = some jo → w.heap[r]? = some ob → w.ranges Tryz.prog bd jx b r M D AH hU) ∧ sq D F ∧ (∀ j,f j = none ↔ F j = none) ∧ (∀ j s u,f j = some s → F j = some u → cl H eD s u) ∧ ∀ j,AH (.int .i64 j) = left j
def EB (H : bl) (r : Nat) (ob : Obj) (j : Int) (s : aw) : Prop :=
 ∃ v,(∀ w : World,(∀ k o,H k = some o → w.heap[k]? = some o) → w.heap[r]? = some ob → (Instr.entry (.pointer (some ⟨r,0,none⟩))).run Tryz.prog w = .ok (.tuple #[.int .i64 j,v]) w) ∧ cl H eD s v
def qP (B : Nat) (H : bl) (E : Env) (w : World) (i : Nat) : bo → Prop
 | .box t cs => ∃ b vs,E i = some (.pointer (some ⟨b,0,none⟩),0,some b) ∧ B ≤ b ∧ H b = none ∧ w.heap[b]? = some (.cells vs.toArray t (0,0)) ∧ dg H E cs vs ∧ cs.all aw.one = true
 | .row e k es => ∃ u ob xs,E i = some (u,k,ob) ∧ 0 < k ∧ eN H k es xs ∧ ((es = [] ∧ ob = none ∧ ∃ a,u = .slice a 0 0) ∨
   ∃ g cap cur,ob = some g ∧ u = .slice (some ⟨g,0,none⟩) es.length cap ∧ B ≤ g ∧ H g = none ∧ w.heap[g]? = some (.cells cur e (0,0)) ∧ es.length ≤ cap ∧ cap ≤ maxLen ∧ (es = [] → cap = 0) ∧ cur.size = cap * k ∧ cur.toList.take (es.length * k) = xs)
 | .map bd N f => ∃ b o F,E i = some (.map (some b),0,some b) ∧ B ≤ b ∧ H b = none ∧ w.heap[b]? = some o ∧ h4 bd o N F ∧ N ≤ 1000000 ∧ (∀ j,f j = none ↔ F j = none) ∧ (∀ j s u,f j = some s → F j = some u → cl H eD s u)
 | .iter f left hU cur => ∃ r ob,E i = some (.pointer (some ⟨r,0,none⟩),0,some r) ∧ B ≤ r ∧ H r = none ∧ w.heap[r]? = some ob ∧ EU H r ob f left hU ∧ ∀ j s,cur = some (j,s) → EB H r ob j s
 | .gi x => ∃ u k b,E i = some (u,k,b) ∧ cl H eD x u ∧ x.pure = true ∧ (∀ e,x = .di e 0 → k = 0 ∧ ∃ fP,b = some fP ∧ u = .pointer (some ⟨fP,0,none⟩))
 | .h2 e cs => ∃ g cap cur,E i = some (.slice (some ⟨g,0,none⟩) cs.length cap,1,some g) ∧ B ≤ g ∧ H g = none ∧ w.heap[g]? = some (.cells cur e (0,0)) ∧ cs.length ≤ cur.size ∧ dg H E cs (cur.toList.take cs.length) ∧ cs.all aw.one = true
 | .cB J => (∃ p,E i = some p) ∧ J H E ∧ ∀ H1 kK hy qJ,hk H1 kK → fW hy qJ → J H1 hy → J kK qJ
def nN (B : Nat) (S : ak) (E : Env) (w : World) (H : bl) : Prop := ∀ i o,an S.O i = some o → qP B H E w i o

def nx (S : ak) (i : Nat) : Prop := ∃ o,an S.O i = some o ∧ o.live = true

structure bC (N : Nat) (w0 : World) (H0 : bl) (S : ak) (E : Env) (a : Act) (w : World) (H : bl) : Prop where
 grow : Grow w0 H0 w H
 k4 : ∀ t x,an S.T t = some x → cl H E x (a.eval (.tmp t))
 ob : nN w0.heap.size S E w H
 ap : ∀ i j,i ≠ j → nx S i → nx S j → ∀ b u k k5 dG,E i = some (u,k,some b) → E j = some (k5,dG,some b) → False
 c0 : ∀ i,S.n ≤ i → E i = none
 ju : a.tmps.size = N
 jO : a.defers = []

def gg (f : FuncId) (l : List aw) (O : List (Nat × bo)) (n : Nat) (P : (bl → Env → Prop) → aw → List (Nat × bo) → Nat → Prop) : Prop :=
 ∀ (J : bl → Env → Prop) (N : Nat) (w0 : World) (H0 : bl) (E : Env) (a : Act) (w : World) (H : bl) (vs : List Value),bC N w0 H0 ⟨[],(n,.cB J) :: O,n + 1⟩ E a w H → dg H E l vs →
  Calls Tryz.prog f vs.toArray w fun e w' => ∃ v r O' bO E' H',e = .returned v ∧ P J r O' bO ∧ an O' n = some (.cB J) ∧ bC N w0 H0 ⟨[],O',bO⟩ E' a w' H' ∧ cl H' E' r v
def ak.k0 (S : ak) : List Operand → Option (List aw)
 | [] => some []
 | x :: l => (S.bg x).bind fun y => (S.k0 l).map (y :: ·)
def ad1 (f : FuncId) (xs : List Operand) (S : ak) (d : Option Nat) (K : ak → Prop) : Prop :=
 ∃ l P,S.k0 xs = some l ∧ gg f l S.O S.n P ∧ ∀ J r O' bO,P J r O' bO → K (ak.b3 ⟨S.T,ef O' S.n,bO⟩ d r)
def FL (f : FuncId) (xs : List Operand) (S : ak) (d : Option Nat) (K : ak → Prop) : Prop :=
 (cx (.call f xs) S fun s => K (S.b3 d s)) ∨ cS (S.args xs) fun l => (∃ e k es,uJ f l e k es ∧ K ((S.fT (.row e k es)).b3 d (.own S.n))) ∨ ∃ bd M g,Br f l bd M g ∧ K ((S.fT (.map bd M g)).b3 d (.own S.n)) ∧ ((∀ i,g i = none) → K (S.b3 d (.v (.map none))))
def Qt (f : FuncId) (xs : List Operand) (S0 : ak) (d : Option Nat) (K : ak → Prop) : Prop := (∃ cs,FL f xs ((S0.gM cs).mQ xs) d K) ∨ ad1 f xs S0 d K

def callee (s : aw) (l0 : List aw) (f : FuncId) (l : List aw) : Prop :=
 (∃ first cap,s = .fn (.func f) first cap ∧ Enters f ∧ l = first ++ l0 ++ cap) ∨ ∃ name t l5 first cap,s = .fn (.method name) (.ds t l5 :: first) cap ∧ sy t name f ∧ Enters f ∧ l = l5 :: (first ++ l0)
def Qu (x : Operand) (xs : List Operand) (S : ak) (d : Option Nat) (K : ak → Prop) : Prop :=
 ∃ s l0 f l P,S.bg x = some s ∧ S.k0 xs = some l0 ∧ callee s l0 f l ∧ gg f l S.O S.n P ∧ ∀ J r O' bO,P J r O' bO → K (ak.b3 ⟨S.T,ef O' S.n,bO⟩ d r)
def Qz (op : Op) (xs : List Operand) (S : ak) (d : Option Nat) (K : ak → Prop) : Prop :=
 ∃ x name args hQ t l5 l0 f P,op = .call ⟨.invoke x name,args,hQ⟩ ∧ xs = x :: args.toList ∧ S.bg x = some (.ds t l5) ∧ S.k0 args.toList = some l0 ∧ sy t name f ∧ Enters f ∧ gg f (l5 :: l0) S.O S.n P ∧ ∀ J r O' bO,P J r O' bO → K (ak.b3 ⟨S.T,ef O' S.n,bO⟩ d r)
def fJ (d : Option Nat) (op : b7) (S0 : ak) (K : ak → Prop) : Prop :=
 let S := S0.mQ op.fL
 match op with
 | .cw t dE => K ((S.fT (.box t (dE.map ej.ia))).b3 d (.ptr S.n 0 0))
 | .box t x => cS (S.bg x) fun s => s.cells.all aw.one = true ∧ K ((S.fT (.box t s.cells)).b3 d (.ptr S.n 0 0))
 | .st k x y => d = none ∧ cS (S.bg x) fun s => cS (S.bg y) fun v => match s with
  | .ptr i idx off => (match an S.O i with
   | some (.box t cs) => v.cells.length = k ∧ v.cells.all aw.one = true ∧ off + k ≤ cs.length ∧ K (S.eT i (.box t (cs.take off ++ v.cells ++ cs.drop (off + k))))
   | some (.row _ _ _) => cS ((S.jA v).arg v) fun hb => hb.cells.length = k ∧ hb.cells.all aw.one = true ∧ hb.cells.all aw.pure = true ∧
     (match an (S.jA v).O i with
      | some (.row e dz es) => cS es[idx]? fun c => off + k ≤ c.length ∧ K ((S.jA v).eT i (.row e dz (es.set idx (c.take off ++ hb.cells ++ c.drop (off + k)))))
      | _ => False)
   | some (.h2 e cs) => k = 1 ∧ v.one = true ∧ idx + off < cs.length ∧ K (S.eT i (.h2 e (cs.set (idx + off) v)))
   | _ => False)
  | _ => False
 | .mY n e dz bytes dE => cS (S.bg n) fun s => match s with
  | .v (.int _ m) => 0 ≤ m ∧ m ≤ 1000000 ∧ m.toNat * bytes ≤ 140737488355328 ∧ K ((S.fT (.row e dz (List.replicate m.toNat (dE.map ej.ia)))).b3 d (.own S.n))
  | _ => False
 | .o5 _ bd => K ((S.fT (.map bd 0 fun _ => none)).b3 d (.own S.n))
 | .app x y e dz bytes => cS (S.bg x) fun s => cS (S.bg y) fun v => match s,v with
  | .own i,.au k2 _ ys => (match an S.O i with
   | some (.row e5 cL es) => e5 = e ∧ cL = dz ∧ k2 = dz ∧ es.length + ys.length ≤ 140737488355328 ∧ (es.length + ys.length) * bytes ≤ 140737488355328 ∧
     K ((ak.fT ⟨S.T,ef S.O i,S.n⟩ (.row e dz (es ++ ys))).b3 d (.own S.n))
   | _ => False)
  | .au cL full es,.au k2 _ ys => cL = dz ∧ k2 = dz ∧ (full = 1 ∨ (full = 0 ∧ es = [])) ∧ (es = [] ∨ 0 < ys.length) ∧ es.length + ys.length ≤ 140737488355328 ∧ (es.length + ys.length) * bytes ≤ 140737488355328 ∧ K ((S.fT (.row e dz (es ++ ys))).b3 d (.own S.n))
  | _,_ => False
 | .rO x y dz => cS (S.bg x) fun s => cS (S.bg y) fun v => match s,v with
  | .own i,.au k2 _ ys => (match an S.O i with
   | some (.row e cL es) => cL = dz ∧ k2 = dz ∧ K ((S.eT i (.row e dz (ys.take es.length ++ es.drop ys.length))).b3 d (.v (.int .i64 (min ys.length es.length : Nat))))
   | _ => False)
  | _,_ => False
 | .qv bd m key x => d = none ∧ cS (S.bg m) fun s => cS (S.bg key) fun j => cS ((S.bg x).bind S.mM) fun v => match s,j with
  | .own i,.v (.int .i64 n) => (match an S.O i with
   | some (.map iS N f) => iS = bd ∧ N < 1000000 ∧ -9223372036854775808 ≤ n ∧ n ≤ 9223372036854775807 ∧ (K (S.eT i (.map bd (N + 1) fun j => if j = n then some v else f j)) ∨ ∃ M : Nat,(M ≤ 1000000 ∧ ∀ j,(if j = n then some v else f j) ≠ none → 0 ≤ j ∧ j < (M : Int)) ∧ K (S.eT i (.map bd M fun j => if j = n then some v else f j)))
   | _ => False)
  | _,_ => False
 | .call f xs => FL f xs S d K ∨ Qt f xs S0 d K
 | .del bd m key => cS (S.bg m) fun s => cS (S.bg key) fun j => match s,j with
  | .own i,.v (.int .i64 n) => (match an S.O i with
   | some (.map iS M f) => iS = bd ∧ -9223372036854775808 ≤ n ∧ n ≤ 9223372036854775807 ∧ K ((S.eT i (.map bd M fun j => if j = n then none else f j)).b3 d (.bY []))
   | _ => False)
  | .v (.map none),.v (.int .i64 n) => -9223372036854775808 ≤ n ∧ n ≤ 9223372036854775807 ∧ K (S.b3 d (.bY []))
  | _,_ => False
 | .kl bd x => cS (S.bg x) fun s => match s with
  | .mp iS f => iS = bd ∧ ∀ hU,K ((S.fT (.iter f (fun i => (f i).isSome) hU none)).b3 d (.own S.n))
  | _ => False
 | .o7 x => cS (S.bg x) fun s => match s with
  | .own i => (match an S.O i with
   | some (.iter f left hU _) => ((∀ j,left j = false) → K (S.b3 d (.bY [.v (.bool false)]))) ∧
     (∀ j s uW,left j = true → f j = some s → -9223372036854775808 ≤ j → j ≤ 9223372036854775807 → uW < hU → K ((S.eT i (.iter f (fun z => left z && z != j) uW (some (j,s)))).b3 d (.bY [.v (.bool true),.v (.int .i64 j),s])))
   | _ => False)
  | _ => False
 | .rS x => cS (S.bg x) fun s => match s with
  | .own i => (match an S.O i with
   | some (.iter _ _ _ (some (j,s))) => K (S.b3 d (.bY [.v (.int .i64 j),s]))
   | _ => False)
  | _ => False
 | .ah x => cx (.ah x) S fun s => K (S.b3 d s)
 | .aC x dK => cx (.aC x dK) S fun s => K (S.b3 d s)
 | .aU x o => cx (.aU x o) S fun s => K (S.b3 d s)
 | .pD x o dK => cx (.pD x o dK) S fun s => K (S.b3 d s)
 | .dD x i k => cx (.dD x i k) S fun s => K (S.b3 d s)
 | .mV x i k n => cx (.mV x i k n) S fun s => K (S.b3 d s)
 | .dO dE ps => cx (.dO dE ps) S fun s => K (S.b3 d s)
 | .hE k xs => cx (.hE k xs) S fun s => K (S.b3 d s)
 | .uV k xs e => cS (S.elems k xs) fun es => es.length ≤ 1000000 ∧ K ((S.fT (.row e k es)).b3 d (.own S.n))
 | .k1 k x jD aq mx => cx (.k1 k x jD aq mx) S fun s => K (S.b3 d s)
 | .len x => cx (.len x) S fun s => K (S.b3 d s)
 | .te bd x => cS (S.bg x) fun s => match s with
  | .mp iS f => iS = bd ∧ ((∀ i,f i = none) → K (S.b3 d (.v (.int .i64 0)))) ∧ ∀ n : Nat,0 < n → (∃ i,f i ≠ none) → K (S.b3 d (.v (.int .i64 n)))
  | .own i => (match an S.O i with | some (.map iS _ f) => iS = bd ∧ ∀ n : Nat,(∃ l : List Int,l.Nodup ∧ l.length = n ∧ ∀ j,f j ≠ none ↔ j ∈ l) → K (S.b3 d (.v (.int .i64 n))) | _ => False)
  | _ => False
 | .mW bd m key z ok => cx (.mW bd m key z ok) S fun s => K (S.b3 d s)
 | .ext x i => cx (.ext x i) S fun s => K (S.b3 d s)
 | .bin op x y => cx (.bin op x y) S fun s => K (S.b3 d s)
 | .eqv b t x y => (cx (.eqv b t x y) S fun s => K (S.b3 d s)) ∨ cS (S.bg x) fun s => cS (S.bg y) fun j => match s,j with
  | .own i,.v (.map none) => (match an S.O i with | some (.map _ _ _) => (∃ bd e,Tryz.prog.underlying t = some (.map bd e)) ∧ K (S.b3 d (.v (.bool b))) | _ => False)
  | _,_ => False
 | .not x => cx (.not x) S fun s => K (S.b3 d s)
 | .mf k x => cx (.mf k x) S fun s => K (S.b3 d s)
 | .kP x xs => (cx (.kP x xs) S fun s => K (S.b3 d s)) ∨ Qu x xs S0 d K
 | .gen op xs => (cx (.gen op xs) S fun s => K (S.b3 d s)) ∨ Qz op xs S0 d K
 | .kj f a b => cx (.kj f a b) S fun s => K (S.b3 d s)
 | .iC t x => cx (.iC t x) S fun s => K (S.b3 d s)
 | .pick c x y => cx (.pick c x y) S fun s => K (S.b3 d s)
 | .kX b x y => cx (.kX b x y) S fun s => K (S.b3 d s)
 | .lB x => cx (.lB x) S fun s => K (S.b3 d s)

structure cA where
 d : Option Nat
 g : Option (Nat × Bool)
 op : b7
def ak.mg (S : ak) (d : Option Nat) : ak := match d with | some d => ⟨ef S.T d,S.O,S.n⟩ | none => S
def kd (o : cA) (S : ak) (K : ak → Prop) : Prop :=
 match o.g with
 | none => fJ o.d o.op S K
 | some (t,b) => cS (S.bg (.tmp t)) fun s => match s with
  | .v (.bool ez) => (ez = b → fJ o.d o.op S K) ∧ (ez = !b → K (S.b3 o.d (.bY [])))
  | .bY [] => K (S.b3 o.d (.bY []))
  | _ => False
def ig : List cA → ak → (ak → Prop) → Prop
 | [],S,K => K S
 | o :: l,S,K => kd o S fun S' => ig l S' K

def g9 (S : ak) : b7 → Option (Option (TypeId × List aw))
 | .cw t dE => some (some (t,dE.map ej.ia))
 | .box t x => some ((S.bg x).bind fun s => if s.cells.all aw.one = true then some (t,s.cells) else none)
 | .ah _ => none
 | .aC .. => none
 | .aU .. => none
 | .pD .. => none
 | .dD .. => none
 | .mV .. => none
 | .dO .. => none
 | .hE .. => none
 | .uV .. => none
 | .k1 .. => none
 | .len _ => none
 | .te .. => none
 | .mW .. => none
 | .ext .. => none
 | .bin .. => none
 | .eqv .. => none
 | .not _ => none
 | .mf .. => none
 | .call .. => none
 | .kP .. => none
 | .gen .. => none
 | .kj .. => none
 | .iC .. => none
 | .pick .. => none
 | .kX .. => none
 | .lB _ => none
 | .mY .. => none
 | .o5 .. => none
 | .app .. => none
 | .st .. => none
 | .rO .. => none
 | .qv .. => none
 | .del .. => none
 | .kl .. => none
 | .o7 _ => none
 | .rS _ => none
def g8 : b7 → Option (Operand × Operand × TypeId × Nat × Nat)
 | .cw .. => none
 | .box .. => none
 | .ah _ => none
 | .aC .. => none
 | .aU .. => none
 | .pD .. => none
 | .dD .. => none
 | .mV .. => none
 | .dO .. => none
 | .hE .. => none
 | .uV .. => none
 | .k1 .. => none
 | .len _ => none
 | .te .. => none
 | .mW .. => none
 | .ext .. => none
 | .bin .. => none
 | .eqv .. => none
 | .not _ => none
 | .mf .. => none
 | .call .. => none
 | .kP .. => none
 | .gen .. => none
 | .kj .. => none
 | .iC .. => none
 | .pick .. => none
 | .kX .. => none
 | .lB _ => none
 | .mY .. => none
 | .o5 .. => none
 | .app x y e dz bytes => some (x,y,e,dz,bytes)
 | .st .. => none
 | .rO .. => none
 | .qv .. => none
 | .del .. => none
 | .kl .. => none
 | .o7 _ => none
 | .rS _ => none
def Ni (S : ak) (q : Operand × Operand × TypeId × Nat × Nat) (k : List (List aw) → Prop) : Prop :=
 cS (S.bg q.1) fun s => cS (S.bg q.2.1) fun v => match s,v with
  | .au cL 0 [],.au k2 _ ys => cL = q.2.2.2.1 ∧ k2 = q.2.2.2.1 ∧ ys.length ≤ 140737488355328 ∧ ys.length * q.2.2.2.2 ≤ 140737488355328 ∧ k ys
  | _,_ => False
def iK : List cA → ak → ak → List TypeId → (ak → Prop) → Prop
 | [],_,F,_,K => K F
 | o :: l,S,F,cH,K =>
  match o.g with
  | none => (match g9 S o.op with
   | some p => cS p fun p => cH.contains p.1 = false ∧ iK l (S.mg o.d) ((F.fT (.box p.1 p.2)).b3 o.d (.ptr F.n 0 0)) (p.1 :: cH) K
   | none => (match g8 o.op with
    | some q => (cx o.op S fun s => iK l (S.b3 o.d s) (F.b3 o.d s) cH K) ∨ Ni S q fun es => cH.contains q.2.2.1 = false ∧ iK l (S.mg o.d) ((F.fT (.row q.2.2.1 q.2.2.2.1 es)).b3 o.d (.own F.n)) (q.2.2.1 :: cH) K
    | none => cx o.op S fun s => iK l (S.b3 o.d s) (F.b3 o.d s) cH K))
  | some (t,b) => cS (S.bg (.tmp t)) fun s => match s with
   | .v (.bool ez) => (ez = b → cx o.op S fun s => iK l (S.b3 o.d s) (F.b3 o.d s) cH K) ∧ (ez = !b → iK l (S.mg o.d) (F.mg o.d) cH K)
   | _ => False

def ak.oh (S : ak) : List aw → ak
 | [] => S
 | x :: l => (S.jA x).oh l

inductive nM where
 | leaf
 | b4 (i : Nat) (t : nM)
 | step (i : Nat) (t : nM)
 | alt (a b : nM)
def oe : nM → List cA → ak → (ak → Prop) → Prop
 | .leaf,_,S,K => K S
 | .b4 i t,l,S,K => cS l[i]? fun o => kd o S fun S' => oe t l S' K
 | .step i t,l,S,K => cS l[i]? fun o => kd o S fun S' => oe t l S' K
 | .alt a b,l,S,K => oe a l S K ∧ oe b l S K
def xi (i : Nat) (o : bo) : List (Nat × bo) → List (Nat × bo)
 | [] => [(i,o)]
 | (j,p) :: l => if i ≤ j then (i,o) :: (j,p) :: l else (j,p) :: xi i o l
def j1 : List (Nat × bo) → List (Nat × bo)
 | [] => []
 | (i,o) :: l => xi i o (j1 l)
def ak.sorted (S : ak) : ak := ⟨S.T,j1 S.O,S.n⟩

inductive bZ where
 | skip
 | ops (l : List cA)
 | g0 (n : Nat) (l : List cA)
 | ord (t : nM) (l : List cA)
 | qc (wt : List (List Nat)) (l : List cA)
 | seq (a b : bZ)
 | cond (c : Operand) (a b : bZ)
 | block (id : Nat) (a : bZ)
 | loop (a : bZ)
 | exit (id : Nat)
 | ret
inductive qK where
 | next
 | exit (id : Nat)
 | ret

def eL {α : Type} (l : List (Nat × α)) : List Nat → List (Nat × α)
 | [] => []
 | k :: eC => match an l k with
  | some x => (k,x) :: eL l eC
  | none => eL l eC
def nW (ids : List Nat) : aw → Bool
 | .own i => ids.contains i
 | .ptr i _ _ => ids.contains i
 | .agg _ | .bY _ => false
 | .v _ | .au .. | .mp .. | .fn .. | .ds .. | .di .. | .any => true
def tp (ids : List Nat) : List aw → Bool
 | [] => true
 | x :: l => nW ids x && tp ids l
def nD (ids : List Nat) : aw → Bool
 | .agg cs => tp ids cs
 | .own i => ids.contains i
 | .ptr i _ _ => ids.contains i
 | .bY _ => false
 | .v _ | .au .. | .mp .. | .fn .. | .ds .. | .di .. | .any => true
def zq (ids : List Nat) : List (Nat × aw) → Bool
 | [] => true
 | p :: l => nD ids p.2 && zq ids l
def h8 (ids : List Nat) : List (Nat × bo) → Bool
 | [] => true
 | (_,.box _ cs) :: l => tp ids cs && h8 ids l
 | (_,.row ..) :: l => h8 ids l
 | (_,.map ..) :: l => h8 ids l
 | (_,.iter ..) :: l => h8 ids l
 | (_,.gi _) :: l => h8 ids l
 | (_,.h2 _ cs) :: l => tp ids cs && h8 ids l
 | (_,.cB _) :: _ => false
def oz : List Nat → Nat → Nat
 | [],_ => 0
 | k :: l,i => if k = i then 0 else oz l i + 1
def j0 (ids : List Nat) : aw → aw
 | .own i => .own (oz ids i)
 | .ptr i a b => .ptr (oz ids i) a b
 | .v x => .v x
 | .agg cs => .agg cs
 | .bY cs => .bY cs
 | .au k g es => .au k g es
 | .mp bd f => .mp bd f
 | .fn f a b => .fn f a b
 | .ds t x => .ds t x
 | .di e o => .di e o
 | .any => .any
def nE (ids : List Nat) : aw → aw
 | .agg cs => .agg (cs.map (j0 ids))
 | .own i => .own (oz ids i)
 | .ptr i a b => .ptr (oz ids i) a b
 | .v x => .v x
 | .bY cs => .bY cs
 | .au k g es => .au k g es
 | .mp bd f => .mp bd f
 | .fn f a b => .fn f a b
 | .ds t x => .ds t x
 | .di e o => .di e o
 | .any => .any
def xG (ids : List Nat) : List (Nat × aw) → List (Nat × aw)
 | [] => []
 | (t,x) :: l => (t,nE ids x) :: xG ids l
def tr (ids : List Nat) : bo → bo
 | .box t cs => .box t (cs.map (j0 ids))
 | .row e k es => .row e k es
 | .map bd n f => .map bd n f
 | .iter f left hU cur => .iter f left hU cur
 | .gi x => .gi x
 | .h2 e cs => .h2 e (cs.map (j0 ids))
 | .cB J => .cB J
def xF (ids : List Nat) : List (Nat × bo) → List (Nat × bo)
 | [] => []
 | (i,o) :: l => (oz ids i,tr ids o) :: xF ids l
def ak.e1 (S : ak) : Option (List Nat × Option (List Nat × Nat)) → ak
 | none => S
 | some (eC,none) => ⟨eL S.T eC,S.O,S.n⟩
 | some (eC,some (ids,n)) => if (zq ids (eL S.T eC) && (h8 ids (eL S.O ids) && decide (ids.length ≤ n))) = true then ⟨xG ids (eL S.T eC),xF ids (eL S.O ids),n⟩ else ⟨eL S.T eC,S.O,S.n⟩

def sh (wt : List (List Nat)) (done : List Nat) (i : Nat) : Bool := !done.contains i && (match wt[i]? with | some l => l.all done.contains | none => false)
def o4 (i b : Nat) : bl → Env → Prop := fun _ E => E i = some (.pointer (some ⟨b,0,none⟩),0,some b)
inductive rI where
 | xH (i : Nat)
 | raw (t g : Nat)
 | xQ (t g : Nat)
def pA : List rI → ak → (ak → Prop) → Prop
 | [],S,K => K S
 | .xH i :: rs,S,K => (∃ t cs,an S.O i = some (.box t cs)) ∧ ∀ b,pA rs (S.fT (.cB (o4 i b))) K
 | .raw t g :: rs,S,K => ∃ i b off,an S.O g = some (.cB (o4 i b)) ∧ an S.T t = some (.v (.pointer (some ⟨b,off,none⟩))) ∧ pA rs (S.put t (.ptr i 0 off)) K
 | .xQ t g :: rs,S,K => ∃ i b off,an S.O g = some (.cB (o4 i b)) ∧ an S.T t = some (.ptr i 0 off) ∧ pA rs (S.put t (.v (.pointer (some ⟨b,off,none⟩)))) K
def tS : List (Nat × List rI) → List cA → ak → (ak → Prop) → Prop
 | [],l,S,K => ig l S K
 | (n,rs) :: sp,l,S,K => ig (l.take n) S fun bT => pA rs bT fun gr => tS sp (l.drop n) gr K
def g4 : bZ → ak → (qK → ak → Prop) → Prop
 | .skip,S,K => K .next S
 | .ops l,S,K => ∃ sp cs,tS sp l (S.gM cs) (K .next)
 | .g0 n l,S,K => ∃ gs cs,iK (l.take n) ((S.gM cs).oh gs) ((S.gM cs).oh gs) [] fun S' => ig (l.drop n) S' (K .next)
 | .ord t l,S,K => ∃ cs bT,oe t l (S.gM cs) (fun S' => ∃ ht,(S'.e1 ht).sorted = bT) ∧ K .next bT
 | .qc wt l,S,K => ∃ (cs : List rC) (I : List Nat → ak → Prop),I [] (S.gM cs) ∧ (∀ done S' i,I done S' → sh wt done i = true → cS l[i]? fun g => kd g S' fun gr => I (i :: done) gr) ∧ ∀ done S',I done S' → (∀ i,i < wt.length → done.contains i = true) → ∃ ht,K .next ((S'.e1 ht).sorted)
 | .seq a b,S,K => g4 a S fun e S' => match e with | .next => ∃ eC,g4 b (S'.e1 eC) K | .ret => K .ret S' | .exit i => K (.exit i) S'
 | .cond c a b,S,K => cS (S.bg c) fun s => match s with | .v (.bool t) => (t = true → g4 a S K) ∧ (t = false → g4 b S K) | _ => False
 | .block id a,S,K => g4 a S fun e S' => match e with | .exit j => if j = id then K .next S' else K (.exit j) S' | .next => K .next S' | .ret => K .ret S'
 | .loop a,S,K => ∃ (I : Nat → ak → Prop) (m : Nat) (ht : Option (List Nat × Option (List Nat × Nat))) (cs : List rC),I m ((S.gM cs).e1 ht) ∧ ∀ k bT,I k bT → g4 a bT fun e S' => match e with | .next => ∃ dG ht,dG < k ∧ I dG (S'.e1 ht) | .ret => K .ret S' | .exit i => K (.exit i) S'
 | .exit id,S,K => K (.exit id) S
 | .ret,S,K => K .ret S

inductive b6 where
 | tmp (t : Nat)
 | eB (t : Nat) (dK : Option Nat)
def ak.zs (S : ak) : b6 → Option aw
 | .tmp t => S.bg (.tmp t)
 | .eB t dK => (S.bg (.tmp t)).bind fun p => (S.at p).bind fun q => match dK with
  | some n => if q.2 + n ≤ q.1.length then some (.agg ((q.1.drop q.2).take n)) else none
  | none => q.1[q.2]?
def ak.ke (S : ak) : List b6 → ak
 | [] => S
 | r :: l => match S.zs r with
  | some x => (S.jA x).ke l
  | none => S.ke l
def ak.pZ (S : ak) : List b6 → Option (List aw)
 | [] => some []
 | r :: l => ((S.zs r).bind S.arg).bind fun y => (S.pZ l).map (y :: ·)
def si : List aw → aw
 | [x] => x
 | l => .bY l
def qT : Nat → List aw → List (Nat × aw)
 | _,[] => []
 | i,x :: l => (i,x) :: qT (i + 1) l
def fin (eS : List b6) (r : aw) (e : qK) (S : ak) : Prop :=
 match e with
 | .exit _ => False
 | _ => cS ((S.ke eS).pZ eS) fun l => si l = r
def EZ (h7 r : aw) : Prop := ∀ (H : bl) (v : Value),cl H eD h7 v → cl H eD r v
def Af (eS : List b6) (r : aw) (e : qK) (S : ak) : Prop :=
 match e with
 | .exit _ => False
 | _ => cS ((S.ke eS).pZ eS) fun l => EZ (si l) r
def Ah (eS : List b6) (n : Nat) (J : bl → Env → Prop) (P : (bl → Env → Prop) → aw → List (Nat × bo) → Nat → Prop) (e : qK) (S : ak) : Prop :=
 match e with
 | .exit _ => False
 | _ => cS ((S.ke eS).pZ eS) fun l => an (S.ke eS).O n = some (.cB J) ∧ P J (si l) (S.ke eS).O (S.ke eS).n
def FM (h9 : bZ) (eS : List b6) (args : List aw) (r : aw) : Prop := g4 h9 ⟨qT 0 args,[],0⟩ (Af eS r)
def bK (h9 : bZ) (eS : List b6) (args : List aw) (r : aw) : Prop := g4 h9 ⟨qT 0 args,[],0⟩ (fin eS r)
def ab (d:Nat) (x:b7):cA:=⟨some d,none,x⟩
def aQ (x:b7):cA:=⟨none,none,x⟩
def a8 (d t:Nat) (b:Bool) (x:b7):cA:=⟨some d,some (t,b),x⟩
def aa (n:Nat):Operand:=.tmp n
def ay (n:Int):Operand:=.const (.int .i64 n)
def a3 (b:Bool):Operand:=.const (.bool b)
end Go.Proofs.YtkmbcjnaaokilaaGreatDoor
namespace Go.Proofs.YtkmbcjnaaokilaaGreatDoor
set_option linter.unusedSimpArgs false
set_option linter.unusedVariables false
open Go.RowKit Go.Maps

theorem EU.le {H H' : bl} (g : hk H H') {r : Nat} {ob : Obj} {f left hU} (h : EU H r ob f left hU) : EU H' r ob f left hU := by
 rcases h with h | ⟨b,jo,bd,M,D,AH,F,af,aj,av,aY,bM,bN,cJ⟩
 ·exact .inl h
 ·exact .inr ⟨b,jo,bd,M,D,AH,F,g _ _ af,aj,av,aY,bM,fun j s u a b => (bN j s u a b).mono g (fW.refl _),cJ⟩
theorem EB.le {H H' : bl} (g : hk H H') {r : Nat} {ob : Obj} {j s} (h : EB H r ob j s) : EB H' r ob j s := by
 obtain ⟨v,af,aj⟩ := h
 exact ⟨v,fun w ao aA => af w (fun i o ax => ao i o (g _ _ ax)) aA,aj.mono g (fW.refl _)⟩
theorem qP.grow {B H E w i o w' H'} (h : qP B H E w i o) (g : Grow w H w' H') (ao : Sub H w) : qP B H' E w' i o := by
 have hle := g.le ao
 cases o with
 | box t cs =>
  obtain ⟨b,vs,af,aj,av,aY,bM,bN⟩ := h
  have bQ := (Array.getElem?_eq_some_iff.1 aY).1
  exact ⟨b,vs,af,aj,(g.old b bQ).trans av,(g.below.block b bQ).trans aY,bM.mono hle (fW.refl _),bN⟩
 | row e k es =>
  obtain ⟨u,ob,xs,af,az,aj,av⟩ := h
  refine ⟨u,ob,xs,af,az,aj.mono hle,av.imp id ?_⟩
  rintro ⟨ku,cap,cur,bS,bH,bP,a4,fs,hD⟩
  have bQ := (Array.getElem?_eq_some_iff.1 fs).1
  exact ⟨ku,cap,cur,bS,bH,bP,(g.old _ bQ).trans a4,(g.below.block _ bQ).trans fs,hD⟩
 | map bd N f =>
  obtain ⟨b,o,F,af,aj,av,aY,bM,bN,cJ,c9⟩ := h
  have bQ := (Array.getElem?_eq_some_iff.1 aY).1
  exact ⟨b,o,F,af,aj,(g.old b bQ).trans av,(g.below.block b bQ).trans aY,bM,bN,cJ,fun j s u a b => (c9 j s u a b).mono hle (fW.refl _)⟩
 | iter f left hU cur =>
  obtain ⟨r,ob,af,aj,av,aY,bM,bN⟩ := h
  have bQ := (Array.getElem?_eq_some_iff.1 aY).1
  exact ⟨r,ob,af,aj,(g.old r bQ).trans av,(g.below.block r bQ).trans aY,bM.le hle,fun j s e => (bN j s e).le hle⟩
 | gi x =>
  obtain ⟨u,k,b,af,aj,av,aY⟩ := h
  exact ⟨u,k,b,af,aj.mono hle (fW.refl _),av,aY⟩
 | h2 e cs =>
  obtain ⟨b,cap,cur,af,aj,av,aY,bM,bN,cJ⟩ := h
  have bQ := (Array.getElem?_eq_some_iff.1 aY).1
  exact ⟨b,cap,cur,af,aj,(g.old b bQ).trans av,(g.below.block b bQ).trans aY,bM,bN.mono hle (fW.refl _),cJ⟩
 | cB J => exact ⟨h.1,h.2.2 _ _ _ _ hle (fW.refl _) h.2.1,h.2.2⟩
theorem nN.grow {B S E w H w' H'} (h : nN B S E w H) (g : Grow w H w' H') (ao : Sub H w) : nN B S E w' H' := fun i o ax => (h i o ax).grow g ao

section
variable {B : Nat} {S : ak} {E : Env} {w : World} {H : bl}

theorem Nf (dX : nN B S E w H) {x u} (h : cl H E x u) : cl H E (S.res x) u := by
 cases h with
 | own h af =>
  rename_i i k b
  show cl H E (match an S.O i with | some (.gi x) => x | _ => .own i) u
  split
  ·rename_i y aJ
   obtain ⟨k5,dG,gb,a1,a7,_⟩ := dX _ _ aJ
   rw [h] at a1; cases a1
   exact a7.mono (fun _ _ h => h) (mb _)
  ·exact .own h af
 | ptr h =>
  rename_i i idx off k5 k b
  show cl H E (match an S.O i with | some (.gi (.di e 0)) => .di e off | _ => .ptr i idx off) _
  split
  ·rename_i e aJ
   obtain ⟨ha,dG,gb,a1,a7,_,fb⟩ := dX _ _ aJ
   rw [h] at a1; cases a1
   obtain ⟨rfl,fP,aI,rfl⟩ := fb e rfl
   cases aI
   generalize aT : (Value.pointer (some ⟨b,0,none⟩)) = q at a7
   cases a7 with
   | di bS bH bP =>
    rename_i ez o xs
    simp only [Nat.add_zero,Value.pointer.injEq,Option.some.injEq,Addr.mk.injEq,and_true] at aT
    obtain ⟨rfl,rfl⟩ := aT
    have := cl.di (E := E) (off := off) bS bH bP
    simpa using this
  ·exact .ptr h
 | v h => exact .v h
 | agg a b => exact .agg a b
 | bY a => exact .bY a
 | au a b c d e f g => exact .au a b c d e f g
 | nA h => exact .nA h
 | mp a b c d e => exact .mp a b c d e
 | fn a b => exact .fn a b
 | ds a => exact .ds a
 | di a b c => exact .di a b c
 | any a => exact .any a

def pj (S : ak) (E : Env) (H : bl) (a : Act) (xs : List Operand) : Prop := ∀ x ∈ xs,∀ y,S.bg x = some y → cl H E y (a.eval x)
theorem pj.get {a : Act} {xs : List Operand} (h : pj S E H a xs) {x : Operand} {y : aw} (ar : x ∈ xs) (aV : S.bg x = some y) : cl H E y (a.eval x) := h x ar y aV
theorem S1 {α : Type} {g : Nat} {x : α} : ∀ {l : List (Nat × α)},l.lookup g = some x → (g,x) ∈ l
 | [],h => by cases h
 | (k,y) :: l,h => by
  rw [List.lookup_cons] at h
  split at h
  ·rename_i e
   have e : g = k := by simpa using e
   cases h; subst e; exact List.mem_cons_self ..
  ·exact List.mem_cons_of_mem _ (S1 h)
theorem aex : ∀ p ∈ Ak,∀ u ∈ p.2,u.oneCell' = true := by decide
theorem Uy {H : bl} {E : Env} : ∀ (vs : List Value),(∀ u ∈ vs,u.oneCell' = true) → dg H E (vs.map aw.v) vs
 | [],_ => .nil
 | u :: l,h => .cons (.v (h u (List.mem_cons_self ..))) (Uy l fun x ar => h x (List.mem_cons_of_mem _ ar))
theorem T9 {a : Act} (Cm : wa H) (dX : nN B S E w H) {x : Operand} (eE : ∀ t y,x = .tmp t → an S.T t = some y → cl H E y (a.eval (.tmp t))) {y : aw} (h : S.bg x = some y) : cl H E y (a.eval x) := by
 cases x with
 | tmp t =>
  simp only [ak.bg,Option.map_eq_some_iff] at h
  obtain ⟨z,bR,rfl⟩ := h
  exact Nf dX (eE t z rfl bR)
 | const v =>
  simp only [ak.bg] at h
  split at h
  ·rename_i af; cases h; exact .v af
  ·cases h
 | func f => simp only [ak.bg,Option.some.injEq] at h; subst h; exact .fn .nil .nil
 | global g =>
  simp only [ak.bg,Option.map_eq_some_iff] at h
  obtain ⟨vs,aE,rfl⟩ := h
  have hm := S1 aE
  obtain ⟨c,t,c0,e,aB⟩ := Cm _ hm
  have af := aex _ hm
  have := cl.di (H := H) (E := E) (off := 0) (b := g) (o := 0) (xs := vs) (Uy vs af) (by simp [aw.one]) (fun j u hu => ⟨c,t,c0,e,by rw [Nat.zero_add]; exact aB j u hu⟩)
  simpa [Act.eval] using this

theorem E7 (dX : nN B S E w H) {x y u} (h : cl H E x u) (a5 : S.mM x = some y) : cl H eD y u ∧ y.pure = true ∧ (x.one = true → y.one = true) := by
 unfold ak.mM at a5
 simp only at a5
 split at a5
 ·rename_i hp
  cases a5
  refine ⟨(Nf dX h).pure hp _,hp,fun _ => ?_⟩
  cases aT : S.res x <;> simp_all [aw.pure,aw.one]
 ·cases a5
theorem I7 (dX : nN B S E w H) : ∀ {xs ys us},dg H E xs us → S.rK xs = some ys → dg H eD ys us ∧ ys.all aw.pure = true ∧ (xs.all aw.one = true → ys.all aw.one = true)
 | _,_,_,.nil,h => by simp only [ak.rK,Option.some.injEq] at h; subst h; exact ⟨.nil,rfl,fun _ => rfl⟩
 | _,_,_,.cons h t,a5 => by
  simp only [ak.rK,Option.bind_eq_some_iff,Option.map_eq_some_iff] at a5
  obtain ⟨y,aV,l,aE,rfl⟩ := a5
  obtain ⟨bS,bH,bP⟩ := E7 dX h aV
  obtain ⟨dh,dv,gL⟩ := I7 dX t aE
  refine ⟨.cons bS dh,by simp [bH]; simpa using dv,fun af => ?_⟩
  simp only [List.all_cons,Bool.and_eq_true] at af ⊢
  exact ⟨bP af.1,gL af.2⟩
theorem Bz (dX : nN B S E w H) {x y u} (h : cl H E x u) (a5 : S.arg x = some y) : cl H eD y u := by
 cases h with
 | agg h af =>
  simp only [ak.arg,Option.map_eq_some_iff] at a5
  obtain ⟨l,aE,rfl⟩ := a5
  obtain ⟨bS,_,bP⟩ := I7 dX h aE
  exact .agg bS (bP af)
 | bY h => cases a5
 | v h => cases a5; exact .v h
 | au a b c d e f g => cases a5; exact .au a b c d e f g
 | nA h => cases a5; exact .nA h
 | mp a b c d e => cases a5; exact .mp a b c d e
 | fn a b => cases a5; exact .fn a b
 | ds a => cases a5; exact .ds a
 | di a b c => cases a5; exact .di a b c
 | any a => cases a5; exact .any a
 | own h af => exact (E7 dX (.own h af) a5).1
 | ptr h => exact (E7 dX (.ptr h) a5).1
theorem uQ (dX : nN B S E w H) {a : Act} : ∀ {xs : List Operand} {ys},pj S E H a xs → S.args xs = some ys → dg H eD ys (xs.map a.eval)
 | [],_,_,h => by simp only [ak.args,Option.some.injEq] at h; subst h; exact .nil
 | x :: l,_,ax,a5 => by
  simp only [ak.args,Option.bind_eq_some_iff,Option.map_eq_some_iff] at a5
  obtain ⟨y,⟨z,bR,aV⟩,vI,aE,rfl⟩ := a5
  exact .cons (Bz dX (ax.get (by simp) bR) aV) (uQ dX (fun x ar => ax x (by simp [ar])) aE)

theorem z5 {x u} (h : cl H E x u) (af : x.cells.all aw.one = true) : dg H E x.cells u.cells.toList := by
 cases h with
 | agg h _ => simpa [aw.cells,Value.cells] using h
 | bY h => simp [aw.cells,aw.one] at af
 | v h => 
  have e : u.cells = #[u] := by cases u <;> simp_all [Value.cells,Value.oneCell']
  simp only [aw.cells,e]; exact .cons (.v h) .nil
 | au a b c d e f g => exact .cons (.au a b c d e f g) .nil
 | nA h => exact .cons (.nA h) .nil
 | mp a b c d e => exact .cons (.mp a b c d e) .nil
 | fn a b => exact .cons (.fn a b) .nil
 | ds a => exact .cons (.ds a) .nil
 | di a b c => exact .cons (.di a b c) .nil
 | any af =>
  have e : u.cells = #[u] := by cases u <;> simp_all [Value.cells,Value.oneCell']
  simp only [aw.cells,e]; exact .cons (.any af) .nil
 | own h af =>
  have e : u.cells = #[u] := by cases u <;> simp_all [Value.cells,Value.oneCell']
  simp only [aw.cells,e]; exact .cons (.own h af) .nil
 | ptr h => exact .cons (.ptr h) .nil

theorem Jc (dX : nN B S E w H) (ao : Sub H w) {x u cs off} (h : cl H E x u) (a5 : S.at x = some (cs,off)) :
  ∃ b o vs,u = .pointer (some ⟨b,o + off,none⟩) ∧ dg H E cs vs ∧ cs.all aw.one = true ∧ ∀ j v,vs[j]? = some v → w.cell? ⟨b,o + j,none⟩ = some v := by
 cases h with
 | ptr h =>
  rename_i i idx ard k5 k b
  simp only [ak.at] at a5
  split at a5
  ·rename_i t cs' aJ
   cases a5
   obtain ⟨gb,vs,af,aj,av,aY,bM,bN⟩ := dX _ _ aJ
   rw [h] at af; cases af
   refine ⟨b,0,vs,by simp,bM,bN,fun j v bj => ?_⟩
   simp [World.cell?,aY,bj]
  ·rename_i e dG es aJ
   simp only [Option.map_eq_some_iff,Prod.mk.injEq] at a5
   obtain ⟨el,afV,rfl,rfl⟩ := a5
   obtain ⟨ha,ob,xs,af,az,aj,av⟩ := dX _ _ aJ
   rw [h] at af; cases af
   rcases av with ⟨_,av,_⟩ | ⟨g,cap,cur,bS,bH,bP,a4,fs,hD,k9,uN,fN,hn⟩
   ·cases av
   ·cases bS
    obtain ⟨vs,cd,c2,eu,fR⟩ := aj.get afV
    refine ⟨_,idx * k,vs,rfl,c2.mono (fun _ _ h => h) (mb _),eu,fun j v bj => ?_⟩
    have := fR j v bj
    rw [← hn,List.getElem?_take] at this
    split at this
    ·simp [World.cell?,fs]; simpa using this
    ·cases this
  ·rename_i e cs' aJ
   cases a5
   obtain ⟨g,cap,cur,af,aj,av,aY,bM,bN,cJ⟩ := dX _ _ aJ
   rw [h] at af; cases af
   refine ⟨b,0,_,by simp,bN,cJ,fun j v bj => ?_⟩
   rw [List.getElem?_take] at bj
   split at bj
   ·simp [World.cell?,aY]; simpa using bj
   ·cases bj
  ·cases a5
 | di bS bH bP =>
  simp only [ak.at,Option.some.injEq,Prod.mk.injEq] at a5
  obtain ⟨rfl,rfl⟩ := a5
  refine ⟨_,_,_,rfl,bS.mono (fun _ _ h => h) (mb _),bH,fun j v bj => ?_⟩
  obtain ⟨cells,t,c0,a7,ct⟩ := bP j v bj
  have := ao _ _ a7
  simp [World.cell?,this,ct]
 | _ => cases a5

end

def m7 : TypeDesc → Bool
 | .struct _ | .array _ _ => true
 | _ => false
theorem HB {P : Program} {t d} (h : P.underlying t = some d) (w : World) : (isAgg t).run P w = .ok (m7 d) w := by
 cases d <;> simp [isAgg,run_underlying h,m7]
theorem run_sizeOf {P : Program} {t i} (h : P.info? t = some i) (w : World) : (sizeOf t).run P w = .ok i.size w := by simp [sizeOf,typeInfo,h]
theorem zu {P : Program} {t i z} (h : P.info? t = some i) (bR : i.zero = some z) (w : World) : (zeroValue t).run P w = .ok z w := by simp [zeroValue,typeInfo,h,bR]

def idxs {α : Type} : Nat → List α → List (Nat × α)
 | _,[] => []
 | j,x :: l => (j,x) :: idxs (j + 1) l

inductive eW : Op → b7 → Prop
 | ah {x} : eW (.move x) (.ah x)
 | E9 {x} : eW (.assign x) (.ah x)
 | SS {t x d i} : Tryz.prog.underlying t = some d → m7 d = true → Tryz.prog.info? t = some i → eW (.load t x) (.aC x (some i.size))
 | SR {t x d} : Tryz.prog.underlying t = some d → m7 d = false → eW (.load t x) (.aC x none)
 | aU {s x j eI f i} : Tryz.prog.underlying s = some (.struct eI) → eI[j]? = some f → Tryz.prog.info? f.type = some i → i.size ≠ 0 → eW (.fieldAddr s x j) (.aU x f.offset)
 | QP {s x j eI f i d} : Tryz.prog.underlying s = some (.struct eI) → eI[j]? = some f → Tryz.prog.info? f.type = some i → Tryz.prog.underlying f.type = some d → m7 d = true → eW (.field s x j) (.pD x f.offset (some i.size))
 | QO {s x j eI f d} : Tryz.prog.underlying s = some (.struct eI) → eI[j]? = some f → Tryz.prog.underlying f.type = some d → m7 d = false → eW (.field s x j) (.pD x f.offset none)
 | dD {t x j e i} : Tryz.prog.underlying t = some (.slice e) → Tryz.prog.info? e = some i → 0 < i.size → eW (.indexAddr t x j) (.dD x j i.size)
 | mV {t x j e i n} : Tryz.prog.underlying t = some (.array n e) → Tryz.prog.info? e = some i → eW (.indexAddr t x j) (.mV x j i.size n)
 | dO {t parts dE ps it z} {pl : Nat → Option (Nat × Nat)} : Tryz.prog.info? t = some it → it.zero = some z → z.cells.toList = dE.map ej.val → (∀ mI,Tryz.prog.built t mI = Instr.fill pl z.cells mI) →
   parts.toList.mapM (fun p => (pl p.1).map fun q => (q.1,q.2,p.2)) = some ps → eW (.build t parts) (.dO dE ps)
 | hE {t e i z parts xs} : Tryz.prog.underlying t = some (.slice e) → Tryz.prog.info? e = some i → i.zero = some z → z.cells.size = i.size → 0 < i.size → parts.toList = idxs 0 xs → xs.length * i.size ≤ 16777216 → eW (.buildSlice t xs.length parts) (.hE i.size xs)
 | uV {t e i z parts xs} : Tryz.prog.underlying t = some (.slice e) → Tryz.prog.info? e = some i → i.zero = some z → z.cells.size = i.size → 0 < i.size → parts.toList = idxs 0 xs → xs.length * i.size ≤ 16777216 → eW (.buildSlice t xs.length parts) (.uV i.size xs e)
 | k1 {t e i x jD aq mx} : Tryz.prog.underlying t = some (.slice e) → Tryz.prog.info? e = some i → eW (.slice t x jD aq mx) (.k1 i.size x jD aq mx)
 | len {t e x} : Tryz.prog.underlying t = some (.slice e) → eW (.call ⟨.builtin .len,#[x],#[t]⟩) (.len x)
 | te {t bd e x} : Tryz.prog.underlying t = some (.map bd e) → Tryz.prog.underlying bd = some (.int .i64) → eW (.call ⟨.builtin .len,#[x],#[t]⟩) (.te bd x)
 | mW {t bd e i m key ok} {z : ej} : Tryz.prog.underlying t = some (.map bd e) → Tryz.prog.underlying bd = some (.int .i64) → Tryz.prog.info? e = some i → i.zero = some z.val → eW (.lookup t m key ok) (.mW bd m key z ok)
 | ext {x i} : eW (.extract x i) (.ext x i)
 | bin {op t x y t2} : eW (.binOp op t x y t2) (.bin op x y)
 | eqv {t x y t2} : eW (.binOp .eql t x y t2) (.eqv false t x y)
 | Ms {t x y t2} : eW (.binOp .neq t x y t2) (.eqv true t x y)
 | not {t x} : eW (.unOp .not t x) (.not x)
 | mf {src dst x d k} : Tryz.prog.underlying src = some d → Tryz.prog.underlying dst = some (.int k) → eW (.convert src dst x) (.mf k x)
 | call {f fn args hQ} : Tryz.prog.funcs[f]? = some fn → fn.body.isSome = true → (fn.name == "runtime.NumGoroutine") = false → eW (.call ⟨.value (.func f),args,hQ⟩) (.call f args.toList)
 | kP {t args hQ} : eW (.call ⟨.value (.tmp t),args,hQ⟩) (.kP (.tmp t) args.toList)
 | kj {f first cap} : eW (.makeFunc f first cap) (.kj f first.toList cap.toList)
 | iC {t x d} : Tryz.prog.underlying t = some d → (∀ ms,d ≠ .interface ms) → eW (.makeInterface t x) (.iC t x)
 | pick {c a b} : eW (.pick c a b) (.pick c a b)
 | max {x y hQ} : eW (.call ⟨.builtin .max,#[x,y],hQ⟩) (.kX true x y)
 | min {x y hQ} : eW (.call ⟨.builtin .min,#[x,y],hQ⟩) (.kX false x y)
 | lB {x} : eW (.nilCheck x) (.lB x)
 | mY {t e i z n dE} : Tryz.prog.underlying t = some (.slice e) → Tryz.prog.info? e = some i → i.zero = some z → z.cells.toList = dE.map ej.val → z.cells.size = i.size → 0 < i.size → eW (.makeSlice t n n) (.mY n e i.size i.bytes dE)
 | o5 {t bd e} : Tryz.prog.underlying t = some (.map bd e) → Tryz.prog.underlying bd = some (.int .i64) → eW (.makeMap t none) (.o5 t bd)
 | app {t e i z x y} : Tryz.prog.underlying t = some (.slice e) → Tryz.prog.info? e = some i → i.zero = some z → z.cells.size = i.size → 0 < i.size → eW (.call ⟨.builtin .append,#[x,y],#[t,t]⟩) (.app x y e i.size i.bytes)
 | cw {t i z dE} : Tryz.prog.info? t = some i → i.zero = some z → z.cells.toList = dE.map ej.val → eW (.alloc t) (.cw t dE)
 | box {t x} : eW (.box t x) (.box t x)
 | st {t i x y} : Tryz.prog.info? t = some i → eW (.store t x y) (.st i.size x y)
 | rO {t e i x y t2} : Tryz.prog.underlying t = some (.slice e) → Tryz.prog.info? e = some i → eW (.call ⟨.builtin .copy,#[x,y],#[t,t2]⟩) (.rO x y i.size)
 | qv {t bd e m key x} : Tryz.prog.underlying t = some (.map bd e) → Tryz.prog.underlying bd = some (.int .i64) → eW (.mapUpdate t m key x) (.qv bd m key x)
 | del {t bd e m key} : Tryz.prog.underlying t = some (.map bd e) → Tryz.prog.underlying bd = some (.int .i64) → eW (.call ⟨.builtin .delete,#[m,key],#[t,bd]⟩) (.del bd m key)
 | kl {t bd e x} : Tryz.prog.underlying t = some (.map bd e) → Tryz.prog.underlying bd = some (.int .i64) → eW (.range t x) (.kl bd x)
 | o7 {x} : eW (.next x false) (.o7 x)
 | rS {x} : eW (.entry x) (.rS x)
 | gen {op xs} : eW op (.gen op xs)

def b7.cX : b7 → List Operand
 | .ah x | .aC x _ | .aU x _ | .pD x _ _ | .len x | .te _ x | .ext x _ | .not x | .mf _ x | .iC _ x | .lB x | .mY x _ _ _ _ | .box _ x => [x]
 | .dD x i _ | .mV x i _ _ | .mW _ x i _ _ | .bin _ x i | .eqv _ _ x i | .kX _ x i | .app x i _ _ _ | .st _ x i | .rO x i _ => [x,i]
 | .dO _ ps => ps.map (·.2.2)
 | .hE _ xs | .uV _ xs _ | .call _ xs | .gen _ xs => xs
 | .k1 _ x jD aq mx => x :: (jD.toList ++ aq.toList ++ mx.toList)
 | .kP x xs => x :: xs
 | .kj _ a b => a ++ b
 | .pick c a b => [c,a,b]
 | .qv _ m k x => [m,k,x]
 | .del _ m k => [m,k]
 | .kl _ x | .o7 x | .rS x => [x]
 | .o5 _ _ | .cw _ _ => []

def Good (o : Oper) (S : ak) (E : Env) (xs : List Operand) (s : aw) : Prop :=
 ∀ (B : Nat) (a : Act) (w : World) (H : bl),Sub H w → nN B S E w H → pj S E H a xs → o.wp Tryz.prog a w (fun dN w' => ∃ v H',dN = a.put o.dst v ∧ Grow w H w' H' ∧ cl H' E s v) Bp

theorem Cg {o S E xs s} (h : ∀ B a w H,Sub H w → nN B S E w H → pj S E H a xs → ∃ v w' H',(execOp a.eval o).run Tryz.prog w = .ok (.value v) w' ∧ Grow w H w' H' ∧ cl H' E s v) : Good o S E xs s := by
 intro B a w H af aj av
 obtain ⟨v,w',H',e,g,r⟩ := h B a w H af aj av
 unfold Oper.wp
 rw [e]
 exact ⟨v,H',rfl,g,r⟩
theorem lj {o S E xs s} (h : ∀ B a w H,Sub H w → nN B S E w H → pj S E H a xs → ∃ v,(execOp a.eval o).run Tryz.prog w = .ok (.value v) w ∧ cl H E s v) : Good o S E xs s :=
 Cg fun B a w H af aj av => by obtain ⟨v,e,r⟩ := h B a w H af aj av; exact ⟨v,w,H,e,Grow.refl af,r⟩

section
variable {o : Oper} {S : ak} {E : Env}

theorem Nl {P : Program} {w : World} {t : TypeId} {d : TypeDesc} {b o' off : Nat} {vs : List Value} (hu : P.underlying t = some d) (eM : ∀ j v,vs[j]? = some v → w.cell? ⟨b,o' + j,none⟩ = some v) :
  (∀ i,m7 d = true → P.info? t = some i → off + i.size ≤ vs.length → (Instr.loadAt t (.pointer (some ⟨b,o' + off,none⟩))).run P w = .ok (.agg ((vs.drop off).take i.size).toArray) w) ∧
  (∀ u,m7 d = false → vs[off]? = some u → (Instr.loadAt t (.pointer (some ⟨b,o' + off,none⟩))).run P w = .ok u w) := by
 constructor
 ·intro i a5 aq aE
  have hlen : ((vs.drop off).take i.size).length = i.size := by simp; omega
  have := run_loadCells_list (P := P) w ⟨b,o' + off,none⟩ ((vs.drop off).take i.size) (fun j v bj => by
   rw [Addr.add_lit,Nat.add_assoc]
   rw [List.getElem?_take] at bj
   split at bj
   ·rw [List.getElem?_drop] at bj; exact eM _ _ bj
   ·cases bj)
  rw [hlen] at this
  simp [Instr.loadAt,Instr.sureAddr,loadVar,HB hu,a5,run_sizeOf aq,this]
 ·intro u a5 bj
  have := eM _ _ bj
  simp [Instr.loadAt,Instr.sureAddr,loadVar,HB hu,a5,load,Sem.run,this]

theorem ak6 {P : Program} {w : World} {t : TypeId} {d : TypeDesc} {off : Nat} {vs : List Value} (hu : P.underlying t = some d) :
  (∀ i,m7 d = true → P.info? t = some i → off + i.size ≤ vs.length → (part t vs.toArray off).run P w = .ok (.agg ((vs.drop off).take i.size).toArray) w) ∧
  (∀ u,m7 d = false → vs[off]? = some u → (part t vs.toArray off).run P w = .ok u w) := by
 constructor
 ·intro i a5 aq aE
  simp [part,HB hu,a5,run_sizeOf aq,List.extract_eq_take_drop]
 ·intro u a5 bj
  simp [part,HB hu,a5,bj]

theorem Rv {x s} (ax : o.op = .move x ∨ o.op = .assign x) (h : S.bg x = some s) : Good o S E [x] s := lj fun B a w H af aj av => by
 refine ⟨a.eval x,?_,av.get (by simp) h⟩
 rcases ax with ax | ax <;> simp [execOp,ax]

theorem Rt {t x d s cs off dK k} (ax : o.op = .load t x) (hu : Tryz.prog.underlying t = some d) (Gf : (m7 d = true ∧ ∃ i,Tryz.prog.info? t = some i ∧ dK = some i.size) ∨ (m7 d = false ∧ dK = none))
  (h : S.bg x = some s) (a5 : S.at s = some (cs,off)) (az : cut cs off dK k) : ∃ r,k r ∧ Good o S E [x] r := by
 have : ∃ r,k r ∧ match dK with | some n => off + n ≤ cs.length ∧ r = .agg ((cs.drop off).take n) | none => cs[off]? = some r := by
  unfold cut at az
  cases dK with
  | some n => exact ⟨_,az.2,az.1,rfl⟩
  | none => obtain ⟨x,ar,az⟩ := b2 az; exact ⟨x,az,ar⟩
 obtain ⟨r,aA,hm⟩ := this
 refine ⟨r,aA,lj fun B a w H af aj av => ?_⟩
 obtain ⟨b,o',vs,bj,bf,u7,eM⟩ := Jc aj af (av.get (by simp) h) a5
 obtain ⟨l1,l2⟩ := Nl (P := Tryz.prog) (off := off) hu eM
 rcases Gf with ⟨a6,i,aq,rfl⟩ | ⟨a6,rfl⟩
 ·obtain ⟨aE,rfl⟩ := hm
  refine ⟨_,by simp [execOp,ax,bj,l1 i a6 aq (by rw [← bf.length]; exact aE)],.agg ((bf.drop off).take _) ?_⟩
  rw [List.all_eq_true] at u7 ⊢
  intro x ar
  exact u7 x (List.mem_of_mem_drop (List.mem_of_mem_take ar))
 ·obtain ⟨u,ue,Dd⟩ := bf.get hm
  exact ⟨u,by simp [execOp,ax,bj,l2 u a6 ue],Dd⟩

theorem Rq {t x j eI f i s dH} (ax : o.op = .fieldAddr t x j) (hu : Tryz.prog.underlying t = some (.struct eI)) (aZ : eI[j]? = some f) (aq : Tryz.prog.info? f.type = some i) (bR : i.size ≠ 0)
  (h : S.bg x = some s) (ao : (∃ i idx o,s = .ptr i idx o ∧ dH = .ptr i idx (o + f.offset)) ∨ (∃ e o,s = .di e o ∧ dH = .di e (o + f.offset))) : Good o S E [x] dH := lj fun B a w H af aj av => by
 have aA := av.get (by simp) h
 have da : ∀ b o',a.eval x = .pointer (some ⟨b,o',none⟩) → (execOp a.eval o).run Tryz.prog w = .ok (.value (.pointer (some ⟨b,o' + f.offset,none⟩))) w := fun b o' e => by
  simp [execOp,ax,e,Instr.fieldAt,run_underlying hu,aZ,Instr.sureAddr,fieldPlace,run_sizeOf aq,bR,Addr.add_lit]
 rcases ao with ⟨jC,idx,o',rfl,rfl⟩ | ⟨e,o',rfl,rfl⟩
 ·generalize aT : a.eval x = q at aA
  cases aA with
  | ptr h => exact ⟨_,da _ _ aT,by rw [Nat.add_assoc]; exact .ptr h⟩
 ·generalize aT : a.eval x = q at aA
  cases aA with
  | di dh dv gL => exact ⟨_,da _ _ aT,by rw [Nat.add_assoc]; exact .di dh dv gL⟩

theorem Rr {t x j eI f d cs dK k} (ax : o.op = .field t x j) (hu : Tryz.prog.underlying t = some (.struct eI)) (aZ : eI[j]? = some f) (a6 : Tryz.prog.underlying f.type = some d)
  (Gf : (m7 d = true ∧ ∃ i,Tryz.prog.info? f.type = some i ∧ dK = some i.size) ∨ (m7 d = false ∧ dK = none)) (h : S.bg x = some (.agg cs)) (az : cut cs f.offset dK k) : ∃ r,k r ∧ Good o S E [x] r := by
 have : ∃ r,k r ∧ match dK with | some n => f.offset + n ≤ cs.length ∧ r = .agg ((cs.drop f.offset).take n) | none => cs[f.offset]? = some r := by
  unfold cut at az
  cases dK with
  | some n => exact ⟨_,az.2,az.1,rfl⟩
  | none => obtain ⟨x,ar,az⟩ := b2 az; exact ⟨x,az,ar⟩
 obtain ⟨r,aA,hm⟩ := this
 refine ⟨r,aA,lj fun B a w H af aj av => ?_⟩
 have bf := av.get (by simp) h
 generalize aT : a.eval x = q at bf
 cases bf with
 | agg bf u7 =>
  rename_i vs
  obtain ⟨l1,l2⟩ := ak6 (P := Tryz.prog) (w := w) (off := f.offset) (vs := vs) a6
  rcases Gf with ⟨w3,i,aq,rfl⟩ | ⟨w3,rfl⟩
  ·obtain ⟨aE,rfl⟩ := hm
   refine ⟨_,by simp [execOp,ax,aT,Instr.field,run_underlying hu,aZ,asAgg,l1 i w3 aq (by rw [← bf.length]; exact aE)],.agg ((bf.drop f.offset).take _) ?_⟩
   rw [List.all_eq_true] at u7 ⊢
   intro x ar
   exact u7 x (List.mem_of_mem_drop (List.mem_of_mem_take ar))
  ·obtain ⟨u,ue,Dd⟩ := bf.get hm
   exact ⟨u,by simp [execOp,ax,aT,Instr.field,run_underlying hu,aZ,asAgg,l2 u w3 ue],Dd⟩

theorem aeV {t x j e i fq n es el} (ax : o.op = .indexAddr t x j) (hu : Tryz.prog.underlying t = some (.slice e)) (aq : Tryz.prog.info? e = some i) (fK : 0 < i.size) {full : Nat}
  (h : S.bg x = some (.au i.size full es)) (aN : S.bg j = some (.v (.int fq n))) (ba : 0 ≤ n) (he : es[n.toNat]? = some el) : Good o S E [x,j] (.di el 0) := lj fun B a w H af aj av => by
 have bf := av.get (by simp) h
 have gO := av.get (by simp) aN
 generalize aT : a.eval x = q at bf
 generalize mA : a.eval j = m0 at gO
 cases gO
 cases bf with
 | au bL a9 aB hm aZ a5 eM =>
  rename_i uP len cap xs
  have bQ := (List.getElem?_eq_some_iff.1 he).1
  obtain ⟨vs,cd,c2,eu,fR⟩ := bL.get he
  cases uP with
  | none => have := a5 rfl; omega
  | some cm =>
   obtain ⟨Eg,Dg⟩ : ∃ u,vs[0]? = some u := ⟨vs[0]'(by omega),by simp⟩
   obtain ⟨b,o',cells,t',c0,a1,a7,ct⟩ := eM _ _ (fR 0 Eg Dg)
   cases a1
   refine ⟨.pointer (some ⟨b,o' + n.toNat * i.size + 0,none⟩),?_,.di c2 eu (fun AD u ue => ?_)⟩
   ·simp [execOp,ax,aT,mA,Instr.indexAt,run_underlying hu,asIntOf,run_sizeOf aq,ba,show n < (len : Int) from by omega,Addr.add_lit]
   ·obtain ⟨gb,aq9,Js,alJ,JX,f1,f2,f3⟩ := eM _ _ (fR AD u ue)
    cases f1
    exact ⟨Js,alJ,JX,f2,by rw [Nat.add_assoc]; exact f3⟩
end

def Bu (H : bl) (r : Option Nat) (f : Int → Int) : Prop :=
 (∀ k,f k ≠ 0 → 0 ≤ k ∧ k < 4096) ∧ (∀ k,0 ≤ f k ∧ f k ≤ 9223372036854775807) ∧
 match r with
 | none => ∀ k,f k = 0
 | some b => ∃ o,H b = some o ∧ h4 76 o 4096 (fun k => if f k = 0 then Option.none else some (.int .i64 (f k)))
theorem Bu.le {H H' : bl} {r : Option Nat} {f : Int → Int} (h : Bu H r f) (g : hk H H') : Bu H' r f := by
 obtain ⟨af,aj,av⟩ := h
 refine ⟨af,aj,?_⟩
 cases r with
 | none => exact av
 | some b => obtain ⟨o,ax,hm⟩ := av; exact ⟨o,g _ _ ax,hm⟩

theorem X3 (w : World) : (zeroValue 3).run Tryz.prog w = .ok (.int .i64 0) w := by kernel_rfl

theorem Bu.lookup {H : bl} {r : Option Nat} {f : Int → Int} (h : Bu H r f) {w : World} (ao : Sub H w) {l : Int} (af : -9223372036854775808 ≤ l) (aj : l ≤ 9223372036854775807) :
  (Instr.lookup 155 (.map r) (.int .i64 l) false).run Tryz.prog w = .ok (.int .i64 (f l)) w := by
 obtain ⟨_,_,av⟩ := h
 cases r with
 | none =>
  rw [av l]
  exact Maps.look_nil false (int_keyed (P := Tryz.prog) Tryz.underlying76) Tryz.underlying155 (X3 w) (keyOf_int_mk (P := Tryz.prog) Tryz.underlying76 (Bd af aj))
 | some b =>
  obtain ⟨o,ax,hm⟩ := av
  have := (hm.lookup (ao b o ax) Tryz.underlying76 Tryz.underlying155 (X3 w) af aj).1
  rw [this]
  by_cases e : f l = 0 <;> simp [e]

theorem AU (w : World) (t k e : TypeId) (p : Option Nat) (h : Tryz.prog.underlying t = some (.map k e)) :
  (binOp .eql t (.map p) (.map none)).run Tryz.prog w = .ok (.bool p.isNone) w := run_eql_map_nil_sl w t k e p h

set_option maxRecDepth 100000 in
set_option maxHeartbeats 400000 in
theorem adm (b : Nat) (es : Array MapEntry) (clock : Nat) (w : World) (aI : w.heap[b]? = some (.map es clock)) :
  Calls Tryz.prog 123 #[.map (some b)] w fun e w' => e = .returned (.map (some w.heap.size)) ∧ w' = w.alloc (.map es clock) := by
 have aT := fun w => AU w 155 _ _ (some b) Tryz.underlying155
 go_enter Tryz.func123,Tryz.ntmps123
 go_wp2
 rw [run_callFunc_extern Tryz.func110 (by kernel_rfl) (by kernel_rfl) (by kernel_rfl) (e := Extern.MapsClone.clone) (by kernel_rfl),run_maps_clone_sl w 155 aI]
 simp only [Result.andThen]
 rw [Oper.upon_value]
 go_wp2
 rw [run_typeAssert_map_sl _ 155 20 _ _ _ Tryz.underlying155]
 simp only [Result.andThen]
 rw [Oper.upon_value]
 go_wp2
 go_ret
 exact ⟨rfl,rfl⟩

set_option maxRecDepth 100000 in
set_option maxHeartbeats 400000 in
theorem adl (w : World) :
  Calls Tryz.prog 123 #[.map none] w fun e w' => e = .returned (.map none) ∧ w' = w := by
 have aT := fun w => AU w 155 _ _ none Tryz.underlying155
 go_enter Tryz.func123,Tryz.ntmps123
 go_wp2
 go_ret
 exact ⟨rfl,rfl⟩


section
variable {o : Oper} {S : ak} {E : Env}

theorem aeW {t x j e i fq n es gm hG} (ax : o.op = .indexAddr t x j) (hu : Tryz.prog.underlying t = some (.slice e)) (aq : Tryz.prog.info? e = some i)
  (h : S.bg x = some (.own gm)) (aJ : an S.O gm = some (.row hG i.size es)) (aN : S.bg j = some (.v (.int fq n))) (ba : 0 ≤ n) (he : n.toNat < es.length) : Good o S E [x,j] (.ptr gm n.toNat 0) := lj fun B a w H af aj av => by
 have bf := av.get (by simp) h
 have gO := av.get (by simp) aN
 generalize aT : a.eval x = q at bf
 generalize mA : a.eval j = m0 at gO
 cases gO
 cases bf with
 | own bL _ =>
  obtain ⟨u,ob,xs,g1,_,bW,gH⟩ := aj _ _ aJ
  rw [bL] at g1; cases g1
  rcases gH with ⟨rfl,_⟩ | ⟨g,cap,cur,rfl,rfl,Cb⟩
  ·simp at he
  ·refine ⟨.pointer (some ⟨g,n.toNat * i.size + 0,none⟩),?_,.ptr bL⟩
   simp [execOp,ax,aT,mA,Instr.indexAt,run_underlying hu,asIntOf,run_sizeOf aq,ba,show n < (es.length : Int) from by omega,Addr.add_lit]

theorem aeX {t x j e i fq n cs gm hG} (ax : o.op = .indexAddr t x j) (hu : Tryz.prog.underlying t = some (.slice e)) (aq : Tryz.prog.info? e = some i) (hi : i.size = 1)
  (h : S.bg x = some (.own gm)) (aJ : an S.O gm = some (.h2 hG cs)) (aN : S.bg j = some (.v (.int fq n))) (ba : 0 ≤ n) (he : n.toNat < cs.length) : Good o S E [x,j] (.ptr gm n.toNat 0) := lj fun B a w H af aj av => by
 have bf := av.get (by simp) h
 have gO := av.get (by simp) aN
 generalize aT : a.eval x = q at bf
 generalize mA : a.eval j = m0 at gO
 cases gO
 cases bf with
 | own bL _ =>
  obtain ⟨g,cap,cur,g1,bW,gH,Cb,u4,Cc,aqc⟩ := aj _ _ aJ
  rw [bL] at g1; cases g1
  refine ⟨.pointer (some ⟨g,n.toNat * 1 + 0,none⟩),?_,.ptr bL⟩
  simp [execOp,ax,aT,mA,Instr.indexAt,run_underlying hu,asIntOf,run_sizeOf aq,ba,hi,show n < (cs.length : Int) from by omega,Addr.add_lit]

theorem Rs {t x j e i fq n N s dH} (ax : o.op = .indexAddr t x j) (hu : Tryz.prog.underlying t = some (.array N e)) (aq : Tryz.prog.info? e = some i)
  (h : S.bg x = some s) (aN : S.bg j = some (.v (.int fq n))) (ba : 0 ≤ n) (a9 : n < N)
  (ao : (∃ jC idx o,s = .ptr jC idx o ∧ dH = .ptr jC idx (o + n.toNat * i.size)) ∨ (∃ e o,s = .di e o ∧ dH = .di e (o + n.toNat * i.size))) : Good o S E [x,j] dH := lj fun B a w H af aj av => by
 have bf := av.get (by simp) h
 have gO := av.get (by simp) aN
 generalize mA : a.eval j = m0 at gO
 cases gO
 have da : ∀ b o',a.eval x = .pointer (some ⟨b,o',none⟩) → (execOp a.eval o).run Tryz.prog w = .ok (.value (.pointer (some ⟨b,o' + n.toNat * i.size,none⟩))) w := fun b o' e => by
  simp [execOp,ax,e,mA,Instr.indexAt,run_underlying hu,asIntOf,Instr.sureAddr,run_sizeOf aq,ba,a9,Addr.add_lit]
 rcases ao with ⟨jC,idx,o',rfl,rfl⟩ | ⟨e,o',rfl,rfl⟩
 ·generalize aT : a.eval x = q at bf
  cases bf with
  | ptr h => exact ⟨_,da _ _ aT,by rw [Nat.add_assoc]; exact .ptr h⟩
 ·generalize aT : a.eval x = q at bf
  cases bf with
  | di dh dv gL => exact ⟨_,da _ _ aT,by rw [Nat.add_assoc]; exact .di dh dv gL⟩

theorem Ke {t x e s n} (ax : o.op = .call ⟨.builtin .len,#[x],#[t]⟩) (hu : Tryz.prog.underlying t = some (.slice e)) (h : S.bg x = some s)
  (ao : (∃ k full es,s = .au k full es ∧ n = es.length) ∨ (∃ i hG k es,s = .own i ∧ an S.O i = some (.row hG k es) ∧ n = es.length) ∨ (∃ i hG cs,s = .own i ∧ an S.O i = some (.h2 hG cs) ∧ n = cs.length)) : Good o S E [x] (.v (.int .i64 n)) := lj fun B a w H af aj av => by
 have bf := av.get (by simp) h
 generalize aT : a.eval x = q at bf
 have da : ∀ uP cap,q = .slice uP n cap → (execOp a.eval o).run Tryz.prog w = .ok (.value (.int .i64 n)) w := fun uP cap e => by
  simp [execOp,ax,resolve,aT,e,invoke,builtin,Builtin.len_,run_underlying hu,goInt]
 refine ⟨.int .i64 n,?_,.v rfl⟩
 rcases ao with ⟨k,full,es,rfl,rfl⟩ | ⟨i,hG,k,es,rfl,aJ,rfl⟩ | ⟨i,hG,cs,rfl,aJ,rfl⟩
 ·cases bf with
  | au bL a9 aB hm aZ a5 eM => exact da _ _ (by rw [a9])
 ·cases bf with
  | own bL _ =>
   obtain ⟨u,ob,xs,g1,_,bW,gH⟩ := aj _ _ aJ
   rw [bL] at g1; cases g1
   rcases gH with ⟨rfl,_,cm,rfl⟩ | ⟨g,cap,cur,rfl,rfl,Cb⟩
   ·exact da _ _ rfl
   ·exact da _ _ rfl
 ·cases bf with
  | own bL _ =>
   obtain ⟨g,cap,cur,g1,_⟩ := aj _ _ aJ
   rw [bL] at g1; cases g1
   exact da _ _ rfl

theorem Es (H : bl) (E : Env) (z : ej) : cl H E z.ia z.val := by
 cases z with
 | au k => exact .au .nil rfl (Nat.le_refl _) (Nat.zero_le _) ⟨fun _ => rfl,fun _ _ => rfl⟩ (fun _ => rfl) (fun j u h => by simp at h)
 | mp bd => exact .nA (fun _ => rfl)
 | _ => exact .v rfl
theorem aoL (z : ej) : z.ia.one = true := by cases z <;> rfl
theorem zR (H : bl) (E : Env) : ∀ (dE : List ej),dg H E (dE.map ej.ia) (dE.map ej.val)
 | [] => .nil
 | z :: dE => .cons (Es H E z) (zR H E dE)
theorem Bf (dE : List ej) : (dE.map ej.ia).all aw.one = true := by simp [aoL]

theorem aeY {t bd e i m key ok f n} {z : ej} (ax : o.op = .lookup t m key ok) (hu : Tryz.prog.underlying t = some (.map bd e)) (az : Tryz.prog.underlying bd = some (.int .i64)) (aq : Tryz.prog.info? e = some i) (bR : i.zero = some z.val)
  (h : S.bg m = some (.mp bd f)) (aN : S.bg key = some (.v (.int .i64 n))) (bG : -9223372036854775808 ≤ n) (fz : n ≤ 9223372036854775807) :
  Good o S E [m,key] (if ok then .bY [(f n).getD z.ia,.v (.bool (f n).isSome)] else (f n).getD z.ia) := lj fun B a w H af aj av => by
 have bf := av.get (by simp) h
 have gO := av.get (by simp) aN
 generalize aT : a.eval m = q at bf
 generalize mA : a.eval key = m0 at gO
 cases gO
 have pS := zu aq bR
 have K := int_keyed (P := Tryz.prog) az
 have nq := keyOf_int_mk (P := Tryz.prog) az (Bd bG fz)
 cases bf with
 | nA aZ =>
  have dI := Maps.look_nil (P := Tryz.prog) (w := w) false K hu (pS w) nq
  have dS := Maps.look_nil (P := Tryz.prog) (w := w) true K hu (pS w) nq
  cases ok with
  | false => exact ⟨z.val,by simp [execOp,ax,aT,mA,dI],by simpa [aZ] using Es H E z⟩
  | true => exact ⟨.tuple #[z.val,.bool false],by simp [execOp,ax,aT,mA,dS],by simpa [aZ] using cl.bY (.cons (Es H E z) (.cons (.v rfl) .nil))⟩
 | mp aI hm dy o1 LK =>
  rename_i b zi N F
  obtain ⟨dI,dS⟩ := hm.lookup (af _ _ aI) az hu (pS w) bG fz
  have bj : cl H E ((f n).getD z.ia) ((F n).getD z.val) := by
   cases aZ : f n with
   | none => rw [(o1 n).1 aZ]; exact Es H E z
   | some s =>
    cases bu : F n with
    | none => rw [(o1 n).2 bu] at aZ; cases aZ
    | some u => exact (LK n s u aZ bu).mono (fun _ _ h => h) (mb _)
  have jQ : (F n).isSome = (f n).isSome := by
   have := o1 n
   cases aZ : f n <;> cases bu : F n <;> simp_all
  cases ok with
  | false => exact ⟨_,by simp [execOp,ax,aT,mA,dI],bj⟩
  | true => exact ⟨_,by simp [execOp,ax,aT,mA,dS]; rfl,by simpa [jQ] using cl.bY (.cons bj (.cons (.v rfl) .nil))⟩

theorem aeZ {t bd e i m key ok f n gm M} {z : ej} (ax : o.op = .lookup t m key ok) (hu : Tryz.prog.underlying t = some (.map bd e)) (az : Tryz.prog.underlying bd = some (.int .i64)) (aq : Tryz.prog.info? e = some i) (bR : i.zero = some z.val)
  (h : S.bg m = some (.own gm)) (aJ : an S.O gm = some (.map bd M f)) (aN : S.bg key = some (.v (.int .i64 n))) (bG : -9223372036854775808 ≤ n) (fz : n ≤ 9223372036854775807) :
  Good o S E [m,key] (if ok then .bY [(f n).getD z.ia,.v (.bool (f n).isSome)] else (f n).getD z.ia) := lj fun B a w H af aj av => by
 have bf := av.get (by simp) h
 have gO := av.get (by simp) aN
 generalize aT : a.eval m = q at bf
 generalize mA : a.eval key = m0 at gO
 cases gO
 have pS := zu aq bR
 obtain ⟨b,zi,F,a1,a7,ct,fb,iA,mi,o1,LK⟩ := aj _ _ aJ
 cases bf with
 | own bL _ =>
  rw [bL] at a1; cases a1
  obtain ⟨dI,dS⟩ := iA.lookup fb az hu (pS w) bG fz
  have bj : cl H E ((f n).getD z.ia) ((F n).getD z.val) := by
   cases aZ : f n with
   | none => rw [(o1 n).1 aZ]; exact Es H E z
   | some s =>
    cases bu : F n with
    | none => rw [(o1 n).2 bu] at aZ; cases aZ
    | some u => exact (LK n s u aZ bu).mono (fun _ _ h => h) (mb _)
  have jQ : (F n).isSome = (f n).isSome := by
   have := o1 n
   cases aZ : f n <;> cases bu : F n <;> simp_all
  cases ok with
  | false => exact ⟨_,by simp [execOp,ax,aT,mA,dI],bj⟩
  | true => exact ⟨_,by simp [execOp,ax,aT,mA,dS]; rfl,by simpa [jQ] using cl.bY (.cons bj (.cons (.v rfl) .nil))⟩

theorem aeS {x i cs s} (ax : o.op = .extract x i) (h : S.bg x = some (.bY cs)) (aq : cs[i]? = some s) : Good o S E [x] s := lj fun B a w H af aj av => by
 have bf := av.get (by simp) h
 generalize aT : a.eval x = q at bf
 cases bf with
 | bY fS =>
  obtain ⟨u,hu,aA⟩ := fS.get aq
  exact ⟨u,by simp [execOp,ax,aT,Instr.extract,hu],aA⟩

theorem UG {op : BinOp} {t : TypeId} {k : IntKind} {x y : Int} {r : Value} (v7 xT : Operand) (h : nV op k x y = some r) (w : World) :
  ((do eqGuard op t v7 xT (.int k x) (.int k y); binOp op t (.int k x) (.int k y) : Sem Value)).run Tryz.prog w = .ok r w := by
 cases op <;> simp [nV] at h <;> (first | (obtain ⟨ba,rfl⟩ := h) | subst h) <;>
  simp_all [eqGuard,binOp,Op.intArith,Op.intDiv,Op.intCmp]

theorem aeL {op t x y t2 k p q r} (ax : o.op = .binOp op t x y t2) (ar : S.bg x = some (.v (.int k p))) (aV : S.bg y = some (.v (.int k q))) (aA : nV op k p q = some r) : Good o S E [x,y] (.v r) := lj fun B a w H af aj av => by
 have bf := av.get (by simp) ar
 have gO := av.get (by simp) aV
 generalize hN : a.eval x = jZ at bf
 generalize iR : a.eval y = hv at gO
 cases bf; cases gO
 refine ⟨r,?_,.v ?_⟩
 ·have := UG (t := t) x y aA w
  simp only [execOp,ax,hN,iR,Sem.run_bind] at this ⊢
  rw [this]; rfl
 ·cases op <;> simp [nV] at aA <;> (first | (obtain ⟨ba,rfl⟩ := aA) | subst aA) <;> rfl

theorem Rp {t x y t2 Oy zD b} {neg : Bool} (ax : o.op = .binOp (if neg then .neq else .eql) t x y t2) (ar : S.bg x = some Oy) (aV : S.bg y = some zD) (aI : sr t Oy zD b) : Good o S E [x,y] (.v (.bool (if neg then !b else b))) := lj fun B a w H af aj av => by
 obtain ⟨dI,dS⟩ := aI H E w _ _ x y af (av.get (by simp) ar) (av.get (by simp) aV)
 refine ⟨.bool (if neg then !b else b),?_,.v rfl⟩
 cases neg
 ·simp only [execOp,ax,Sem.run_bind] at dI ⊢
  simp only [Bool.false_eq_true,if_false] at dI ⊢
  rw [dI]; rfl
 ·simp only [execOp,ax,Sem.run_bind] at dS ⊢
  simp only [if_true] at dS ⊢
  rw [dS]; rfl

theorem ae4 {t x b} (ax : o.op = .unOp .not t x) (ar : S.bg x = some (.v (.bool b))) : Good o S E [x] (.v (.bool !b)) := lj fun B a w H af aj av => by
 have bf := av.get (by simp) ar
 generalize hN : a.eval x = jZ at bf
 cases bf
 exact ⟨.bool !b,by simp [execOp,ax,hN,Op.unary],.v rfl⟩

theorem aeR {src dst x d k fq n} (ax : o.op = .convert src dst x) (ao : Tryz.prog.underlying src = some d) (a6 : Tryz.prog.underlying dst = some (.int k)) (ar : S.bg x = some (.v (.int fq n))) : Good o S E [x] (.v (.int k (k.wrap n))) := lj fun B a w H af aj av => by
 have bf := av.get (by simp) ar
 generalize hN : a.eval x = jZ at bf
 cases bf
 exact ⟨.int k (k.wrap n),by simp [execOp,ax,hN,convert,run_underlying ao,run_underlying a6,Conv.intToInt],.v rfl⟩

theorem n8 {f : FuncId} {fn : Func} (aZ : Tryz.prog.funcs[f]? = some fn) (aI : fn.body.isSome = true) (a9 : (fn.name == "runtime.NumGoroutine") = false) : Enters f := fun args w => by
 have af : fn.body ≠ none := by intro h; rw [h] at aI; cases aI
 have aj : ¬ fn.name = "runtime.NumGoroutine" := by simpa using a9
 simp [callFunc,program,Sem.run,aZ,aj,af]

theorem AI (args : Array Operand) (f : Operand → Value) : (args.toList.map f).toArray = args.map f := by apply Array.ext'; simp

theorem aeO {f args hQ l r} (ax : o.op = .call ⟨.value (.func f),args,hQ⟩) (bL : Enters f) (aE : S.args args.toList = some l) (aA : cq f l r) : Good o S E args.toList r := by
 intro B a w H af aj av
 have br := uQ aj av aE
 have aB := aA w H _ af br
 have e : (execOp a.eval o).run Tryz.prog w = .ok (.enter f (args.toList.map a.eval).toArray) w := by
  have := bL (args.map a.eval) w
  rw [AI]
  simp [execOp,ax,resolve,Act.eval,Deferred.ofValue,invoke]
  exact this
 unfold Oper.wp
 rw [e,Oper.upon_enter]
 refine Calls.mono aB fun e5 w' he => ?_
 obtain ⟨v,H',rfl,aJ,yX⟩ := he
 exact ⟨v,H',rfl,aJ,yX.mono (fun _ _ h => h) (mb _)⟩

theorem aeQ {x args hQ l r f first cap} (ax : o.op = .call ⟨.value x,args,hQ⟩) (ar : S.bg x = some (.fn (.func f) first cap)) (bL : Enters f) (aE : S.args args.toList = some l) (aA : cq f (first ++ l ++ cap) r) : Good o S E (x :: args.toList) r := by
 intro B a w H af aj av
 have br := uQ aj (fun x ar => av x (by simp [ar])) aE
 have bu := av.get (by simp) ar
 generalize aT : a.eval x = q at bu
 cases bu with
 | fn f1 f2 =>
  rename_i vs us
  have aB := aA w H _ af ((f1.append br).append f2)
  have e : (execOp a.eval o).run Tryz.prog w = .ok (.enter f ((vs ++ args.toList.map a.eval) ++ us).toArray) w := by
   have := bL ((vs ++ args.toList.map a.eval) ++ us).toArray w
   have a7 : ((vs ++ args.toList.map a.eval) ++ us).toArray = vs.toArray ++ args.map a.eval ++ us.toArray := by apply Array.ext'; simp
   rw [a7] at this ⊢
   simp only [execOp,ax,resolve,aT,Deferred.ofValue,invoke,Sem.run_bind,Sem.run_pure,Result.andThen_ok]
   exact this
  unfold Oper.wp
  rw [e,Oper.upon_enter]
  refine Calls.mono aB fun e5 w' he => ?_
  obtain ⟨v,H',rfl,aJ,yX⟩ := he
  exact ⟨v,H',rfl,aJ,yX.mono (fun _ _ h => h) (mb _)⟩

theorem aeU {op xs l r} (ax : o.op = op) (aE : S.args xs = some l) (aA : ss op xs l r) : Good o S E xs r := by
 intro B a w H af aj av
 have br := uQ aj av aE
 refine Oper.Ep ?_ (aA o a w H ax af br)
 rintro dN w' ⟨v,H',e,aJ,yX⟩
 exact ⟨v,H',e,aJ,yX.mono (fun _ _ h => h) (mb _)⟩
theorem aeP {x args hQ l r f name t s first cap} (ax : o.op = .call ⟨.value x,args,hQ⟩) (ar : S.bg x = some (.fn (.method name) (.ds t s :: first) cap)) (hm : sy t name f) (bL : Enters f) (aE : S.args args.toList = some l) (aA : cq f (s :: (first ++ l)) r) : Good o S E (x :: args.toList) r := by
 intro B a w H af aj av
 have br := uQ aj (fun x ar => av x (by simp [ar])) aE
 have bu := av.get (by simp) ar
 generalize aT : a.eval x = q at bu
 cases bu with
 | fn f1 f2 =>
  rename_i vs us
  cases f1 with
  | cons aq f1 =>
   rename_i u vs
   cases aq with
   | ds aq =>
    rename_i u
    have aB := aA w H _ af (.cons aq (f1.append br))
    have e : (execOp a.eval o).run Tryz.prog w = .ok (.enter f (u :: (vs ++ args.toList.map a.eval)).toArray) w := by
     have := bL (u :: (vs ++ args.toList.map a.eval)).toArray w
     have ua := hm u w
     have a7 : (u :: (vs ++ args.toList.map a.eval)).toArray = #[u] ++ (vs.toArray ++ args.map a.eval) := by apply Array.ext'; simp
     have ct : (((Value.iface t u :: vs).toArray ++ args.map a.eval).extract 1 ((Value.iface t u :: vs).toArray ++ args.map a.eval).size) = vs.toArray ++ args.map a.eval := by
      apply Array.ext'; simp
      rw [List.take_of_length_le (by omega),List.take_of_length_le (by simp)]
     have fb : ((Value.iface t u :: vs).toArray ++ args.map a.eval)[0]? = some (Value.iface t u) := by rw [Array.getElem?_append_left (by simp)]; rfl
     rw [a7] at this ⊢
     simp only [execOp,ax,resolve,aT,Deferred.ofValue,invoke,Sem.run_bind,Sem.run_pure,Result.andThen_ok,fb,callMethod,ct,run_program,ua]
     exact this
    unfold Oper.wp
    rw [e,Oper.upon_enter]
    refine Calls.mono aB fun e5 w' he => ?_
    obtain ⟨v,H',rfl,aJ,yX⟩ := he
    exact ⟨v,H',rfl,aJ,yX.mono (fun _ _ h => h) (mb _)⟩
theorem ae0 {f first cap l1 l2} (ax : o.op = .makeFunc f first cap) (u6 : S.args first.toList = some l1) (Kj : S.args cap.toList = some l2) : Good o S E (first.toList ++ cap.toList) (.fn f l1 l2) := lj fun B a w H af aj av => by
 have A := uQ aj (fun x ar => av x (by simp [ar])) u6
 have C := uQ aj (fun x ar => av x (List.mem_append.2 (.inr ar))) Kj
 have R := cl.fn (E := E) (f := f) A C
 rw [AI,AI] at R
 exact ⟨_,by simp [execOp,ax,Instr.makeFunc],R⟩

theorem ae1 {t x d s} (ax : o.op = .makeInterface t x) (a6 : Tryz.prog.underlying t = some d) (a9 : ∀ ms,d ≠ .interface ms) (ar : (S.bg x).bind S.arg = some s) : Good o S E [x] (.ds t s) := lj fun B a w H af aj av => by
 obtain ⟨y,aV,ao⟩ := Option.bind_eq_some_iff.1 ar
 have bf := Bz aj (av.get (by simp) aV) ao
 refine ⟨.iface t (a.eval x),?_,.ds bf⟩
 cases d <;> simp [execOp,ax,Instr.makeInterface,run_underlying a6] <;> exact absurd rfl (a9 _)

theorem ae5 {c x y ez s} (ax : o.op = .pick c x y) (aB : S.bg c = some (.v (.bool ez))) (u6 : ez = true → S.bg x = some s) (Kj : ez = false → S.bg y = some s) : Good o S E [c,x,y] s := lj fun B a w H af aj av => by
 have bf := av.get (by simp) aB
 generalize aT : a.eval c = q at bf
 cases bf
 cases ez
 ·exact ⟨a.eval y,by simp [execOp,ax,aT,asBool],av.get (by simp) (Kj rfl)⟩
 ·exact ⟨a.eval x,by simp [execOp,ax,aT,asBool],av.get (by simp) (u6 rfl)⟩

theorem Ru {x y hQ k p q} {mx : Bool} (ax : o.op = .call ⟨.builtin (if mx then .max else .min),#[x,y],hQ⟩) (ar : S.bg x = some (.v (.int k p))) (aV : S.bg y = some (.v (.int k q))) : Good o S E [x,y] (.v (.int k (if mx then max p q else min p q))) := lj fun B a w H af aj av => by
 have bf := av.get (by simp) ar
 have gO := av.get (by simp) aV
 generalize hN : a.eval x = jZ at bf
 generalize iR : a.eval y = hv at gO
 cases bf; cases gO
 refine ⟨.int k (if mx then max p q else min p q),?_,.v rfl⟩
 cases mx
 ·simp [execOp,ax,resolve,hN,iR,invoke,builtin,Builtin.min_,Builtin.min2]
  split <;> omega
 ·simp [execOp,ax,resolve,hN,iR,invoke,builtin,Builtin.max_,Builtin.max2]
  split <;> omega

theorem F6 {x s} (ax : o.op = .nilCheck x) (ar : S.bg x = some s) (ao : (∃ i idx o,s = .ptr i idx o) ∨ (∃ e o,s = .di e o) ∨ (∃ f a b,s = .fn (.func f) a b) ∨ ∃ t y,s = .ds t y) : Good o S E [x] s := lj fun B a w H af aj av => by
 have bf := av.get (by simp) ar
 refine ⟨a.eval x,?_,bf⟩
 generalize aT : a.eval x = q at bf
 rcases ao with ⟨i,idx,o',rfl⟩ | ⟨e,o',rfl⟩ | ⟨f,b,c,rfl⟩ | ⟨t,y,rfl⟩ <;> cases bf <;> simp [execOp,ax,aT]
end

theorem QT : ∀ (l : List Value) (nv off : Nat) (cs : Array Value),off + nv + l.length ≤ cs.size →
  ((l.zipIdx nv).foldl (fun (cs : Array Value) (p : Value × Nat) => cs.setIfInBounds (off + p.2) p.1) cs).toList = cs.toList.take (off + nv) ++ l ++ cs.toList.drop (off + nv + l.length)
 | [],nv,off,cs,h => by simp
 | v :: l,nv,off,cs,h => by
  simp only [List.zipIdx_cons,List.foldl_cons]
  simp only [List.length_cons] at h
  rw [QT l (nv + 1) off _ (by simp; omega)]
  have a1 : ((cs.setIfInBounds (off + nv) v).toList.take (off + (nv + 1))) = cs.toList.take (off + nv) ++ [v] := by
   simp only [Array.toList_setIfInBounds]
   rw [show off + (nv + 1) = (off + nv) + 1 by omega,List.take_add_one,List.getElem?_set_self (by simp; omega),List.take_set_of_le (by omega)]; rfl
  have a7 : ((cs.setIfInBounds (off + nv) v).toList.drop (off + (nv + 1) + l.length)) = cs.toList.drop (off + nv + (v :: l).length) := by
   simp only [Array.toList_setIfInBounds]
   rw [List.drop_set_of_lt (by omega)]
   congr 1; simp; omega
  rw [a1,a7]; simp

theorem QJ {pl : Nat → Option (Nat × Nat)} {zc : Array Value} {i off : Nat} {v : Value} {rest : List (Nat × Value)} (hp : pl i = some (off,v.cells.size)) (aE : off + v.cells.size ≤ zc.size) :
  ∃ xU : Array Value,Instr.fill pl zc ((i,v) :: rest) = Instr.fill pl xU rest ∧ xU.toList = zc.toList.take off ++ v.cells.toList ++ zc.toList.drop (off + v.cells.size) := by
 refine ⟨v.cells.zipIdx.foldl (fun cs (c,j) => cs.setIfInBounds (off + j) c) zc,?_,?_⟩
 ·have af : ¬ (zc.size < off + v.cells.size) := by omega
  simp [Instr.fill,hp,af]
 ·have := QT v.cells.toList 0 off zc (by simpa using aE)
  rw [← Array.foldl_toList]
  simpa using this

section
variable {o : Oper} {S : ak} {E : Env} {H : bl} {B : Nat} {w : World}

theorem I5 {p : aw → Bool} {cs l : List aw} {a b : Nat} (h : cs.all p = true) (e6 : l.all p = true) : (cs.take a ++ l ++ cs.drop b).all p = true := by
 rw [List.all_eq_true] at *
 intro x ar
 rcases List.mem_append.1 ar with ar | ar
 ·rcases List.mem_append.1 ar with ar | ar
  ·exact h x (List.mem_of_mem_take ar)
  ·exact e6 x ar
 ·exact h x (List.mem_of_mem_drop ar)

theorem JR {pl : Nat → Option (Nat × Nat)} {a : Act} : ∀ (parts : List (Nat × Operand)) (ps : List (Nat × Nat × Operand)) (cs cs' : List aw) (zc : Array Value),parts.mapM (fun p => (pl p.1).map fun q => (q.1,q.2,p.2)) = some ps →
  dg H E cs zc.toList → cs.all aw.one = true → sN S cs ps = some cs' → pj S E H a (ps.map (·.2.2)) → ∃ out,Instr.fill pl zc (parts.map fun p => (p.1,a.eval p.2)) = some out ∧ dg H E cs' out.toList ∧ cs'.all aw.one = true
 | [],ps,cs,cs',zc,hp,aA,af,aZ,_ => by
  simp at hp; subst hp
  simp only [sN,Option.some.injEq] at aZ; subst aZ
  exact ⟨zc,rfl,aA,af⟩
 | (i,x) :: parts,ps,cs,cs',zc,hp,aA,af,aZ,ax => by
  simp only [List.mapM_cons,Option.bind_eq_bind,Option.pure_def] at hp
  cases fg : pl i with
  | none => simp [fg] at hp
  | some q =>
   cases LI : parts.mapM (fun p => (pl p.1).map fun q => (q.1,q.2,p.2)) with
   | none => rw [LI] at hp; simp [fg] at hp
   | some rest =>
    rw [LI] at hp
    simp [fg] at hp
    subst hp
    obtain ⟨off,ju⟩ := q
    simp only [sN,Option.bind_eq_some_iff] at aZ
    obtain ⟨s,ao,aZ⟩ := aZ
    split at aZ
    ·rename_i aB
     obtain ⟨cd,c2,eu⟩ := aB
     have bf := ax.get (y := s) (x := x) (by simp) ao
     have hC := z5 bf eu
     have hlen := hC.length
     have ahz := aA.length
     simp only [Array.length_toList] at hlen ahz
     obtain ⟨xU,f1,f2⟩ := QJ (pl := pl) (zc := zc) (i := i) (off := off) (v := a.eval x) (rest := parts.map fun p => (p.1,a.eval p.2)) (by rw [fg,← cd,hlen]) (by omega)
     have sT : dg H E (cs.take off ++ s.cells ++ cs.drop (off + ju)) xU.toList := by
      rw [f2,← hlen,cd]
      exact ((aA.take off).append hC).append (aA.drop _)
     obtain ⟨out,g1,bW,gH⟩ := JR parts rest _ cs' xU LI sT (I5 af eu) aZ (fun y aV => ax y (by simp at aV ⊢; exact .inr aV))
     exact ⟨out,by rw [List.map_cons,f1]; exact g1,bW,gH⟩
    ·cases aZ

theorem aeM {t parts ps it z cs} {dE : List ej} {pl : Nat → Option (Nat × Nat)} (ax : o.op = .build t parts) (KX : Tryz.prog.info? t = some it) (bR : it.zero = some z) (hO : z.cells.toList = dE.map ej.val)
  (aI : ∀ mI,Tryz.prog.built t mI = Instr.fill pl z.cells mI) (hp : parts.toList.mapM (fun p => (pl p.1).map fun q => (q.1,q.2,p.2)) = some ps) (aZ : sN S (dE.map ej.ia) ps = some cs) : Good o S E (ps.map (·.2.2)) (.agg cs) := lj fun B a w H af aj av => by
 obtain ⟨out,g1,bW,gH⟩ := JR (H := H) (E := E) (a := a) parts.toList ps _ cs z.cells hp (by rw [hO]; exact zR H E dE) (Bf dE) aZ av
 refine ⟨.agg out,?_,by have := cl.agg bW gH; simpa using this⟩
 have := run_build (P := Tryz.prog) w t (parts.map fun (i,x) => (i,a.eval x)) out (by rw [aI]; simpa using g1)
 simp only [execOp,ax,Sem.run_bind,this,Result.andThen_ok]; rfl

theorem JD (dX : nN B S E w H) {a : Act} {k : Nat} : ∀ {xs : List Operand} {es},pj S E H a xs → S.elems k xs = some es →
  eN H k es ((xs.map a.eval).flatMap fun v => v.cells.toList) ∧ es.length = xs.length ∧ ∀ v ∈ xs.map a.eval,v.cells.size = k
 | [],_,_,h => by simp only [ak.elems,Option.some.injEq] at h; subst h; exact ⟨.nil,rfl,by simp⟩
 | x :: l,_,ax,a5 => by
  simp only [ak.elems,Option.bind_eq_some_iff] at a5
  obtain ⟨y,⟨z,bR,aV⟩,a5⟩ := a5
  split at a5
  ·rename_i aB
   obtain ⟨cd,c2,eu⟩ := aB
   simp only [Option.map_eq_some_iff] at a5
   obtain ⟨vI,aE,rfl⟩ := a5
   have bf := Bz dX (ax.get (by simp) bR) aV
   have hC := z5 bf c2
   have hlen := hC.length
   obtain ⟨i1,i2,i3⟩ := JD dX (fun x ar => ax x (by simp [ar])) aE
   refine ⟨.cons hC (by rw [← hlen]; exact cd) c2 i1,by simp [i2],fun v bj => ?_⟩
   rcases List.mem_cons.1 bj with rfl | bj
   ·simp at hlen; omega
   ·exact i3 v bj
  ·cases a5

theorem JS {k : Nat} : ∀ (mI : List Value) (j : Nat) (zc : Array Value),(∀ v ∈ mI,v.cells.size = k) → zc.size = (j + mI.length) * k →
  ∃ out,Instr.fill (fun i => some (i * k,k)) zc (idxs j mI) = some out ∧ out.toList = zc.toList.take (j * k) ++ mI.flatMap fun v => v.cells.toList
 | [],j,zc,_,bR => ⟨zc,rfl,by simp at bR ⊢; rw [List.take_of_length_le (by simp [bR])]⟩
 | v :: mI,j,zc,bj,bR => by
  have az := bj v (by simp)
  have aqX : zc.size = j * k + k + mI.length * k := by rw [bR]; simp [Nat.add_mul]; omega
  obtain ⟨xU,f1,f2⟩ := QJ (pl := fun i => some (i * k,k)) (zc := zc) (i := j) (off := j * k) (v := v) (rest := idxs (j + 1) mI) (by rw [az]) (by omega)
  have ao : xU.size = (j + 1 + mI.length) * k := by
   have := congrArg List.length f2
   simp [az] at this
   rw [this,Nat.add_mul,Nat.add_mul]; omega
  obtain ⟨out,g1,bW⟩ := JS mI (j + 1) xU (fun u hu => bj u (by simp [hu])) ao
  refine ⟨out,by simp only [idxs]; rw [f1]; exact g1,?_⟩
  rw [bW,f2]
  have : (j + 1) * k = j * k + k := by rw [Nat.add_mul]; omega
  rw [this,List.take_append_of_le_length (by simp [az]; omega),List.take_of_length_le (by simp [az]; omega)]
  simp

theorem LX {α β : Type} (f : α → β) : ∀ (j : Nat) (l : List α),idxs j (l.map f) = (idxs j l).map fun p => (p.1,f p.2)
 | _,[] => rfl
 | j,x :: l => by simp [idxs,LX f (j + 1) l]

theorem UA {k : Nat} {es : List (List aw)} {cells : Array Value} {e : TypeId} {n : Nat} {full : Nat} (ao : Sub H w) (h : eN H k es cells.toList) (a9 : es.length = n) (hm : n ≤ maxLen) :
  Grow w H (w.alloc (.cells cells e)) (H.add w.heap.size (.cells cells e (0,0))) ∧ cl (H.add w.heap.size (.cells cells e (0,0))) E (.au k full es) (.slice (some ⟨w.heap.size,0,none⟩) n n) := by
 refine ⟨((Grow.refl ao).alloc _).add (heap_alloc_new w _) (Nat.le_refl _),.au (h.mono (bl.x5 (ao.none (Nat.le_refl _)))) a9 (Nat.le_refl _) hm ⟨fun _ => rfl,fun _ h => h⟩ (fun e => by cases e) (fun j u hu => ?_)⟩
 exact ⟨_,0,_,_,_,rfl,bl.x4 _ _ _,by simpa using hu⟩

theorem aeN {t e i z parts xs es} (ax : o.op = .buildSlice t xs.length parts) (hu : Tryz.prog.underlying t = some (.slice e)) (aq : Tryz.prog.info? e = some i) (bR : i.zero = some z) (hO : z.cells.size = i.size) (fK : 0 < i.size)
  (hp : parts.toList = idxs 0 xs) (aE : xs.length * i.size ≤ 16777216) (he : S.elems i.size xs = some es) : Good o S E xs (.au i.size 0 es) := Cg fun B a w H af aj av => by
 obtain ⟨dI,dS,oG⟩ := JD aj av he
 have Kk : ¬ (16777216 < xs.length * i.size) := by omega
 obtain ⟨nJ,pS⟩ : ∃ nJ,nJ = if xs.length * i.size = 0 then (#[] : Array Value) else z.cells := ⟨_,rfl⟩
 obtain ⟨out,g1,bW⟩ := JS (k := i.size) (xs.map a.eval) 0 ((Array.range (xs.length * i.size)).map (nJ[· % nJ.size]!)) oG (by simp)
 have Cz : Instr.fill (fun j => some (j * i.size,i.size)) ((Array.range (xs.length * i.size)).map (nJ[· % nJ.size]!)) (parts.map fun (i,x) => (i,a.eval x)).toList = some out := by
  rw [← g1,LX]; simp [hp]
 have bL : eN H i.size es out.toList := by rw [bW]; simpa using dI
 have hlen : xs.length ≤ maxLen := by unfold maxLen; have := Nat.le_mul_of_pos_right xs.length fK; omega
 obtain ⟨bJ,cf⟩ := UA (E := E) (e := e) (full := 0) af bL dS hlen
 refine ⟨.slice (some ⟨w.heap.size,0,none⟩) xs.length xs.length,_,_,?_,bJ,cf⟩
 have Cl : ¬ (xs.length * i.size > 2 ^ 24) := by simpa using Kk
 have CA : Instr.fill (fun j => some (j * i.size,i.size)) ((Array.range (xs.length * i.size)).map (nJ[· % nJ.size]!)) (parts.toList.map fun p => (p.1,a.eval p.2)) = some out := by simpa using Cz
 clear Cz g1
 by_cases ba : xs.length * i.size = 0
 ·rw [if_pos ba] at pS
  subst pS
  simp only [execOp,ax,Instr.buildSlice,Sem.run_bind,run_underlying hu,Result.andThen_ok,run_sizeOf aq,Sem.run_pure,if_neg Cl,if_pos ba,Array.toList_map,CA]
  rfl
 ·rw [if_neg ba] at pS
  subst pS
  simp only [execOp,ax,Instr.buildSlice,Sem.run_bind,run_underlying hu,Result.andThen_ok,run_sizeOf aq,Sem.run_pure,if_neg Cl,if_neg ba,Array.toList_map,CA,zu aq bR]
  rfl
theorem ak3 {t e i z parts xs es} {B : Nat} {a : Act} {w : World} {H : bl} (ax : o.op = .buildSlice t xs.length parts) (hu : Tryz.prog.underlying t = some (.slice e)) (aq : Tryz.prog.info? e = some i) (bR : i.zero = some z) (hO : z.cells.size = i.size) (fK : 0 < i.size)
  (hp : parts.toList = idxs 0 xs) (aE : xs.length * i.size ≤ 16777216) (he : S.elems i.size xs = some es) (aj : nN B S E w H) (av : pj S E H a xs) :
  ∃ out : Array Value,(execOp a.eval o).run Tryz.prog w = .ok (.value (.slice (some ⟨w.heap.size,0,none⟩) xs.length xs.length)) (w.alloc (.cells out e)) ∧ eN H i.size es out.toList ∧ es.length = xs.length := by
 obtain ⟨dI,dS,oG⟩ := JD aj av he
 have Kk : ¬ (16777216 < xs.length * i.size) := by omega
 obtain ⟨nJ,pS⟩ : ∃ nJ,nJ = if xs.length * i.size = 0 then (#[] : Array Value) else z.cells := ⟨_,rfl⟩
 obtain ⟨out,g1,bW⟩ := JS (k := i.size) (xs.map a.eval) 0 ((Array.range (xs.length * i.size)).map (nJ[· % nJ.size]!)) oG (by simp)
 have Cz : Instr.fill (fun j => some (j * i.size,i.size)) ((Array.range (xs.length * i.size)).map (nJ[· % nJ.size]!)) (parts.map fun (i,x) => (i,a.eval x)).toList = some out := by
  rw [← g1,LX]; simp [hp]
 have bL : eN H i.size es out.toList := by rw [bW]; simpa using dI
 have hlen : xs.length ≤ maxLen := by unfold maxLen; have := Nat.le_mul_of_pos_right xs.length fK; omega
 refine ⟨out,?_,bL,dS⟩
 have Cl : ¬ (xs.length * i.size > 2 ^ 24) := by simpa using Kk
 have CA : Instr.fill (fun j => some (j * i.size,i.size)) ((Array.range (xs.length * i.size)).map (nJ[· % nJ.size]!)) (parts.toList.map fun p => (p.1,a.eval p.2)) = some out := by simpa using Cz
 clear Cz g1
 by_cases ba : xs.length * i.size = 0
 ·rw [if_pos ba] at pS
  subst pS
  simp only [execOp,ax,Instr.buildSlice,Sem.run_bind,run_underlying hu,Result.andThen_ok,run_sizeOf aq,Sem.run_pure,if_neg Cl,if_pos ba,Array.toList_map,CA]
  rfl
 ·rw [if_neg ba] at pS
  subst pS
  simp only [execOp,ax,Instr.buildSlice,Sem.run_bind,run_underlying hu,Result.andThen_ok,run_sizeOf aq,Sem.run_pure,if_neg Cl,if_neg ba,Array.toList_map,CA,zu aq bR]
  rfl
end
end Go.Proofs.YtkmbcjnaaokilaaGreatDoor
