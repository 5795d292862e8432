/-
  Base: parts of the heap that nobody writes any more; maps as functions from integers to values. Lemmas only.
-/
import Derived.Test.YtkmbcjnaaokilaaGreatDoorRows
import Derived.WalkKit
import Derived.WalkSpells
import Derived.WalkLawsBesides
import Derived.Maps.OwnSet
import Derived.Maps.RangeWalk
import Derived.Maps.Ext
import Derived.Shelf.SlMaps.Clone
import Derived.Deep.AppendLies
import Derived.Deep.RegionHeld3
import Derived.Deep.RegionLawGrows
import Derived.Deep.DrawnRows
import Derived.Deep.QuietTactic
import Derived.BigQuiet
import Derived.Lib.Hide
import Derived.Laws.CopyRow
import Derived.ArgAppend
import Derived.Laws.IdiomRangeMap
import Derived.Laws.Tables
import Derived.Laws.Cells
namespace Go.Proofs.YtkmbcjnaaokilaaGreatDoor
set_option linter.unusedSimpArgs false
set_option linter.unusedVariables false
open Go.RowKit Go.Maps

abbrev bg := Nat → Option Obj
def yC : List (Nat × List Value) := [(0,[.int .i64 8,.int .i64 8,.int .i64 8,.int .i64 1,.int .i64 104,.int .i64 0,.int .i64 32])]
def uP (H : bg) : Prop := ∀ p ∈ yC,∃ cells t cS,H p.1 = some (.cells cells t cS) ∧ ∀ (j : Nat) (u : Value),p.2[j]? = some u → cells[j]? = some u
structure Sub (H : bg) (w : World) : Prop where
 get : ∀ k o,H k = some o → w.heap[k]? = some o
 qQ : uP H
instance (H : bg) (w : World) : CoeFun (Sub H w) (fun _ => ∀ k o,H k = some o → w.heap[k]? = some o) := ⟨Sub.get⟩
structure Grow (w : World) (H : bg) (w' : World) (H' : bg) : Prop where
 below : Below w.heap.size w w'
 sub : Sub H' w'
 old : ∀ k,k < w.heap.size → H' k = H k

theorem Sub.lt {H : bg} {w : World} (h : Sub H w) {k : Nat} {o : Obj} (aB : H k = some o) : k < w.heap.size := (Array.getElem?_eq_some_iff.1 (h k o aB)).1
theorem Sub.none {H : bg} {w : World} (h : Sub H w) {k : Nat} (aB : w.heap.size ≤ k) : H k = none := by
 cases e : H k with
 | none => rfl
 | some o => exact absurd (h.lt e) (by omega)
theorem Sub.drew {H : bg} {w : World} (h : Sub H w) : Sub H w.drew := ⟨h.get,h.qQ⟩
theorem Sub.below {H : bg} {w w' : World} {B : Nat} (h : Sub H w) (aJ : Below B w w') (fD : ∀ k o,H k = some o → k < B) : Sub H w' :=
 ⟨fun k o aB => (aJ.block k (fD k o aB)).trans (h k o aB),h.qQ⟩
theorem Sub.alloc {H : bg} {w : World} (h : Sub H w) (o : Obj) : Sub H (w.alloc o) := ⟨fun k x aB => (Below.heap_alloc w o k (h.lt aB)).trans (h k x aB),h.qQ⟩
def g7 (H H' : bg) : Prop := ∀ k o,H k = some o → H' k = some o
theorem uP.le {H H' : bg} (h : uP H) (g : g7 H H') : uP H' := fun p hp => by
 obtain ⟨c,t,cS,e,k⟩ := h p hp
 exact ⟨c,t,cS,g _ _ e,k⟩
theorem g7.refl (H : bg) : g7 H H := fun _ _ h => h
theorem g7.trans {A B C : bg} (h : g7 A B) (k : g7 B C) : g7 A C := fun i o e => k i o (h i o e)
theorem Grow.le {w w' : World} {H H' : bg} (g : Grow w H w' H') (h : Sub H w) : g7 H H' := fun k o e => by rw [g.old k (h.lt e)]; exact e
theorem Grow.refl {w : World} {H : bg} (h : Sub H w) : Grow w H w H := ⟨Below.refl _ _,h,fun _ _ => rfl⟩
theorem Grow.trans {a b c : World} {A B C : bg} (g : Grow a A b B) (k : Grow b B c C) : Grow a A c C :=
 ⟨g.below.trans (k.below.mono g.below.size),k.sub,fun i aq => (k.old i (Nat.lt_of_lt_of_le aq g.below.size)).trans (g.old i aq)⟩

def ji (v : Value) : Option (DataW Value × List MemPlace) := some (.held v,[])

def hR (bc : TypeId) (o : Obj) (n : Nat) (f : Int → Option Value) : Prop :=
 ∃ D : DataW Value,(∃ es clock,o = .map es clock ∧ Go.WideElems.Fit Tryz.prog bc ji es clock ∧ es.size ≤ n ∧ D = .map ((es.toList.map (Go.WideElems.rg Tryz.prog bc ji)).foldr DataW.insert [])) ∧
  ∀ k,D.atKey (.int .i64 k) .nil = (match f k with | some v => .held v | Option.none => .nil)

theorem hR.owns {bc : TypeId} {o : Obj} {n b : Nat} {f : Int → Option Value} {w : World} (h : hR bc o n f) (aJ : w.heap[b]? = some o) :
  ∃ D : DataW Value,w.ownsMap Tryz.prog bc ji b n D ∧ ∀ k,D.atKey (.int .i64 k) .nil = (match f k with | some v => .held v | Option.none => .nil) := by
 obtain ⟨D,⟨es,clock,rfl,F,ao,iG⟩,aW⟩ := h
 exact ⟨D,⟨es,clock,aJ,F,ao,iG⟩,aW⟩
theorem hR.QA {bc : TypeId} {n b : Nat} {f : Int → Option Value} {w : World} {D : DataW Value} (h : w.ownsMap Tryz.prog bc ji b n D)
  (aW : ∀ k,D.atKey (.int .i64 k) .nil = (match f k with | some v => .held v | Option.none => .nil)) : ∃ o,w.heap[b]? = some o ∧ hR bc o n f := by
 obtain ⟨es,clock,aJ,F,ao,iG⟩ := h
 exact ⟨_,aJ,D,⟨es,clock,rfl,F,ao,iG⟩,aW⟩

theorem zz {k : Int} (af : -9223372036854775808 ≤ k) (aj : k ≤ 9223372036854775807) : (Lit.int .i64 k).wf = true := WalkArith.wf_i64 ⟨af,aj⟩

theorem hR.lookup {bc t e : TypeId} {o : Obj} {n b : Nat} {f : Int → Option Value} {w : World} (h : hR bc o n f) (aJ : w.heap[b]? = some o) (aB : Tryz.prog.underlying bc = some (.int .i64))
  (aO : Tryz.prog.underlying t = some (.map bc e)) {z : Value} (bO : (zeroValue e).run Tryz.prog w = .ok z w) {k : Int} (af : -9223372036854775808 ≤ k) (aj : k ≤ 9223372036854775807) :
  (Instr.lookup t (.map (some b)) (.int .i64 k) false).run Tryz.prog w = .ok ((f k).getD z) w ∧ (Instr.lookup t (.map (some b)) (.int .i64 k) true).run Tryz.prog w = .ok (.tuple #[(f k).getD z,.bool (f k).isSome]) w := by
 obtain ⟨D,⟨es,clock,rfl,F,ao,iG⟩,aW⟩ := h
 have K := int_keyed (P := Tryz.prog) aB
 have mJ := keyOf_int_mk (P := Tryz.prog) aB (zz af aj)
 constructor
 ·rcases Maps.fit_look false K aO bO aJ F mJ with ⟨c8,_,eA⟩ | ⟨fs,y,_,_,c8,wR,eA,_⟩
  ·have := aW k
   rw [iG,eA .nil] at this
   cases e : f k with
   | none => rw [c8]; rfl
   | some v => rw [e] at this; cases this
  ·have bb := aW k
   rw [iG,eA .nil] at bb
   simp only [ji,Option.some.injEq] at wR
   cases e : f k with
   | none => rw [e,← wR] at bb; cases bb
   | some v => rw [e,← wR] at bb; simp only [DataW.held.injEq] at bb; rw [c8]; subst bb; rfl
 ·rcases Maps.fit_look true K aO bO aJ F mJ with ⟨c8,_,eA⟩ | ⟨fs,y,_,_,c8,wR,eA,_⟩
  ·have := aW k
   rw [iG,eA .nil] at this
   cases e : f k with
   | none => rw [c8]; rfl
   | some v => rw [e] at this; cases this
  ·have bb := aW k
   rw [iG,eA .nil] at bb
   simp only [ji,Option.some.injEq] at wR
   cases e : f k with
   | none => rw [e,← wR] at bb; cases bb
   | some v => rw [e,← wR] at bb; simp only [DataW.held.injEq] at bb; rw [c8]; subst bb; rfl

def o1 (f : Int → Option Value) (k : Int) (v : Option Value) : Int → Option Value := fun j => if j = k then v else f j

theorem hR.update {bc t e : TypeId} {o : Obj} {n b : Nat} {f : Int → Option Value} {w : World} (h : hR bc o n f) (aJ : w.heap[b]? = some o) (aB : Tryz.prog.underlying bc = some (.int .i64))
  (aO : Tryz.prog.underlying t = some (.map bc e)) (a7 : n < maxLen) {k : Int} (af : -9223372036854775808 ≤ k) (aj : k ≤ 9223372036854775807) (v : Value) :
  ∃ w' o',(Instr.mapUpdate t (.map (some b)) (.int .i64 k) v).run Tryz.prog w = .ok () w' ∧ w'.heap[b]? = some o' ∧ hR bc o' (n + 1) (o1 f k (some v)) ∧ w.grownBy w' (some b) := by
 obtain ⟨D,jF,aW⟩ := h.owns aJ
 have K := int_keyed (P := Tryz.prog) aB
 have mJ := keyOf_int_mk (P := Tryz.prog) aB (zz af aj)
 obtain ⟨w',c8,et,dP⟩ := jF.update K aO a7 mJ (show ji v = some (.held v,[]) from rfl)
 have bk := (jF.tidy K).isMap
 obtain ⟨o',ay,hm⟩ := hR.QA (f := o1 f k (some v)) et (fun j => by
  unfold o1
  by_cases e : j = k
  ·subst e; rw [if_pos rfl,atKey_put_same bk (K.key mJ)]
  ·rw [if_neg e,atKey_put_other (by intro h; exact e (by cases h; rfl)),aW j])
 exact ⟨w',o',c8,ay,hm,dP⟩

theorem hR.mono {bc : TypeId} {o : Obj} {n bI : Nat} {f : Int → Option Value} (h : hR bc o n f) (a7 : n ≤ bI) : hR bc o bI f := by
 obtain ⟨D,⟨es,clock,ay,F,ao,iG⟩,aW⟩ := h
 exact ⟨D,⟨es,clock,ay,F,Nat.le_trans ao a7,iG⟩,aW⟩

theorem hR.made {bc : TypeId} : hR bc (.map #[] 0) 0 (fun _ => Option.none) := by
 obtain ⟨es,clock,aJ,F,ao,iG⟩ := World.ownsMap_made (default : World) Tryz.prog bc ji
 have e : ((default : World).alloc (.map #[] 0)).heap[(default : World).heap.size]? = some (.map #[] 0) := (MapKept.heap_alloc (default : World) _).1
 rw [e] at aJ
 cases aJ
 exact ⟨.map [],⟨_,_,rfl,F,Nat.le_refl _,iG⟩,fun k => rfl⟩

theorem Qw : ∀ (n : Nat) (l : List Nat),l.Nodup → (∀ x ∈ l,x < n) → l.length ≤ n
 | 0,l,_,h => by cases l with | nil => simp | cons x r => exact absurd (h x (by simp)) (by omega)
 | n + 1,l,a7,h => by
  have af := Qw n (l.erase n) (a7.erase n) (fun x ar => by
   have aj := h x (List.mem_of_mem_erase ar)
   have : x ≠ n := fun e => by subst e; exact (List.Nodup.not_mem_erase a7) ar
   omega)
  rw [List.length_erase] at af
  split at af <;> omega

def JK : Lit → Nat | .int _ k => k.toNat | _ => 0
theorem hR.tight {bc : TypeId} {o : Obj} {n : Nat} {f : Int → Option Value} (h : hR bc o n f) (aB : Tryz.prog.underlying bc = some (.int .i64)) (m : Nat) (aW : ∀ k,(f k).isSome = true → 0 ≤ k ∧ k < m) : hR bc o m f := by
 have bb := h
 obtain ⟨D,⟨es,clock,rfl,F,ao,iG⟩,OR⟩ := h
 have K := int_keyed (P := Tryz.prog) aB
 let w : World := (default : World).alloc (.map es clock)
 have hw : w.heap[(default : World).heap.size]? = some (.map es clock) := (MapKept.heap_alloc (default : World) _).1
 have jF : w.ownsMap Tryz.prog bc ji (default : World).heap.size n D := ⟨es,clock,hw,F,ao,iG⟩
 obtain ⟨Ap,bK,oF,Em⟩ := jF.entries K
 have g4 : es.size = Ap.length := by
  have : (DataW.map ((es.toList.map (Go.WideElems.rg Tryz.prog bc ji)).foldr DataW.insert []) : DataW Value) = .map Ap := by rw [← iG,bK]
  simp only [DataW.map.injEq] at this
  rw [← this,length_sorted]; simp
 refine ⟨D,⟨es,clock,rfl,F,?_,iG⟩,OR⟩
 have O0 := Maps.fit_apart K F
 have Bc : ∀ x ∈ es.toList,∃ k : Int,(Go.WideElems.rg Tryz.prog bc ji x).1 = .int .i64 k ∧ 0 ≤ k ∧ k < m := by
  intro x ar
  obtain ⟨v,bj⟩ := Maps.fit_keys F _ (List.mem_map.2 ⟨x,ar,rfl⟩)
  obtain ⟨k,_,aG,_⟩ := Maps.keyOf_int_inv aB bj
  refine ⟨k,aG,?_⟩
  obtain ⟨y,a1⟩ := F.reads x ar
  obtain ⟨z,bO,Jw⟩ := Go.WideElems.rd_val a1
  have Bg : Go.WideElems.rg Tryz.prog bc ji x ∈ Ap := by
   have : (DataW.map ((es.toList.map (Go.WideElems.rg Tryz.prog bc ji)).foldr DataW.insert []) : DataW Value) = .map Ap := by rw [← iG,bK]
   simp only [DataW.map.injEq] at this
   rw [← this]; exact mem_sorted.2 (List.mem_map.2 ⟨x,ar,rfl⟩)
  obtain ⟨p,hp⟩ : ∃ p,p = Go.WideElems.rg Tryz.prog bc ji x := ⟨_,rfl⟩
  rw [← hp] at Bg aG
  have uh := Go.WideElems.rg_of a1
  rw [← hp] at uh
  have eA := WideAt.atKey_mem (entries := Ap) (k := p.1) (d := p.2) .nil (Em p Bg) oF Bg
  rw [aG,← bK,OR k] at eA
  apply aW k
  cases e : f k with
  | some v => rfl
  | none =>
   rw [e,uh,Jw] at eA
   simp only [ji,Option.some.injEq] at bO
   rw [← bO] at eA
   cases eA
 have aF := Qw m (es.toList.map fun x => JK (Go.WideElems.rg Tryz.prog bc ji x).1) (by
  rw [List.Nodup,List.pairwise_map]
  rw [List.pairwise_map] at O0
  refine List.Pairwise.imp_of_mem ?_ O0
  intro a b aZ aJ dd he
  obtain ⟨cy,a2,et,_⟩ := Bc a aZ
  obtain ⟨k2,a8,dP,_⟩ := Bc b aJ
  rw [a2,a8] at dd; rw [a2,a8] at he
  simp only [JK] at he
  exact dd (by rw [show cy = k2 from by omega])) (by
  intro x ar
  obtain ⟨y,a1,rfl⟩ := List.mem_map.1 ar
  obtain ⟨cy,a2,et,dP⟩ := Bc y a1
  rw [a2]; simp only [JK]; omega)
 simpa using aF

theorem Ed (w : World) (o : Obj) {k : Nat} {x : Obj} (h : w.heap[k]? = some x) : (w.alloc o).heap[k]? = some x :=
 (Below.heap_alloc w o k (Array.getElem?_eq_some_iff.1 h).1).trans h

def bg.add (H : bg) (b : Nat) (o : Obj) : bg := fun k => if k = b then some o else H k
theorem bg.wA (H : bg) (b : Nat) (o : Obj) : H.add b o b = some o := if_pos rfl
theorem bg.wB {H : bg} {b : Nat} {o : Obj} (h : H b = Option.none) : g7 H (H.add b o) := fun k x e => by
 unfold bg.add; rw [if_neg (fun a8 => by subst a8; rw [h] at e; cases e)]; exact e
theorem bg.YU {H : bg} {b : Nat} {o : Obj} {w : World} (h : Sub H w) (aJ : w.heap[b]? = some o) : Sub (H.add b o) w := ⟨fun k x e => by
 unfold bg.add at e
 split at e
 ·rename_i aB; subst aB; cases e; exact aJ
 ·exact h k x e,fun p hp => by
 obtain ⟨c,t,cS,e,k⟩ := h.qQ p hp
 refine ⟨c,t,cS,?_,k⟩
 unfold bg.add
 split
 ·rename_i aB
  have := h _ _ e
  rw [aB,aJ] at this
  exact this
 ·exact e⟩
theorem Grow.add {w w' : World} {H H' : bg} (g : Grow w H w' H') {b : Nat} {o : Obj} (aJ : w'.heap[b]? = some o) (a7 : w.heap.size ≤ b) : Grow w H w' (H'.add b o) :=
 ⟨g.below,bg.YU g.sub aJ,fun k aB => by unfold bg.add; rw [if_neg (by omega)]; exact g.old k aB⟩
theorem Grow.alloc {w w' : World} {H H' : bg} (g : Grow w H w' H') (o : Obj) : Grow w H (w'.alloc o) H' := ⟨g.below.alloc g.below.size o,g.sub.alloc o,g.old⟩
theorem Grow.drew {w w' : World} {H H' : bg} (g : Grow w H w' H') : Grow w H w'.drew H' := ⟨g.below.drew,g.sub.drew,g.old⟩
theorem Grow.afw {w w' : World} {H : bg} (h : Sub H w) (aJ : Below w.heap.size w w') : Grow w H w' H := ⟨aJ,⟨fun k o aB => (aJ.block k (h.lt aB)).trans (h k o aB),h.qQ⟩,fun _ _ => rfl⟩
theorem Grow.grown {w w' L9 : World} {H H' : bg} (g : Grow w H w' H') {row : Option Nat} (aH : w'.grownBy L9 row) (ax : ∀ k,row = some k → w.heap.size ≤ k ∧ H' k = Option.none) : Grow w H L9 H' :=
 ⟨g.below.grown aH g.below.size (fun k e => (ax k e).1),⟨fun k o aB => (aH.block k (g.sub.lt aB) (fun e => by have := (ax k e.symm).2; rw [this] at aB; cases aB)).trans (g.sub k o aB),g.sub.qQ⟩,g.old⟩

end Go.Proofs.YtkmbcjnaaokilaaGreatDoor
namespace Go.Proofs.YtkmbcjnaaokilaaGreatDoor
set_option linter.unusedSimpArgs false
set_option linter.unusedVariables false
open Go.RowKit

abbrev Rel := Value → World → bg → Prop
def uU (R : Rel) : Prop := ∀ v w H w' H',R v w H → Grow w H w' H' → Sub H w → R v w' H'
theorem aeB (c : Value) : uU (fun v _ _ => v = c) := fun _ _ _ _ _ h _ _ => h

def lG (ops : Array Oper) (a : Act) (j : Nat) : Value := match (ops[j]?).bind (·.dst) with | some t => a.eval (.tmp t) | none => undef
def waits (o : Oper) (j : Nat) : Bool := o.after.toList.any fun e => e.on == j && Region.binds .any e
def sf (ops : Array Oper) (n : Nat) (t : Tmp) : Bool := (ops.toList.take n).all fun o => o.dst != some t
def pO (ops : Array Oper) (n : Nat) (a0 a : Act) : Prop := a.defers = a0.defers ∧ a.tmps.size = a0.tmps.size ∧ ∀ t,sf ops n t = true → a.tmps[t]? = a0.tmps[t]?
def zW : Exit → Act → World → Prop := fun _ _ _ => False

section
variable {P : Program} {ops : Array Oper} {Q : Exit → Act → World → Prop} {n : Nat} {a0 : Act} {w0 : World} {H0 : bg}

def qC (ops : Array Oper) (Γ : List Rel) (o : Oper) (a : Act) (w : World) (H : bg) : Prop :=
 ∀ (j : Nat) (R : Rel),waits o j = true → Γ[j]? = some R → R (lG ops a j) w H

def yh (P : Program) (ops : Array Oper) (n : Nat) (a0 : Act) (w0 : World) (H0 : bg) (Γ : List Rel) (o : Oper) (R : Rel) : Prop :=
 ∀ a w H,Grow w0 H0 w H → qC ops Γ o a w H → pO ops n a0 a →
  if Region.wanted o (yielded ops a.tmps) = true then o.wp P a w (fun dD w' => ∃ v H',dD = a.put o.dst v ∧ Grow w H w' H' ∧ R v w' H') zW else R undef w H

def yg (P : Program) (ops : Array Oper) (n : Nat) (a0 : Act) (w0 : World) (H0 : bg) (Γ : List Rel) (o : Oper) (R : Rel) : Prop :=
 ∀ a w H,Grow w0 H0 w H → qC ops Γ o a w H → pO ops n a0 a → ∃ v,Yields P ops o v a ∧ R v w H

def wk (P : Program) (ops : Array Oper) (Q : Exit → Act → World → Prop) (n : Nat) (w : World) (H : bg) : List Oper → List Rel → Act → Prop
 | o :: os,R :: uY,a => ∀ v,R v w H → wk P ops Q n w H os uY (a.put o.dst v)
 | _,_,a => wpList P ops Q (ops.toList.drop n) a w

def J (ops : Array Oper) (n : Nat) (a0 : Act) (w0 : World) (H0 : bg) (Γ : List Rel) (listed : Array Bool) (a : Act) (w : World) : Prop :=
 ∃ H,Grow w0 H0 w H ∧ (∀ (j : Nat) (R : Rel),listed.getD j false = true → Γ[j]? = some R → R (lG ops a j) w H) ∧ pO ops n a0 a ∧ listed.size = ops.size ∧ (∀ j,n ≤ j → listed.getD j false = false) ∧ ∀ (j : Nat) (o : Oper),listed.getD j false = true → ops[j]? = some o → ∀ k,waits o k = true → listed.getD k false = true

theorem Oper.CH {o : Oper} {a : Act} {w : World} {K o4 : Act → World → Prop} (h : ∀ a w,K a w → o4 a w) (dq : o.wp P a w K zW) : o.wp P a w o4 Q := by
 unfold Oper.wp at *
 generalize (execOp a.eval o).run P w = r at *
 cases r with
 | ok n w' =>
  cases n <;> simp only [Oper.upon] at dq ⊢
  case value u => exact h _ _ dq
  case skip => exact h _ _ dq
  case defer d => exact h _ _ dq
  case enter f args =>
   refine Calls.mono dq fun e L9 he => ?_
   cases e with
   | returned u => exact h _ _ he
   | panicked c => exact he.elim
   | outgrown => obtain ⟨_,_,aW⟩ := he; exact aW.elim
  case row row args => exact Rows.mono dq (fun _ _ he => h _ _ he)
 | halt x w' => cases x <;> simp only [Oper.upon] at dq ⊢ <;> exact dq.elim

theorem On {listed : Array Bool} {i j : Nat} (h : (listed.setIfInBounds i true).getD j false = true) : j = i ∨ listed.getD j false = true := by
 by_cases iw : i = j
 ·exact .inl iw.symm
 ·right; rw [getD_set_ne false iw] at h; exact h

def lY (listed : Array Bool) : Nat := listed.toList.countP (fun b => !b)
theorem EX {listed : Array Bool} {i : Nat} (aq : i < listed.size) (h : listed.getD i false = false) : lY (listed.setIfInBounds i true) + 1 = lY listed := by
 unfold lY
 have af : listed[i]'aq = false := by simpa [aq] using h
 rw [Array.toList_setIfInBounds]
 have aj : i < listed.toList.length := by simpa using aq
 have aw : listed.toList[i] = false := by simpa using af
 rw [List.set_eq_take_append_cons_drop,if_pos aj]
 have aV : listed.toList = listed.toList.take i ++ listed.toList[i] :: listed.toList.drop (i + 1) := by rw [← List.drop_eq_getElem_cons aj,List.take_append_drop]
 have bF : listed.toList.countP (fun b => !b) = (listed.toList.take i ++ listed.toList[i] :: listed.toList.drop (i + 1)).countP (fun b => !b) := by rw [← aV]
 rw [bF,aw]
 simp [List.countP_append,List.countP_cons]
 omega
theorem BK {listed : Array Bool} (h : lY listed = 0) (j : Nat) (aM : j < listed.size) : listed.getD j false = true := by
 unfold lY at h
 rw [List.countP_eq_zero] at h
 have := h (listed[j]) (by simp)
 simp [aM] at this ⊢
 exact this
def wl (o : Oper) : List Nat := o.after.toList.filterMap fun e => if Region.binds .any e = true then some e.on else none
def yr (ops : Array Oper) : Nat → List Nat → List Nat
 | 0,acc => acc
 | k + 1,acc => yr ops k (if acc.contains k = true then (match ops[k]? with | some o => wl o ++ acc | none => acc) else acc)
theorem CG {o : Oper} {j : Nat} (h : j ∈ wl o) : waits o j = true := by
 unfold wl at h
 obtain ⟨e,he,h⟩ := List.mem_filterMap.1 h
 split at h
 ·rename_i aJ
  cases h
  unfold waits
  rw [List.any_eq_true]
  exact ⟨e,he,by simp [aJ]⟩
 ·cases h
theorem Nt {ops : Array Oper} {P : Nat → Prop} (bV : ∀ k o,P k → ops[k]? = some o → ∀ j,waits o j = true → P j) : ∀ (k : Nat) (acc : List Nat),(∀ j ∈ acc,P j) → ∀ j ∈ yr ops k acc,P j
 | 0,_,h,j,aM => h j aM
 | k + 1,acc,h,j,aM => by
  refine Nt bV k _ (fun i aq => ?_) j aM
  split at aq
  ·rename_i az
   split at aq
   ·rename_i o ay
    rcases List.mem_append.1 aq with aq | aq
    ·exact bV k o (h k (by simpa using az)) ay i (CG aq)
    ·exact h i aq
   ·exact h i aq
  ·exact h i aq
def yj (ops : Array Oper) (n : Nat) (eS : List Nat) : Bool :=
 Region.noSelect ops && decide (n ≤ ops.size) &&
 (List.range ops.size).all (fun i => match ops[i]? with
  | some o => o.after.all (fun e => !Region.binds .any e || decide (e.on < i)) &&
   (decide (i < n) || (List.range i).all (fun j => (decide (j < n) && eS.contains j) || waits o j || (decide (n ≤ j) && (List.range i).any (fun k => decide (j < k) && waits o k)) || (decide (j < n) && (yr ops i (wl o)).contains j)))
  | none => false) &&
 (List.range n).all (fun i => (List.range n).all (fun j => decide (i = j) || match (ops[i]?).bind (·.dst) with | some d => (ops[j]?).bind (·.dst) != some d | none => true)) &&
 eS.all (fun f => decide (f < n) && match ops[f]? with
  | some o => o.after.all (fun e => !Region.binds .any e || !eS.contains e.on) &&
   (List.range ops.size).all (fun j => decide (j = f) || waits o j || match ops[j]? with | some hD => waits hD f || o.apart ops hD | none => true)
  | none => false)

theorem aab {a : Act} {i : Nat} {o : Oper} {v : Value} (aq : ops[i]? = some o) (g4 : ∀ d,o.dst = some d → d < a.tmps.size) (aX : o.dst ≠ none) : lG ops (a.put o.dst v) i = v := by
 unfold lG
 rw [aq]
 cases ay : o.dst with
 | none => exact absurd ay aX
 | some d =>
  have := g4 d ay
  simp [Act.put,Act.eval,ay,this]

theorem UC (ack : ∀ i o,ops[i]? = some o → ∀ e ∈ o.after,Region.binds .any e = true → e.on < i) (adU : ∀ i o,n ≤ i → ops[i]? = some o → ∀ j,n ≤ j → j < i → ∃ k,j ≤ k ∧ waits o k = true) :
  ∀ (m k : Nat) (listed : Array Bool) (a : Act) (w : World),n ≤ k → k + m = ops.size → listed.size = ops.size → (∀ j,j < k → listed.getD j false = true) → (∀ j,k ≤ j → listed.getD j false = false) →
  wpList P ops Q (ops.toList.drop k) a w → wpAny P .any ops Q m listed a w := by
 intro m
 induction m with
 | zero =>
  intro k listed a w _ aB g4 aF _ h
  have bb : ops.toList.drop k = [] := List.drop_eq_nil_of_le (by simp; omega)
  rw [bb] at h
  refine ⟨?_,h⟩
  rw [List.eq_nil_iff_forall_not_mem]
  intro j aM
  obtain ⟨af,o,ay,_⟩ := mem_ready.1 aM
  have bN : j < ops.size := (Array.getElem?_eq_some_iff.1 ay).1
  have aj := aF j (by omega)
  have A2 : j < listed.size := by omega
  simp [A2] at af aj
  rw [af] at aj; cases aj
 | succ m dO =>
  intro k listed a w ado aB g4 aF hu h
  have bN : k < ops.size := by omega
  have Bd : k < listed.size := by omega
  obtain ⟨o,ay⟩ : ∃ o,ops[k]? = some o := ⟨ops[k],by simp [bN]⟩
  have Ip : ops.toList.drop k = o :: ops.toList.drop (k + 1) := by
   have af : k < ops.toList.length := by simpa using bN
   rw [List.drop_eq_getElem_cons af]
   congr 1
   have : ops.toList[k]? = some o := by simpa using ay
   rw [List.getElem?_eq_getElem af] at this
   exact Option.some.inj this
  have Pn : k ∈ Region.ready .any ops listed := mem_ready.2 ⟨by have := hu k (Nat.le_refl _); simp [Bd] at this ⊢; exact this,o,ay,fun e he aJ => aF _ (ack k o ay e he aJ)⟩
  refine ⟨fun bb => (by rw [bb] at Pn; cases Pn),fun i aq => ?_⟩
  obtain ⟨af,ki,fg,dM⟩ := mem_ready.1 aq
  have am6 : i < ops.size := (Array.getElem?_eq_some_iff.1 fg).1
  have AZ : i < listed.size := by omega
  have acy : i = k := by
   rcases Nat.lt_trichotomy i k with aj | aj | aj
   ·have := aF i aj; simp [AZ] at af this; rw [af] at this; cases this
   ·exact aj
   ·have aw := adU i ki (by omega) fg k ado aj
    obtain ⟨dA,iR,aw⟩ := aw
    unfold waits at aw
    rw [List.any_eq_true] at aw
    obtain ⟨e,he,aV⟩ := aw
    simp only [Bool.and_eq_true,beq_iff_eq] at aV
    have bF := dM e (by simpa using he) aV.2
    rw [aV.1,hu dA iR] at bF
    cases bF
  subst acy
  rw [Ip] at h
  unfold wpOp
  rw [ay]
  unfold wpList at h
  have Pv : ∀ a w,wpList P ops Q (ops.toList.drop (i + 1)) a w → wpAny P .any ops Q m (listed.setIfInBounds i true) a w := fun a w h => by
   refine dO (i + 1) _ a w (by omega) (by omega) (by simpa using g4) (fun j aM => ?_) (fun j aM => ?_) h
   ·by_cases e : i = j
    ·subst e; simp [Bd]
    ·rw [getD_set_ne false e]; exact aF j (by omega)
   ·rw [getD_set_ne false (by omega)]; exact hu j (by omega)
  simp only
  split
  ·rename_i hw
   rw [if_pos hw] at h
   exact h.imp (Oper.wp_mono Pv) id
  ·rename_i hw
   rw [if_neg hw] at h
   exact Pv _ _ h

structure CQ (ops : Array Oper) (n : Nat) (eS : List Nat) : Prop where
 TQ : Region.noSelect ops = true
 le : n ≤ ops.size
 An : ∀ i o,ops[i]? = some o → ∀ e ∈ o.after,Region.binds .any e = true → e.on < i
 F6 : ∀ i o,n ≤ i → ops[i]? = some o → ∀ j,j < i → (j < n ∧ j ∈ eS) ∨ waits o j = true ∨ (n ≤ j ∧ ∃ k,j < k ∧ k < i ∧ waits o k = true) ∨ (j < n ∧ j ∈ yr ops i (wl o))
 dst : ∀ i j,i < n → j < n → i ≠ j → ∀ d,(ops[i]?).bind (·.dst) = some d → (ops[j]?).bind (·.dst) ≠ some d
 eS : ∀ f,f ∈ eS → f < n ∧ ∃ o,ops[f]? = some o ∧ (∀ e ∈ o.after,Region.binds .any e = true → e.on ∉ eS) ∧ ∀ j hD,ops[j]? = some hD → j ≠ f → waits o j = true ∨ waits hD f = true ∨ o.apart ops hD = true

theorem MY {eS : List Nat} (h : yj ops n eS = true) : CQ ops n eS := by
 unfold yj at h
 simp only [Bool.and_eq_true,decide_eq_true_eq,List.all_eq_true,List.mem_range] at h
 obtain ⟨⟨⟨⟨af,aj⟩,aw⟩,aV⟩,bF⟩ := h
 refine ⟨af,aj,?_,?_,?_,?_⟩
 ·intro i o ay e he aJ
  have bN : i < ops.size := (Array.getElem?_eq_some_iff.1 ay).1
  have bH := aw i bN
  rw [ay] at bH
  simp only [Bool.and_eq_true] at bH
  have cA := bH.1
  rw [Array.all_eq_true_iff_forall_mem] at cA
  have dY := cA e he
  rw [aJ] at dY
  simpa using dY
 ·intro i o aq ay j aM
  have bN : i < ops.size := (Array.getElem?_eq_some_iff.1 ay).1
  have bH := aw i bN
  rw [ay] at bH
  simp only [Bool.and_eq_true,Bool.or_eq_true,decide_eq_true_eq,List.all_eq_true,List.mem_range] at bH
  rcases bH.2 with cA | cA
  ·omega
  ·rcases cA j aM with ((⟨a,b⟩ | b) | ⟨a,b⟩) | ⟨a,b⟩
   ·exact .inl ⟨a,by simpa using b⟩
   ·exact .inr (.inl b)
   ·rw [List.any_eq_true] at b
    obtain ⟨k,aB,b⟩ := b
    simp only [Bool.and_eq_true,decide_eq_true_eq] at b
    exact .inr (.inr (.inl ⟨a,k,b.1,by simpa using aB,b.2⟩))
   ·exact .inr (.inr (.inr ⟨a,by simpa using b⟩))
 ·intro i j aq aM dd d aX
  have bH := aV i aq j aM
  rw [aX] at bH
  simp only [Bool.or_eq_true,decide_eq_true_eq] at bH
  rcases bH with bH | bH
  ·exact absurd bH dd
  ·simpa using bH
 ·intro f aW
  have bH := bF f aW
  refine ⟨bH.1,?_⟩
  cases ay : ops[f]? with
  | none => rw [ay] at bH; simp at bH
  | some o =>
   rw [ay] at bH
   simp only [Bool.and_eq_true,List.all_eq_true,List.mem_range,Bool.or_eq_true,decide_eq_true_eq] at bH
   refine ⟨o,rfl,fun e he aJ => ?_,fun j hD pj dd => ?_⟩
   ·have cA := bH.2.1
    rw [Array.all_eq_true_iff_forall_mem] at cA
    have dY := cA e he
    rw [aJ] at dY
    simpa using dY
   ·have bN : j < ops.size := (Array.getElem?_eq_some_iff.1 pj).1
    have cA := bH.2.2 j bN
    rw [pj] at cA
    simp only [Bool.or_eq_true] at cA
    rcases cA with (cA | cA) | (cA | cA)
    ·exact absurd cA dd
    ·exact .inl cA
    ·exact .inr (.inl cA)
    ·exact .inr (.inr cA)

theorem sw {o : Oper} {j : Nat} (h : waits o j = true) : ∃ e ∈ o.after,Region.binds .any e = true ∧ e.on = j := by
 unfold waits at h
 rw [List.any_eq_true] at h
 obtain ⟨e,he,aV⟩ := h
 simp only [Bool.and_eq_true,beq_iff_eq] at aV
 exact ⟨e,by simpa using he,aV.2,aV.1⟩
theorem Y2 {eS : List Nat} {Γ : List Rel} (aW : CQ ops n eS) (hlen : Γ.length = n) (aB : ∀ (j : Nat) (R : Rel),Γ[j]? = some R → uU R)
  (lT : ∀ (j : Nat) (o : Oper) (R : Rel),Γ[j]? = some R → ops[j]? = some o → j ∉ eS → yh P ops n a0 w0 H0 Γ o R)
  (aco : ∀ (j : Nat) (o : Oper) (R : Rel),Γ[j]? = some R → ops[j]? = some o → j ∈ eS → yg P ops n a0 w0 H0 Γ o R)
  (jB : ∀ c a (d : Tmp) v w,Q (.panic c) (Act.put a (some d) v) w → Q (.panic c) a w)
  (g4 : ∀ (i : Nat) (o : Oper) d,ops[i]? = some o → o.dst = some d → d < a0.tmps.size)
  (lO : ∀ (i : Nat) (o : Oper),i < n → ops[i]? = some o → o.dst ≠ none)
  (n4 : ∀ a w H,Grow w0 H0 w H → (∀ (j : Nat) (R : Rel),Γ[j]? = some R → R (lG ops a j) w H) → pO ops n a0 a → wpList P ops Q (ops.toList.drop n) a w) :
  ∀ (fuel : Nat) (listed : Array Bool) (a : Act) (w : World),lY listed = fuel → J ops n a0 w0 H0 Γ listed a w → wpAny P .any ops Q fuel listed a w := by
 have Ji : ∀ {listed : Array Bool} {a : Act} {w w' : World} {H H' : bg} {i : Nat} {o : Oper} {v : Value} {R : Rel},Sub H w → i < n → ops[i]? = some o → Γ[i]? = some R → listed.getD i false = false →
   Grow w0 H0 w H → (∀ (j : Nat) (R : Rel),listed.getD j false = true → Γ[j]? = some R → R (lG ops a j) w H) → pO ops n a0 a → listed.size = ops.size → (∀ j,n ≤ j → listed.getD j false = false) → (∀ (j : Nat) (o : Oper),listed.getD j false = true → ops[j]? = some o → ∀ k,waits o k = true → listed.getD k false = true) → (∀ k,waits o k = true → listed.getD k false = true) →
   Grow w H w' H' → R v w' H' → J ops n a0 w0 H0 Γ (listed.setIfInBounds i true) (a.put o.dst v) w' := by
  intro listed a w w' H H' i o v R sZ aq ay ba EG aH ug oa mK ph gz s4 rM bj
  have Ec := lO i o aq ay
  obtain ⟨d,aX⟩ : ∃ d,o.dst = some d := by cases h : o.dst with | none => exact absurd h Ec | some d => exact ⟨d,rfl⟩
  have jH : ∀ k,listed.getD k false = true → (listed.setIfInBounds i true).getD k false = true := fun k aB => by
   by_cases e : i = k
   ·subst e; rw [EG] at aB; cases aB
   ·rw [getD_set_ne false e]; exact aB
  refine ⟨H',aH.trans rM,?_,?_,by simpa using mK,?_,fun j hD aM pj k aB => ?_⟩
  ·intro j iL aM rK
   by_cases m9 : j = i
   ·subst m9
    rw [ba] at rK; cases rK
    rw [aab ay (fun Nq vn => by rw [oa.2.1]; exact g4 j o Nq ay vn) Ec]
    exact bj
   ·have kB : listed.getD j false = true := by rcases On aM with h | h; exact absurd h m9; exact h
    have acG : j < n := by
     rcases Nat.lt_or_ge j n with h | h
     ·exact h
     ·rw [ph j h] at kB; cases kB
    have dd : lG ops (a.put o.dst v) j = lG ops a j := by
     unfold lG
     cases ace : (ops[j]?).bind (·.dst) with
     | none => rfl
     | some t =>
      have af : d ≠ t := fun e => by
       subst e
       exact aW.dst j i acG aq m9 d ace (by rw [ay]; exact aX)
      simp only
      exact Act.eval_put (fun Nq vn e => by rw [aX] at vn; cases vn; cases e; exact af rfl)
    rw [dd]
    exact aB j iL rK _ _ _ _ _ (ug j iL kB rK) rM sZ
  ·refine ⟨by rw [← oa.1,aX]; rfl,by rw [← oa.2.1,aX]; simp [Act.put],fun t aO => ?_⟩
   rw [← oa.2.2 t aO,aX]
   have af : d ≠ t := fun e => by
    subst e
    unfold sf at aO
    rw [List.all_eq_true] at aO
    have aj : o ∈ ops.toList.take n := by
     rw [List.mem_take_iff_getElem]
     have bN : i < ops.size := (Array.getElem?_eq_some_iff.1 ay).1
     refine ⟨i,by simp; omega,?_⟩
     have : ops.toList[i]? = some o := by simpa using ay
     rw [List.getElem?_eq_getElem (by simpa using bN)] at this
     exact Option.some.inj this
    have := aO o aj
    rw [aX] at this
    simp at this
   simp [Act.put,Array.getElem?_setIfInBounds_ne af]
  ·intro j aM
   rw [getD_set_ne false (by omega)]
   exact ph j aM
  ·rcases On aM with rfl | aM
   ·rw [ay] at pj; cases pj
    exact jH k (s4 k aB)
   ·exact jH k (gz j hD aM pj k aB)
 intro fuel
 induction fuel with
 | zero =>
  intro listed a w aF ⟨H,aH,ug,oa,mK,ph,_⟩
  have dM : ∀ j,j < ops.size → listed.getD j false = true := fun j aM => BK aF j (by omega)
  have a7 : n = ops.size := by
   rcases Nat.lt_or_ge n ops.size with h | h
   ·have af := dM n h; rw [ph n (Nat.le_refl _)] at af; cases af
   ·have := aW.le; omega
  refine UC (n := n) aW.An (fun i o aq ay j anc aM => by rcases aW.F6 i o aq ay j aM with h | h | ⟨_,k,af,_,aj⟩ | h; exact absurd h.1 (by omega); exact ⟨j,Nat.le_refl _,h⟩; exact ⟨k,by omega,aj⟩; exact absurd h.1 (by omega)) 0 n listed a w (Nat.le_refl _) (by omega) mK (fun j aM => dM j (by omega)) ph ?_
  exact n4 a w H aH (fun j R ba => ug j R (dM j (by have := (List.getElem?_eq_some_iff.1 ba).1; omega)) ba) oa
 | succ fuel dO =>
  intro listed a w aF gJ
  have amO := gJ
  obtain ⟨H,aH,ug,oa,mK,ph,gz⟩ := gJ
  have sZ := aH.sub
  have EG : ∀ i,i ∈ Region.ready .any ops listed → i < ops.size ∧ listed.getD i false = false := fun i aq => by
   obtain ⟨af,ki,fg,_⟩ := mem_ready.1 aq
   have bN : i < ops.size := (Array.getElem?_eq_some_iff.1 fg).1
   have : i < listed.size := by omega
   refine ⟨bN,?_⟩
   simp [this] at af ⊢; exact af
  have Bx : ∀ i o,ops[i]? = some o → i ∈ Region.ready .any ops listed → qC ops Γ o a w H := fun i o ay aq j R hw ba => by
   obtain ⟨_,ki,fg,dM⟩ := mem_ready.1 aq
   rw [ay] at fg; cases fg
   obtain ⟨e,he,aJ,rfl⟩ := sw hw
   exact ug _ R (dM e he aJ) ba
  have vx : ∀ i o,ops[i]? = some o → i ∈ Region.ready .any ops listed → ∀ k,waits o k = true → listed.getD k false = true := fun i o ay aq k hw => by
   obtain ⟨_,ki,fg,dM⟩ := mem_ready.1 aq
   rw [ay] at fg; cases fg
   obtain ⟨e,he,aJ,rfl⟩ := sw hw
   exact dM e he aJ
  by_cases Iy : ∃ f,f ∈ eS ∧ f ∈ Region.ready .any ops listed
  ·obtain ⟨f,Pb,wV⟩ := Iy
   obtain ⟨yL,o,ay,am0,Ix⟩ := aW.eS f Pb
   obtain ⟨bN,PI⟩ := EG f wV
   obtain ⟨R,ba⟩ : ∃ R,Γ[f]? = some R := ⟨Γ[f]'(by omega),by simp⟩
   obtain ⟨v,a1,bj⟩ := aco f o R ba ay Pb a w H aH (Bx f o ay wV) oa
   refine wpAny_first ay (Region.noSelect_spec aW.TQ) (fun c a w h => by obtain ⟨d,aX⟩ := Option.ne_none_iff_exists'.1 (lO f o yL ay); rw [aX] at h; exact jB c a d _ w h) fuel listed a w ?_ wV a1 (dO _ _ _ ?_ (Ji sZ yL ay ba PI aH ug oa mK ph gz (vx f o ay wV) (Grow.refl sZ) bj))
   ·intro j hD pj dd yU qg
    rcases Ix j hD pj dd with h | h | h
    ·obtain ⟨e,he,aJ,rfl⟩ := sw h
     obtain ⟨_,ki,fg,dM⟩ := mem_ready.1 wV
     rw [ay] at fg; cases fg
     have aj := dM e he aJ
     have aw : e.on < listed.size := by
      rcases Nat.lt_or_ge e.on listed.size with aV | aV
      ·exact aV
      ·simp [Array.getElem?_eq_none aV] at aj
     simp [aw] at aj yU
     rw [aj] at yU; cases yU
    ·obtain ⟨e,he,aJ,pg⟩ := sw h
     exact absurd pg (qg e he aJ)
    ·exact h
   ·have := EX (listed := listed) (by omega) PI
    omega
  ·have adM : ∀ i o,ops[i]? = some o → listed.getD i false = false → (∀ j,j < i → listed.getD j false = true) → i ∈ Region.ready .any ops listed := fun i o ay aq aM => by
    have bN : i < ops.size := (Array.getElem?_eq_some_iff.1 ay).1
    have : i < listed.size := by omega
    exact mem_ready.2 ⟨by simp [this] at aq ⊢; exact aq,o,ay,fun e he aJ => aM _ (aW.An i o ay e he aJ)⟩
   refine ⟨fun bb => ?_,fun i aq => ?_⟩
   ·exfalso
    have hex : ∃ i,i < ops.size ∧ listed.getD i false = false := by
     by_cases h : ∃ i,i < ops.size ∧ listed.getD i false = false
     ·exact h
     ·exfalso
      have dM : ∀ b ∈ listed.toList,(!b) = false := fun b aJ => by
       obtain ⟨i,aq,rfl⟩ := List.mem_iff_getElem.1 aJ
       have iI : i < listed.size := by simpa using aq
       cases az : listed[i] with
       | true => simp [az]
       | false => exact absurd ⟨i,by omega,by simp [iI,az]⟩ h
      have : lY listed = 0 := by
       unfold lY
       rw [List.countP_eq_zero]
       intro b aJ
       simp [dM b aJ]
      omega
    have I0 : ∀ m i,i < m → i < ops.size → listed.getD i false = false → ∃ k,k < ops.size ∧ listed.getD k false = false ∧ ∀ j,j < k → listed.getD j false = true := by
     intro m
     induction m with
     | zero => intro i h; omega
     | succ m aeb =>
      intro i am7 aq IG
      by_cases h : ∃ j,j < i ∧ listed.getD j false = false
      ·obtain ⟨j,aM,acF⟩ := h
       exact aeb j (by omega) (by omega) acF
      ·refine ⟨i,aq,IG,fun j aM => ?_⟩
       cases az : listed.getD j false with
       | true => rfl
       | false => exact absurd ⟨j,aM,az⟩ h
    obtain ⟨i,aq,IG⟩ := hex
    obtain ⟨k,p5,aG,IK⟩ := I0 (i + 1) i (by omega) aq IG
    have := adM k ops[k] (by simp [p5]) aG IK
    rw [bb] at this; cases this
   ·obtain ⟨bN,Jr⟩ := EG i aq
    obtain ⟨o,ay⟩ : ∃ o,ops[i]? = some o := ⟨ops[i],by simp [bN]⟩
    by_cases ka : i < n
    ·have adn : i ∉ eS := fun h => Iy ⟨i,h,aq⟩
     obtain ⟨R,ba⟩ : ∃ R,Γ[i]? = some R := ⟨Γ[i]'(by omega),by simp⟩
     have cX := lT i o R ba ay adn a w H aH (Bx i o ay aq) oa
     unfold wpOp
     rw [ay]
     simp only
     have ana := EX (listed := listed) (i := i) (by omega) Jr
     split
     ·rename_i hw
      rw [if_pos hw] at cX
      refine .inl (Oper.CH ?_ cX)
      rintro dD w' ⟨v,H',rfl,rM,bj⟩
      exact dO _ _ _ (by omega) (Ji sZ ka ay ba Jr aH ug oa mK ph gz (vx i o ay aq) rM bj)
     ·rename_i hw
      rw [if_neg hw] at cX
      exact dO _ _ _ (by omega) (Ji sZ ka ay ba Jr aH ug oa mK ph gz (vx i o ay aq) (Grow.refl sZ) cX)
    ·have D9 : ∀ j,j < i → listed.getD j false = true := fun j aM => by
      have kD : ∀ k,n ≤ k → waits o k = true → False := fun k aB hw => by
       obtain ⟨a8,pg,iH,bF⟩ := sw hw
       obtain ⟨_,ki,fg,dM⟩ := mem_ready.1 aq
       rw [ay] at fg; cases fg
       have bH := dM a8 pg iH
       rw [bF,ph k aB] at bH; cases bH
      have lO : ∀ j,j ∈ yr ops i (wl o) → listed.getD j false = true := Nt (P := fun k => listed.getD k false = true) (fun k ok aB mM j hw => gz k ok aB mM j hw) i _ (fun j aM => vx i o ay aq j (CG aM))
      rcases aW.F6 i o (by omega) ay j aM with ⟨af,aj⟩ | h | ⟨af,k,aj,_,aw⟩ | ⟨_,h⟩
      ·cases az : listed.getD j false with
       | true => rfl
       | false =>
        exfalso
        obtain ⟨_,hD,pj,qW,_⟩ := aW.eS j aj
        have acH : j < listed.size := by omega
        refine Iy ⟨j,aj,mem_ready.2 ⟨by simp [acH] at az ⊢; exact az,hD,pj,fun e he aJ => ?_⟩⟩
        have aw := aW.An j hD pj e he aJ
        rcases aW.F6 i o (by omega) ay e.on (by omega) with ⟨_,aV⟩ | aV | ⟨aV,k,bH,_,cA⟩ | ⟨_,aV⟩
        ·exact absurd aV (qW e he aJ)
        ·obtain ⟨a8,pg,iH,bF⟩ := sw aV
         obtain ⟨_,ki,fg,dM⟩ := mem_ready.1 aq
         rw [ay] at fg; cases fg
         rw [← bF]; exact dM a8 pg iH
        ·exact (kD k (by omega) cA).elim
        ·exact lO _ aV
      ·obtain ⟨a8,pg,iH,bF⟩ := sw h
       obtain ⟨_,ki,fg,dM⟩ := mem_ready.1 aq
       rw [ay] at fg; cases fg
       rw [← bF]; exact dM a8 pg iH
      ·exact (kD k (by omega) aw).elim
      ·exact lO _ h
     have acw : i = n := by
      rcases Nat.lt_or_ge n i with h | h
      ·have := D9 n h; rw [ph n (Nat.le_refl _)] at this; cases this
      ·omega
     subst acw
     have amY : lY listed = ops.size - i := by
      have : ∀ (m : Nat) (l : List Bool),(∀ j b,l[j]? = some b → (j < m → b = true) ∧ (m ≤ j → b = false)) → l.countP (fun b => !b) = l.length - m := by
       intro m l
       induction l generalizing m with
       | nil => intro _; simp
       | cons b r PS =>
        intro h
        cases m with
        | zero =>
         have af := (h 0 b rfl).2 (by omega)
         have aj := PS 0 (fun j c aM => ⟨fun h => by omega,fun _ => (h (j + 1) c (by simpa using aM)).2 (by omega)⟩)
         rw [List.countP_cons,aj,af]; simp
        | succ m =>
         have af := (h 0 b rfl).1 (by omega)
         have aj := PS m (fun j c aM => ⟨fun dq => (h (j + 1) c (by simpa using aM)).1 (by omega),fun dq => (h (j + 1) c (by simpa using aM)).2 (by omega)⟩)
         rw [List.countP_cons,aj,af]; simp
      unfold lY
      rw [this i listed.toList]
      ·simp [mK]
      ·intro j b aM
       have Pl : listed[j]? = some b := by simpa using aM
       refine ⟨fun h => ?_,fun h => ?_⟩
       ·have := D9 j h; rw [Array.getD_eq_getD_getElem?,Pl] at this; simpa using this
       ·have := ph j h; rw [Array.getD_eq_getD_getElem?,Pl] at this; simpa using this
     have mD := UC (P := P) (Q := Q) (n := i) aW.An (fun jn o' jD fo j qW kB => by rcases aW.F6 jn o' jD fo j kB with h | h | ⟨_,k,af,_,aj⟩ | h; exact absurd h.1 (by omega); exact ⟨j,Nat.le_refl _,h⟩; exact ⟨k,by omega,aj⟩; exact absurd h.1 (by omega)) (fuel + 1) i listed a w (Nat.le_refl _) (by omega) mK D9 ph
      (n4 a w H aH (fun j R ba => ug j R (D9 j (by have := (List.getElem?_eq_some_iff.1 ba).1; omega)) ba) oa)
     exact mD.2 i aq

def pG (P : Program) (ops : Array Oper) (Q : Exit → Act → World → Prop) (n : Nat) (eS : List Nat) (a0 : Act) (w0 : World) (H0 : bg) : List Rel → List Oper → Prop
 | Γ,[] => ∀ W H,Grow w0 H0 W H → wk P ops Q n W H (ops.toList.take n) Γ a0
 | Γ,o :: rest => ∃ R,uU R ∧ (if eS.contains Γ.length = true then yg P ops n a0 w0 H0 Γ o R else yh P ops n a0 w0 H0 Γ o R) ∧ pG P ops Q n eS a0 w0 H0 (Γ ++ [R]) rest

def Ft (ops : Array Oper) (a : Act) : List Oper → Nat → Act → Act
 | [],_,b => b
 | o :: os,k,b => Ft ops a os (k + 1) (b.put o.dst (lG ops a k))

theorem Rf (a : Act) : ∀ (os : List Oper) (k : Nat) (b : Act),(∀ j,os[j]? = none ∨ os[j]? = ops[k + j]?) → b.defers = a.defers → b.tmps.size = a.tmps.size →
  (∀ t : Nat,b.tmps[t]? = a.tmps[t]? ∨ ∃ o ∈ os,o.dst = some t) → Ft ops a os k b = a
 | [],k,b,_,aX,ao,aO => by
  have : b.tmps = a.tmps := Array.ext_getElem? fun t => (aO t).resolve_right (by simp)
  cases b; cases a; simp_all [Ft]
 | o :: os,k,b,uf,aX,ao,aO => by
  have ay : ops[k]? = some o := by
   rcases uf 0 with h | h
   ·simp at h
   ·simpa using h.symm
  refine Rf a os (k + 1) _ (fun j => ?_) ?_ ?_ (fun t => ?_)
  ·rcases uf (j + 1) with h | h
   ·exact .inl (by simpa using h)
   ·exact .inr (by simpa [Nat.add_assoc,Nat.add_comm 1 j] using h)
  ·cases o.dst <;> exact aX
  ·cases o.dst <;> simpa [Act.put] using ao
  ·cases Iq : o.dst with
   | none =>
    rcases aO t with h | ⟨o',fo,h⟩
    ·exact .inl h
    ·rcases List.mem_cons.1 fo with rfl | hm
     ·rw [Iq] at h; cases h
     ·exact .inr ⟨o',hm,h⟩
   | some d =>
    by_cases Ir : d = t
    ·subst Ir
     left
     unfold lG
     rw [ay]
     simp only [Option.bind_some,Iq,Act.put,Act.eval]
     rw [Array.getElem?_setIfInBounds]
     by_cases bN : d < a.tmps.size
     ·simp [ao,bN]
     ·simp [ao,bN]
    ·rcases aO t with h | ⟨o',fo,h⟩
     ·left; simp only [Act.put]; rw [Array.getElem?_setIfInBounds_ne Ir]; exact h
     ·rcases List.mem_cons.1 fo with rfl | hm
      ·rw [Iq] at h; cases h; exact absurd rfl Ir
      ·exact .inr ⟨o',hm,h⟩

theorem Mv {w : World} {H : bg} (a : Act) : ∀ (os : List Oper) (uY : List Rel) (k : Nat) (b : Act),os.length = uY.length → (∀ (j : Nat) (R : Rel),uY[j]? = some R → R (lG ops a (k + j)) w H) → wk P ops Q n w H os uY b →
  wpList P ops Q (ops.toList.drop n) (Ft ops a os k b) w
 | [],[],_,_,_,_,h => h
 | o :: os,R :: uY,k,b,aF,ax,h => Mv a os uY (k + 1) _ (by simpa using aF) (fun j iL rK => by have := ax (j + 1) iL (by simpa using rK); simpa [Nat.add_assoc,Nat.add_comm 1 j] using this) (h _ (ax 0 R (by simp)))
 | [],_ :: _,_,_,aF,_,_ => by simp at aF
 | _ :: _,[],_,_,aF,_,_ => by simp at aF

theorem Mm {eS : List Nat} : ∀ (rest : List Oper) (Γ : List Rel),(∀ j,rest[j]? = none ∨ rest[j]? = ops[Γ.length + j]?) → pG P ops Q n eS a0 w0 H0 Γ rest → (∀ (j : Nat) (R : Rel),Γ[j]? = some R → uU R) →
  (∀ (j : Nat) (o : Oper) (R : Rel),Γ[j]? = some R → ops[j]? = some o → if eS.contains j = true then yg P ops n a0 w0 H0 Γ o R else yh P ops n a0 w0 H0 Γ o R) →
  ∃ Γ',Γ'.length = Γ.length + rest.length ∧ (∀ (j : Nat) (R : Rel),Γ'[j]? = some R → uU R) ∧
   (∀ (j : Nat) (o : Oper) (R : Rel),Γ'[j]? = some R → ops[j]? = some o → if eS.contains j = true then yg P ops n a0 w0 H0 Γ' o R else yh P ops n a0 w0 H0 Γ' o R) ∧ ∀ W H,Grow w0 H0 W H → wk P ops Q n W H (ops.toList.take n) Γ' a0
 | [],Γ,_,h,aB,ay => ⟨Γ,by simp,aB,ay,h⟩
 | o :: rest,Γ,ax,⟨R,ba,cX,h⟩,aB,ay => by
  have Pt : ∀ (o' : Oper) (a : Act) (w : World) (H : bg),qC ops (Γ ++ [R]) o' a w H → qC ops Γ o' a w H := fun o' a w H hp j iL hw rK => hp j iL hw (by
   rw [List.getElem?_append_left (List.getElem?_eq_some_iff.1 rK).1]; exact rK)
  have Pp : ∀ (o' : Oper) (iL : Rel) (b : Bool),(if b = true then yg P ops n a0 w0 H0 Γ o' iL else yh P ops n a0 w0 H0 Γ o' iL) → (if b = true then yg P ops n a0 w0 H0 (Γ ++ [R]) o' iL else yh P ops n a0 w0 H0 (Γ ++ [R]) o' iL) := fun o' iL b aJ => by
   cases b with
   | true => simp only [if_true] at aJ ⊢; exact fun a w H aH hp ao => aJ a w H aH (Pt _ _ _ _ hp) ao
   | false => simp only [Bool.false_eq_true,if_false] at aJ ⊢; exact fun a w H aH hp ao => aJ a w H aH (Pt _ _ _ _ hp) ao
  have eF : ∀ (j : Nat) (iL : Rel),(Γ ++ [R])[j]? = some iL → (j < Γ.length ∧ Γ[j]? = some iL) ∨ (j = Γ.length ∧ iL = R) := fun j iL aM => by
   rcases Nat.lt_or_ge j Γ.length with af | af
   ·rw [List.getElem?_append_left af] at aM; exact .inl ⟨af,aM⟩
   ·rw [List.getElem?_append_right af] at aM
    have aj : j - Γ.length = 0 := by
     have := (List.getElem?_eq_some_iff.1 aM).1; simp at this; omega
    rw [aj] at aM; simp at aM
    exact .inr ⟨by omega,aM.symm⟩
  obtain ⟨Γ',af,aj,aw,aV⟩ := Mm rest (Γ ++ [R]) (fun j => by
    rcases ax (j + 1) with h | h
    ·exact .inl (by simpa using h)
    ·exact .inr (by simpa [Nat.add_assoc,Nat.add_comm 1 j] using h)) h
   (fun j iL aM => by rcases eF j iL aM with ⟨_,h⟩ | ⟨_,rfl⟩; exact aB j iL h; exact ba)
   (fun j o' iL aM fo => by
    rcases eF j iL aM with ⟨_,h⟩ | ⟨rfl,rfl⟩
    ·exact Pp _ _ _ (ay j o' iL h fo)
    ·have : ops[Γ.length]? = some o := by
      rcases ax 0 with h | h
      ·simp at h
      ·simpa using h.symm
     rw [this] at fo; cases fo
     exact Pp _ _ _ cX)
  exact ⟨Γ',by simp [af]; omega,aj,aw,aV⟩

def z7 (ops : Array Oper) (n : Nat) (jg : Nat) : Bool := (ops.toList.all fun o => match o.dst with | some d => decide (d < jg) | none => true) && ((ops.toList.take n).all fun o => o.dst.isSome)

theorem Y4 {eS : List Nat} {w : World} (az : yj ops n eS = true) (aX : z7 ops n a0.tmps.size = true)
  (jB : ∀ c a (d : Tmp) v w,Q (.panic c) (Act.put a (some d) v) w → Q (.panic c) a w) (aH : Grow w0 H0 w H0)
  (h : pG P ops Q n eS a0 w0 H0 [] (ops.toList.take n)) : wpAny P .any ops Q ops.size (Array.replicate ops.size false) a0 w := by
 have aW := MY az
 unfold z7 at aX
 simp only [Bool.and_eq_true,List.all_eq_true] at aX
 obtain ⟨acd,vo⟩ := aX
 have ED : ∀ j : Nat,(ops.toList.take n)[j]? = none ∨ (ops.toList.take n)[j]? = ops[([] : List Rel).length + j]? := fun j => by
  by_cases aM : j < n
  ·right; rw [List.getElem?_take,if_pos aM]; simp
  ·left; rw [List.getElem?_take,if_neg aM]
 obtain ⟨Γ,af,aj,aw,aV⟩ := Mm _ [] ED h (fun j R aM => by simp at aM) (fun j o R aM => by simp at aM)
 have hlen : Γ.length = n := by rw [af]; simp; have := aW.le; omega
 refine Y2 (a0 := a0) (w0 := w0) (H0 := H0) aW hlen aj (fun j o R ba ay mG => ?_) (fun j o R ba ay mG => ?_) jB ?_ ?_ ?_ _ _ _ _ ?_ ?_
 ·have := aw j o R ba ay
  rw [if_neg (by simpa using mG)] at this
  exact this
 ·have := aw j o R ba ay
  rw [if_pos (by simpa using mG)] at this
  exact this
 ·intro i o d ay Ec
  have := acd o (by rw [List.mem_iff_getElem?]; exact ⟨i,by simpa using ay⟩)
  rw [Ec] at this
  simpa using this
 ·intro i o aq ay a7
  have := vo o (by rw [List.mem_iff_getElem?]; exact ⟨i,by rw [List.getElem?_take,if_pos aq]; simpa using ay⟩)
  rw [a7] at this; cases this
 ·intro a w' H rM ax ao
  have bs := aV w' H rM
  have hp := Mv (P := P) (Q := Q) (n := n) a (ops.toList.take n) Γ 0 a0 (by rw [hlen]; simp; have := aW.le; omega) (fun j R ba => by rw [Nat.zero_add]; exact ax j R ba) bs
  rw [Rf a _ 0 a0 (fun j => ED j) ao.1.symm ao.2.1.symm (fun t => ?_)] at hp
  ·exact hp
  ·by_cases aO : sf ops n t = true
   ·exact .inl (ao.2.2 t aO).symm
   ·right
    unfold sf at aO
    rw [List.all_eq_true] at aO
    simp only [bne_iff_ne,ne_eq] at aO
    by_cases hex : ∃ o ∈ ops.toList.take n,o.dst = some t
    ·exact hex
    ·exact absurd (fun o ay dq => hex ⟨o,ay,dq⟩) aO
 ·unfold lY
  rw [Array.toList_replicate,List.countP_replicate]; simp
 ·have qZ : ∀ j,(Array.replicate ops.size false).getD j false = false := fun j => by
   rw [Array.getD_eq_getD_getElem?,Array.getElem?_replicate]; split <;> rfl
  exact ⟨H0,aH,fun j R aM => (by rw [qZ j] at aM; cases aM),⟨rfl,rfl,fun _ _ => rfl⟩,by simp,fun j _ => qZ j,fun j o aM => (by rw [qZ j] at aM; cases aM)⟩

theorem akU {id : Nat} (n : Nat) (eS : List Nat) (H0 : bg) (hm : P.follows .mixedOrders = true) (az : yj ops n eS = true) (aX : z7 ops n a0.tmps.size = true)
  (jB : ∀ c a (d : Tmp) v w,Q (.panic c) (Act.put a (some d) v) w → Q (.panic c) a w) (ao : Sub H0 w0)
  (h : pG P ops Q n eS a0 w0 H0 [] (ops.toList.take n)) : (Code.region id ops true).wp P Q a0 w0 :=
 wp_region_any hm (Y4 az aX jB (Grow.refl ao).drew h)

end
section
variable {P : Program} {ops : Array Oper} {Q : Exit → Act → World → Prop} {n : Nat} {eS : List Nat} {a0 : Act} {w0 : World} {H0 : bg} {Γ : List Rel} {o : Oper} {rest : List Oper}

theorem afv {a : Act} (h : pO ops n a0 a) {t : Tmp} (aO : sf ops n t = true) : a.eval (.tmp t) = a0.eval (.tmp t) := by
 have := h.2.2 t aO
 simp [Act.eval,this]
theorem akZ {a : Act} {j : Nat} {b : Bool} (h : lG ops a j = .bool b) : yielded ops a.tmps j = some b := by
 unfold lG at h
 unfold yielded
 cases aX : (ops[j]?).bind (·.dst) with
 | none => rw [aX] at h; cases h
 | some t =>
  rw [aX] at h
  simp only [Act.eval] at h
  cases aO : a.tmps[t]? with
  | none => rw [Array.getD_eq_getD_getElem?,aO] at h; cases h
  | some v => rw [Array.getD_eq_getD_getElem?,aO] at h; simp only [Option.getD_some] at h; subst h; simp [aO]
theorem zy {y : Nat → Option Bool} (h : o.guard = none) : Region.wanted o y = true := by simp [Region.wanted,h]
theorem CE {a : Act} {j : Nat} {b fO : Bool} (h : o.guard = some (j,b)) (aM : lG ops a j = .bool fO) : Region.wanted o (yielded ops a.tmps) = (fO == b) := by
 simp [Region.wanted,h,akZ aM]
theorem anM {a : Act} {j : Nat} {b : Bool} (h : o.guard = some (j,b)) (aM : lG ops a j = .bool b) : Region.wanted o (yielded ops a.tmps) = true := by
 rw [CE h aM]; exact beq_self_eq_true b

def Dj (w : World) (H : bg) {X : Type} (c : X → Value) (Φ : X → bg → Prop) (e : Ending) (w' : World) : Prop := ∃ x H',e = .returned (c x) ∧ Grow w H w' H' ∧ Φ x H'
theorem Cc {w : World} {H : bg} {X : Type} {c : X → Value} {Φ : X → bg → Prop} {w' : World} (x : X) (H' : bg) (aH : Grow w H w' H') (ar : Φ x H') : Dj w H c Φ (.returned (c x)) w' := ⟨x,H',rfl,aH,ar⟩
def GL (P : Program) (f : FuncId) (args : Array Value) (w : World) (H : bg) {X : Type} (c : X → Value) (Φ : X → bg → Prop) : Prop := Calls P f args w (Dj w H c Φ)
def GM (w : World) (v : Value) (e : Ending) (w' : World) : Prop := e = .returned v ∧ Below w.heap.size w w'
theorem ahn {w : World} {v : Value} {w' : World} (aJ : Below w.heap.size w w') : GM w v (.returned v) w' := ⟨rfl,aJ⟩
def uX (P : Program) (f : FuncId) (args : Array Value) (w : World) (v : Value) : Prop :=
 Calls P f args w (GM w v)

theorem GL.use {P : Program} {f : FuncId} {args : Array Value} {w : World} {H : bg} {X : Type} {c : X → Value} {Φ : X → bg → Prop} {iL : Ending → World → Prop} (h : GL P f args w H c Φ)
  (k : ∀ x w' H',Grow w H w' H' → Φ x H' → iL (.returned (c x)) w') : Calls P f args w iL := Calls.mono h fun _ w' he => by obtain ⟨x,H',rfl,aH,ar⟩ := he; exact k x w' H' aH ar
theorem uX.use {P : Program} {f : FuncId} {args : Array Value} {w : World} {v : Value} {iL : Ending → World → Prop} (h : uX P f args w v)
  (k : ∀ w',Below w.heap.size w w' → iL (.returned v) w') : Calls P f args w iL := Calls.mono h fun _ w' he => by obtain ⟨rfl,aJ⟩ := he; exact k w' aJ
theorem Cd {w : World} {k : IntKind} {x y : Int} {w' : World} (h : x = y) (aJ : Below w.heap.size w w') : GM w (.int k y) (.returned (.int k x)) w' := ⟨by rw [h],aJ⟩
theorem Y3 (h : ∀ W H,Grow w0 H0 W H → wk P ops Q n W H (ops.toList.take n) Γ a0) : pG P ops Q n eS a0 w0 H0 Γ [] := h
variable {w : World} {H : bg} {os : List Oper} {uY : List Rel} {a : Act}
end

def jN (w : World) (b : Nat) (cs : Array Value) (t : TypeId) : Prop := w.heap[b]? = some (.cells cs t (0,0))
structure tu (w : World) (b : Nat) (cs : Array Value) (t : TypeId) (w' : World) : Prop where
 box : jN w' b cs t
 same : ∀ k,k ≠ b → w'.heap[k]? = w.heap[k]?
 size : w'.heap.size = w.heap.size
 os : w'.os = w.os
 tape : w'.tape = w.tape
 output : w'.output = w.output

theorem jN.lt {w : World} {b : Nat} {cs : Array Value} {t : TypeId} (h : jN w b cs t) : b < w.heap.size := (Array.getElem?_eq_some_iff.1 h).1
theorem jN.cell {w : World} {b : Nat} {cs : Array Value} {t : TypeId} (h : jN w b cs t) : ∀ i,w.cell? ⟨b,i,none⟩ = cs[i]? := fun i => by
 unfold jN at h
 simp [World.cell?,h]
theorem jN.frozen {w : World} {b : Nat} {cs : Array Value} {t : TypeId} (h : jN w b cs t) : ∀ i,w.frozen? ⟨b,i,none⟩ = false := fun i => by
 unfold jN at h
 simp [World.frozen?,h]
theorem jN.grow {w w' : World} {H H' : bg} {b : Nat} {cs : Array Value} {t : TypeId} (h : jN w b cs t) (g : Grow w H w' H') : jN w' b cs t :=
 (g.below.block b h.lt).trans h
theorem jN.below {w w' : World} {b B : Nat} {cs : Array Value} {t : TypeId} (h : jN w b cs t) (g : Below B w w') (fD : b < B) : jN w' b cs t := (g.block b fD).trans h
theorem jN.put {w w' : World} {b fO : Nat} {cs cs' : Array Value} {t t' : TypeId} (h : jN w b cs t) (p : tu w fO cs' t' w') (dd : b ≠ fO) : jN w' b cs t := (p.same b dd).trans h
theorem jN.grownBy {w w' : World} {b : Nat} {row : Option Nat} {cs : Array Value} {t : TypeId} (h : jN w b cs t) (g : w.grownBy w' row) (dd : some b ≠ row) : jN w' b cs t := (g.block b h.lt dd).trans h
theorem tu.grow {w fh w' : World} {H H1 : bg} {b : Nat} {cs : Array Value} {t : TypeId} (p : tu fh b cs t w') (g : Grow w H fh H1) (aJ : w.heap.size ≤ b) (nv : H1 b = none) : Grow w H w' H1 :=
 ⟨⟨p.os.trans g.below.os,p.tape.trans g.below.tape,p.output.trans g.below.output,by rw [p.size]; exact g.below.size,fun k aB => (p.same k (by omega)).trans (g.below.block k aB)⟩,
  ⟨fun k o aB => (p.same k (fun e => by rw [e,nv] at aB; cases aB)).trans (g.sub k o aB),g.sub.qQ⟩,g.old⟩
theorem Sub.put {w w' : World} {H : bg} {b : Nat} {cs : Array Value} {t : TypeId} (h : Sub H w) (p : tu w b cs t w') (nv : H b = Option.none) : Sub H w' :=
 ⟨fun k o aB => (p.same k (fun e => by rw [e,nv] at aB; cases aB)).trans (h k o aB),h.qQ⟩
theorem Fs {w : World} {b : Nat} {cs cs' : Array Value} {t : TypeId} (h : jN w b cs t) : tu w b cs' t (w.setRow b cs') := by
 refine ⟨setRow_heap w b cs cs' t _ h,fun k aB => ?_,?_,rfl,rfl,rfl⟩
 ·simp only [World.setRow,Array.getElem?_modify]
  rw [if_neg (by omega)]
 ·simp [World.setRow]

section
variable {P : Program} {ops : Array Oper} {rest : List Oper} {o : Oper} {a : Act} {w : World} {Q : Exit → Act → World → Prop}

theorem KM (t : TypeId) (b : Nat) (cs : Array Value) (t0 : TypeId) (aJ : jN w b cs t0) (val : Value) (off : Nat) (aq : (P.info? t).map (·.size) = some val.cells.size) (a7 : off + val.cells.size ≤ cs.size) (af : ∀ v ∈ val.cells.toList,v.oneCell' = true) :
  (Instr.storeAt t (.pointer (some ⟨b,off,none⟩)) val).run P w = .ok () (w.setRow b (cs.toList.take off ++ val.cells.toList ++ cs.toList.drop (off + val.cells.size)).toArray) := by
 have g4 : ∃ i,P.info? t = some i ∧ i.size = val.cells.size := by
  cases h : P.info? t with
  | none => rw [h] at aq; cases aq
  | some i => rw [h] at aq; exact ⟨i,rfl,by simpa using aq⟩
 obtain ⟨i,aS,ao⟩ := g4
 have := run_storeCells_at (P := P) b off t0 val.cells.toList 0 cs w aJ (by simpa using a7) af
 simp only [Nat.add_zero,Array.length_toList] at this
 simp [Instr.storeAt,Instr.sureAddr,storeVar,sizeOf,typeInfo,aS,ao,this,Result.andThen]

variable {c : Code}
end

abbrev wj (α : Type) := bg → List Value → α → Prop
def MH {α : Type} (R : wj α) : Prop := ∀ H H' cs x,g7 H H' → R H cs x → R H' cs x

def jO {α : Type} (k : Nat) (R : wj α) (H : bg) (xs : List Value) (l : List α) : Prop :=
 xs.length = l.length * k ∧ ∀ i x,l[i]? = some x → R H ((xs.drop (i * k)).take k) x

def m5 {α : Type} (k : Nat) (R : wj α) (H : bg) (a : Option Addr) (n c : Nat) (l : List α) : Prop :=
 ∃ xs : List Value,l.length = n ∧ n ≤ c ∧ (a = none → c = 0) ∧ jO k R H xs l ∧ (∀ u ∈ xs,u.oneCell' = true) ∧
  ∀ j u,xs[j]? = some u → ∃ b o cells t cS,a = some ⟨b,o,none⟩ ∧ H b = some (.cells cells t cS) ∧ cells[o + j]? = some u

variable {α : Type} {k : Nat} {R : wj α} {H H' : bg} {a : Option Addr} {n c : Nat} {l : List α} {xs : List Value}

theorem jO.le (h : jO k R H xs l) (hm : MH R) (g : g7 H H') : jO k R H' xs l := ⟨h.1,fun i x ar => hm _ _ _ _ g (h.2 i x ar)⟩
theorem m5.le (h : m5 k R H a n c l) (hm : MH R) (g : g7 H H') : m5 k R H' a n c l := by
 obtain ⟨xs,af,aj,aw,aV,bF,bH⟩ := h
 refine ⟨xs,af,aj,aw,aV.le hm g,bF,fun j u hu => ?_⟩
 obtain ⟨b,o,cells,t,cS,a2,a8,cg⟩ := bH j u hu
 exact ⟨b,o,cells,t,cS,a2,g _ _ a8,cg⟩
theorem jO.nil : jO k R H [] ([] : List α) := ⟨by simp,fun i x h => by simp at h⟩
theorem jO.append {ys : List Value} {m : List α} (h : jO k R H xs l) (dh : jO k R H ys m) : jO k R H (xs ++ ys) (l ++ m) := by
 refine ⟨by simp [h.1,dh.1,Nat.add_mul],fun i x ar => ?_⟩
 rcases Nat.lt_or_ge i l.length with aq | aq
 ·rw [List.getElem?_append_left aq] at ar
  have af := h.2 i x ar
  have aj : i * k + k ≤ xs.length := by rw [h.1]; have := Nat.mul_le_mul_right k (show i + 1 ≤ l.length from aq); rw [Nat.add_mul] at this; omega
  rw [List.drop_append_of_le_length (by omega),List.take_append_of_le_length (by simp; omega)]
  exact af
 ·rw [List.getElem?_append_right aq] at ar
  have af := dh.2 _ x ar
  have aj : i * k - xs.length = (i - l.length) * k := by rw [h.1,Nat.sub_mul]
  have aw : xs.length ≤ i * k := by rw [h.1]; exact Nat.mul_le_mul_right k aq
  rw [List.drop_append,List.drop_of_length_le aw,List.nil_append,aj]
  exact af
theorem jO.one {es : List Value} {x : α} (aF : es.length = k) (h : R H es x) : jO k R H es [x] :=
 ⟨by simp [aF],fun i y a1 => by
  cases i with
  | zero => simp at a1; subst a1; simpa [← aF] using h
  | succ i => simp at a1⟩
theorem jO.take (h : jO k R H xs l) (m : Nat) : jO k R H (xs.take (m * k)) (l.take m) := by
 refine ⟨?_,fun i x ar => ?_⟩
 ·rw [List.length_take,List.length_take,h.1]
  rcases Nat.le_total m l.length with hm | hm
  ·rw [Nat.min_eq_left hm,Nat.min_eq_left (Nat.mul_le_mul_right k hm)]
  ·rw [Nat.min_eq_right hm,Nat.min_eq_right (Nat.mul_le_mul_right k hm)]
 ·rw [List.getElem?_take] at ar
  split at ar
  ·rename_i aq
   have af := h.2 i x ar
   have aj : i * k + k ≤ m * k := by have := Nat.mul_le_mul_right k (show i + 1 ≤ m from aq); rw [Nat.add_mul] at this; omega
   rw [List.drop_take,List.take_take,Nat.min_eq_left (by omega)]
   exact af
  ·cases ar
theorem jO.drop (h : jO k R H xs l) (m : Nat) : jO k R H (xs.drop (m * k)) (l.drop m) := by
 refine ⟨?_,fun i x ar => ?_⟩
 ·rw [List.length_drop,List.length_drop,h.1,Nat.sub_mul]
 ·rw [List.getElem?_drop] at ar
  have af := h.2 _ x ar
  rw [List.drop_drop]
  rw [Nat.add_mul] at af
  exact af

theorem m5.len (h : m5 k R H a n c l) : l.length = n := h.choose_spec.1
theorem m5.cap (h : m5 k R H a n c l) : n ≤ c := h.choose_spec.2.1
theorem m5.nil (R : wj α) (H : bg) : m5 k R H none 0 0 ([] : List α) := ⟨[],rfl,Nat.le_refl _,fun _ => rfl,jO.nil,by simp,fun j u h => by simp at h⟩

theorem m5.at (h : m5 k R H a n c l) {i : Nat} {x : α} (ar : l[i]? = some x) (aB : 0 < k) :
  ∃ b o es,a = some ⟨b,o,none⟩ ∧ es.length = k ∧ R H es x ∧ (∃ ob,H b = some ob) ∧ ∀ w,Sub H w → ∀ j u,es[j]? = some u → w.cell? ⟨b,o + i * k + j,none⟩ = some u := by
 obtain ⟨xs,af,aj,aw,aV,bF,bH⟩ := h
 have aq : i < l.length := (List.getElem?_eq_some_iff.1 ar).1
 have hlen : i * k + k ≤ xs.length := by rw [aV.1]; have := Nat.mul_le_mul_right k (show i + 1 ≤ l.length from aq); rw [Nat.add_mul] at this; omega
 obtain ⟨CA,BD⟩ : ∃ u,xs[i * k]? = some u := ⟨xs[i * k]'(by omega),by simp⟩
 obtain ⟨b,o,cells,t,cS,a2,a8,cg⟩ := bH _ CA BD
 refine ⟨b,o,(xs.drop (i * k)).take k,a2,by simp; omega,aV.2 i x ar,⟨_,a8⟩,fun w hw j u hu => ?_⟩
 have aM : j < k := by have := (List.getElem?_eq_some_iff.1 hu).1; simp at this; omega
 rw [List.getElem?_take,if_pos aM,List.getElem?_drop] at hu
 obtain ⟨fO,o',Hg,t',HI,f1,f2,f3⟩ := bH _ u hu
 rw [a2] at f1
 simp only [Option.some.injEq,Addr.mk.injEq] at f1
 obtain ⟨rfl,rfl,_⟩ := f1
 rw [a8] at f2
 simp only [Option.some.injEq,Obj.cells.injEq] at f2
 obtain ⟨rfl,_,_⟩ := f2
 have := hw _ _ a8
 rw [← Nat.add_assoc] at f3
 simp [World.cell?,this,f3]

theorem m5.cells (h : m5 k R H a n c l) : ∃ xs : List Value,xs.length = n * k ∧ jO k R H xs l ∧ (∀ u ∈ xs,u.oneCell' = true) ∧ ∀ w,Sub H w → ∀ fr,a = some fr → ∀ j u,xs[j]? = some u → w.cell? (fr.add j) = some u := by
 obtain ⟨xs,af,aj,aw,aV,bF,bH⟩ := h
 refine ⟨xs,by rw [aV.1,af],aV,bF,fun w hw fr ab4 j u hu => ?_⟩
 obtain ⟨b,o,cells,t,cS,a2,a8,cg⟩ := bH j u hu
 rw [ab4] at a2
 cases a2
 rw [Addr.add_lit]
 have := hw _ _ a8
 simp [World.cell?,this,cg]

theorem m5.lit {b : Nat} {cs : Array Value} {t : TypeId} {cS : Nat × Nat} (nv : H b = some (.cells cs t cS)) (aW : jO k R H cs.toList l) (af : ∀ u ∈ cs.toList,u.oneCell' = true) (a7 : l.length = n) : m5 k R H (some ⟨b,0,none⟩) n n l :=
 ⟨cs.toList,a7,Nat.le_refl _,fun e => (by cases e),aW,af,fun j u hu => ⟨b,0,cs,t,cS,rfl,nv,by simpa using hu⟩⟩

structure WK where
 a : Option Addr
 n : Nat
 c : Nat

end Go.Proofs.YtkmbcjnaaokilaaGreatDoor
namespace Go.Proofs.YtkmbcjnaaokilaaGreatDoor
set_option linter.unusedSimpArgs false
set_option linter.unusedVariables false
open Go.RowKit Go.Maps

def rj (D : DataW Value) (f : Int → Option Value) : Prop := ∃ es,D = .map es ∧ es.Pairwise (fun p q => p.1.before q.1 = true) ∧ ∀ p,p ∈ es ↔ ∃ k v,p = (.int .i64 k,.held v) ∧ f k = some v
theorem rj.one {D Mt : DataW Value} {f : Int → Option Value} (h : rj D f) (dh : rj Mt f) : D = Mt := by
 obtain ⟨es,rfl,r,m⟩ := h
 obtain ⟨DK,rfl,hV,lp⟩ := dh
 rw [eq_of_mem_rising r hV (fun p => (m p).trans (lp p).symm)]
theorem rj.nil {f : Int → Option Value} (h : ∀ k,f k = none) : rj (.map []) f := ⟨[],rfl,List.Pairwise.nil,fun p => ⟨fun h => by simp at h,fun ⟨k,v,_,aj⟩ => by rw [h] at aj; cases aj⟩⟩

theorem hR.kv {bc : TypeId} {o : Obj} {n b : Nat} {f : Int → Option Value} {w : World} (h : hR bc o n f) (aJ : w.heap[b]? = some o) (aB : Tryz.prog.underlying bc = some (.int .i64)) :
  ∃ D : DataW Value,w.ownsMap Tryz.prog bc ji b n D ∧ rj D f := by
 obtain ⟨D,jF,aW⟩ := h.owns aJ
 have K := int_keyed (P := Tryz.prog) aB
 have adw := jF
 obtain ⟨es,rfl,ui,Bd⟩ := jF.canon K
 have oF := apart_of_rising ui
 have Bc : ∀ p ∈ es,∃ k v,p = (.int .i64 k,.held v) := by
  obtain ⟨amA,clock,_,F,_,iG⟩ := adw
  simp only [DataW.map.injEq] at iG
  intro p hp
  rw [iG] at hp
  obtain ⟨x,ar,rfl⟩ := List.mem_map.1 (mem_sorted.1 hp)
  obtain ⟨y,a1⟩ := F.reads x ar
  obtain ⟨z,bO,Jw⟩ := Go.WideElems.rd_val a1
  have uh := Go.WideElems.rg_of a1
  obtain ⟨v,bj⟩ := Maps.fit_keys F _ (List.mem_map.2 ⟨x,ar,rfl⟩)
  obtain ⟨k,_,aG,_⟩ := Maps.keyOf_int_inv aB bj
  simp only [ji,Option.some.injEq] at bO
  refine ⟨k,x.val,Prod.ext aG ?_⟩
  rw [uh,Jw,← bO]
 refine ⟨_,jF,es,rfl,ui,fun p => ⟨fun hp => ?_,fun ⟨k,v,hp,bj⟩ => ?_⟩⟩
 ·obtain ⟨k,v,rfl⟩ := Bc p hp
  refine ⟨k,v,rfl,?_⟩
  have eA := WideAt.atKey_mem (entries := es) (k := .int .i64 k) (d := .held v) .nil (Bd _ hp) oF hp
  rw [aW k] at eA
  cases e : f k with
  | some gY => rw [e] at eA; simp only [DataW.held.injEq] at eA; rw [eA]
  | none => rw [e] at eA; cases eA
 ·subst hp
  have eA := aW k
  rw [bj] at eA
  cases dq : Maps.has (.map es) (.int .i64 k) with
  | false => rw [Maps.atKey_of_not_has dq .nil] at eA; cases eA
  | true =>
   obtain ⟨p,hp,ao⟩ := List.any_eq_true.1 (show es.any (fun p => p.1.sameKey (.int .i64 k)) = true from dq)
   have a2 : p.1 = .int .i64 k := WideAt.sameKey_eq ao
   have a8 : (DataW.map es).atKey (.int .i64 k) .nil = p.2 := by rw [← a2]; exact WideAt.atKey_mem .nil (Bd p hp) oF hp
   have : p = (.int .i64 k,.held v) := Prod.ext a2 (by rw [← a8,eA])
   rw [← this]; exact hp

end Go.Proofs.YtkmbcjnaaokilaaGreatDoor
namespace Go.Proofs.YtkmbcjnaaokilaaGreatDoor
set_option linter.unusedSimpArgs false
set_option linter.unusedVariables false
open Go.RowKit

inductive av where
 | v (x : Value)
 | agg (cs : List av)
 | bR (cs : List av)
 | au (k : Nat) (g : Nat) (es : List (List av))
 | mp (bc : TypeId) (f : Int → Option av)
 | fn (f : Fn) (first cap : List av)
 | dr (t : TypeId) (x : av)
 | dc (e : List av) (off : Nat)
 | own (i : Nat)
 | ptr (i idx off : Nat)
 | any

def av.one : av → Bool
 | .agg _ | .bR _ => false
 | .v _ | .au .. | .mp .. | .fn .. | .dr .. | .dc .. | .own _ | .ptr .. | .any => true
def av.pure : av → Bool
 | .agg _ | .bR _ | .own _ | .ptr .. => false
 | .v _ | .au .. | .mp .. | .fn .. | .dr .. | .dc .. | .any => true

abbrev Env := Nat → Option (Value × Nat × Option Nat)
def ep : Env := fun _ => none
def fK (E E' : Env) : Prop := ∀ i p,E i = some p → E' i = some p

def zI (g n c : Nat) : Prop := (g = 1 → c = n) ∧ (g = 0 → n = 0 → c = 0)

mutual
inductive ca (H : bg) : Env → av → Value → Prop
 | v {E x} : x.oneCell' = true → ca H E (.v x) x
 | agg {E cs vs} : db H E cs vs → (cs.all av.one) = true → ca H E (.agg cs) (.agg vs.toArray)
 | bR {E cs vs} : db H E cs vs → ca H E (.bR cs) (.tuple vs.toArray)
 | au {E k full es a n c xs} : eD H k es xs → es.length = n → n ≤ c → c ≤ maxLen → zI full n c → (a = none → c = 0) →
   (∀ j u,xs[j]? = some u → ∃ b o cells t cS,a = some ⟨b,o,none⟩ ∧ H b = some (.cells cells t cS) ∧ cells[o + j]? = some u) → ca H E (.au k full es) (.slice a n c)
 | mR {E bc f} : (∀ i,f i = none) → ca H E (.mp bc f) (.map none)
 | mp {E bc f b o N F} : H b = some o → hR bc o N F → N ≤ 1000000 → (∀ i,f i = none ↔ F i = none) → (∀ i s u,f i = some s → F i = some u → ca H ep s u) → ca H E (.mp bc f) (.map (some b))
 | fn {E f first cap vs us} : db H ep first vs → db H ep cap us → ca H E (.fn f first cap) (.func f vs.toArray us.toArray)
 | dr {E t x u} : ca H ep x u → ca H E (.dr t x) (.iface t u)
 | dc {E e off b o xs} : db H ep e xs → (e.all av.one) = true →
   (∀ j u,xs[j]? = some u → ∃ cells t cS,H b = some (.cells cells t cS) ∧ cells[o + j]? = some u) → ca H E (.dc e off) (.pointer (some ⟨b,o + off,none⟩))
 | own {E i u k b} : E i = some (u,k,b) → u.oneCell' = true → ca H E (.own i) u
 | ptr {E i idx off u k b} : E i = some (u,k,some b) → ca H E (.ptr i idx off) (.pointer (some ⟨b,idx * k + off,none⟩))
 | any {E u} : u.oneCell' = true → ca H E .any u
inductive db (H : bg) : Env → List av → List Value → Prop
 | nil {E} : db H E [] []
 | cons {E x u cs vs} : ca H E x u → db H E cs vs → db H E (x :: cs) (u :: vs)
inductive eD (H : bg) : Nat → List (List av) → List Value → Prop
 | nil {k} : eD H k [] []
 | cons {k e vs es xs} : db H ep e vs → vs.length = k → (e.all av.one) = true → eD H k es xs → eD H k (e :: es) (vs ++ xs)
end

section
variable {H H' : bg} {E E' : Env}

theorem lB (E : Env) : fK ep E := fun _ _ h => by cases h
theorem fK.refl (E : Env) : fK E E := fun _ _ h => h

theorem ca.ae6 (nv : g7 H H') {E x v} (h : ca H E x v) : ∀ E',fK E E' → ca H' E' x v := by
 refine ca.rec (motive_1 := fun E x v _ => ∀ E',fK E E' → ca H' E' x v) (motive_2 := fun E x v _ => ∀ E',fK E E' → db H' E' x v) (motive_3 := fun k x v _ => eD H' k x v)
  ?_ ?_ ?_ ?_ ?_ ?_ ?_ ?_ ?_ ?_ ?_ ?_ ?_ ?_ ?_ ?_ h
 ·intro E x h E' _; exact .v h
 ·intro E cs vs _ af dO E' g; exact .agg (dO E' g) af
 ·intro E cs vs _ dO E' g; exact .bR (dO E' g)
 ·intro E k full es a n c xs _ af aj aw aV bF bH dO E' _
  exact .au dO af aj aw aV bF (fun j u hu => by obtain ⟨b,o,cells,t,cS,a2,a8,cg⟩ := bH j u hu; exact ⟨b,o,cells,t,cS,a2,nv _ _ a8,cg⟩)
 ·intro E bc f h E' _; exact .mR h
 ·intro E bc f b o N F af aj aw aV _ dO E' _; exact .mp (nv _ _ af) aj aw aV (fun i s u a b => dO i s u a b ep (fK.refl _))
 ·intro E f first cap vs us _ _ uo uq E' _; exact .fn (uo ep (fK.refl _)) (uq ep (fK.refl _))
 ·intro E t x u _ dO E' _; exact .dr (dO ep (fK.refl _))
 ·intro E e off b o xs _ af aj dO E' _
  exact .dc (dO ep (fK.refl _)) af (fun j u hu => by obtain ⟨cells,t,cS,a8,cg⟩ := aj j u hu; exact ⟨cells,t,cS,nv _ _ a8,cg⟩)
 ·intro E i u k b h af E' g; exact .own (g _ _ h) af
 ·intro E i idx off u k b h E' g; exact .ptr (g _ _ h)
 ·intro E u h E' _; exact .any h
 ·intro E E' _; exact .nil
 ·intro E x u cs vs _ _ uo uq E' g; exact .cons (uo E' g) (uq E' g)
 ·intro k; exact .nil
 ·intro k e vs es xs _ af aj _ uo uq; exact .cons (uo ep (fK.refl _)) af aj uq
theorem ca.mono {x v} (h : ca H E x v) (nv : g7 H H') (g : fK E E') : ca H' E' x v := h.ae6 nv E' g
theorem db.mono {E E' : Env} (nv : g7 H H') (g : fK E E') : ∀ {cs vs},db H E cs vs → db H' E' cs vs
 | _,_,.nil => .nil
 | _,_,.cons h t => .cons (h.mono nv g) (db.mono nv g t)
theorem eD.mono (nv : g7 H H') {k} : ∀ {es xs},eD H k es xs → eD H' k es xs
 | _,_,.nil => .nil
 | _,_,.cons h af aj t => .cons (h.mono nv (fK.refl _)) af aj (eD.mono nv t)

theorem ca.pure {x v} (h : ca H E x v) (hp : x.pure = true) (E' : Env) : ca H E' x v := by
 cases h with
 | v h => exact .v h
 | agg => cases hp
 | bR => cases hp
 | au a b c d e f g => exact .au a b c d e f g
 | mR h => exact .mR h
 | mp a b c d e => exact .mp a b c d e
 | fn a b => exact .fn a b
 | dr a => exact .dr a
 | dc a b c => exact .dc a b c
 | any h => exact .any h
 | own => cases hp
 | ptr => cases hp
theorem db.pure {E : Env} (E' : Env) : ∀ {cs vs},db H E cs vs → cs.all av.pure = true → db H E' cs vs
 | _,_,.nil,_ => .nil
 | _,_,.cons h t,hp => by simp only [List.all_cons,Bool.and_eq_true] at hp; exact .cons (h.pure hp.1 E') (db.pure E' t hp.2)

theorem ca.Fk {x v} (h : ca H E x v) (af : x.one = true) : v.oneCell' = true := by
 cases h with
 | v h => exact h
 | agg => cases af
 | bR => cases af
 | own _ h => exact h
 | any h => exact h
 | _ => rfl
theorem db.length {E} : ∀ {cs : List av} {vs : List Value},db H E cs vs → cs.length = vs.length
 | _,_,.nil => rfl
 | _,_,.cons _ t => by simp [db.length t]
theorem db.one {E} : ∀ {cs : List av} {vs : List Value},db H E cs vs → cs.all av.one = true → ∀ u ∈ vs,u.oneCell' = true
 | _,_,.nil,_ => by simp
 | _,_,.cons h t,aZ => by
  simp only [List.all_cons,Bool.and_eq_true] at aZ
  intro u hu
  rcases List.mem_cons.1 hu with rfl | hu
  ·exact h.Fk aZ.1
  ·exact db.one t aZ.2 u hu
theorem db.get {E} : ∀ {cs : List av} {vs : List Value} {i : Nat} {x : av},db H E cs vs → cs[i]? = some x → ∃ u,vs[i]? = some u ∧ ca H E x u
 | _,_,_,_,.nil,h => by simp at h
 | _,_,0,_,.cons h t,ar => by simp at ar; subst ar; exact ⟨_,rfl,h⟩
 | _,_,i + 1,_,.cons h t,ar => by simp at ar ⊢; exact db.get t ar
theorem db.append {E} : ∀ {cs cs' : List av} {vs lz : List Value},db H E cs vs → db H E cs' lz → db H E (cs ++ cs') (vs ++ lz)
 | _,_,_,_,.nil,h => h
 | _,_,_,_,.cons h t,dh => .cons h (db.append t dh)
theorem db.take {E} : ∀ {cs : List av} {vs : List Value} (n : Nat),db H E cs vs → db H E (cs.take n) (vs.take n)
 | _,_,0,_ => by simp; exact .nil
 | _,_,n + 1,.nil => by simp; exact .nil
 | _,_,n + 1,.cons h t => by simp; exact .cons h (db.take n t)
theorem db.drop {E} : ∀ {cs : List av} {vs : List Value} (n : Nat),db H E cs vs → db H E (cs.drop n) (vs.drop n)
 | _,_,0,h => by simpa using h
 | _,_,n + 1,.nil => by simp; exact .nil
 | _,_,n + 1,.cons h t => by simp; exact db.drop n t
theorem db.set {E} {x : av} {u : Value} (ar : ca H E x u) : ∀ {cs : List av} {vs : List Value} (n : Nat),db H E cs vs → db H E (cs.set n x) (vs.set n u)
 | _,_,_,.nil => by simp; exact .nil
 | _,_,0,.cons h t => by simp; exact .cons ar t
 | _,_,n + 1,.cons h t => by simp; exact .cons h (db.set ar n t)

theorem eD.length {k} : ∀ {es : List (List av)} {xs : List Value},eD H k es xs → xs.length = es.length * k
 | _,_,.nil => by simp
 | _,_,.cons h af _ t => by simp [eD.length t,af,Nat.add_mul,Nat.add_comm]
theorem eD.one {k} : ∀ {es : List (List av)} {xs : List Value},eD H k es xs → ∀ u ∈ xs,u.oneCell' = true
 | _,_,.nil => by simp
 | _,_,.cons h af aj t => by
  intro u hu
  rcases List.mem_append.1 hu with hu | hu
  ·exact h.one aj u hu
  ·exact eD.one t u hu
theorem eD.get {k} : ∀ {es : List (List av)} {xs : List Value} {i : Nat} {e : List av},eD H k es xs → es[i]? = some e →
  ∃ vs,vs.length = k ∧ db H ep e vs ∧ e.all av.one = true ∧ ∀ j u,vs[j]? = some u → xs[i * k + j]? = some u
 | _,_,_,_,.nil,h => by simp at h
 | _,_,0,_,.cons h af aj t,ar => by
  simp at ar; subst ar
  refine ⟨_,af,h,aj,fun j u hu => ?_⟩
  have := (List.getElem?_eq_some_iff.1 hu).1
  rw [List.getElem?_append_left (by omega)]; simpa using hu
 | _,_,i + 1,_,.cons (vs := anJ) h af aj t,ar => by
  simp at ar
  obtain ⟨vs,a,b,c,d⟩ := eD.get t ar
  refine ⟨vs,a,b,c,fun j u hu => ?_⟩
  rw [List.getElem?_append_right (by rw [Nat.add_mul]; omega)]
  have := d j u hu
  rw [← this]; congr 1; rw [Nat.add_mul]; omega
theorem eD.append {k} : ∀ {es DK : List (List av)} {xs UG : List Value},eD H k es xs → eD H k DK UG → eD H k (es ++ DK) (xs ++ UG)
 | _,_,_,_,.nil,h => h
 | _,_,_,_,.cons h af aj t,dh => by rw [List.append_assoc]; exact .cons h af aj (eD.append t dh)
theorem eD.take {k} : ∀ {es : List (List av)} {xs : List Value} (n : Nat),eD H k es xs → eD H k (es.take n) (xs.take (n * k))
 | _,_,0,_ => by simp; exact .nil
 | _,_,n + 1,.nil => by simp; exact .nil
 | _,_,n + 1,.cons (vs := vs) (xs := xs) h af aj t => by
  have e : (vs ++ xs).take ((n + 1) * k) = vs ++ xs.take (n * k) := by
   rw [List.take_append,af,List.take_of_length_le (by rw [Nat.add_mul]; omega)]; congr 2; rw [Nat.add_mul]; omega
  rw [e,List.take_succ_cons]
  exact .cons h af aj (eD.take n t)
theorem eD.drop {k} : ∀ {es : List (List av)} {xs : List Value} (n : Nat),eD H k es xs → eD H k (es.drop n) (xs.drop (n * k))
 | _,_,0,h => by simpa using h
 | _,_,n + 1,.nil => by simp; exact .nil
 | _,_,n + 1,.cons (vs := vs) (xs := xs) h af aj t => by
  have e : (vs ++ xs).drop ((n + 1) * k) = xs.drop (n * k) := by
   rw [List.drop_append,af,List.drop_of_length_le (by rw [Nat.add_mul]; omega),List.nil_append]; congr 1; rw [Nat.add_mul]; omega
  rw [e,List.drop_succ_cons]
  exact eD.drop n t
theorem eD.agS {k} {e : List av} {vs : List Value} (h : db H ep e vs) (aF : vs.length = k) (af : e.all av.one = true) : eD H k [e] vs := by
 have := eD.cons h aF af (eD.nil (H := H) (k := k)); simpa using this
theorem eD.set {k} {e : List av} {vs : List Value} (h : db H ep e vs) (aF : vs.length = k) (af : e.all av.one = true) :
  ∀ {es : List (List av)} {xs : List Value} (i : Nat),i < es.length → eD H k es xs → eD H k (es.set i e) (xs.take (i * k) ++ vs ++ xs.drop ((i + 1) * k))
 | es,xs,i,aq,bK => by
  have a := bK.take i
  have b := bK.drop (i + 1)
  rw [List.set_eq_take_append_cons_drop,if_pos aq]
  have := (a.append (eD.agS h aF af)).append b
  simpa using this
end

inductive bl where
 | box (t : TypeId) (cs : List av)
 | row (e : TypeId) (k : Nat) (es : List (List av))
 | map (bc : TypeId) (N : Nat) (f : Int → Option av)
 | iter (f : Int → Option av) (left : Int → Bool) (hH : Nat) (cur : Option (Int × av))
 | fS (x : av)
 | hN (e : TypeId) (cs : List av)
 | cq (J : bg → Env → Prop)
def bl.live : bl → Bool
 | .fS _ => false
 | .cq _ => false
 | _ => true

structure ak where
 T : List (Nat × av)
 O : List (Nat × bl)
 n : Nat

section
variable {α : Type}
def al : List (Nat × α) → Nat → Option α
 | [],_ => none
 | (k,x) :: l,i => if k = i then some x else al l i
def dC : List (Nat × α) → Nat → List (Nat × α)
 | [],_ => []
 | (k,x) :: l,i => if k = i then dC l i else (k,x) :: dC l i
theorem Om (l : List (Nat × α)) (i : Nat) : al (dC l i) i = none := by
 induction l with
 | nil => rfl
 | cons p l dO => obtain ⟨k,x⟩ := p; unfold dC; split; exact dO; (rename_i h; simp only [al,if_neg h]; exact dO)
theorem vh (l : List (Nat × α)) {i j : Nat} (h : i ≠ j) : al (dC l i) j = al l j := by
 induction l with
 | nil => rfl
 | cons p l dO =>
  obtain ⟨k,x⟩ := p
  unfold dC
  split
  ·rename_i aB; subst aB; rw [dO]; simp only [al,if_neg h]
  ·simp only [al,dO]
theorem lj (l : List (Nat × α)) (i j : Nat) (x : α) : al ((i,x) :: dC l i) j = if i = j then some x else al l j := by
 simp only [al]
 split
 ·rfl
 ·rename_i h; exact vh l h
def cL (o : Option α) (k : α → Prop) : Prop := match o with | some x => k x | none => False
theorem ij (x : α) (k : α → Prop) : cL (some x) k = k x := rfl
theorem bW {o : Option α} {k : α → Prop} (h : cL o k) : ∃ x,o = some x ∧ k x := by
 cases o with
 | none => exact h.elim
 | some x => exact ⟨x,rfl,h⟩
end

def ak.put (S : ak) (d : Nat) (x : av) : ak := ⟨(d,x) :: dC S.T d,S.O,S.n⟩
def ak.bX (S : ak) (d : Option Nat) (x : av) : ak := match d with | some d => S.put d x | none => S
def ak.eK (S : ak) (i : Nat) (o : bl) : ak := ⟨S.T,(i,o) :: dC S.O i,S.n⟩
def ak.fH (S : ak) (o : bl) : ak := ⟨S.T,(S.n,o) :: S.O,S.n + 1⟩

def ak.res (S : ak) : av → av
 | .v x => .v x
 | .agg cs => .agg cs
 | .bR cs => .bR cs
 | .au k g es => .au k g es
 | .mp bc f => .mp bc f
 | .fn f a b => .fn f a b
 | .dr t x => .dr t x
 | .dc e o => .dc e o
 | .any => .any
 | .own i => match al S.O i with | some (.fS x) => x | _ => .own i
 | .ptr i idx off => match al S.O i with | some (.fS (.dc e 0)) => .dc e off | _ => .ptr i idx off
def ak.bf (S : ak) : Operand → Option av
 | .tmp t => (al S.T t).map S.res
 | .const v => if v.oneCell' then some (.v v) else none
 | .func f => some (.fn (.func f) [] [])
 | .global g => (yC.lookup g).map fun vs => .dc (vs.map av.v) 0
def ak.ma (S : ak) (x : av) : Option av := let y := S.res x; if y.pure then some y else none
def ak.qF (S : ak) : List av → Option (List av)
 | [] => some []
 | x :: l => (S.ma x).bind fun y => (S.qF l).map (y :: ·)
def ak.arg (S : ak) : av → Option av
 | .agg cs => (S.qF cs).map .agg
 | .v x => some (.v x)
 | .bR _ => none
 | .au k g es => some (.au k g es)
 | .mp bc f => some (.mp bc f)
 | .fn f a b => some (.fn f a b)
 | .dr t x => some (.dr t x)
 | .dc e o => some (.dc e o)
 | .any => some .any
 | .own i => S.ma (.own i)
 | .ptr i idx off => S.ma (.ptr i idx off)
def ak.args (S : ak) : List Operand → Option (List av)
 | [] => some []
 | x :: l => ((S.bf x).bind S.arg).bind fun y => (S.args l).map (y :: ·)
def av.cells : av → List av
 | .agg cs => cs
 | .v x => [.v x]
 | .bR l => [.bR l]
 | .au k g es => [.au k g es]
 | .mp bc f => [.mp bc f]
 | .fn f a b => [.fn f a b]
 | .dr t x => [.dr t x]
 | .dc e o => [.dc e o]
 | .any => [.any]
 | .own i => [.own i]
 | .ptr i idx off => [.ptr i idx off]
def ak.at (S : ak) : av → Option (List av × Nat)
 | .ptr i idx off => match al S.O i with
  | some (.box _ cs) => some (cs,off)
  | some (.row _ _ es) => (es[idx]?).map fun e => (e,off)
  | some (.hN _ cs) => some (cs,idx + off)
  | _ => none
 | .dc e off => some (e,off)
 | _ => none
def cut (cs : List av) (off : Nat) (fZ : Option Nat) (k : av → Prop) : Prop :=
 match fZ with
 | some n => off + n ≤ cs.length ∧ k (.agg ((cs.drop off).take n))
 | none => cL cs[off]? k

inductive dX where
 | int (k : IntKind) | bool | au (k : Nat) | mp (bc : TypeId) | nilFunc | nilIface | nilPtr | Qt
def dX.hX : dX → av
 | .int k => .v (.int k 0)
 | .bool => .v (.bool false)
 | .au k => .au k 0 []
 | .mp bc => .mp bc fun _ => none
 | .nilFunc => .v .nilFunc
 | .nilIface => .v .nilIface
 | .nilPtr => .v (.pointer none)
 | .Qt => .v (.map none)
def dX.val : dX → Value
 | .int k => .int k 0
 | .bool => .bool false
 | .au _ => .slice none 0 0
 | .mp _ => .map none
 | .nilFunc => .nilFunc
 | .nilIface => .nilIface
 | .nilPtr => .pointer none
 | .Qt => .map none

inductive b4 where
 | ah (x : Operand)
 | aC (x : Operand) (fZ : Option Nat)
 | a3 (x : Operand) (off : Nat)
 | oC (x : Operand) (off : Nat) (fZ : Option Nat)
 | dU (x i : Operand) (k : Nat)
 | mi (x i : Operand) (k n : Nat)
 | dE (dz : List dX) (ps : List (Nat × Nat × Operand))
 | g2 (k : Nat) (xs : List Operand)
 | kk (k : Nat) (x : Operand) (jo aq mx : Option Operand)
 | len (x : Operand)
 | r9 (bc : TypeId) (x : Operand)
 | mj (bc : TypeId) (m key : Operand) (z : dX) (ok : Bool)
 | ext (x : Operand) (i : Nat)
 | bin (op : BinOp) (x y : Operand)
 | eqv (neg : Bool) (t : TypeId) (x y : Operand)
 | not (x : Operand)
 | lE (k : IntKind) (x : Operand)
 | call (f : FuncId) (xs : List Operand)
 | kt (x : Operand) (xs : List Operand)
 | jY (f : Fn) (first cap : List Operand)
 | ig (t : TypeId) (x : Operand)
 | pick (c a b : Operand)
 | kH (max : Bool) (x y : Operand)
 | k3 (x : Operand)
 | mm (n : Operand) (e : TypeId) (k bytes : Nat) (dz : List dX)
 | oe (t bc : TypeId)
 | app (x y : Operand) (e : TypeId) (k bytes : Nat)
 | cm (t : TypeId) (dz : List dX)
 | box (t : TypeId) (x : Operand)
 | st (k : Nat) (x y : Operand)
 | qJ (x y : Operand) (k : Nat)
 | pv (bc : TypeId) (m key x : Operand)
 | del (bc : TypeId) (m key : Operand)
 | jZ (bc : TypeId) (x : Operand)
 | oh (x : Operand)
 | qM (x : Operand)
 | gen (op : Op) (xs : List Operand)
 | tD (k : Nat) (xs : List Operand) (e : TypeId)

def cu (f : FuncId) (args : List av) (r : av) : Prop :=
 ∀ (w : World) (H : bg) (vs : List Value),Sub H w → db H ep args vs → GL Tryz.prog f vs.toArray w H (fun v : Value => v) (fun v H' => ca H' ep r v)
def WC (w : World) (H : bg) (e : TypeId) (k : Nat) (es : List (List av)) (fw : Ending) (w' : World) : Prop :=
 ∃ v xs,fw = .returned v ∧ Grow w H w' H ∧ 0 < k ∧ w'.ownsRow w.heap.size e k v es.length xs ∧ eD H k es xs ∧ (es = [] → ∃ a,v = .slice a 0 0)
def ts (f : FuncId) (args : List av) (e : TypeId) (k : Nat) (es : List (List av)) : Prop :=
 ∀ (w : World) (H : bg) (vs : List Value),Sub H w → db H ep args vs → Calls Tryz.prog f vs.toArray w (WC w H e k es)
def We (w : World) (H : bg) (bc : TypeId) (M : Nat) (f : Int → Option av) (fw : Ending) (w' : World) : Prop :=
 ∃ v,fw = .returned v ∧ Grow w H w' H ∧ ((v = .map none ∧ ∀ i,f i = none) ∨ ∃ b o F,v = .map (some b) ∧ w.heap.size ≤ b ∧ w'.heap[b]? = some o ∧ hR bc o M F ∧ M ≤ 1000000 ∧ (∀ j,f j = none ↔ F j = none) ∧ (∀ j s u,f j = some s → F j = some u → ca H ep s u))
def zY (f : FuncId) (args : List av) (bc : TypeId) (M : Nat) (g : Int → Option av) : Prop :=
 ∀ (w : World) (H : bg) (vs : List Value),Sub H w → db H ep args vs → Calls Tryz.prog f vs.toArray w (We w H bc M g)
def Enters (f : FuncId) : Prop := ∀ args w,(callFunc f args).run Tryz.prog w = .ok (.enter f args) w
def rl (op : Op) (xs : List Operand) (l : List av) (r : av) : Prop :=
 ∀ (o : Oper) (a : Act) (w : World) (H : bg),o.op = op → Sub H w → db H ep l (xs.map a.eval) → o.wp Tryz.prog a w (fun dD w' => ∃ v H',dD = a.put o.dst v ∧ Grow w H w' H' ∧ ca H' ep r v) zW
def rr (t : TypeId) (name : String) (f : FuncId) : Prop := ∀ (v : Value) (w : World),(method (Tryz.prog.types.size + Made.depth) t v name).run Tryz.prog w = .ok (f,v) w
def sA (t : TypeId) (x y : av) (b : Bool) : Prop :=
 ∀ (H : bg) (E : Env) (w : World) (l4 iD : Value) (eX eI : Operand),Sub H w → ca H E x l4 → ca H E y iD →
  ((do eqGuard .eql t eX eI l4 iD; binOp .eql t l4 iD : Sem Value)).run Tryz.prog w = .ok (.bool b) w ∧ ((do eqGuard .neq t eX eI l4 iD; binOp .neq t l4 iD : Sem Value)).run Tryz.prog w = .ok (.bool !b) w

def na (op : BinOp) (k : IntKind) (a b : Int) : Option Value :=
 match op with
 | .add => some (.int k (k.wrap (a + b)))
 | .sub => some (.int k (k.wrap (a - b)))
 | .mul => some (.int k (k.wrap (a * b)))
 | .quo => if b = 0 then none else some (.int k (k.wrap (a.tdiv b)))
 | .rem => if b = 0 then none else some (.int k (a.tmod b))
 | .eql => some (.bool (a == b))
 | .neq => some (.bool (a != b))
 | .lss => some (.bool (a < b))
 | .leq => some (.bool (a ≤ b))
 | .gtr => some (.bool (b < a))
 | .geq => some (.bool (b ≤ a))
 | _ => none

def B4 (ev : Bool) (x y : Option av) : Option av :=
 match x,y with
 | some (.v (.bool p)),some (.v (.bool q)) => some (.v (.bool (if ev = true then p else q)))
 | _,_ => if ev = true then x else y
theorem Q9 {ev : Bool} {x y : Option av} {r : av} (h : B4 ev x y = some r) : (ev = true → x = some r) ∧ (ev = false → y = some r) := by
 unfold B4 at h
 split at h
 ·cases h
  exact ⟨fun e => by rw [if_pos e],fun e => by subst e; rfl⟩
 ·split at h
  ·rename_i e; exact ⟨fun _ => h,fun e1 => by rw [e] at e1; cases e1⟩
  ·rename_i e; exact ⟨fun e1 => absurd e1 e,fun _ => h⟩
def rB (S : ak) : List av → List (Nat × Nat × Operand) → Option (List av)
 | cs,[] => some cs
 | cs,(off,jg,x) :: r => (S.bf x).bind fun s => if s.cells.length = jg ∧ off + jg ≤ cs.length ∧ s.cells.all av.one = true then rB S (cs.take off ++ s.cells ++ cs.drop (off + jg)) r else none
def ak.elems (S : ak) (k : Nat) : List Operand → Option (List (List av))
 | [] => some []
 | x :: l => ((S.bf x).bind S.arg).bind fun y => if y.cells.length = k ∧ y.cells.all av.one = true ∧ y.cells.all av.pure = true then (S.elems k l).map (y.cells :: ·) else none

def v7 (g : Nat) (jo aq : Option Operand) : Nat :=
 match aq with
 | none => if g = 1 then 1 else (match jo with | none => g | _ => 2)
 | some _ => 2
def ak.q6 (S : ak) (d : Int) : Option Operand → Option Int
 | none => some d
 | some o => (S.bf o).bind fun j => match j with | .v (.int _ n) => some n | _ => none

def cj (op : b4) (S : ak) (k : av → Prop) : Prop :=
 match op with
 | .ah x => cL (S.bf x) k
 | .aC x fZ => cL (S.bf x) fun s => cL (S.at s) fun p => cut p.1 p.2 fZ k
 | .a3 x off => cL (S.bf x) fun s => match s with
  | .ptr i idx o => k (.ptr i idx (o + off))
  | .dc e o => k (.dc e (o + off))
  | _ => False
 | .oC x off fZ => cL (S.bf x) fun s => match s with | .agg cs => cut cs off fZ k | _ => False
 | .dU x i dx => cL (S.bf x) fun s => cL (S.bf i) fun j => match s,j with
  | .au dA _ es,.v (.int _ n) => dA = dx ∧ 0 ≤ n ∧ cL es[n.toNat]? fun e => k (.dc e 0)
  | .own jn,.v (.int _ n) => (match al S.O jn with | some (.row _ dA es) => dA = dx ∧ 0 ≤ n ∧ n.toNat < es.length ∧ k (.ptr jn n.toNat 0) | some (.hN _ cs) => dx = 1 ∧ 0 ≤ n ∧ n.toNat < cs.length ∧ k (.ptr jn n.toNat 0) | _ => False)
  | _,_ => False
 | .mi x i dx N => cL (S.bf x) fun s => cL (S.bf i) fun j => match s,j with
  | .ptr jn idx o,.v (.int _ n) => 0 ≤ n ∧ n < N ∧ k (.ptr jn idx (o + n.toNat * dx))
  | .dc e o,.v (.int _ n) => 0 ≤ n ∧ n < N ∧ k (.dc e (o + n.toNat * dx))
  | _,_ => False
 | .dE dz ps => cL (rB S (dz.map dX.hX) ps) fun cs => k (.agg cs)
 | .g2 dx xs => cL (S.elems dx xs) fun es => es.length ≤ 1000000 ∧ k (.au dx 0 es)
 | .kk dA x jo aq mx => cL (S.bf x) fun s => match s with
  | .au dx full es => dx = dA ∧
   cL (S.q6 0 jo) fun l =>
   cL (S.q6 es.length aq) fun h =>
   0 ≤ l ∧ l ≤ h ∧ h ≤ es.length ∧ (match mx with
    | none => k (.au dx (v7 full jo aq) ((es.take h.toNat).drop l.toNat))
    | some o => cL (S.bf o) fun j => match j with | .v (.int _ m) => m = h ∧ aq.isSome = true ∧ k (.au dx 1 ((es.take h.toNat).drop l.toNat)) | _ => False)
  | _ => False
 | .len x => cL (S.bf x) fun s => match s with
  | .au _ _ es => k (.v (.int .i64 es.length))
  | .own i => (match al S.O i with | some (.row _ _ es) => k (.v (.int .i64 es.length)) | some (.hN _ cs) => k (.v (.int .i64 cs.length)) | _ => False)
  | _ => False
 | .mj bc m key z ok => cL (S.bf m) fun s => cL (S.bf key) fun j => match s,j with
  | .mp iz f,.v (.int .i64 n) => iz = bc ∧ -9223372036854775808 ≤ n ∧ n ≤ 9223372036854775807 ∧ k (if ok then .bR [(f n).getD z.hX,.v (.bool (f n).isSome)] else (f n).getD z.hX)
  | .own i,.v (.int .i64 n) => (match al S.O i with | some (.map iz _ f) => iz = bc ∧ -9223372036854775808 ≤ n ∧ n ≤ 9223372036854775807 ∧ k (if ok then .bR [(f n).getD z.hX,.v (.bool (f n).isSome)] else (f n).getD z.hX) | _ => False)
  | _,_ => False
 | .ext x i => cL (S.bf x) fun s => match s with | .bR cs => cL cs[i]? k | _ => False
 | .bin op x y => cL (S.bf x) fun s => cL (S.bf y) fun j => match s,j with
  | .v (.int cy a),.v (.int k2 b) => cy = k2 ∧ cL (na op cy a b) fun r => k (.v r)
  | _,_ => False
 | .eqv neg t x y => cL (S.bf x) fun s => cL (S.bf y) fun j => ∃ b,sA t s j b ∧ k (.v (.bool (if neg then !b else b)))
 | .not x => cL (S.bf x) fun s => match s with | .v (.bool b) => k (.v (.bool !b)) | _ => False
 | .lE dx x => cL (S.bf x) fun s => match s with | .v (.int _ n) => k (.v (.int dx (dx.wrap n))) | _ => False
 | .call f xs => cL (S.args xs) fun l => ∃ r,cu f l r ∧ k r
 | .kt x xs => cL (S.bf x) fun s => cL (S.args xs) fun l => match s with | .fn (.func f) first cap => Enters f ∧ ∃ r,cu f (first ++ l ++ cap) r ∧ k r | .fn (.method name) (.dr t s :: first) _ => ∃ f,rr t name f ∧ Enters f ∧ ∃ r,cu f (s :: (first ++ l)) r ∧ k r | _ => False
 | .gen op xs => cL (S.args xs) fun l => ∃ r,rl op xs l r ∧ k r
 | .jY f first cap => cL (S.args first) fun a => cL (S.args cap) fun b => k (.fn f a b)
 | .ig t x => cL ((S.bf x).bind S.arg) fun s => k (.dr t s)
 | .pick c a b => cL (S.bf c) fun s => match s with | .v (.bool ev) => cL (B4 ev (S.bf a) (S.bf b)) k | _ => False
 | .kH mx x y => cL (S.bf x) fun s => cL (S.bf y) fun j => match s,j with
  | .v (.int cy a),.v (.int k2 b) => cy = k2 ∧ k (.v (.int cy (if mx then max a b else min a b)))
  | _,_ => False
 | .k3 x => cL (S.bf x) fun s => match s with
  | .ptr i idx o => k (.ptr i idx o)
  | .dc e o => k (.dc e o)
  | .dr t y => k (.dr t y)
  | .fn (.func f) a b => k (.fn (.func f) a b)
  | _ => False
 | .mm n _ dx bytes dz => cL (S.bf n) fun s => match s with
  | .v (.int _ m) => 0 ≤ m ∧ m ≤ 1000000 ∧ m.toNat * bytes ≤ 140737488355328 ∧ k (.au dx 0 (List.replicate m.toNat (dz.map dX.hX)))
  | _ => False
 | .oe _ bc => k (.mp bc fun _ => none)
 | .app x y _ dx bytes => cL (S.bf x) fun s => cL (S.bf y) fun j => match s,j with
  | .au cy full xs,.au k2 _ ys => cy = dx ∧ k2 = dx ∧ (full = 1 ∨ (full = 0 ∧ xs = [])) ∧ (xs = [] ∨ 0 < ys.length) ∧ xs.length + ys.length ≤ 140737488355328 ∧ (xs.length + ys.length) * bytes ≤ 140737488355328 ∧ k (.au dx 0 (xs ++ ys))
  | _,_ => False
 | _ => False

def ak.nu (S : ak) (i : Nat) : ak :=
 match al S.O i with
 | some (.row _ k es) => S.eK i (.fS (.au k 0 es))
 | some (.map bc _ f) => S.eK i (.fS (.mp bc f))
 | _ => S
def ak.fm (S : ak) : List av → ak
 | [] => S
 | .own i :: l => (S.nu i).fm l
 | .v _ :: l => S.fm l
 | .agg _ :: l => S.fm l
 | .bR _ :: l => S.fm l
 | .au .. :: l => S.fm l
 | .mp .. :: l => S.fm l
 | .fn .. :: l => S.fm l
 | .dr .. :: l => S.fm l
 | .dc .. :: l => S.fm l
 | .any :: l => S.fm l
 | .ptr .. :: l => S.fm l
def ak.wM (S : ak) (i : Nat) : ak :=
 match al S.O i with
 | some (.box _ cs) => match (S.fm cs).qF cs with
  | some ys => (S.fm cs).eK i (.fS (.dc ys 0))
  | none => S.fm cs
 | _ => S
def ak.jl (S : ak) : av → ak
 | .own i => S.nu i
 | .ptr i _ _ => S.wM i
 | .agg cs => S.fm cs
 | .v _ | .bR _ | .au .. | .mp .. | .fn .. | .dr .. | .dc .. | .any => S
def ak.mc (S : ak) : List Operand → ak
 | [] => S
 | x :: l => match S.bf x with
  | some s => (S.jl s).mc l
  | none => S.mc l
def b4.fA : b4 → List Operand
 | .call _ xs | .kt _ xs | .g2 _ xs | .gen _ xs | .tD _ xs _ => xs
 | .ig _ x | .kk _ x _ _ _ | .pv _ _ _ x | .jZ _ x => [x]
 | .app _ y _ _ _ => [y]
 | .jY _ a b => a ++ b
 | .ah _ => []
 | .aC .. => []
 | .a3 .. => []
 | .oC .. => []
 | .dU .. => []
 | .mi .. => []
 | .dE .. => []
 | .len _ => []
 | .r9 .. => []
 | .mj .. => []
 | .ext .. => []
 | .bin .. => []
 | .eqv .. => []
 | .not _ => []
 | .lE .. => []
 | .pick .. => []
 | .kH .. => []
 | .k3 _ => []
 | .mm .. => []
 | .oe .. => []
 | .del .. => []
 | .oh _ => []
 | .qM _ => []
 | .st .. => []
 | .qJ .. => []
 | .cm .. => []
 | .box .. => []

inductive qz where
 | slot (t : Nat) (e : Option TypeId) (k : Nat)
 | cell (i c : Nat) (e : Option TypeId) (k : Nat)
 | any (t : Nat)
 | M0 (t c : Nat)
 | hN (i : Nat)
def vL : av → Bool
 | .v (.slice none 0 0) => true
 | .au _ 0 [] => true
 | _ => false
def ak.cast (S : ak) : qz → ak
 | .slot t e k => match al S.T t with
  | some x => if (vL x && decide (0 < k)) = true then (match e with | none => S.put t (.au k 0 []) | some e => (S.fH (.row e k [])).put t (.own S.n)) else S
  | none => S
 | .cell i c e k => match al S.O i with
  | some (.box qH cs) => match cs[c]? with
   | some x => if (vL x && decide (0 < k)) = true then (match e with | none => S.eK i (.box qH (cs.set c (.au k 0 []))) | some e => (S.fH (.row e k [])).eK i (.box qH (cs.set c (.own S.n)))) else S
   | none => S
  | _ => S
 | .any t => match al S.T t with
  | some x => if x.one = true then S.put t .any else S
  | none => S
 | .M0 t c => match al S.T t with
  | some (.agg cs) => S.put t (.agg (cs.set c .any))
  | _ => S
 | .hN i => match al S.O i with
  | some (.row e 1 (c :: es)) => S.eK i (.hN e ((c :: es).flatten))
  | _ => S
def ak.gw (S : ak) : List qz → ak
 | [] => S
 | c :: l => (S.cast c).gw l

def Dc (H : bg) (r : Nat) (ob : Obj) (f : Int → Option av) (left : Int → Bool) (hH : Nat) : Prop :=
 (∃ a s c,ob = .mapIter none a s c ∧ ∀ j,left j = false) ∨ ∃ b iZ bc M D yY F,H b = some iZ ∧ Tryz.prog.underlying bc = some (.int .i64) ∧
  (∀ w : World,w.heap[b]? = some iZ → w.heap[r]? = some ob → w.ranges Tryz.prog bc ji b r M D yY hH) ∧ rj D F ∧ (∀ j,f j = none ↔ F j = none) ∧ (∀ j s u,f j = some s → F j = some u → ca H ep s u) ∧ ∀ j,yY (.int .i64 j) = left j
def CT (H : bg) (r : Nat) (ob : Obj) (j : Int) (s : av) : Prop :=
 ∃ v,(∀ w : World,(∀ k o,H k = some o → w.heap[k]? = some o) → w.heap[r]? = some ob → (Instr.entry (.pointer (some ⟨r,0,none⟩))).run Tryz.prog w = .ok (.tuple #[.int .i64 j,v]) w) ∧ ca H ep s v
def pN (B : Nat) (H : bg) (E : Env) (w : World) (i : Nat) : bl → Prop
 | .box t cs => ∃ b vs,E i = some (.pointer (some ⟨b,0,none⟩),0,some b) ∧ B ≤ b ∧ H b = none ∧ w.heap[b]? = some (.cells vs.toArray t (0,0)) ∧ db H E cs vs ∧ cs.all av.one = true
 | .row e k es => ∃ u ob xs,E i = some (u,k,ob) ∧ 0 < k ∧ eD H k es xs ∧ ((es = [] ∧ ob = none ∧ ∃ a,u = .slice a 0 0) ∨
   ∃ g cap cur,ob = some g ∧ u = .slice (some ⟨g,0,none⟩) es.length cap ∧ B ≤ g ∧ H g = none ∧ w.heap[g]? = some (.cells cur e (0,0)) ∧ es.length ≤ cap ∧ cap ≤ maxLen ∧ (es = [] → cap = 0) ∧ cur.size = cap * k ∧ cur.toList.take (es.length * k) = xs)
 | .map bc N f => ∃ b o F,E i = some (.map (some b),0,some b) ∧ B ≤ b ∧ H b = none ∧ w.heap[b]? = some o ∧ hR bc o N F ∧ N ≤ 1000000 ∧ (∀ j,f j = none ↔ F j = none) ∧ (∀ j s u,f j = some s → F j = some u → ca H ep s u)
 | .iter f left hH cur => ∃ r ob,E i = some (.pointer (some ⟨r,0,none⟩),0,some r) ∧ B ≤ r ∧ H r = none ∧ w.heap[r]? = some ob ∧ Dc H r ob f left hH ∧ ∀ j s,cur = some (j,s) → CT H r ob j s
 | .fS x => ∃ u k b,E i = some (u,k,b) ∧ ca H ep x u ∧ x.pure = true ∧ (∀ e,x = .dc e 0 → k = 0 ∧ ∃ ha,b = some ha ∧ u = .pointer (some ⟨ha,0,none⟩))
 | .hN e cs => ∃ g cap cur,E i = some (.slice (some ⟨g,0,none⟩) cs.length cap,1,some g) ∧ B ≤ g ∧ H g = none ∧ w.heap[g]? = some (.cells cur e (0,0)) ∧ cs.length ≤ cur.size ∧ db H E cs (cur.toList.take cs.length) ∧ cs.all av.one = true
 | .cq J => (∃ p,E i = some p) ∧ J H E ∧ ∀ H1 kq hj qA,g7 H1 kq → fK hj qA → J H1 hj → J kq qA
def m4 (B : Nat) (S : ak) (E : Env) (w : World) (H : bg) : Prop := ∀ i o,al S.O i = some o → pN B H E w i o

def mQ (S : ak) (i : Nat) : Prop := ∃ o,al S.O i = some o ∧ o.live = true

structure bu (N : Nat) (w0 : World) (H0 : bg) (S : ak) (E : Env) (a : Act) (w : World) (H : bg) : Prop where
 grow : Grow w0 H0 w H
 kK : ∀ t x,al S.T t = some x → ca H E x (a.eval (.tmp t))
 ob : m4 w0.heap.size S E w H
 ap : ∀ i j,i ≠ j → mQ S i → mQ S j → ∀ b u k kL dA,E i = some (u,k,some b) → E j = some (kL,dA,some b) → False
 cS : ∀ i,S.n ≤ i → E i = none
 jg : a.tmps.size = N
 kv : a.defers = []

def fv (f : FuncId) (l : List av) (O : List (Nat × bl)) (n : Nat) (P : (bg → Env → Prop) → av → List (Nat × bl) → Nat → Prop) : Prop :=
 ∀ (J : bg → Env → Prop) (N : Nat) (w0 : World) (H0 : bg) (E : Env) (a : Act) (w : World) (H : bg) (vs : List Value),bu N w0 H0 ⟨[],(n,.cq J) :: O,n + 1⟩ E a w H → db H E l vs →
  Calls Tryz.prog f vs.toArray w fun e w' => ∃ v r O' bI E' H',e = .returned v ∧ P J r O' bI ∧ al O' n = some (.cq J) ∧ bu N w0 H0 ⟨[],O',bI⟩ E' a w' H' ∧ ca H' E' r v
def ak.kj (S : ak) : List Operand → Option (List av)
 | [] => some []
 | x :: l => (S.bf x).bind fun y => (S.kj l).map (y :: ·)
def aaA (f : FuncId) (xs : List Operand) (S : ak) (d : Option Nat) (K : ak → Prop) : Prop :=
 ∃ l P,S.kj xs = some l ∧ fv f l S.O S.n P ∧ ∀ J r O' bI,P J r O' bI → K (ak.bX ⟨S.T,dC O' S.n,bI⟩ d r)
def DL (f : FuncId) (xs : List Operand) (S : ak) (d : Option Nat) (K : ak → Prop) : Prop :=
 (cj (.call f xs) S fun s => K (S.bX d s)) ∨ cL (S.args xs) fun l => (∃ e k es,ts f l e k es ∧ K ((S.fH (.row e k es)).bX d (.own S.n))) ∨ ∃ bc M g,zY f l bc M g ∧ K ((S.fH (.map bc M g)).bX d (.own S.n)) ∧ ((∀ i,g i = none) → K (S.bX d (.v (.map none))))
def ND (f : FuncId) (xs : List Operand) (S0 : ak) (d : Option Nat) (K : ak → Prop) : Prop := (∃ cs,DL f xs ((S0.gw cs).mc xs) d K) ∨ aaA f xs S0 d K

def callee (s : av) (l0 : List av) (f : FuncId) (l : List av) : Prop :=
 (∃ first cap,s = .fn (.func f) first cap ∧ Enters f ∧ l = first ++ l0 ++ cap) ∨ ∃ name t lv first cap,s = .fn (.method name) (.dr t lv :: first) cap ∧ rr t name f ∧ Enters f ∧ l = lv :: (first ++ l0)
def NF (x : Operand) (xs : List Operand) (S : ak) (d : Option Nat) (K : ak → Prop) : Prop :=
 ∃ s l0 f l P,S.bf x = some s ∧ S.kj xs = some l0 ∧ callee s l0 f l ∧ fv f l S.O S.n P ∧ ∀ J r O' bI,P J r O' bI → K (ak.bX ⟨S.T,dC O' S.n,bI⟩ d r)
def NK (op : Op) (xs : List Operand) (S : ak) (d : Option Nat) (K : ak → Prop) : Prop :=
 ∃ x name args hE t lv l0 f P,op = .call ⟨.invoke x name,args,hE⟩ ∧ xs = x :: args.toList ∧ S.bf x = some (.dr t lv) ∧ S.kj args.toList = some l0 ∧ rr t name f ∧ Enters f ∧ fv f (lv :: l0) S.O S.n P ∧ ∀ J r O' bI,P J r O' bI → K (ak.bX ⟨S.T,dC O' S.n,bI⟩ d r)
def fx (d : Option Nat) (op : b4) (S0 : ak) (K : ak → Prop) : Prop :=
 let S := S0.mc op.fA
 match op with
 | .cm t dz => K ((S.fH (.box t (dz.map dX.hX))).bX d (.ptr S.n 0 0))
 | .box t x => cL (S.bf x) fun s => s.cells.all av.one = true ∧ K ((S.fH (.box t s.cells)).bX d (.ptr S.n 0 0))
 | .st k x y => d = none ∧ cL (S.bf x) fun s => cL (S.bf y) fun v => match s with
  | .ptr i idx off => (match al S.O i with
   | some (.box t cs) => v.cells.length = k ∧ v.cells.all av.one = true ∧ off + k ≤ cs.length ∧ K (S.eK i (.box t (cs.take off ++ v.cells ++ cs.drop (off + k))))
   | some (.row _ _ _) => cL ((S.jl v).arg v) fun gY => gY.cells.length = k ∧ gY.cells.all av.one = true ∧ gY.cells.all av.pure = true ∧
     (match al (S.jl v).O i with
      | some (.row e dx es) => cL es[idx]? fun c => off + k ≤ c.length ∧ K ((S.jl v).eK i (.row e dx (es.set idx (c.take off ++ gY.cells ++ c.drop (off + k)))))
      | _ => False)
   | some (.hN e cs) => k = 1 ∧ v.one = true ∧ idx + off < cs.length ∧ K (S.eK i (.hN e (cs.set (idx + off) v)))
   | _ => False)
  | _ => False
 | .mm n e dx bytes dz => cL (S.bf n) fun s => match s with
  | .v (.int _ m) => 0 ≤ m ∧ m ≤ 1000000 ∧ m.toNat * bytes ≤ 140737488355328 ∧ K ((S.fH (.row e dx (List.replicate m.toNat (dz.map dX.hX)))).bX d (.own S.n))
  | _ => False
 | .oe _ bc => K ((S.fH (.map bc 0 fun _ => none)).bX d (.own S.n))
 | .app x y e dx bytes => cL (S.bf x) fun s => cL (S.bf y) fun v => match s,v with
  | .own i,.au k2 _ ys => (match al S.O i with
   | some (.row e1 cy es) => e1 = e ∧ cy = dx ∧ k2 = dx ∧ es.length + ys.length ≤ 140737488355328 ∧ (es.length + ys.length) * bytes ≤ 140737488355328 ∧
     K ((ak.fH ⟨S.T,dC S.O i,S.n⟩ (.row e dx (es ++ ys))).bX d (.own S.n))
   | _ => False)
  | .au cy full es,.au k2 _ ys => cy = dx ∧ k2 = dx ∧ (full = 1 ∨ (full = 0 ∧ es = [])) ∧ (es = [] ∨ 0 < ys.length) ∧ es.length + ys.length ≤ 140737488355328 ∧ (es.length + ys.length) * bytes ≤ 140737488355328 ∧ K ((S.fH (.row e dx (es ++ ys))).bX d (.own S.n))
  | _,_ => False
 | .qJ x y dx => cL (S.bf x) fun s => cL (S.bf y) fun v => match s,v with
  | .own i,.au k2 _ ys => (match al S.O i with
   | some (.row e cy es) => cy = dx ∧ k2 = dx ∧ K ((S.eK i (.row e dx (ys.take es.length ++ es.drop ys.length))).bX d (.v (.int .i64 (min ys.length es.length : Nat))))
   | _ => False)
  | _,_ => False
 | .pv bc m key x => d = none ∧ cL (S.bf m) fun s => cL (S.bf key) fun j => cL ((S.bf x).bind S.ma) fun v => match s,j with
  | .own i,.v (.int .i64 n) => (match al S.O i with
   | some (.map iz N f) => iz = bc ∧ N < 1000000 ∧ -9223372036854775808 ≤ n ∧ n ≤ 9223372036854775807 ∧ (K (S.eK i (.map bc (N + 1) fun j => if j = n then some v else f j)) ∨ ∃ M : Nat,(M ≤ 1000000 ∧ ∀ j,(if j = n then some v else f j) ≠ none → 0 ≤ j ∧ j < (M : Int)) ∧ K (S.eK i (.map bc M fun j => if j = n then some v else f j)))
   | _ => False)
  | _,_ => False
 | .call f xs => DL f xs S d K ∨ ND f xs S0 d K
 | .del bc m key => cL (S.bf m) fun s => cL (S.bf key) fun j => match s,j with
  | .own i,.v (.int .i64 n) => (match al S.O i with
   | some (.map iz M f) => iz = bc ∧ -9223372036854775808 ≤ n ∧ n ≤ 9223372036854775807 ∧ K ((S.eK i (.map bc M fun j => if j = n then none else f j)).bX d (.bR []))
   | _ => False)
  | .v (.map none),.v (.int .i64 n) => -9223372036854775808 ≤ n ∧ n ≤ 9223372036854775807 ∧ K (S.bX d (.bR []))
  | _,_ => False
 | .jZ bc x => cL (S.bf x) fun s => match s with
  | .mp iz f => iz = bc ∧ ∀ hH,K ((S.fH (.iter f (fun i => (f i).isSome) hH none)).bX d (.own S.n))
  | _ => False
 | .oh x => cL (S.bf x) fun s => match s with
  | .own i => (match al S.O i with
   | some (.iter f left hH _) => ((∀ j,left j = false) → K (S.bX d (.bR [.v (.bool false)]))) ∧
     (∀ j s tE,left j = true → f j = some s → -9223372036854775808 ≤ j → j ≤ 9223372036854775807 → tE < hH → K ((S.eK i (.iter f (fun z => left z && z != j) tE (some (j,s)))).bX d (.bR [.v (.bool true),.v (.int .i64 j),s])))
   | _ => False)
  | _ => False
 | .qM x => cL (S.bf x) fun s => match s with
  | .own i => (match al S.O i with
   | some (.iter _ _ _ (some (j,s))) => K (S.bX d (.bR [.v (.int .i64 j),s]))
   | _ => False)
  | _ => False
 | .ah x => cj (.ah x) S fun s => K (S.bX d s)
 | .aC x fZ => cj (.aC x fZ) S fun s => K (S.bX d s)
 | .a3 x o => cj (.a3 x o) S fun s => K (S.bX d s)
 | .oC x o fZ => cj (.oC x o fZ) S fun s => K (S.bX d s)
 | .dU x i k => cj (.dU x i k) S fun s => K (S.bX d s)
 | .mi x i k n => cj (.mi x i k n) S fun s => K (S.bX d s)
 | .dE dz ps => cj (.dE dz ps) S fun s => K (S.bX d s)
 | .g2 k xs => cj (.g2 k xs) S fun s => K (S.bX d s)
 | .tD k xs e => cL (S.elems k xs) fun es => es.length ≤ 1000000 ∧ K ((S.fH (.row e k es)).bX d (.own S.n))
 | .kk k x jo aq mx => cj (.kk k x jo aq mx) S fun s => K (S.bX d s)
 | .len x => cj (.len x) S fun s => K (S.bX d s)
 | .r9 bc x => cL (S.bf x) fun s => match s with
  | .mp iz f => iz = bc ∧ ((∀ i,f i = none) → K (S.bX d (.v (.int .i64 0)))) ∧ ∀ n : Nat,0 < n → (∃ i,f i ≠ none) → K (S.bX d (.v (.int .i64 n)))
  | .own i => (match al S.O i with | some (.map iz _ f) => iz = bc ∧ ∀ n : Nat,(∃ l : List Int,l.Nodup ∧ l.length = n ∧ ∀ j,f j ≠ none ↔ j ∈ l) → K (S.bX d (.v (.int .i64 n))) | _ => False)
  | _ => False
 | .mj bc m key z ok => cj (.mj bc m key z ok) S fun s => K (S.bX d s)
 | .ext x i => cj (.ext x i) S fun s => K (S.bX d s)
 | .bin op x y => cj (.bin op x y) S fun s => K (S.bX d s)
 | .eqv b t x y => (cj (.eqv b t x y) S fun s => K (S.bX d s)) ∨ cL (S.bf x) fun s => cL (S.bf y) fun j => match s,j with
  | .own i,.v (.map none) => (match al S.O i with | some (.map _ _ _) => (∃ bc e,Tryz.prog.underlying t = some (.map bc e)) ∧ K (S.bX d (.v (.bool b))) | _ => False)
  | _,_ => False
 | .not x => cj (.not x) S fun s => K (S.bX d s)
 | .lE k x => cj (.lE k x) S fun s => K (S.bX d s)
 | .kt x xs => (cj (.kt x xs) S fun s => K (S.bX d s)) ∨ NF x xs S0 d K
 | .gen op xs => (cj (.gen op xs) S fun s => K (S.bX d s)) ∨ NK op xs S0 d K
 | .jY f a b => cj (.jY f a b) S fun s => K (S.bX d s)
 | .ig t x => cj (.ig t x) S fun s => K (S.bX d s)
 | .pick c x y => cj (.pick c x y) S fun s => K (S.bX d s)
 | .kH b x y => cj (.kH b x y) S fun s => K (S.bX d s)
 | .k3 x => cj (.k3 x) S fun s => K (S.bX d s)

structure cl where
 d : Option Nat
 g : Option (Nat × Bool)
 op : b4
def ak.lF (S : ak) (d : Option Nat) : ak := match d with | some d => ⟨dC S.T d,S.O,S.n⟩ | none => S
def jT (o : cl) (S : ak) (K : ak → Prop) : Prop :=
 match o.g with
 | none => fx o.d o.op S K
 | some (t,b) => cL (S.bf (.tmp t)) fun s => match s with
  | .v (.bool ev) => (ev = b → fx o.d o.op S K) ∧ (ev = !b → K (S.bX o.d (.bR [])))
  | .bR [] => K (S.bX o.d (.bR []))
  | _ => False
def h0 : List cl → ak → (ak → Prop) → Prop
 | [],S,K => K S
 | o :: l,S,K => jT o S fun S' => h0 l S' K

def gX (S : ak) : b4 → Option (Option (TypeId × List av))
 | .cm t dz => some (some (t,dz.map dX.hX))
 | .box t x => some ((S.bf x).bind fun s => if s.cells.all av.one = true then some (t,s.cells) else none)
 | .ah _ => none
 | .aC .. => none
 | .a3 .. => none
 | .oC .. => none
 | .dU .. => none
 | .mi .. => none
 | .dE .. => none
 | .g2 .. => none
 | .tD .. => none
 | .kk .. => none
 | .len _ => none
 | .r9 .. => none
 | .mj .. => none
 | .ext .. => none
 | .bin .. => none
 | .eqv .. => none
 | .not _ => none
 | .lE .. => none
 | .call .. => none
 | .kt .. => none
 | .gen .. => none
 | .jY .. => none
 | .ig .. => none
 | .pick .. => none
 | .kH .. => none
 | .k3 _ => none
 | .mm .. => none
 | .oe .. => none
 | .app .. => none
 | .st .. => none
 | .qJ .. => none
 | .pv .. => none
 | .del .. => none
 | .jZ .. => none
 | .oh _ => none
 | .qM _ => none
def gW : b4 → Option (Operand × Operand × TypeId × Nat × Nat)
 | .cm .. => none
 | .box .. => none
 | .ah _ => none
 | .aC .. => none
 | .a3 .. => none
 | .oC .. => none
 | .dU .. => none
 | .mi .. => none
 | .dE .. => none
 | .g2 .. => none
 | .tD .. => none
 | .kk .. => none
 | .len _ => none
 | .r9 .. => none
 | .mj .. => none
 | .ext .. => none
 | .bin .. => none
 | .eqv .. => none
 | .not _ => none
 | .lE .. => none
 | .call .. => none
 | .kt .. => none
 | .gen .. => none
 | .jY .. => none
 | .ig .. => none
 | .pick .. => none
 | .kH .. => none
 | .k3 _ => none
 | .mm .. => none
 | .oe .. => none
 | .app x y e dx bytes => some (x,y,e,dx,bytes)
 | .st .. => none
 | .qJ .. => none
 | .pv .. => none
 | .del .. => none
 | .jZ .. => none
 | .oh _ => none
 | .qM _ => none
def KH (S : ak) (q : Operand × Operand × TypeId × Nat × Nat) (k : List (List av) → Prop) : Prop :=
 cL (S.bf q.1) fun s => cL (S.bf q.2.1) fun v => match s,v with
  | .au cy 0 [],.au k2 _ ys => cy = q.2.2.2.1 ∧ k2 = q.2.2.2.1 ∧ ys.length ≤ 140737488355328 ∧ ys.length * q.2.2.2.2 ≤ 140737488355328 ∧ k ys
  | _,_ => False
def iv : List cl → ak → ak → List TypeId → (ak → Prop) → Prop
 | [],_,F,_,K => K F
 | o :: l,S,F,cB,K =>
  match o.g with
  | none => (match gX S o.op with
   | some p => cL p fun p => cB.contains p.1 = false ∧ iv l (S.lF o.d) ((F.fH (.box p.1 p.2)).bX o.d (.ptr F.n 0 0)) (p.1 :: cB) K
   | none => (match gW o.op with
    | some q => (cj o.op S fun s => iv l (S.bX o.d s) (F.bX o.d s) cB K) ∨ KH S q fun es => cB.contains q.2.2.1 = false ∧ iv l (S.lF o.d) ((F.fH (.row q.2.2.1 q.2.2.2.1 es)).bX o.d (.own F.n)) (q.2.2.1 :: cB) K
    | none => cj o.op S fun s => iv l (S.bX o.d s) (F.bX o.d s) cB K))
  | some (t,b) => cL (S.bf (.tmp t)) fun s => match s with
   | .v (.bool ev) => (ev = b → cj o.op S fun s => iv l (S.bX o.d s) (F.bX o.d s) cB K) ∧ (ev = !b → iv l (S.lF o.d) (F.lF o.d) cB K)
   | _ => False

def ak.nt (S : ak) : List av → ak
 | [] => S
 | x :: l => (S.jl x).nt l

inductive m3 where
 | leaf
 | b1 (i : Nat) (t : m3)
 | step (i : Nat) (t : m3)
 | alt (a b : m3)
def ns : m3 → List cl → ak → (ak → Prop) → Prop
 | .leaf,_,S,K => K S
 | .b1 i t,l,S,K => cL l[i]? fun o => jT o S fun S' => ns t l S' K
 | .step i t,l,S,K => cL l[i]? fun o => jT o S fun S' => ns t l S' K
 | .alt a b,l,S,K => ns a l S K ∧ ns b l S K
def vE (i : Nat) (o : bl) : List (Nat × bl) → List (Nat × bl)
 | [] => [(i,o)]
 | (j,p) :: l => if i ≤ j then (i,o) :: (j,p) :: l else (j,p) :: vE i o l
def je : List (Nat × bl) → List (Nat × bl)
 | [] => []
 | (i,o) :: l => vE i o (je l)
def ak.sorted (S : ak) : ak := ⟨S.T,je S.O,S.n⟩

inductive bU where
 | skip
 | ops (l : List cl)
 | hc (n : Nat) (l : List cl)
 | ord (t : m3) (l : List cl)
 | np (wt : List (List Nat)) (l : List cl)
 | seq (a b : bU)
 | cond (c : Operand) (a b : bU)
 | block (id : Nat) (a : bU)
 | loop (a : bU)
 | exit (id : Nat)
 | ret
inductive pI where
 | next
 | exit (id : Nat)
 | ret

def en {α : Type} (l : List (Nat × α)) : List Nat → List (Nat × α)
 | [] => []
 | k :: eo => match al l k with
  | some x => (k,x) :: en l eo
  | none => en l eo
def nd (ids : List Nat) : av → Bool
 | .own i => ids.contains i
 | .ptr i _ _ => ids.contains i
 | .agg _ | .bR _ => false
 | .v _ | .au .. | .mp .. | .fn .. | .dr .. | .dc .. | .any => true
def sj (ids : List Nat) : List av → Bool
 | [] => true
 | x :: l => nd ids x && sj ids l
def mU (ids : List Nat) : av → Bool
 | .agg cs => sj ids cs
 | .own i => ids.contains i
 | .ptr i _ _ => ids.contains i
 | .bR _ => false
 | .v _ | .au .. | .mp .. | .fn .. | .dr .. | .dc .. | .any => true
def xL (ids : List Nat) : List (Nat × av) → Bool
 | [] => true
 | p :: l => mU ids p.2 && xL ids l
def hW (ids : List Nat) : List (Nat × bl) → Bool
 | [] => true
 | (_,.box _ cs) :: l => sj ids cs && hW ids l
 | (_,.row ..) :: l => hW ids l
 | (_,.map ..) :: l => hW ids l
 | (_,.iter ..) :: l => hW ids l
 | (_,.fS _) :: l => hW ids l
 | (_,.hN _ cs) :: l => sj ids cs && hW ids l
 | (_,.cq _) :: _ => false
def nD : List Nat → Nat → Nat
 | [],_ => 0
 | k :: l,i => if k = i then 0 else nD l i + 1
def jL (ids : List Nat) : av → av
 | .own i => .own (nD ids i)
 | .ptr i a b => .ptr (nD ids i) a b
 | .v x => .v x
 | .agg cs => .agg cs
 | .bR cs => .bR cs
 | .au k g es => .au k g es
 | .mp bc f => .mp bc f
 | .fn f a b => .fn f a b
 | .dr t x => .dr t x
 | .dc e o => .dc e o
 | .any => .any
def mV (ids : List Nat) : av → av
 | .agg cs => .agg (cs.map (jL ids))
 | .own i => .own (nD ids i)
 | .ptr i a b => .ptr (nD ids i) a b
 | .v x => .v x
 | .bR cs => .bR cs
 | .au k g es => .au k g es
 | .mp bc f => .mp bc f
 | .fn f a b => .fn f a b
 | .dr t x => .dr t x
 | .dc e o => .dc e o
 | .any => .any
def vU (ids : List Nat) : List (Nat × av) → List (Nat × av)
 | [] => []
 | (t,x) :: l => (t,mV ids x) :: vU ids l
def sl (ids : List Nat) : bl → bl
 | .box t cs => .box t (cs.map (jL ids))
 | .row e k es => .row e k es
 | .map bc n f => .map bc n f
 | .iter f left hH cur => .iter f left hH cur
 | .fS x => .fS x
 | .hN e cs => .hN e (cs.map (jL ids))
 | .cq J => .cq J
def vT (ids : List Nat) : List (Nat × bl) → List (Nat × bl)
 | [] => []
 | (i,o) :: l => (nD ids i,sl ids o) :: vT ids l
def ak.eH (S : ak) : Option (List Nat × Option (List Nat × Nat)) → ak
 | none => S
 | some (eo,none) => ⟨en S.T eo,S.O,S.n⟩
 | some (eo,some (ids,n)) => if (xL ids (en S.T eo) && (hW ids (en S.O ids) && decide (ids.length ≤ n))) = true then ⟨vU ids (en S.T eo),vT ids (en S.O ids),n⟩ else ⟨en S.T eo,S.O,S.n⟩

def q8 (wt : List (List Nat)) (done : List Nat) (i : Nat) : Bool := !done.contains i && (match wt[i]? with | some l => l.all done.contains | none => false)
def od (i b : Nat) : bg → Env → Prop := fun _ E => E i = some (.pointer (some ⟨b,0,none⟩),0,some b)
inductive qE where
 | vV (i : Nat)
 | raw (t g : Nat)
 | wa (t g : Nat)
def oA : List qE → ak → (ak → Prop) → Prop
 | [],S,K => K S
 | .vV i :: rs,S,K => (∃ t cs,al S.O i = some (.box t cs)) ∧ ∀ b,oA rs (S.fH (.cq (od i b))) K
 | .raw t g :: rs,S,K => ∃ i b off,al S.O g = some (.cq (od i b)) ∧ al S.T t = some (.v (.pointer (some ⟨b,off,none⟩))) ∧ oA rs (S.put t (.ptr i 0 off)) K
 | .wa t g :: rs,S,K => ∃ i b off,al S.O g = some (.cq (od i b)) ∧ al S.T t = some (.ptr i 0 off) ∧ oA rs (S.put t (.v (.pointer (some ⟨b,off,none⟩)))) K
def sP : List (Nat × List qE) → List cl → ak → (ak → Prop) → Prop
 | [],l,S,K => h0 l S K
 | (n,rs) :: sp,l,S,K => h0 (l.take n) S fun b0 => oA rs b0 fun gh => sP sp (l.drop n) gh K
def hd : bU → ak → (pI → ak → Prop) → Prop
 | .skip,S,K => K .next S
 | .ops l,S,K => ∃ sp cs,sP sp l (S.gw cs) (K .next)
 | .hc n l,S,K => ∃ gs cs,iv (l.take n) ((S.gw cs).nt gs) ((S.gw cs).nt gs) [] fun S' => h0 (l.drop n) S' (K .next)
 | .ord t l,S,K => ∃ cs b0,ns t l (S.gw cs) (fun S' => ∃ hf,(S'.eH hf).sorted = b0) ∧ K .next b0
 | .np wt l,S,K => ∃ (cs : List qz) (I : List Nat → ak → Prop),I [] (S.gw cs) ∧ (∀ done S' i,I done S' → q8 wt done i = true → cL l[i]? fun g => jT g S' fun gh => I (i :: done) gh) ∧ ∀ done S',I done S' → (∀ i,i < wt.length → done.contains i = true) → ∃ hf,K .next ((S'.eH hf).sorted)
 | .seq a b,S,K => hd a S fun e S' => match e with | .next => ∃ eo,hd b (S'.eH eo) K | .ret => K .ret S' | .exit i => K (.exit i) S'
 | .cond c a b,S,K => cL (S.bf c) fun s => match s with | .v (.bool t) => (t = true → hd a S K) ∧ (t = false → hd b S K) | _ => False
 | .block id a,S,K => hd a S fun e S' => match e with | .exit j => if j = id then K .next S' else K (.exit j) S' | .next => K .next S' | .ret => K .ret S'
 | .loop a,S,K => ∃ (I : Nat → ak → Prop) (m : Nat) (hf : Option (List Nat × Option (List Nat × Nat))) (cs : List qz),I m ((S.gw cs).eH hf) ∧ ∀ k b0,I k b0 → hd a b0 fun e S' => match e with | .next => ∃ dA hf,dA < k ∧ I dA (S'.eH hf) | .ret => K .ret S' | .exit i => K (.exit i) S'
 | .exit id,S,K => K (.exit id) S
 | .ret,S,K => K .ret S

inductive b3 where
 | tmp (t : Nat)
 | eh (t : Nat) (fZ : Option Nat)
def ak.xN (S : ak) : b3 → Option av
 | .tmp t => S.bf (.tmp t)
 | .eh t fZ => (S.bf (.tmp t)).bind fun p => (S.at p).bind fun q => match fZ with
  | some n => if q.2 + n ≤ q.1.length then some (.agg ((q.1.drop q.2).take n)) else none
  | none => q.1[q.2]?
def ak.jU (S : ak) : List b3 → ak
 | [] => S
 | r :: l => match S.xN r with
  | some x => (S.jl x).jU l
  | none => S.jU l
def ak.oX (S : ak) : List b3 → Option (List av)
 | [] => some []
 | r :: l => ((S.xN r).bind S.arg).bind fun y => (S.oX l).map (y :: ·)
def q9 : List av → av
 | [x] => x
 | l => .bR l
def o8 : Nat → List av → List (Nat × av)
 | _,[] => []
 | i,x :: l => (i,x) :: o8 (i + 1) l
def fin (ew : List b3) (r : av) (e : pI) (S : ak) : Prop :=
 match e with
 | .exit _ => False
 | _ => cL ((S.jU ew).oX ew) fun l => q9 l = r
def Di (hV r : av) : Prop := ∀ (H : bg) (v : Value),ca H ep hV v → ca H ep r v
def yy (ew : List b3) (r : av) (e : pI) (S : ak) : Prop :=
 match e with
 | .exit _ => False
 | _ => cL ((S.jU ew).oX ew) fun l => Di (q9 l) r
def wK (ew : List b3) (n : Nat) (J : bg → Env → Prop) (P : (bg → Env → Prop) → av → List (Nat × bl) → Nat → Prop) (e : pI) (S : ak) : Prop :=
 match e with
 | .exit _ => False
 | _ => cL ((S.jU ew).oX ew) fun l => al (S.jU ew).O n = some (.cq J) ∧ P J (q9 l) (S.jU ew).O (S.jU ew).n
def DM (g5 : bU) (ew : List b3) (args : List av) (r : av) : Prop := hd g5 ⟨o8 0 args,[],0⟩ (yy ew r)
def bJ (g5 : bU) (ew : List b3) (args : List av) (r : av) : Prop := hd g5 ⟨o8 0 args,[],0⟩ (fin ew r)
def ab (d:Nat) (x:b4):cl:=⟨some d,none,x⟩
def aR (x:b4):cl:=⟨none,none,x⟩
def a9 (d t:Nat) (b:Bool) (x:b4):cl:=⟨some d,some (t,b),x⟩
def aa (n:Nat):Operand:=.tmp n
def aA (n:Int):Operand:=.const (.int .i64 n)
def a6 (b:Bool):Operand:=.const (.bool b)
end Go.Proofs.YtkmbcjnaaokilaaGreatDoor
namespace Go.Proofs.YtkmbcjnaaokilaaGreatDoor
set_option linter.unusedSimpArgs false
set_option linter.unusedVariables false
open Go.RowKit Go.Maps

theorem Dc.le {H H' : bg} (g : g7 H H') {r : Nat} {ob : Obj} {f left hH} (h : Dc H r ob f left hH) : Dc H' r ob f left hH := by
 rcases h with h | ⟨b,iZ,bc,M,D,yY,F,af,aj,aw,aV,bF,bH,cA⟩
 ·exact .inl h
 ·exact .inr ⟨b,iZ,bc,M,D,yY,F,g _ _ af,aj,aw,aV,bF,fun j s u a b => (bH j s u a b).mono g (fK.refl _),cA⟩
theorem CT.le {H H' : bg} (g : g7 H H') {r : Nat} {ob : Obj} {j s} (h : CT H r ob j s) : CT H' r ob j s := by
 obtain ⟨v,af,aj⟩ := h
 exact ⟨v,fun w ao ax => af w (fun i o ay => ao i o (g _ _ ay)) ax,aj.mono g (fK.refl _)⟩
theorem pN.grow {B H E w i o w' H'} (h : pN B H E w i o) (g : Grow w H w' H') (ao : Sub H w) : pN B H' E w' i o := by
 have hle := g.le ao
 cases o with
 | box t cs =>
  obtain ⟨b,vs,af,aj,aw,aV,bF,bH⟩ := h
  have bN := (Array.getElem?_eq_some_iff.1 aV).1
  exact ⟨b,vs,af,aj,(g.old b bN).trans aw,(g.below.block b bN).trans aV,bF.mono hle (fK.refl _),bH⟩
 | row e k es =>
  obtain ⟨u,ob,xs,af,aB,aj,aw⟩ := h
  refine ⟨u,ob,xs,af,aB,aj.mono hle,aw.imp id ?_⟩
  rintro ⟨j6,cap,cur,bE,bP,cK,a4,fY,ho⟩
  have bN := (Array.getElem?_eq_some_iff.1 fY).1
  exact ⟨j6,cap,cur,bE,bP,cK,(g.old _ bN).trans a4,(g.below.block _ bN).trans fY,ho⟩
 | map bc N f =>
  obtain ⟨b,o,F,af,aj,aw,aV,bF,bH,cA,dY⟩ := h
  have bN := (Array.getElem?_eq_some_iff.1 aV).1
  exact ⟨b,o,F,af,aj,(g.old b bN).trans aw,(g.below.block b bN).trans aV,bF,bH,cA,fun j s u a b => (dY j s u a b).mono hle (fK.refl _)⟩
 | iter f left hH cur =>
  obtain ⟨r,ob,af,aj,aw,aV,bF,bH⟩ := h
  have bN := (Array.getElem?_eq_some_iff.1 aV).1
  exact ⟨r,ob,af,aj,(g.old r bN).trans aw,(g.below.block r bN).trans aV,bF.le hle,fun j s e => (bH j s e).le hle⟩
 | fS x =>
  obtain ⟨u,k,b,af,aj,aw,aV⟩ := h
  exact ⟨u,k,b,af,aj.mono hle (fK.refl _),aw,aV⟩
 | hN e cs =>
  obtain ⟨b,cap,cur,af,aj,aw,aV,bF,bH,cA⟩ := h
  have bN := (Array.getElem?_eq_some_iff.1 aV).1
  exact ⟨b,cap,cur,af,aj,(g.old b bN).trans aw,(g.below.block b bN).trans aV,bF,bH.mono hle (fK.refl _),cA⟩
 | cq J => exact ⟨h.1,h.2.2 _ _ _ _ hle (fK.refl _) h.2.1,h.2.2⟩
theorem m4.grow {B S E w H w' H'} (h : m4 B S E w H) (g : Grow w H w' H') (ao : Sub H w) : m4 B S E w' H' := fun i o ay => (h i o ay).grow g ao

section
variable {B : Nat} {S : ak} {E : Env} {w : World} {H : bg}

theorem KE (cX : m4 B S E w H) {x u} (h : ca H E x u) : ca H E (S.res x) u := by
 cases h with
 | own h af =>
  rename_i i k b
  show ca H E (match al S.O i with | some (.fS x) => x | _ => .own i) u
  split
  ·rename_i y aH
   obtain ⟨kL,dA,fO,a2,a8,_⟩ := cX _ _ aH
   rw [h] at a2; cases a2
   exact a8.mono (fun _ _ h => h) (lB _)
  ·exact .own h af
 | ptr h =>
  rename_i i idx off kL k b
  show ca H E (match al S.O i with | some (.fS (.dc e 0)) => .dc e off | _ => .ptr i idx off) _
  split
  ·rename_i e aH
   obtain ⟨iD,dA,fO,a2,a8,_,e7⟩ := cX _ _ aH
   rw [h] at a2; cases a2
   obtain ⟨rfl,ha,aJ,rfl⟩ := e7 e rfl
   cases aJ
   generalize aS : (Value.pointer (some ⟨b,0,none⟩)) = q at a8
   cases a8 with
   | dc bE bP cK =>
    rename_i ev o xs
    simp only [Nat.add_zero,Value.pointer.injEq,Option.some.injEq,Addr.mk.injEq,and_true] at aS
    obtain ⟨rfl,rfl⟩ := aS
    have := ca.dc (E := E) (off := off) bE bP cK
    simpa using this
  ·exact .ptr h
 | v h => exact .v h
 | agg a b => exact .agg a b
 | bR a => exact .bR a
 | au a b c d e f g => exact .au a b c d e f g
 | mR h => exact .mR h
 | mp a b c d e => exact .mp a b c d e
 | fn a b => exact .fn a b
 | dr a => exact .dr a
 | dc a b c => exact .dc a b c
 | any a => exact .any a

def ow (S : ak) (E : Env) (H : bg) (a : Act) (xs : List Operand) : Prop := ∀ x ∈ xs,∀ y,S.bf x = some y → ca H E y (a.eval x)
theorem ow.get {a : Act} {xs : List Operand} (h : ow S E H a xs) {x : Operand} {y : av} (ar : x ∈ xs) (a1 : S.bf x = some y) : ca H E y (a.eval x) := h x ar y a1
theorem P7 {α : Type} {g : Nat} {x : α} : ∀ {l : List (Nat × α)},l.lookup g = some x → (g,x) ∈ l
 | [],h => by cases h
 | (k,y) :: l,h => by
  rw [List.lookup_cons] at h
  split at h
  ·rename_i e
   have e : g = k := by simpa using e
   cases h; subst e; exact List.mem_cons_self ..
  ·exact List.mem_cons_of_mem _ (P7 h)
theorem aa6 : ∀ p ∈ yC,∀ u ∈ p.2,u.oneCell' = true := by decide
theorem Rm {H : bg} {E : Env} : ∀ (vs : List Value),(∀ u ∈ vs,u.oneCell' = true) → db H E (vs.map av.v) vs
 | [],_ => .nil
 | u :: l,h => .cons (.v (h u (List.mem_cons_self ..))) (Rm l fun x ar => h x (List.mem_cons_of_mem _ ar))
theorem Q4 {a : Act} (pe : uP H) (cX : m4 B S E w H) {x : Operand} (eP : ∀ t y,x = .tmp t → al S.T t = some y → ca H E y (a.eval (.tmp t))) {y : av} (h : S.bf x = some y) : ca H E y (a.eval x) := by
 cases x with
 | tmp t =>
  simp only [ak.bf,Option.map_eq_some_iff] at h
  obtain ⟨z,bO,rfl⟩ := h
  exact KE cX (eP t z rfl bO)
 | const v =>
  simp only [ak.bf] at h
  split at h
  ·rename_i af; cases h; exact .v af
  ·cases h
 | func f => simp only [ak.bf,Option.some.injEq] at h; subst h; exact .fn .nil .nil
 | global g =>
  simp only [ak.bf,Option.map_eq_some_iff] at h
  obtain ⟨vs,aF,rfl⟩ := h
  have hm := P7 aF
  obtain ⟨c,t,cS,e,az⟩ := pe _ hm
  have af := aa6 _ hm
  have := ca.dc (H := H) (E := E) (off := 0) (b := g) (o := 0) (xs := vs) (Rm vs af) (by simp [av.one]) (fun j u hu => ⟨c,t,cS,e,by rw [Nat.zero_add]; exact az j u hu⟩)
  simpa [Act.eval] using this

theorem Dr (cX : m4 B S E w H) {x y u} (h : ca H E x u) (aZ : S.ma x = some y) : ca H ep y u ∧ y.pure = true ∧ (x.one = true → y.one = true) := by
 unfold ak.ma at aZ
 simp only at aZ
 split at aZ
 ·rename_i hp
  cases aZ
  refine ⟨(KE cX h).pure hp _,hp,fun _ => ?_⟩
  cases aS : S.res x <;> simp_all [av.pure,av.one]
 ·cases aZ
theorem GW (cX : m4 B S E w H) : ∀ {xs ys us},db H E xs us → S.qF xs = some ys → db H ep ys us ∧ ys.all av.pure = true ∧ (xs.all av.one = true → ys.all av.one = true)
 | _,_,_,.nil,h => by simp only [ak.qF,Option.some.injEq] at h; subst h; exact ⟨.nil,rfl,fun _ => rfl⟩
 | _,_,_,.cons h t,aZ => by
  simp only [ak.qF,Option.bind_eq_some_iff,Option.map_eq_some_iff] at aZ
  obtain ⟨y,a1,l,aF,rfl⟩ := aZ
  obtain ⟨bE,bP,cK⟩ := Dr cX h a1
  obtain ⟨c4,dm,gi⟩ := GW cX t aF
  refine ⟨.cons bE c4,by simp [bP]; simpa using dm,fun af => ?_⟩
  simp only [List.all_cons,Bool.and_eq_true] at af ⊢
  exact ⟨cK af.1,gi af.2⟩
theorem z8 (cX : m4 B S E w H) {x y u} (h : ca H E x u) (aZ : S.arg x = some y) : ca H ep y u := by
 cases h with
 | agg h af =>
  simp only [ak.arg,Option.map_eq_some_iff] at aZ
  obtain ⟨l,aF,rfl⟩ := aZ
  obtain ⟨bE,_,cK⟩ := GW cX h aF
  exact .agg bE (cK af)
 | bR h => cases aZ
 | v h => cases aZ; exact .v h
 | au a b c d e f g => cases aZ; exact .au a b c d e f g
 | mR h => cases aZ; exact .mR h
 | mp a b c d e => cases aZ; exact .mp a b c d e
 | fn a b => cases aZ; exact .fn a b
 | dr a => cases aZ; exact .dr a
 | dc a b c => cases aZ; exact .dc a b c
 | any a => cases aZ; exact .any a
 | own h af => exact (Dr cX (.own h af) aZ).1
 | ptr h => exact (Dr cX (.ptr h) aZ).1
theorem tx (cX : m4 B S E w H) {a : Act} : ∀ {xs : List Operand} {ys},ow S E H a xs → S.args xs = some ys → db H ep ys (xs.map a.eval)
 | [],_,_,h => by simp only [ak.args,Option.some.injEq] at h; subst h; exact .nil
 | x :: l,_,ay,aZ => by
  simp only [ak.args,Option.bind_eq_some_iff,Option.map_eq_some_iff] at aZ
  obtain ⟨y,⟨z,bO,a1⟩,q3,aF,rfl⟩ := aZ
  exact .cons (z8 cX (ay.get (by simp) bO) a1) (tx cX (fun x ar => ay x (by simp [ar])) aF)

theorem yo {x u} (h : ca H E x u) (af : x.cells.all av.one = true) : db H E x.cells u.cells.toList := by
 cases h with
 | agg h _ => simpa [av.cells,Value.cells] using h
 | bR h => simp [av.cells,av.one] at af
 | v h => 
  have e : u.cells = #[u] := by cases u <;> simp_all [Value.cells,Value.oneCell']
  simp only [av.cells,e]; exact .cons (.v h) .nil
 | au a b c d e f g => exact .cons (.au a b c d e f g) .nil
 | mR h => exact .cons (.mR h) .nil
 | mp a b c d e => exact .cons (.mp a b c d e) .nil
 | fn a b => exact .cons (.fn a b) .nil
 | dr a => exact .cons (.dr a) .nil
 | dc a b c => exact .cons (.dc a b c) .nil
 | any af =>
  have e : u.cells = #[u] := by cases u <;> simp_all [Value.cells,Value.oneCell']
  simp only [av.cells,e]; exact .cons (.any af) .nil
 | own h af =>
  have e : u.cells = #[u] := by cases u <;> simp_all [Value.cells,Value.oneCell']
  simp only [av.cells,e]; exact .cons (.own h af) .nil
 | ptr h => exact .cons (.ptr h) .nil

theorem G1 (cX : m4 B S E w H) (ao : Sub H w) {x u cs off} (h : ca H E x u) (aZ : S.at x = some (cs,off)) :
  ∃ b o vs,u = .pointer (some ⟨b,o + off,none⟩) ∧ db H E cs vs ∧ cs.all av.one = true ∧ ∀ j v,vs[j]? = some v → w.cell? ⟨b,o + j,none⟩ = some v := by
 cases h with
 | ptr h =>
  rename_i i idx anw kL k b
  simp only [ak.at] at aZ
  split at aZ
  ·rename_i t cs' aH
   cases aZ
   obtain ⟨fO,vs,af,aj,aw,aV,bF,bH⟩ := cX _ _ aH
   rw [h] at af; cases af
   refine ⟨b,0,vs,by simp,bF,bH,fun j v bj => ?_⟩
   simp [World.cell?,aV,bj]
  ·rename_i e dA es aH
   simp only [Option.map_eq_some_iff,Prod.mk.injEq] at aZ
   obtain ⟨el,acm,rfl,rfl⟩ := aZ
   obtain ⟨iD,ob,xs,af,aB,aj,aw⟩ := cX _ _ aH
   rw [h] at af; cases af
   rcases aw with ⟨_,aw,_⟩ | ⟨g,cap,cur,bE,bP,cK,a4,fY,ho,l8,tw,l9,hT⟩
   ·cases aw
   ·cases bE
    obtain ⟨vs,cw,c2,eE,hb⟩ := aj.get acm
    refine ⟨_,idx * k,vs,rfl,c2.mono (fun _ _ h => h) (lB _),eE,fun j v bj => ?_⟩
    have := hb j v bj
    rw [← hT,List.getElem?_take] at this
    split at this
    ·simp [World.cell?,fY]; simpa using this
    ·cases this
  ·rename_i e cs' aH
   cases aZ
   obtain ⟨g,cap,cur,af,aj,aw,aV,bF,bH,cA⟩ := cX _ _ aH
   rw [h] at af; cases af
   refine ⟨b,0,_,by simp,bH,cA,fun j v bj => ?_⟩
   rw [List.getElem?_take] at bj
   split at bj
   ·simp [World.cell?,aV]; simpa using bj
   ·cases bj
  ·cases aZ
 | dc bE bP cK =>
  simp only [ak.at,Option.some.injEq,Prod.mk.injEq] at aZ
  obtain ⟨rfl,rfl⟩ := aZ
  refine ⟨_,_,_,rfl,bE.mono (fun _ _ h => h) (lB _),bP,fun j v bj => ?_⟩
  obtain ⟨cells,t,cS,a8,cg⟩ := cK j v bj
  have := ao _ _ a8
  simp [World.cell?,this,cg]
 | _ => cases aZ

end

def my : TypeDesc → Bool
 | .struct _ | .array _ _ => true
 | _ => false
theorem FD {P : Program} {t d} (h : P.underlying t = some d) (w : World) : (isAgg t).run P w = .ok (my d) w := by
 cases d <;> simp [isAgg,run_underlying h,my]
theorem run_sizeOf {P : Program} {t i} (h : P.info? t = some i) (w : World) : (sizeOf t).run P w = .ok i.size w := by simp [sizeOf,typeInfo,h]
theorem xO {P : Program} {t i z} (h : P.info? t = some i) (bO : i.zero = some z) (w : World) : (zeroValue t).run P w = .ok z w := by simp [zeroValue,typeInfo,h,bO]

def idxs {α : Type} : Nat → List α → List (Nat × α)
 | _,[] => []
 | j,x :: l => (j,x) :: idxs (j + 1) l

inductive eM : Op → b4 → Prop
 | ah {x} : eM (.move x) (.ah x)
 | Dt {x} : eM (.assign x) (.ah x)
 | P0 {t x d i} : Tryz.prog.underlying t = some d → my d = true → Tryz.prog.info? t = some i → eM (.load t x) (.aC x (some i.size))
 | PZ {t x d} : Tryz.prog.underlying t = some d → my d = false → eM (.load t x) (.aC x none)
 | a3 {s x j fT f i} : Tryz.prog.underlying s = some (.struct fT) → fT[j]? = some f → Tryz.prog.info? f.type = some i → i.size ≠ 0 → eM (.fieldAddr s x j) (.a3 x f.offset)
 | NZ {s x j fT f i d} : Tryz.prog.underlying s = some (.struct fT) → fT[j]? = some f → Tryz.prog.info? f.type = some i → Tryz.prog.underlying f.type = some d → my d = true → eM (.field s x j) (.oC x f.offset (some i.size))
 | NY {s x j fT f d} : Tryz.prog.underlying s = some (.struct fT) → fT[j]? = some f → Tryz.prog.underlying f.type = some d → my d = false → eM (.field s x j) (.oC x f.offset none)
 | dU {t x j e i} : Tryz.prog.underlying t = some (.slice e) → Tryz.prog.info? e = some i → 0 < i.size → eM (.indexAddr t x j) (.dU x j i.size)
 | mi {t x j e i n} : Tryz.prog.underlying t = some (.array n e) → Tryz.prog.info? e = some i → eM (.indexAddr t x j) (.mi x j i.size n)
 | dE {t parts dz ps it z} {pl : Nat → Option (Nat × Nat)} : Tryz.prog.info? t = some it → it.zero = some z → z.cells.toList = dz.map dX.val → (∀ l6,Tryz.prog.built t l6 = Instr.fill pl z.cells l6) →
   parts.toList.mapM (fun p => (pl p.1).map fun q => (q.1,q.2,p.2)) = some ps → eM (.build t parts) (.dE dz ps)
 | g2 {t e i z parts xs} : Tryz.prog.underlying t = some (.slice e) → Tryz.prog.info? e = some i → i.zero = some z → z.cells.size = i.size → 0 < i.size → parts.toList = idxs 0 xs → xs.length * i.size ≤ 16777216 → eM (.buildSlice t xs.length parts) (.g2 i.size xs)
 | tD {t e i z parts xs} : Tryz.prog.underlying t = some (.slice e) → Tryz.prog.info? e = some i → i.zero = some z → z.cells.size = i.size → 0 < i.size → parts.toList = idxs 0 xs → xs.length * i.size ≤ 16777216 → eM (.buildSlice t xs.length parts) (.tD i.size xs e)
 | kk {t e i x jo aq mx} : Tryz.prog.underlying t = some (.slice e) → Tryz.prog.info? e = some i → eM (.slice t x jo aq mx) (.kk i.size x jo aq mx)
 | len {t e x} : Tryz.prog.underlying t = some (.slice e) → eM (.call ⟨.builtin .len,#[x],#[t]⟩) (.len x)
 | r9 {t bc e x} : Tryz.prog.underlying t = some (.map bc e) → Tryz.prog.underlying bc = some (.int .i64) → eM (.call ⟨.builtin .len,#[x],#[t]⟩) (.r9 bc x)
 | mj {t bc e i m key ok} {z : dX} : Tryz.prog.underlying t = some (.map bc e) → Tryz.prog.underlying bc = some (.int .i64) → Tryz.prog.info? e = some i → i.zero = some z.val → eM (.lookup t m key ok) (.mj bc m key z ok)
 | ext {x i} : eM (.extract x i) (.ext x i)
 | bin {op t x y t2} : eM (.binOp op t x y t2) (.bin op x y)
 | eqv {t x y t2} : eM (.binOp .eql t x y t2) (.eqv false t x y)
 | JW {t x y t2} : eM (.binOp .neq t x y t2) (.eqv true t x y)
 | not {t x} : eM (.unOp .not t x) (.not x)
 | lE {src dst x d k} : Tryz.prog.underlying src = some d → Tryz.prog.underlying dst = some (.int k) → eM (.convert src dst x) (.lE k x)
 | call {f fn args hE} : Tryz.prog.funcs[f]? = some fn → fn.body.isSome = true → (fn.name == "runtime.NumGoroutine") = false → eM (.call ⟨.value (.func f),args,hE⟩) (.call f args.toList)
 | kt {t args hE} : eM (.call ⟨.value (.tmp t),args,hE⟩) (.kt (.tmp t) args.toList)
 | jY {f first cap} : eM (.makeFunc f first cap) (.jY f first.toList cap.toList)
 | ig {t x d} : Tryz.prog.underlying t = some d → (∀ ms,d ≠ .interface ms) → eM (.makeInterface t x) (.ig t x)
 | pick {c a b} : eM (.pick c a b) (.pick c a b)
 | max {x y hE} : eM (.call ⟨.builtin .max,#[x,y],hE⟩) (.kH true x y)
 | min {x y hE} : eM (.call ⟨.builtin .min,#[x,y],hE⟩) (.kH false x y)
 | k3 {x} : eM (.nilCheck x) (.k3 x)
 | mm {t e i z n dz} : Tryz.prog.underlying t = some (.slice e) → Tryz.prog.info? e = some i → i.zero = some z → z.cells.toList = dz.map dX.val → z.cells.size = i.size → 0 < i.size → eM (.makeSlice t n n) (.mm n e i.size i.bytes dz)
 | oe {t bc e} : Tryz.prog.underlying t = some (.map bc e) → Tryz.prog.underlying bc = some (.int .i64) → eM (.makeMap t none) (.oe t bc)
 | app {t e i z x y} : Tryz.prog.underlying t = some (.slice e) → Tryz.prog.info? e = some i → i.zero = some z → z.cells.size = i.size → 0 < i.size → eM (.call ⟨.builtin .append,#[x,y],#[t,t]⟩) (.app x y e i.size i.bytes)
 | cm {t i z dz} : Tryz.prog.info? t = some i → i.zero = some z → z.cells.toList = dz.map dX.val → eM (.alloc t) (.cm t dz)
 | box {t x} : eM (.box t x) (.box t x)
 | st {t i x y} : Tryz.prog.info? t = some i → eM (.store t x y) (.st i.size x y)
 | qJ {t e i x y t2} : Tryz.prog.underlying t = some (.slice e) → Tryz.prog.info? e = some i → eM (.call ⟨.builtin .copy,#[x,y],#[t,t2]⟩) (.qJ x y i.size)
 | pv {t bc e m key x} : Tryz.prog.underlying t = some (.map bc e) → Tryz.prog.underlying bc = some (.int .i64) → eM (.mapUpdate t m key x) (.pv bc m key x)
 | del {t bc e m key} : Tryz.prog.underlying t = some (.map bc e) → Tryz.prog.underlying bc = some (.int .i64) → eM (.call ⟨.builtin .delete,#[m,key],#[t,bc]⟩) (.del bc m key)
 | jZ {t bc e x} : Tryz.prog.underlying t = some (.map bc e) → Tryz.prog.underlying bc = some (.int .i64) → eM (.range t x) (.jZ bc x)
 | oh {x} : eM (.next x false) (.oh x)
 | qM {x} : eM (.entry x) (.qM x)
 | gen {op xs} : eM op (.gen op xs)

def b4.cP : b4 → List Operand
 | .ah x | .aC x _ | .a3 x _ | .oC x _ _ | .len x | .r9 _ x | .ext x _ | .not x | .lE _ x | .ig _ x | .k3 x | .mm x _ _ _ _ | .box _ x => [x]
 | .dU x i _ | .mi x i _ _ | .mj _ x i _ _ | .bin _ x i | .eqv _ _ x i | .kH _ x i | .app x i _ _ _ | .st _ x i | .qJ x i _ => [x,i]
 | .dE _ ps => ps.map (·.2.2)
 | .g2 _ xs | .tD _ xs _ | .call _ xs | .gen _ xs => xs
 | .kk _ x jo aq mx => x :: (jo.toList ++ aq.toList ++ mx.toList)
 | .kt x xs => x :: xs
 | .jY _ a b => a ++ b
 | .pick c a b => [c,a,b]
 | .pv _ m k x => [m,k,x]
 | .del _ m k => [m,k]
 | .jZ _ x | .oh x | .qM x => [x]
 | .oe _ _ | .cm _ _ => []

def Good (o : Oper) (S : ak) (E : Env) (xs : List Operand) (s : av) : Prop :=
 ∀ (B : Nat) (a : Act) (w : World) (H : bg),Sub H w → m4 B S E w H → ow S E H a xs → o.wp Tryz.prog a w (fun dD w' => ∃ v H',dD = a.put o.dst v ∧ Grow w H w' H' ∧ ca H' E s v) zW

theorem Az {o S E xs s} (h : ∀ B a w H,Sub H w → m4 B S E w H → ow S E H a xs → ∃ v w' H',(execOp a.eval o).run Tryz.prog w = .ok (.value v) w' ∧ Grow w H w' H' ∧ ca H' E s v) : Good o S E xs s := by
 intro B a w H af aj aw
 obtain ⟨v,w',H',e,g,r⟩ := h B a w H af aj aw
 unfold Oper.wp
 rw [e]
 exact ⟨v,H',rfl,g,r⟩
theorem kT {o S E xs s} (h : ∀ B a w H,Sub H w → m4 B S E w H → ow S E H a xs → ∃ v,(execOp a.eval o).run Tryz.prog w = .ok (.value v) w ∧ ca H E s v) : Good o S E xs s :=
 Az fun B a w H af aj aw => by obtain ⟨v,e,r⟩ := h B a w H af aj aw; exact ⟨v,w,H,e,Grow.refl af,r⟩

section
variable {o : Oper} {S : ak} {E : Env}

theorem KK {P : Program} {w : World} {t : TypeId} {d : TypeDesc} {b o' off : Nat} {vs : List Value} (hu : P.underlying t = some d) (eA : ∀ j v,vs[j]? = some v → w.cell? ⟨b,o' + j,none⟩ = some v) :
  (∀ i,my d = true → P.info? t = some i → off + i.size ≤ vs.length → (Instr.loadAt t (.pointer (some ⟨b,o' + off,none⟩))).run P w = .ok (.agg ((vs.drop off).take i.size).toArray) w) ∧
  (∀ u,my d = false → vs[off]? = some u → (Instr.loadAt t (.pointer (some ⟨b,o' + off,none⟩))).run P w = .ok u w) := by
 constructor
 ·intro i aZ aq aF
  have hlen : ((vs.drop off).take i.size).length = i.size := by simp; omega
  have := run_loadCells_list (P := P) w ⟨b,o' + off,none⟩ ((vs.drop off).take i.size) (fun j v bj => by
   rw [Addr.add_lit,Nat.add_assoc]
   rw [List.getElem?_take] at bj
   split at bj
   ·rw [List.getElem?_drop] at bj; exact eA _ _ bj
   ·cases bj)
  rw [hlen] at this
  simp [Instr.loadAt,Instr.sureAddr,loadVar,FD hu,aZ,run_sizeOf aq,this]
 ·intro u aZ bj
  have := eA _ _ bj
  simp [Instr.loadAt,Instr.sureAddr,loadVar,FD hu,aZ,load,Sem.run,this]

theorem ahw {P : Program} {w : World} {t : TypeId} {d : TypeDesc} {off : Nat} {vs : List Value} (hu : P.underlying t = some d) :
  (∀ i,my d = true → P.info? t = some i → off + i.size ≤ vs.length → (part t vs.toArray off).run P w = .ok (.agg ((vs.drop off).take i.size).toArray) w) ∧
  (∀ u,my d = false → vs[off]? = some u → (part t vs.toArray off).run P w = .ok u w) := by
 constructor
 ·intro i aZ aq aF
  simp [part,FD hu,aZ,run_sizeOf aq,List.extract_eq_take_drop]
 ·intro u aZ bj
  simp [part,FD hu,aZ,bj]

theorem OH {x s} (ay : o.op = .move x ∨ o.op = .assign x) (h : S.bf x = some s) : Good o S E [x] s := kT fun B a w H af aj aw => by
 refine ⟨a.eval x,?_,aw.get (by simp) h⟩
 rcases ay with ay | ay <;> simp [execOp,ay]

theorem OF {t x d s cs off fZ k} (ay : o.op = .load t x) (hu : Tryz.prog.underlying t = some d) (D8 : (my d = true ∧ ∃ i,Tryz.prog.info? t = some i ∧ fZ = some i.size) ∨ (my d = false ∧ fZ = none))
  (h : S.bf x = some s) (aZ : S.at s = some (cs,off)) (aB : cut cs off fZ k) : ∃ r,k r ∧ Good o S E [x] r := by
 have : ∃ r,k r ∧ match fZ with | some n => off + n ≤ cs.length ∧ r = .agg ((cs.drop off).take n) | none => cs[off]? = some r := by
  unfold cut at aB
  cases fZ with
  | some n => exact ⟨_,aB.2,aB.1,rfl⟩
  | none => obtain ⟨x,ar,aB⟩ := bW aB; exact ⟨x,aB,ar⟩
 obtain ⟨r,ax,hm⟩ := this
 refine ⟨r,ax,kT fun B a w H af aj aw => ?_⟩
 obtain ⟨b,o',vs,bj,ba,tO,eA⟩ := G1 aj af (aw.get (by simp) h) aZ
 obtain ⟨l1,l2⟩ := KK (P := Tryz.prog) (off := off) hu eA
 rcases D8 with ⟨aX,i,aq,rfl⟩ | ⟨aX,rfl⟩
 ·obtain ⟨aF,rfl⟩ := hm
  refine ⟨_,by simp [execOp,ay,bj,l1 i aX aq (by rw [← ba.length]; exact aF)],.agg ((ba.drop off).take _) ?_⟩
  rw [List.all_eq_true] at tO ⊢
  intro x ar
  exact tO x (List.mem_of_mem_drop (List.mem_of_mem_take ar))
 ·obtain ⟨u,s0,BA⟩ := ba.get hm
  exact ⟨u,by simp [execOp,ay,bj,l2 u aX s0],BA⟩

theorem OC {t x j fT f i s dv} (ay : o.op = .fieldAddr t x j) (hu : Tryz.prog.underlying t = some (.struct fT)) (aW : fT[j]? = some f) (aq : Tryz.prog.info? f.type = some i) (bO : i.size ≠ 0)
  (h : S.bf x = some s) (ao : (∃ i idx o,s = .ptr i idx o ∧ dv = .ptr i idx (o + f.offset)) ∨ (∃ e o,s = .dc e o ∧ dv = .dc e (o + f.offset))) : Good o S E [x] dv := kT fun B a w H af aj aw => by
 have ax := aw.get (by simp) h
 have c8 : ∀ b o',a.eval x = .pointer (some ⟨b,o',none⟩) → (execOp a.eval o).run Tryz.prog w = .ok (.value (.pointer (some ⟨b,o' + f.offset,none⟩))) w := fun b o' e => by
  simp [execOp,ay,e,Instr.fieldAt,run_underlying hu,aW,Instr.sureAddr,fieldPlace,run_sizeOf aq,bO,Addr.add_lit]
 rcases ao with ⟨jn,idx,o',rfl,rfl⟩ | ⟨e,o',rfl,rfl⟩
 ·generalize aS : a.eval x = q at ax
  cases ax with
  | ptr h => exact ⟨_,c8 _ _ aS,by rw [Nat.add_assoc]; exact .ptr h⟩
 ·generalize aS : a.eval x = q at ax
  cases ax with
  | dc c4 dm gi => exact ⟨_,c8 _ _ aS,by rw [Nat.add_assoc]; exact .dc c4 dm gi⟩

theorem OD {t x j fT f d cs fZ k} (ay : o.op = .field t x j) (hu : Tryz.prog.underlying t = some (.struct fT)) (aW : fT[j]? = some f) (aX : Tryz.prog.underlying f.type = some d)
  (D8 : (my d = true ∧ ∃ i,Tryz.prog.info? f.type = some i ∧ fZ = some i.size) ∨ (my d = false ∧ fZ = none)) (h : S.bf x = some (.agg cs)) (aB : cut cs f.offset fZ k) : ∃ r,k r ∧ Good o S E [x] r := by
 have : ∃ r,k r ∧ match fZ with | some n => f.offset + n ≤ cs.length ∧ r = .agg ((cs.drop f.offset).take n) | none => cs[f.offset]? = some r := by
  unfold cut at aB
  cases fZ with
  | some n => exact ⟨_,aB.2,aB.1,rfl⟩
  | none => obtain ⟨x,ar,aB⟩ := bW aB; exact ⟨x,aB,ar⟩
 obtain ⟨r,ax,hm⟩ := this
 refine ⟨r,ax,kT fun B a w H af aj aw => ?_⟩
 have ba := aw.get (by simp) h
 generalize aS : a.eval x = q at ba
 cases ba with
 | agg ba tO =>
  rename_i vs
  obtain ⟨l1,l2⟩ := ahw (P := Tryz.prog) (w := w) (off := f.offset) (vs := vs) aX
  rcases D8 with ⟨vn,i,aq,rfl⟩ | ⟨vn,rfl⟩
  ·obtain ⟨aF,rfl⟩ := hm
   refine ⟨_,by simp [execOp,ay,aS,Instr.field,run_underlying hu,aW,asAgg,l1 i vn aq (by rw [← ba.length]; exact aF)],.agg ((ba.drop f.offset).take _) ?_⟩
   rw [List.all_eq_true] at tO ⊢
   intro x ar
   exact tO x (List.mem_of_mem_drop (List.mem_of_mem_take ar))
  ·obtain ⟨u,s0,BA⟩ := ba.get hm
   exact ⟨u,by simp [execOp,ay,aS,Instr.field,run_underlying hu,aW,asAgg,l2 u vn s0],BA⟩

theorem abv {t x j e i fk n es el} (ay : o.op = .indexAddr t x j) (hu : Tryz.prog.underlying t = some (.slice e)) (aq : Tryz.prog.info? e = some i) (fz : 0 < i.size) {full : Nat}
  (h : S.bf x = some (.au i.size full es)) (aM : S.bf j = some (.v (.int fk n))) (bb : 0 ≤ n) (he : es[n.toNat]? = some el) : Good o S E [x,j] (.dc el 0) := kT fun B a w H af aj aw => by
 have ba := aw.get (by simp) h
 have gJ := aw.get (by simp) aM
 generalize aS : a.eval x = q at ba
 generalize lV : a.eval j = zf at gJ
 cases gJ
 cases ba with
 | au bK a7 az hm aW aZ eA =>
  rename_i u2 len cap xs
  have bN := (List.getElem?_eq_some_iff.1 he).1
  obtain ⟨vs,cw,c2,eE,hb⟩ := bK.get he
  cases u2 with
  | none => have := aZ rfl; omega
  | some fr =>
   obtain ⟨CA,BD⟩ : ∃ u,vs[0]? = some u := ⟨vs[0]'(by omega),by simp⟩
   obtain ⟨b,o',cells,t',cS,a2,a8,cg⟩ := eA _ _ (hb 0 CA BD)
   cases a2
   refine ⟨.pointer (some ⟨b,o' + n.toNat * i.size + 0,none⟩),?_,.dc c2 eE (fun yV u s0 => ?_)⟩
   ·simp [execOp,ay,aS,lV,Instr.indexAt,run_underlying hu,asIntOf,run_sizeOf aq,bb,show n < (len : Int) from by omega,Addr.add_lit]
   ·obtain ⟨fO,anv,Hg,ah6,HI,f1,f2,f3⟩ := eA _ _ (hb yV u s0)
    cases f1
    exact ⟨Hg,ah6,HI,f2,by rw [Nat.add_assoc]; exact f3⟩
end

def z1 (H : bg) (r : Option Nat) (f : Int → Int) : Prop :=
 (∀ k,f k ≠ 0 → 0 ≤ k ∧ k < 4096) ∧ (∀ k,0 ≤ f k ∧ f k ≤ 9223372036854775807) ∧
 match r with
 | none => ∀ k,f k = 0
 | some b => ∃ o,H b = some o ∧ hR 76 o 4096 (fun k => if f k = 0 then Option.none else some (.int .i64 (f k)))
theorem z1.le {H H' : bg} {r : Option Nat} {f : Int → Int} (h : z1 H r f) (g : g7 H H') : z1 H' r f := by
 obtain ⟨af,aj,aw⟩ := h
 refine ⟨af,aj,?_⟩
 cases r with
 | none => exact aw
 | some b => obtain ⟨o,ay,hm⟩ := aw; exact ⟨o,g _ _ ay,hm⟩

theorem UJ (w : World) : (zeroValue 3).run Tryz.prog w = .ok (.int .i64 0) w := by kernel_rfl

theorem z1.lookup {H : bg} {r : Option Nat} {f : Int → Int} (h : z1 H r f) {w : World} (ao : Sub H w) {l : Int} (af : -9223372036854775808 ≤ l) (aj : l ≤ 9223372036854775807) :
  (Instr.lookup 155 (.map r) (.int .i64 l) false).run Tryz.prog w = .ok (.int .i64 (f l)) w := by
 obtain ⟨_,_,aw⟩ := h
 cases r with
 | none =>
  rw [aw l]
  exact Maps.look_nil false (int_keyed (P := Tryz.prog) Tryz.underlying76) Tryz.underlying155 (UJ w) (keyOf_int_mk (P := Tryz.prog) Tryz.underlying76 (zz af aj))
 | some b =>
  obtain ⟨o,ay,hm⟩ := aw
  have := (hm.lookup (ao b o ay) Tryz.underlying76 Tryz.underlying155 (UJ w) af aj).1
  rw [this]
  by_cases e : f l = 0 <;> simp [e]

theorem zg (w : World) (t k e : TypeId) (p : Option Nat) (h : Tryz.prog.underlying t = some (.map k e)) :
  (binOp .eql t (.map p) (.map none)).run Tryz.prog w = .ok (.bool p.isNone) w := run_eql_map_nil_sl w t k e p h

set_option maxRecDepth 100000 in
set_option maxHeartbeats 400000 in
theorem Z0 (b : Nat) (es : Array MapEntry) (clock : Nat) (w : World) (aJ : w.heap[b]? = some (.map es clock)) :
  Calls Tryz.prog 123 #[.map (some b)] w fun e w' => e = .returned (.map (some w.heap.size)) ∧ w' = w.alloc (.map es clock) := by
 have aS := fun w => zg w 155 _ _ (some b) Tryz.underlying155
 go_enter Tryz.func123,Tryz.ntmps123
 go_wp2
 rw [run_callFunc_extern Tryz.func110 (by kernel_rfl) (by kernel_rfl) (by kernel_rfl) (e := Extern.MapsClone.clone) (by kernel_rfl),run_maps_clone_sl w 155 aJ]
 simp only [Result.andThen]
 rw [Oper.upon_value]
 go_wp2
 rw [run_typeAssert_map_sl _ 155 20 _ _ _ Tryz.underlying155]
 simp only [Result.andThen]
 rw [Oper.upon_value]
 go_wp2
 go_ret
 exact ⟨rfl,rfl⟩

set_option maxRecDepth 100000 in
set_option maxHeartbeats 400000 in
theorem ZZ (w : World) :
  Calls Tryz.prog 123 #[.map none] w fun e w' => e = .returned (.map none) ∧ w' = w := by
 have aS := fun w => zg w 155 _ _ none Tryz.underlying155
 go_enter Tryz.func123,Tryz.ntmps123
 go_wp2
 go_ret
 exact ⟨rfl,rfl⟩


section
variable {o : Oper} {S : ak} {E : Env}

theorem abw {t x j e i fk n es gD kS} (ay : o.op = .indexAddr t x j) (hu : Tryz.prog.underlying t = some (.slice e)) (aq : Tryz.prog.info? e = some i)
  (h : S.bf x = some (.own gD)) (aH : al S.O gD = some (.row kS i.size es)) (aM : S.bf j = some (.v (.int fk n))) (bb : 0 ≤ n) (he : n.toNat < es.length) : Good o S E [x,j] (.ptr gD n.toNat 0) := kT fun B a w H af aj aw => by
 have ba := aw.get (by simp) h
 have gJ := aw.get (by simp) aM
 generalize aS : a.eval x = q at ba
 generalize lV : a.eval j = zf at gJ
 cases gJ
 cases ba with
 | own bK _ =>
  obtain ⟨u,ob,xs,g1,_,bQ,gy⟩ := aj _ _ aH
  rw [bK] at g1; cases g1
  rcases gy with ⟨rfl,_⟩ | ⟨g,cap,cur,rfl,rfl,Aw⟩
  ·simp at he
  ·refine ⟨.pointer (some ⟨g,n.toNat * i.size + 0,none⟩),?_,.ptr bK⟩
   simp [execOp,ay,aS,lV,Instr.indexAt,run_underlying hu,asIntOf,run_sizeOf aq,bb,show n < (es.length : Int) from by omega,Addr.add_lit]

theorem abx {t x j e i fk n cs gD kS} (ay : o.op = .indexAddr t x j) (hu : Tryz.prog.underlying t = some (.slice e)) (aq : Tryz.prog.info? e = some i) (g4 : i.size = 1)
  (h : S.bf x = some (.own gD)) (aH : al S.O gD = some (.hN kS cs)) (aM : S.bf j = some (.v (.int fk n))) (bb : 0 ≤ n) (he : n.toNat < cs.length) : Good o S E [x,j] (.ptr gD n.toNat 0) := kT fun B a w H af aj aw => by
 have ba := aw.get (by simp) h
 have gJ := aw.get (by simp) aM
 generalize aS : a.eval x = q at ba
 generalize lV : a.eval j = zf at gJ
 cases gJ
 cases ba with
 | own bK _ =>
  obtain ⟨g,cap,cur,g1,bQ,gy,Aw,vf,Ax,amC⟩ := aj _ _ aH
  rw [bK] at g1; cases g1
  refine ⟨.pointer (some ⟨g,n.toNat * 1 + 0,none⟩),?_,.ptr bK⟩
  simp [execOp,ay,aS,lV,Instr.indexAt,run_underlying hu,asIntOf,run_sizeOf aq,bb,g4,show n < (cs.length : Int) from by omega,Addr.add_lit]

theorem OE {t x j e i fk n N s dv} (ay : o.op = .indexAddr t x j) (hu : Tryz.prog.underlying t = some (.array N e)) (aq : Tryz.prog.info? e = some i)
  (h : S.bf x = some s) (aM : S.bf j = some (.v (.int fk n))) (bb : 0 ≤ n) (a7 : n < N)
  (ao : (∃ jn idx o,s = .ptr jn idx o ∧ dv = .ptr jn idx (o + n.toNat * i.size)) ∨ (∃ e o,s = .dc e o ∧ dv = .dc e (o + n.toNat * i.size))) : Good o S E [x,j] dv := kT fun B a w H af aj aw => by
 have ba := aw.get (by simp) h
 have gJ := aw.get (by simp) aM
 generalize lV : a.eval j = zf at gJ
 cases gJ
 have c8 : ∀ b o',a.eval x = .pointer (some ⟨b,o',none⟩) → (execOp a.eval o).run Tryz.prog w = .ok (.value (.pointer (some ⟨b,o' + n.toNat * i.size,none⟩))) w := fun b o' e => by
  simp [execOp,ay,e,lV,Instr.indexAt,run_underlying hu,asIntOf,Instr.sureAddr,run_sizeOf aq,bb,a7,Addr.add_lit]
 rcases ao with ⟨jn,idx,o',rfl,rfl⟩ | ⟨e,o',rfl,rfl⟩
 ·generalize aS : a.eval x = q at ba
  cases ba with
  | ptr h => exact ⟨_,c8 _ _ aS,by rw [Nat.add_assoc]; exact .ptr h⟩
 ·generalize aS : a.eval x = q at ba
  cases ba with
  | dc c4 dm gi => exact ⟨_,c8 _ _ aS,by rw [Nat.add_assoc]; exact .dc c4 dm gi⟩

theorem HZ {t x e s n} (ay : o.op = .call ⟨.builtin .len,#[x],#[t]⟩) (hu : Tryz.prog.underlying t = some (.slice e)) (h : S.bf x = some s)
  (ao : (∃ k full es,s = .au k full es ∧ n = es.length) ∨ (∃ i kS k es,s = .own i ∧ al S.O i = some (.row kS k es) ∧ n = es.length) ∨ (∃ i kS cs,s = .own i ∧ al S.O i = some (.hN kS cs) ∧ n = cs.length)) : Good o S E [x] (.v (.int .i64 n)) := kT fun B a w H af aj aw => by
 have ba := aw.get (by simp) h
 generalize aS : a.eval x = q at ba
 have c8 : ∀ u2 cap,q = .slice u2 n cap → (execOp a.eval o).run Tryz.prog w = .ok (.value (.int .i64 n)) w := fun u2 cap e => by
  simp [execOp,ay,resolve,aS,e,invoke,builtin,Builtin.len_,run_underlying hu,goInt]
 refine ⟨.int .i64 n,?_,.v rfl⟩
 rcases ao with ⟨k,full,es,rfl,rfl⟩ | ⟨i,kS,k,es,rfl,aH,rfl⟩ | ⟨i,kS,cs,rfl,aH,rfl⟩
 ·cases ba with
  | au bK a7 az hm aW aZ eA => exact c8 _ _ (by rw [a7])
 ·cases ba with
  | own bK _ =>
   obtain ⟨u,ob,xs,g1,_,bQ,gy⟩ := aj _ _ aH
   rw [bK] at g1; cases g1
   rcases gy with ⟨rfl,_,fr,rfl⟩ | ⟨g,cap,cur,rfl,rfl,Aw⟩
   ·exact c8 _ _ rfl
   ·exact c8 _ _ rfl
 ·cases ba with
  | own bK _ =>
   obtain ⟨g,cap,cur,g1,_⟩ := aj _ _ aH
   rw [bK] at g1; cases g1
   exact c8 _ _ rfl

theorem CP (H : bg) (E : Env) (z : dX) : ca H E z.hX z.val := by
 cases z with
 | au k => exact .au .nil rfl (Nat.le_refl _) (Nat.zero_le _) ⟨fun _ => rfl,fun _ _ => rfl⟩ (fun _ => rfl) (fun j u h => by simp at h)
 | mp bc => exact .mR (fun _ => rfl)
 | _ => exact .v rfl
theorem ak4 (z : dX) : z.hX.one = true := by cases z <;> rfl
theorem yd (H : bg) (E : Env) : ∀ (dz : List dX),db H E (dz.map dX.hX) (dz.map dX.val)
 | [] => .nil
 | z :: dz => .cons (CP H E z) (yd H E dz)
theorem zE (dz : List dX) : (dz.map dX.hX).all av.one = true := by simp [ak4]

theorem aby {t bc e i m key ok f n} {z : dX} (ay : o.op = .lookup t m key ok) (hu : Tryz.prog.underlying t = some (.map bc e)) (aB : Tryz.prog.underlying bc = some (.int .i64)) (aq : Tryz.prog.info? e = some i) (bO : i.zero = some z.val)
  (h : S.bf m = some (.mp bc f)) (aM : S.bf key = some (.v (.int .i64 n))) (bM : -9223372036854775808 ≤ n) (fV : n ≤ 9223372036854775807) :
  Good o S E [m,key] (if ok then .bR [(f n).getD z.hX,.v (.bool (f n).isSome)] else (f n).getD z.hX) := kT fun B a w H af aj aw => by
 have ba := aw.get (by simp) h
 have gJ := aw.get (by simp) aM
 generalize aS : a.eval m = q at ba
 generalize lV : a.eval key = zf at gJ
 cases gJ
 have oO := xO aq bO
 have K := int_keyed (P := Tryz.prog) aB
 have mJ := keyOf_int_mk (P := Tryz.prog) aB (zz bM fV)
 cases ba with
 | mR aW =>
  have et := Maps.look_nil (P := Tryz.prog) (w := w) false K hu (oO w) mJ
  have dP := Maps.look_nil (P := Tryz.prog) (w := w) true K hu (oO w) mJ
  cases ok with
  | false => exact ⟨z.val,by simp [execOp,ay,aS,lV,et],by simpa [aW] using CP H E z⟩
  | true => exact ⟨.tuple #[z.val,.bool false],by simp [execOp,ay,aS,lV,dP],by simpa [aW] using ca.bR (.cons (CP H E z) (.cons (.v rfl) .nil))⟩
 | mp aJ hm dS n9 Jm =>
  rename_i b xD N F
  obtain ⟨et,dP⟩ := hm.lookup (af _ _ aJ) aB hu (oO w) bM fV
  have bj : ca H E ((f n).getD z.hX) ((F n).getD z.val) := by
   cases aW : f n with
   | none => rw [(n9 n).1 aW]; exact CP H E z
   | some s =>
    cases bs : F n with
    | none => rw [(n9 n).2 bs] at aW; cases aW
    | some u => exact (Jm n s u aW bs).mono (fun _ _ h => h) (lB _)
  have jC : (F n).isSome = (f n).isSome := by
   have := n9 n
   cases aW : f n <;> cases bs : F n <;> simp_all
  cases ok with
  | false => exact ⟨_,by simp [execOp,ay,aS,lV,et],bj⟩
  | true => exact ⟨_,by simp [execOp,ay,aS,lV,dP]; rfl,by simpa [jC] using ca.bR (.cons bj (.cons (.v rfl) .nil))⟩

theorem abz {t bc e i m key ok f n gD M} {z : dX} (ay : o.op = .lookup t m key ok) (hu : Tryz.prog.underlying t = some (.map bc e)) (aB : Tryz.prog.underlying bc = some (.int .i64)) (aq : Tryz.prog.info? e = some i) (bO : i.zero = some z.val)
  (h : S.bf m = some (.own gD)) (aH : al S.O gD = some (.map bc M f)) (aM : S.bf key = some (.v (.int .i64 n))) (bM : -9223372036854775808 ≤ n) (fV : n ≤ 9223372036854775807) :
  Good o S E [m,key] (if ok then .bR [(f n).getD z.hX,.v (.bool (f n).isSome)] else (f n).getD z.hX) := kT fun B a w H af aj aw => by
 have ba := aw.get (by simp) h
 have gJ := aw.get (by simp) aM
 generalize aS : a.eval m = q at ba
 generalize lV : a.eval key = zf at gJ
 cases gJ
 have oO := xO aq bO
 obtain ⟨b,xD,F,a2,a8,cg,e7,h9,lH,n9,Jm⟩ := aj _ _ aH
 cases ba with
 | own bK _ =>
  rw [bK] at a2; cases a2
  obtain ⟨et,dP⟩ := h9.lookup e7 aB hu (oO w) bM fV
  have bj : ca H E ((f n).getD z.hX) ((F n).getD z.val) := by
   cases aW : f n with
   | none => rw [(n9 n).1 aW]; exact CP H E z
   | some s =>
    cases bs : F n with
    | none => rw [(n9 n).2 bs] at aW; cases aW
    | some u => exact (Jm n s u aW bs).mono (fun _ _ h => h) (lB _)
  have jC : (F n).isSome = (f n).isSome := by
   have := n9 n
   cases aW : f n <;> cases bs : F n <;> simp_all
  cases ok with
  | false => exact ⟨_,by simp [execOp,ay,aS,lV,et],bj⟩
  | true => exact ⟨_,by simp [execOp,ay,aS,lV,dP]; rfl,by simpa [jC] using ca.bR (.cons bj (.cons (.v rfl) .nil))⟩

theorem abr {x i cs s} (ay : o.op = .extract x i) (h : S.bf x = some (.bR cs)) (aq : cs[i]? = some s) : Good o S E [x] s := kT fun B a w H af aj aw => by
 have ba := aw.get (by simp) h
 generalize aS : a.eval x = q at ba
 cases ba with
 | bR ej =>
  obtain ⟨u,hu,ax⟩ := ej.get aq
  exact ⟨u,by simp [execOp,ay,aS,Instr.extract,hu],ax⟩

theorem Rv {op : BinOp} {t : TypeId} {k : IntKind} {x y : Int} {r : Value} (uL x4 : Operand) (h : na op k x y = some r) (w : World) :
  ((do eqGuard op t uL x4 (.int k x) (.int k y); binOp op t (.int k x) (.int k y) : Sem Value)).run Tryz.prog w = .ok r w := by
 cases op <;> simp [na] at h <;> (first | (obtain ⟨bb,rfl⟩ := h) | subst h) <;>
  simp_all [eqGuard,binOp,Op.intArith,Op.intDiv,Op.intCmp]

theorem abk {op t x y t2 k p q r} (ay : o.op = .binOp op t x y t2) (ar : S.bf x = some (.v (.int k p))) (a1 : S.bf y = some (.v (.int k q))) (ax : na op k p q = some r) : Good o S E [x,y] (.v r) := kT fun B a w H af aj aw => by
 have ba := aw.get (by simp) ar
 have gJ := aw.get (by simp) a1
 generalize hA : a.eval x = jK at ba
 generalize iy : a.eval y = hh at gJ
 cases ba; cases gJ
 refine ⟨r,?_,.v ?_⟩
 ·have := Rv (t := t) x y ax w
  simp only [execOp,ay,hA,iy,Sem.run_bind] at this ⊢
  rw [this]; rfl
 ·cases op <;> simp [na] at ax <;> (first | (obtain ⟨bb,rfl⟩ := ax) | subst ax) <;> rfl

theorem OB {t x y t2 T4 T5 b} {neg : Bool} (ay : o.op = .binOp (if neg then .neq else .eql) t x y t2) (ar : S.bf x = some T4) (a1 : S.bf y = some T5) (aJ : sA t T4 T5 b) : Good o S E [x,y] (.v (.bool (if neg then !b else b))) := kT fun B a w H af aj aw => by
 obtain ⟨et,dP⟩ := aJ H E w _ _ x y af (aw.get (by simp) ar) (aw.get (by simp) a1)
 refine ⟨.bool (if neg then !b else b),?_,.v rfl⟩
 cases neg
 ·simp only [execOp,ay,Sem.run_bind] at et ⊢
  simp only [Bool.false_eq_true,if_false] at et ⊢
  rw [et]; rfl
 ·simp only [execOp,ay,Sem.run_bind] at dP ⊢
  simp only [if_true] at dP ⊢
  rw [dP]; rfl

theorem abE {t x b} (ay : o.op = .unOp .not t x) (ar : S.bf x = some (.v (.bool b))) : Good o S E [x] (.v (.bool !b)) := kT fun B a w H af aj aw => by
 have ba := aw.get (by simp) ar
 generalize hA : a.eval x = jK at ba
 cases ba
 exact ⟨.bool !b,by simp [execOp,ay,hA,Op.unary],.v rfl⟩

theorem abq {src dst x d k fk n} (ay : o.op = .convert src dst x) (ao : Tryz.prog.underlying src = some d) (aX : Tryz.prog.underlying dst = some (.int k)) (ar : S.bf x = some (.v (.int fk n))) : Good o S E [x] (.v (.int k (k.wrap n))) := kT fun B a w H af aj aw => by
 have ba := aw.get (by simp) ar
 generalize hA : a.eval x = jK at ba
 cases ba
 exact ⟨.int k (k.wrap n),by simp [execOp,ay,hA,convert,run_underlying ao,run_underlying aX,Conv.intToInt],.v rfl⟩

theorem nn {f : FuncId} {fn : Func} (aW : Tryz.prog.funcs[f]? = some fn) (aJ : fn.body.isSome = true) (a7 : (fn.name == "runtime.NumGoroutine") = false) : Enters f := fun args w => by
 have af : fn.body ≠ none := by intro h; rw [h] at aJ; cases aJ
 have aj : ¬ fn.name = "runtime.NumGoroutine" := by simpa using a7
 simp [callFunc,program,Sem.run,aW,aj,af]

theorem y0 (args : Array Operand) (f : Operand → Value) : (args.toList.map f).toArray = args.map f := by apply Array.ext'; simp

theorem abn {f args hE l r} (ay : o.op = .call ⟨.value (.func f),args,hE⟩) (bK : Enters f) (aF : S.args args.toList = some l) (ax : cu f l r) : Good o S E args.toList r := by
 intro B a w H af aj aw
 have br := tx aj aw aF
 have az := ax w H _ af br
 have e : (execOp a.eval o).run Tryz.prog w = .ok (.enter f (args.toList.map a.eval).toArray) w := by
  have := bK (args.map a.eval) w
  rw [y0]
  simp [execOp,ay,resolve,Act.eval,Deferred.ofValue,invoke]
  exact this
 unfold Oper.wp
 rw [e,Oper.upon_enter]
 refine Calls.mono az fun e1 w' he => ?_
 obtain ⟨v,H',rfl,aH,xj⟩ := he
 exact ⟨v,H',rfl,aH,xj.mono (fun _ _ h => h) (lB _)⟩

theorem abp {x args hE l r f first cap} (ay : o.op = .call ⟨.value x,args,hE⟩) (ar : S.bf x = some (.fn (.func f) first cap)) (bK : Enters f) (aF : S.args args.toList = some l) (ax : cu f (first ++ l ++ cap) r) : Good o S E (x :: args.toList) r := by
 intro B a w H af aj aw
 have br := tx aj (fun x ar => aw x (by simp [ar])) aF
 have bs := aw.get (by simp) ar
 generalize aS : a.eval x = q at bs
 cases bs with
 | fn f1 f2 =>
  rename_i vs us
  have az := ax w H _ af ((f1.append br).append f2)
  have e : (execOp a.eval o).run Tryz.prog w = .ok (.enter f ((vs ++ args.toList.map a.eval) ++ us).toArray) w := by
   have := bK ((vs ++ args.toList.map a.eval) ++ us).toArray w
   have a8 : ((vs ++ args.toList.map a.eval) ++ us).toArray = vs.toArray ++ args.map a.eval ++ us.toArray := by apply Array.ext'; simp
   rw [a8] at this ⊢
   simp only [execOp,ay,resolve,aS,Deferred.ofValue,invoke,Sem.run_bind,Sem.run_pure,Result.andThen_ok]
   exact this
  unfold Oper.wp
  rw [e,Oper.upon_enter]
  refine Calls.mono az fun e1 w' he => ?_
  obtain ⟨v,H',rfl,aH,xj⟩ := he
  exact ⟨v,H',rfl,aH,xj.mono (fun _ _ h => h) (lB _)⟩

theorem abu {op xs l r} (ay : o.op = op) (aF : S.args xs = some l) (ax : rl op xs l r) : Good o S E xs r := by
 intro B a w H af aj aw
 have br := tx aj aw aF
 refine Oper.CH ?_ (ax o a w H ay af br)
 rintro dD w' ⟨v,H',e,aH,xj⟩
 exact ⟨v,H',e,aH,xj.mono (fun _ _ h => h) (lB _)⟩
theorem abo {x args hE l r f name t s first cap} (ay : o.op = .call ⟨.value x,args,hE⟩) (ar : S.bf x = some (.fn (.method name) (.dr t s :: first) cap)) (hm : rr t name f) (bK : Enters f) (aF : S.args args.toList = some l) (ax : cu f (s :: (first ++ l)) r) : Good o S E (x :: args.toList) r := by
 intro B a w H af aj aw
 have br := tx aj (fun x ar => aw x (by simp [ar])) aF
 have bs := aw.get (by simp) ar
 generalize aS : a.eval x = q at bs
 cases bs with
 | fn f1 f2 =>
  rename_i vs us
  cases f1 with
  | cons aq f1 =>
   rename_i u vs
   cases aq with
   | dr aq =>
    rename_i u
    have az := ax w H _ af (.cons aq (f1.append br))
    have e : (execOp a.eval o).run Tryz.prog w = .ok (.enter f (u :: (vs ++ args.toList.map a.eval)).toArray) w := by
     have := bK (u :: (vs ++ args.toList.map a.eval)).toArray w
     have sV := hm u w
     have a8 : (u :: (vs ++ args.toList.map a.eval)).toArray = #[u] ++ (vs.toArray ++ args.map a.eval) := by apply Array.ext'; simp
     have cg : (((Value.iface t u :: vs).toArray ++ args.map a.eval).extract 1 ((Value.iface t u :: vs).toArray ++ args.map a.eval).size) = vs.toArray ++ args.map a.eval := by
      apply Array.ext'; simp
      rw [List.take_of_length_le (by omega),List.take_of_length_le (by simp)]
     have e7 : ((Value.iface t u :: vs).toArray ++ args.map a.eval)[0]? = some (Value.iface t u) := by rw [Array.getElem?_append_left (by simp)]; rfl
     rw [a8] at this ⊢
     simp only [execOp,ay,resolve,aS,Deferred.ofValue,invoke,Sem.run_bind,Sem.run_pure,Result.andThen_ok,e7,callMethod,cg,run_program,sV]
     exact this
    unfold Oper.wp
    rw [e,Oper.upon_enter]
    refine Calls.mono az fun e1 w' he => ?_
    obtain ⟨v,H',rfl,aH,xj⟩ := he
    exact ⟨v,H',rfl,aH,xj.mono (fun _ _ h => h) (lB _)⟩
theorem abA {f first cap l1 l2} (ay : o.op = .makeFunc f first cap) (tN : S.args first.toList = some l1) (H5 : S.args cap.toList = some l2) : Good o S E (first.toList ++ cap.toList) (.fn f l1 l2) := kT fun B a w H af aj aw => by
 have A := tx aj (fun x ar => aw x (by simp [ar])) tN
 have C := tx aj (fun x ar => aw x (List.mem_append.2 (.inr ar))) H5
 have R := ca.fn (E := E) (f := f) A C
 rw [y0,y0] at R
 exact ⟨_,by simp [execOp,ay,Instr.makeFunc],R⟩

theorem abB {t x d s} (ay : o.op = .makeInterface t x) (aX : Tryz.prog.underlying t = some d) (a7 : ∀ ms,d ≠ .interface ms) (ar : (S.bf x).bind S.arg = some s) : Good o S E [x] (.dr t s) := kT fun B a w H af aj aw => by
 obtain ⟨y,a1,ao⟩ := Option.bind_eq_some_iff.1 ar
 have ba := z8 aj (aw.get (by simp) a1) ao
 refine ⟨.iface t (a.eval x),?_,.dr ba⟩
 cases d <;> simp [execOp,ay,Instr.makeInterface,run_underlying aX] <;> exact absurd rfl (a7 _)

theorem abF {c x y ev s} (ay : o.op = .pick c x y) (az : S.bf c = some (.v (.bool ev))) (tN : ev = true → S.bf x = some s) (H5 : ev = false → S.bf y = some s) : Good o S E [c,x,y] s := kT fun B a w H af aj aw => by
 have ba := aw.get (by simp) az
 generalize aS : a.eval c = q at ba
 cases ba
 cases ev
 ·exact ⟨a.eval y,by simp [execOp,ay,aS,asBool],aw.get (by simp) (H5 rfl)⟩
 ·exact ⟨a.eval x,by simp [execOp,ay,aS,asBool],aw.get (by simp) (tN rfl)⟩

theorem OG {x y hE k p q} {mx : Bool} (ay : o.op = .call ⟨.builtin (if mx then .max else .min),#[x,y],hE⟩) (ar : S.bf x = some (.v (.int k p))) (a1 : S.bf y = some (.v (.int k q))) : Good o S E [x,y] (.v (.int k (if mx then max p q else min p q))) := kT fun B a w H af aj aw => by
 have ba := aw.get (by simp) ar
 have gJ := aw.get (by simp) a1
 generalize hA : a.eval x = jK at ba
 generalize iy : a.eval y = hh at gJ
 cases ba; cases gJ
 refine ⟨.int k (if mx then max p q else min p q),?_,.v rfl⟩
 cases mx
 ·simp [execOp,ay,resolve,hA,iy,invoke,builtin,Builtin.min_,Builtin.min2]
  split <;> omega
 ·simp [execOp,ay,resolve,hA,iy,invoke,builtin,Builtin.max_,Builtin.max2]
  split <;> omega

theorem D1 {x s} (ay : o.op = .nilCheck x) (ar : S.bf x = some s) (ao : (∃ i idx o,s = .ptr i idx o) ∨ (∃ e o,s = .dc e o) ∨ (∃ f a b,s = .fn (.func f) a b) ∨ ∃ t y,s = .dr t y) : Good o S E [x] s := kT fun B a w H af aj aw => by
 have ba := aw.get (by simp) ar
 refine ⟨a.eval x,?_,ba⟩
 generalize aS : a.eval x = q at ba
 rcases ao with ⟨i,idx,o',rfl⟩ | ⟨e,o',rfl⟩ | ⟨f,b,c,rfl⟩ | ⟨t,y,rfl⟩ <;> cases ba <;> simp [execOp,ay,aS]
end

theorem N3 : ∀ (l : List Value) (nE off : Nat) (cs : Array Value),off + nE + l.length ≤ cs.size →
  ((l.zipIdx nE).foldl (fun (cs : Array Value) (p : Value × Nat) => cs.setIfInBounds (off + p.2) p.1) cs).toList = cs.toList.take (off + nE) ++ l ++ cs.toList.drop (off + nE + l.length)
 | [],nE,off,cs,h => by simp
 | v :: l,nE,off,cs,h => by
  simp only [List.zipIdx_cons,List.foldl_cons]
  simp only [List.length_cons] at h
  rw [N3 l (nE + 1) off _ (by simp; omega)]
  have a2 : ((cs.setIfInBounds (off + nE) v).toList.take (off + (nE + 1))) = cs.toList.take (off + nE) ++ [v] := by
   simp only [Array.toList_setIfInBounds]
   rw [show off + (nE + 1) = (off + nE) + 1 by omega,List.take_add_one,List.getElem?_set_self (by simp; omega),List.take_set_of_le (by omega)]; rfl
  have a8 : ((cs.setIfInBounds (off + nE) v).toList.drop (off + (nE + 1) + l.length)) = cs.toList.drop (off + nE + (v :: l).length) := by
   simp only [Array.toList_setIfInBounds]
   rw [List.drop_set_of_lt (by omega)]
   congr 1; simp; omega
  rw [a2,a8]; simp

theorem NU {pl : Nat → Option (Nat × Nat)} {zc : Array Value} {i off : Nat} {v : Value} {rest : List (Nat × Value)} (hp : pl i = some (off,v.cells.size)) (aF : off + v.cells.size ≤ zc.size) :
  ∃ wh : Array Value,Instr.fill pl zc ((i,v) :: rest) = Instr.fill pl wh rest ∧ wh.toList = zc.toList.take off ++ v.cells.toList ++ zc.toList.drop (off + v.cells.size) := by
 refine ⟨v.cells.zipIdx.foldl (fun cs (c,j) => cs.setIfInBounds (off + j) c) zc,?_,?_⟩
 ·have af : ¬ (zc.size < off + v.cells.size) := by omega
  simp [Instr.fill,hp,af]
 ·have := N3 v.cells.toList 0 off zc (by simpa using aF)
  rw [← Array.foldl_toList]
  simpa using this

section
variable {o : Oper} {S : ak} {E : Env} {H : bg} {B : Nat} {w : World}

theorem GU {p : av → Bool} {cs l : List av} {a b : Nat} (h : cs.all p = true) (dh : l.all p = true) : (cs.take a ++ l ++ cs.drop b).all p = true := by
 rw [List.all_eq_true] at *
 intro x ar
 rcases List.mem_append.1 ar with ar | ar
 ·rcases List.mem_append.1 ar with ar | ar
  ·exact h x (List.mem_of_mem_take ar)
  ·exact dh x ar
 ·exact h x (List.mem_of_mem_drop ar)

theorem HC {pl : Nat → Option (Nat × Nat)} {a : Act} : ∀ (parts : List (Nat × Operand)) (ps : List (Nat × Nat × Operand)) (cs cs' : List av) (zc : Array Value),parts.mapM (fun p => (pl p.1).map fun q => (q.1,q.2,p.2)) = some ps →
  db H E cs zc.toList → cs.all av.one = true → rB S cs ps = some cs' → ow S E H a (ps.map (·.2.2)) → ∃ out,Instr.fill pl zc (parts.map fun p => (p.1,a.eval p.2)) = some out ∧ db H E cs' out.toList ∧ cs'.all av.one = true
 | [],ps,cs,cs',zc,hp,ax,af,aW,_ => by
  simp at hp; subst hp
  simp only [rB,Option.some.injEq] at aW; subst aW
  exact ⟨zc,rfl,ax,af⟩
 | (i,x) :: parts,ps,cs,cs',zc,hp,ax,af,aW,ay => by
  simp only [List.mapM_cons,Option.bind_eq_bind,Option.pure_def] at hp
  cases fa : pl i with
  | none => simp [fa] at hp
  | some q =>
   cases Jk : parts.mapM (fun p => (pl p.1).map fun q => (q.1,q.2,p.2)) with
   | none => rw [Jk] at hp; simp [fa] at hp
   | some rest =>
    rw [Jk] at hp
    simp [fa] at hp
    subst hp
    obtain ⟨off,jg⟩ := q
    simp only [rB,Option.bind_eq_some_iff] at aW
    obtain ⟨s,ao,aW⟩ := aW
    split at aW
    ·rename_i az
     obtain ⟨cw,c2,eE⟩ := az
     have ba := ay.get (y := s) (x := x) (by simp) ao
     have hC := yo ba eE
     have hlen := hC.length
     have aea := ax.length
     simp only [Array.length_toList] at hlen aea
     obtain ⟨wh,f1,f2⟩ := NU (pl := pl) (zc := zc) (i := i) (off := off) (v := a.eval x) (rest := parts.map fun p => (p.1,a.eval p.2)) (by rw [fa,← cw,hlen]) (by omega)
     have rK : db H E (cs.take off ++ s.cells ++ cs.drop (off + jg)) wh.toList := by
      rw [f2,← hlen,cw]
      exact ((ax.take off).append hC).append (ax.drop _)
     obtain ⟨out,g1,bQ,gy⟩ := HC parts rest _ cs' wh Jk rK (GU af eE) aW (fun y a1 => ay y (by simp at a1 ⊢; exact .inr a1))
     exact ⟨out,by rw [List.map_cons,f1]; exact g1,bQ,gy⟩
    ·cases aW

theorem abl {t parts ps it z cs} {dz : List dX} {pl : Nat → Option (Nat × Nat)} (ay : o.op = .build t parts) (IH : Tryz.prog.info? t = some it) (bO : it.zero = some z) (hB : z.cells.toList = dz.map dX.val)
  (aJ : ∀ l6,Tryz.prog.built t l6 = Instr.fill pl z.cells l6) (hp : parts.toList.mapM (fun p => (pl p.1).map fun q => (q.1,q.2,p.2)) = some ps) (aW : rB S (dz.map dX.hX) ps = some cs) : Good o S E (ps.map (·.2.2)) (.agg cs) := kT fun B a w H af aj aw => by
 obtain ⟨out,g1,bQ,gy⟩ := HC (H := H) (E := E) (a := a) parts.toList ps _ cs z.cells hp (by rw [hB]; exact yd H E dz) (zE dz) aW aw
 refine ⟨.agg out,?_,by have := ca.agg bQ gy; simpa using this⟩
 have := run_build (P := Tryz.prog) w t (parts.map fun (i,x) => (i,a.eval x)) out (by rw [aJ]; simpa using g1)
 simp only [execOp,ay,Sem.run_bind,this,Result.andThen_ok]; rfl

theorem Hq (cX : m4 B S E w H) {a : Act} {k : Nat} : ∀ {xs : List Operand} {es},ow S E H a xs → S.elems k xs = some es →
  eD H k es ((xs.map a.eval).flatMap fun v => v.cells.toList) ∧ es.length = xs.length ∧ ∀ v ∈ xs.map a.eval,v.cells.size = k
 | [],_,_,h => by simp only [ak.elems,Option.some.injEq] at h; subst h; exact ⟨.nil,rfl,by simp⟩
 | x :: l,_,ay,aZ => by
  simp only [ak.elems,Option.bind_eq_some_iff] at aZ
  obtain ⟨y,⟨z,bO,a1⟩,aZ⟩ := aZ
  split at aZ
  ·rename_i az
   obtain ⟨cw,c2,eE⟩ := az
   simp only [Option.map_eq_some_iff] at aZ
   obtain ⟨q3,aF,rfl⟩ := aZ
   have ba := z8 cX (ay.get (by simp) bO) a1
   have hC := yo ba c2
   have hlen := hC.length
   obtain ⟨i1,i2,i3⟩ := Hq cX (fun x ar => ay x (by simp [ar])) aF
   refine ⟨.cons hC (by rw [← hlen]; exact cw) c2 i1,by simp [i2],fun v bj => ?_⟩
   rcases List.mem_cons.1 bj with rfl | bj
   ·simp at hlen; omega
   ·exact i3 v bj
  ·cases aZ

theorem HD {k : Nat} : ∀ (l6 : List Value) (j : Nat) (zc : Array Value),(∀ v ∈ l6,v.cells.size = k) → zc.size = (j + l6.length) * k →
  ∃ out,Instr.fill (fun i => some (i * k,k)) zc (idxs j l6) = some out ∧ out.toList = zc.toList.take (j * k) ++ l6.flatMap fun v => v.cells.toList
 | [],j,zc,_,bO => ⟨zc,rfl,by simp at bO ⊢; rw [List.take_of_length_le (by simp [bO])]⟩
 | v :: l6,j,zc,bj,bO => by
  have aB := bj v (by simp)
  have anr : zc.size = j * k + k + l6.length * k := by rw [bO]; simp [Nat.add_mul]; omega
  obtain ⟨wh,f1,f2⟩ := NU (pl := fun i => some (i * k,k)) (zc := zc) (i := j) (off := j * k) (v := v) (rest := idxs (j + 1) l6) (by rw [aB]) (by omega)
  have ao : wh.size = (j + 1 + l6.length) * k := by
   have := congrArg List.length f2
   simp [aB] at this
   rw [this,Nat.add_mul,Nat.add_mul]; omega
  obtain ⟨out,g1,bQ⟩ := HD l6 (j + 1) wh (fun u hu => bj u (by simp [hu])) ao
  refine ⟨out,by simp only [idxs]; rw [f1]; exact g1,?_⟩
  rw [bQ,f2]
  have : (j + 1) * k = j * k + k := by rw [Nat.add_mul]; omega
  rw [this,List.take_append_of_le_length (by simp [aB]; omega),List.take_of_length_le (by simp [aB]; omega)]
  simp

theorem Jy {α β : Type} (f : α → β) : ∀ (j : Nat) (l : List α),idxs j (l.map f) = (idxs j l).map fun p => (p.1,f p.2)
 | _,[] => rfl
 | j,x :: l => by simp [idxs,Jy f (j + 1) l]

theorem Ro {k : Nat} {es : List (List av)} {cells : Array Value} {e : TypeId} {n : Nat} {full : Nat} (ao : Sub H w) (h : eD H k es cells.toList) (a7 : es.length = n) (hm : n ≤ maxLen) :
  Grow w H (w.alloc (.cells cells e)) (H.add w.heap.size (.cells cells e (0,0))) ∧ ca (H.add w.heap.size (.cells cells e (0,0))) E (.au k full es) (.slice (some ⟨w.heap.size,0,none⟩) n n) := by
 refine ⟨((Grow.refl ao).alloc _).add (heap_alloc_new w _) (Nat.le_refl _),.au (h.mono (bg.wB (ao.none (Nat.le_refl _)))) a7 (Nat.le_refl _) hm ⟨fun _ => rfl,fun _ h => h⟩ (fun e => by cases e) (fun j u hu => ?_)⟩
 exact ⟨_,0,_,_,_,rfl,bg.wA _ _ _,by simpa using hu⟩

theorem abm {t e i z parts xs es} (ay : o.op = .buildSlice t xs.length parts) (hu : Tryz.prog.underlying t = some (.slice e)) (aq : Tryz.prog.info? e = some i) (bO : i.zero = some z) (hB : z.cells.size = i.size) (fz : 0 < i.size)
  (hp : parts.toList = idxs 0 xs) (aF : xs.length * i.size ≤ 16777216) (he : S.elems i.size xs = some es) : Good o S E xs (.au i.size 0 es) := Az fun B a w H af aj aw => by
 obtain ⟨et,dP,nL⟩ := Hq aj aw he
 have H6 : ¬ (16777216 < xs.length * i.size) := by omega
 obtain ⟨nR,oO⟩ : ∃ nR,nR = if xs.length * i.size = 0 then (#[] : Array Value) else z.cells := ⟨_,rfl⟩
 obtain ⟨out,g1,bQ⟩ := HD (k := i.size) (xs.map a.eval) 0 ((Array.range (xs.length * i.size)).map (nR[· % nR.size]!)) nL (by simp)
 have AS : Instr.fill (fun j => some (j * i.size,i.size)) ((Array.range (xs.length * i.size)).map (nR[· % nR.size]!)) (parts.map fun (i,x) => (i,a.eval x)).toList = some out := by
  rw [← g1,Jy]; simp [hp]
 have bK : eD H i.size es out.toList := by rw [bQ]; simpa using et
 have hlen : xs.length ≤ maxLen := by unfold maxLen; have := Nat.le_mul_of_pos_right xs.length fz; omega
 obtain ⟨bL,cd⟩ := Ro (E := E) (e := e) (full := 0) af bK dP hlen
 refine ⟨.slice (some ⟨w.heap.size,0,none⟩) xs.length xs.length,_,_,?_,bL,cd⟩
 have AE : ¬ (xs.length * i.size > 2 ^ 24) := by simpa using H6
 have AT : Instr.fill (fun j => some (j * i.size,i.size)) ((Array.range (xs.length * i.size)).map (nR[· % nR.size]!)) (parts.toList.map fun p => (p.1,a.eval p.2)) = some out := by simpa using AS
 clear AS g1
 by_cases bb : xs.length * i.size = 0
 ·rw [if_pos bb] at oO
  subst oO
  simp only [execOp,ay,Instr.buildSlice,Sem.run_bind,run_underlying hu,Result.andThen_ok,run_sizeOf aq,Sem.run_pure,if_neg AE,if_pos bb,Array.toList_map,AT]
  rfl
 ·rw [if_neg bb] at oO
  subst oO
  simp only [execOp,ay,Instr.buildSlice,Sem.run_bind,run_underlying hu,Result.andThen_ok,run_sizeOf aq,Sem.run_pure,if_neg AE,if_neg bb,Array.toList_map,AT,xO aq bO]
  rfl
theorem aht {t e i z parts xs es} {B : Nat} {a : Act} {w : World} {H : bg} (ay : o.op = .buildSlice t xs.length parts) (hu : Tryz.prog.underlying t = some (.slice e)) (aq : Tryz.prog.info? e = some i) (bO : i.zero = some z) (hB : z.cells.size = i.size) (fz : 0 < i.size)
  (hp : parts.toList = idxs 0 xs) (aF : xs.length * i.size ≤ 16777216) (he : S.elems i.size xs = some es) (aj : m4 B S E w H) (aw : ow S E H a xs) :
  ∃ out : Array Value,(execOp a.eval o).run Tryz.prog w = .ok (.value (.slice (some ⟨w.heap.size,0,none⟩) xs.length xs.length)) (w.alloc (.cells out e)) ∧ eD H i.size es out.toList ∧ es.length = xs.length := by
 obtain ⟨et,dP,nL⟩ := Hq aj aw he
 have H6 : ¬ (16777216 < xs.length * i.size) := by omega
 obtain ⟨nR,oO⟩ : ∃ nR,nR = if xs.length * i.size = 0 then (#[] : Array Value) else z.cells := ⟨_,rfl⟩
 obtain ⟨out,g1,bQ⟩ := HD (k := i.size) (xs.map a.eval) 0 ((Array.range (xs.length * i.size)).map (nR[· % nR.size]!)) nL (by simp)
 have AS : Instr.fill (fun j => some (j * i.size,i.size)) ((Array.range (xs.length * i.size)).map (nR[· % nR.size]!)) (parts.map fun (i,x) => (i,a.eval x)).toList = some out := by
  rw [← g1,Jy]; simp [hp]
 have bK : eD H i.size es out.toList := by rw [bQ]; simpa using et
 have hlen : xs.length ≤ maxLen := by unfold maxLen; have := Nat.le_mul_of_pos_right xs.length fz; omega
 refine ⟨out,?_,bK,dP⟩
 have AE : ¬ (xs.length * i.size > 2 ^ 24) := by simpa using H6
 have AT : Instr.fill (fun j => some (j * i.size,i.size)) ((Array.range (xs.length * i.size)).map (nR[· % nR.size]!)) (parts.toList.map fun p => (p.1,a.eval p.2)) = some out := by simpa using AS
 clear AS g1
 by_cases bb : xs.length * i.size = 0
 ·rw [if_pos bb] at oO
  subst oO
  simp only [execOp,ay,Instr.buildSlice,Sem.run_bind,run_underlying hu,Result.andThen_ok,run_sizeOf aq,Sem.run_pure,if_neg AE,if_pos bb,Array.toList_map,AT]
  rfl
 ·rw [if_neg bb] at oO
  subst oO
  simp only [execOp,ay,Instr.buildSlice,Sem.run_bind,run_underlying hu,Result.andThen_ok,run_sizeOf aq,Sem.run_pure,if_neg AE,if_neg bb,Array.toList_map,AT,xO aq bO]
  rfl
end
end Go.Proofs.YtkmbcjnaaokilaaGreatDoor
