/-
  The arguments of layer 4's laws.
-/
import Derived.Test.YtkmbcjnaaokilaaGreatDoorMC
import Derived.Test.YtkmbcjnaaokilaaGreatDoorMK25
import Derived.Test.YtkmbcjnaaokilaaGreatDoorK12n
import Derived.Test.YtkmbcjnaaokilaaGreatDoorK12q
namespace Go.Proofs.YtkmbcjnaaokilaaGreatDoor
set_option linter.unusedSimpArgs false
set_option linter.unusedVariables false
open Go.ChangeShapes Go.WideShapes Go.ChangeAt Go.RowKit Go.Deep Go.Maps
theorem E3 {α : Type} {p : ks} {e : α → List av} {Q : α → Prop} (h : ∀ d,kN p d → ∃ x,mo p d = e x ∧ Q x) : ∀ (xs : List nT),(∀ x ∈ xs,kN p x) → ∃ ys : List α,xs.map (fun x => mo p x) = ys.map e ∧ ∀ y ∈ ys,Q y
 | [],_ => ⟨[],rfl,fun y a1 => by cases a1⟩
 | x :: xs,ar => by
  obtain ⟨y,af,aj⟩ := h x (ar x (List.mem_cons_self ..))
  obtain ⟨ys,aw,aV⟩ := E3 h xs (fun z bO => ar z (List.mem_cons_of_mem _ bO))
  refine ⟨y :: ys,by simp only [List.map_cons,af,aw],fun z bO => ?_⟩
  rcases List.mem_cons.1 bO with rfl | bO
  ·exact aj
  ·exact aV z bO
theorem y3 {k : IntKind} {d : nT} (h : kN (.int k) d) : ∃ n,d = .i n ∧ k.min ≤ n ∧ n ≤ k.max := by
 cases d with
 | i n => exact ⟨n,rfl,h⟩
 | _ => exact h.elim
theorem agL {d : nT} (h : kN .bool d) : ∃ b,d = .b b := by
 cases d with
 | b b => exact ⟨b,rfl⟩
 | _ => exact h.elim
theorem Kj {k : Nat} {e : ks} {d : nT} (h : kN (.au k e) d) : ∃ xs,d = .l xs ∧ ∀ x ∈ xs,kN e x := by
 cases d with
 | l xs => exact ⟨xs,rfl,h⟩
 | _ => exact h.elim
theorem xC {p q : ks} {d : nT} (h : kN (.cons p q) d) : ∃ a b,d = .cons a b ∧ kN p a ∧ kN q b := by
 cases d with
 | cons a b => exact ⟨a,b,rfl,h.1,h.2⟩
 | _ => exact h.elim
theorem Ki {d : nT} (h : kN .nil d) : d = .nil := by
 cases d with
 | nil => rfl
 | _ => exact h.elim
def MV (w : bq) : Prop := (-9223372036854775808 ≤ w.val ∧ w.val ≤ 9223372036854775807) ∧ (0 ≤ w.eZ ∧ w.eZ ≤ 4294967295) ∧ (0 ≤ w.ref ∧ w.ref ≤ 4294967295)
structure UO (a : dB) : Prop where
 op : -9223372036854775808 ≤ a.op ∧ a.op ≤ 9223372036854775807
 place : Db a.place
 old : MV a.old
 new : MV a.new
structure ak9 (d : U0) : Prop where
 act : UO d.act
abbrev Kp : ks := .cons (.int .u8) (.cons (.int .u8) .nil)
abbrev uA : ks := .cons .bool (.cons (.int .u8) .nil)
abbrev u8 (n : Int) : av := .v (.int .u8 n)
structure fi where
 n1 : Bool
 n : Int
abbrev yt (o : fi) : List av := [dH o.n1,u8 o.n]
abbrev nZ (l : List fi) : List av := [.au 2 2 (l.map yt)]
theorem ag7 : qn Tryz.prog 8 46 = some Kp := by kernel_rfl
theorem ag5 : qn Tryz.prog 8 47 = some (.au 1 (.au 2 uA)) := by kernel_rfl
theorem agR {d : nT} (h : kN Kp d) : ∃ x : Int × Int,mo Kp d = [u8 x.1,u8 x.2] ∧ (0 ≤ x.1 ∧ x.1 ≤ 255) ∧ (0 ≤ x.2 ∧ x.2 ≤ 255) := by
 obtain ⟨a,d,rfl,aZ,h⟩ := xC h
 obtain ⟨b,d,rfl,aJ,h⟩ := xC h
 obtain rfl := Ki h
 obtain ⟨a,rfl,aZ⟩ := y3 aZ
 obtain ⟨b,rfl,aJ⟩ := y3 aJ
 exact ⟨(a,b),rfl,aZ,aJ⟩
theorem agM {d : nT} (h : kN uA d) : ∃ x,mo uA d = yt x ∧ 0 ≤ x.n ∧ x.n ≤ 255 := by
 obtain ⟨_,_,rfl,af,h⟩ := xC h
 obtain ⟨_,_,rfl,aj,h⟩ := xC h
 obtain rfl := Ki h
 obtain ⟨a,rfl⟩ := agL af
 obtain ⟨b,rfl,c4⟩ := y3 aj
 exact ⟨⟨a,b⟩,rfl,c4⟩
theorem agN {d : nT} (h : kN (.au 2 uA) d) : ∃ l : List fi,mo (.au 2 uA) d = nZ l ∧ ∀ x ∈ l,0 ≤ x.n ∧ x.n ≤ 255 := by
 obtain ⟨xs,rfl,c4⟩ := Kj h
 obtain ⟨ws,a8,dm⟩ := E3 (fun d h => agM h) xs c4
 exact ⟨ws,by show [av.au 2 2 (xs.map fun x => mo uA x)] = _; rw [a8],dm⟩
theorem agO {d : nT} (h : kN (.au 1 (.au 2 uA)) d) : ∃ l : List (List fi),mo (.au 1 (.au 2 uA)) d = [.au 1 2 (l.map nZ)] ∧ ∀ a ∈ l,∀ x ∈ a,0 ≤ x.n ∧ x.n ≤ 255 := by
 obtain ⟨xs,rfl,c4⟩ := Kj h
 obtain ⟨ws,a8,dm⟩ := E3 (fun d h => agN h) xs c4
 exact ⟨ws,by show [av.au 1 2 (xs.map fun x => mo (.au 2 uA) x)] = _; rw [a8],dm⟩
abbrev y7 : ks := .cons (.int .i64) (.cons (.int .i64) (.cons (.int .i64) .nil))
theorem ag6 : qn Tryz.prog 8 48 = some (.au 3 y7) := by kernel_rfl
theorem agP {d : nT} (h : kN y7 d) : ∃ x,mo y7 d = sN x := by
 obtain ⟨_,_,rfl,af,h⟩ := xC h
 obtain ⟨_,_,rfl,aj,h⟩ := xC h
 obtain ⟨_,_,rfl,aw,h⟩ := xC h
 obtain rfl := Ki h
 obtain ⟨a,rfl,bE⟩ := y3 af
 obtain ⟨b,rfl,c4⟩ := y3 aj
 obtain ⟨c,rfl,cw⟩ := y3 aw
 exact ⟨⟨a,b,c⟩,rfl⟩
theorem agQ {d : nT} (h : kN (.au 3 y7) d) : ∃ ps : List kO,mo (.au 3 y7) d = [.au 3 2 (ps.map sN)] ∧ True := by
 obtain ⟨xs,rfl,c4⟩ := Kj h
 obtain ⟨ws,a8,dm⟩ := E3 (Q := fun _ => True) (fun d h => by obtain ⟨x,ar⟩ := agP h; exact ⟨x,ar,trivial⟩) xs c4
 exact ⟨ws,by show [av.au 3 2 (xs.map fun x => mo y7 x)] = _; rw [a8],trivial⟩
section
variable {H : Type} {enc : TypeId × Value → H} {P : Program} {W : World} {base : Nat} {spare : Nat → Bool} {held : Bool}
theorem Zz {t e : TypeId} {n : Nat} {v : Value} {d : DataW H} {ps : List MemPlace} {r : Reach} {ha m : Nat} {p : ks} (hu : P.underlying t = some (.array n e)) (aB : qn P m t = some p)
  (pn : Value.okWide P W r ha t v) (aX : DataW.Trod enc P W base spare held t v d ps) : ∃ q,kN p q ∧ ca (pP W) ep (.agg (mo p q)) v := by
 obtain ⟨cs,rfl⟩ : ∃ cs,v = .agg cs := by
  unfold Value.okWide at pn
  rw [hu] at pn
  obtain ⟨cs,h,_⟩ := pn
  exact ⟨cs,h⟩
 obtain ⟨fuel,aW⟩ := aX
 obtain ⟨q,bL,cd,dV⟩ := B5 m t p fuel _ _ aB aW
 exact ⟨q,bL,by have := ca.agg cd dV; simpa [Value.cells] using this⟩
end
end Go.Proofs.YtkmbcjnaaokilaaGreatDoor
namespace Go.Proofs.YtkmbcjnaaokilaaGreatDoor
set_option linter.unusedSimpArgs false
set_option linter.unusedVariables false
open Go.RowKit Go.Maps
structure da where
 l : cc
 ops : List fi
 now : Option e5
 has : List Nat
 iN : List Int
 bad : Bool
def wv (o : fi) : Prop := 0 ≤ o.n ∧ o.n ≤ 255
def u3 (l : cc) : e5 → Prop
 | .c9 s => 0 ≤ s.block ∧ s.block < l.blocks
 | .ec s => (s.block : Int) < l.blocks
def nj (l : cc) (has : List Nat) : Prop := ∃ U : Nat → Bool,has = (List.range l.blocks.toNat).filter U
theorem nj.lt {l : cc} {has : List Nat} (h : nj l has) {b : Nat} (aJ : b ∈ has) : b < l.blocks.toNat := by
 obtain ⟨U,rfl⟩ := h
 exact List.mem_range.1 (List.mem_filter.1 aJ).1
theorem nj.len {l : cc} {has : List Nat} (h : nj l has) : has.length ≤ l.blocks.toNat := by
 obtain ⟨U,rfl⟩ := h
 exact Nat.le_trans (List.length_filter_le _ _) (by simp)
theorem nj.out {l : cc} {has : List Nat} (h : nj l has) (b : Nat) : nj l (has.filter (fun x => x != b)) := by
 obtain ⟨U,rfl⟩ := h
 exact ⟨_,akR U _ b⟩
theorem nj.put {l : cc} {has : List Nat} (h : nj l has) {b : Nat} (aJ : b < l.blocks.toNat) : nj l (gM has b false) := by
 obtain ⟨U,rfl⟩ := h
 exact ⟨_,Me U aJ⟩
theorem nj.ae0 {l : cc} {has : List Nat} (h : nj l has) {b c : Nat} (aJ : b < l.blocks.toNat) : c ∈ gM has b false ↔ c ∈ has ∨ c = b := by
 obtain ⟨U,rfl⟩ := h
 rw [Me U aJ,List.mem_filter,List.mem_filter,List.mem_range]
 simp only [Bool.or_eq_true,decide_eq_true_eq]
 constructor
 ·rintro ⟨af,aj | aj⟩
  ·exact .inl ⟨af,aj⟩
  ·exact .inr aj.symm
 ·rintro (⟨af,aj⟩ | aj)
  ·exact ⟨af,.inl aj⟩
  ·exact ⟨by omega,.inr aj.symm⟩
structure ju (n : Nat) (s : da) : Prop where
 lay : fj s.l = 0
 len : s.ops.length ≤ 1000
 ops : ∀ o ∈ s.ops,wv o
 now : ∀ a,s.now = some a → oT a ∧ ln a = s.l ∧ u3 s.l a ∧ s.ops ≠ []
 has : nj s.l s.has
 iN : s.iN.length ≤ 2 * n
theorem ju.up {n k : Nat} {s : da} (h : ju n s) (aB : n ≤ k) : ju k s := ⟨h.lay,h.len,h.ops,h.now,h.has,by have := h.iN; omega⟩
theorem P5 (s : g8) : (h6 s).1.block = s.block := by unfold h6; split <;> rfl
theorem N6 {s : g8} (ao : o7 s) (aJ : 0 ≤ s.block ∧ s.block < s.l.blocks) (w : bq) : 0 ≤ (gT s w).1.block ∧ (gT s w).1.block < s.l.blocks := by
 unfold gT
 split
 ·exact aJ
 ·rename_i p ps hp
  have ax := ao.jZ p (by rw [hp]; exact List.mem_cons_self ..)
  split
  ·rename_i i aq
   obtain ⟨af,aj,_,_⟩ := DV aq
   exact ⟨by show (0 : Int) ≤ (i : Int); omega,by show (i : Int) < _; omega⟩
  ·rw [P5]; exact aJ
theorem N4 (s : j2) (w : bq) : (h1 s w).1.block = s.block := by unfold h1; split <;> rfl
theorem aff (s : j2) (g : dW) : (kI s g).1.block = s.block := by
 unfold kI
 split
 ·rfl
 ·split
  ·rfl
  ·exact N4 _ _
  ·split
   ·rfl
   ·exact N4 _ _
theorem BW {a : e5} {l : cc} (h : oT a) (aF : ln a = l) (aJ : u3 l a) (g : dW) : u3 l (cI a g).1 := by
 subst aF
 cases a with
 | c9 s =>
  show 0 ≤ (hU s g).1.block ∧ (hU s g).1.block < s.l.blocks
  have aJ : 0 ≤ s.block ∧ s.block < s.l.blocks := aJ
  unfold hU
  split
  ·exact aJ
  ·split
   ·rw [P5]; exact aJ
   ·exact N6 h.1 aJ _
   ·split
    ·exact aJ
    ·exact N6 h.1 aJ _
 | ec s =>
  show ((kI s g).1.block : Int) < _
  rw [aff]; exact aJ
def pD (has : List Nat) : List fi → List fi
 | [] => []
 | o :: os => if o.n1 = true ∧ has = [] then pD has os else o :: os
def g0 (s : da) (o : fi) : Nat := if o.n1 = true then (s.has[o.n.toNat % s.has.length]?).getD 0 else o.n.toNat % s.l.blocks.toNat
def o9 (s : da) (o : fi) : e5 := if o.n1 = true then .ec (h2 s.l (g0 s o)) else .c9 (fJ s.l (g0 s o))
def wT (s : da) (o : fi) : List Nat := if o.n1 = true then s.has.filter (fun x => x != g0 s o) else s.has
def hF (s : da) : da × dB × Bool := match pD s.has s.ops with
 | [] => ({ s with ops := [] },hi,true)
 | o :: os => ({ s with ops := o :: os,now := some (cI (o9 s o) e4).1,has := wT s o },(cI (o9 s o) e4).2.1,false)
def p3 (s : da) : Bool := (s.ops.head?.map fi.n1).getD false
def ta (s : da) (a : e5) : da := { s with ops := s.ops.tail,now := none,has := if p3 s = false ∧ (fc a).2.1 = 0 then gM s.has (fc a).1.toNat false else s.has,iN := s.iN ++ [(fc a).1,(fc a).2.1],bad := s.bad || !(fc a).2.2 }
def dN (s : da) (g : dW) : da × dB × Bool := match s.now with
 | none => hF s
 | some a => if (cI a g).2.2 = true then hF (ta s (cI a g).1) else ({ s with now := some (cI a g).1 },(cI a g).2.1,false)
theorem TV {has : List Nat} : ∀ {l : List fi} {o : fi},o ∈ pD has l → o ∈ l
 | [],_,h => by cases h
 | x :: xs,o,h => by
  unfold pD at h
  split at h
  ·exact List.mem_cons_of_mem _ (TV h)
  ·exact h
theorem F1 (has : List Nat) : ∀ (l : List fi),(pD has l).length ≤ l.length
 | [] => Nat.le_refl _
 | x :: xs => by
  unfold pD
  split
  ·have := F1 has xs; simp; omega
  ·exact Nat.le_refl _
theorem LO {has : List Nat} : ∀ {l : List fi} {o : fi} {os : List fi},pD has l = o :: os → ¬ (o.n1 = true ∧ has = [])
 | [],_,_,h => by cases h
 | x :: xs,o,os,h => by
  unfold pD at h
  split at h
  ·exact LO h
  ·rename_i a7; cases h; exact a7
theorem LN {has : List Nat} {o : fi} {os : List fi} : pD has (o :: os) = if o.n1 = true ∧ has = [] then pD has os else o :: os := rfl
theorem Dx {s : da} (aF : fj s.l = 0) (aJ : 0 < s.l.blocks) (dq : nj s.l s.has) {o : fi} (a7 : ¬ (o.n1 = true ∧ s.has = [])) : ((g0 s o : Nat) : Int) < s.l.blocks := by
 unfold g0
 split
 ·rename_i aH
  have dd : 0 < s.has.length := List.length_pos_iff.2 fun e => a7 ⟨aH,e⟩
  have af : o.n.toNat % s.has.length < s.has.length := Nat.mod_lt _ dd
  rw [List.getElem?_eq_getElem af]
  have := dq.lt (List.getElem_mem af)
  simp only [Option.getD_some]; omega
 ·have : o.n.toNat % s.l.blocks.toNat < s.l.blocks.toNat := Nat.mod_lt _ (by omega)
  omega
theorem ZM {s : da} {o : fi} (aH : o.n1 = true) (a7 : ¬ (o.n1 = true ∧ s.has = [])) : g0 s o ∈ s.has := by
 unfold g0
 rw [if_pos aH]
 have dd : 0 < s.has.length := List.length_pos_iff.2 fun e => a7 ⟨aH,e⟩
 have af : o.n.toNat % s.has.length < s.has.length := Nat.mod_lt _ dd
 rw [List.getElem?_eq_getElem af]
 exact List.getElem_mem af
theorem Q7 {b a : Nat} (h : a < b) : ∃ p ps,k5 b a = p :: ps := by
 unfold k5
 rw [FY h]
 exact ⟨_,_,rfl⟩
theorem Hj {s : da} (aF : fj s.l = 0) {o : fi} (bN : ((g0 s o : Nat) : Int) < s.l.blocks) : oT (o9 s o) ∧ ln (o9 s o) = s.l ∧ u3 s.l (o9 s o) ∧ yz (o9 s o) = false ∧ (cI (o9 s o) e4).2.2 = false := by
 unfold o9
 split
 ·exact ⟨⟨aF,bN⟩,rfl,bN,rfl,rfl⟩
 ·refine ⟨LW aF bN,rfl,⟨by show (0 : Int) ≤ 0; omega,by show (0 : Int) < _; omega⟩,rfl,?_⟩
  obtain ⟨p,ps,hp⟩ := Q7 (b := s.l.blocks.toNat) (a := g0 s o) (by omega)
  show (hU (fJ s.l (g0 s o)) e4).2.2 = false
  unfold hU fJ
  rw [if_neg (by simp)]
  unfold h6
  simp only [hp]
theorem ju.begin {n : Nat} {s : da} (h : ju n s) (aJ : 0 < s.l.blocks) (bb : s.now = none) : ju n (hF s).1 := by
 unfold hF
 split
 ·exact ⟨h.lay,by simp,fun o ay => (by cases ay),fun a aZ => (by rw [show _ = s.now from rfl,bb] at aZ; cases aZ),h.has,h.iN⟩
 ·rename_i o os he
  have a7 := LO he
  have bN := Dx h.lay aJ h.has a7
  obtain ⟨cw,c2,eE,hb,pR⟩ := Hj h.lay bN
  have k0 := xA cw e4
  refine ⟨h.lay,?_,fun o' ay => h.ops o' (TV (has := s.has) (by rw [he]; exact ay)),fun a aZ => ?_,?_,h.iN⟩
  ·have := F1 s.has s.ops; rw [he] at this; have := h.len; simp at *; omega
  ·cases aZ
   exact ⟨k0.1,k0.2.1.trans c2,BW cw c2 eE _,fun e => by cases e⟩
  ·show nj s.l (wT s o)
   unfold wT
   split
   ·exact h.has.out _
   ·exact h.has
theorem ZN {a : e5} {l : cc} (aJ : u3 l a) (hp : 0 < l.blocks) : 0 ≤ (fc a).1 ∧ (fc a).1 < l.blocks := by
 cases a with
 | c9 s =>
  have aJ : 0 ≤ s.block ∧ s.block < l.blocks := aJ
  show 0 ≤ (if s.fin = true then (if s.err ≠ 0 then ((0 : Int),s.err,true) else (s.block,0,true)) else (0,0,false)).1 ∧ (if s.fin = true then (if s.err ≠ 0 then ((0 : Int),s.err,true) else (s.block,0,true)) else (0,0,false)).1 < l.blocks
  split
  ·split
   ·exact ⟨by simp only; omega,by simp only; omega⟩
   ·exact aJ
  ·exact ⟨by simp only; omega,by simp only; omega⟩
 | ec s =>
  have aJ : (s.block : Int) < l.blocks := aJ
  show 0 ≤ (if s.fin = true then ((s.block : Int),s.err,true) else (0,0,false)).1 ∧ (if s.fin = true then ((s.block : Int),s.err,true) else (0,0,false)).1 < l.blocks
  split
  ·exact ⟨by simp only; omega,aJ⟩
  ·exact ⟨by simp only; omega,by simp only; omega⟩
theorem Nb {a : e5} {l : cc} (aJ : u3 l a) (hp : 0 < l.blocks) : (fc a).1.toNat < l.blocks.toNat ∧ (((fc a).1.toNat : Nat) : Int) = (fc a).1 := by
 have := ZN aJ hp
 omega
theorem ju.E7 {n : Nat} {s : da} (h : ju n s) (aJ : 0 < s.l.blocks) {a : e5} (aZ : u3 s.l a) : ju (n + 1) (ta s a) := by
 refine ⟨h.lay,?_,fun o ay => h.ops o (List.mem_of_mem_tail ay),fun a aZ => (by cases aZ),?_,?_⟩
 ·have := h.len; show s.ops.tail.length ≤ _; simp; omega
 ·show nj s.l (if p3 s = false ∧ (fc a).2.1 = 0 then gM s.has (fc a).1.toNat false else s.has)
  split
  ·exact h.has.put (Nb aZ aJ).1
  ·exact h.has
 ·show (s.iN ++ [(fc a).1,(fc a).2.1]).length ≤ _
  have := h.iN
  simp; omega
theorem ju.next {n : Nat} {s : da} (h : ju n s) (aJ : 0 < s.l.blocks) (g : dW) : ju (n + 1) (dN s g).1 := by
 unfold dN
 split
 ·rename_i bb
  exact (h.begin aJ bb).up (by omega)
 ·rename_i a aZ
  obtain ⟨af,aj,aw,aV⟩ := h.now a aZ
  have k0 := xA af g
  split
  ·exact (h.E7 aJ (BW af aj aw g)).begin aJ rfl
  ·refine ⟨h.lay,h.len,h.ops,fun dD tR => ?_,h.has,by have := h.iN; show s.iN.length ≤ _; omega⟩
   cases tR
   exact ⟨k0.1,k0.2.1.trans aj,BW af aj aw g,aV⟩
abbrev Ak (x : Int) : List av := [aI x]
def tH : Option e5 → fF → av
 | none,_ => .v .nilIface
 | some a,L => jk a L
abbrev pT (s : da) (x : av) : List av := [aI s.l.threads,aI s.l.cells,aI s.l.blocks,.au 2 2 (s.ops.map yt),x,.au 1 0 (s.has.map iu),.au 1 0 [],.au 1 0 (s.iN.map Ak),dH s.bad]
def DE (s : da) (L : fF) : av := .dr 72 (.agg (pT s (tH s.now L)))
abbrev fR : dR where
 ak := da × fF
 enc p := DE p.1 p.2
 next p g := (((dN p.1 g).1,p.2),(dN p.1 g).2)
 jy n p := ju n p.1 ∧ 0 < p.1.l.blocks
 up h aB := ⟨h.1.up aB,h.2⟩
 keeps {n s} g h := ⟨h.1.next h.2 g,by
  have : (dN s.1 g).1.l = s.1.l := by
   unfold dN
   split
   ·unfold hF; split <;> rfl
   ·split
    ·unfold hF; split <;> rfl
    ·rfl
  show 0 < (dN s.1 g).1.l.blocks
  rw [this]; exact h.2⟩
 shape p := ⟨_,_,rfl⟩
end Go.Proofs.YtkmbcjnaaokilaaGreatDoor
