/-
  The arguments of layer 4's laws.
-/
import Derived.Test.YtkmbcjnaaokilaaGreatDoorMC
import Derived.Test.YtkmbcjnaaokilaaGreatDoorMK22
import Derived.Test.YtkmbcjnaaokilaaGreatDoorK12n
import Derived.Test.YtkmbcjnaaokilaaGreatDoorK12q
namespace Go.Proofs.YtkmbcjnaaokilaaGreatDoor
set_option linter.unusedSimpArgs false
set_option linter.unusedVariables false
open Go.ChangeShapes Go.WideShapes Go.ChangeAt Go.RowKit Go.Deep Go.Maps
theorem G8 {α : Type} {p : kM} {e : α → List aw} {Q : α → Prop} (h : ∀ d,k8 p d → ∃ x,m1 p d = e x ∧ Q x) : ∀ (xs : List oN),(∀ x ∈ xs,k8 p x) → ∃ ys : List α,xs.map (fun x => m1 p x) = ys.map e ∧ ∀ y ∈ ys,Q y
 | [],_ => ⟨[],rfl,fun y aV => by cases aV⟩
 | x :: xs,ar => by
  obtain ⟨y,af,aj⟩ := h x (ar x (List.mem_cons_self ..))
  obtain ⟨ys,av,aY⟩ := G8 h xs (fun z bR => ar z (List.mem_cons_of_mem _ bR))
  refine ⟨y :: ys,by simp only [List.map_cons,af,av],fun z bR => ?_⟩
  rcases List.mem_cons.1 bR with rfl | bR
  ·exact aj
  ·exact aY z bR
theorem AL {k : IntKind} {d : oN} (h : k8 (.int k) d) : ∃ n,d = .i n ∧ k.min ≤ n ∧ n ≤ k.max := by
 cases d with
 | i n => exact ⟨n,rfl,h⟩
 | _ => exact h.elim
theorem akf {d : oN} (h : k8 .bool d) : ∃ b,d = .b b := by
 cases d with
 | b b => exact ⟨b,rfl⟩
 | _ => exact h.elim
theorem MQ {k : Nat} {e : kM} {d : oN} (h : k8 (.au k e) d) : ∃ xs,d = .l xs ∧ ∀ x ∈ xs,k8 e x := by
 cases d with
 | l xs => exact ⟨xs,rfl,h⟩
 | _ => exact h.elim
theorem zh {p q : kM} {d : oN} (h : k8 (.cons p q) d) : ∃ a b,d = .cons a b ∧ k8 p a ∧ k8 q b := by
 cases d with
 | cons a b => exact ⟨a,b,rfl,h.1,h.2⟩
 | _ => exact h.elim
theorem MP {d : oN} (h : k8 .nil d) : d = .nil := by
 cases d with
 | nil => rfl
 | _ => exact h.elim
def PM (w : bm) : Prop := (-9223372036854775808 ≤ w.val ∧ w.val ≤ 9223372036854775807) ∧ (0 ≤ w.eV ∧ w.eV ≤ 4294967295) ∧ (0 ≤ w.ref ∧ w.ref ≤ 4294967295)
structure Yi (a : dJ) : Prop where
 op : -9223372036854775808 ≤ a.op ∧ a.op ≤ 9223372036854775807
 place : ET a.place
 old : PM a.old
 new : PM a.new
structure aoR (d : YE) : Prop where
 act : Yi d.act
abbrev MY : kM := .cons (.int .u8) (.cons (.int .u8) .nil)
abbrev vP : kM := .cons .bool (.cons (.int .u8) .nil)
abbrev u8 (n : Int) : aw := .v (.int .u8 n)
structure gq where
 oU : Bool
 n : Int
abbrev BX (o : gq) : List aw := [eA o.oU,u8 o.n]
abbrev wO (l : List gq) : List aw := [.au 2 2 (l.map BX)]
theorem akE : ru Tryz.prog 8 46 = some MY := by kernel_rfl
theorem akC : ru Tryz.prog 8 47 = some (.au 1 (.au 2 vP)) := by kernel_rfl
theorem akl {d : oN} (h : k8 MY d) : ∃ x : Int × Int,m1 MY d = [u8 x.1,u8 x.2] ∧ (0 ≤ x.1 ∧ x.1 ≤ 255) ∧ (0 ≤ x.2 ∧ x.2 ≤ 255) := by
 obtain ⟨a,d,rfl,a5,h⟩ := zh h
 obtain ⟨b,d,rfl,aI,h⟩ := zh h
 obtain rfl := MP h
 obtain ⟨a,rfl,a5⟩ := AL a5
 obtain ⟨b,rfl,aI⟩ := AL aI
 exact ⟨(a,b),rfl,a5,aI⟩
theorem akg {d : oN} (h : k8 vP d) : ∃ x,m1 vP d = BX x ∧ 0 ≤ x.n ∧ x.n ≤ 255 := by
 obtain ⟨_,_,rfl,af,h⟩ := zh h
 obtain ⟨_,_,rfl,aj,h⟩ := zh h
 obtain rfl := MP h
 obtain ⟨a,rfl⟩ := akf af
 obtain ⟨b,rfl,dh⟩ := AL aj
 exact ⟨⟨a,b⟩,rfl,dh⟩
theorem akh {d : oN} (h : k8 (.au 2 vP) d) : ∃ l : List gq,m1 (.au 2 vP) d = wO l ∧ ∀ x ∈ l,0 ≤ x.n ∧ x.n ≤ 255 := by
 obtain ⟨xs,rfl,dh⟩ := MQ h
 obtain ⟨ws,a7,dv⟩ := G8 (fun d h => akg h) xs dh
 exact ⟨ws,by show [aw.au 2 2 (xs.map fun x => m1 vP x)] = _; rw [a7],dv⟩
theorem aki {d : oN} (h : k8 (.au 1 (.au 2 vP)) d) : ∃ l : List (List gq),m1 (.au 1 (.au 2 vP)) d = [.au 1 2 (l.map wO)] ∧ ∀ a ∈ l,∀ x ∈ a,0 ≤ x.n ∧ x.n ≤ 255 := by
 obtain ⟨xs,rfl,dh⟩ := MQ h
 obtain ⟨ws,a7,dv⟩ := G8 (fun d h => akh h) xs dh
 exact ⟨ws,by show [aw.au 1 2 (xs.map fun x => m1 (.au 2 vP) x)] = _; rw [a7],dv⟩
abbrev AN : kM := .cons (.int .i64) (.cons (.int .i64) (.cons (.int .i64) .nil))
theorem akD : ru Tryz.prog 8 48 = some (.au 3 AN) := by kernel_rfl
theorem akj {d : oN} (h : k8 AN d) : ∃ x,m1 AN d = wQ x := by
 obtain ⟨_,_,rfl,af,h⟩ := zh h
 obtain ⟨_,_,rfl,aj,h⟩ := zh h
 obtain ⟨_,_,rfl,av,h⟩ := zh h
 obtain rfl := MP h
 obtain ⟨a,rfl,bS⟩ := AL af
 obtain ⟨b,rfl,dh⟩ := AL aj
 obtain ⟨c,rfl,cd⟩ := AL av
 exact ⟨⟨a,b,c⟩,rfl⟩
theorem akk {d : oN} (h : k8 (.au 3 AN) d) : ∃ ps : List lI,m1 (.au 3 AN) d = [.au 3 2 (ps.map wQ)] ∧ True := by
 obtain ⟨xs,rfl,dh⟩ := MQ h
 obtain ⟨ws,a7,dv⟩ := G8 (Q := fun _ => True) (fun d h => by obtain ⟨x,ar⟩ := akj h; exact ⟨x,ar,trivial⟩) xs dh
 exact ⟨ws,by show [aw.au 3 2 (xs.map fun x => m1 AN x)] = _; rw [a7],trivial⟩
section
variable {H : Type} {enc : TypeId × Value → H} {P : Program} {W : World} {base : Nat} {spare : Nat → Bool} {held : Bool}
theorem acN {t e : TypeId} {n : Nat} {v : Value} {d : DataW H} {ps : List MemPlace} {r : Reach} {fP m : Nat} {p : kM} (hu : P.underlying t = some (.array n e)) (az : ru P m t = some p)
  (qq : Value.okWide P W r fP t v) (a6 : DataW.Trod enc P W base spare held t v d ps) : ∃ q,k8 p q ∧ cl (qS W) eD (.agg (m1 p q)) v := by
 obtain ⟨cs,rfl⟩ : ∃ cs,v = .agg cs := by
  unfold Value.okWide at qq
  rw [hu] at qq
  obtain ⟨cs,h,_⟩ := qq
  exact ⟨cs,h⟩
 obtain ⟨fuel,aZ⟩ := a6
 obtain ⟨q,bJ,cf,dA⟩ := DS m t p fuel _ _ az aZ
 exact ⟨q,bJ,by have := cl.agg cf dA; simpa [Value.cells] using this⟩
end
end Go.Proofs.YtkmbcjnaaokilaaGreatDoor
namespace Go.Proofs.YtkmbcjnaaokilaaGreatDoor
set_option linter.unusedSimpArgs false
set_option linter.unusedVariables false
open Go.RowKit Go.Maps
structure cO where
 l : b1
 ops : List gq
 now : Option fa
 has : List Nat
 jj : List Int
 bad : Bool
def zV (o : gq) : Prop := 0 ≤ o.n ∧ o.n ≤ 255
def wD (l : b1) : fa → Prop
 | .dp s => 0 ≤ s.block ∧ s.block < l.blocks
 | .ev s => (s.block : Int) < l.blocks
def m4 (l : b1) (has : List Nat) : Prop := ∃ U : Nat → Bool,has = (List.range l.blocks.toNat).filter U
theorem m4.lt {l : b1} {has : List Nat} (h : m4 l has) {b : Nat} (aI : b ∈ has) : b < l.blocks.toNat := by
 obtain ⟨U,rfl⟩ := h
 exact List.mem_range.1 (List.mem_filter.1 aI).1
theorem m4.len {l : b1} {has : List Nat} (h : m4 l has) : has.length ≤ l.blocks.toNat := by
 obtain ⟨U,rfl⟩ := h
 exact Nat.le_trans (List.length_filter_le _ _) (by simp)
theorem m4.out {l : b1} {has : List Nat} (h : m4 l has) (b : Nat) : m4 l (has.filter (fun x => x != b)) := by
 obtain ⟨U,rfl⟩ := h
 exact ⟨_,aoy U _ b⟩
theorem m4.put {l : b1} {has : List Nat} (h : m4 l has) {b : Nat} (aI : b < l.blocks.toNat) : m4 l (gT has b false) := by
 obtain ⟨U,rfl⟩ := h
 exact ⟨_,O1 U aI⟩
theorem m4.aiC {l : b1} {has : List Nat} (h : m4 l has) {b c : Nat} (aI : b < l.blocks.toNat) : c ∈ gT has b false ↔ c ∈ has ∨ c = b := by
 obtain ⟨U,rfl⟩ := h
 rw [O1 U aI,List.mem_filter,List.mem_filter,List.mem_range]
 simp only [Bool.or_eq_true,decide_eq_true_eq]
 constructor
 ·rintro ⟨af,aj | aj⟩
  ·exact .inl ⟨af,aj⟩
  ·exact .inr aj.symm
 ·rintro (⟨af,aj⟩ | aj)
  ·exact ⟨af,.inl aj⟩
  ·exact ⟨by omega,.inr aj.symm⟩
structure jI (n : Nat) (s : cO) : Prop where
 lay : e4 s.l = 0
 len : s.ops.length ≤ 1000
 ops : ∀ o ∈ s.ops,zV o
 now : ∀ a,s.now = some a → pW a ∧ lW a = s.l ∧ wD s.l a ∧ s.ops ≠ []
 has : m4 s.l s.has
 jj : s.jj.length ≤ 2 * n
theorem jI.up {n k : Nat} {s : cO} (h : jI n s) (az : n ≤ k) : jI k s := ⟨h.lay,h.len,h.ops,h.now,h.has,by have := h.jj; omega⟩
theorem SY (s : hl) : (iv s).1.block = s.block := by unfold iv; split <;> rfl
theorem QW {s : hl} (ao : p9 s) (aI : 0 ≤ s.block ∧ s.block < s.l.blocks) (w : bm) : 0 ≤ (g5 s w).1.block ∧ (g5 s w).1.block < s.l.blocks := by
 unfold g5
 split
 ·exact aI
 ·rename_i p ps hp
  have aA := ao.kl p (by rw [hp]; exact List.mem_cons_self ..)
  split
  ·rename_i i aq
   obtain ⟨af,aj,_,_⟩ := FY aq
   exact ⟨by show (0 : Int) ≤ (i : Int); omega,by show (i : Int) < _; omega⟩
  ·rw [SY]; exact aI
theorem QU (s : ko) (w : bm) : (ih s w).1.block = s.block := by unfold ih; split <;> rfl
theorem aiR (s : ko) (g : ei) : (kY s g).1.block = s.block := by
 unfold kY
 split
 ·rfl
 ·split
  ·rfl
  ·exact QU _ _
  ·split
   ·rfl
   ·exact QU _ _
theorem DI {a : fa} {l : b1} (h : pW a) (aE : lW a = l) (aI : wD l a) (g : ei) : wD l (cU a g).1 := by
 subst aE
 cases a with
 | dp s =>
  show 0 ≤ (h6 s g).1.block ∧ (h6 s g).1.block < s.l.blocks
  have aI : 0 ≤ s.block ∧ s.block < s.l.blocks := aI
  unfold h6
  split
  ·exact aI
  ·split
   ·rw [SY]; exact aI
   ·exact QW h.1 aI _
   ·split
    ·exact aI
    ·exact QW h.1 aI _
 | ev s =>
  show ((kY s g).1.block : Int) < _
  rw [aiR]; exact aI
def qE (has : List Nat) : List gq → List gq
 | [] => []
 | o :: os => if o.oU = true ∧ has = [] then qE has os else o :: os
def hf (s : cO) (o : gq) : Nat := if o.oU = true then (s.has[o.n.toNat % s.has.length]?).getD 0 else o.n.toNat % s.l.blocks.toNat
def qd (s : cO) (o : gq) : fa := if o.oU = true then .ev (ij s.l (hf s o)) else .dp (fV s.l (hf s o))
def yw (s : cO) (o : gq) : List Nat := if o.oU = true then s.has.filter (fun x => x != hf s o) else s.has
def hT (s : cO) : cO × dJ × Bool := match qE s.has s.ops with
 | [] => ({ s with ops := [] },hx,true)
 | o :: os => ({ s with ops := o :: os,now := some (cU (qd s o) e9).1,has := yw s o },(cU (qd s o) e9).2.1,false)
def q6 (s : cO) : Bool := (s.ops.head?.map gq.oU).getD false
def um (s : cO) (a : fa) : cO := { s with ops := s.ops.tail,now := none,has := if q6 s = false ∧ (fk a).2.1 = 0 then gT s.has (fk a).1.toNat false else s.has,jj := s.jj ++ [(fk a).1,(fk a).2.1],bad := s.bad || !(fk a).2.2 }
def eb (s : cO) (g : ei) : cO × dJ × Bool := match s.now with
 | none => hT s
 | some a => if (cU a g).2.2 = true then hT (um s (cU a g).1) else ({ s with now := some (cU a g).1 },(cU a g).2.1,false)
theorem Xd {has : List Nat} : ∀ {l : List gq} {o : gq},o ∈ qE has l → o ∈ l
 | [],_,h => by cases h
 | x :: xs,o,h => by
  unfold qE at h
  split at h
  ·exact List.mem_cons_of_mem _ (Xd h)
  ·exact h
theorem HY (has : List Nat) : ∀ (l : List gq),(qE has l).length ≤ l.length
 | [] => Nat.le_refl _
 | x :: xs => by
  unfold qE
  split
  ·have := HY has xs; simp; omega
  ·exact Nat.le_refl _
theorem Ot {has : List Nat} : ∀ {l : List gq} {o : gq} {os : List gq},qE has l = o :: os → ¬ (o.oU = true ∧ has = [])
 | [],_,_,h => by cases h
 | x :: xs,o,os,h => by
  unfold qE at h
  split at h
  ·exact Ot h
  ·rename_i a9; cases h; exact a9
theorem Oq {has : List Nat} {o : gq} {os : List gq} : qE has (o :: os) = if o.oU = true ∧ has = [] then qE has os else o :: os := rfl
theorem Fh {s : cO} (aE : e4 s.l = 0) (aI : 0 < s.l.blocks) (cy : m4 s.l s.has) {o : gq} (a9 : ¬ (o.oU = true ∧ s.has = [])) : ((hf s o : Nat) : Int) < s.l.blocks := by
 unfold hf
 split
 ·rename_i aJ
  have dj : 0 < s.has.length := List.length_pos_iff.2 fun e => a9 ⟨aJ,e⟩
  have af : o.n.toNat % s.has.length < s.has.length := Nat.mod_lt _ dj
  rw [List.getElem?_eq_getElem af]
  have := cy.lt (List.getElem_mem af)
  simp only [Option.getD_some]; omega
 ·have : o.n.toNat % s.l.blocks.toNat < s.l.blocks.toNat := Nat.mod_lt _ (by omega)
  omega
theorem ac0 {s : cO} {o : gq} (aJ : o.oU = true) (a9 : ¬ (o.oU = true ∧ s.has = [])) : hf s o ∈ s.has := by
 unfold hf
 rw [if_pos aJ]
 have dj : 0 < s.has.length := List.length_pos_iff.2 fun e => a9 ⟨aJ,e⟩
 have af : o.n.toNat % s.has.length < s.has.length := Nat.mod_lt _ dj
 rw [List.getElem?_eq_getElem af]
 exact List.getElem_mem af
theorem Uf {b a : Nat} (h : a < b) : ∃ p ps,lC b a = p :: ps := by
 unfold lC
 rw [HV h]
 exact ⟨_,_,rfl⟩
theorem Jw {s : cO} (aE : e4 s.l = 0) {o : gq} (bQ : ((hf s o : Nat) : Int) < s.l.blocks) : pW (qd s o) ∧ lW (qd s o) = s.l ∧ wD s.l (qd s o) ∧ Ag (qd s o) = false ∧ (cU (qd s o) e9).2.2 = false := by
 unfold qd
 split
 ·exact ⟨⟨aE,bQ⟩,rfl,bQ,rfl,rfl⟩
 ·refine ⟨OG aE bQ,rfl,⟨by show (0 : Int) ≤ 0; omega,by show (0 : Int) < _; omega⟩,rfl,?_⟩
  obtain ⟨p,ps,hp⟩ := Uf (b := s.l.blocks.toNat) (a := hf s o) (by omega)
  show (h6 (fV s.l (hf s o)) e9).2.2 = false
  unfold h6 fV
  rw [if_neg (by simp)]
  unfold iv
  simp only [hp]
theorem jI.begin {n : Nat} {s : cO} (h : jI n s) (aI : 0 < s.l.blocks) (ba : s.now = none) : jI n (hT s).1 := by
 unfold hT
 split
 ·exact ⟨h.lay,by simp,fun o ax => (by cases ax),fun a a5 => (by rw [show _ = s.now from rfl,ba] at a5; cases a5),h.has,h.jj⟩
 ·rename_i o os he
  have a9 := Ot he
  have bQ := Fh h.lay aI h.has a9
  obtain ⟨cd,c2,eu,fR,pq⟩ := Jw h.lay bQ
  have lx := zd cd e9
  refine ⟨h.lay,?_,fun o' ax => h.ops o' (Xd (has := s.has) (by rw [he]; exact ax)),fun a a5 => ?_,?_,h.jj⟩
  ·have := HY s.has s.ops; rw [he] at this; have := h.len; simp at *; omega
  ·cases a5
   exact ⟨lx.1,lx.2.1.trans c2,DI cd c2 eu _,fun e => by cases e⟩
  ·show m4 s.l (yw s o)
   unfold yw
   split
   ·exact h.has.out _
   ·exact h.has
theorem ac1 {a : fa} {l : b1} (aI : wD l a) (hp : 0 < l.blocks) : 0 ≤ (fk a).1 ∧ (fk a).1 < l.blocks := by
 cases a with
 | dp s =>
  have aI : 0 ≤ s.block ∧ s.block < l.blocks := aI
  show 0 ≤ (if s.fin = true then (if s.err ≠ 0 then ((0 : Int),s.err,true) else (s.block,0,true)) else (0,0,false)).1 ∧ (if s.fin = true then (if s.err ≠ 0 then ((0 : Int),s.err,true) else (s.block,0,true)) else (0,0,false)).1 < l.blocks
  split
  ·split
   ·exact ⟨by simp only; omega,by simp only; omega⟩
   ·exact aI
  ·exact ⟨by simp only; omega,by simp only; omega⟩
 | ev s =>
  have aI : (s.block : Int) < l.blocks := aI
  show 0 ≤ (if s.fin = true then ((s.block : Int),s.err,true) else (0,0,false)).1 ∧ (if s.fin = true then ((s.block : Int),s.err,true) else (0,0,false)).1 < l.blocks
  split
  ·exact ⟨by simp only; omega,aI⟩
  ·exact ⟨by simp only; omega,by simp only; omega⟩
theorem P1 {a : fa} {l : b1} (aI : wD l a) (hp : 0 < l.blocks) : (fk a).1.toNat < l.blocks.toNat ∧ (((fk a).1.toNat : Nat) : Int) = (fk a).1 := by
 have := ac1 aI hp
 omega
theorem jI.Hb {n : Nat} {s : cO} (h : jI n s) (aI : 0 < s.l.blocks) {a : fa} (a5 : wD s.l a) : jI (n + 1) (um s a) := by
 refine ⟨h.lay,?_,fun o ax => h.ops o (List.mem_of_mem_tail ax),fun a a5 => (by cases a5),?_,?_⟩
 ·have := h.len; show s.ops.tail.length ≤ _; simp; omega
 ·show m4 s.l (if q6 s = false ∧ (fk a).2.1 = 0 then gT s.has (fk a).1.toNat false else s.has)
  split
  ·exact h.has.put (P1 a5 aI).1
  ·exact h.has
 ·show (s.jj ++ [(fk a).1,(fk a).2.1]).length ≤ _
  have := h.jj
  simp; omega
theorem jI.next {n : Nat} {s : cO} (h : jI n s) (aI : 0 < s.l.blocks) (g : ei) : jI (n + 1) (eb s g).1 := by
 unfold eb
 split
 ·rename_i ba
  exact (h.begin aI ba).up (by omega)
 ·rename_i a a5
  obtain ⟨af,aj,av,aY⟩ := h.now a a5
  have lx := zd af g
  split
  ·exact (h.Hb aI (DI af aj av g)).begin aI rfl
  ·refine ⟨h.lay,h.len,h.ops,fun dN vb => ?_,h.has,by have := h.jj; show s.jj.length ≤ _; omega⟩
   cases vb
   exact ⟨lx.1,lx.2.1.trans aj,DI af aj av g,aY⟩
abbrev BU (x : Int) : List aw := [aG x]
def u1 : Option fa → fO → aw
 | none,_ => .v .nilIface
 | some a,L => jz a L
abbrev pr (s : cO) (x : aw) : List aw := [aG s.l.threads,aG s.l.cells,aG s.l.blocks,.au 2 2 (s.ops.map BX),x,.au 1 0 (s.has.map hq),.au 1 0 [],.au 1 0 (s.jj.map BU),eA s.bad]
def FC (s : cO) (L : fO) : aw := .ds 72 (.agg (pr s (u1 s.now L)))
abbrev ft : ed where
 ak := cO × fO
 enc p := FC p.1 p.2
 next p g := (((eb p.1 g).1,p.2),(eb p.1 g).2)
 jB n p := jI n p.1 ∧ 0 < p.1.l.blocks
 up h az := ⟨h.1.up az,h.2⟩
 keeps {n s} g h := ⟨h.1.next h.2 g,by
  have : (eb s.1 g).1.l = s.1.l := by
   unfold eb
   split
   ·unfold hT; split <;> rfl
   ·split
    ·unfold hT; split <;> rfl
    ·rfl
  show 0 < (eb s.1 g).1.l.blocks
  rw [this]; exact h.2⟩
 shape p := ⟨_,_,rfl⟩
end Go.Proofs.YtkmbcjnaaokilaaGreatDoor
