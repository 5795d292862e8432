/-
  The shadow machine: whole functions.
-/
import Derived.Test.YtkmbcjnaaokilaaGreatDoorMB
import Derived.Deep.LoopGhost
import Derived.Test.YtkmbcjnaaokilaaGreatDoorMA
import Derived.Deep.Slices
import Derived.ProofKit
import Derived.Lib.SmallJoins
import Derived.OwnWalk
import Derived.Lib.LazyBuf
import Derived.WideKeyArgs
import Derived.Test.YtkmbcjnaaokilaaGreatDoorRows
namespace Go.Proofs.YtkmbcjnaaokilaaGreatDoor
set_option linter.unusedSimpArgs false
set_option linter.unusedVariables false
open Go.RowKit Go.Maps

inductive k7 (N : Nat) : Code → bZ → Prop
 | skip : k7 N .skip .skip
 | ops {id ops cu} : kn N ops ops.toList cu → k7 N (.region id ops false) (.ops cu)
 | ord {id ops t cu} : kn N ops ops.toList cu → Region.noSelect ops = true → pX ops cu [] t = true → k7 N (.region id ops true) (.ord t cu)
 | qc {id ops cu} : kn N ops ops.toList cu → Region.noSelect ops = true → Em ops = true → k7 N (.region id ops true) (.qc (ops.toList.map wl) cu)
 | g0 {id ops n eZ cu} : kn N ops ops.toList cu → zX ops n eZ = true → By ops n N = true → F0 ops n cu = true → FT eZ cu = true → k7 N (.region id ops true) (.g0 n cu)
 | seq {a b x y} : k7 N a x → k7 N b y → k7 N (.seq a b) (.seq x y)
 | cond {c a b x y} : k7 N a x → k7 N b y → k7 N (.cond c a b) (.cond c x y)
 | block {id a x} : k7 N a x → k7 N (.block id a) (.block id x)
 | loop {a x} : k7 N a x → k7 N (.loop a) (.loop x)
 | exit {id} : k7 N (.exit id) (.exit id)
 | ret : k7 N .ret .ret

def IV (N : Nat) (w0 : World) (H0 : bl) (K : qK → ak → Prop) : Exit → Act → World → Prop
 | .normal,a,w => End N w0 H0 (K .next) a w
 | .exit id,a,w => End N w0 H0 (K (.exit id)) a w
 | .ret,a,w => End N w0 H0 (K .ret) a w
 | _,_,_ => False

theorem kn.len {N : Nat} {ops : Array Oper} : ∀ {l : List Oper} {cu : List cA},kn N ops l cu → l.length = cu.length
 | _,_,.nil => rfl
 | _,_,.cons _ t => by simp [t.len]
theorem kn.take {N : Nat} {ops : Array Oper} : ∀ {l : List Oper} {cu : List cA} (n : Nat),kn N ops l cu → kn N ops (l.take n) (cu.take n)
 | _,_,0,_ => by simp; exact .nil
 | _,_,n + 1,.nil => by simp; exact .nil
 | _,_,n + 1,.cons h t => by simp; exact .cons h (t.take n)
theorem kn.drop {N : Nat} {ops : Array Oper} : ∀ {l : List Oper} {cu : List cA} (n : Nat),kn N ops l cu → kn N ops (l.drop n) (cu.drop n)
 | _,_,0,h => by simpa using h
 | _,_,n + 1,.nil => by simp; exact .nil
 | _,_,n + 1,.cons h t => by simp; exact t.drop n

section
variable {N : Nat} {w0 w w' : World} {H0 H H' : bl} {S : ak} {E : Env} {a : Act} {K : qK → ak → Prop}

theorem bC.oh : ∀ (l : List aw) {S : ak} {H : bl},bC N w0 H0 S E a w H → ∃ H',hk H H' ∧ bC N w0 H0 (S.oh l) E a w H'
 | [],S,H,h => ⟨H,hk.refl _,h⟩
 | x :: l,S,H,h => by
  obtain ⟨H1,l1,af⟩ := h.jA x
  obtain ⟨kK,l2,aj⟩ := bC.oh l af
  exact ⟨kK,l1.trans l2,aj⟩

theorem G1 {α : Type} {l : List (Nat × α)} : ∀ {eC : List Nat} {t : Nat} {x : α},an (eL l eC) t = some x → an l t = some x ∧ eC.contains t = true
 | k :: eC,t,x,h => by
  unfold eL at h
  split at h
  ·rename_i y aV
   simp only [an] at h
   split at h
   ·rename_i e; cases h; subst e; exact ⟨aV,by simp⟩
   ·obtain ⟨a,b⟩ := G1 h; exact ⟨a,by simp only [List.contains_cons,Bool.or_eq_true]; exact .inr b⟩
  ·obtain ⟨a,b⟩ := G1 h; exact ⟨a,by simp only [List.contains_cons,Bool.or_eq_true]; exact .inr b⟩
theorem G0 {α : Type} {eC : List Nat} {l : List (Nat × α)} {t : Nat} {x : α} (h : an (eL l eC) t = some x) : an l t = some x := (G1 h).1
theorem SN {α : Type} {eC : List Nat} {l : List (Nat × α)} {t : Nat} {x : α} (h : an (eL l eC) t = some x) : eC.contains t = true := (G1 h).2
theorem Uu {ids : List Nat} : ∀ {l : List (Nat × aw)} {t : Nat} {x : aw},zq ids l = true → an l t = some x → nD ids x = true
 | (k,y) :: l,t,x,h,aJ => by
  simp only [zq,Bool.and_eq_true] at h
  simp only [an] at aJ
  split at aJ
  ·cases aJ; exact h.1
  ·exact Uu h.2 aJ
theorem zp {ids : List Nat} : ∀ {l : List (Nat × bo)} {i : Nat} {t : TypeId} {cs : List aw},h8 ids l = true → an l i = some (.box t cs) → tp ids cs = true
 | (k,.box _ cs') :: l,i,t,cs,h,aJ => by
  simp only [h8,Bool.and_eq_true] at h
  simp only [an] at aJ
  split at aJ
  ·cases aJ; exact h.1
  ·exact zp h.2 aJ
 | (k,.row ..) :: l,i,t,cs,h,aJ => by
  simp only [h8] at h
  simp only [an] at aJ
  split at aJ
  ·cases aJ
  ·exact zp h aJ
 | (k,.map ..) :: l,i,t,cs,h,aJ => by
  simp only [h8] at h
  simp only [an] at aJ
  split at aJ
  ·cases aJ
  ·exact zp h aJ
 | (k,.iter ..) :: l,i,t,cs,h,aJ => by
  simp only [h8] at h
  simp only [an] at aJ
  split at aJ
  ·cases aJ
  ·exact zp h aJ
 | (k,.gi _) :: l,i,t,cs,h,aJ => by
  simp only [h8] at h
  simp only [an] at aJ
  split at aJ
  ·cases aJ
  ·exact zp h aJ
 | (k,.h2 _ _) :: l,i,t,cs,h,aJ => by
  simp only [h8,Bool.and_eq_true] at h
  simp only [an] at aJ
  split at aJ
  ·cases aJ
  ·exact zp h.2 aJ
 | (k,.cB _) :: l,i,t,cs,h,aJ => by simp [h8] at h
theorem Hy {ids : List Nat} : ∀ {l : List (Nat × bo)} {i : Nat} {e : TypeId} {cs : List aw},h8 ids l = true → an l i = some (.h2 e cs) → tp ids cs = true
 | (k,o) :: l,i,e,cs,h,aJ => by
  simp only [an] at aJ
  cases o with
  | h2 e5 cs' =>
   simp only [h8,Bool.and_eq_true] at h
   split at aJ
   ·cases aJ; exact h.1
   ·exact Hy h.2 aJ
  | cB J => simp [h8] at h
  | box t' cs' =>
   simp only [h8,Bool.and_eq_true] at h
   split at aJ
   ·cases aJ
   ·exact Hy h.2 aJ
  | _ =>
   simp only [h8] at h
   split at aJ
   ·cases aJ
   ·exact Hy h aJ
theorem Hw {ids : List Nat} : ∀ {l : List (Nat × bo)} {i : Nat} {J : bl → Env → Prop},h8 ids l = true → an l i = some (.cB J) → False
 | (k,o) :: l,i,J,h,aJ => by
  simp only [an] at aJ
  cases o with
  | cB ao4 => simp [h8] at h
  | h2 e5 cs' =>
   simp only [h8,Bool.and_eq_true] at h
   split at aJ
   ·cases aJ
   ·exact Hw h.2 aJ
  | box t' cs' =>
   simp only [h8,Bool.and_eq_true] at h
   split at aJ
   ·cases aJ
   ·exact Hw h.2 aJ
  | _ =>
   simp only [h8] at h
   split at aJ
   ·cases aJ
   ·exact Hw h aJ
theorem SA : ∀ {ids : List Nat} {i : Nat},ids.contains i = true → ids[oz ids i]? = some i
 | k :: l,i,h => by
  unfold oz
  split
  ·rename_i e; subst e; rfl
  ·rename_i e
   simp only [List.contains_cons,Bool.or_eq_true,beq_iff_eq] at h
   rw [List.getElem?_cons_succ]
   exact SA (h.resolve_left (fun h => e h.symm))
def Env.tq (E : Env) (ids : List Nat) : Env := fun j => (ids[j]?).bind E
theorem Env.DX {E : Env} {ids : List Nat} {i : Nat} (h : ids.contains i = true) : E.tq ids (oz ids i) = E i := by
 unfold Env.tq; rw [SA h]; rfl
theorem Uv {H : bl} {E : Env} {ids : List Nat} {x : aw} {u : Value} (h : cl H E x u) (aB : nW ids x = true) : cl H (E.tq ids) (j0 ids x) u := by
 cases h with
 | @own E i u k b h af => exact .own (show E.tq ids (oz ids i) = some (u,k,b) from (Env.DX aB).trans h) af
 | @ptr E i idx off u k b h => exact .ptr (show E.tq ids (oz ids i) = some (u,k,some b) from (Env.DX aB).trans h)
 | agg => cases aB
 | bY => cases aB
 | v h => exact .v h
 | au a b c d e f g => exact .au a b c d e f g
 | nA h => exact .nA h
 | mp a b c d e => exact .mp a b c d e
 | fn a b => exact .fn a b
 | ds a => exact .ds a
 | di a b c => exact .di a b c
 | any a => exact .any a
theorem akU (ids : List Nat) (x : aw) : (j0 ids x).one = x.one := by cases x <;> rfl
theorem M9 (ids : List Nat) (cs : List aw) (h : cs.all aw.one = true) : (cs.map (j0 ids)).all aw.one = true := by
 rw [List.all_map]
 rw [List.all_eq_true] at h ⊢
 intro x ar
 simp only [Function.comp,akU]
 exact h x ar
theorem Hz {H : bl} {E : Env} {ids : List Nat} : ∀ {cs : List aw} {vs : List Value},dg H E cs vs → tp ids cs = true → dg H (E.tq ids) (cs.map (j0 ids)) vs
 | _,_,.nil,_ => .nil
 | _,_,.cons h t,aB => by simp only [tp,Bool.and_eq_true] at aB; exact .cons (Uv h aB.1) (Hz t aB.2)
theorem akW {H : bl} {E : Env} {ids : List Nat} {x : aw} {u : Value} (h : cl H E x u) (aB : nD ids x = true) : cl H (E.tq ids) (nE ids x) u := by
 cases x with
 | agg cs => cases h with | agg h af => exact .agg (Hz h aB) (M9 ids cs af)
 | bY => cases aB
 | _ => exact Uv h aB
theorem Uw {ids : List Nat} : ∀ {l : List (Nat × aw)} {t : Nat} {y : aw},an (xG ids l) t = some y → ∃ x,an l t = some x ∧ y = nE ids x
 | (k,x) :: l,t,y,h => by
  simp only [xG,an] at h ⊢
  split at h
  ·rename_i e; rw [if_pos e]; cases h; exact ⟨x,rfl,rfl⟩
  ·rename_i e; rw [if_neg e]; exact Uw h
theorem Na {ids : List Nat} : ∀ {l : List (Nat × bo)} {j : Nat} {o' : bo},an (xF ids l) j = some o' → ∃ i o,an l i = some o ∧ oz ids i = j ∧ o' = tr ids o
 | (k,x) :: l,j,o',h => by
  simp only [xF,an] at h
  split at h
  ·rename_i e; cases h; exact ⟨k,x,by simp [an],e,rfl⟩
  ·rename_i e
   obtain ⟨i,o,af,aj,av⟩ := Na h
   refine ⟨i,o,?_,aj,av⟩
   simp only [an]
   rw [if_neg (fun e5 => e (by rw [e5]; exact aj))]
   exact af
theorem akV (ids : List Nat) (o : bo) : (tr ids o).live = o.live := by cases o <;> rfl
theorem bC.e1 (h : bC N w0 H0 S E a w H) (ht : Option (List Nat × Option (List Nat × Nat))) : ∃ E',bC N w0 H0 (S.e1 ht) E' a w H := by
 have small : ∀ eC,bC N w0 H0 ⟨eL S.T eC,S.O,S.n⟩ E a w H := fun eC => h.less (fun t x ar => G0 ar) (fun _ _ h => h) rfl
 match ht with
 | none => exact ⟨E,h⟩
 | some (eC,none) => exact ⟨E,small eC⟩
 | some (eC,some (ids,n)) =>
  simp only [ak.e1]
  split
  ·rename_i aB
   simp only [Bool.and_eq_true,decide_eq_true_eq] at aB
   obtain ⟨cd,c2,eu⟩ := aB
   have Db : ∀ j,nx ⟨xG ids (eL S.T eC),xF ids (eL S.O ids),n⟩ j → ∃ i,oz ids i = j ∧ ids.contains i = true ∧ nx S i := by
    rintro j ⟨o',fy,aE⟩
    obtain ⟨i,o,af,aj,rfl⟩ := Na fy
    rw [akV] at aE
    exact ⟨i,aj,SN af,o,G0 af,aE⟩
   refine ⟨E.tq ids,h.grow,fun t y aV => ?_,fun j o' fy => ?_,?_,fun i aq => ?_,h.ju,h.jO⟩
   ·obtain ⟨x,ar,rfl⟩ := Uw aV
    exact akW (h.k4 t x (G0 ar)) (Uu cd ar)
   ·obtain ⟨i,o,af,rfl,rfl⟩ := Na fy
    have aq := SN af
    have bL : E.tq ids (oz ids i) = E i := Env.DX aq
    have my := h.ob i o (G0 af)
    cases o with
    | box t cs => obtain ⟨b,vs,u6,aj,av,aY,bM,bN⟩ := my; exact ⟨b,vs,bL.trans u6,aj,av,aY,Hz bM (zp c2 af),M9 ids cs bN⟩
    | row e k es => obtain ⟨u,ob,xs,af,h⟩ := my; exact ⟨u,ob,xs,bL.trans af,h⟩
    | map bd N f => obtain ⟨b,o,F,af,h⟩ := my; exact ⟨b,o,F,bL.trans af,h⟩
    | iter f left hU cur => obtain ⟨r,ob,af,h⟩ := my; exact ⟨r,ob,bL.trans af,h⟩
    | gi x => obtain ⟨u,k,b,af,h⟩ := my; exact ⟨u,k,b,bL.trans af,h⟩
    | h2 e cs =>
     obtain ⟨b,cap,cur,u6,aj,av,aY,bM,bN,cJ⟩ := my
     refine ⟨b,cap,cur,bL.trans (by rw [List.length_map]; exact u6),aj,av,aY,by rw [List.length_map]; exact bM,?_,M9 ids cs cJ⟩
     rw [List.length_map]
     exact Hz bN (Hy c2 af)
    | cB J => exact (Hw c2 af).elim
   ·intro i j iN aq aN b u k k5 dG a1 a7
    obtain ⟨i0,rfl,ci,li⟩ := Db i aq
    obtain ⟨nv,rfl,qX,aij⟩ := Db j aN
    rw [Env.DX ci] at a1
    rw [Env.DX qX] at a7
    exact h.ap i0 nv (fun e => iN (by rw [e])) li aij b u k k5 dG a1 a7
   ·show E.tq ids i = none
    unfold Env.tq
    rw [List.getElem?_eq_none (by simp only at aq; omega)]
    rfl
  ·exact ⟨E,small eC⟩

theorem bC.zm (af : bC N w0 H0 S E a w H) {t : Nat} {x : aw} (ar : cl H E x (a.eval (.tmp t))) : bC N w0 H0 (S.put t x) E a w H :=
 ⟨af.grow,fun t' y aV => by
  simp only [ak.put,mR] at aV
  split at aV
  ·rename_i e; cases aV; subst e; exact ar
  ·exact af.k4 t' y aV,af.ob,af.ap,af.c0,af.ju,af.jO⟩
theorem FO {K : ak → Prop} : ∀ (rs : List rI) {S : ak} {E : Env},pA rs S K → bC N w0 H0 S E a w H → ∃ bT hy,K bT ∧ bC N w0 H0 bT hy a w H
 | [],S,E,h,aO => ⟨S,E,h,aO⟩
 | .xH i :: rs,S,E,h,aO => by
  obtain ⟨⟨t,cs,aJ⟩,h⟩ := h
  obtain ⟨b,vs,a1,_⟩ := aO.ob i _ aJ
  have hle := Env.vV (E := E) (i := S.n) (undef,0,none) (aO.c0 _ (Nat.le_refl _))
  have := aO.new (o := .cB (o4 i b)) (p := (undef,0,none)) ⟨⟨_,Env.iU _ _ _⟩,hle _ _ a1,fun H1 kK hy qJ g1 bW gO => bW _ _ gO⟩ (fun b aI => by cases aI)
  exact FO rs (h b) this
 | .raw t g :: rs,S,E,h,aO => by
  obtain ⟨i,b,off,aJ,aL,h⟩ := h
  have aq := (aO.ob g _ aJ).2.1
  have bj := aO.k4 t _ aL
  refine FO rs h (aO.zm ?_)
  generalize a.eval (.tmp t) = q at bj
  cases bj
  have := cl.ptr (H := H) (E := E) (i := i) (idx := 0) (off := off) aq
  simpa using this
 | .xQ t g :: rs,S,E,h,aO => by
  obtain ⟨i,b,off,aJ,aL,h⟩ := h
  have aq := (aO.ob g _ aJ).2.1
  have bj := aO.k4 t _ aL
  refine FO rs h (aO.zm ?_)
  generalize a.eval (.tmp t) = q at bj
  cases bj with
  | ptr bL =>
   have iM : E i = _ := aq
   rw [iM] at bL
   cases bL
   simp only [Nat.zero_mul,Nat.zero_add]
   exact .v rfl
theorem QE {ops : Array Oper} {Q : Exit → Act → World → Prop} : ∀ (sp : List (Nat × List rI)) {l : List Oper} {cu : List cA} {S : ak} {E : Env} {a : Act} {w : World} {H : bl} {K : ak → Prop},kn N ops l cu → tS sp cu S K → bC N w0 H0 S E a w H → (∀ a w,End N w0 H0 K a w → Q .normal a w) → wpList Tryz.prog ops Q l a w
 | [],_,_,_,_,_,_,_,_,aJ,h,aO,kv => QB aJ h aO kv
 | (n,rs) :: sp,l,cu,S,E,a,w,H,K,aJ,h,aO,kv => by
  rw [← List.take_append_drop n l]
  refine B1 (aJ.take n) h aO ?_
  rintro bH cn ⟨bT,hy,H1,af,qk⟩
  obtain ⟨gr,qJ,aj,hH⟩ := FO rs af qk
  exact QE sp (aJ.drop n) aj hH kv
theorem yp (i : Nat) (o : bo) : ∀ (l : List (Nat × bo)) (j : Nat),an (xi i o l) j = if i = j then some o else an l j
 | [],j => by simp [xi,an]
 | (k,p) :: l,j => by
  unfold xi
  split
  ·simp [an]
  ·rename_i az
   simp only [an,yp i o l j]
   by_cases a1 : k = j
   ·have : ¬ i = j := by omega
    simp [a1,this]
   ·simp [a1]
theorem nc : ∀ (l : List (Nat × bo)) (j : Nat),an (j1 l) j = an l j
 | [],_ => rfl
 | (i,o) :: l,j => by simp only [j1,yp,nc l j,an]
theorem bC.sorted (h : bC N w0 H0 S E a w H) : bC N w0 H0 S.sorted E a w H := h.less (fun _ _ h => h) (fun i o ax => by simpa [ak.sorted,nc] using ax) rfl

theorem ZW {c a d v w} : IV N w0 H0 K (.panic c) (Act.put a (some d) v) w → IV N w0 H0 K (.panic c) a w := fun h => h.elim

theorem JO (hm : Tryz.prog.follows .mixedOrders = true) : ∀ {c : Code} {h9 : bZ} {S : ak} {E : Env} {a : Act} {w : World} {H : bl} {K : qK → ak → Prop},k7 N c h9 → g4 h9 S K → bC N w0 H0 S E a w H → c.wp Tryz.prog (IV N w0 H0 K) a w := by
 intro c h9 S E a w H K aB
 induction aB generalizing S E a w H K with
 | skip => intro h aO; exact wp_skip ⟨_,_,_,h,aO⟩
 | exit => intro h aO; exact wp_exit ⟨_,_,_,h,aO⟩
 | ret => intro h aO; exact wp_ret ⟨_,_,_,h,aO⟩
 | ops aJ => intro h aO; obtain ⟨sp,cs,h⟩ := h; obtain ⟨hy,aO⟩ := aO.gM cs; exact wp_region_list (QE sp aJ h aO fun _ _ h => h)
 | @ord id ops t cu aJ af aj =>
  intro h aO
  obtain ⟨cs,bT,h,az⟩ := h
  obtain ⟨hy,aO⟩ := aO.gM cs
  refine wp_region_any hm ?_
  have hH : bC N w0 H0 (S.gM cs) hy a w.drew H := aO.grown (Grow.refl aO.sub).drew
  refine ad6 (K := fun S' => ∃ ht,(S'.e1 ht).sorted = bT) af (fun c a d v w h => h.elim) aJ ops.size t [] _ (S.gM cs) hy a _ H ?_ (by simp) (fun i aq => by simp [aq]) (fun i aq => by simp at aq) aj h hH ?_
  ·unfold mD
   rw [Array.toList_replicate,List.countP_replicate]; simp
  ·rintro dN w' ⟨S',E',H',⟨ht,rfl⟩,dY⟩
   obtain ⟨Bj,yv⟩ := dY.e1 ht
   exact ⟨_,Bj,H',az,yv.sorted⟩
 | @qc id ops cu aJ af aj =>
  intro h aO
  obtain ⟨cs,I,yq,aW,az⟩ := h
  obtain ⟨hy,aO⟩ := aO.gM cs
  refine wp_region_any hm ?_
  have hH : bC N w0 H0 (S.gM cs) hy a w.drew H := aO.grown (Grow.refl aO.sub).drew
  refine ad2 af aj aJ aW ?_ ops.size [] _ (S.gM cs) hy a _ H ?_ (by simp) (fun i aq => by simp [aq]) (fun i aq => by simp at aq) yq hH
  ·intro done S' E' dN w' H' ja ec dY
   obtain ⟨ht,az⟩ := az done S' ja fun i aq => ec i (by simpa using aq)
   obtain ⟨Bj,yv⟩ := dY.e1 ht
   exact ⟨_,Bj,H',az,yv.sorted⟩
  ·unfold mD
   rw [Array.toList_replicate,List.countP_replicate]; simp
 | @g0 id ops n eZ cu aJ af aj av aY =>
  intro h aO
  obtain ⟨gs,cs,h⟩ := h
  obtain ⟨E,aO⟩ := aO.gM cs
  obtain ⟨H1,_,qk⟩ := aO.oh gs
  have aZ := PO af
  have hle := aZ.le
  refine aoB n eZ H1 hm af (by rw [qk.ju]; exact aj) (fun c a d v w => ZW) qk.sub ?_
  refine Qw (N := N) (w0 := w0) (H0 := H0) (E := E) (S0 := (S.gM cs).oh gs) (K := fun S' => ig (cu.drop n) S' (K .next)) (glA := cu) aZ qk av aY (ops.toList.take n) (cu.take n) [] ((S.gM cs).oh gs) ((S.gM cs).oh gs) [] (aJ.take n) (by simp; omega)
   (fun j aN => by simp at aN; rw [List.getElem?_take,if_pos (by omega)]; simp) (fun j aN => by simp at aN; rw [List.getElem?_take,if_pos (by omega)]; simp) ⟨rfl,fun t x ar => ?_⟩ ?_ (fun i o h => .inl h) h ?_
  ·by_cases a9 : tj ops n t = true
   ·exact .inl ⟨a9,ar⟩
   ·refine .inr (.inr ?_)
    unfold tj at a9
    simp only [List.all_eq_true,Classical.not_forall] at a9
    obtain ⟨o,ax,dj⟩ := a9
    obtain ⟨i,aq⟩ := List.mem_iff_getElem?.1 ax
    rw [List.getElem?_take] at aq
    split at aq
    ·rename_i kz
     exact ⟨i,o,by simp,kz,by simpa using aq,by simpa using dj⟩
    ·cases aq
  ·intro W H' sV Ho E1 az
   exact az a E (fW.refl _) (qk.grown sV)
  ·rintro W H' dN sV ⟨S',E',aoY,az,dY⟩
   exact QB (aJ.drop n) az dY fun _ _ h => h
 | seq _ _ vE vF =>
  intro h aO
  refine wp_seq (wp_mono (vE h aO) ?_)
  intro e dN w' aT
  cases e with
  | normal => obtain ⟨S',E',H',⟨eC,az⟩,dY⟩ := aT; obtain ⟨qJ,hH⟩ := dY.e1 eC; exact vF az hH
  | exit id => exact aT
  | ret => exact aT
  | goto l => exact aT
  | panic c => exact aT
  | outgrown => exact aT
 | cond _ _ vE vF =>
  intro h aO
  obtain ⟨s,ao,h⟩ := b2 h
  have bf := aO.bg ao
  cases s with
  | v q =>
   cases q with
   | bool t =>
    generalize GC : a.eval _ = arj at bf
    cases bf
    refine wp_cond GC ?_
    cases t with
    | true => exact vE (h.1 rfl) aO
    | false => exact vF (h.2 rfl) aO
   | _ => exact h.elim
  | _ => exact h.elim
 | @block id _ _ _ dW =>
  intro h aO
  refine wp_block (wp_mono (dW h aO) ?_)
  intro e dN w' aT
  cases e with
  | normal => exact aT
  | exit j =>
   obtain ⟨S',E',H',az,dY⟩ := aT
   simp only [Exit.inBlock]
   simp only at az
   split at az
   ·rename_i e; rw [if_pos e]; exact ⟨S',E',H',az,dY⟩
   ·rename_i e; rw [if_neg e]; exact ⟨S',E',H',az,dY⟩
  | ret => exact aT
  | goto l => exact aT
  | panic c => exact aT
  | outgrown => exact aT
 | loop _ dW =>
  intro h aO
  obtain ⟨I,m,ht,cs,ba,aW⟩ := h
  obtain ⟨qJ,aO⟩ := aO.gM cs
  obtain ⟨Bj,yv⟩ := aO.e1 ht
  refine wp_loop_ghost (fun k a w => ∃ bT hy H1,I k bT ∧ bC N w0 H0 bT hy a w H1) m ⟨_,Bj,H,ba,yv⟩ ?_
  rintro k a w ⟨bT,hy,H1,az,qk⟩
  refine wp_mono (dW (aW k bT az) qk) ?_
  intro e dN w' aT
  cases e with
  | normal => obtain ⟨S',E',H',⟨dG,ht,jn,afl⟩,dY⟩ := aT; obtain ⟨qJ,hH⟩ := dY.e1 ht; exact ⟨dG,jn,_,qJ,H',afl,hH⟩
  | exit id => exact aT
  | ret => exact aT
  | goto l => exact aT
  | panic c => exact aT
  | outgrown => exact aT

inductive zW : ResultVar → b6 → Prop
 | tmp {t} : zW (.tmp t) (.tmp t)
 | P4 {t ty d i} : Tryz.prog.underlying ty = some d → m7 d = true → Tryz.prog.info? ty = some i → zW (.cell t ty) (.eB t (some i.size))
 | P3 {t ty d} : Tryz.prog.underlying ty = some d → m7 d = false → zW (.cell t ty) (.eB t none)
inductive uM : List ResultVar → List b6 → Prop
 | nil : uM [] []
 | cons {x y l vI} : zW x y → uM l vI → uM (x :: l) (y :: vI)

def zr (tmps : Array Value) : ResultVar → Sem Value
 | .tmp t => pure (tmps.getD t undef)
 | .cell a t => do loadVar t (← asAddr (tmps.getD a undef))

theorem ak0 (aO : bC N w0 H0 S E a w H) {x y s} (ar : zW x y) (h : S.zs y = some s) : ∃ v,(zr a.tmps x).run Tryz.prog w = .ok v w ∧ cl H E s v := by
 cases ar with
 | @tmp t => have e6 : S.bg (.tmp t) = some s := h; exact ⟨a.eval (.tmp t),rfl,aO.bg e6⟩
 | @P4 t ty d i af aj av =>
  simp only [ak.zs,Option.bind_eq_some_iff] at h
  obtain ⟨p,hp,⟨cs,off⟩,eM,h⟩ := h
  simp only at h
  split at h
  ·rename_i aE
   cases h
   obtain ⟨b,o',vs,bj,bf,u7,eM⟩ := Jc aO.ob aO.sub (aO.bg hp) eM
   have y0 : a.tmps.getD t undef = .pointer (some ⟨b,o' + off,none⟩) := bj
   have := (Nl (P := Tryz.prog) (off := off) af eM).1 i aj av (by rw [← bf.length]; exact aE)
   refine ⟨_,by simp only [zr,y0]; simpa [Instr.loadAt,Instr.sureAddr,asAddr] using this,.agg ((bf.drop off).take _) ?_⟩
   rw [List.all_eq_true] at u7 ⊢
   intro x ar
   exact u7 x (List.mem_of_mem_drop (List.mem_of_mem_take ar))
  ·cases h
 | @P3 t ty d af aj =>
  simp only [ak.zs,Option.bind_eq_some_iff] at h
  obtain ⟨p,hp,⟨cs,off⟩,eM,h⟩ := h
  obtain ⟨b,o',vs,bj,bf,u7,eM⟩ := Jc aO.ob aO.sub (aO.bg hp) eM
  have y0 : a.tmps.getD t undef = .pointer (some ⟨b,o' + off,none⟩) := bj
  obtain ⟨u,hu,aA⟩ := bf.get h
  have := (Nl (P := Tryz.prog) (off := off) af eM).2 u aj hu
  exact ⟨u,by simp only [zr,y0]; simpa [Instr.loadAt,Instr.sureAddr,asAddr] using this,aA⟩

theorem UB (aO : bC N w0 H0 S E a w H) : ∀ {xs ys l},uM xs ys → S.pZ ys = some l → ∃ vs,(xs.mapM (zr a.tmps)).run Tryz.prog w = .ok vs w ∧ dg H eD l vs
 | _,_,l,.nil,h => by simp only [ak.pZ,Option.some.injEq] at h; subst h; exact ⟨[],by simp,.nil⟩
 | _,_,l,.cons ar Dl,h => by
  simp only [ak.pZ,Option.bind_eq_some_iff,Option.map_eq_some_iff] at h
  obtain ⟨y,⟨z,bR,aV⟩,vI,aE,rfl⟩ := h
  obtain ⟨v,bj,aA⟩ := ak0 aO ar bR
  obtain ⟨vs,Di,LJ⟩ := UB aO Dl aE
  exact ⟨v :: vs,by simp [List.mapM_cons,bj,Di],.cons (Bz aO.ob aA aV) LJ⟩

theorem bC.ke : ∀ (l : List b6) {S : ak} {H : bl},bC N w0 H0 S E a w H → ∃ H',hk H H' ∧ bC N w0 H0 (S.ke l) E a w H'
 | [],S,H,h => ⟨H,hk.refl _,h⟩
 | x :: l,S,H,h => by
  unfold ak.ke
  split
  ·rename_i s _
   obtain ⟨H1,l1,af⟩ := h.jA s
   obtain ⟨kK,l2,aj⟩ := bC.ke l af
   exact ⟨kK,l1.trans l2,aj⟩
  ·exact bC.ke l h

theorem Ng (aO : bC N w0 H0 S E a w H) {fn : Func} {eS l} (aA : uM fn.results.toList eS) (h : S.pZ eS = some l) : ∃ v,(results fn a.tmps).run Tryz.prog w = .ok v w ∧ cl H eD (si l) v := by
 obtain ⟨vs,Di,LJ⟩ := UB aO aA h
 have da : (fn.results.mapM (zr a.tmps)).run Tryz.prog w = .ok vs.toArray w := by
  rw [Array.mapM_eq_mapM_toList]; simp [Di]
 have he : results fn a.tmps = ((fn.results.mapM (zr a.tmps)) >>= fun vs => pure (if h : vs.size = 1 then vs[0] else .tuple vs)) := by
  have e : (fun x : ResultVar => match x with
   | .tmp t => (pure (a.tmps.getD t undef) : Sem Value)
   | .cell b t => do loadVar t (← asAddr (a.tmps.getD b undef))) = zr a.tmps := by funext x; cases x <;> rfl
  rw [← e]; rfl
 rw [he,Sem.run_bind,da]
 simp only [Result.andThen_ok,Sem.run_pure]
 refine ⟨_,rfl,?_⟩
 cases LJ with
 | nil => exact .bY .nil
 | cons af t =>
  cases t with
  | nil => exact af
  | cons aj t => exact .bY (.cons af (.cons aj t))

theorem E8 : ∀ (args : List aw) (vs : List Value) (i t : Nat) (x : aw),dg H E args vs → an (qT i args) t = some x → ∃ u,vs[t - i]? = some u ∧ i ≤ t ∧ cl H E x u
 | [],_,i,t,x,_,h => by cases h
 | y :: args,_,i,t,x,.cons af aA,h => by
  simp only [qT,an] at h
  split at h
  ·rename_i e; cases h; subst e; exact ⟨_,by simp,Nat.le_refl _,af⟩
  ·obtain ⟨u,hu,aq,aA⟩ := E8 args _ (i + 1) t x aA h
   exact ⟨u,by rw [show t - i = (t - (i + 1)) + 1 by omega]; simpa using hu,by omega,aA⟩

theorem aj7 {f : FuncId} {fn : Func} {c : Code} {h9 : bZ} {eS : List b6} {args : List aw} {r : aw} (aZ : Tryz.prog.funcs[f]? = some fn) (aI : fn.body = some c) (hm : Tryz.prog.follows .mixedOrders = true) (aB : k7 fn.ntmps c h9) (aA : uM fn.results.toList eS)
  (a9 : args.length ≤ fn.ntmps) (h : bK h9 eS args r) : cq f args r := by
 intro w H vs ao bj
 have aE := bj.length
 refine calls_of_wp aZ aI ?_
 have aO : bC fn.ntmps w H ⟨qT 0 args,[],0⟩ eD { tmps := vs.toArray ++ Array.replicate (fn.ntmps - vs.toArray.size) undef,defers := [] } w H := by
  refine ⟨Grow.refl ao,fun t x ar => ?_,(fun i o h => by cases h),(by rintro i j _ ⟨_,h,_⟩; cases h),(fun i _ => rfl),(by simp; omega),rfl⟩
  obtain ⟨u,hu,_,bf⟩ := E8 args vs 0 t x bj ar
  have aL : t < vs.length := by have := (List.getElem?_eq_some_iff.1 hu).1; simpa using this
  have e : (vs.toArray ++ Array.replicate (fn.ntmps - vs.toArray.size) undef)[t]? = some u := by
   rw [Array.getElem?_append_left (by simpa using aL)]; simpa using hu
  have a7 : ({ tmps := vs.toArray ++ Array.replicate (fn.ntmps - vs.toArray.size) undef,defers := [] } : Act).eval (.tmp t) = u := by
   simp only [Act.eval,Array.getD_eq_getD_getElem?,e,Option.getD_some]
  rw [a7]; exact bf
 refine wp_mono (JO (K := fin eS r) hm aB h aO) ?_
 intro e dN w' aT
 have wS : End fn.ntmps w H (fun S => cS ((S.ke eS).pZ eS) fun l => si l = r) dN w' → dN.defers = [] ∧ ∃ v,(results fn dN.tmps).run Tryz.prog w' = .ok v w' ∧ E0 w H (fun v : Value => v) (fun v H' => cl H' eD r v) (.returned v) w' := by
  rintro ⟨S',E',H',az,dY⟩
  obtain ⟨kK,_,hH⟩ := dY.ke eS
  obtain ⟨l,aE,rfl⟩ := b2 az
  obtain ⟨v,s5,vB⟩ := Ng hH aA aE
  exact ⟨hH.jO,v,s5,DY (c := fun v : Value => v) v kK hH.grow vB⟩
 cases e with
 | normal => exact wS aT
 | ret => exact wS aT
 | exit id => obtain ⟨_,_,_,h,_⟩ := aT; exact h.elim
 | goto l => exact aT.elim
 | panic c => exact aT.elim
 | outgrown => exact aT.elim
theorem TE {f : FuncId} {fn : Func} {c : Code} {h9 : bZ} {eS : List b6} {args : List aw} {O : List (Nat × bo)} {n : Nat} {P : (bl → Env → Prop) → aw → List (Nat × bo) → Nat → Prop} (aZ : Tryz.prog.funcs[f]? = some fn) (aI : fn.body = some c) (hm : Tryz.prog.follows .mixedOrders = true) (aB : k7 fn.ntmps c h9) (aA : uM fn.results.toList eS)
  (a9 : args.length ≤ fn.ntmps) (h : ∀ J,g4 h9 ⟨qT 0 args,(n,.cB J) :: O,n + 1⟩ (Ah eS n J P)) : gg f args O n P := by
 intro J N w0 H0 E a w H vs nf bj
 have aE := bj.length
 refine calls_of_wp aZ aI ?_
 have aO : bC fn.ntmps w0 H0 ⟨qT 0 args,(n,.cB J) :: O,n + 1⟩ E { tmps := vs.toArray ++ Array.replicate (fn.ntmps - vs.toArray.size) undef,defers := [] } w H := by
  refine ⟨nf.grow,fun t x ar => ?_,nf.ob,nf.ap,nf.c0,(by simp; omega),rfl⟩
  obtain ⟨u,hu,_,bf⟩ := E8 args vs 0 t x bj ar
  have aL : t < vs.length := by have := (List.getElem?_eq_some_iff.1 hu).1; simpa using this
  have e : (vs.toArray ++ Array.replicate (fn.ntmps - vs.toArray.size) undef)[t]? = some u := by
   rw [Array.getElem?_append_left (by simpa using aL)]; simpa using hu
  have a7 : ({ tmps := vs.toArray ++ Array.replicate (fn.ntmps - vs.toArray.size) undef,defers := [] } : Act).eval (.tmp t) = u := by
   simp only [Act.eval,Array.getD_eq_getD_getElem?,e,Option.getD_some]
  rw [a7]; exact bf
 refine wp_mono (JO (K := Ah eS n J P) hm aB (h J) aO) ?_
 intro e dN w' aT
 have wS : End fn.ntmps w0 H0 (fun S => cS ((S.ke eS).pZ eS) fun l => an (S.ke eS).O n = some (.cB J) ∧ P J (si l) (S.ke eS).O (S.ke eS).n) dN w' →
   dN.defers = [] ∧ ∃ v,(results fn dN.tmps).run Tryz.prog w' = .ok v w' ∧ ∃ hb r O' bO E' H',Ending.returned v = .returned hb ∧ P J r O' bO ∧ an O' n = some (.cB J) ∧ bC N w0 H0 ⟨[],O',bO⟩ E' a w' H' ∧ cl H' E' r hb := by
  rintro ⟨S',E',H',az,dY⟩
  obtain ⟨kK,_,hH⟩ := dY.ke eS
  obtain ⟨l,aE,aJ,cb⟩ := b2 az
  obtain ⟨v,s5,vB⟩ := Ng hH aA aE
  exact ⟨hH.jO,v,s5,v,si l,_,_,E',kK,rfl,cb,aJ,⟨hH.grow,(fun t x ar => by cases ar),hH.ob,hH.ap,hH.c0,nf.ju,nf.jO⟩,vB.mono (fun _ _ h => h) (mb _)⟩
 cases e with
 | normal => exact wS aT
 | ret => exact wS aT
 | exit id => obtain ⟨_,_,_,h,_⟩ := aT; exact h.elim
 | goto l => exact aT.elim
 | panic c => exact aT.elim
 | outgrown => exact aT.elim
theorem aj8 {f : FuncId} {fn : Func} {c : Code} {h9 : bZ} {eS : List b6} {args : List aw} {r : aw} (aZ : Tryz.prog.funcs[f]? = some fn) (aI : fn.body = some c) (hm : Tryz.prog.follows .mixedOrders = true) (aB : k7 fn.ntmps c h9) (aA : uM fn.results.toList eS)
  (a9 : args.length ≤ fn.ntmps) (h : FM h9 eS args r) : cq f args r := by
 intro w H vs ao bj
 have aE := bj.length
 refine calls_of_wp aZ aI ?_
 have aO : bC fn.ntmps w H ⟨qT 0 args,[],0⟩ eD { tmps := vs.toArray ++ Array.replicate (fn.ntmps - vs.toArray.size) undef,defers := [] } w H := by
  refine ⟨Grow.refl ao,fun t x ar => ?_,(fun i o h => by cases h),(by rintro i j _ ⟨_,h,_⟩; cases h),(fun i _ => rfl),(by simp; omega),rfl⟩
  obtain ⟨u,hu,_,bf⟩ := E8 args vs 0 t x bj ar
  have aL : t < vs.length := by have := (List.getElem?_eq_some_iff.1 hu).1; simpa using this
  have e : (vs.toArray ++ Array.replicate (fn.ntmps - vs.toArray.size) undef)[t]? = some u := by
   rw [Array.getElem?_append_left (by simpa using aL)]; simpa using hu
  have a7 : ({ tmps := vs.toArray ++ Array.replicate (fn.ntmps - vs.toArray.size) undef,defers := [] } : Act).eval (.tmp t) = u := by
   simp only [Act.eval,Array.getD_eq_getD_getElem?,e,Option.getD_some]
  rw [a7]; exact bf
 refine wp_mono (JO (K := Af eS r) hm aB h aO) ?_
 intro e dN w' aT
 have wS : End fn.ntmps w H (fun S => cS ((S.ke eS).pZ eS) fun l => EZ (si l) r) dN w' → dN.defers = [] ∧ ∃ v,(results fn dN.tmps).run Tryz.prog w' = .ok v w' ∧ E0 w H (fun v : Value => v) (fun v H' => cl H' eD r v) (.returned v) w' := by
  rintro ⟨S',E',H',az,dY⟩
  obtain ⟨kK,_,hH⟩ := dY.ke eS
  obtain ⟨l,aE,hle⟩ := b2 az
  obtain ⟨v,s5,vB⟩ := Ng hH aA aE
  exact ⟨hH.jO,v,s5,DY (c := fun v : Value => v) v kK hH.grow (hle _ _ vB)⟩
 cases e with
 | normal => exact wS aT
 | ret => exact wS aT
 | exit id => obtain ⟨_,_,_,h,_⟩ := aT; exact h.elim
 | goto l => exact aT.elim
 | panic c => exact aT.elim
 | outgrown => exact aT.elim
end

def ej.L1 : ej → Value → Bool
 | .int k,.int dG n => decide (dG = k) && decide (n = 0)
 | .bool,.bool b => !b
 | .au _,.slice none 0 0 => true
 | .mp _,.map none => true
 | .nilFunc,.nilFunc => true
 | .nilIface,.nilIface => true
 | .nilPtr,.pointer none => true
 | _,_ => false
theorem ej.ahO {z : ej} {v : Value} (h : z.L1 v = true) : v = z.val := by
 unfold ej.L1 at h
 split at h <;> simp_all [ej.val]
def GY : List ej → List Value → Bool
 | [],[] => true
 | z :: dE,v :: vs => z.L1 v && GY dE vs
 | _,_ => false
theorem SD : ∀ {dE : List ej} {vs : List Value},GY dE vs = true → vs = dE.map ej.val
 | [],[],_ => rfl
 | z :: dE,v :: vs,h => by
  simp only [GY,Bool.and_eq_true] at h
  rw [ej.ahO h.1,SD h.2]; rfl
 | [],_ :: _,h => by cases h
 | _ :: _,[],h => by cases h

theorem aoj {P : Program} (cb : P = Tryz.prog) {t : TypeId} {d : TypeDesc} (h : P.underlying t = some d) : Tryz.prog.underlying t = some d := by subst cb; exact h
theorem ahM {P : Program} (cb : P = Tryz.prog) {t : TypeId} {d : TypeInfo} (h : P.info? t = some d) : Tryz.prog.info? t = some d := by subst cb; exact h
theorem aen {P : Program} (cb : P = Tryz.prog) {t : FuncId} {d : Func} (h : P.funcs[t]? = some d) : Tryz.prog.funcs[t]? = some d := by subst cb; exact h
theorem akF {P : Program} (cb : P = Tryz.prog) {eI : List Field} {places : List (Nat × Nat)} (h : eI.mapM (fun f => (P.info? f.type).map fun i => (f.offset,i.size)) = some places) :
  eI.mapM (fun f => (Tryz.prog.info? f.type).map fun i => (f.offset,i.size)) = some places := by subst cb; exact h
def MU {α : Type} {p : α → Prop} : (o : Option α) → (∀ d,o = some d → p d) → Option {d : α // p d}
 | some d,h => some ⟨d,h d rfl⟩
 | none,_ => none
def lF (P : Program) (cb : P = Tryz.prog) (t : TypeId) : Option {d : TypeDesc // Tryz.prog.underlying t = some d} := MU (P.underlying t) fun _ h => aoj cb h
def uh (P : Program) (cb : P = Tryz.prog) (t : TypeId) : Option {i : TypeInfo // Tryz.prog.info? t = some i} := MU (P.info? t) fun _ h => ahM cb h
def aem (P : Program) (cb : P = Tryz.prog) (f : FuncId) : Option {fn : Func // Tryz.prog.funcs[f]? = some fn} := MU (P.funcs[f]?) fun _ h => aen cb h

def X5 (g : TypeId → Option (List ej)) : List TypeId → Option (List ej)
 | [] => some []
 | t :: l => match g t,X5 g l with
  | some a,some b => some (a ++ b)
  | _,_ => none
def O6 (P : Program) : Nat → TypeId → Option (List ej)
 | 0,_ => none
 | n + 1,t => match P.underlying t with
  | some (.int k) => some [.int k]
  | some .bool => some [.bool]
  | some (.slice e) => (P.info? e).map fun i => [.au i.size]
  | some (.map bd _) => some [.mp bd]
  | some (.func _ _ _) => some [.nilFunc]
  | some (.interface _) => some [.nilIface]
  | some (.pointer _) => some [.nilPtr]
  | some (.struct eI) => X5 (O6 P n) (eI.toList.map (·.type))
  | some (.array m e) => (O6 P n e).map fun l => (List.replicate m l).flatten
  | _ => none

def MR : Operand → Operand → Bool
 | .tmp a,.tmp b => decide (a = b)
 | .const (.int k n),.const (.int dG bO) => decide (k = dG) && decide (n = bO)
 | _,_ => false
theorem ako {x y : Operand} (h : MR x y = true) : x = y := by
 unfold MR at h
 split at h <;> simp_all

theorem SB {α : Type} : ∀ (l : List (Nat × α)) (j : Nat),l.map (·.1) = List.range' j l.length → l = idxs j (l.map (·.2))
 | [],j,_ => rfl
 | (i,x) :: l,j,h => by
  simp only [List.map_cons,List.length_cons,List.range'_succ,List.cons.injEq] at h
  obtain ⟨rfl,h⟩ := h
  simp only [List.map_cons,idxs]
  rw [← SB l (i + 1) h]

theorem ac4 {t : TypeId} {it : TypeInfo} {eI : Array Field} {z : Value} {places : List (Nat × Nat)} (aq : Tryz.prog.info? t = some it) (hu : Tryz.prog.underlying t = some (.struct eI)) (bR : it.zero = some z)
  (hp : eI.toList.mapM (fun f => (Tryz.prog.info? f.type).map fun i => (f.offset,i.size)) = some places) (mI : List (Nat × Value)) : Tryz.prog.built t mI = Instr.fill (fun j => places[j]?) z.cells mI := by
 simp [Program.built,aq,hu,bR,hp]
theorem ac3 {t e : TypeId} {it xh : TypeInfo} {m : Nat} {z : Value} (aq : Tryz.prog.info? t = some it) (hu : Tryz.prog.underlying t = some (.array m e)) (bR : it.zero = some z) (he : Tryz.prog.info? e = some xh) (mI : List (Nat × Value)) :
  Tryz.prog.built t mI = Instr.fill (fun i => some (i * xh.size,xh.size)) z.cells mI := by
 simp [Program.built,aq,hu,bR,he]

def zeroOf (P : Program) (cb : P = Tryz.prog) (t : TypeId) : Option {p : TypeInfo × Value × List ej // Tryz.prog.info? t = some p.1 ∧ p.1.zero = some p.2.1 ∧ p.2.1.cells.toList = p.2.2.map ej.val} :=
 match uh P cb t with
 | none => none
 | some ⟨i,aq⟩ => match bR : i.zero with
  | none => none
  | some z => match O6 P 8 t with
   | none => none
   | some dE => if h : GY dE z.cells.toList = true then some ⟨(i,z,dE),aq,bR,SD h⟩ else none

def A4 (P : Program) (cb : P = Tryz.prog) (t : TypeId) : Option {p : TypeId × TypeInfo // Tryz.prog.underlying t = some (.slice p.1) ∧ Tryz.prog.info? p.1 = some p.2} :=
 match lF P cb t with
 | some ⟨.slice e,hu⟩ => match uh P cb e with
  | some ⟨i,aq⟩ => some ⟨(e,i),hu,aq⟩
  | none => none
 | _ => none

def amg (P : Program) (cb : P = Tryz.prog) (t : TypeId) (parts : Array (Nat × Operand)) : Option {fj : b7 // eW (.build t parts) fj} :=
 match zeroOf P cb t with
 | none => none
 | some ⟨(i,z,dE),aq,bR,hO⟩ => match lF P cb t with
  | some ⟨.struct eI,hu⟩ => match hp : eI.toList.mapM (fun f => (P.info? f.type).map fun i => (f.offset,i.size)) with
   | some places => match Ay : parts.toList.mapM (fun p => (places[p.1]?).map fun q => (q.1,q.2,p.2)) with
    | some ps => some ⟨.dO dE ps,.dO (pl := fun j => places[j]?) aq bR hO (ac4 aq hu bR (akF cb hp)) Ay⟩
    | none => none
   | none => none
  | some ⟨.array m e,hu⟩ => match uh P cb e with
   | some ⟨xh,he⟩ => match Ay : parts.toList.mapM (fun p => ((some (p.1 * xh.size,xh.size) : Option (Nat × Nat))).map fun q => (q.1,q.2,p.2)) with
    | some ps => some ⟨.dO dE ps,.dO (pl := fun j => some (j * xh.size,xh.size)) aq bR hO (ac3 aq hu bR he) Ay⟩
    | none => none
   | none => none
  | _ => none

def amh (P : Program) (cb : P = Tryz.prog) (t : TypeId) (len : Nat) (parts : Array (Nat × Operand)) : Option {fj : b7 // eW (.buildSlice t len parts) fj} :=
 match A4 P cb t with
 | none => none
 | some ⟨(e,i),hu,aq⟩ => match bR : i.zero with
  | none => none
  | some z =>
   if h : z.cells.size = i.size ∧ 0 < i.size ∧ parts.toList.map (·.1) = List.range' 0 parts.toList.length ∧ len = (parts.toList.map (·.2)).length ∧ len * i.size ≤ 16777216 then
    some ⟨.hE i.size (parts.toList.map (·.2)),by
     obtain ⟨af,aj,av,aY,bM⟩ := h
     subst aY
     exact .hE hu aq bR af aj (SB _ 0 av) bM⟩
   else none

def amf (P : Program) (cb : P = Tryz.prog) (t : TypeId) (x y : Operand) : Option {fj : b7 // eW (.call ⟨.builtin .append,#[x,y],#[t,t]⟩) fj} :=
 match A4 P cb t with
 | some ⟨(e,i),hu,aq⟩ => match bR : i.zero with
  | some z => if h : z.cells.size = i.size ∧ 0 < i.size then some ⟨.app x y e i.size i.bytes,.app hu aq bR h.1 h.2⟩ else none
  | none => none
 | none => none

def ami (P : Program) (cb : P = Tryz.prog) (c : Call) : Option {fj : b7 // eW (.call c) fj} :=
 match c with
 | ⟨.value (.func f),args,hQ⟩ => match aem P cb f with
  | some ⟨fn,aZ⟩ => if h : fn.body.isSome = true ∧ (fn.name == "runtime.NumGoroutine") = false then some ⟨.call f args.toList,.call aZ h.1 h.2⟩ else none
  | none => none
 | ⟨.value (.tmp t),args,hQ⟩ => some ⟨.kP (.tmp t) args.toList,.kP⟩
 | ⟨.builtin .len,⟨[x]⟩,⟨[t]⟩⟩ => match A4 P cb t with
  | some ⟨(e,i),hu,aq⟩ => some ⟨.len x,.len hu⟩
  | none => match lF P cb t with
   | some ⟨.map bd e,hu⟩ => match lF P cb bd with
    | some ⟨.int .i64,az⟩ => some ⟨.te bd x,.te hu az⟩
    | _ => none
   | _ => none
 | ⟨.builtin .max,⟨[x,y]⟩,hQ⟩ => some ⟨.kX true x y,.max⟩
 | ⟨.builtin .min,⟨[x,y]⟩,hQ⟩ => some ⟨.kX false x y,.min⟩
 | ⟨.builtin .append,⟨[x,y]⟩,⟨[t,t']⟩⟩ =>
  if aL : t = t' then match amf P cb t x y with
   | some ⟨fj,h⟩ => some ⟨fj,by subst aL; exact h⟩
   | none => none
  else none
 | ⟨.builtin .delete,⟨[m,key]⟩,⟨[t,t']⟩⟩ => match lF P cb t with
  | some ⟨.map bd e,hu⟩ => match lF P cb bd with
   | some ⟨.int .i64,az⟩ => if aL : bd = t' then some ⟨.del bd m key,by subst aL; exact .del hu az⟩ else none
   | _ => none
  | _ => none
 | ⟨.builtin .copy,⟨[x,y]⟩,⟨[t,t']⟩⟩ => match A4 P cb t with
  | some ⟨(e,i),hu,aq⟩ => some ⟨.rO x y i.size,.rO hu aq⟩
  | none => none
 | _ => none

def amn (P : Program) (cb : P = Tryz.prog) (t : TypeId) (x : Operand) : Option {fj : b7 // eW (.load t x) fj} :=
 match lF P cb t with
 | some ⟨d,hu⟩ => if a5 : m7 d = true then (match uh P cb t with | some ⟨i,aq⟩ => some ⟨.aC x (some i.size),.SS hu a5 aq⟩ | none => none) else some ⟨.aC x none,.SR hu (by simpa using a5)⟩
 | none => none
def amj (P : Program) (cb : P = Tryz.prog) (s : TypeId) (x : Operand) (j : Nat) : Option {fj : b7 // eW (.field s x j) fj} :=
 match lF P cb s with
 | some ⟨.struct eI,hu⟩ => match aZ : eI[j]? with
  | some f => match lF P cb f.type with
   | some ⟨d,a6⟩ => if a5 : m7 d = true then (match uh P cb f.type with | some ⟨i,aq⟩ => some ⟨.pD x f.offset (some i.size),.QP hu aZ aq a6 a5⟩ | none => none) else some ⟨.pD x f.offset none,.QO hu aZ a6 (by simpa using a5)⟩
   | none => none
  | none => none
 | _ => none
def amk (P : Program) (cb : P = Tryz.prog) (s : TypeId) (x : Operand) (j : Nat) : Option {fj : b7 // eW (.fieldAddr s x j) fj} :=
 match lF P cb s with
 | some ⟨.struct eI,hu⟩ => match aZ : eI[j]? with
  | some f => match uh P cb f.type with
   | some ⟨i,aq⟩ => if bR : i.size ≠ 0 then some ⟨.aU x f.offset,.aU hu aZ aq bR⟩ else none
   | none => none
  | none => none
 | _ => none
def amm (P : Program) (cb : P = Tryz.prog) (t : TypeId) (x j : Operand) : Option {fj : b7 // eW (.indexAddr t x j) fj} :=
 match lF P cb t with
 | some ⟨.slice e,hu⟩ => match uh P cb e with
  | some ⟨i,aq⟩ => if hp : 0 < i.size then some ⟨.dD x j i.size,.dD hu aq hp⟩ else none
  | none => none
 | some ⟨.array n e,hu⟩ => match uh P cb e with
  | some ⟨i,aq⟩ => some ⟨.mV x j i.size n,.mV hu aq⟩
  | none => none
 | _ => none
theorem akn {z : Value} {Ii : ej} (h : z.oneCell' = true) (hO : z.cells.toList = [Ii].map ej.val) : z = Ii.val := by
 have a1 : z.cells = #[z] := by cases z <;> simp_all [Value.cells,Value.oneCell']
 simpa [a1] using hO
def amo (P : Program) (cb : P = Tryz.prog) (t : TypeId) (m key : Operand) (ok : Bool) : Option {fj : b7 // eW (.lookup t m key ok) fj} :=
 match lF P cb t with
 | some ⟨.map bd e,hu⟩ => match lF P cb bd with
  | some ⟨.int .i64,az⟩ => match zeroOf P cb e with
   | some ⟨(i,z,[Ii]),aq,bR,hO⟩ => if h : z.oneCell' = true then some ⟨.mW bd m key Ii ok,.mW hu az aq (by rw [← akn h hO]; exact bR)⟩ else none
   | _ => none
  | _ => none
 | _ => none
def amp (P : Program) (cb : P = Tryz.prog) (t : TypeId) (n c : Operand) : Option {fj : b7 // eW (.makeSlice t n c) fj} :=
 if aB : MR n c = true then (match A4 P cb t with
  | some ⟨(e,i),hu,aq⟩ => match zeroOf P cb e with
   | some ⟨(jC,z,dE),jR,bR,hO⟩ => if h : z.cells.size = i.size ∧ 0 < i.size then some ⟨.mY n e i.size i.bytes dE,by
     have a1 := ako aB; subst a1
     have a7 : i = jC := Option.some.inj (aq.symm.trans jR)
     subst a7
     exact .mY hu aq bR hO h.1 h.2⟩ else none
   | none => none
  | none => none) else none
def LZ : TypeDesc → Bool
 | .interface _ => true
 | _ => false

def ahN : BinOp → Bool
 | .add | .sub | .mul | .quo | .rem | .eql | .neq | .lss | .leq | .gtr | .geq => true
 | _ => false
def amr (P : Program) (cb : P = Tryz.prog) (op : Op) : Option {fj : b7 // eW op fj} :=
 match op with
 | .move x => some ⟨.ah x,.ah⟩
 | .assign x => some ⟨.ah x,.E9⟩
 | .load t x => amn P cb t x
 | .fieldAddr s x j => amk P cb s x j
 | .field s x j => amj P cb s x j
 | .indexAddr t x j => amm P cb t x j
 | .build t parts => amg P cb t parts
 | .buildSlice t len parts => amh P cb t len parts
 | .slice t x jD aq mx => match A4 P cb t with
  | some ⟨(e,i),hu,jR⟩ => some ⟨.k1 i.size x jD aq mx,.k1 hu jR⟩
  | none => none
 | .lookup t m key ok => amo P cb t m key ok
 | .extract x i => some ⟨.ext x i,.ext⟩
 | .binOp op t x y t2 => match P.underlying t with
  | some (.int _) => if ahN op = true then some ⟨.bin op x y,.bin⟩ else none
  | some (.interface _) => none
  | _ => match op with
   | .eql => some ⟨.eqv false t x y,.eqv⟩
   | .neq => some ⟨.eqv true t x y,.Ms⟩
   | _ => none
 | .unOp .not t x => some ⟨.not x,.not⟩
 | .convert src dst x => match lF P cb src,lF P cb dst with
  | some ⟨d,ao⟩,some ⟨.int k,a6⟩ => some ⟨.mf k x,.mf ao a6⟩
  | _,_ => none
 | .call c => ami P cb c
 | .makeFunc f first cap => some ⟨.kj f first.toList cap.toList,.kj⟩
 | .makeInterface t x => match lF P cb t with
  | some ⟨d,hu⟩ => if h : LZ d = false then some ⟨.iC t x,.iC hu (fun ms e => by subst e; cases h)⟩ else none
  | none => none
 | .pick c a b => some ⟨.pick c a b,.pick⟩
 | .range t x => match lF P cb t with
  | some ⟨.map bd e,hu⟩ => match lF P cb bd with
   | some ⟨.int .i64,az⟩ => some ⟨.kl bd x,.kl hu az⟩
   | _ => none
  | _ => none
 | .next x false => some ⟨.o7 x,.o7⟩
 | .entry x => some ⟨.rS x,.rS⟩
 | .nilCheck x => some ⟨.lB x,.lB⟩
 | .makeSlice t n c => amp P cb t n c
 | .makeMap t none => match lF P cb t with
  | some ⟨.map bd e,hu⟩ => match lF P cb bd with
   | some ⟨.int .i64,az⟩ => some ⟨.o5 t bd,.o5 hu az⟩
   | _ => none
  | _ => none
 | .alloc t => match zeroOf P cb t with
  | some ⟨(i,z,dE),aq,bR,hO⟩ => some ⟨.cw t dE,.cw aq bR hO⟩
  | none => none
 | .box t x => some ⟨.box t x,.box⟩
 | .store t x y => match uh P cb t with
  | some ⟨i,aq⟩ => some ⟨.st i.size x y,.st aq⟩
  | none => none
 | .mapUpdate t m key x => match lF P cb t with
  | some ⟨.map bd e,hu⟩ => match lF P cb bd with
   | some ⟨.int .i64,az⟩ => some ⟨.qv bd m key x,.qv hu az⟩
   | _ => none
  | _ => none
 | _ => none

def aey : Op → Option (List Operand)
 | .typeAssert x _ _ _ => some [x]
 | .index _ x i => some [x,i]
 | .binOp _ _ x y _ => some [x,y]
 | .unOp _ _ x => some [x]
 | .convert _ _ x => some [x]
 | .slice _ x jD aq mx => some (x :: (jD.toList ++ aq.toList ++ mx.toList))
 | .call ⟨.invoke recv _,args,_⟩ => some (recv :: args.toList)
 | .call ⟨.builtin .max,args,_⟩ => some args.toList
 | .call ⟨.builtin .min,args,_⟩ => some args.toList
 | _ => none
def amq (P : Program) (cb : P = Tryz.prog) (op : Op) : Option {fj : b7 // eW op fj} :=
 match amr P cb op with
 | some x => some x
 | none => (aey op).map fun xs => ⟨.gen op xs,.gen⟩

def OL (ops : Array Oper) : Option (Nat × Bool) → Option (Option (Nat × Bool))
 | none => some none
 | some (j,b) => match ops[j]? with
  | some hP => hP.dst.map fun t => some (t,b)
  | none => none
theorem aml {ops : Array Oper} {o : Oper} {g : Option (Nat × Bool)} (h : OL ops o.guard = some g) : Pn ops o g := by
 unfold OL at h
 split at h
 ·rename_i aJ; cases h; exact aJ
 ·rename_i j b aJ
  split at h
  ·rename_i hP aN
   cases a6 : hP.dst with
   | none => rw [a6] at h; cases h
   | some t => rw [a6] at h; cases h; exact ⟨j,hP,aJ,aN,a6⟩
  ·cases h

def S3 (N : Nat) : Option Nat → Bool
 | none => true
 | some d => decide (d < N)
def ams (P : Program) (cb : P = Tryz.prog) (N : Nat) (ops : Array Oper) (o : Oper) : Option {g : cA // Bl N ops o g} :=
 match amq P cb o.op,aJ : OL ops o.guard with
 | some fj,some gj => if h : S3 N o.dst = true then some ⟨⟨o.dst,gj,fj.1⟩,rfl,fj.2,fun t e6 => (by rw [e6] at h; simpa [S3] using h),aml aJ⟩ else none
 | _,_ => none

def H8 (P : Program) (cb : P = Tryz.prog) (N : Nat) (ops : Array Oper) : (l : List Oper) → Option {cu : List cA // kn N ops l cu}
 | [] => some ⟨[],.nil⟩
 | o :: l => match ams P cb N ops o,H8 P cb N ops l with
  | some g,some cu => some ⟨g.1 :: cu.1,.cons g.2 cu.2⟩
  | _,_ => none

def QR (ops : Array Oper) (n : Nat) : List Nat :=
 (List.range n).filter fun j => (List.range ops.size).any fun i => decide (n ≤ i) && (match ops[i]? with | some o => !waits o j && !(Aa ops i (wl o)).contains j | none => false)

def JA (N : Nat) (ops : Array Oper) (cu : List cA) (n : Nat) : Bool :=
 zX ops n (QR ops n) && By ops n N && F0 ops n cu && FT (QR ops n) cu

def vY (P : Program) (cb : P = Tryz.prog) (N : Nat) : (c : Code) → Option {h9 : bZ // k7 N c h9}
 | .skip => some ⟨.skip,.skip⟩
 | .region id ops false => match H8 P cb N ops ops.toList with
  | some cu => some ⟨.ops cu.1,.ops cu.2⟩
  | none => none
 | .region id ops true => match H8 P cb N ops ops.toList with
  | some cu => match (List.range (ops.size + 1)).find? (JA N ops cu.1) with
   | some n => if h : JA N ops cu.1 n = true then some ⟨.g0 n cu.1,by
     unfold JA at h
     simp only [Bool.and_eq_true] at h
     exact .g0 cu.2 h.1.1.1 h.1.1.2 h.1.2 h.2⟩ else none
   | none => if 10 ≤ (cu.1.filter fun g => !g.op.Aj).length then (if h : (Region.noSelect ops && Em ops) = true then some ⟨.qc (ops.toList.map wl) cu.1,by
     simp only [Bool.and_eq_true] at h
     exact .qc cu.2 h.1 h.2⟩ else none)
    else if h : (Region.noSelect ops && pX ops cu.1 [] (DD ops cu.1 ops.size [])) = true then some ⟨.ord (DD ops cu.1 ops.size []) cu.1,by
     simp only [Bool.and_eq_true] at h
     exact .ord cu.2 h.1 h.2⟩ else none
  | none => none
 | .seq a b => match vY P cb N a,vY P cb N b with
  | some x,some y => some ⟨.seq x.1 y.1,.seq x.2 y.2⟩
  | _,_ => none
 | .cond c a b => match vY P cb N a,vY P cb N b with
  | some x,some y => some ⟨.cond c x.1 y.1,.cond x.2 y.2⟩
  | _,_ => none
 | .block id a => match vY P cb N a with
  | some x => some ⟨.block id x.1,.block x.2⟩
  | none => none
 | .loop a => match vY P cb N a with
  | some x => some ⟨.loop x.1,.loop x.2⟩
  | none => none
 | .exit id => some ⟨.exit id,.exit⟩
 | .ret => some ⟨.ret,.ret⟩
 | _ => none

def amt (P : Program) (cb : P = Tryz.prog) : (x : ResultVar) → Option {y : b6 // zW x y}
 | .tmp t => some ⟨.tmp t,.tmp⟩
 | .cell t ty => match lF P cb ty with
  | some ⟨d,hu⟩ => if a5 : m7 d = true then (match uh P cb ty with | some ⟨i,aq⟩ => some ⟨.eB t (some i.size),.P4 hu a5 aq⟩ | none => none) else some ⟨.eB t none,.P3 hu (by simpa using a5)⟩
  | none => none
def OM (P : Program) (cb : P = Tryz.prog) : (l : List ResultVar) → Option {y : List b6 // uM l y}
 | [] => some ⟨[],.nil⟩
 | x :: l => match amt P cb x,OM P cb l with
  | some y,some ys => some ⟨y.1 :: ys.1,.cons y.2 ys.2⟩
  | _,_ => none

def cP (P : Program) (cb : P = Tryz.prog) (fn : Func) : Option (bZ × List b6) :=
 match fn.body with
 | none => none
 | some c => match vY P cb fn.ntmps c,OM P cb fn.results.toList with
  | some x,some y => some (x.1,y.1)
  | _,_ => none

theorem mixed : Tryz.prog.follows .mixedOrders = true := by kernel_rfl

theorem df {f : FuncId} {fn : Func} {h9 : bZ} {eS : List b6} {args : List aw} {r : aw} (aZ : Tryz.prog.funcs[f]? = some fn) (aL : cP Tryz.prog rfl fn = some (h9,eS)) (a9 : Nat.ble args.length fn.ntmps = true) (h : bK h9 eS args r) : cq f args r := by
 unfold cP at aL
 split at aL
 ·cases aL
 ·rename_i c aI
  split at aL
  ·rename_i x y _ _
   cases aL
   exact aj7 aZ aI mixed x.2 y.2 (Nat.le_of_ble_eq_true a9) h
  ·cases aL
theorem T6 {f : FuncId} {fn : Func} {h9 : bZ} {eS : List b6} {args : List aw} {r : aw} (aZ : Tryz.prog.funcs[f]? = some fn) (aL : cP Tryz.prog rfl fn = some (h9,eS)) (a9 : Nat.ble args.length fn.ntmps = true) (h : FM h9 eS args r) : cq f args r := by
 unfold cP at aL
 split at aL
 ·cases aL
 ·rename_i c aI
  split at aL
  ·rename_i x y _ _
   cases aL
   exact aj8 aZ aI mixed x.2 y.2 (Nat.le_of_ble_eq_true a9) h
  ·cases aL

theorem ai5 {α : Type} (k : α → Prop) : cS none k = False := rfl
variable {S F : ak} {K : qK → ak → Prop} {L : ak → Prop}

theorem ae {a b : bZ} (h : ∀ bD : qK → ak → Prop,(∀ eC S',g4 b (S'.e1 eC) K → bD .next S') → (∀ S',K .ret S' → bD .ret S') → (∀ i S',K (.exit i) S' → bD (.exit i) S') → g4 a S bD) : g4 (.seq a b) S K :=
 h _ (fun eC _ h => ⟨eC,h⟩) (fun _ h => h) (fun _ _ h => h)
theorem cj {id : Nat} {a : bZ} (h : ∀ bD : qK → ak → Prop,(∀ S',K .next S' → bD .next S') → (∀ S',K .next S' → bD (.exit id) S') → (∀ S',K .ret S' → bD .ret S') → (∀ i S',i ≠ id → K (.exit i) S' → bD (.exit i) S') → g4 a S bD) : g4 (.block id a) S K :=
 h _ (fun _ h => h) (fun S' h => by simp only [if_true]; exact h) (fun _ h => h) (fun i S' aq h => by simp only [if_neg aq]; exact h)
theorem bU {c : Operand} {a b : bZ} (h : g4 a S K) (aB : S.bg c = some (.v (.bool true)) := by rfl) : g4 (.cond c a b) S K := by
 show cS (S.bg c) _
 rw [aB]
 exact ⟨fun _ => h,(fun h => nomatch h)⟩
theorem bs {c : Operand} {a b : bZ} (h : g4 b S K) (aB : S.bg c = some (.v (.bool false)) := by rfl) : g4 (.cond c a b) S K := by
 show cS (S.bg c) _
 rw [aB]
 exact ⟨(fun h => nomatch h),fun _ => h⟩
theorem mP {c : Operand} {a b : bZ} {t : Bool} (aB : S.bg c = some (.v (.bool t))) (af : t = true → g4 a S K) (aj : t = false → g4 b S K) : g4 (.cond c a b) S K := by
 show cS (S.bg c) _
 rw [aB]
 exact ⟨af,aj⟩
theorem ie {a : bZ} (I : Nat → ak → Prop) (m : Nat) (ht : Option (List Nat × Option (List Nat × Nat))) (cs : List rC) (ba : I m ((S.gM cs).e1 ht)) (h : ∀ k bT,I k bT → ∀ bD : qK → ak → Prop,(∀ dG ht S',dG < k → I dG (S'.e1 ht) → bD .next S') → (∀ S',K .ret S' → bD .ret S') → (∀ i S',K (.exit i) S' → bD (.exit i) S') → g4 a bT bD) : g4 (.loop a) S K :=
 ⟨I,m,ht,cs,ba,fun k bT az => h k bT az _ (fun dG ht S' af aj => ⟨dG,ht,af,aj⟩) (fun _ h => h) (fun _ _ h => h)⟩
theorem QA : ∀ {a b : List cA} {S : ak} {L : ak → Prop},ig (a ++ b) S L ↔ ig a S fun S' => ig b S' L
 | [],_,_,_ => Iff.rfl
 | o :: a,b,S,L => by
  have e : (fun S' => ig (a ++ b) S' L) = fun S' => ig a S' fun Z0 => ig b Z0 L := funext fun S' => propext (QA (a := a) (b := b))
  simp only [List.cons_append,ig]
  rw [e]
theorem iJ {f : FuncId} {xs : List Operand} {d : Option Nat} {l : List aw} {P : (bl → Env → Prop) → aw → List (Nat × bo) → Nat → Prop} (aA : gg f l S.O S.n P) (aE : S.k0 xs = some l) (az : ∀ J r O' bO,P J r O' bO → L (ak.b3 ⟨S.T,ef O' S.n,bO⟩ d r)) : Qt f xs S d L := .inr ⟨l,P,aE,aA,az⟩
inductive rn (l : List cA) (L : ak → Prop) (S : ak) : Prop
 | mk (h : ig l S L)
 | no (h : False)
inductive r9 (l : List cA) (L : ak → Prop) (S F : ak) (cH : List TypeId) : Prop
 | mk (h : iK l S F cH L)
 | no (h : False)
theorem xl {l : List cA} (h : ig l S L) : rn l L S := .mk h
theorem xk {l : List cA} {F : ak} {cH : List TypeId} (h : iK l S F cH L) : r9 l L S F cH := .mk h
theorem ah1 (l : List cA) (L : ak → Prop) : rn l L = fun S => ig l S L := funext fun S => propext ⟨fun h => by cases h with | mk h => exact h | no h => exact h.elim,.mk⟩
theorem ahY (l : List cA) (L : ak → Prop) : r9 l L = fun S F cH => iK l S F cH L := funext fun S => funext fun F => funext fun cH => propext ⟨fun h => by cases h with | mk h => exact h | no h => exact h.elim,.mk⟩
theorem mF {l : List cA} (h : rn l L S) : ig l S L := by
 cases h with
 | mk h => exact h
 | no h => exact h.elim
theorem Xr {l : List cA} {cH : List TypeId} (h : r9 l L S F cH) : iK l S F cH L := by
 cases h with
 | mk h => exact h
 | no h => exact h.elim
theorem ai {l : List cA} (h : ∀ bD : ak → Prop,(∀ S',K .next S' → bD S') → rn l bD S) : g4 (.ops l) S K := ⟨[],[],mF (h _ (fun _ h => h))⟩
theorem qZ (sp : List (Nat × List rI)) (cs : List rC) {l : List cA} (h : ∀ bD : ak → Prop,(∀ S',K .next S' → bD S') → tS sp l (S.gM cs) bD) : g4 (.ops l) S K := ⟨sp,cs,h _ (fun _ h => h)⟩
theorem qh {n : Nat} {rs : List rI} {sp : List (Nat × List rI)} {l : List cA} (h : ∀ bD : ak → Prop,(∀ S',pA rs S' (fun gr => tS sp (l.drop n) gr L) → bD S') → rn (l.take n) bD S) : tS ((n,rs) :: sp) l S L := mF (h _ fun _ h => h)
theorem rR {rs : List rI} {sp : List (Nat × List rI)} {l : List cA} (h : pA rs S fun gr => tS sp l gr L) : tS ((0,rs) :: sp) l S L := by
 show ig (l.take 0) S fun bT => pA rs bT fun gr => tS sp (l.drop 0) gr L
 rw [List.take_zero,List.drop_zero]
 exact h
theorem q0 {l : List cA} (h : rn l L S) : tS [] l S L := mF h
theorem B2 {i : Nat} {rs : List rI} {t : TypeId} {cs : List aw} (aJ : an S.O i = some (.box t cs)) (h : ∀ b,pA rs (S.fT (.cB (o4 i b))) L) : pA (.xH i :: rs) S L := ⟨⟨t,cs,aJ⟩,h⟩
theorem q1 {t g : Nat} {rs : List rI} {i b off : Nat} (aJ : an S.O g = some (.cB (o4 i b))) (aL : an S.T t = some (.v (.pointer (some ⟨b,off,none⟩)))) (h : pA rs (S.put t (.ptr i 0 off)) L) : pA (.raw t g :: rs) S L := ⟨i,b,off,aJ,aL,h⟩
theorem B3 {t g : Nat} {rs : List rI} {i b off : Nat} (aJ : an S.O g = some (.cB (o4 i b))) (aL : an S.T t = some (.ptr i 0 off)) (h : pA rs (S.put t (.v (.pointer (some ⟨b,off,none⟩)))) L) : pA (.xQ t g :: rs) S L := ⟨i,b,off,aJ,aL,h⟩
theorem nT (h : L S) : pA [] S L := h
theorem B0 {x : Operand} {name : String} {args : Array Operand} {hQ : Array TypeId} {t : TypeId} {f : FuncId} {d : Option Nat} {l5 : aw} {l0 : List aw} {P : (bl → Env → Prop) → aw → List (Nat × bo) → Nat → Prop} (aA : gg f (l5 :: l0) S.O S.n P) (bA : sy t name f) (bL : Enters f) (ar : S.bg x = some (.ds t l5)) (aE : S.k0 args.toList = some l0) (az : ∀ J r O' bO,P J r O' bO → L (ak.b3 ⟨S.T,ef O' S.n,bO⟩ d r)) : Qz (.call ⟨.invoke x name,args,hQ⟩) (x :: args.toList) S d L :=
 ⟨x,name,args,hQ,t,l5,l0,f,P,rfl,rfl,ar,aE,bA,bL,aA,az⟩
theorem JL {x : Operand} {f : FuncId} {xs : List Operand} {d : Option Nat} {s : aw} {l0 l : List aw} {P : (bl → Env → Prop) → aw → List (Nat × bo) → Nat → Prop} (aA : gg f l S.O S.n P) (ar : S.bg x = some s) (aE : S.k0 xs = some l0) (aB : callee s l0 f l) (az : ∀ J r O' bO,P J r O' bO → L (ak.b3 ⟨S.T,ef O' S.n,bO⟩ d r)) : Qu x xs S d L :=
 ⟨s,l0,f,l,P,ar,aE,aB,aA,az⟩
theorem Ac (cs : List rC) (bT : ak) {t : nM} {l : List cA} (af : ∀ L : ak → Prop,(∀ S' ht,(S'.e1 ht).sorted = bT → L S') → oe t l (S.gM cs) L) (aj : K .next bT) : g4 (.ord t l) S K :=
 ⟨cs,bT,af _ (fun S' ht h => ⟨ht,h⟩),aj⟩
theorem gN {i : Nat} {t : nM} {l : List cA} {o : cA} (ax : l[i]? = some o) (h : ∀ wi : ak → Prop,(∀ S',oe t l S' L → wi S') → kd o S wi) : oe (.b4 i t) l S L := by
 show cS l[i]? _
 rw [ax]; exact h _ (fun _ h => h)
theorem bF {i : Nat} {t : nM} {l : List cA} {o : cA} (ax : l[i]? = some o) (h : ∀ wi : ak → Prop,(∀ S',oe t l S' L → wi S') → kd o S wi) : oe (.step i t) l S L := by
 show cS l[i]? _
 rw [ax]; exact h _ (fun _ h => h)
theorem gh (gs : List aw) {n : Nat} {l : List cA} (h : ∀ bD : ak → Prop,(∀ S',rn (l.drop n) (K .next) S' → bD S') → r9 (l.take n) bD (S.oh gs) (S.oh gs) []) : g4 (.g0 n l) S K := ⟨gs,[],Xr (h _ (fun _ h => mF h))⟩
theorem adI (cs : List rC) (gs : List aw) {n : Nat} {l : List cA} (h : ∀ bD : ak → Prop,(∀ S',rn (l.drop n) (K .next) S' → bD S') → r9 (l.take n) bD ((S.gM cs).oh gs) ((S.gM cs).oh gs) []) : g4 (.g0 n l) S K := ⟨gs,cs,Xr (h _ (fun _ h => mF h))⟩
def wR : List cA → ak → ak → List TypeId → (ak → ak → List TypeId → Prop) → Prop
 | [],S,F,cH,K => K S F cH
 | o :: l,S,F,cH,K => JM o S F cH fun S' lH nY => wR l S' lH nY K
where JM (o : cA) (S F : ak) (cH : List TypeId) (K : ak → ak → List TypeId → Prop) : Prop :=
  match o.g with
  | none => (match g9 S o.op with
   | some p => cS p fun p => cH.contains p.1 = false ∧ K (S.mg o.d) ((F.fT (.box p.1 p.2)).b3 o.d (.ptr F.n 0 0)) (p.1 :: cH)
   | none => (match g8 o.op with
    | some q => (cx o.op S fun s => K (S.b3 o.d s) (F.b3 o.d s) cH) ∨ Ni S q fun es => cH.contains q.2.2.1 = false ∧ K (S.mg o.d) ((F.fT (.row q.2.2.1 q.2.2.2.1 es)).b3 o.d (.own F.n)) (q.2.2.1 :: cH)
    | none => cx o.op S fun s => K (S.b3 o.d s) (F.b3 o.d s) cH))
  | some (t,b) => cS (S.bg (.tmp t)) fun s => match s with
   | .v (.bool ez) => (ez = b → cx o.op S fun s => K (S.b3 o.d s) (F.b3 o.d s) cH) ∧ (ez = !b → K (S.mg o.d) (F.mg o.d) cH)
   | _ => False
theorem ad3 (o : cA) (l : List cA) (S F : ak) (cH : List TypeId) (bD : ak → Prop) : iK (o :: l) S F cH bD = wR.JM o S F cH fun S' lH nY => iK l S' lH nY bD := by
 conv => lhs; unfold iK
 rfl
theorem Qv : ∀ (a b : List cA) (S F : ak) (cH : List TypeId) (bD : ak → Prop),iK (a ++ b) S F cH bD = wR a S F cH fun S' lH nY => iK b S' lH nY bD
 | [],_,_,_,_,_ => rfl
 | o :: a,b,S,F,cH,bD => by
  have e : (fun S' lH nY => iK (a ++ b) S' lH nY bD) = fun S' lH nY => wR a S' lH nY fun S' lH nY => iK b S' lH nY bD := by
   funext S' lH nY; exact Qv a b S' lH nY bD
  rw [List.cons_append,ad3,e]; rfl
structure tG (n : Nat) : Prop
theorem qY {n : Nat} (_ : tG n) {l : List cA} (h : ig (l.take n) S (rn (l.drop n) L)) : ig l S L := by
 rw [ah1] at h
 rw [← List.take_append_drop n l,QA]
 exact h
theorem wN {n : Nat} (_ : tG n) {l : List cA} {F : ak} {cH : List TypeId} (h : wR (l.take n) S F cH (r9 (l.drop n) L)) : iK l S F cH L := by
 rw [ahY] at h
 rw [← List.take_append_drop n l,Qv]
 exact h
end Go.Proofs.YtkmbcjnaaokilaaGreatDoor
set_option linter.defProp false
namespace Go.Proofs.YtkmbcjnaaokilaaGreatDoor
set_option linter.unusedSimpArgs false
set_option linter.unusedVariables false
open Go.RowKit Go.Maps

def alg := And.intro @bK.eq_1 (And.intro @ig.eq_1 (And.intro @ig.eq_2 (And.intro @kd.eq_1 (And.intro @iK.eq_1 (And.intro @iK.eq_2 (And.intro @wR.eq_1 (And.intro @wR.eq_2 (And.intro @wR.JM.eq_1 (And.intro @fJ.eq_1 (And.intro @fJ.eq_2 (And.intro @fJ.eq_3 (And.intro @fJ.eq_4 (And.intro @fJ.eq_5 (And.intro @fJ.eq_6 (And.intro @fJ.eq_7 (And.intro @fJ.eq_8 (And.intro @fJ.eq_9 (And.intro @fJ.eq_10 (And.intro @fJ.eq_11 (And.intro @fJ.eq_12 (And.intro @fJ.eq_13 (And.intro @fJ.eq_14 (And.intro @fJ.eq_15 (And.intro @fJ.eq_16 (And.intro @fJ.eq_17 (And.intro @fJ.eq_18 (And.intro @fJ.eq_19 (And.intro @fJ.eq_20 (And.intro @fJ.eq_21 (And.intro @fJ.eq_22 (And.intro @fJ.eq_23 (And.intro @fJ.eq_24 (And.intro @fJ.eq_25 (And.intro @fJ.eq_26 (And.intro @fJ.eq_27 (And.intro @fJ.eq_28 (And.intro @fJ.eq_29 (And.intro @fJ.eq_30 (@fJ.eq_31)))))))))))))))))))))))))))))))))))))))
def alh := And.intro @fJ.eq_32 (And.intro @fJ.eq_33 (And.intro @fJ.eq_34 (And.intro @fJ.eq_35 (And.intro @fJ.eq_36 (And.intro @fJ.eq_37 (And.intro @fJ.eq_38 (And.intro @FL.eq_1 (And.intro @cx.eq_1 (And.intro @cx.eq_2 (And.intro @cx.eq_3 (And.intro @cx.eq_4 (And.intro @cx.eq_5 (And.intro @cx.eq_6 (And.intro @cx.eq_7 (And.intro @cx.eq_8 (And.intro @cx.eq_9 (And.intro @cx.eq_10 (And.intro @cx.eq_11 (And.intro @cx.eq_12 (And.intro @cx.eq_13 (And.intro @cx.eq_14 (And.intro @cx.eq_15 (And.intro @cx.eq_16 (And.intro @cx.eq_17 (And.intro @cx.eq_18 (And.intro @cx.eq_19 (And.intro @cx.eq_20 (And.intro @cx.eq_21 (And.intro @cx.eq_22 (And.intro @cx.eq_23 (And.intro @cx.eq_24 (And.intro @cx.eq_25 (And.intro @cx.eq_26 (And.intro @cx.eq_27 (And.intro @cx.eq_28 (And.intro @g9.eq_1 (And.intro @g9.eq_2 (And.intro @g9.eq_3 (@g9.eq_4)))))))))))))))))))))))))))))))))))))))
def alk := And.intro @g9.eq_5 (And.intro @g9.eq_6 (And.intro @g9.eq_7 (And.intro @g9.eq_8 (And.intro @g9.eq_9 (And.intro @g9.eq_10 (And.intro @g9.eq_11 (And.intro @g9.eq_12 (And.intro @g9.eq_13 (And.intro @g9.eq_14 (And.intro @g9.eq_15 (And.intro @g9.eq_16 (And.intro @g9.eq_17 (And.intro @g9.eq_18 (And.intro @g9.eq_19 (And.intro @g9.eq_20 (And.intro @g9.eq_21 (And.intro @g9.eq_22 (And.intro @g9.eq_23 (And.intro @g9.eq_24 (And.intro @g9.eq_25 (And.intro @g9.eq_26 (And.intro @g9.eq_27 (And.intro @g9.eq_28 (And.intro @g9.eq_29 (And.intro @g9.eq_30 (And.intro @g9.eq_31 (And.intro @g9.eq_32 (And.intro @g9.eq_33 (And.intro @g9.eq_34 (And.intro @g9.eq_35 (And.intro @g9.eq_36 (And.intro @g9.eq_37 (And.intro @g9.eq_38 (And.intro @g8.eq_1 (And.intro @g8.eq_2 (And.intro @g8.eq_3 (And.intro @g8.eq_4 (And.intro @g8.eq_5 (@g8.eq_6)))))))))))))))))))))))))))))))))))))))
def alm := And.intro @g8.eq_7 (And.intro @g8.eq_8 (And.intro @g8.eq_9 (And.intro @g8.eq_10 (And.intro @g8.eq_11 (And.intro @g8.eq_12 (And.intro @g8.eq_13 (And.intro @g8.eq_14 (And.intro @g8.eq_15 (And.intro @g8.eq_16 (And.intro @g8.eq_17 (And.intro @g8.eq_18 (And.intro @g8.eq_19 (And.intro @g8.eq_20 (And.intro @g8.eq_21 (And.intro @g8.eq_22 (And.intro @g8.eq_23 (And.intro @g8.eq_24 (And.intro @g8.eq_25 (And.intro @g8.eq_26 (And.intro @g8.eq_27 (And.intro @g8.eq_28 (And.intro @g8.eq_29 (And.intro @g8.eq_30 (And.intro @g8.eq_31 (And.intro @g8.eq_32 (And.intro @g8.eq_33 (And.intro @g8.eq_34 (And.intro @g8.eq_35 (And.intro @g8.eq_36 (And.intro @g8.eq_37 (And.intro @g8.eq_38 (And.intro @Ni.eq_1 (And.intro @cut.eq_1 (And.intro @cut.eq_2 (And.intro @iE (And.intro @ai5 (And.intro @ak.bg.eq_1 (And.intro @ak.bg.eq_2 (@ak.bg.eq_3)))))))))))))))))))))))))))))))))))))))
def aln := And.intro @ak.bg.eq_4 (And.intro @ak.res.eq_1 (And.intro @ak.res.eq_2 (And.intro @ak.res.eq_3 (And.intro @ak.res.eq_4 (And.intro @ak.res.eq_5 (And.intro @ak.res.eq_6 (And.intro @ak.res.eq_7 (And.intro @ak.res.eq_8 (And.intro @ak.res.eq_9 (And.intro @ak.res.eq_10 (And.intro @ak.res.eq_11 (And.intro @an.eq_1 (And.intro @an.eq_2 (And.intro @ef.eq_1 (And.intro @ef.eq_2 (And.intro @ak.put.eq_1 (And.intro @ak.b3.eq_1 (And.intro @ak.b3.eq_2 (And.intro @ak.mg.eq_1 (And.intro @ak.mg.eq_2 (And.intro @ak.eT.eq_1 (And.intro @ak.fT.eq_1 (And.intro @ak.args.eq_1 (And.intro @ak.args.eq_2 (And.intro @ak.arg.eq_1 (And.intro @ak.arg.eq_2 (And.intro @ak.arg.eq_3 (And.intro @ak.arg.eq_4 (And.intro @ak.arg.eq_5 (And.intro @ak.arg.eq_6 (And.intro @ak.arg.eq_7 (And.intro @ak.arg.eq_8 (And.intro @ak.arg.eq_9 (And.intro @ak.arg.eq_10 (And.intro @ak.arg.eq_11 (And.intro @ak.mM.eq_1 (And.intro @ak.rK.eq_1 (And.intro @ak.rK.eq_2 (@aw.pure.eq_1)))))))))))))))))))))))))))))))))))))))
def alo := And.intro @aw.pure.eq_2 (And.intro @aw.pure.eq_3 (And.intro @aw.pure.eq_4 (And.intro @aw.pure.eq_5 (And.intro @aw.pure.eq_6 (And.intro @aw.pure.eq_7 (And.intro @aw.pure.eq_8 (And.intro @aw.pure.eq_9 (And.intro @aw.pure.eq_10 (And.intro @aw.pure.eq_11 (And.intro @aw.one.eq_1 (And.intro @aw.one.eq_2 (And.intro @aw.one.eq_3 (And.intro @aw.one.eq_4 (And.intro @aw.one.eq_5 (And.intro @aw.one.eq_6 (And.intro @aw.one.eq_7 (And.intro @aw.one.eq_8 (And.intro @aw.one.eq_9 (And.intro @aw.one.eq_10 (And.intro @aw.one.eq_11 (And.intro @aw.cells.eq_1 (And.intro @aw.cells.eq_2 (And.intro @aw.cells.eq_3 (And.intro @aw.cells.eq_4 (And.intro @aw.cells.eq_5 (And.intro @aw.cells.eq_6 (And.intro @aw.cells.eq_7 (And.intro @aw.cells.eq_8 (And.intro @aw.cells.eq_9 (And.intro @aw.cells.eq_10 (And.intro @aw.cells.eq_11 (And.intro @ak.at.eq_1 (And.intro @ak.at.eq_2 (And.intro @ak.at.eq_3 (And.intro @ak.mQ.eq_1 (And.intro @ak.mQ.eq_2 (And.intro @b7.fL.eq_1 (And.intro @b7.fL.eq_2 (@b7.fL.eq_3)))))))))))))))))))))))))))))))))))))))
def alp := And.intro @b7.fL.eq_4 (And.intro @b7.fL.eq_5 (And.intro @b7.fL.eq_6 (And.intro @b7.fL.eq_7 (And.intro @b7.fL.eq_8 (And.intro @b7.fL.eq_9 (And.intro @b7.fL.eq_10 (And.intro @b7.fL.eq_11 (And.intro @b7.fL.eq_12 (And.intro @b7.fL.eq_13 (And.intro @b7.fL.eq_14 (And.intro @b7.fL.eq_15 (And.intro @b7.fL.eq_16 (And.intro @b7.fL.eq_17 (And.intro @b7.fL.eq_18 (And.intro @b7.fL.eq_19 (And.intro @b7.fL.eq_20 (And.intro @b7.fL.eq_21 (And.intro @b7.fL.eq_22 (And.intro @b7.fL.eq_23 (And.intro @b7.fL.eq_24 (And.intro @b7.fL.eq_25 (And.intro @b7.fL.eq_26 (And.intro @b7.fL.eq_27 (And.intro @b7.fL.eq_28 (And.intro @b7.fL.eq_29 (And.intro @b7.fL.eq_30 (And.intro @b7.fL.eq_31 (And.intro @b7.fL.eq_32 (And.intro @b7.fL.eq_33 (And.intro @b7.fL.eq_34 (And.intro @b7.fL.eq_35 (And.intro @b7.fL.eq_36 (And.intro @b7.fL.eq_37 (And.intro @b7.fL.eq_38 (And.intro @ak.jA.eq_1 (And.intro @ak.jA.eq_2 (And.intro @ak.jA.eq_3 (And.intro @ak.jA.eq_4 (@ak.jA.eq_5)))))))))))))))))))))))))))))))))))))))
def alq := And.intro @ak.jA.eq_6 (And.intro @ak.jA.eq_7 (And.intro @ak.jA.eq_8 (And.intro @ak.jA.eq_9 (And.intro @ak.jA.eq_10 (And.intro @ak.jA.eq_11 (And.intro @ak.oi.eq_1 (And.intro @ak.fv.eq_1 (And.intro @ak.fv.eq_2 (And.intro @ak.fv.eq_3 (And.intro @ak.fv.eq_4 (And.intro @ak.fv.eq_5 (And.intro @ak.fv.eq_6 (And.intro @ak.fv.eq_7 (And.intro @ak.fv.eq_8 (And.intro @ak.fv.eq_9 (And.intro @ak.fv.eq_10 (And.intro @ak.fv.eq_11 (And.intro @ak.fv.eq_12 (And.intro @ak.yo.eq_1 (And.intro @sN.eq_1 (And.intro @sN.eq_2 (And.intro @ak.elems.eq_1 (And.intro @ak.elems.eq_2 (And.intro @ak.sd.eq_1 (And.intro @ak.sd.eq_2 (And.intro @xN.eq_1 (And.intro @xN.eq_2 (And.intro @xN.eq_3 (And.intro @ej.ia.eq_1 (And.intro @ej.ia.eq_2 (And.intro @ej.ia.eq_3 (And.intro @ej.ia.eq_4 (And.intro @ej.ia.eq_5 (And.intro @ej.ia.eq_6 (And.intro @ej.ia.eq_7 (And.intro @DR.eq_1 (And.intro @DR.eq_2 (And.intro @nV.eq_1 (@nV.eq_2)))))))))))))))))))))))))))))))))))))))
def alr := And.intro @nV.eq_3 (And.intro @nV.eq_4 (And.intro @nV.eq_5 (And.intro @nV.eq_6 (And.intro @nV.eq_7 (And.intro @nV.eq_8 (And.intro @nV.eq_9 (And.intro @nV.eq_10 (And.intro @nV.eq_11 (And.intro @nV.eq_12 (And.intro @ak.ke.eq_1 (And.intro @ak.ke.eq_2 (And.intro @ak.zs.eq_1 (And.intro @ak.zs.eq_2 (And.intro @ak.pZ.eq_1 (And.intro @ak.pZ.eq_2 (And.intro @si.eq_1 (And.intro @si.eq_2 (And.intro @qT.eq_1 (And.intro @qT.eq_2 (And.intro @Go.Value.oneCell'.eq_1 (And.intro @Go.Value.oneCell'.eq_2 (And.intro @Go.Value.oneCell'.eq_3 (And.intro @List.map_cons.{0,0} (And.intro @List.map_nil.{0,0} (And.intro @List.all_cons.{0} (And.intro @List.all_nil.{0} (And.intro @List.take_succ_cons.{0} (And.intro @List.take_zero.{0} (And.intro @List.drop_succ_cons.{0} (And.intro @List.drop_zero.{0} (And.intro @List.append_nil.{0} (And.intro @List.nil_append.{0} (And.intro @List.cons_append.{0} (And.intro @List.length_cons.{0} (And.intro @List.length_nil.{0} (And.intro @List.set_cons_zero.{0} (And.intro @List.set_cons_succ.{0} (And.intro @List.getElem?_cons_zero.{0} (@List.getElem?_cons_succ.{0})))))))))))))))))))))))))))))))))))))))
def als := And.intro @Option.map_some.{0,0} (And.intro @Option.map_none.{0,0} (And.intro @Option.bind_some.{0,0} (And.intro @Option.bind_none.{0,0} (And.intro @Option.isNone_some.{0} (And.intro @Option.isNone_none.{0} (And.intro @Option.isSome_some.{0} (And.intro @Bool.and_true (And.intro @Bool.true_and (And.intro @Bool.not_true (And.intro @Bool.not_false (And.intro @Bool.and_self (And.intro @decide_true (And.intro @decide_false (And.intro @Bool.false_eq_true (And.intro @Bool.true_eq_false (And.intro @eL.eq_1 (And.intro @eL.eq_2 (And.intro @ak.e1.eq_1 (And.intro @ak.e1.eq_2 (And.intro @ak.e1.eq_3 (And.intro @zq.eq_1 (And.intro @zq.eq_2 (And.intro @h8.eq_1 (And.intro @h8.eq_2 (And.intro @h8.eq_3 (And.intro @h8.eq_4 (And.intro @h8.eq_5 (And.intro @h8.eq_6 (And.intro @h8.eq_7 (And.intro @h8.eq_8 (And.intro @tp.eq_1 (And.intro @tp.eq_2 (And.intro @nW.eq_1 (And.intro @nW.eq_2 (And.intro @nW.eq_3 (And.intro @nW.eq_4 (And.intro @nW.eq_5 (And.intro @nW.eq_6 (@nW.eq_7)))))))))))))))))))))))))))))))))))))))
def ali := And.intro @nW.eq_8 (And.intro @nW.eq_9 (And.intro @nW.eq_10 (And.intro @nW.eq_11 (And.intro @nD.eq_1 (And.intro @nD.eq_2 (And.intro @nD.eq_3 (And.intro @nD.eq_4 (And.intro @nD.eq_5 (And.intro @nD.eq_6 (And.intro @nD.eq_7 (And.intro @nD.eq_8 (And.intro @nD.eq_9 (And.intro @nD.eq_10 (And.intro @nD.eq_11 (And.intro @xG.eq_1 (And.intro @xG.eq_2 (And.intro @nE.eq_1 (And.intro @nE.eq_2 (And.intro @nE.eq_3 (And.intro @nE.eq_4 (And.intro @nE.eq_5 (And.intro @nE.eq_6 (And.intro @nE.eq_7 (And.intro @nE.eq_8 (And.intro @nE.eq_9 (And.intro @nE.eq_10 (And.intro @nE.eq_11 (And.intro @j0.eq_1 (And.intro @j0.eq_2 (And.intro @j0.eq_3 (And.intro @j0.eq_4 (And.intro @j0.eq_5 (And.intro @j0.eq_6 (And.intro @j0.eq_7 (And.intro @j0.eq_8 (And.intro @j0.eq_9 (And.intro @j0.eq_10 (And.intro @j0.eq_11 (@xF.eq_1)))))))))))))))))))))))))))))))))))))))
def alj := And.intro @xF.eq_2 (And.intro @tr.eq_1 (And.intro @tr.eq_2 (And.intro @tr.eq_3 (And.intro @tr.eq_4 (And.intro @tr.eq_5 (And.intro @tr.eq_6 (And.intro @tr.eq_7 (And.intro @oz.eq_1 (And.intro @oz.eq_2 (And.intro @ak.gM.eq_1 (And.intro @ak.gM.eq_2 (And.intro @ak.cast.eq_1 (And.intro @ak.cast.eq_2 (And.intro @ak.cast.eq_3 (And.intro @ak.cast.eq_4 (And.intro @ak.cast.eq_5 (And.intro @ak.cast.eq_6 (And.intro @xv.eq_1 (And.intro @xv.eq_2 (And.intro @xv.eq_3 (And.intro @Bool.true_or (And.intro @List.range_zero (And.intro @true_and (And.intro @and_true (And.intro @and_self (And.intro @false_implies (And.intro @true_implies (And.intro @Nat.zero_add (And.intro @Nat.add_zero (And.intro @Nat.le_refl (And.intro @List.contains_nil.{0} (And.intro @List.contains_cons.{0} (And.intro @Bool.or_false (And.intro @Bool.or_true (And.intro @Bool.false_or (And.intro @ak.oh.eq_1 (And.intro @ak.oh.eq_2 (And.intro @decide_eq_true_eq (@beq_self_eq_true.{0})))))))))))))))))))))))))))))))))))))))
def xL := And.intro alg (And.intro alh (And.intro alk (And.intro alm (And.intro aln (And.intro alo (And.intro alp (And.intro alq (And.intro alr (And.intro als (And.intro ali alj))))))))))

theorem db {p q : Prop} (k : q) (h : q → p := by intro k; simp only [xL,if_true,if_false,ite_true,ite_false,forall_const,ite_self,eq_self,reduceIte,reduceCtorEq,Nat.reduceEqDiff,Nat.reduceAdd,Nat.reduceLeDiff,Nat.reduceSub,Int.reduceToNat,Nat.reduceBEq,Nat.reduceMul,Nat.reduceLT,Int.reduceLE,Int.reduceLT,Nat.reduceMod,List.length_map,List.length_replicate,List.take_length,List.drop_zero,Int.toNat_natCast,List.getElem?_map,bne_self_eq_false,Int.reduceBEq,Int.reduceBNe]; exact k) : p := h k
theorem a2 {F p q : Prop} (f : F) (k : q) (h : F → q → p := by intro f k; simp only [xL,if_true,if_false,ite_true,ite_false,forall_const,ite_self,eq_self,reduceIte,reduceCtorEq,Nat.reduceEqDiff,Nat.reduceAdd,Nat.reduceLeDiff,Nat.reduceSub,Int.reduceToNat,Nat.reduceBEq,Nat.reduceMul,Nat.reduceLT,Int.reduceLE,Int.reduceLT,Nat.reduceMod,List.length_map,List.length_replicate,List.take_length,List.drop_zero,Int.toNat_natCast,List.getElem?_map,bne_self_eq_false,Int.reduceBEq,Int.reduceBNe,f]; exact k) : p := h f k
theorem Eb {p q : Prop} (k : q) (h : q → p := by intro k; simp only [xL,if_true,if_false,ite_true,ite_false,forall_const,ite_self,eq_self,reduceIte,reduceCtorEq,Nat.reduceEqDiff,Nat.reduceAdd,Nat.reduceLeDiff,Nat.reduceSub,Int.reduceToNat,Nat.reduceBEq,Nat.reduceMul,Nat.reduceLT,Int.reduceLE,Int.reduceLT,Nat.reduceMod,List.length_map,List.length_replicate,List.take_length,List.drop_zero,Int.toNat_natCast,List.getElem?_map,bne_self_eq_false,Int.reduceBEq,Int.reduceBNe,g4,fin,Af]; exact k) : p := h k
theorem jr {F p q : Prop} (f : F) (k : q) (h : F → q → p := by intro f k; simp only [xL,if_true,if_false,ite_true,ite_false,forall_const,ite_self,eq_self,reduceIte,reduceCtorEq,Nat.reduceEqDiff,Nat.reduceAdd,Nat.reduceLeDiff,Nat.reduceSub,Int.reduceToNat,Nat.reduceBEq,Nat.reduceMul,Nat.reduceLT,Int.reduceLE,Int.reduceLT,Nat.reduceMod,List.length_map,List.length_replicate,List.take_length,List.drop_zero,Int.toNat_natCast,List.getElem?_map,bne_self_eq_false,Int.reduceBEq,Int.reduceBNe,g4,fin,Af,f]; exact k) : p := h f k
theorem jq {p : Prop} (h : p := by (simp only [xL,if_true,if_false,ite_true,ite_false,forall_const,ite_self,eq_self,reduceIte,reduceCtorEq,Nat.reduceEqDiff,Nat.reduceAdd,Nat.reduceLeDiff,Nat.reduceSub,Int.reduceToNat,Nat.reduceBEq,Nat.reduceMul,Nat.reduceLT,Int.reduceLE,Int.reduceLT,Nat.reduceMod,List.length_map,List.length_replicate,List.take_length,List.drop_zero,Int.toNat_natCast,List.getElem?_map,bne_self_eq_false,Int.reduceBEq,Int.reduceBNe,g4,fin,Af] <;> rfl)) : p := h
theorem cQ {F p : Prop} (f : F) (h : F → p := by intro f; (simp only [xL,if_true,if_false,ite_true,ite_false,forall_const,ite_self,eq_self,reduceIte,reduceCtorEq,Nat.reduceEqDiff,Nat.reduceAdd,Nat.reduceLeDiff,Nat.reduceSub,Int.reduceToNat,Nat.reduceBEq,Nat.reduceMul,Nat.reduceLT,Int.reduceLE,Int.reduceLT,Nat.reduceMod,List.length_map,List.length_replicate,List.take_length,List.drop_zero,Int.toNat_natCast,List.getElem?_map,bne_self_eq_false,Int.reduceBEq,Int.reduceBNe,g4,fin,Af,f] <;> rfl)) : p := h f
theorem bh {p q : Prop} (k : q) (h : q → p := by intro k; (repeat (refine ⟨by clear k; first | assumption | omega | decide | (simp; done) | (simp_all; done) | (simp; omega),?_⟩)); exact k) : p := h k
theorem dR {p q : Prop} (k : q) (h : q → p := by intro k; simp only [ak.gM,ak.cast,xv,ak.put,ak.fT,ak.eT,ef,List.getElem?_cons_zero,List.getElem?_cons_succ,List.set_cons_zero,List.set_cons_succ,an,Nat.reduceEqDiff,reduceCtorEq,eL,xG,nE,j0,xF,tr,oz,List.map_cons,List.map_nil,List.length_cons,List.length_nil,Nat.reduceAdd,Nat.zero_add,decide_true,ak.e1,zq,h8,tp,nW,nD,decide_eq_true_eq,List.contains_cons,List.contains_nil,Bool.or_false,Bool.or_true,Bool.true_or,Bool.false_or,Bool.and_true,Bool.true_and,beq_self_eq_true,Nat.reduceBEq,reduceIte,Nat.blt_eq,Nat.reduceLT,decide_true,Nat.reduceLeDiff,Bool.false_eq_true,Bool.and_eq_true,and_self,true_and,and_true]; exact k) : p := h k
theorem gY {p q : Prop} (k : q) (h : q → p := by intro k; simp only [List.take_succ_cons,List.take_zero,ak.oh,ak.jA,ak.oi,ak.yo,ak.fv,ak.rK,ak.mM,ak.res,aw.pure,ak.eT,an,ef,eL,ak.e1,reduceIte,Nat.reduceEqDiff,reduceCtorEq,Option.bind_some,Option.map_some,List.contains_cons,List.contains_nil,Nat.reduceBEq,Bool.or_false,Bool.or_true,Bool.false_or,beq_self_eq_true,Bool.false_eq_true]; exact k) : p := h k
theorem gZ {p q : Prop} (k : q) (h : q → p := by intro k; simp only [List.drop_succ_cons,List.drop_zero]; exact k) : p := h k
theorem Ap {p q : Prop} (h : p) (k : p → q := by intro h; simp only [decide_eq_true_eq,decide_eq_false_iff_not,Bool.not_eq_true',Bool.not_eq_false',Bool.not_eq_eq_eq_not,Bool.not_true,Bool.not_false,beq_iff_eq,bne_iff_ne,beq_eq_false_iff_ne,bne_eq_false_iff_eq,ne_eq,Int.not_le,Int.not_lt] at h; exact h) : q := k h
theorem hj {a b : ak} (h : a = b := by first | (simp only [ak.e1,eL,an,ak.sorted,j1,xi,reduceIte,Nat.reduceEqDiff,Nat.reduceLeDiff,reduceCtorEq]; done) | (simp only [ak.e1,eL,an,ak.sorted,j1,xi,reduceIte,Nat.reduceEqDiff,Nat.reduceLeDiff,reduceCtorEq]; rfl) | rfl) : a = b := h
theorem aF {F p : Prop} (f : F) (h : F → p := by intro f; first | (simp only [xL,if_true,if_false,ite_true,ite_false,forall_const,ite_self,eq_self,reduceIte,reduceCtorEq,Nat.reduceEqDiff,Nat.reduceAdd,Nat.reduceLeDiff,Nat.reduceSub,Int.reduceToNat,Nat.reduceBEq,Nat.reduceMul,Nat.reduceLT,Int.reduceLE,Int.reduceLT,Nat.reduceMod,List.length_map,List.length_replicate,List.take_length,List.drop_zero,Int.toNat_natCast,List.getElem?_map,bne_self_eq_false,Int.reduceBEq,Int.reduceBNe,f]; done) | (simp only [xL,if_true,if_false,ite_true,ite_false,forall_const,ite_self,eq_self,reduceIte,reduceCtorEq,Nat.reduceEqDiff,Nat.reduceAdd,Nat.reduceLeDiff,Nat.reduceSub,Int.reduceToNat,Nat.reduceBEq,Nat.reduceMul,Nat.reduceLT,Int.reduceLE,Int.reduceLT,Nat.reduceMod,List.length_map,List.length_replicate,List.take_length,List.drop_zero,Int.toNat_natCast,List.getElem?_map,bne_self_eq_false,Int.reduceBEq,Int.reduceBNe,f]; rfl) | rfl) : p := h f
theorem eH {p q : Prop} (n : Nat) (k : q) (h : tG n → q → p := by intro a9 k; refine xl ?_; refine qY a9 ?_; refine db ?_; exact k) : p := h ⟨⟩ k
theorem c4 {p r q : Prop} (n : Nat) (k : q) (h : tG n → r → p := by intro a9 k; refine xl ?_; refine qY a9 ?_; refine db ?_; exact k) (g : q → r := by intro k; (repeat (refine ⟨by clear k; first | assumption | omega | decide | (simp; done) | (simp_all; done) | (simp; omega),?_⟩)); exact k) : p := h ⟨⟩ (g k)
theorem cE {p q : Prop} (k : q) (h : q → p := by intro k; refine xl ?_; refine db ?_; exact k) : p := h k
theorem nF {p r q : Prop} (k : q) (h : r → p := by intro k; refine xl ?_; refine db ?_; exact k) (g : q → r := by intro k; (repeat (refine ⟨by clear k; first | assumption | omega | decide | (simp; done) | (simp_all; done) | (simp; omega),?_⟩)); exact k) : p := h (g k)
theorem aM {F p q : Prop} (n : Nat) (f : F) (k : q) (h : tG n → F → q → p := by intro a9 f k; refine xl ?_; refine qY a9 ?_; refine a2 f ?_; exact k) : p := h ⟨⟩ f k
theorem ag {F p r q : Prop} (n : Nat) (f : F) (k : q) (h : tG n → F → r → p := by intro a9 f k; refine xl ?_; refine qY a9 ?_; refine a2 f ?_; exact k) (g : q → r := by intro k; (repeat (refine ⟨by clear k; first | assumption | omega | decide | (simp; done) | (simp_all; done) | (simp; omega),?_⟩)); exact k) : p := h ⟨⟩ f (g k)
theorem al {F p q : Prop} (f : F) (k : q) (h : F → q → p := by intro f k; refine xl ?_; refine a2 f ?_; exact k) : p := h f k
theorem aS {F p r q : Prop} (f : F) (k : q) (h : F → r → p := by intro f k; refine xl ?_; refine a2 f ?_; exact k) (g : q → r := by intro k; (repeat (refine ⟨by clear k; first | assumption | omega | decide | (simp; done) | (simp_all; done) | (simp; omega),?_⟩)); exact k) : p := h f (g k)
theorem aea {p q : Prop} (n : Nat) (k : q) (h : tG n → q → p := by intro a9 k; refine xk ?_; refine wN a9 ?_; refine db ?_; exact k) : p := h ⟨⟩ k
theorem FP {p r q : Prop} (n : Nat) (k : q) (h : tG n → r → p := by intro a9 k; refine xk ?_; refine wN a9 ?_; refine db ?_; exact k) (g : q → r := by intro k; (repeat (refine ⟨by clear k; first | assumption | omega | decide | (simp; done) | (simp_all; done) | (simp; omega),?_⟩)); exact k) : p := h ⟨⟩ (g k)
theorem ad9 {p q : Prop} (k : q) (h : q → p := by intro k; refine xk ?_; refine db ?_; exact k) : p := h k
theorem aeb {p r q : Prop} (k : q) (h : r → p := by intro k; refine xk ?_; refine db ?_; exact k) (g : q → r := by intro k; (repeat (refine ⟨by clear k; first | assumption | omega | decide | (simp; done) | (simp_all; done) | (simp; omega),?_⟩)); exact k) : p := h (g k)
theorem gd {F p q : Prop} (n : Nat) (f : F) (k : q) (h : tG n → F → q → p := by intro a9 f k; refine xk ?_; refine wN a9 ?_; refine a2 f ?_; exact k) : p := h ⟨⟩ f k
theorem cF {F p r q : Prop} (n : Nat) (f : F) (k : q) (h : tG n → F → r → p := by intro a9 f k; refine xk ?_; refine wN a9 ?_; refine a2 f ?_; exact k) (g : q → r := by intro k; (repeat (refine ⟨by clear k; first | assumption | omega | decide | (simp; done) | (simp_all; done) | (simp; omega),?_⟩)); exact k) : p := h ⟨⟩ f (g k)
theorem lh {F p q : Prop} (f : F) (k : q) (h : F → q → p := by intro f k; refine xk ?_; refine a2 f ?_; exact k) : p := h f k
theorem og {F p r q : Prop} (f : F) (k : q) (h : F → r → p := by intro f k; refine xk ?_; refine a2 f ?_; exact k) (g : q → r := by intro k; (repeat (refine ⟨by clear k; first | assumption | omega | decide | (simp; done) | (simp_all; done) | (simp; omega),?_⟩)); exact k) : p := h f (g k)

end Go.Proofs.YtkmbcjnaaokilaaGreatDoor
namespace Go.Proofs.YtkmbcjnaaokilaaGreatDoor
set_option linter.unusedSimpArgs false
set_option linter.unusedVariables false
open Go.ChangeShapes Go.WideShapes Go.ChangeAt Go.RowKit Go.Deep

def qS (W : World) : bl := fun k => W.heap[k]?
theorem acG (W : World) (Cm : wa (qS W) := by exact fun p hp => absurd hp (by simp [Ak])) : Sub (qS W) W := ⟨fun _ _ h => h,Cm⟩

section
variable {H : Type} {enc : TypeId × Value → H} {P : Program} {W : World} {base : Nat} {spare : Nat → Bool} {held : Bool} {α : Type} {R : xW α} {k : Nat}

theorem wG {a : Addr} {u : Value} (h : W.cell? a = some u) : ∃ cells t c0,a.spot = none ∧ W.heap[a.block]? = some (.cells cells t c0) ∧ cells[a.off]? = some u := by
 unfold World.cell? at h
 split at h
 ·rename_i c e c0 aI
  split at h
  ·cases h
  ·rename_i ao
   exact ⟨c,e,c0,by simpa using ao,aI,h⟩
 ·cases h

theorem aly (a : Addr) (n : Nat) (h : ∀ i,i < n → ∃ es x,es.length = k ∧ (∀ u ∈ es,u.oneCell' = true) ∧ R (qS W) es x ∧ ∀ j u,es[j]? = some u → W.cell? (a.add (i * k + j)) = some u) :
  ∃ xs l,l.length = n ∧ j4 k R (qS W) xs l ∧ (∀ u ∈ xs,u.oneCell' = true) ∧ ∀ j u,xs[j]? = some u → W.cell? (a.add j) = some u := by
 induction n with
 | zero => exact ⟨[],[],rfl,j4.nil,by simp,fun j u hu => by simp at hu⟩
 | succ n dW =>
  obtain ⟨xs,l,af,aj,av,aY⟩ := dW (fun i aq => h i (by omega))
  obtain ⟨es,x,a1,a7,ct,fb⟩ := h n (by omega)
  refine ⟨xs ++ es,l ++ [x],by simp [af],aj.append (j4.one a1 ct),fun u hu => by rcases List.mem_append.1 hu with h | h; exact av u h; exact a7 u h,fun j u hu => ?_⟩
  rcases Nat.lt_or_ge j xs.length with aN | aN
  ·rw [List.getElem?_append_left aN] at hu; exact aY j u hu
  ·rw [List.getElem?_append_right aN] at hu
   have := fb _ u hu
   rw [aj.1,af] at this aN
   rw [show n * k + (j - n * k) = j from by omega] at this
   exact this

theorem alx {t e : TypeId} {fuel : Nat} {cs : List Value} {x : DataW H × List MemPlace} (aL : P.underlying t = some (.slice e)) (hC : P.cellsOf e = k)
  (bf : ∀ n cs x,DataW.trod enc P W base spare held n e cs = some x → cs.length = k → (∀ u ∈ cs,u.oneCell' = true) ∧ ∃ v,R (qS W) cs v)
  (h : DataW.trod enc P W base spare held fuel t cs = some x) : ∃ s : Z5,∃ l,cs = [.slice s.a s.n s.c] ∧ nO k R (qS W) s.a s.n s.c l ∧ s.c ≤ maxLen := by
 rcases open_slice aL h with ⟨rfl,_⟩ | ⟨a,len,cap,m,n,D,kM,rfl,aI,aE,hm,o0,ar,aq⟩
 ·exact ⟨⟨none,0,0⟩,[],rfl,nO.nil R _,Nat.zero_le _⟩
 ·have kT : len ≤ m := by rw [o0]; split <;> omega
  obtain ⟨xs,l,af,aj,av,aY⟩ := aly (W := W) (R := R) (k := k) a len (fun i CH => by
   obtain ⟨cs',aB,xe⟩ := aq i (by omega)
   rw [hC] at aB
   obtain ⟨_,gP,eM⟩ := World.cells?_some aB
   obtain ⟨ax,v,bj⟩ := bf _ _ _ xe gP
   refine ⟨cs',v,gP,ax,bj,fun j u hu => ?_⟩
   have aN : j < k := by have := (List.getElem?_eq_some_iff.1 hu).1; omega
   have := eM j aN
   rw [Go.Deep.add_add] at this
   rw [this,hu])
  refine ⟨⟨some a,len,cap⟩,l,rfl,⟨xs,af,aE,fun e => (by cases e),aj,av,fun j u hu => ?_⟩,hm⟩
  obtain ⟨Eg,Dg⟩ : ∃ u,xs[0]? = some u := ⟨xs[0]'(by have := (List.getElem?_eq_some_iff.1 hu).1; omega),by simp⟩
  obtain ⟨de,t0,f0,g1,bW,gH⟩ := wG (aY 0 Eg Dg)
  obtain ⟨cells,t',c0,Cb,u4,Cc⟩ := wG (aY j u hu)
  have a5 : a.add 0 = a := by simp [Addr.add]
  rw [a5] at g1
  have aI : (a.add j).block = a.block := by unfold Addr.add; split <;> rfl
  have ax : (a.add j).off = a.off + j := by unfold Addr.add; split <;> simp_all
  rw [aI] at u4
  rw [ax] at Cc
  exact ⟨a.block,a.off,cells,t',c0,by cases a; simp_all,u4,Cc⟩
end
end Go.Proofs.YtkmbcjnaaokilaaGreatDoor
namespace Go.Proofs.YtkmbcjnaaokilaaGreatDoor
set_option linter.unusedSimpArgs false
set_option linter.unusedVariables false
open Go.RowKit Go.Maps
abbrev aG (n : Int) : aw := .v (.int .i64 n)
abbrev gk (n : Int) : aw := .v (.int .u32 n)
abbrev eA (b : Bool) : aw := .v (.bool b)
structure bm where
 val : Int
 eV : Int
 ref : Int
abbrev c6 (w : bm) : List aw := [aG w.val,gk w.eV,gk w.ref]
theorem ahL : (Tryz.prog.info? 79).map (fun i => (i.zero,i.size,i.bytes)) = some (some (.agg #[.int .i64 0,.int .u32 0,.int .u32 0]),3,16) := by kernel_rfl
theorem Ic {w : World} {ops : Array Oper} {rest : List Oper} {o : Oper} {a : Act} {Q : Exit → Act → World → Prop} (aJ : o.guard = none) (x y : Operand) (t e : TypeId) (i : TypeInfo)
  (ki : o.op = .call ⟨.builtin .append,#[x,y],#[t,t]⟩) (aL : Tryz.prog.underlying t = some (.slice e)) (aq : Tryz.prog.info? e = some i) (b bH : Option Addr) (c2 : Nat) (ar : a.eval x = .slice b 0 0) (aV : a.eval y = .slice bH 0 c2)
  (fo : wpList Tryz.prog ops Q rest (a.put o.dst (.slice b 0 0)) w) : wpList Tryz.prog ops Q (o :: rest) a w := by
 refine wpList_plain aJ fun p6 Kn => ?_
 have aE : ∀ (x : Addr),(loadCells x 0).run Tryz.prog w = .ok #[] w := fun x => by simpa using run_loadCells_list (P := Tryz.prog) w x [] (by simp)
 have da : (Builtin.append_ #[t,t] o.type #[.slice b 0 0,.slice bH 0 c2]).run Tryz.prog w = .ok (.slice b 0 0) w := by
  cases b <;> cases bH <;> simp [Builtin.append_,run_underlying aL,run_sizeOf aq,Builtin.lenOf,Builtin.firstCells,aE,storeCells]
 unfold Oper.wp
 simp [execOp,ki,resolve,ar,aV,invoke,builtin,da]
 exact Kn _ _ fo
theorem uJ.ok {f : FuncId} {args : List aw} {e : TypeId} {k : Nat} {es : List (List aw)} (h : uJ f args e k es) : cq f args (.au k 0 es) := by
 intro w H vs ao bj
 refine Calls.mono (h w H vs ao bj) ?_
 rintro fI w' ⟨v,xs,rfl,aJ,fK,jc,bf,yT⟩
 by_cases ba : es = []
 ·subst ba
  obtain ⟨a,rfl⟩ := yT rfl
  exact DY (c := fun v : Value => v) _ H aJ (.au .nil rfl (Nat.le_refl _) (Nat.zero_le _) ⟨fun _ => rfl,fun _ _ => rfl⟩ (fun _ => rfl) (fun j u hu => by simp at hu))
 ·have hp : 0 < es.length := by cases es with | nil => exact absurd rfl ba | cons => simp
  obtain ⟨g,cap,cur,rfl,s2,tt,tu,tv,ur,tw⟩ := DP jc bf rfl hp
  have KR : H g = none := ao.none s2
  refine DY (c := fun v : Value => v) _ (H.add g (.cells cur e (0,0))) (aJ.add tt s2) (.au (bf.mono (bl.x5 KR)) rfl tu tv ⟨fun e => (by cases e),fun _ e => absurd (List.eq_nil_of_length_eq_zero e) ba⟩ (fun e => (by cases e)) (fun j u hu => ⟨g,0,cur,e,(0,0),rfl,bl.x4 _ _ _,?_⟩))
  rw [← tw,List.getElem?_take] at hu
  split at hu
  ·simpa using hu
  ·cases hu
theorem aj9 {f : FuncId} {xs : List Value} {r : Value} (h : ∀ w,wm Tryz.prog f xs.toArray w r) (aA : r.oneCell' = true) : cq f (xs.map .v) (.v r) := by
 intro w H vs ao bj
 have e : vs = xs := by
  clear h
  induction xs generalizing vs with
  | nil => cases bj; rfl
  | cons x xs dW => cases bj with | cons af t => cases af; rw [dW _ t]
 subst e
 exact wm.use (h w) fun w' aI => DY (c := fun v : Value => v) r H (Grow.ai7 ao aI) (.v aA)
theorem JF (a b : Bool) : sr 4 (.v (.bool a)) (.v (.bool b)) (a == b) := by
 intro H E w mG ha e2 eQ ao af aj
 cases af; cases aj
 have hu := Tryz.underlying4
 have aT := run_equal_bool (P := Tryz.prog) w 4 a b hu
 constructor
 ·simp [eqGuard,binOp,aT]
 ·simp [eqGuard,binOp,aT]
theorem G5 (f : Int → Option Int) (k : Int) : (Option.map aG (f k)).getD (.v (.int .i64 0)) = aG ((f k).getD 0) := by cases f k <;> rfl

theorem aoz (a b : bm) (w : World) : (binOp .eql 79 (.agg #[.int .i64 a.val,.int .u32 a.eV,.int .u32 a.ref]) (.agg #[.int .i64 b.val,.int .u32 b.eV,.int .u32 b.ref])).run Tryz.prog w = .ok (.bool (a.val == b.val && (a.eV == b.eV && a.ref == b.ref))) w := by
 have ha := Tryz.underlying2
 have uz := Tryz.underlying77
 have bH := Tryz.isAgg2
 have bP := Tryz.isAgg77
 have X0 := Tryz.sizeOf2
 have arK := Tryz.sizeOf77
 have aO : Tryz.prog.underlying 79 = some (.struct (Tryz.prog.fieldsOf 79)) := by kernel_rfl
 have hp : Tryz.prog.stoodInHeld 79 = false := by kernel_rfl
 rw [run_eql_struct,show (10000 : Nat) = 9999 + 1 from rfl,run_equalIn_agg w 9999 79 _ _ aO hp]
 simp only [Program.fieldsOf,Tryz.underlying79]
 go_simp
 by_cases af : a.val = b.val <;> by_cases aj : a.eV = b.eV <;> by_cases av : a.ref = b.ref <;> simp [af,aj,av]
theorem JG (a b : bm) : sr 79 (.agg (c6 a)) (.agg (c6 b)) (a.val == b.val && (a.eV == b.eV && a.ref == b.ref)) := by
 intro H E w mG ha e2 eQ ao af aj
 have e : ∀ {x : bm} {u : Value},cl H E (.agg (c6 x)) u → u = .agg #[.int .i64 x.val,.int .u32 x.eV,.int .u32 x.ref] := fun h => by
  cases h with
  | agg h _ =>
   cases h with
   | cons eR h =>
    cases h with
    | cons fi h =>
     cases h with
     | cons fZ h =>
      cases h
      cases eR; cases fi; cases fZ
      rfl
 obtain rfl := e af
 obtain rfl := e aj
 have aT := aoz a b w
 have aJ : Tryz.prog.eqGuardType Tryz.prog.depth 79 = false := by kernel_rfl
 refine ⟨by simpa [eqGuard,aJ] using aT,?_⟩
 simp only [binOp,Sem.run_bind] at aT
 cases aA : Sem.run Tryz.prog (Op.equal 79 (.agg #[.int .i64 a.val,.int .u32 a.eV,.int .u32 a.ref]) (.agg #[.int .i64 b.val,.int .u32 b.eV,.int .u32 b.ref])) w with
 | ok v fB =>
  rw [aA] at aT
  simp at aT
  obtain ⟨rfl,rfl⟩ := aT
  simp [eqGuard,aJ,binOp,aA]
 | halt x fB => rw [aA] at aT; simp at aT
theorem JH (a : bm) : sr 79 (.agg (c6 a)) (.agg (c6 a)) true := by simpa using JG a a
end Go.Proofs.YtkmbcjnaaokilaaGreatDoor
set_option linter.defProp false
namespace Go.Proofs.YtkmbcjnaaokilaaGreatDoor
set_option linter.unusedSimpArgs false
set_option linter.unusedVariables false
open Go.RowKit Go.Maps

def rv : b7 → Bool
 | .ah _ | .aC .. | .aU .. | .pD .. | .dD .. | .mV .. | .dO .. | .hE .. | .k1 .. | .len _ | .mW .. | .ext .. | .bin .. | .eqv .. | .not _ | .mf .. | .call .. | .kP .. | .kj .. | .iC .. | .pick .. | .kX .. | .lB _ | .gen .. => true
 | _ => false
def DV : Operand → List Nat
 | .tmp t => [t]
 | _ => []
def cA.reads (o : cA) : List Nat := o.op.cX.flatMap DV ++ (match o.g with | some (t,_) => [t] | none => [])
def l3 (S : ak) : aw → Bool
 | .own i => (match an S.O i with | some (.gi _) => true | _ => false)
 | .v _ => true
 | .agg _ => true
 | .bY _ => true
 | .au .. => true
 | .mp .. => true
 | .fn .. => true
 | .ds .. => true
 | .di .. => true
 | .any => true
 | .ptr .. => true
def o6 (S : ak) : aw → Bool
 | .own _ => false
 | .ptr .. => false
 | .agg cs => cs.all (l3 S)
 | .v _ => true
 | .bY _ => true
 | .au .. => true
 | .mp .. => true
 | .fn .. => true
 | .ds .. => true
 | .di .. => true
 | .any => true
def pV (S : ak) (x : Operand) : Bool := match S.bg x with
 | some s => o6 S s
 | none => true
def p1 (o : cA) (S : ak) (k : aw → Prop) : Prop :=
 match o.g with
 | none => o.op.fL.all (pV S) = true ∧ cx o.op S k
 | some (t,b) => cS (S.bg (.tmp t)) fun s => match s with
  | .v (.bool ez) => (ez = b → o.op.fL.all (pV S) = true ∧ cx o.op S k) ∧ (ez = !b → k (.bY []))
  | .bY [] => k (.bY [])
  | _ => False
def nS : List cA → ak → (ak → Prop) → Prop
 | [],S,K => K S
 | o :: l,S,K => p1 o S fun s => nS l (S.b3 o.d s) K
def oJ (S : ak) (x : Operand) : Option Nat := match S.bg x with
 | some (.ptr i _ _) => (match an S.O i with | some (.box ..) => some i | _ => none)
 | _ => none
def DH : Option Nat → Option Nat → Bool
 | some i,some j => !(i == j)
 | _,_ => true
def pd (S : ak) (q : cA) : Bool := match q.op with
 | .st _ x _ => (oJ S x).isSome
 | _ => false
def pT (S : ak) (j2 : List cA) (o : cA) : Bool := match o.op with
 | .aC x _ => j2.all fun q => match q.op with | .st _ y _ => DH (oJ S x) (oJ S y) | _ => true
 | _ => true
def BJ (ps j2 : List cA) (S : ak) : Bool := j2.all (pd S) && ps.all (pT S j2)
def gx (l : List cA) (r : List Nat) : List cA := r.filterMap fun i => l[i]?

structure iV (S S' : ak) : Prop where
 o : S.O = S'.O
 n : S.n = S'.n
 t : ∀ t,an S.T t = an S'.T t
def jH (S : ak) (i : Nat) : Option bo := match an S.O i with
 | some (.box ..) => none
 | o => o
structure p7 (S S' : ak) (l : List Operand) : Prop where
 v : ∀ i,jH S i = jH S' i
 t : ∀ x ∈ l,∀ t ∈ DV x,an S.T t = an S'.T t
theorem Bb {S S' : ak} {i : Nat} (h : jH S i = jH S' i) : an S.O i = an S'.O i ∨ ((an S.O i = none ∨ ∃ t cs,an S.O i = some (.box t cs)) ∧ (an S'.O i = none ∨ ∃ t cs,an S'.O i = some (.box t cs))) := by
 unfold jH at h
 cases e : an S.O i with
 | none =>
  rw [e] at h
  cases e5 : an S'.O i with
  | none => exact .inl rfl
  | some o => rw [e5] at h; cases o <;> first | (cases h; done) | exact .inr ⟨.inl rfl,.inr ⟨_,_,rfl⟩⟩
 | some o =>
  rw [e] at h
  cases e5 : an S'.O i with
  | none => rw [e5] at h; cases o <;> first | (cases h; done) | exact .inr ⟨.inr ⟨_,_,rfl⟩,.inl rfl⟩
  | some o' =>
   rw [e5] at h
   cases o <;> cases o' <;> first | exact .inr ⟨.inr ⟨_,_,rfl⟩,.inr ⟨_,_,rfl⟩⟩ | (cases h; done) | (simp only at h; exact .inl h)
theorem Nd {S S' : ak} (h : ∀ i,jH S i = jH S' i) (x : aw) : S.res x = S'.res x := by
 cases x with
 | own i =>
  show (match an S.O i with | some (.gi x) => x | _ => .own i) = (match an S'.O i with | some (.gi x) => x | _ => .own i)
  rcases Bb (h i) with e | ⟨e | ⟨_,_,e⟩,e5 | ⟨_,_,e5⟩⟩
  ·rw [e]
  all_goals rw [e,e5]
 | ptr i a b =>
  show (match an S.O i with | some (.gi (.di e 0)) => aw.di e b | _ => .ptr i a b) = (match an S'.O i with | some (.gi (.di e 0)) => aw.di e b | _ => .ptr i a b)
  rcases Bb (h i) with e | ⟨e | ⟨_,_,e⟩,e5 | ⟨_,_,e5⟩⟩
  ·rw [e]
  all_goals rw [e,e5]
 | _ => rfl
theorem p7.bg {S S' : ak} {l : List Operand} (h : p7 S S' l) {x : Operand} (ar : x ∈ l) : S.bg x = S'.bg x := by
 cases x with
 | tmp t =>
  show (an S.T t).map S.res = (an S'.T t).map S'.res
  rw [h.t _ ar t (by simp [DV])]
  cases an S'.T t with
  | none => rfl
  | some y => simp [Nd h.v]
 | const v => rfl
 | func f => rfl
 | global g => rfl
theorem PS {S S' : ak} (h : ∀ i,jH S i = jH S' i) (x : aw) : S.mM x = S'.mM x := by unfold ak.mM; rw [Nd h]
theorem PU {S S' : ak} (h : ∀ i,jH S i = jH S' i) : ∀ l,S.rK l = S'.rK l
 | [] => rfl
 | x :: l => by simp only [ak.rK]; rw [PS h,PU h l]
theorem acO {S S' : ak} (h : ∀ i,jH S i = jH S' i) (x : aw) : S.arg x = S'.arg x := by
 cases x <;> first | rfl | (simp only [ak.arg]; rw [PU h]) | (simp only [ak.arg]; rw [PS h])
theorem I8 {S S' : ak} (h : ∀ i,jH S i = jH S' i) : S.arg = S'.arg := funext fun x => acO h x
theorem zZ {S S' : ak} {l : List Operand} (h : p7 S S' l) : ∀ {xs : List Operand},(∀ x ∈ xs,x ∈ l) → S.args xs = S'.args xs
 | [],_ => rfl
 | x :: xs,ar => by
  simp only [ak.args]
  rw [h.bg (ar x (List.mem_cons_self ..)),I8 h.v,zZ h (fun y aV => ar y (List.mem_cons_of_mem _ aV))]
theorem Qm {S S' : ak} {l : List Operand} (h : p7 S S' l) (k : Nat) : ∀ {xs : List Operand},(∀ x ∈ xs,x ∈ l) → S.elems k xs = S'.elems k xs
 | [],_ => rfl
 | x :: xs,ar => by
  simp only [ak.elems]
  rw [h.bg (ar x (List.mem_cons_self ..)),I8 h.v,Qm h k (fun y aV => ar y (List.mem_cons_of_mem _ aV))]
theorem fill_eq {S S' : ak} {l : List Operand} (h : p7 S S' l) : ∀ {ps : List (Nat × Nat × Operand)} (cs : List aw),(∀ p ∈ ps,p.2.2 ∈ l) → sN S cs ps = sN S' cs ps
 | [],_,_ => rfl
 | (a,b,x) :: ps,cs,ar => by
  simp only [sN]
  rw [h.bg (ar _ (List.mem_cons_self ..))]
  congr 1
  funext s
  split
  ·exact fill_eq h _ (fun y aV => ar y (List.mem_cons_of_mem _ aV))
  ·rfl
theorem Ua {S S' : ak} {l : List Operand} (h : p7 S S' l) (d : Int) {o : Option Operand} (ax : ∀ x ∈ o,x ∈ l) : S.sd d o = S'.sd d o := by
 cases o with
 | none => rfl
 | some x => simp only [ak.sd]; rw [h.bg (ax x rfl)]
theorem qy {α : Type} {o : Option α} {k dG : α → Prop} (h : cS o k) (g : ∀ x,k x → dG x) : cS o dG := by
 cases o with
 | none => exact h
 | some x => exact g x h
theorem mem_reads {o : cA} {x : Operand} {t : Nat} (ar : x ∈ o.op.cX) (aL : t ∈ DV x) : t ∈ o.reads :=
 List.mem_append.2 (.inl (List.mem_flatMap.2 ⟨x,ar,aL⟩))

theorem ad0 {op : b7} {S S' : ak} {k : aw → Prop} (hp : rv op = true) (h : p7 S S' op.cX) (aE : ∀ x dK,op = .aC x dK → ∀ s,S.bg x = some s → S.at s = S'.at s) (he : cx op S k) : cx op S' k := by
 have O : ∀ {x},x ∈ op.cX → S'.bg x = S.bg x := fun ar => (h.bg ar).symm
 cases op with
 | aC x dK =>
  simp only [cx] at he ⊢
  rw [O (by simp [b7.cX])]
  obtain ⟨s,ao,he⟩ := b2 he
  rw [ao,iE,← aE x dK rfl s ao]; exact he
 | dD x i dz =>
  simp only [cx] at he ⊢
  rw [O (by simp [b7.cX]),O (by simp [b7.cX])]
  refine qy he fun s he => qy he fun j he => ?_
  split at he
  ·exact he
  ·rcases Bb (h.v _) with e | ⟨e | ⟨_,_,e⟩,_⟩
   ·rw [e] at he; exact he
   all_goals (rw [e] at he; exact he.elim)
  ·exact he.elim
 | len x =>
  simp only [cx] at he ⊢
  rw [O (by simp [b7.cX])]
  refine qy he fun s he => ?_
  cases s with
  | own q =>
   simp only at he ⊢
   rcases Bb (h.v q) with e | ⟨e | ⟨_,_,e⟩,_⟩
   ·rw [← e]; exact he
   all_goals (rw [e] at he; exact he.elim)
  | _ => exact he
 | mW bd m key z ok =>
  simp only [cx] at he ⊢
  rw [O (by simp [b7.cX]),O (by simp [b7.cX])]
  refine qy he fun s he => qy he fun j he => ?_
  split at he
  ·exact he
  ·rcases Bb (h.v _) with e | ⟨e | ⟨_,_,e⟩,_⟩
   ·rw [e] at he; exact he
   all_goals (rw [e] at he; exact he.elim)
  ·exact he.elim
 | ah x => simp only [cx] at he ⊢; rw [O (by simp [b7.cX])]; exact he
 | aU x off => simp only [cx] at he ⊢; rw [O (by simp [b7.cX])]; exact he
 | pD x off dK => simp only [cx] at he ⊢; rw [O (by simp [b7.cX])]; exact he
 | mV x i dz n => simp only [cx] at he ⊢; rw [O (by simp [b7.cX]),O (by simp [b7.cX])]; exact he
 | dO dE ps => simp only [cx] at he ⊢; rw [← fill_eq h _ (fun p hp => List.mem_map.2 ⟨p,hp,rfl⟩)]; exact he
 | hE dz xs => simp only [cx] at he ⊢; rw [← Qm h dz (xs := xs) (fun x ar => ar)]; exact he
 | k1 dz x jD aq mx =>
  simp only [cx] at he ⊢
  rw [O (by simp [b7.cX])]
  refine qy he fun s he => ?_
  cases s with
  | au k2 g es =>
   simp only at he ⊢
   refine ⟨he.1,?_⟩
   have he := he.2
   rw [← Ua h 0 (fun y aV => by subst aV; simp [b7.cX])]
   refine qy he fun l he => ?_
   rw [← Ua h _ (fun y aV => by subst aV; simp [b7.cX])]
   refine qy he fun q he => ⟨he.1,he.2.1,he.2.2.1,?_⟩
   have he := he.2.2.2
   cases mx with
   | none => exact he
   | some o => simp only at he ⊢; rw [O (by simp [b7.cX])]; exact he
  | _ => exact he
 | ext x i => simp only [cx] at he ⊢; rw [O (by simp [b7.cX])]; exact he
 | bin op x y => simp only [cx] at he ⊢; rw [O (by simp [b7.cX]),O (by simp [b7.cX])]; exact he
 | eqv neg t x y => simp only [cx] at he ⊢; rw [O (by simp [b7.cX]),O (by simp [b7.cX])]; exact he
 | not x => simp only [cx] at he ⊢; rw [O (by simp [b7.cX])]; exact he
 | mf dz x => simp only [cx] at he ⊢; rw [O (by simp [b7.cX])]; exact he
 | call f xs => simp only [cx] at he ⊢; rw [← zZ h (xs := xs) (fun x ar => ar)]; exact he
 | gen op xs => simp only [cx] at he ⊢; rw [← zZ h (xs := xs) (fun x ar => ar)]; exact he
 | kP x xs => simp only [cx] at he ⊢; rw [O (by simp [b7.cX]),← zZ h (fun x ar => by simp [b7.cX,ar])]; exact he
 | kj f a b => simp only [cx] at he ⊢; rw [← zZ h (fun x ar => by simp [b7.cX,ar]),← zZ h (fun x ar => by simp [b7.cX,ar])]; exact he
 | iC t x => simp only [cx] at he ⊢; rw [O (by simp [b7.cX]),← I8 h.v]; exact he
 | pick c a b => simp only [cx] at he ⊢; rw [O (by simp [b7.cX]),O (x := a) (by simp [b7.cX]),O (x := b) (by simp [b7.cX])]; exact he
 | kX mx x y => simp only [cx] at he ⊢; rw [O (by simp [b7.cX]),O (by simp [b7.cX])]; exact he
 | lB x => simp only [cx] at he ⊢; rw [O (by simp [b7.cX])]; exact he
 | _ => cases hp
theorem vN {α : Type} {o : Option α} {k : aw → Prop} {f : α → (aw → Prop) → Prop} (h : cS o fun x => f x k) (g : ∀ x,f x k → ∃ s,(∀ dG : aw → Prop,dG s → f x dG) ∧ k s) : ∃ s,(∀ dG : aw → Prop,dG s → cS o fun x => f x dG) ∧ k s := by
 cases o with
 | none => exact h.elim
 | some x => obtain ⟨s,af,aj⟩ := g x h; exact ⟨s,af,aj⟩
theorem Qd {cs : List aw} {off : Nat} {dK : Option Nat} {k : aw → Prop} (h : cut cs off dK k) : ∃ s,(∀ dG : aw → Prop,dG s → cut cs off dK dG) ∧ k s := by
 unfold cut at h ⊢
 cases dK with
 | none => exact vN (f := fun x k => k x) h fun x ar => ⟨x,fun _ h => h,ar⟩
 | some n => exact ⟨_,fun _ e6 => ⟨h.1,e6⟩,h.2⟩
theorem JK {op : b7} {S : ak} {k : aw → Prop} (hp : rv op = true) (he : cx op S k) : ∃ s,(∀ dG : aw → Prop,dG s → cx op S dG) ∧ k s := by
 cases op with
 | ah x => exact vN (f := fun x k => k x) he fun x ar => ⟨x,fun _ h => h,ar⟩
 | aC x dK =>
  simp only [cx] at he ⊢
  exact vN (f := fun s k => cS (S.at s) fun p => cut p.1 p.2 dK k) he fun s he => vN (f := fun (p : List aw × Nat) k => cut p.1 p.2 dK k) he fun p he => Qd he
 | aU x off =>
  simp only [cx] at he ⊢
  obtain ⟨s,ao,he⟩ := b2 he
  simp only [ao,iE]
  cases s <;> first | exact he.elim | exact ⟨_,fun _ h => h,he⟩
 | pD x off dK =>
  simp only [cx] at he ⊢
  obtain ⟨s,ao,he⟩ := b2 he
  simp only [ao,iE]
  cases s <;> first | exact he.elim | exact Qd he
 | dD x i dz =>
  simp only [cx] at he ⊢
  obtain ⟨s,ao,he⟩ := b2 he
  obtain ⟨j,aN,he⟩ := b2 he
  simp only [ao,aN,iE]
  split at he
  ·obtain ⟨a1,a7,ct⟩ := he
   obtain ⟨e,dU,iA⟩ := b2 ct
   simp only [dU,iE]
   exact ⟨_,fun _ h => ⟨a1,a7,h⟩,iA⟩
  ·split at he
   ·rename_i aJ
    try simp only [aJ]
    exact ⟨_,fun _ h => ⟨he.1,he.2.1,he.2.2.1,h⟩,he.2.2.2⟩
   ·rename_i aJ
    try simp only [aJ]
    exact ⟨_,fun _ h => ⟨he.1,he.2.1,he.2.2.1,h⟩,he.2.2.2⟩
   ·exact he.elim
  ·exact he.elim
 | mV x i dz N =>
  simp only [cx] at he ⊢
  obtain ⟨s,ao,he⟩ := b2 he
  obtain ⟨j,aN,he⟩ := b2 he
  simp only [ao,aN,iE]
  split at he
  ·exact ⟨_,fun _ h => ⟨he.1,he.2.1,h⟩,he.2.2⟩
  ·exact ⟨_,fun _ h => ⟨he.1,he.2.1,h⟩,he.2.2⟩
  ·exact he.elim
 | dO dE ps => exact vN (f := fun cs k => k (.agg cs)) he fun x ar => ⟨_,fun _ h => h,ar⟩
 | hE dz xs => exact vN (f := fun (es : List (List aw)) (k : aw → Prop) => es.length ≤ 1000000 ∧ k (.au dz 0 es)) he fun x ar => ⟨_,fun _ h => ⟨ar.1,h⟩,ar.2⟩
 | k1 dz x jD aq mx =>
  simp only [cx] at he ⊢
  obtain ⟨s,ao,he⟩ := b2 he
  simp only [ao,iE]
  split at he
  ·obtain ⟨fD,he⟩ := he
   obtain ⟨l,aE,he⟩ := b2 he
   obtain ⟨q,aT,he⟩ := b2 he
   simp only [aE,aT,iE]
   obtain ⟨a1,a7,ct,he⟩ := he
   cases mx with
   | none => exact ⟨_,fun _ h => ⟨fD,a1,a7,ct,h⟩,he⟩
   | some o =>
    simp only at he ⊢
    obtain ⟨j,aN,he⟩ := b2 he
    simp only [aN,iE]
    split at he
    ·exact ⟨_,fun _ h => ⟨fD,a1,a7,ct,he.1,he.2.1,h⟩,he.2.2⟩
    ·exact he.elim
  ·exact he.elim
 | len x =>
  simp only [cx] at he ⊢
  obtain ⟨s,ao,he⟩ := b2 he
  simp only [ao,iE]
  split at he
  ·exact ⟨_,fun _ h => h,he⟩
  ·split at he
   ·rename_i aJ
    try simp only [aJ]
    exact ⟨_,fun _ h => h,he⟩
   ·rename_i aJ
    try simp only [aJ]
    exact ⟨_,fun _ h => h,he⟩
   ·exact he.elim
  ·exact he.elim
 | mW bd m key z ok =>
  simp only [cx] at he ⊢
  obtain ⟨s,ao,he⟩ := b2 he
  obtain ⟨j,aN,he⟩ := b2 he
  simp only [ao,aN,iE]
  split at he
  ·exact ⟨_,fun _ h => ⟨he.1,he.2.1,he.2.2.1,h⟩,he.2.2.2⟩
  ·split at he
   ·rename_i aJ
    try simp only [aJ]
    exact ⟨_,fun _ h => ⟨he.1,he.2.1,he.2.2.1,h⟩,he.2.2.2⟩
   ·exact he.elim
  ·exact he.elim
 | ext x i =>
  simp only [cx] at he ⊢
  obtain ⟨s,ao,he⟩ := b2 he
  simp only [ao,iE]
  split at he
  ·exact vN (f := fun x k => k x) he fun x ar => ⟨x,fun _ h => h,ar⟩
  ·exact he.elim
 | bin op x y =>
  simp only [cx] at he ⊢
  obtain ⟨s,ao,he⟩ := b2 he
  obtain ⟨j,aN,he⟩ := b2 he
  simp only [ao,aN,iE]
  split at he
  ·obtain ⟨a1,he⟩ := he
   obtain ⟨r,aA,he⟩ := b2 he
   simp only [aA,iE]
   exact ⟨_,fun _ h => ⟨a1,h⟩,he⟩
  ·exact he.elim
 | eqv neg t x y =>
  simp only [cx] at he ⊢
  obtain ⟨s,ao,he⟩ := b2 he
  obtain ⟨j,aN,he⟩ := b2 he
  simp only [ao,aN,iE]
  obtain ⟨b,af,aj⟩ := he
  exact ⟨_,fun _ h => ⟨b,af,h⟩,aj⟩
 | not x =>
  simp only [cx] at he ⊢
  obtain ⟨s,ao,he⟩ := b2 he
  simp only [ao,iE]
  split at he
  ·exact ⟨_,fun _ h => h,he⟩
  ·exact he.elim
 | mf dz x =>
  simp only [cx] at he ⊢
  obtain ⟨s,ao,he⟩ := b2 he
  simp only [ao,iE]
  split at he
  ·exact ⟨_,fun _ h => h,he⟩
  ·exact he.elim
 | call f xs =>
  simp only [cx] at he ⊢
  obtain ⟨s,ao,he⟩ := b2 he
  simp only [ao,iE]
  obtain ⟨r,af,aj⟩ := he
  exact ⟨_,fun _ h => ⟨r,af,h⟩,aj⟩
 | kP x xs =>
  simp only [cx] at he ⊢
  obtain ⟨s,ao,he⟩ := b2 he
  obtain ⟨l,aE,he⟩ := b2 he
  simp only [ao,aE,iE]
  split at he
  ·obtain ⟨ba,r,af,aj⟩ := he
   exact ⟨_,fun _ h => ⟨ba,r,af,h⟩,aj⟩
  ·obtain ⟨f,hm,ba,r,af,aj⟩ := he
   exact ⟨_,fun _ h => ⟨f,hm,ba,r,af,h⟩,aj⟩
  ·exact he.elim
 | gen op xs =>
  simp only [cx] at he ⊢
  obtain ⟨s,ao,he⟩ := b2 he
  simp only [ao,iE]
  obtain ⟨r,af,aj⟩ := he
  exact ⟨_,fun _ h => ⟨r,af,h⟩,aj⟩
 | kj f a b =>
  simp only [cx] at he ⊢
  obtain ⟨s,ao,he⟩ := b2 he
  obtain ⟨l,aE,he⟩ := b2 he
  simp only [ao,aE,iE]
  exact ⟨_,fun _ h => h,he⟩
 | iC t x => exact vN (f := fun s k => k (.ds t s)) he fun x ar => ⟨_,fun _ h => h,ar⟩
 | pick c a b =>
  simp only [cx] at he ⊢
  obtain ⟨s,ao,he⟩ := b2 he
  simp only [ao,iE]
  split at he
  ·exact vN (f := fun x k => k x) he fun x ar => ⟨x,fun _ h => h,ar⟩
  ·exact he.elim
 | kX mx x y =>
  simp only [cx] at he ⊢
  obtain ⟨s,ao,he⟩ := b2 he
  obtain ⟨j,aN,he⟩ := b2 he
  simp only [ao,aN,iE]
  split at he
  ·exact ⟨_,fun _ h => ⟨he.1,h⟩,he.2⟩
  ·exact he.elim
 | lB x =>
  simp only [cx] at he ⊢
  obtain ⟨s,ao,he⟩ := b2 he
  simp only [ao,iE]
  split at he
  ·exact ⟨_,fun _ h => h,he⟩
  ·exact ⟨_,fun _ h => h,he⟩
  ·exact ⟨_,fun _ h => h,he⟩
  ·exact ⟨_,fun _ h => h,he⟩
  ·exact he.elim
 | _ => cases hp

theorem akt {S S' : ak} {l : List Operand} (h : p7 S S' l) (i : Nat) : l3 S (.own i) = l3 S' (.own i) := by
 show (match an S.O i with | some (.gi _) => true | _ => false) = (match an S'.O i with | some (.gi _) => true | _ => false)
 rcases Bb (h.v i) with e | ⟨e | ⟨_,_,e⟩,e5 | ⟨_,_,e5⟩⟩
 ·rw [e]
 all_goals rw [e,e5]
theorem aiY {S S' : ak} {l : List Operand} (h : p7 S S' l) {x : Operand} (ar : x ∈ l) : pV S x = pV S' x := by
 unfold pV
 rw [h.bg ar]
 cases S'.bg x with
 | none => rfl
 | some s =>
  cases s with
  | agg cs =>
   show cs.all (l3 S) = cs.all (l3 S')
   congr 1
   funext y
   cases y <;> first | rfl | exact akt h _
  | _ => rfl
theorem aes {S : ak} {i : Nat} (h : l3 S (.own i) = true) : S.oi i = S := by
 change (match an S.O i with | some (.gi _) => true | _ => false) = true at h
 unfold ak.oi
 split at h
 ·rename_i e; rw [e]
 ·cases h
theorem Q4 {S : ak} : ∀ {cs : List aw},cs.all (l3 S) = true → S.fv cs = S
 | [],_ => rfl
 | x :: cs,h => by
  simp only [List.all_cons,Bool.and_eq_true] at h
  have dW := Q4 h.2
  cases x with
  | own i => show (S.oi i).fv cs = S; rw [aes h.1]; exact dW
  | _ => exact dW
theorem Q5 {S : ak} : ∀ {xs : List Operand},xs.all (pV S) = true → S.mQ xs = S
 | [],_ => rfl
 | x :: xs,h => by
  simp only [List.all_cons,Bool.and_eq_true] at h
  have dW := Q5 h.2
  have af := h.1
  unfold pV at af
  unfold ak.mQ
  cases e : S.bg x with
  | none => exact dW
  | some s =>
   rw [e] at af
   cases s with
   | own i => cases af
   | ptr i a b => cases af
   | agg cs => show (S.fv cs).mQ xs = S; rw [Q4 af]; exact dW
   | _ => exact dW
theorem akJ {op : b7} (hp : rv op = true) : ∀ x ∈ op.fL,x ∈ op.cX := by
 intro x ar
 cases op <;> first | (cases hp; done) | (cases ar; done) | (simp only [b7.fL,b7.cX] at ar ⊢; first | exact ar | (simp_all; done))
theorem akK {S S' : ak} {op : b7} (hp : rv op = true) (h : p7 S S' op.cX) : op.fL.all (pV S) = op.fL.all (pV S') := by
 have : ∀ l : List Operand,(∀ x ∈ l,x ∈ op.cX) → l.all (pV S) = l.all (pV S') := by
  intro l
  induction l with
  | nil => intro _; rfl
  | cons x l dW => intro aE; simp only [List.all_cons]; rw [aiY h (aE x (List.mem_cons_self ..)),dW (fun y aV => aE y (List.mem_cons_of_mem _ aV))]
 exact this _ (akJ hp)
structure wq (S S' : ak) (o : cA) : Prop where
 v : ∀ i,jH S i = jH S' i
 t : ∀ t ∈ o.reads,an S.T t = an S'.T t
 l : ∀ x dK,o.op = .aC x dK → ∀ s,S.bg x = some s → S.at s = S'.at s
theorem wq.op {S S' : ak} {o : cA} (h : wq S S' o) : p7 S S' o.op.cX := ⟨h.v,fun x ar t aL => h.t t (mem_reads ar aL)⟩
theorem H3 {o : cA} {S S' : ak} {k : aw → Prop} (hp : rv o.op = true) (h : wq S S' o) (he : p1 o S k) : p1 o S' k := by
 have run : (o.op.fL.all (pV S) = true ∧ cx o.op S k) → (o.op.fL.all (pV S') = true ∧ cx o.op S' k) := fun q => ⟨by rw [← akK hp h.op]; exact q.1,ad0 hp h.op h.l q.2⟩
 unfold p1 at he ⊢
 split at he
 ·exact run he
 ·rename_i t b aJ
  have e : S'.bg (.tmp t) = S.bg (.tmp t) := by
   show (an S'.T t).map S'.res = (an S.T t).map S.res
   rw [h.t t (List.mem_append.2 (.inr (by rw [aJ]; simp)))]
   cases an S'.T t with
   | none => rfl
   | some y => simp [Nd h.v]
  rw [e]
  refine qy he fun s he => ?_
  split at he
  ·exact ⟨fun q => run (he.1 q),he.2⟩
  ·exact he
  ·exact he.elim
theorem alC {o : cA} {S : ak} {k : aw → Prop} (hp : rv o.op = true) (he : p1 o S k) : ∃ s,(∀ dG : aw → Prop,dG s → p1 o S dG) ∧ k s := by
 unfold p1 at he ⊢
 split at he
 ·obtain ⟨s,af,aj⟩ := JK hp he.2
  exact ⟨s,fun dG h => ⟨he.1,af dG h⟩,aj⟩
 ·rename_i t b aJ
  obtain ⟨s,ao,he⟩ := b2 he
  simp only [ao,iE]
  split at he
  ·rename_i ez
   by_cases e : ez = b
   ·obtain ⟨s,af,aj⟩ := JK hp (he.1 e).2
    exact ⟨s,fun dG h => ⟨fun q => ⟨(he.1 e).1,af dG h⟩,fun q => by subst e; cases ez <;> cases q⟩,aj⟩
   ·have e5 : ez = !b := by cases ez <;> cases b <;> simp_all
    exact ⟨_,fun dG h => ⟨fun q => absurd q e,fun _ => h⟩,he.2 e5⟩
  ·exact ⟨_,fun _ h => h,he⟩
  ·exact he.elim
theorem QC {d : Option Nat} {op : b7} {S : ak} {K : ak → Prop} (hp : rv op = true) (aZ : op.fL.all (pV S) = true) (h : cx op S fun s => K (S.b3 d s)) : fJ d op S K := by
 have e := Q5 aZ
 cases op with
 | call f xs => simp only [fJ]; rw [e]; exact .inl (.inl h)
 | eqv b t x y => simp only [fJ]; rw [e]; exact .inl h
 | kP x xs => simp only [fJ]; rw [e]; exact .inl h
 | gen op xs => simp only [fJ]; rw [e]; exact .inl h
 | _ => first | (cases hp; done) | (simp only [fJ]; rw [e]; exact h)
theorem Qx {o : cA} {S : ak} {K : ak → Prop} (hp : rv o.op = true) (h : p1 o S fun s => K (S.b3 o.d s)) : kd o S K := by
 unfold p1 at h
 unfold kd
 split at h
 ·rename_i aJ; rw [aJ]; exact QC hp h.1 h.2
 ·rename_i t b aJ
  rw [aJ]
  refine qy h fun s h => ?_
  split at h
  ·exact ⟨fun q => QC hp (h.1 q).1 (h.1 q).2,h.2⟩
  ·exact h
  ·exact h.elim

inductive m5 : List cA → ak → ak → Prop
 | nil {S} : m5 [] S S
 | cons {o l S s bT} : rv o.op = true → (∀ k : aw → Prop,k s → p1 o S k) → m5 l (S.b3 o.d s) bT → m5 (o :: l) S bT
theorem UJ : ∀ {l : List cA} {S : ak} {K : ak → Prop},l.all (fun o => rv o.op) = true → nS l S K → ∃ bT,m5 l S bT ∧ K bT
 | [],S,K,_,h => ⟨S,.nil,h⟩
 | o :: l,S,K,hp,h => by
  simp only [List.all_cons,Bool.and_eq_true] at hp
  obtain ⟨s,af,aj⟩ := alC hp.1 h
  obtain ⟨bT,av,aY⟩ := UJ hp.2 aj
  exact ⟨bT,.cons hp.1 af av,aY⟩
theorem vR (S : ak) (d : Option Nat) (s : aw) : (S.b3 d s).O = S.O := by cases d <;> rfl
theorem Hs (S : ak) (d : Option Nat) (s : aw) : (S.b3 d s).n = S.n := by cases d <;> rfl
theorem AQ (S : ak) (d : Option Nat) (s : aw) (t : Nat) : an (S.b3 d s).T t = if d = some t then some s else an S.T t := by
 cases d with
 | none => rfl
 | some d =>
  show an ((d,s) :: ef S.T d) t = _
  rw [mR]
  by_cases e : d = t
  ·rw [if_pos e,if_pos (by rw [e])]
  ·rw [if_neg e,if_neg (by simpa using e)]
theorem akL (S : ak) (d : Option Nat) (s : aw) (i : Nat) (o : bo) : (S.b3 d s).eT i o = (S.eT i o).b3 d s := by cases d <;> rfl
theorem iV.refl (S : ak) : iV S S := ⟨rfl,rfl,fun _ => rfl⟩
theorem iV.trans {A B C : ak} (h : iV A B) (k : iV B C) : iV A C := ⟨h.o.trans k.o,h.n.trans k.n,fun t => (h.t t).trans (k.t t)⟩
theorem iV.symm {A B : ak} (h : iV A B) : iV B A := ⟨h.o.symm,h.n.symm,fun t => (h.t t).symm⟩
theorem iV.put {A B : ak} (h : iV A B) (d : Option Nat) (s : aw) : iV (A.b3 d s) (B.b3 d s) :=
 ⟨by rw [vR,vR]; exact h.o,by rw [Hs,Hs]; exact h.n,fun t => by rw [AQ,AQ]; split; rfl; exact h.t t⟩
theorem iV.jH {A B : ak} (h : iV A B) (i : Nat) : jH A i = jH B i := by unfold Go.Proofs.YtkmbcjnaaokilaaGreatDoor.jH; rw [h.o]
theorem I9 {A B : ak} (h : A.O = B.O) (s : aw) : A.at s = B.at s := by
 cases s <;> first | rfl | (unfold ak.at; rw [h])
theorem iV.ale {A B : ak} (h : iV A B) (o : cA) : wq A B o := ⟨h.jH,fun t _ => h.t t,fun _ _ _ _ _ => I9 h.o _⟩
theorem iV.bg {A B : ak} (h : iV A B) (x : Operand) : A.bg x = B.bg x := (show p7 A B [x] from ⟨h.jH,fun _ _ t _ => h.t t⟩).bg (List.mem_singleton.2 rfl)
theorem Ul {S : ak} {o : cA} {d : Option Nat} (a6 : ∀ t ∈ o.reads,d ≠ some t) (s : aw) : wq S (S.b3 d s) o :=
 ⟨fun i => by unfold jH; rw [vR],fun t aL => by rw [AQ,if_neg (a6 t aL)],fun _ _ _ _ _ => I9 (vR _ _ _).symm _⟩
theorem wq.symm {S S' : ak} {o : cA} (h : wq S S' o) (dX : S.O = S'.O) : wq S' S o :=
 ⟨fun i => (h.v i).symm,fun t aL => (h.t t aL).symm,fun _ _ _ _ _ => I9 dX.symm _⟩
theorem m5.eqv : ∀ {l : List cA} {A B O8 : ak},m5 l A O8 → iV A B → ∃ Ev,m5 l B Ev ∧ iV O8 Ev
 | _,_,B,_,.nil,h => ⟨B,.nil,h⟩
 | _,_,B,_,.cons (o := o) (s := s) hp af aj,h => by
  obtain ⟨Ev,av,aY⟩ := aj.eqv (h.put o.d s)
  exact ⟨Ev,.cons hp (fun k az => H3 hp (h.ale o) (af k az)) av,aY⟩
def GW (p q : cA) : Bool := (match p.d with | some d => !q.reads.contains d | none => true) && (match q.d with | some d => !p.reads.contains d | none => true) && !(p.d == q.d)
theorem ahF {p q : cA} (h : GW p q = true) : (∀ t ∈ q.reads,p.d ≠ some t) ∧ (∀ t ∈ p.reads,q.d ≠ some t) ∧ p.d ≠ q.d := by
 unfold GW at h
 simp only [Bool.and_eq_true,Bool.not_eq_true',beq_eq_false_iff_ne] at h
 obtain ⟨⟨af,aj⟩,av⟩ := h
 refine ⟨fun t aL e => ?_,fun t aL e => ?_,av⟩
 ·rw [e] at af; simp only [Bool.not_eq_true'] at af
  rw [List.contains_eq_mem] at af; simp [aL] at af
 ·rw [e] at aj; simp only [Bool.not_eq_true'] at aj
  rw [List.contains_eq_mem] at aj; simp [aL] at aj
theorem m5.first {o : cA} : ∀ {A B : List cA} {S bT : ak},m5 (A ++ o :: B) S bT → A.all (fun a => GW a o) = true → ∃ s gr,rv o.op = true ∧ (∀ k : aw → Prop,k s → p1 o S k) ∧ m5 (A ++ B) (S.b3 o.d s) gr ∧ iV bT gr
 | [],B,S,bT,h,_ => by
  cases h with
  | cons hp af aj => exact ⟨_,bT,hp,af,aj,iV.refl _⟩
 | a :: A,B,S,bT,h,aq => by
  simp only [List.all_cons,Bool.and_eq_true] at aq
  obtain ⟨i1,i2,i3⟩ := ahF aq.1
  cases h with
  | cons hp af aj =>
   rename_i NR
   obtain ⟨s,gr,Sm,av,aY,bM⟩ := m5.first (A := A) aj aq.2
   have ahh : iV ((S.b3 a.d NR).b3 o.d s) ((S.b3 o.d s).b3 a.d NR) :=
    ⟨by simp only [vR],by simp only [Hs],fun t => by
     simp only [AQ]
     by_cases a1 : o.d = some t
     ·rw [if_pos a1,if_neg (fun e => i3 (e.trans a1.symm)),if_pos a1]
     ·rw [if_neg a1,if_neg a1]⟩
   obtain ⟨Z1,bN,cJ⟩ := aY.eqv ahh
   refine ⟨s,Z1,Sm,fun k az => ?_,?_,bM.trans cJ⟩
   ·exact H3 Sm ((Ul i1 NR).symm (vR _ _ _).symm) (av k az)
   ·exact .cons hp (fun k az => H3 hp (Ul i2 s) (af k az)) bN
theorem m5.O : ∀ {l : List cA} {S bT : ak},m5 l S bT → bT.O = S.O ∧ bT.n = S.n
 | _,_,_,.nil => ⟨rfl,rfl⟩
 | _,_,_,.cons _ _ h => ⟨h.O.1.trans (vR _ _ _),h.O.2.trans (Hs _ _ _)⟩
theorem m5.T : ∀ {l : List cA} {S bT : ak} {t : Nat},m5 l S bT → (∀ o ∈ l,o.d ≠ some t) → an bT.T t = an S.T t
 | _,_,_,_,.nil,_ => rfl
 | _,_,_,_,.cons _ _ h,a6 => (h.T (fun o ax => a6 o (List.mem_cons_of_mem _ ax))).trans (by rw [AQ,if_neg (a6 _ (List.mem_cons_self ..))])
theorem MT {A B : ak} (dX : A.O = B.O) {x : Operand} (eE : ∀ t ∈ DV x,an A.T t = an B.T t) : A.bg x = B.bg x := (show p7 A B [x] from ⟨fun i => by unfold jH; rw [dX],fun y aV t aL => eE t (by rw [List.mem_singleton.1 aV] at aL; exact aL)⟩).bg (List.mem_singleton.2 rfl)
def ta : List cA → Bool
 | [] => true
 | o :: l => (o :: l).all (fun q => match q.d with | some d => !o.reads.contains d | none => true) && ta l
theorem Me {o : cA} {l : List cA} (h : ta (o :: l) = true) : (∀ q ∈ o :: l,∀ t ∈ o.reads,q.d ≠ some t) ∧ ta l = true := by
 unfold ta at h
 simp only [Bool.and_eq_true] at h
 refine ⟨fun q aT t aL e => ?_,h.2⟩
 have := (List.all_eq_true.1 h.1) q aT
 rw [e] at this
 simp only [Bool.not_eq_true'] at this
 rw [List.contains_eq_mem] at this; simp [aL] at this
theorem XK {S : ak} {i : Nat} {t t' : TypeId} {cs cs' : List aw} (h : an S.O i = some (.box t cs)) (j : Nat) : jH S j = jH (S.eT i (.box t' cs')) j := by
 unfold jH
 show _ = (match an ((i,bo.box t' cs') :: ef S.O i) j with | some (.box ..) => none | o => o)
 rw [mR]
 by_cases e : i = j
 ·subst e; rw [if_pos rfl,h]
 ·rw [if_neg e]
theorem acQ {S : ak} {i : Nat} {o : bo} {s : aw} (h : ∀ a b,s ≠ .ptr i a b) : S.at s = (S.eT i o).at s := by
 cases s with
 | ptr j a b =>
  have e : i ≠ j := fun e => h a b (by rw [e])
  have : an (S.eT i o).O j = an S.O j := by
   show an ((i,o) :: ef S.O i) j = _
   rw [mR,if_neg e]
  show (match an S.O j with | some (.box _ cs) => some (cs,b) | some (.row _ _ es) => (es[a]?).map fun e => (e,b) | some (.h2 _ cs) => some (cs,a + b) | _ => none) = (match an (S.eT i o).O j with | some (.box _ cs) => some (cs,b) | some (.row _ _ es) => (es[a]?).map fun e => (e,b) | some (.h2 _ cs) => some (cs,a + b) | _ => none)
  rw [this]
 | _ => rfl
theorem m5.behind {i : Nat} {t t' : TypeId} {cs cs' : List aw} : ∀ {l : List cA} {S bT : ak},m5 l S bT → ta l = true → an S.O i = some (.box t cs) →
  (∀ o ∈ l,∀ x dK,o.op = .aC x dK → ∀ j a b,bT.bg x = some (.ptr j a b) → j ≠ i) → m5 l (S.eT i (.box t' cs')) (bT.eT i (.box t' cs'))
 | _,_,_,.nil,_,_,_ => .nil
 | _,S,bT,.cons (o := o) (l := l) (s := s) hp af aj,aE,aq,Sb => by
  obtain ⟨l1,l2⟩ := Me aE
  have aA := aj.behind (t' := t') (cs' := cs') l2 (by rw [vR]; exact aq) (fun q aT => Sb q (List.mem_cons_of_mem _ aT))
  rw [akL] at aA
  refine .cons hp (fun k az => H3 hp ⟨fun j => XK aq j,fun t _ => rfl,fun x dK e s ao => acQ fun a b a7 => ?_⟩ (af k az)) aA
  subst a7
  have : bT.bg x = S.bg x := MT (aj.O.1.trans (vR _ _ _)) fun t aL => by
   have hm : t ∈ o.reads := mem_reads (by rw [e]; simp [b7.cX]) aL
   exact (aj.T (fun q aT => l1 q (List.mem_cons_of_mem _ aT) t hm)).trans (by rw [AQ,if_neg (l1 o (List.mem_cons_self ..) t hm)])
  exact Sb o (List.mem_cons_self ..) x dK e i a b (this.trans ao) rfl

def tl (l : List cA) : nM → List Nat → List Nat → Bool
 | .leaf,[],[] => true
 | .leaf,_,_ => false
 | .b4 i t,fA,rs => Hf l i fA rs && tl l t (fA.erase i) (rs.erase i)
 | .step i t,fA,rs => Hf l i fA rs && tl l t (fA.erase i) (rs.erase i)
 | .alt a b,fA,rs => tl l a fA rs && tl l b fA rs
where Hf (l : List cA) (i : Nat) (fA rs : List Nat) : Bool :=
  if fA.contains i = true then !rs.contains i && (match l[i]? with | some o => (gx l (fA.takeWhile fun j => !(j == i))).all fun a => GW a o | none => false)
  else match rs with
   | [] => false
   | j :: _ => decide (j = i) && (match l[i]? with | some o => (match o.g,o.op with | none,.st .. => (match o.d with | none => true | some _ => false) && (gx l fA).all (fun a => match a.d with | some d => !o.reads.contains d | none => true) | _,_ => false) | none => false)
theorem Hq (l : List cA) (a b : List Nat) : gx l (a ++ b) = gx l a ++ gx l b := List.filterMap_append
theorem JJ {i : Nat} : ∀ {r : List Nat},r.contains i = true → ∃ b,r = r.takeWhile (fun j => !(j == i)) ++ i :: b ∧ r.erase i = r.takeWhile (fun j => !(j == i)) ++ b
 | [],h => by simp at h
 | j :: r,h => by
  by_cases e : j = i
  ·subst e; exact ⟨r,by simp,by simp⟩
  ·have e6 : r.contains i = true := by
    rw [List.contains_eq_mem,decide_eq_true_eq] at h ⊢
    rcases List.mem_cons.1 h with h | h
    ·exact absurd h.symm e
    ·exact h
   obtain ⟨b,af,aj⟩ := JJ e6
   refine ⟨b,?_,?_⟩
   ·have aL : (j :: r).takeWhile (fun j => !(j == i)) = j :: r.takeWhile (fun j => !(j == i)) := by rw [List.takeWhile_cons]; simp [e]
    rw [aL,List.cons_append,← af]
   ·have aL : (j :: r).takeWhile (fun j => !(j == i)) = j :: r.takeWhile (fun j => !(j == i)) := by rw [List.takeWhile_cons]; simp [e]
    rw [aL,List.erase_cons_tail (by simpa using e),aj]; rfl
theorem Md : ∀ {a b : List cA} {o : cA},ta (a ++ o :: b) = true → ta (a ++ b) = true
 | [],_,_,h => (Me h).2
 | x :: a,b,o,h => by
  obtain ⟨af,aj⟩ := Me (l := a ++ o :: b) h
  show ta (x :: (a ++ b)) = true
  unfold ta
  rw [Bool.and_eq_true]
  refine ⟨?_,Md aj⟩
  rw [List.all_eq_true]
  intro q aT
  have Sn : q ∈ x :: (a ++ o :: b) := by
   rcases List.mem_cons.1 aT with rfl | aT
   ·exact List.mem_cons_self ..
   ·refine List.mem_cons_of_mem _ ?_
    rcases List.mem_append.1 aT with aT | aT
    ·exact List.mem_append.2 (.inl aT)
    ·exact List.mem_append.2 (.inr (List.mem_cons_of_mem _ aT))
  cases e : q.d with
  | none => rfl
  | some d =>
   simp only [Bool.not_eq_true']
   rw [List.contains_eq_mem,decide_eq_false_iff_not]
   exact fun a6 => af q Sn d a6 e
theorem FJ {i : Nat} {r : List Nat} (h : r.contains i = false) : r.erase i = r := by
 rw [List.contains_eq_mem,decide_eq_false_iff_not] at h
 exact List.erase_of_not_mem h
theorem HZ {A B : ak} (h : iV A B) (x : Operand) : oJ A x = oJ B x := by unfold oJ; rw [h.bg,h.o]
theorem FN {o : cA} {k : Nat} {x y : Operand} {S : ak} {K : ak → Prop} (aJ : o.g = none) (ax : o.op = .st k x y) (a6 : o.d = none) (aI : (oJ S x).isSome = true) (h : kd o S K) :
  ∃ i a b t cs cs',S.bg x = some (.ptr i a b) ∧ oJ S x = some i ∧ an S.O i = some (.box t cs) ∧ K (S.eT i (.box t cs')) ∧
   ∀ (S' : ak) (p6 : ak → Prop),S'.bg x = S.bg x → S'.bg y = S.bg y → an S'.O i = an S.O i → p6 (S'.eT i (.box t cs')) → kd o S' p6 := by
 unfold oJ at aI
 split at aI
 ·rename_i i a b ar
  split at aI
  ·rename_i t cs aq
   unfold kd at h
   rw [aJ] at h
   simp only [ax,a6,fJ,b7.fL,ak.mQ,ar,iE,aq] at h
   obtain ⟨_,h⟩ := h
   obtain ⟨v,bj,af,aj,av,aY⟩ := b2 h
   refine ⟨i,a,b,t,cs,_,ar,?_,aq,aY,fun S' p6 a1 a7 ct az => ?_⟩
   ·unfold oJ; rw [ar]; simp only [aq]
   ·unfold kd
    rw [aJ]
    simp only [ax,a6,fJ,b7.fL,ak.mQ,a1,a7,ar,bj,iE,ct,aq]
    exact ⟨trivial,af,aj,av,az⟩
  ·cases aI
 ·cases aI
def PI (L : ak → Prop) : Prop := ∀ A B,iV A B → L A → L B
theorem alf {A B : ak} (h : iV A B) (i : Nat) (o : bo) : iV (A.eT i o) (B.eT i o) := ⟨by show (i,o) :: ef A.O i = (i,o) :: ef B.O i; rw [h.o],h.n,h.t⟩
theorem A6 {S : ak} {i : Nat} {t t' : TypeId} {cs cs' : List aw} (h : an S.O i = some (.box t cs)) (x : Operand) : oJ (S.eT i (.box t' cs')) x = oJ S x := by
 have e : (S.eT i (.box t' cs')).bg x = S.bg x := ((show p7 S (S.eT i (.box t' cs')) [x] from ⟨fun j => XK h j,fun _ _ _ _ => rfl⟩).bg (List.mem_singleton.2 rfl)).symm
 unfold oJ
 rw [e]
 split
 ·rename_i j a b _
  show (match an ((i,bo.box t' cs') :: ef S.O i) j with | some (.box ..) => some j | _ => none) = _
  rw [mR]
  by_cases e : i = j
  ·subst e; rw [if_pos rfl,h]
  ·rw [if_neg e]
 ·rfl
theorem JN {L : ak → Prop} (fS : PI L) : ∀ {j2 : List cA} {A B : ak},j2.all (fun o => match o.g,o.op,o.d with | none,.st ..,none => true | _,_,_ => false) = true → j2.all (pd A) = true → iV A B → ig j2 A L → ig j2 B L
 | [],A,B,_,_,h,az => fS A B h az
 | o :: j2,A,B,ao,aI,h,az => by
  simp only [List.all_cons,Bool.and_eq_true] at ao aI
  obtain ⟨uc,s4⟩ := ao
  split at uc
  ·rename_i k x y aJ ax a6
   have il := aI.1
   unfold pd at il
   rw [ax] at il
   obtain ⟨i,a,b,t,cs,cs',a1,_,a7,ct,fb⟩ := FN aJ ax a6 il az
   refine fb B _ (h.bg x).symm (h.bg y).symm (by rw [h.o]) (JN fS s4 ?_ (alf h i _) ct)
   rw [List.all_eq_true] at aI ⊢
   intro q aT
   have := aI.2 q aT
   unfold pd at this ⊢
   split at this
   ·rw [A6 a7]; exact this
   ·cases this
  ·cases uc
def H4 (o : cA) : Bool := match o.g,o.op,o.d with | none,.st ..,none => true | _,_,_ => false
theorem SW {S : ak} {q : cA} {j2 : List cA} {o : cA} (h : pT S (q :: j2) o = true) : pT S j2 o = true := by
 unfold pT at h ⊢
 split at h
 ·simp only [List.all_cons,Bool.and_eq_true] at h; exact h.2
 ·rfl
theorem SU {A B : ak} (h : iV A B) {j2 : List cA} {o : cA} (az : pT A j2 o = true) : pT B j2 o = true := by
 unfold pT at az ⊢
 split at az
 ·rw [List.all_eq_true] at az ⊢
  intro q aT
  have := az q aT
  split at this
  ·rw [← HZ h,← HZ h]; exact this
  ·rfl
 ·rfl
theorem SV {S : ak} {i : Nat} {t t' : TypeId} {cs cs' : List aw} (h : an S.O i = some (.box t cs)) {j2 : List cA} {o : cA} (az : pT S j2 o = true) : pT (S.eT i (.box t' cs')) j2 o = true := by
 unfold pT at az ⊢
 split at az
 ·rw [List.all_eq_true] at az ⊢
  intro q aT
  have := az q aT
  split at this
  ·rw [A6 h,A6 h]; exact this
  ·rfl
 ·rfl
theorem yj {l : List cA} {L L0 : ak → Prop} (fS : PI L0) (hw : ∀ S,L0 S → L S) : ∀ {t : nM} {fA rs : List Nat} {S bT : ak},tl l t fA rs = true → (gx l rs).all H4 = true → ta (gx l fA) = true → m5 (gx l fA) S bT →
  (gx l rs).all (pd bT) = true → (gx l fA).all (pT bT (gx l rs)) = true → ig (gx l rs) bT L0 → oe t l S L
 | .leaf,fA,rs,S,bT,aB,_,_,bf,_,_,az => by
  cases fA with
  | cons => cases rs <;> cases aB
  | nil =>
   cases rs with
   | cons => cases aB
   | nil => cases bf with | nil => exact hw _ az
 | .alt a b,fA,rs,S,bT,aB,af,aj,av,aY,bM,bN => by
  simp only [tl,Bool.and_eq_true] at aB
  exact ⟨yj fS hw aB.1 af aj av aY bM bN,yj fS hw aB.2 af aj av aY bM bN⟩
 | .b4 i t,fA,rs,S,bT,aB,af,aj,av,aY,bM,bN => by
  simp only [tl,Bool.and_eq_true] at aB
  obtain ⟨aB,ot⟩ := aB
  show cS l[i]? fun o => kd o S fun S' => oe t l S' L
  unfold tl.Hf at aB
  split at aB
  ·rename_i kz
   simp only [Bool.and_eq_true,Bool.not_eq_true'] at aB
   obtain ⟨LB,aB⟩ := aB
   rw [FJ LB] at ot
   obtain ⟨b,a1,a7⟩ := JJ kz
   split at aB
   ·rename_i o ax
    rw [ax,iE]
    have JE : gx l fA = gx l (fA.takeWhile fun j => !(j == i)) ++ o :: gx l b := by
     conv => lhs; rw [a1]
     rw [Hq]
     congr 1
     unfold gx
     rw [List.filterMap_cons,ax]
    have yi : gx l (fA.erase i) = gx l (fA.takeWhile fun j => !(j == i)) ++ gx l b := by rw [a7,Hq]
    rw [JE] at av aj bM
    obtain ⟨s,gr,hp,ao,aA,aT⟩ := av.first aB
    refine Qx hp (ao _ ?_)
    refine yj fS hw ot af (by rw [yi]; exact Md aj) (by rw [yi]; exact aA) ?_ ?_ (JN fS af aY aT bN)
    ·rw [List.all_eq_true] at aY ⊢
     intro q ly
     have := aY q ly
     unfold pd at this ⊢
     split at this
     ·rw [← HZ aT]; exact this
     ·cases this
    ·rw [yi,List.all_eq_true]
     rw [List.all_eq_true] at bM
     intro q ly
     refine SU aT (bM q ?_)
     rcases List.mem_append.1 ly with ly | ly
     ·exact List.mem_append.2 (.inl ly)
     ·exact List.mem_append.2 (.inr (List.mem_cons_of_mem _ ly))
   ·cases aB
  ·rename_i kz
   have kz : fA.contains i = false := by simpa using kz
   split at aB
   ·cases aB
   ·rename_i j D1
    simp only [Bool.and_eq_true,decide_eq_true_eq] at aB
    obtain ⟨rfl,aB⟩ := aB
    split at aB
    ·rename_i o ax
     rw [ax,iE]
     split at aB
     ·rename_i k x y aJ ki
      simp only [Bool.and_eq_true] at aB
      obtain ⟨a6,aB⟩ := aB
      have a6 : o.d = none := by
       cases e : o.d with
       | none => rfl
       | some _ => rw [e] at a6; cases a6
      have eq : gx l (j :: D1) = o :: gx l D1 := by unfold gx; rw [List.filterMap_cons,ax]
      rw [eq] at af aY bM bN
      simp only [List.all_cons,Bool.and_eq_true] at af aY
      have il := aY.1
      unfold pd at il
      rw [ki] at il
      obtain ⟨i,a,b,ty,cs,cs',a1,fD,a7,ct,fb⟩ := FN aJ ki a6 il bN
      have eE : ∀ z,z ∈ o.op.cX → bT.bg z = S.bg z := fun z bR => MT av.O.1 fun t aL => av.T fun q aT e => by
       have := (List.all_eq_true.1 aB) q aT
       rw [e] at this
       simp only [Bool.not_eq_true'] at this
       rw [List.contains_eq_mem,decide_eq_false_iff_not] at this
       exact this (mem_reads bR aL)
      have dX : an S.O i = an bT.O i := by rw [av.O.1]
      refine fb S _ (eE x (by rw [ki]; simp [b7.cX])).symm (eE y (by rw [ki]; simp [b7.cX])).symm dX ?_
      have At : fA.erase j = fA := FJ kz
      rw [At,List.erase_cons_head] at ot
      refine yj fS hw ot af.2 aj (av.behind aj (dX.trans a7) fun q aT z dK bR r7 aX ez s7 => ?_) ?_ ?_ ct
      ·have := (List.all_eq_true.1 bM) q aT
       unfold pT at this
       rw [bR] at this
       simp only [List.all_cons,Bool.and_eq_true] at this
       have cJ := this.1
       rw [ki] at cJ
       simp only [fD] at cJ
       intro e
       subst e
       unfold oJ at cJ
       rw [s7] at cJ
       simp only [a7,DH,beq_self_eq_true,Bool.not_true] at cJ
       cases cJ
      ·rw [List.all_eq_true]
       intro q aT
       have := (List.all_eq_true.1 aY.2) q aT
       unfold pd at this ⊢
       split at this
       ·rw [A6 a7]; exact this
       ·cases this
      ·rw [List.all_eq_true]
       intro q aT
       exact SV a7 (SW ((List.all_eq_true.1 bM) q aT))
     ·cases aB
    ·cases aB
 | .step i t,fA,rs,S,bT,aB,af,aj,av,aY,bM,bN => by
  simp only [tl,Bool.and_eq_true] at aB
  obtain ⟨aB,ot⟩ := aB
  show cS l[i]? fun o => kd o S fun S' => oe t l S' L
  unfold tl.Hf at aB
  split at aB
  ·rename_i kz
   simp only [Bool.and_eq_true,Bool.not_eq_true'] at aB
   obtain ⟨LB,aB⟩ := aB
   rw [FJ LB] at ot
   obtain ⟨b,a1,a7⟩ := JJ kz
   split at aB
   ·rename_i o ax
    rw [ax,iE]
    have JE : gx l fA = gx l (fA.takeWhile fun j => !(j == i)) ++ o :: gx l b := by
     conv => lhs; rw [a1]
     rw [Hq]
     congr 1
     unfold gx
     rw [List.filterMap_cons,ax]
    have yi : gx l (fA.erase i) = gx l (fA.takeWhile fun j => !(j == i)) ++ gx l b := by rw [a7,Hq]
    rw [JE] at av aj bM
    obtain ⟨s,gr,hp,ao,aA,aT⟩ := av.first aB
    refine Qx hp (ao _ ?_)
    refine yj fS hw ot af (by rw [yi]; exact Md aj) (by rw [yi]; exact aA) ?_ ?_ (JN fS af aY aT bN)
    ·rw [List.all_eq_true] at aY ⊢
     intro q ly
     have := aY q ly
     unfold pd at this ⊢
     split at this
     ·rw [← HZ aT]; exact this
     ·cases this
    ·rw [yi,List.all_eq_true]
     rw [List.all_eq_true] at bM
     intro q ly
     refine SU aT (bM q ?_)
     rcases List.mem_append.1 ly with ly | ly
     ·exact List.mem_append.2 (.inl ly)
     ·exact List.mem_append.2 (.inr (List.mem_cons_of_mem _ ly))
   ·cases aB
  ·rename_i kz
   have kz : fA.contains i = false := by simpa using kz
   split at aB
   ·cases aB
   ·rename_i j D1
    simp only [Bool.and_eq_true,decide_eq_true_eq] at aB
    obtain ⟨rfl,aB⟩ := aB
    split at aB
    ·rename_i o ax
     rw [ax,iE]
     split at aB
     ·rename_i k x y aJ ki
      simp only [Bool.and_eq_true] at aB
      obtain ⟨a6,aB⟩ := aB
      have a6 : o.d = none := by
       cases e : o.d with
       | none => rfl
       | some _ => rw [e] at a6; cases a6
      have eq : gx l (j :: D1) = o :: gx l D1 := by unfold gx; rw [List.filterMap_cons,ax]
      rw [eq] at af aY bM bN
      simp only [List.all_cons,Bool.and_eq_true] at af aY
      have il := aY.1
      unfold pd at il
      rw [ki] at il
      obtain ⟨i,a,b,ty,cs,cs',a1,fD,a7,ct,fb⟩ := FN aJ ki a6 il bN
      have eE : ∀ z,z ∈ o.op.cX → bT.bg z = S.bg z := fun z bR => MT av.O.1 fun t aL => av.T fun q aT e => by
       have := (List.all_eq_true.1 aB) q aT
       rw [e] at this
       simp only [Bool.not_eq_true'] at this
       rw [List.contains_eq_mem,decide_eq_false_iff_not] at this
       exact this (mem_reads bR aL)
      have dX : an S.O i = an bT.O i := by rw [av.O.1]
      refine fb S _ (eE x (by rw [ki]; simp [b7.cX])).symm (eE y (by rw [ki]; simp [b7.cX])).symm dX ?_
      have At : fA.erase j = fA := FJ kz
      rw [At,List.erase_cons_head] at ot
      refine yj fS hw ot af.2 aj (av.behind aj (dX.trans a7) fun q aT z dK bR r7 aX ez s7 => ?_) ?_ ?_ ct
      ·have := (List.all_eq_true.1 bM) q aT
       unfold pT at this
       rw [bR] at this
       simp only [List.all_cons,Bool.and_eq_true] at this
       have cJ := this.1
       rw [ki] at cJ
       simp only [fD] at cJ
       intro e
       subst e
       unfold oJ at cJ
       rw [s7] at cJ
       simp only [a7,DH,beq_self_eq_true,Bool.not_true] at cJ
       cases cJ
      ·rw [List.all_eq_true]
       intro q aT
       have := (List.all_eq_true.1 aY.2) q aT
       unfold pd at this ⊢
       split at this
       ·rw [A6 a7]; exact this
       ·cases this
      ·rw [List.all_eq_true]
       intro q aT
       exact SV a7 (SW ((List.all_eq_true.1 bM) q aT))
     ·cases aB
    ·cases aB
theorem Qr {op : b7} {S : ak} {k dG : aw → Prop} (h : cx op S k) (g : ∀ s,k s → dG s) : cx op S dG := by
 by_cases hp : rv op = true
 ·obtain ⟨s,af,aj⟩ := JK hp h
  exact af dG (g s aj)
 ·cases op with
  | mY n e dz bytes dE =>
   simp only [cx] at h ⊢
   refine qy h fun s h => ?_
   split at h
   ·exact ⟨h.1,h.2.1,h.2.2.1,g _ h.2.2.2⟩
   ·exact h.elim
  | o5 t bd => exact g _ h
  | app x y e dz bytes =>
   simp only [cx] at h ⊢
   refine qy h fun s h => qy h fun j h => ?_
   split at h
   ·obtain ⟨af,aj,av,aY,bM,bN,cJ⟩ := h
    exact ⟨af,aj,av,aY,bM,bN,g _ cJ⟩
   ·exact h.elim
  | _ => first | exact absurd rfl hp | exact h.elim
theorem gG (n : Nat) {l : List cA} {S : ak} {L : ak → Prop} (h : ∀ bD : ak → Prop,(∀ S',nS (l.drop n) S' L → bD S') → nS (l.take n) S bD) : nS l S L := by
 have app : ∀ {a b : List cA} {S : ak},nS a S (fun S' => nS b S' L) → nS (a ++ b) S L := by
  intro a
  induction a with
  | nil => intro b S h; exact h
  | cons o a dW =>
   intro b S h
   show p1 o S fun s => nS (a ++ b) (S.b3 o.d s) L
   have h : p1 o S fun s => nS a (S.b3 o.d s) fun S' => nS b S' L := h
   have e : (fun s => nS a (S.b3 o.d s) fun S' => nS b S' L) = fun s => nS a (S.b3 o.d s) fun S' => nS b S' L := rfl
   unfold p1 at h ⊢
   split at h
   ·rename_i aJ
    refine ⟨h.1,?_⟩
    exact Qr h.2 fun s ao => dW ao
   ·refine qy h fun s h => ?_
    split at h
    ·exact ⟨fun q => ⟨(h.1 q).1,Qr (h.1 q).2 fun s ao => dW ao⟩,fun q => dW (h.2 q)⟩
    ·exact dW h
    ·exact h.elim
 have := app (a := l.take n) (b := l.drop n) (S := S) (h _ fun _ h => h)
 rwa [List.take_append_drop] at this
theorem alB {A B : ak} (h : iV A B) (eC : List Nat) (m : Option (List Nat × Nat)) : A.e1 (some (eC,m)) = B.e1 (some (eC,m)) := by
 have e : ∀ eC,eL A.T eC = eL B.T eC := fun eC => by
  induction eC with
  | nil => rfl
  | cons k eC dW => unfold eL; rw [h.t k,dW]
 cases m with
 | none => simp only [ak.e1,e,h.o,h.n]
 | some p => simp only [ak.e1,e,h.o,h.n]
def Tz (l : List cA) (t : nM) (fA rs : List Nat) : Bool := tl l t fA rs && (gx l rs).all H4 && ta (gx l fA) && (gx l fA).all (fun o => rv o.op)
theorem nR (cs : List rC) (eC : List Nat) (fA rs : List Nat) {t : nM} {l : List cA} {S : ak} {K : qK → ak → Prop} (ba : Tz l t fA rs = true)
  (h : ∀ bD : ak → Prop,(∀ bT,BJ (gx l fA) (gx l rs) bT = true → (∀ ca : ak → Prop,(∀ S',K .next (S'.e1 (some (eC,none))).sorted → ca S') → ig (gx l rs) bT ca) → bD bT) → nS (gx l fA) (S.gM cs) bD) : g4 (.ord t l) S K := by
 unfold Tz at ba
 simp only [Bool.and_eq_true] at ba
 obtain ⟨⟨⟨af,aj⟩,av⟩,aY⟩ := ba
 have := h (fun bT => BJ (gx l fA) (gx l rs) bT = true ∧ ig (gx l rs) bT fun S' => K .next (S'.e1 (some (eC,none))).sorted) (fun bT c g => ⟨c,g _ fun _ h => h⟩)
 obtain ⟨bT,bf,aB,az⟩ := UJ aY this
 unfold BJ at aB
 rw [Bool.and_eq_true] at aB
 have ex : ∃ gr,ig (gx l rs) bT (fun S' => (S'.e1 (some (eC,none))).sorted = gr) ∧ K .next gr := by
  have gen : ∀ {j2 : List cA} {bT : ak},j2.all H4 = true → j2.all (pd bT) = true → ig j2 bT (fun S' => K .next (S'.e1 (some (eC,none))).sorted) → ∃ gr,ig j2 bT (fun S' => (S'.e1 (some (eC,none))).sorted = gr) ∧ K .next gr := by
   intro j2
   induction j2 with
   | nil => intro bT _ _ h; exact ⟨_,rfl,h⟩
   | cons o j2 dW =>
    intro bT ao aI az
    simp only [List.all_cons,Bool.and_eq_true] at ao aI
    have uc := ao.1
    unfold H4 at uc
    split at uc
    ·rename_i k x y aJ ax a6
     have il := aI.1
     unfold pd at il
     rw [ax] at il
     obtain ⟨i,a,b,ty,z2,ap0,a1,_,a7,ct,fb⟩ := FN aJ ax a6 il az
     obtain ⟨gr,g1,bW⟩ := dW ao.2 (by
      have iL := aI.2
      rw [List.all_eq_true] at iL ⊢
      intro q aT
      have := iL q aT
      unfold pd at this ⊢
      split at this
      ·rw [A6 a7]; exact this
      ·cases this) ct
     exact ⟨gr,fb bT _ rfl rfl rfl g1,bW⟩
    ·cases uc
  exact gen aj aB.1 az
 obtain ⟨gr,aH,K0⟩ := ex
 exact ⟨cs,gr,yj (L0 := fun S' => (S'.e1 (some (eC,none))).sorted = gr) (fun A B afh e => by show (B.e1 (some (eC,none))).sorted = gr; rw [← alB afh eC none]; exact e) (fun S' e => ⟨_,e⟩) af aj av bf aB.1 aB.2 aH,K0⟩
theorem acC (f : Operand → Bool) : ([] : List Operand).all f = true := rfl
theorem acD (f : Operand → Bool) (x : Operand) (l : List Operand) : (x :: l).all f = (f x && l.all f) := rfl
theorem acE (f : aw → Bool) : ([] : List aw).all f = true := rfl
theorem acF (f : aw → Bool) (x : aw) (l : List aw) : (x :: l).all f = (f x && l.all f) := rfl
def pb := And.intro @nS.eq_1 (And.intro @nS.eq_2 (And.intro @p1.eq_1 (And.intro @pV.eq_1 (And.intro @o6.eq_1 (And.intro @o6.eq_2 (And.intro @o6.eq_3 (And.intro @o6.eq_4 (And.intro @o6.eq_5 (And.intro @o6.eq_6 (And.intro @o6.eq_7 (And.intro @o6.eq_8 (And.intro @o6.eq_9 (And.intro @o6.eq_10 (And.intro @o6.eq_11 (And.intro @l3.eq_1 (And.intro @l3.eq_2 (And.intro @l3.eq_3 (And.intro @l3.eq_4 (And.intro @l3.eq_5 (And.intro @l3.eq_6 (And.intro @l3.eq_7 (And.intro @l3.eq_8 (And.intro @l3.eq_9 (And.intro @l3.eq_10 (And.intro @l3.eq_11 (And.intro @acC (And.intro @acD (And.intro @acE (And.intro @acF (And.intro @Bool.and_true @Bool.true_and))))))))))))))))))))))))))))))
theorem iG {p q : Prop} (k : q) (h : q → p := by intro k; simp only [gx,List.filterMap_cons,List.filterMap_nil,List.getElem?_cons_zero,List.getElem?_cons_succ]; exact k) : p := h k
theorem pc {p q : Prop} (k : q) (h : q → p := by intro k; simp only [ak.e1,eL,an,ak.sorted,j1,xi,reduceIte,Nat.reduceEqDiff,Nat.reduceLeDiff,reduceCtorEq]; exact k) : p := h k
end Go.Proofs.YtkmbcjnaaokilaaGreatDoor
namespace Go.Proofs.YtkmbcjnaaokilaaGreatDoor
set_option linter.unusedSimpArgs false
set_option linter.unusedVariables false
open Go.ChangeShapes Go.WideShapes Go.ChangeAt Go.RowKit Go.Deep

inductive uE where
 | int (k : IntKind)
 | bool

def uE.fits : uE → Value → Prop
 | .int k,v => ∃ n,v = .int k n ∧ (Lit.int k n).wf = true
 | .bool,v => ∃ b,v = .bool b
def Fits : List uE → List Value → Prop
 | [],[] => True
 | k :: eC,v :: vs => k.fits v ∧ Fits eC vs
 | _,_ => False

theorem Fits.length : ∀ {eC : List uE} {vs : List Value},Fits eC vs → vs.length = eC.length
 | [],[],_ => rfl
 | _ :: _,_ :: _,h => by simp [Fits.length h.2]
theorem Fits.append : ∀ {eC : List uE} {vs : List Value} {SP : List uE} {l8 : List Value},Fits eC vs → Fits SP l8 → Fits (eC ++ SP) (vs ++ l8)
 | [],[],_,_,_,h => h
 | _ :: _,_ :: _,_,_,h,e6 => ⟨h.1,Fits.append h.2 e6⟩
theorem Fits.one : ∀ {eC : List uE} {vs : List Value},Fits eC vs → ∀ u ∈ vs,u.oneCell' = true
 | [],[],_ => by simp
 | k :: _,v :: _,h => by
  intro u hu
  rcases List.mem_cons.1 hu with rfl | hu
  ·cases k with
   | int k => obtain ⟨n,rfl,_⟩ := h.1; rfl
   | bool => obtain ⟨b,rfl⟩ := h.1; rfl
  ·exact Fits.one h.2 u hu

theorem Fits.int {k : IntKind} {eC : List uE} : ∀ {vs : List Value},Fits (.int k :: eC) vs → ∃ n l8,vs = .int k n :: l8 ∧ k.min ≤ n ∧ n ≤ k.max ∧ Fits eC l8
 | v :: vs,⟨⟨n,h,w⟩,e6⟩ => by
  simp only [Lit.wf,Bool.and_eq_true,decide_eq_true_eq] at w
  exact ⟨n,vs,by rw [h],w.1,w.2,e6⟩
theorem Fits.bool {eC : List uE} : ∀ {vs : List Value},Fits (.bool :: eC) vs → ∃ b l8,vs = .bool b :: l8 ∧ Fits eC l8
 | v :: vs,⟨⟨b,h⟩,e6⟩ => ⟨b,vs,by rw [h],e6⟩
theorem Fits.nil : ∀ {vs : List Value},Fits [] vs → vs = []
 | [],_ => rfl

section
variable {H : Type} {enc : TypeId × Value → H} {P : Program} {W : World} {base : Nat} {spare : Nat → Bool} {held : Bool}

theorem PV {E4 : World} (aE : laidOutB P = true) (aI : Below W.heap.size W E4) {sp : Nat → Bool} : ∀ {cH : List TypeId} {vs : List Value} {kt : List (DataW H)} {ps : List MemPlace},(cH.all fun t => P.readableRec t && decide (t < P.types.size)) = true →
  DataW.TrodAll enc P W 0 (fun _ => true) true cH vs kt ps → (∀ x ∈ ps,x.block < W.heap.size ∧ sp x.block = true) → DataW.TrodAll enc P E4 0 sp true cH vs kt ps
 | [],_,_,_,_,h,_ => by
  obtain ⟨rfl,rfl,rfl⟩ := trodAll_nil h
  exact rfl
 | t :: cH,_,_,_,aL,h,hp => by
  obtain ⟨v,vs,d,kt,p,q,rfl,rfl,rfl,af,aj⟩ := trodAll_cons h
  simp only [List.all_cons,Bool.and_eq_true,decide_eq_true_eq] at aL
  exact ⟨p,q,WideElems.Trod_stays aE aL.1.1 aL.1.2 af (fun x ar => aI.same (hp x (by simp [ar])).1) (fun x ar => (hp x (by simp [ar])).2),
   PV aE aI aL.2 aj (fun x ar => hp x (by simp [ar])),rfl⟩

theorem XA {w : World} : ∀ {cH : List TypeId} {vs : List Value} {kt : List (DataW H)} {ps : List MemPlace},DataW.TrodAll enc P w base spare held cH vs kt ps → kt.length = cH.length
 | [],_,_,_,h => by
  obtain ⟨rfl,rfl,rfl⟩ := trodAll_nil h
  rfl
 | _ :: _,_,_,_,h => by
  obtain ⟨v,vs,d,kt,p,q,rfl,rfl,rfl,af,aj⟩ := trodAll_cons h
  simp [XA aj]

end

theorem own : ownKnob Tryz.prog.godebug = Option.none := by kernel_rfl
theorem laidOut : laidOutB Tryz.prog = true := by kernel_rfl
end Go.Proofs.YtkmbcjnaaokilaaGreatDoor
namespace Go.Proofs.YtkmbcjnaaokilaaGreatDoor
set_option linter.unusedSimpArgs false
set_option linter.unusedVariables false
open Go.ChangeShapes Go.WideShapes Go.ChangeAt Go.RowKit Go.Deep Go.Maps

def EN {α : Type} (enc : α → List aw) (Q : α → Prop) : xW α := fun H cs x => dg H eD (enc x) cs ∧ (enc x).all aw.one = true ∧ Q x

theorem QN {α : Type} {enc : α → List aw} {Q : α → Prop} {k : Nat} {H : bl} : ∀ (l : List α) (xs : List Value),j4 k (EN enc Q) H xs l → eN H k (l.map enc) xs ∧ ∀ x ∈ l,Q x
 | [],xs,h => by
  obtain ⟨af,_⟩ := h
  obtain rfl : xs = [] := List.eq_nil_of_length_eq_zero (by simpa using af)
  exact ⟨.nil,fun x ar => by cases ar⟩
 | x :: l,xs,h => by
  obtain ⟨af,aj⟩ := h
  simp only [List.length_cons,Nat.add_mul,Nat.one_mul] at af
  have ba := aj 0 x rfl
  simp only [Nat.zero_mul,List.drop_zero] at ba
  have aL : j4 k (EN enc Q) H (xs.drop k) l := ⟨by rw [List.length_drop]; omega,fun i y aV => by
   have := aj (i + 1) y (by simpa using aV)
   rw [List.drop_drop,show k + i * k = (i + 1) * k from by rw [Nat.add_mul]; omega]
   exact this⟩
  obtain ⟨dI,dS⟩ := QN l _ aL
  refine ⟨?_,fun y aV => ?_⟩
  ·have := eN.cons ba.1 (by rw [List.length_take]; omega) ba.2.1 dI
   rw [List.take_append_drop] at this
   exact this
  ·rcases List.mem_cons.1 aV with rfl | aV
   ·exact ba.2.2
   ·exact dS y aV

theorem alz {α : Type} {enc : α → List aw} {Q : α → Prop} {k : Nat} {H : bl} {a : Option Addr} {n c : Nat} {l : List α} (h : nO k (EN enc Q) H a n c l) (aB : c ≤ maxLen) : cl H eD (.au k 2 (l.map enc)) (.slice a n c) ∧ ∀ x ∈ l,Q x := by
 obtain ⟨xs,af,aj,av,aY,_,bN⟩ := h
 obtain ⟨dI,dS⟩ := QN l xs aY
 exact ⟨.au dI (by rw [List.length_map]; exact af) aj aB ⟨(fun e => absurd e (by decide)),(fun e => absurd e (by decide))⟩ av bN,dS⟩
theorem akZ {f : FuncId} {args : List aw} {vs : List Value} {W : World} {b : Bool} (h : cq f args (.v (.bool b))) (bj : dg (qS W) eD args vs) (Cm : wa (qS W) := by exact fun p hp => absurd hp (by simp [Ak])) : wm Tryz.prog f vs.toArray W (.bool b) := by
 refine Calls.mono (h W (qS W) vs (acG W Cm) bj) ?_
 rintro e w' ⟨v,H',rfl,aJ,aA⟩
 cases aA
 exact akY aJ.below
inductive kM where
 | int (k : IntKind)
 | bool
 | au (k : Nat) (e : kM)
 | nil
 | cons (h t : kM)
inductive oN where
 | i (n : Int)
 | b (b : Bool)
 | l (xs : List oN)
 | nil
 | cons (h t : oN)
def m1 : kM → oN → List aw
 | .int k,.i n => [.v (.int k n)]
 | .bool,.b b => [.v (.bool b)]
 | .au k e,.l xs => [.au k 2 (xs.map fun x => m1 e x)]
 | .cons h t,.cons a b => m1 h a ++ m1 t b
 | _,_ => []
def k8 : kM → oN → Prop
 | .int k,.i n => k.min ≤ n ∧ n ≤ k.max
 | .bool,.b _ => True
 | .au _ e,.l xs => ∀ x ∈ xs,k8 e x
 | .nil,.nil => True
 | .cons h t,.cons a b => k8 h a ∧ k8 t b
 | _,_ => False
def AO (P : Program) (g : TypeId → Option kM) : List Field → Nat → Option kM
 | [],_ => some .nil
 | f :: eI,acc => if f.offset = acc then (g f.type).bind fun p => (AO P g eI (acc + P.cellsOf f.type)).map (.cons p ·) else none
def B9 (P : Program) : List Field → Nat → Nat
 | [],acc => acc
 | f :: eI,acc => B9 P eI (acc + P.cellsOf f.type)
def Nc (p : kM) : Nat → kM
 | 0 => .nil
 | n + 1 => .cons p (Nc p n)
def ru (P : Program) : Nat → TypeId → Option kM
 | 0 => fun _ => none
 | m + 1 => fun t => match P.underlying t with
  | some (.int k) => some (.int k)
  | some .bool => some .bool
  | some (.slice e) => (ru P m e).map (.au (P.cellsOf e))
  | some (.array n e) => if n * P.cellsOf e = P.cellsOf t then (ru P m e).map (Nc · n) else none
  | some (.struct eI) => if B9 P eI.toList 0 = P.cellsOf t then AO P (ru P m) eI.toList 0 else none
  | _ => none
section
variable {H : Type} {enc : TypeId × Value → H} {P : Program} {W : World} {base : Nat} {spare : Nat → Bool} {held : Bool}
def uG (W : World) (pl : kM) (vs : List Value) : Prop := ∃ d,k8 pl d ∧ dg (qS W) eD (m1 pl d) vs ∧ (m1 pl d).all aw.one = true
theorem Rn {p q : kM} {us vs : List Value} (af : uG W p us) (aj : uG W q vs) : uG W (.cons p q) (us ++ vs) := by
 obtain ⟨a,bS,bH,bP⟩ := af
 obtain ⟨b,dh,dv,gL⟩ := aj
 exact ⟨.cons a b,⟨bS,dh⟩,bH.append dv,by simp only [m1,List.all_append,bP,gL,Bool.and_self]⟩
theorem Ro : uG W .nil [] := ⟨.nil,trivial,.nil,rfl⟩
theorem Uj {m : Nat} {g : TypeId → Option kM} {cs : List Value} (aJ : ∀ t p vs x,g t = some p → DataW.trod enc P W base spare held m t vs = some x → uG W p vs) :
  ∀ (eI : List Field) (acc : Nat) (p : kM) (xs : List (DataW H × List MemPlace)),AO P g eI acc = some p → xs.length = eI.length →
   (∀ (i : Nat) (f : Field),eI[i]? = some f → DataW.trod enc P W base spare held m f.type ((cs.drop f.offset).take (P.cellsOf f.type)) = xs[i]?) → cs.length = B9 P eI acc → uG W p (cs.drop acc)
 | [],acc,p,xs,h,_,_,aE => by
  simp only [AO,Option.some.injEq] at h
  subst h
  rw [List.drop_of_length_le (by simp [B9] at aE; omega)]
  exact Ro
 | f :: eI,acc,p,xs,h,ar,aq,aE => by
  unfold AO at h
  split at h
  ·rename_i ax
   cases az : g f.type with
   | none => rw [az] at h; cases h
   | some eR =>
    rw [az] at h
    simp only [Option.bind_some] at h
    cases aA : AO P g eI (acc + P.cellsOf f.type) with
    | none => rw [aA] at h; cases h
    | some fi =>
     rw [aA] at h
     simp only [Option.map_some,Option.some.injEq] at h
     subst h
     match xs,ar with
     | x :: xs,ar =>
      have ba := aq 0 f rfl
      rw [ax] at ba
      have f1 := aJ _ _ _ _ az ba
      have f2 := Uj aJ eI (acc + P.cellsOf f.type) fi xs aA (by simpa using ar) (fun i Ad aZ => by have := aq (i + 1) Ad (by simpa using aZ); simpa using this) (by simpa [B9] using aE)
      have e : cs.drop acc = (cs.drop acc).take (P.cellsOf f.type) ++ cs.drop (acc + P.cellsOf f.type) := by rw [← List.drop_drop,List.take_append_drop]
      rw [e]
      exact Rn f1 f2
  ·cases h
theorem Uz {p : kM} {k : Nat} : ∀ (n : Nat) (cs : List Value),cs.length = n * k → (∀ i,i < n → uG W p ((cs.drop (i * k)).take k)) → uG W (Nc p n) cs
 | 0,cs,aE,_ => by
  obtain rfl : cs = [] := List.eq_nil_of_length_eq_zero (by simpa using aE)
  exact Ro
 | n + 1,cs,aE,h => by
  have f1 := h 0 (by omega)
  rw [Nat.zero_mul,List.drop_zero] at f1
  have f2 := Uz (k := k) n (cs.drop k) (by rw [List.length_drop,aE,Nat.add_mul]; omega) (fun i aq => by
   have := h (i + 1) (by omega)
   rw [List.drop_drop,show k + i * k = (i + 1) * k from by rw [Nat.add_mul]; omega]
   exact this)
  have e : cs = cs.take k ++ cs.drop k := by rw [List.take_append_drop]
  rw [e]
  exact Rn f1 f2
theorem DS : ∀ (lY : Nat) (t : TypeId) (p : kM) (m : Nat) (vs : List Value) (x : DataW H × List MemPlace),ru P lY t = some p → DataW.trod enc P W base spare held m t vs = some x → uG W p vs
 | 0,_,_,_,_,_,h,_ => by simp [ru] at h
 | lY + 1,t,p,m,vs,x,h,ar => by
  unfold ru at h
  split at h
  ·rename_i k hu
   cases h
   obtain ⟨n,rfl,_,hw⟩ := DataW.trod_int hu ar
   simp only [Lit.wf,Bool.and_eq_true,decide_eq_true_eq] at hw
   exact ⟨.i n,hw,.cons (.v rfl) .nil,rfl⟩
  ·rename_i hu
   cases h
   obtain ⟨b,rfl,_⟩ := DataW.trod_bool hu ar
   exact ⟨.b b,trivial,.cons (.v rfl) .nil,rfl⟩
  ·rename_i e hu
   cases aA : ru P lY e with
   | none => rw [aA] at h; cases h
   | some q =>
    rw [aA] at h
    simp only [Option.map_some,Option.some.injEq] at h
    subst h
    obtain ⟨s,l,rfl,ao,aB⟩ := alx (R := EN (m1 q) (k8 q)) hu rfl (fun n cs x ar aE => by
     obtain ⟨d,d1,d2,d3⟩ := DS lY e q n cs x aA ar
     exact ⟨d2.one d3,d,d2,d3,d1⟩) ar
    obtain ⟨dI,dS⟩ := alz ao aB
    exact ⟨.l l,dS,.cons dI .nil,rfl⟩
  ·rename_i n e hu
   split at h
   ·rename_i aB
    cases aA : ru P lY e with
    | none => rw [aA] at h; cases h
    | some q =>
     rw [aA] at h
     simp only [Option.map_some,Option.some.injEq] at h
     subst h
     obtain ⟨xs,tf,rfl,_,aE,mB,aZ⟩ := DataW.trod_array hu ar
     exact Uz (k := P.cellsOf e) n vs (by rw [aE,aB]) (fun i aq => by
      have := aZ i aq
      rw [List.getElem?_eq_getElem (by omega)] at this
      exact DS lY e q tf _ _ aA this)
   ·cases h
  ·rename_i eI hu
   split at h
   ·rename_i aB
    obtain ⟨xs,n,rfl,_,aE,mB,aZ⟩ := DataW.trod_struct hu ar
    have := Uj (cs := vs) (fun t p vs x h e6 => DS lY t p n vs x h e6) eI.toList 0 p xs h (by simpa using mB) (fun i f aq => aZ i f (by simpa using aq)) (by rw [aE,aB])
    simpa using this
   ·cases h
  ·cases h
theorem PT {t : TypeId} {v : Value} {d : DataW H} {ps : List MemPlace} {m : Nat} {p : kM} (af : v.oneCell' = true) (az : ru P m t = some p)
  (a6 : DataW.Trod enc P W base spare held t v d ps) : ∃ q,k8 p q ∧ dg (qS W) eD (m1 p q) [v] := by
 obtain ⟨fuel,aZ⟩ := a6
 obtain ⟨q,bJ,cf,_⟩ := DS m t p fuel _ _ az aZ
 have e : v.cells = #[v] := by cases v <;> simp_all [Value.cells,Value.oneCell']
 rw [e] at cf
 exact ⟨q,bJ,cf⟩
theorem TF {t : TypeId} {FA : TypeDesc} {v : Value} {r : Reach} {fP : Nat} (hu : P.underlying t = some FA) (ao : FA = .bool ∨ (∃ k,FA = .int k) ∨ ∃ e,FA = .slice e) (qq : Value.okWide P W r fP t v) : v.oneCell' = true := by
 rcases ao with rfl | ⟨k,rfl⟩ | ⟨e,rfl⟩
 ·obtain ⟨b,rfl⟩ := okWide_bool hu qq; rfl
 ·obtain ⟨n,rfl⟩ := okWide_int hu qq; rfl
 ·obtain ⟨a,n,c,rfl⟩ := okWide_slice hu qq; rfl
end
end Go.Proofs.YtkmbcjnaaokilaaGreatDoor
