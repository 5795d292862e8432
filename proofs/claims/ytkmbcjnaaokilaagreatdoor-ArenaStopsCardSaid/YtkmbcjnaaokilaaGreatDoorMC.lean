/-
  The shadow machine: whole functions.
-/
import Derived.Test.YtkmbcjnaaokilaaGreatDoorMB
import Derived.Deep.LoopGhost
import Derived.Test.YtkmbcjnaaokilaaGreatDoorMA
import Derived.Deep.Slices
import Derived.ProofKit
import Derived.Lib.SmallJoins
import Derived.OwnWalk
import Derived.Lib.LazyBuf
import Derived.WideKeyArgs
import Derived.Test.YtkmbcjnaaokilaaGreatDoorRows
namespace Go.Proofs.YtkmbcjnaaokilaaGreatDoor
set_option linter.unusedSimpArgs false
set_option linter.unusedVariables false
open Go.RowKit Go.Maps

inductive kp (N : Nat) : Code → bU → Prop
 | skip : kp N .skip .skip
 | ops {id ops cf} : j1 N ops ops.toList cf → kp N (.region id ops false) (.ops cf)
 | ord {id ops t cf} : j1 N ops ops.toList cf → Region.noSelect ops = true → oU ops cf [] t = true → kp N (.region id ops true) (.ord t cf)
 | np {id ops cf} : j1 N ops ops.toList cf → Region.noSelect ops = true → zA ops = true → kp N (.region id ops true) (.np (ops.toList.map wl) cf)
 | hc {id ops n eS cf} : j1 N ops ops.toList cf → yj ops n eS = true → z7 ops n N = true → DX ops n cf = true → DR eS cf = true → kp N (.region id ops true) (.hc n cf)
 | seq {a b x y} : kp N a x → kp N b y → kp N (.seq a b) (.seq x y)
 | cond {c a b x y} : kp N a x → kp N b y → kp N (.cond c a b) (.cond c x y)
 | block {id a x} : kp N a x → kp N (.block id a) (.block id x)
 | loop {a x} : kp N a x → kp N (.loop a) (.loop x)
 | exit {id} : kp N (.exit id) (.exit id)
 | ret : kp N .ret .ret

def GK (N : Nat) (w0 : World) (H0 : bg) (K : pI → ak → Prop) : Exit → Act → World → Prop
 | .normal,a,w => End N w0 H0 (K .next) a w
 | .exit id,a,w => End N w0 H0 (K (.exit id)) a w
 | .ret,a,w => End N w0 H0 (K .ret) a w
 | _,_,_ => False

theorem j1.len {N : Nat} {ops : Array Oper} : ∀ {l : List Oper} {cf : List cl},j1 N ops l cf → l.length = cf.length
 | _,_,.nil => rfl
 | _,_,.cons _ t => by simp [t.len]
theorem j1.take {N : Nat} {ops : Array Oper} : ∀ {l : List Oper} {cf : List cl} (n : Nat),j1 N ops l cf → j1 N ops (l.take n) (cf.take n)
 | _,_,0,_ => by simp; exact .nil
 | _,_,n + 1,.nil => by simp; exact .nil
 | _,_,n + 1,.cons h t => by simp; exact .cons h (t.take n)
theorem j1.drop {N : Nat} {ops : Array Oper} : ∀ {l : List Oper} {cf : List cl} (n : Nat),j1 N ops l cf → j1 N ops (l.drop n) (cf.drop n)
 | _,_,0,h => by simpa using h
 | _,_,n + 1,.nil => by simp; exact .nil
 | _,_,n + 1,.cons h t => by simp; exact t.drop n

section
variable {N : Nat} {w0 w w' : World} {H0 H H' : bg} {S : ak} {E : Env} {a : Act} {K : pI → ak → Prop}

theorem bu.nt : ∀ (l : List av) {S : ak} {H : bg},bu N w0 H0 S E a w H → ∃ H',g7 H H' ∧ bu N w0 H0 (S.nt l) E a w H'
 | [],S,H,h => ⟨H,g7.refl _,h⟩
 | x :: l,S,H,h => by
  obtain ⟨H1,l1,af⟩ := h.jl x
  obtain ⟨kq,l2,aj⟩ := bu.nt l af
  exact ⟨kq,l1.trans l2,aj⟩

theorem EU {α : Type} {l : List (Nat × α)} : ∀ {eo : List Nat} {t : Nat} {x : α},al (en l eo) t = some x → al l t = some x ∧ eo.contains t = true
 | k :: eo,t,x,h => by
  unfold en at h
  split at h
  ·rename_i y a1
   simp only [al] at h
   split at h
   ·rename_i e; cases h; subst e; exact ⟨a1,by simp⟩
   ·obtain ⟨a,b⟩ := EU h; exact ⟨a,by simp only [List.contains_cons,Bool.or_eq_true]; exact .inr b⟩
  ·obtain ⟨a,b⟩ := EU h; exact ⟨a,by simp only [List.contains_cons,Bool.or_eq_true]; exact .inr b⟩
theorem ET {α : Type} {eo : List Nat} {l : List (Nat × α)} {t : Nat} {x : α} (h : al (en l eo) t = some x) : al l t = some x := (EU h).1
theorem PW {α : Type} {eo : List Nat} {l : List (Nat × α)} {t : Nat} {x : α} (h : al (en l eo) t = some x) : eo.contains t = true := (EU h).2
theorem Rj {ids : List Nat} : ∀ {l : List (Nat × av)} {t : Nat} {x : av},xL ids l = true → al l t = some x → mU ids x = true
 | (k,y) :: l,t,x,h,aH => by
  simp only [xL,Bool.and_eq_true] at h
  simp only [al] at aH
  split at aH
  ·cases aH; exact h.1
  ·exact Rj h.2 aH
theorem xK {ids : List Nat} : ∀ {l : List (Nat × bl)} {i : Nat} {t : TypeId} {cs : List av},hW ids l = true → al l i = some (.box t cs) → sj ids cs = true
 | (k,.box _ cs') :: l,i,t,cs,h,aH => by
  simp only [hW,Bool.and_eq_true] at h
  simp only [al] at aH
  split at aH
  ·cases aH; exact h.1
  ·exact xK h.2 aH
 | (k,.row ..) :: l,i,t,cs,h,aH => by
  simp only [hW] at h
  simp only [al] at aH
  split at aH
  ·cases aH
  ·exact xK h aH
 | (k,.map ..) :: l,i,t,cs,h,aH => by
  simp only [hW] at h
  simp only [al] at aH
  split at aH
  ·cases aH
  ·exact xK h aH
 | (k,.iter ..) :: l,i,t,cs,h,aH => by
  simp only [hW] at h
  simp only [al] at aH
  split at aH
  ·cases aH
  ·exact xK h aH
 | (k,.fS _) :: l,i,t,cs,h,aH => by
  simp only [hW] at h
  simp only [al] at aH
  split at aH
  ·cases aH
  ·exact xK h aH
 | (k,.hN _ _) :: l,i,t,cs,h,aH => by
  simp only [hW,Bool.and_eq_true] at h
  simp only [al] at aH
  split at aH
  ·cases aH
  ·exact xK h.2 aH
 | (k,.cq _) :: l,i,t,cs,h,aH => by simp [hW] at h
theorem FA {ids : List Nat} : ∀ {l : List (Nat × bl)} {i : Nat} {e : TypeId} {cs : List av},hW ids l = true → al l i = some (.hN e cs) → sj ids cs = true
 | (k,o) :: l,i,e,cs,h,aH => by
  simp only [al] at aH
  cases o with
  | hN e1 cs' =>
   simp only [hW,Bool.and_eq_true] at h
   split at aH
   ·cases aH; exact h.1
   ·exact FA h.2 aH
  | cq J => simp [hW] at h
  | box t' cs' =>
   simp only [hW,Bool.and_eq_true] at h
   split at aH
   ·cases aH
   ·exact FA h.2 aH
  | _ =>
   simp only [hW] at h
   split at aH
   ·cases aH
   ·exact FA h aH
theorem Fz {ids : List Nat} : ∀ {l : List (Nat × bl)} {i : Nat} {J : bg → Env → Prop},hW ids l = true → al l i = some (.cq J) → False
 | (k,o) :: l,i,J,h,aH => by
  simp only [al] at aH
  cases o with
  | cq alf => simp [hW] at h
  | hN e1 cs' =>
   simp only [hW,Bool.and_eq_true] at h
   split at aH
   ·cases aH
   ·exact Fz h.2 aH
  | box t' cs' =>
   simp only [hW,Bool.and_eq_true] at h
   split at aH
   ·cases aH
   ·exact Fz h.2 aH
  | _ =>
   simp only [hW] at h
   split at aH
   ·cases aH
   ·exact Fz h aH
theorem PQ : ∀ {ids : List Nat} {i : Nat},ids.contains i = true → ids[nD ids i]? = some i
 | k :: l,i,h => by
  unfold nD
  split
  ·rename_i e; subst e; rfl
  ·rename_i e
   simp only [List.contains_cons,Bool.or_eq_true,beq_iff_eq] at h
   rw [List.getElem?_cons_succ]
   exact PQ (h.resolve_left (fun h => e h.symm))
def Env.sk (E : Env) (ids : List Nat) : Env := fun j => (ids[j]?).bind E
theorem Env.Cb {E : Env} {ids : List Nat} {i : Nat} (h : ids.contains i = true) : E.sk ids (nD ids i) = E i := by
 unfold Env.sk; rw [PQ h]; rfl
theorem Rk {H : bg} {E : Env} {ids : List Nat} {x : av} {u : Value} (h : ca H E x u) (az : nd ids x = true) : ca H (E.sk ids) (jL ids x) u := by
 cases h with
 | @own E i u k b h af => exact .own (show E.sk ids (nD ids i) = some (u,k,b) from (Env.Cb az).trans h) af
 | @ptr E i idx off u k b h => exact .ptr (show E.sk ids (nD ids i) = some (u,k,some b) from (Env.Cb az).trans h)
 | agg => cases az
 | bR => cases az
 | v h => exact .v h
 | au a b c d e f g => exact .au a b c d e f g
 | mR h => exact .mR h
 | mp a b c d e => exact .mp a b c d e
 | fn a b => exact .fn a b
 | dr a => exact .dr a
 | dc a b c => exact .dc a b c
 | any a => exact .any a
theorem ahj (ids : List Nat) (x : av) : (jL ids x).one = x.one := by cases x <;> rfl
theorem Ky (ids : List Nat) (cs : List av) (h : cs.all av.one = true) : (cs.map (jL ids)).all av.one = true := by
 rw [List.all_map]
 rw [List.all_eq_true] at h ⊢
 intro x ar
 simp only [Function.comp,ahj]
 exact h x ar
theorem FB {H : bg} {E : Env} {ids : List Nat} : ∀ {cs : List av} {vs : List Value},db H E cs vs → sj ids cs = true → db H (E.sk ids) (cs.map (jL ids)) vs
 | _,_,.nil,_ => .nil
 | _,_,.cons h t,az => by simp only [sj,Bool.and_eq_true] at az; exact .cons (Rk h az.1) (FB t az.2)
theorem ahl {H : bg} {E : Env} {ids : List Nat} {x : av} {u : Value} (h : ca H E x u) (az : mU ids x = true) : ca H (E.sk ids) (mV ids x) u := by
 cases x with
 | agg cs => cases h with | agg h af => exact .agg (FB h az) (Ky ids cs af)
 | bR => cases az
 | _ => exact Rk h az
theorem Rl {ids : List Nat} : ∀ {l : List (Nat × av)} {t : Nat} {y : av},al (vU ids l) t = some y → ∃ x,al l t = some x ∧ y = mV ids x
 | (k,x) :: l,t,y,h => by
  simp only [vU,al] at h ⊢
  split at h
  ·rename_i e; rw [if_pos e]; cases h; exact ⟨x,rfl,rfl⟩
  ·rename_i e; rw [if_neg e]; exact Rl h
theorem Kz {ids : List Nat} : ∀ {l : List (Nat × bl)} {j : Nat} {o' : bl},al (vT ids l) j = some o' → ∃ i o,al l i = some o ∧ nD ids i = j ∧ o' = sl ids o
 | (k,x) :: l,j,o',h => by
  simp only [vT,al] at h
  split at h
  ·rename_i e; cases h; exact ⟨k,x,by simp [al],e,rfl⟩
  ·rename_i e
   obtain ⟨i,o,af,aj,aw⟩ := Kz h
   refine ⟨i,o,?_,aj,aw⟩
   simp only [al]
   rw [if_neg (fun e1 => e (by rw [e1]; exact aj))]
   exact af
theorem ahk (ids : List Nat) (o : bl) : (sl ids o).live = o.live := by cases o <;> rfl
theorem bu.eH (h : bu N w0 H0 S E a w H) (hf : Option (List Nat × Option (List Nat × Nat))) : ∃ E',bu N w0 H0 (S.eH hf) E' a w H := by
 have small : ∀ eo,bu N w0 H0 ⟨en S.T eo,S.O,S.n⟩ E a w H := fun eo => h.less (fun t x ar => ET ar) (fun _ _ h => h) rfl
 match hf with
 | none => exact ⟨E,h⟩
 | some (eo,none) => exact ⟨E,small eo⟩
 | some (eo,some (ids,n)) =>
  simp only [ak.eH]
  split
  ·rename_i az
   simp only [Bool.and_eq_true,decide_eq_true_eq] at az
   obtain ⟨cw,c2,eE⟩ := az
   have Bx : ∀ j,mQ ⟨vU ids (en S.T eo),vT ids (en S.O ids),n⟩ j → ∃ i,nD ids i = j ∧ ids.contains i = true ∧ mQ S i := by
    rintro j ⟨o',fo,aF⟩
    obtain ⟨i,o,af,aj,rfl⟩ := Kz fo
    rw [ahk] at aF
    exact ⟨i,aj,PW af,o,ET af,aF⟩
   refine ⟨E.sk ids,h.grow,fun t y a1 => ?_,fun j o' fo => ?_,?_,fun i aq => ?_,h.jg,h.kv⟩
   ·obtain ⟨x,ar,rfl⟩ := Rl a1
    exact ahl (h.kK t x (ET ar)) (Rj cw ar)
   ·obtain ⟨i,o,af,rfl,rfl⟩ := Kz fo
    have aq := PW af
    have bK : E.sk ids (nD ids i) = E i := Env.Cb aq
    have lT := h.ob i o (ET af)
    cases o with
    | box t cs => obtain ⟨b,vs,tN,aj,aw,aV,bF,bH⟩ := lT; exact ⟨b,vs,bK.trans tN,aj,aw,aV,FB bF (xK c2 af),Ky ids cs bH⟩
    | row e k es => obtain ⟨u,ob,xs,af,h⟩ := lT; exact ⟨u,ob,xs,bK.trans af,h⟩
    | map bc N f => obtain ⟨b,o,F,af,h⟩ := lT; exact ⟨b,o,F,bK.trans af,h⟩
    | iter f left hH cur => obtain ⟨r,ob,af,h⟩ := lT; exact ⟨r,ob,bK.trans af,h⟩
    | fS x => obtain ⟨u,k,b,af,h⟩ := lT; exact ⟨u,k,b,bK.trans af,h⟩
    | hN e cs =>
     obtain ⟨b,cap,cur,tN,aj,aw,aV,bF,bH,cA⟩ := lT
     refine ⟨b,cap,cur,bK.trans (by rw [List.length_map]; exact tN),aj,aw,aV,by rw [List.length_map]; exact bF,?_,Ky ids cs cA⟩
     rw [List.length_map]
     exact FB bH (FA c2 af)
    | cq J => exact (Fz c2 af).elim
   ·intro i j iw aq aM b u k kL dA a2 a8
    obtain ⟨i0,rfl,ci,li⟩ := Bx i aq
    obtain ⟨nE,rfl,Ad,yZ⟩ := Bx j aM
    rw [Env.Cb ci] at a2
    rw [Env.Cb Ad] at a8
    exact h.ap i0 nE (fun e => iw (by rw [e])) li yZ b u k kL dA a2 a8
   ·show E.sk ids i = none
    unfold Env.sk
    rw [List.getElem?_eq_none (by simp only at aq; omega)]
    rfl
  ·exact ⟨E,small eo⟩

theorem bu.xH (af : bu N w0 H0 S E a w H) {t : Nat} {x : av} (ar : ca H E x (a.eval (.tmp t))) : bu N w0 H0 (S.put t x) E a w H :=
 ⟨af.grow,fun t' y a1 => by
  simp only [ak.put,lj] at a1
  split at a1
  ·rename_i e; cases a1; subst e; exact ar
  ·exact af.kK t' y a1,af.ob,af.ap,af.cS,af.jg,af.kv⟩
theorem DO {K : ak → Prop} : ∀ (rs : List qE) {S : ak} {E : Env},oA rs S K → bu N w0 H0 S E a w H → ∃ b0 hj,K b0 ∧ bu N w0 H0 b0 hj a w H
 | [],S,E,h,aN => ⟨S,E,h,aN⟩
 | .vV i :: rs,S,E,h,aN => by
  obtain ⟨⟨t,cs,aH⟩,h⟩ := h
  obtain ⟨b,vs,a2,_⟩ := aN.ob i _ aH
  have hle := Env.uE (E := E) (i := S.n) (undef,0,none) (aN.cS _ (Nat.le_refl _))
  have := aN.new (o := .cq (od i b)) (p := (undef,0,none)) ⟨⟨_,Env.iB _ _ _⟩,hle _ _ a2,fun H1 kq hj qA g1 bQ gJ => bQ _ _ gJ⟩ (fun b aJ => by cases aJ)
  exact DO rs (h b) this
 | .raw t g :: rs,S,E,h,aN => by
  obtain ⟨i,b,off,aH,aO,h⟩ := h
  have aq := (aN.ob g _ aH).2.1
  have bj := aN.kK t _ aO
  refine DO rs h (aN.xH ?_)
  generalize a.eval (.tmp t) = q at bj
  cases bj
  have := ca.ptr (H := H) (E := E) (i := i) (idx := 0) (off := off) aq
  simpa using this
 | .wa t g :: rs,S,E,h,aN => by
  obtain ⟨i,b,off,aH,aO,h⟩ := h
  have aq := (aN.ob g _ aH).2.1
  have bj := aN.kK t _ aO
  refine DO rs h (aN.xH ?_)
  generalize a.eval (.tmp t) = q at bj
  cases bj with
  | ptr bK =>
   have iI : E i = _ := aq
   rw [iI] at bK
   cases bK
   simp only [Nat.zero_mul,Nat.zero_add]
   exact .v rfl
theorem NP {ops : Array Oper} {Q : Exit → Act → World → Prop} : ∀ (sp : List (Nat × List qE)) {l : List Oper} {cf : List cl} {S : ak} {E : Env} {a : Act} {w : World} {H : bg} {K : ak → Prop},j1 N ops l cf → sP sp cf S K → bu N w0 H0 S E a w H → (∀ a w,End N w0 H0 K a w → Q .normal a w) → wpList Tryz.prog ops Q l a w
 | [],_,_,_,_,_,_,_,_,aH,h,aN,jB => NM aH h aN jB
 | (n,rs) :: sp,l,cf,S,E,a,w,H,K,aH,h,aN,jB => by
  rw [← List.take_append_drop n l]
  refine Ar (aH.take n) h aN ?_
  rintro bP cE ⟨b0,hj,H1,af,sS⟩
  obtain ⟨gh,qA,aj,hr⟩ := DO rs af sS
  exact NP sp (aH.drop n) aj hr jB
theorem wN (i : Nat) (o : bl) : ∀ (l : List (Nat × bl)) (j : Nat),al (vE i o l) j = if i = j then some o else al l j
 | [],j => by simp [vE,al]
 | (k,p) :: l,j => by
  unfold vE
  split
  ·simp [al]
  ·rename_i aB
   simp only [al,wN i o l j]
   by_cases a2 : k = j
   ·have : ¬ i = j := by omega
    simp [a2,this]
   ·simp [a2]
theorem me : ∀ (l : List (Nat × bl)) (j : Nat),al (je l) j = al l j
 | [],_ => rfl
 | (i,o) :: l,j => by simp only [je,wN,me l j,al]
theorem bu.sorted (h : bu N w0 H0 S E a w H) : bu N w0 H0 S.sorted E a w H := h.less (fun _ _ h => h) (fun i o ay => by simpa [ak.sorted,me] using ay) rfl

theorem Wz {c a d v w} : GK N w0 H0 K (.panic c) (Act.put a (some d) v) w → GK N w0 H0 K (.panic c) a w := fun h => h.elim

theorem Hz (hm : Tryz.prog.follows .mixedOrders = true) : ∀ {c : Code} {g5 : bU} {S : ak} {E : Env} {a : Act} {w : World} {H : bg} {K : pI → ak → Prop},kp N c g5 → hd g5 S K → bu N w0 H0 S E a w H → c.wp Tryz.prog (GK N w0 H0 K) a w := by
 intro c g5 S E a w H K az
 induction az generalizing S E a w H K with
 | skip => intro h aN; exact wp_skip ⟨_,_,_,h,aN⟩
 | exit => intro h aN; exact wp_exit ⟨_,_,_,h,aN⟩
 | ret => intro h aN; exact wp_ret ⟨_,_,_,h,aN⟩
 | ops aH => intro h aN; obtain ⟨sp,cs,h⟩ := h; obtain ⟨hj,aN⟩ := aN.gw cs; exact wp_region_list (NP sp aH h aN fun _ _ h => h)
 | @ord id ops t cf aH af aj =>
  intro h aN
  obtain ⟨cs,b0,h,aB⟩ := h
  obtain ⟨hj,aN⟩ := aN.gw cs
  refine wp_region_any hm ?_
  have hr : bu N w0 H0 (S.gw cs) hj a w.drew H := aN.grown (Grow.refl aN.sub).drew
  refine aaF (K := fun S' => ∃ hf,(S'.eH hf).sorted = b0) af (fun c a d v w h => h.elim) aH ops.size t [] _ (S.gw cs) hj a _ H ?_ (by simp) (fun i aq => by simp [aq]) (fun i aq => by simp at aq) aj h hr ?_
  ·unfold lY
   rw [Array.toList_replicate,List.countP_replicate]; simp
  ·rintro dD w' ⟨S',E',H',⟨hf,rfl⟩,dL⟩
   obtain ⟨zN,wS⟩ := dL.eH hf
   exact ⟨_,zN,H',aB,wS.sorted⟩
 | @np id ops cf aH af aj =>
  intro h aN
  obtain ⟨cs,I,H9,aY,aB⟩ := h
  obtain ⟨hj,aN⟩ := aN.gw cs
  refine wp_region_any hm ?_
  have hr : bu N w0 H0 (S.gw cs) hj a w.drew H := aN.grown (Grow.refl aN.sub).drew
  refine aaB af aj aH aY ?_ ops.size [] _ (S.gw cs) hj a _ H ?_ (by simp) (fun i aq => by simp [aq]) (fun i aq => by simp at aq) H9 hr
  ·intro done S' E' dD w' H' iG dM dL
   obtain ⟨hf,aB⟩ := aB done S' iG fun i aq => dM i (by simpa using aq)
   obtain ⟨zN,wS⟩ := dL.eH hf
   exact ⟨_,zN,H',aB,wS.sorted⟩
  ·unfold lY
   rw [Array.toList_replicate,List.countP_replicate]; simp
 | @hc id ops n eS cf aH af aj aw aV =>
  intro h aN
  obtain ⟨gs,cs,h⟩ := h
  obtain ⟨E,aN⟩ := aN.gw cs
  obtain ⟨H1,_,sS⟩ := aN.nt gs
  have aW := MY af
  have hle := aW.le
  refine akU n eS H1 hm af (by rw [sS.jg]; exact aj) (fun c a d v w => Wz) sS.sub ?_
  refine NH (N := N) (w0 := w0) (H0 := H0) (E := E) (S0 := (S.gw cs).nt gs) (K := fun S' => h0 (cf.drop n) S' (K .next)) (glA := cf) aW sS aw aV (ops.toList.take n) (cf.take n) [] ((S.gw cs).nt gs) ((S.gw cs).nt gs) [] (aH.take n) (by simp; omega)
   (fun j aM => by simp at aM; rw [List.getElem?_take,if_pos (by omega)]; simp) (fun j aM => by simp at aM; rw [List.getElem?_take,if_pos (by omega)]; simp) ⟨rfl,fun t x ar => ?_⟩ ?_ (fun i o h => .inl h) h ?_
  ·by_cases a7 : sf ops n t = true
   ·exact .inl ⟨a7,ar⟩
   ·refine .inr (.inr ?_)
    unfold sf at a7
    simp only [List.all_eq_true,Classical.not_forall] at a7
    obtain ⟨o,ay,dd⟩ := a7
    obtain ⟨i,aq⟩ := List.mem_iff_getElem?.1 ay
    rw [List.getElem?_take] at aq
    split at aq
    ·rename_i ka
     exact ⟨i,o,by simp,ka,by simpa using aq,by simpa using dd⟩
    ·cases aq
  ·intro W H' rM Fm Dk aB
   exact aB a E (fK.refl _) (sS.grown rM)
  ·rintro W H' dD rM ⟨S',E',ald,aB,dL⟩
   exact NM (aH.drop n) aB dL fun _ _ h => h
 | seq _ _ uo uq =>
  intro h aN
  refine wp_seq (wp_mono (uo h aN) ?_)
  intro e dD w' aS
  cases e with
  | normal => obtain ⟨S',E',H',⟨eo,aB⟩,dL⟩ := aS; obtain ⟨qA,hr⟩ := dL.eH eo; exact uq aB hr
  | exit id => exact aS
  | ret => exact aS
  | goto l => exact aS
  | panic c => exact aS
  | outgrown => exact aS
 | cond _ _ uo uq =>
  intro h aN
  obtain ⟨s,ao,h⟩ := bW h
  have ba := aN.bf ao
  cases s with
  | v q =>
   cases q with
   | bool t =>
    generalize Ev : a.eval _ = B7 at ba
    cases ba
    refine wp_cond Ev ?_
    cases t with
    | true => exact uo (h.1 rfl) aN
    | false => exact uq (h.2 rfl) aN
   | _ => exact h.elim
  | _ => exact h.elim
 | @block id _ _ _ dO =>
  intro h aN
  refine wp_block (wp_mono (dO h aN) ?_)
  intro e dD w' aS
  cases e with
  | normal => exact aS
  | exit j =>
   obtain ⟨S',E',H',aB,dL⟩ := aS
   simp only [Exit.inBlock]
   simp only at aB
   split at aB
   ·rename_i e; rw [if_pos e]; exact ⟨S',E',H',aB,dL⟩
   ·rename_i e; rw [if_neg e]; exact ⟨S',E',H',aB,dL⟩
  | ret => exact aS
  | goto l => exact aS
  | panic c => exact aS
  | outgrown => exact aS
 | loop _ dO =>
  intro h aN
  obtain ⟨I,m,hf,cs,bb,aY⟩ := h
  obtain ⟨qA,aN⟩ := aN.gw cs
  obtain ⟨zN,wS⟩ := aN.eH hf
  refine wp_loop_ghost (fun k a w => ∃ b0 hj H1,I k b0 ∧ bu N w0 H0 b0 hj a w H1) m ⟨_,zN,H,bb,wS⟩ ?_
  rintro k a w ⟨b0,hj,H1,aB,sS⟩
  refine wp_mono (dO (aY k b0 aB) sS) ?_
  intro e dD w' aS
  cases e with
  | normal => obtain ⟨S',E',H',⟨dA,hf,iR,abS⟩,dL⟩ := aS; obtain ⟨qA,hr⟩ := dL.eH hf; exact ⟨dA,iR,_,qA,H',abS,hr⟩
  | exit id => exact aS
  | ret => exact aS
  | goto l => exact aS
  | panic c => exact aS
  | outgrown => exact aS

inductive yi : ResultVar → b3 → Prop
 | tmp {t} : yi (.tmp t) (.tmp t)
 | Ng {t ty d i} : Tryz.prog.underlying ty = some d → my d = true → Tryz.prog.info? ty = some i → yi (.cell t ty) (.eh t (some i.size))
 | Nf {t ty d} : Tryz.prog.underlying ty = some d → my d = false → yi (.cell t ty) (.eh t none)
inductive tv : List ResultVar → List b3 → Prop
 | nil : tv [] []
 | cons {x y l q3} : yi x y → tv l q3 → tv (x :: l) (y :: q3)

def xM (tmps : Array Value) : ResultVar → Sem Value
 | .tmp t => pure (tmps.getD t undef)
 | .cell a t => do loadVar t (← asAddr (tmps.getD a undef))

theorem ahp (aN : bu N w0 H0 S E a w H) {x y s} (ar : yi x y) (h : S.xN y = some s) : ∃ v,(xM a.tmps x).run Tryz.prog w = .ok v w ∧ ca H E s v := by
 cases ar with
 | @tmp t => have dh : S.bf (.tmp t) = some s := h; exact ⟨a.eval (.tmp t),rfl,aN.bf dh⟩
 | @Ng t ty d i af aj aw =>
  simp only [ak.xN,Option.bind_eq_some_iff] at h
  obtain ⟨p,hp,⟨cs,off⟩,eA,h⟩ := h
  simp only at h
  split at h
  ·rename_i aF
   cases h
   obtain ⟨b,o',vs,bj,ba,tO,eA⟩ := G1 aN.ob aN.sub (aN.bf hp) eA
   have xm : a.tmps.getD t undef = .pointer (some ⟨b,o' + off,none⟩) := bj
   have := (KK (P := Tryz.prog) (off := off) af eA).1 i aj aw (by rw [← ba.length]; exact aF)
   refine ⟨_,by simp only [xM,xm]; simpa [Instr.loadAt,Instr.sureAddr,asAddr] using this,.agg ((ba.drop off).take _) ?_⟩
   rw [List.all_eq_true] at tO ⊢
   intro x ar
   exact tO x (List.mem_of_mem_drop (List.mem_of_mem_take ar))
  ·cases h
 | @Nf t ty d af aj =>
  simp only [ak.xN,Option.bind_eq_some_iff] at h
  obtain ⟨p,hp,⟨cs,off⟩,eA,h⟩ := h
  obtain ⟨b,o',vs,bj,ba,tO,eA⟩ := G1 aN.ob aN.sub (aN.bf hp) eA
  have xm : a.tmps.getD t undef = .pointer (some ⟨b,o' + off,none⟩) := bj
  obtain ⟨u,hu,ax⟩ := ba.get h
  have := (KK (P := Tryz.prog) (off := off) af eA).2 u aj hu
  exact ⟨u,by simp only [xM,xm]; simpa [Instr.loadAt,Instr.sureAddr,asAddr] using this,ax⟩

theorem Rp (aN : bu N w0 H0 S E a w H) : ∀ {xs ys l},tv xs ys → S.oX ys = some l → ∃ vs,(xs.mapM (xM a.tmps)).run Tryz.prog w = .ok vs w ∧ db H ep l vs
 | _,_,l,.nil,h => by simp only [ak.oX,Option.some.injEq] at h; subst h; exact ⟨[],by simp,.nil⟩
 | _,_,l,.cons ar BI,h => by
  simp only [ak.oX,Option.bind_eq_some_iff,Option.map_eq_some_iff] at h
  obtain ⟨y,⟨z,bO,a1⟩,q3,aF,rfl⟩ := h
  obtain ⟨v,bj,ax⟩ := ahp aN ar bO
  obtain ⟨vs,BF,Jl⟩ := Rp aN BI aF
  exact ⟨v :: vs,by simp [List.mapM_cons,bj,BF],.cons (z8 aN.ob ax a1) Jl⟩

theorem bu.jU : ∀ (l : List b3) {S : ak} {H : bg},bu N w0 H0 S E a w H → ∃ H',g7 H H' ∧ bu N w0 H0 (S.jU l) E a w H'
 | [],S,H,h => ⟨H,g7.refl _,h⟩
 | x :: l,S,H,h => by
  unfold ak.jU
  split
  ·rename_i s _
   obtain ⟨H1,l1,af⟩ := h.jl s
   obtain ⟨kq,l2,aj⟩ := bu.jU l af
   exact ⟨kq,l1.trans l2,aj⟩
  ·exact bu.jU l h

theorem KF (aN : bu N w0 H0 S E a w H) {fn : Func} {ew l} (ax : tv fn.results.toList ew) (h : S.oX ew = some l) : ∃ v,(results fn a.tmps).run Tryz.prog w = .ok v w ∧ ca H ep (q9 l) v := by
 obtain ⟨vs,BF,Jl⟩ := Rp aN ax h
 have c8 : (fn.results.mapM (xM a.tmps)).run Tryz.prog w = .ok vs.toArray w := by
  rw [Array.mapM_eq_mapM_toList]; simp [BF]
 have he : results fn a.tmps = ((fn.results.mapM (xM a.tmps)) >>= fun vs => pure (if h : vs.size = 1 then vs[0] else .tuple vs)) := by
  have e : (fun x : ResultVar => match x with
   | .tmp t => (pure (a.tmps.getD t undef) : Sem Value)
   | .cell b t => do loadVar t (← asAddr (a.tmps.getD b undef))) = xM a.tmps := by funext x; cases x <;> rfl
  rw [← e]; rfl
 rw [he,Sem.run_bind,c8]
 simp only [Result.andThen_ok,Sem.run_pure]
 refine ⟨_,rfl,?_⟩
 cases Jl with
 | nil => exact .bR .nil
 | cons af t =>
  cases t with
  | nil => exact af
  | cons aj t => exact .bR (.cons af (.cons aj t))

theorem Ds : ∀ (args : List av) (vs : List Value) (i t : Nat) (x : av),db H E args vs → al (o8 i args) t = some x → ∃ u,vs[t - i]? = some u ∧ i ≤ t ∧ ca H E x u
 | [],_,i,t,x,_,h => by cases h
 | y :: args,_,i,t,x,.cons af ax,h => by
  simp only [o8,al] at h
  split at h
  ·rename_i e; cases h; subst e; exact ⟨_,by simp,Nat.le_refl _,af⟩
  ·obtain ⟨u,hu,aq,ax⟩ := Ds args _ (i + 1) t x ax h
   exact ⟨u,by rw [show t - i = (t - (i + 1)) + 1 by omega]; simpa using hu,by omega,ax⟩

theorem agB {f : FuncId} {fn : Func} {c : Code} {g5 : bU} {ew : List b3} {args : List av} {r : av} (aW : Tryz.prog.funcs[f]? = some fn) (aJ : fn.body = some c) (hm : Tryz.prog.follows .mixedOrders = true) (az : kp fn.ntmps c g5) (ax : tv fn.results.toList ew)
  (a7 : args.length ≤ fn.ntmps) (h : bJ g5 ew args r) : cu f args r := by
 intro w H vs ao bj
 have aF := bj.length
 refine calls_of_wp aW aJ ?_
 have aN : bu fn.ntmps w H ⟨o8 0 args,[],0⟩ ep { tmps := vs.toArray ++ Array.replicate (fn.ntmps - vs.toArray.size) undef,defers := [] } w H := by
  refine ⟨Grow.refl ao,fun t x ar => ?_,(fun i o h => by cases h),(by rintro i j _ ⟨_,h,_⟩; cases h),(fun i _ => rfl),(by simp; omega),rfl⟩
  obtain ⟨u,hu,_,ba⟩ := Ds args vs 0 t x bj ar
  have aO : t < vs.length := by have := (List.getElem?_eq_some_iff.1 hu).1; simpa using this
  have e : (vs.toArray ++ Array.replicate (fn.ntmps - vs.toArray.size) undef)[t]? = some u := by
   rw [Array.getElem?_append_left (by simpa using aO)]; simpa using hu
  have a8 : ({ tmps := vs.toArray ++ Array.replicate (fn.ntmps - vs.toArray.size) undef,defers := [] } : Act).eval (.tmp t) = u := by
   simp only [Act.eval,Array.getD_eq_getD_getElem?,e,Option.getD_some]
  rw [a8]; exact ba
 refine wp_mono (Hz (K := fin ew r) hm az h aN) ?_
 intro e dD w' aS
 have vd : End fn.ntmps w H (fun S => cL ((S.jU ew).oX ew) fun l => q9 l = r) dD w' → dD.defers = [] ∧ ∃ v,(results fn dD.tmps).run Tryz.prog w' = .ok v w' ∧ Dj w H (fun v : Value => v) (fun v H' => ca H' ep r v) (.returned v) w' := by
  rintro ⟨S',E',H',aB,dL⟩
  obtain ⟨kq,_,hr⟩ := dL.jU ew
  obtain ⟨l,aF,rfl⟩ := bW aB
  obtain ⟨v,r0,uj⟩ := KF hr ax aF
  exact ⟨hr.kv,v,r0,Cc (c := fun v : Value => v) v kq hr.grow uj⟩
 cases e with
 | normal => exact vd aS
 | ret => exact vd aS
 | exit id => obtain ⟨_,_,_,h,_⟩ := aS; exact h.elim
 | goto l => exact aS.elim
 | panic c => exact aS.elim
 | outgrown => exact aS.elim
theorem J7 {f : FuncId} {fn : Func} {c : Code} {g5 : bU} {ew : List b3} {args : List av} {O : List (Nat × bl)} {n : Nat} {P : (bg → Env → Prop) → av → List (Nat × bl) → Nat → Prop} (aW : Tryz.prog.funcs[f]? = some fn) (aJ : fn.body = some c) (hm : Tryz.prog.follows .mixedOrders = true) (az : kp fn.ntmps c g5) (ax : tv fn.results.toList ew)
  (a7 : args.length ≤ fn.ntmps) (h : ∀ J,hd g5 ⟨o8 0 args,(n,.cq J) :: O,n + 1⟩ (wK ew n J P)) : fv f args O n P := by
 intro J N w0 H0 E a w H vs n3 bj
 have aF := bj.length
 refine calls_of_wp aW aJ ?_
 have aN : bu fn.ntmps w0 H0 ⟨o8 0 args,(n,.cq J) :: O,n + 1⟩ E { tmps := vs.toArray ++ Array.replicate (fn.ntmps - vs.toArray.size) undef,defers := [] } w H := by
  refine ⟨n3.grow,fun t x ar => ?_,n3.ob,n3.ap,n3.cS,(by simp; omega),rfl⟩
  obtain ⟨u,hu,_,ba⟩ := Ds args vs 0 t x bj ar
  have aO : t < vs.length := by have := (List.getElem?_eq_some_iff.1 hu).1; simpa using this
  have e : (vs.toArray ++ Array.replicate (fn.ntmps - vs.toArray.size) undef)[t]? = some u := by
   rw [Array.getElem?_append_left (by simpa using aO)]; simpa using hu
  have a8 : ({ tmps := vs.toArray ++ Array.replicate (fn.ntmps - vs.toArray.size) undef,defers := [] } : Act).eval (.tmp t) = u := by
   simp only [Act.eval,Array.getD_eq_getD_getElem?,e,Option.getD_some]
  rw [a8]; exact ba
 refine wp_mono (Hz (K := wK ew n J P) hm az (h J) aN) ?_
 intro e dD w' aS
 have vd : End fn.ntmps w0 H0 (fun S => cL ((S.jU ew).oX ew) fun l => al (S.jU ew).O n = some (.cq J) ∧ P J (q9 l) (S.jU ew).O (S.jU ew).n) dD w' →
   dD.defers = [] ∧ ∃ v,(results fn dD.tmps).run Tryz.prog w' = .ok v w' ∧ ∃ gY r O' bI E' H',Ending.returned v = .returned gY ∧ P J r O' bI ∧ al O' n = some (.cq J) ∧ bu N w0 H0 ⟨[],O',bI⟩ E' a w' H' ∧ ca H' E' r gY := by
  rintro ⟨S',E',H',aB,dL⟩
  obtain ⟨kq,_,hr⟩ := dL.jU ew
  obtain ⟨l,aF,aH,bV⟩ := bW aB
  obtain ⟨v,r0,uj⟩ := KF hr ax aF
  exact ⟨hr.kv,v,r0,v,q9 l,_,_,E',kq,rfl,bV,aH,⟨hr.grow,(fun t x ar => by cases ar),hr.ob,hr.ap,hr.cS,n3.jg,n3.kv⟩,uj.mono (fun _ _ h => h) (lB _)⟩
 cases e with
 | normal => exact vd aS
 | ret => exact vd aS
 | exit id => obtain ⟨_,_,_,h,_⟩ := aS; exact h.elim
 | goto l => exact aS.elim
 | panic c => exact aS.elim
 | outgrown => exact aS.elim
theorem agC {f : FuncId} {fn : Func} {c : Code} {g5 : bU} {ew : List b3} {args : List av} {r : av} (aW : Tryz.prog.funcs[f]? = some fn) (aJ : fn.body = some c) (hm : Tryz.prog.follows .mixedOrders = true) (az : kp fn.ntmps c g5) (ax : tv fn.results.toList ew)
  (a7 : args.length ≤ fn.ntmps) (h : DM g5 ew args r) : cu f args r := by
 intro w H vs ao bj
 have aF := bj.length
 refine calls_of_wp aW aJ ?_
 have aN : bu fn.ntmps w H ⟨o8 0 args,[],0⟩ ep { tmps := vs.toArray ++ Array.replicate (fn.ntmps - vs.toArray.size) undef,defers := [] } w H := by
  refine ⟨Grow.refl ao,fun t x ar => ?_,(fun i o h => by cases h),(by rintro i j _ ⟨_,h,_⟩; cases h),(fun i _ => rfl),(by simp; omega),rfl⟩
  obtain ⟨u,hu,_,ba⟩ := Ds args vs 0 t x bj ar
  have aO : t < vs.length := by have := (List.getElem?_eq_some_iff.1 hu).1; simpa using this
  have e : (vs.toArray ++ Array.replicate (fn.ntmps - vs.toArray.size) undef)[t]? = some u := by
   rw [Array.getElem?_append_left (by simpa using aO)]; simpa using hu
  have a8 : ({ tmps := vs.toArray ++ Array.replicate (fn.ntmps - vs.toArray.size) undef,defers := [] } : Act).eval (.tmp t) = u := by
   simp only [Act.eval,Array.getD_eq_getD_getElem?,e,Option.getD_some]
  rw [a8]; exact ba
 refine wp_mono (Hz (K := yy ew r) hm az h aN) ?_
 intro e dD w' aS
 have vd : End fn.ntmps w H (fun S => cL ((S.jU ew).oX ew) fun l => Di (q9 l) r) dD w' → dD.defers = [] ∧ ∃ v,(results fn dD.tmps).run Tryz.prog w' = .ok v w' ∧ Dj w H (fun v : Value => v) (fun v H' => ca H' ep r v) (.returned v) w' := by
  rintro ⟨S',E',H',aB,dL⟩
  obtain ⟨kq,_,hr⟩ := dL.jU ew
  obtain ⟨l,aF,hle⟩ := bW aB
  obtain ⟨v,r0,uj⟩ := KF hr ax aF
  exact ⟨hr.kv,v,r0,Cc (c := fun v : Value => v) v kq hr.grow (hle _ _ uj)⟩
 cases e with
 | normal => exact vd aS
 | ret => exact vd aS
 | exit id => obtain ⟨_,_,_,h,_⟩ := aS; exact h.elim
 | goto l => exact aS.elim
 | panic c => exact aS.elim
 | outgrown => exact aS.elim
end

def dX.JA : dX → Value → Bool
 | .int k,.int dA n => decide (dA = k) && decide (n = 0)
 | .bool,.bool b => !b
 | .au _,.slice none 0 0 => true
 | .mp _,.map none => true
 | .nilFunc,.nilFunc => true
 | .nilIface,.nilIface => true
 | .nilPtr,.pointer none => true
 | _,_ => false
theorem dX.ael {z : dX} {v : Value} (h : z.JA v = true) : v = z.val := by
 unfold dX.JA at h
 split at h <;> simp_all [dX.val]
def EP : List dX → List Value → Bool
 | [],[] => true
 | z :: dz,v :: vs => z.JA v && EP dz vs
 | _,_ => false
theorem PT : ∀ {dz : List dX} {vs : List Value},EP dz vs = true → vs = dz.map dX.val
 | [],[],_ => rfl
 | z :: dz,v :: vs,h => by
  simp only [EP,Bool.and_eq_true] at h
  rw [dX.ael h.1,PT h.2]; rfl
 | [],_ :: _,h => by cases h
 | _ :: _,[],h => by cases h

theorem akB {P : Program} (bV : P = Tryz.prog) {t : TypeId} {d : TypeDesc} (h : P.underlying t = some d) : Tryz.prog.underlying t = some d := by subst bV; exact h
theorem aej {P : Program} (bV : P = Tryz.prog) {t : TypeId} {d : TypeInfo} (h : P.info? t = some d) : Tryz.prog.info? t = some d := by subst bV; exact h
theorem aaX {P : Program} (bV : P = Tryz.prog) {t : FuncId} {d : Func} (h : P.funcs[t]? = some d) : Tryz.prog.funcs[t]? = some d := by subst bV; exact h
theorem ag8 {P : Program} (bV : P = Tryz.prog) {fT : List Field} {places : List (Nat × Nat)} (h : fT.mapM (fun f => (P.info? f.type).map fun i => (f.offset,i.size)) = some places) :
  fT.mapM (fun f => (Tryz.prog.info? f.type).map fun i => (f.offset,i.size)) = some places := by subst bV; exact h
def Kn {α : Type} {p : α → Prop} : (o : Option α) → (∀ d,o = some d → p d) → Option {d : α // p d}
 | some d,h => some ⟨d,h d rfl⟩
 | none,_ => none
def k8 (P : Program) (bV : P = Tryz.prog) (t : TypeId) : Option {d : TypeDesc // Tryz.prog.underlying t = some d} := Kn (P.underlying t) fun _ h => akB bV h
def s5 (P : Program) (bV : P = Tryz.prog) (t : TypeId) : Option {i : TypeInfo // Tryz.prog.info? t = some i} := Kn (P.info? t) fun _ h => aej bV h
def aaW (P : Program) (bV : P = Tryz.prog) (f : FuncId) : Option {fn : Func // Tryz.prog.funcs[f]? = some fn} := Kn (P.funcs[f]?) fun _ h => aaX bV h

def UM (g : TypeId → Option (List dX)) : List TypeId → Option (List dX)
 | [] => some []
 | t :: l => match g t,UM g l with
  | some a,some b => some (a ++ b)
  | _,_ => none
def Mj (P : Program) : Nat → TypeId → Option (List dX)
 | 0,_ => none
 | n + 1,t => match P.underlying t with
  | some (.int k) => some [.int k]
  | some .bool => some [.bool]
  | some (.slice e) => (P.info? e).map fun i => [.au i.size]
  | some (.map bc _) => some [.mp bc]
  | some (.func _ _ _) => some [.nilFunc]
  | some (.interface _) => some [.nilIface]
  | some (.pointer _) => some [.nilPtr]
  | some (.struct fT) => UM (Mj P n) (fT.toList.map (·.type))
  | some (.array m e) => (Mj P n e).map fun l => (List.replicate m l).flatten
  | _ => none

def Kk : Operand → Operand → Bool
 | .tmp a,.tmp b => decide (a = b)
 | .const (.int k n),.const (.int dA bI) => decide (k = dA) && decide (n = bI)
 | _,_ => false
theorem agU {x y : Operand} (h : Kk x y = true) : x = y := by
 unfold Kk at h
 split at h <;> simp_all

theorem PR {α : Type} : ∀ (l : List (Nat × α)) (j : Nat),l.map (·.1) = List.range' j l.length → l = idxs j (l.map (·.2))
 | [],j,_ => rfl
 | (i,x) :: l,j,h => by
  simp only [List.map_cons,List.length_cons,List.range'_succ,List.cons.injEq] at h
  obtain ⟨rfl,h⟩ := h
  simp only [List.map_cons,idxs]
  rw [← PR l (i + 1) h]

theorem ZQ {t : TypeId} {it : TypeInfo} {fT : Array Field} {z : Value} {places : List (Nat × Nat)} (aq : Tryz.prog.info? t = some it) (hu : Tryz.prog.underlying t = some (.struct fT)) (bO : it.zero = some z)
  (hp : fT.toList.mapM (fun f => (Tryz.prog.info? f.type).map fun i => (f.offset,i.size)) = some places) (l6 : List (Nat × Value)) : Tryz.prog.built t l6 = Instr.fill (fun j => places[j]?) z.cells l6 := by
 simp [Program.built,aq,hu,bO,hp]
theorem ZP {t e : TypeId} {it vD : TypeInfo} {m : Nat} {z : Value} (aq : Tryz.prog.info? t = some it) (hu : Tryz.prog.underlying t = some (.array m e)) (bO : it.zero = some z) (he : Tryz.prog.info? e = some vD) (l6 : List (Nat × Value)) :
  Tryz.prog.built t l6 = Instr.fill (fun i => some (i * vD.size,vD.size)) z.cells l6 := by
 simp [Program.built,aq,hu,bO,he]

def zeroOf (P : Program) (bV : P = Tryz.prog) (t : TypeId) : Option {p : TypeInfo × Value × List dX // Tryz.prog.info? t = some p.1 ∧ p.1.zero = some p.2.1 ∧ p.2.1.cells.toList = p.2.2.map dX.val} :=
 match s5 P bV t with
 | none => none
 | some ⟨i,aq⟩ => match bO : i.zero with
  | none => none
  | some z => match Mj P 8 t with
   | none => none
   | some dz => if h : EP dz z.cells.toList = true then some ⟨(i,z,dz),aq,bO,PT h⟩ else none

def zr (P : Program) (bV : P = Tryz.prog) (t : TypeId) : Option {p : TypeId × TypeInfo // Tryz.prog.underlying t = some (.slice p.1) ∧ Tryz.prog.info? p.1 = some p.2} :=
 match k8 P bV t with
 | some ⟨.slice e,hu⟩ => match s5 P bV e with
  | some ⟨i,aq⟩ => some ⟨(e,i),hu,aq⟩
  | none => none
 | _ => none

def aiD (P : Program) (bV : P = Tryz.prog) (t : TypeId) (parts : Array (Nat × Operand)) : Option {eY : b4 // eM (.build t parts) eY} :=
 match zeroOf P bV t with
 | none => none
 | some ⟨(i,z,dz),aq,bO,hB⟩ => match k8 P bV t with
  | some ⟨.struct fT,hu⟩ => match hp : fT.toList.mapM (fun f => (P.info? f.type).map fun i => (f.offset,i.size)) with
   | some places => match yS : parts.toList.mapM (fun p => (places[p.1]?).map fun q => (q.1,q.2,p.2)) with
    | some ps => some ⟨.dE dz ps,.dE (pl := fun j => places[j]?) aq bO hB (ZQ aq hu bO (ag8 bV hp)) yS⟩
    | none => none
   | none => none
  | some ⟨.array m e,hu⟩ => match s5 P bV e with
   | some ⟨vD,he⟩ => match yS : parts.toList.mapM (fun p => ((some (p.1 * vD.size,vD.size) : Option (Nat × Nat))).map fun q => (q.1,q.2,p.2)) with
    | some ps => some ⟨.dE dz ps,.dE (pl := fun j => some (j * vD.size,vD.size)) aq bO hB (ZP aq hu bO he) yS⟩
    | none => none
   | none => none
  | _ => none

def aiE (P : Program) (bV : P = Tryz.prog) (t : TypeId) (len : Nat) (parts : Array (Nat × Operand)) : Option {eY : b4 // eM (.buildSlice t len parts) eY} :=
 match zr P bV t with
 | none => none
 | some ⟨(e,i),hu,aq⟩ => match bO : i.zero with
  | none => none
  | some z =>
   if h : z.cells.size = i.size ∧ 0 < i.size ∧ parts.toList.map (·.1) = List.range' 0 parts.toList.length ∧ len = (parts.toList.map (·.2)).length ∧ len * i.size ≤ 16777216 then
    some ⟨.g2 i.size (parts.toList.map (·.2)),by
     obtain ⟨af,aj,aw,aV,bF⟩ := h
     subst aV
     exact .g2 hu aq bO af aj (PR _ 0 aw) bF⟩
   else none

def aiC (P : Program) (bV : P = Tryz.prog) (t : TypeId) (x y : Operand) : Option {eY : b4 // eM (.call ⟨.builtin .append,#[x,y],#[t,t]⟩) eY} :=
 match zr P bV t with
 | some ⟨(e,i),hu,aq⟩ => match bO : i.zero with
  | some z => if h : z.cells.size = i.size ∧ 0 < i.size then some ⟨.app x y e i.size i.bytes,.app hu aq bO h.1 h.2⟩ else none
  | none => none
 | none => none

def aiF (P : Program) (bV : P = Tryz.prog) (c : Call) : Option {eY : b4 // eM (.call c) eY} :=
 match c with
 | ⟨.value (.func f),args,hE⟩ => match aaW P bV f with
  | some ⟨fn,aW⟩ => if h : fn.body.isSome = true ∧ (fn.name == "runtime.NumGoroutine") = false then some ⟨.call f args.toList,.call aW h.1 h.2⟩ else none
  | none => none
 | ⟨.value (.tmp t),args,hE⟩ => some ⟨.kt (.tmp t) args.toList,.kt⟩
 | ⟨.builtin .len,⟨[x]⟩,⟨[t]⟩⟩ => match zr P bV t with
  | some ⟨(e,i),hu,aq⟩ => some ⟨.len x,.len hu⟩
  | none => match k8 P bV t with
   | some ⟨.map bc e,hu⟩ => match k8 P bV bc with
    | some ⟨.int .i64,aB⟩ => some ⟨.r9 bc x,.r9 hu aB⟩
    | _ => none
   | _ => none
 | ⟨.builtin .max,⟨[x,y]⟩,hE⟩ => some ⟨.kH true x y,.max⟩
 | ⟨.builtin .min,⟨[x,y]⟩,hE⟩ => some ⟨.kH false x y,.min⟩
 | ⟨.builtin .append,⟨[x,y]⟩,⟨[t,t']⟩⟩ =>
  if aO : t = t' then match aiC P bV t x y with
   | some ⟨eY,h⟩ => some ⟨eY,by subst aO; exact h⟩
   | none => none
  else none
 | ⟨.builtin .delete,⟨[m,key]⟩,⟨[t,t']⟩⟩ => match k8 P bV t with
  | some ⟨.map bc e,hu⟩ => match k8 P bV bc with
   | some ⟨.int .i64,aB⟩ => if aO : bc = t' then some ⟨.del bc m key,by subst aO; exact .del hu aB⟩ else none
   | _ => none
  | _ => none
 | ⟨.builtin .copy,⟨[x,y]⟩,⟨[t,t']⟩⟩ => match zr P bV t with
  | some ⟨(e,i),hu,aq⟩ => some ⟨.qJ x y i.size,.qJ hu aq⟩
  | none => none
 | _ => none

def aiK (P : Program) (bV : P = Tryz.prog) (t : TypeId) (x : Operand) : Option {eY : b4 // eM (.load t x) eY} :=
 match k8 P bV t with
 | some ⟨d,hu⟩ => if aZ : my d = true then (match s5 P bV t with | some ⟨i,aq⟩ => some ⟨.aC x (some i.size),.P0 hu aZ aq⟩ | none => none) else some ⟨.aC x none,.PZ hu (by simpa using aZ)⟩
 | none => none
def aiG (P : Program) (bV : P = Tryz.prog) (s : TypeId) (x : Operand) (j : Nat) : Option {eY : b4 // eM (.field s x j) eY} :=
 match k8 P bV s with
 | some ⟨.struct fT,hu⟩ => match aW : fT[j]? with
  | some f => match k8 P bV f.type with
   | some ⟨d,aX⟩ => if aZ : my d = true then (match s5 P bV f.type with | some ⟨i,aq⟩ => some ⟨.oC x f.offset (some i.size),.NZ hu aW aq aX aZ⟩ | none => none) else some ⟨.oC x f.offset none,.NY hu aW aX (by simpa using aZ)⟩
   | none => none
  | none => none
 | _ => none
def aiH (P : Program) (bV : P = Tryz.prog) (s : TypeId) (x : Operand) (j : Nat) : Option {eY : b4 // eM (.fieldAddr s x j) eY} :=
 match k8 P bV s with
 | some ⟨.struct fT,hu⟩ => match aW : fT[j]? with
  | some f => match s5 P bV f.type with
   | some ⟨i,aq⟩ => if bO : i.size ≠ 0 then some ⟨.a3 x f.offset,.a3 hu aW aq bO⟩ else none
   | none => none
  | none => none
 | _ => none
def aiJ (P : Program) (bV : P = Tryz.prog) (t : TypeId) (x j : Operand) : Option {eY : b4 // eM (.indexAddr t x j) eY} :=
 match k8 P bV t with
 | some ⟨.slice e,hu⟩ => match s5 P bV e with
  | some ⟨i,aq⟩ => if hp : 0 < i.size then some ⟨.dU x j i.size,.dU hu aq hp⟩ else none
  | none => none
 | some ⟨.array n e,hu⟩ => match s5 P bV e with
  | some ⟨i,aq⟩ => some ⟨.mi x j i.size n,.mi hu aq⟩
  | none => none
 | _ => none
theorem agT {z : Value} {Gm : dX} (h : z.oneCell' = true) (hB : z.cells.toList = [Gm].map dX.val) : z = Gm.val := by
 have a2 : z.cells = #[z] := by cases z <;> simp_all [Value.cells,Value.oneCell']
 simpa [a2] using hB
def aiL (P : Program) (bV : P = Tryz.prog) (t : TypeId) (m key : Operand) (ok : Bool) : Option {eY : b4 // eM (.lookup t m key ok) eY} :=
 match k8 P bV t with
 | some ⟨.map bc e,hu⟩ => match k8 P bV bc with
  | some ⟨.int .i64,aB⟩ => match zeroOf P bV e with
   | some ⟨(i,z,[Gm]),aq,bO,hB⟩ => if h : z.oneCell' = true then some ⟨.mj bc m key Gm ok,.mj hu aB aq (by rw [← agT h hB]; exact bO)⟩ else none
   | _ => none
  | _ => none
 | _ => none
def aiM (P : Program) (bV : P = Tryz.prog) (t : TypeId) (n c : Operand) : Option {eY : b4 // eM (.makeSlice t n c) eY} :=
 if az : Kk n c = true then (match zr P bV t with
  | some ⟨(e,i),hu,aq⟩ => match zeroOf P bV e with
   | some ⟨(jn,z,dz),jD,bO,hB⟩ => if h : z.cells.size = i.size ∧ 0 < i.size then some ⟨.mm n e i.size i.bytes dz,by
     have a2 := agU az; subst a2
     have a8 : i = jn := Option.some.inj (aq.symm.trans jD)
     subst a8
     exact .mm hu aq bO hB h.1 h.2⟩ else none
   | none => none
  | none => none) else none
def Jz : TypeDesc → Bool
 | .interface _ => true
 | _ => false

def aek : BinOp → Bool
 | .add | .sub | .mul | .quo | .rem | .eql | .neq | .lss | .leq | .gtr | .geq => true
 | _ => false
def aiO (P : Program) (bV : P = Tryz.prog) (op : Op) : Option {eY : b4 // eM op eY} :=
 match op with
 | .move x => some ⟨.ah x,.ah⟩
 | .assign x => some ⟨.ah x,.Dt⟩
 | .load t x => aiK P bV t x
 | .fieldAddr s x j => aiH P bV s x j
 | .field s x j => aiG P bV s x j
 | .indexAddr t x j => aiJ P bV t x j
 | .build t parts => aiD P bV t parts
 | .buildSlice t len parts => aiE P bV t len parts
 | .slice t x jo aq mx => match zr P bV t with
  | some ⟨(e,i),hu,jD⟩ => some ⟨.kk i.size x jo aq mx,.kk hu jD⟩
  | none => none
 | .lookup t m key ok => aiL P bV t m key ok
 | .extract x i => some ⟨.ext x i,.ext⟩
 | .binOp op t x y t2 => match P.underlying t with
  | some (.int _) => if aek op = true then some ⟨.bin op x y,.bin⟩ else none
  | some (.interface _) => none
  | _ => match op with
   | .eql => some ⟨.eqv false t x y,.eqv⟩
   | .neq => some ⟨.eqv true t x y,.JW⟩
   | _ => none
 | .unOp .not t x => some ⟨.not x,.not⟩
 | .convert src dst x => match k8 P bV src,k8 P bV dst with
  | some ⟨d,ao⟩,some ⟨.int k,aX⟩ => some ⟨.lE k x,.lE ao aX⟩
  | _,_ => none
 | .call c => aiF P bV c
 | .makeFunc f first cap => some ⟨.jY f first.toList cap.toList,.jY⟩
 | .makeInterface t x => match k8 P bV t with
  | some ⟨d,hu⟩ => if h : Jz d = false then some ⟨.ig t x,.ig hu (fun ms e => by subst e; cases h)⟩ else none
  | none => none
 | .pick c a b => some ⟨.pick c a b,.pick⟩
 | .range t x => match k8 P bV t with
  | some ⟨.map bc e,hu⟩ => match k8 P bV bc with
   | some ⟨.int .i64,aB⟩ => some ⟨.jZ bc x,.jZ hu aB⟩
   | _ => none
  | _ => none
 | .next x false => some ⟨.oh x,.oh⟩
 | .entry x => some ⟨.qM x,.qM⟩
 | .nilCheck x => some ⟨.k3 x,.k3⟩
 | .makeSlice t n c => aiM P bV t n c
 | .makeMap t none => match k8 P bV t with
  | some ⟨.map bc e,hu⟩ => match k8 P bV bc with
   | some ⟨.int .i64,aB⟩ => some ⟨.oe t bc,.oe hu aB⟩
   | _ => none
  | _ => none
 | .alloc t => match zeroOf P bV t with
  | some ⟨(i,z,dz),aq,bO,hB⟩ => some ⟨.cm t dz,.cm aq bO hB⟩
  | none => none
 | .box t x => some ⟨.box t x,.box⟩
 | .store t x y => match s5 P bV t with
  | some ⟨i,aq⟩ => some ⟨.st i.size x y,.st aq⟩
  | none => none
 | .mapUpdate t m key x => match k8 P bV t with
  | some ⟨.map bc e,hu⟩ => match k8 P bV bc with
   | some ⟨.int .i64,aB⟩ => some ⟨.pv bc m key x,.pv hu aB⟩
   | _ => none
  | _ => none
 | _ => none

def aa7 : Op → Option (List Operand)
 | .typeAssert x _ _ _ => some [x]
 | .index _ x i => some [x,i]
 | .binOp _ _ x y _ => some [x,y]
 | .unOp _ _ x => some [x]
 | .convert _ _ x => some [x]
 | .slice _ x jo aq mx => some (x :: (jo.toList ++ aq.toList ++ mx.toList))
 | .call ⟨.invoke recv _,args,_⟩ => some (recv :: args.toList)
 | .call ⟨.builtin .max,args,_⟩ => some args.toList
 | .call ⟨.builtin .min,args,_⟩ => some args.toList
 | _ => none
def aiN (P : Program) (bV : P = Tryz.prog) (op : Op) : Option {eY : b4 // eM op eY} :=
 match aiO P bV op with
 | some x => some x
 | none => (aa7 op).map fun xs => ⟨.gen op xs,.gen⟩

def L4 (ops : Array Oper) : Option (Nat × Bool) → Option (Option (Nat × Bool))
 | none => some none
 | some (j,b) => match ops[j]? with
  | some hD => hD.dst.map fun t => some (t,b)
  | none => none
theorem aiI {ops : Array Oper} {o : Oper} {g : Option (Nat × Bool)} (h : L4 ops o.guard = some g) : Mw ops o g := by
 unfold L4 at h
 split at h
 ·rename_i aH; cases h; exact aH
 ·rename_i j b aH
  split at h
  ·rename_i hD aM
   cases aX : hD.dst with
   | none => rw [aX] at h; cases h
   | some t => rw [aX] at h; cases h; exact ⟨j,hD,aH,aM,aX⟩
  ·cases h

def P9 (N : Nat) : Option Nat → Bool
 | none => true
 | some d => decide (d < N)
def aiP (P : Program) (bV : P = Tryz.prog) (N : Nat) (ops : Array Oper) (o : Oper) : Option {g : cl // zQ N ops o g} :=
 match aiN P bV o.op,aH : L4 ops o.guard with
 | some eY,some tL => if h : P9 N o.dst = true then some ⟨⟨o.dst,tL,eY.1⟩,rfl,eY.2,fun t dh => (by rw [dh] at h; simpa [P9] using h),aiI aH⟩ else none
 | _,_ => none

def Cz (P : Program) (bV : P = Tryz.prog) (N : Nat) (ops : Array Oper) : (l : List Oper) → Option {cf : List cl // j1 N ops l cf}
 | [] => some ⟨[],.nil⟩
 | o :: l => match aiP P bV N ops o,Cz P bV N ops l with
  | some g,some cf => some ⟨g.1 :: cf.1,.cons g.2 cf.2⟩
  | _,_ => none

def N1 (ops : Array Oper) (n : Nat) : List Nat :=
 (List.range n).filter fun j => (List.range ops.size).any fun i => decide (n ≤ i) && (match ops[i]? with | some o => !waits o j && !(yr ops i (wl o)).contains j | none => false)

def Ho (N : Nat) (ops : Array Oper) (cf : List cl) (n : Nat) : Bool :=
 yj ops n (N1 ops n) && z7 ops n N && DX ops n cf && DR (N1 ops n) cf

def sv (P : Program) (bV : P = Tryz.prog) (N : Nat) : (c : Code) → Option {g5 : bU // kp N c g5}
 | .skip => some ⟨.skip,.skip⟩
 | .region id ops false => match Cz P bV N ops ops.toList with
  | some cf => some ⟨.ops cf.1,.ops cf.2⟩
  | none => none
 | .region id ops true => match Cz P bV N ops ops.toList with
  | some cf => match (List.range (ops.size + 1)).find? (Ho N ops cf.1) with
   | some n => if h : Ho N ops cf.1 n = true then some ⟨.hc n cf.1,by
     unfold Ho at h
     simp only [Bool.and_eq_true] at h
     exact .hc cf.2 h.1.1.1 h.1.1.2 h.1.2 h.2⟩ else none
   | none => if 10 ≤ (cf.1.filter fun g => !g.op.yB).length then (if h : (Region.noSelect ops && zA ops) = true then some ⟨.np (ops.toList.map wl) cf.1,by
     simp only [Bool.and_eq_true] at h
     exact .np cf.2 h.1 h.2⟩ else none)
    else if h : (Region.noSelect ops && oU ops cf.1 [] (BP ops cf.1 ops.size [])) = true then some ⟨.ord (BP ops cf.1 ops.size []) cf.1,by
     simp only [Bool.and_eq_true] at h
     exact .ord cf.2 h.1 h.2⟩ else none
  | none => none
 | .seq a b => match sv P bV N a,sv P bV N b with
  | some x,some y => some ⟨.seq x.1 y.1,.seq x.2 y.2⟩
  | _,_ => none
 | .cond c a b => match sv P bV N a,sv P bV N b with
  | some x,some y => some ⟨.cond c x.1 y.1,.cond x.2 y.2⟩
  | _,_ => none
 | .block id a => match sv P bV N a with
  | some x => some ⟨.block id x.1,.block x.2⟩
  | none => none
 | .loop a => match sv P bV N a with
  | some x => some ⟨.loop x.1,.loop x.2⟩
  | none => none
 | .exit id => some ⟨.exit id,.exit⟩
 | .ret => some ⟨.ret,.ret⟩
 | _ => none

def aiQ (P : Program) (bV : P = Tryz.prog) : (x : ResultVar) → Option {y : b3 // yi x y}
 | .tmp t => some ⟨.tmp t,.tmp⟩
 | .cell t ty => match k8 P bV ty with
  | some ⟨d,hu⟩ => if aZ : my d = true then (match s5 P bV ty with | some ⟨i,aq⟩ => some ⟨.eh t (some i.size),.Ng hu aZ aq⟩ | none => none) else some ⟨.eh t none,.Nf hu (by simpa using aZ)⟩
  | none => none
def F9 (P : Program) (bV : P = Tryz.prog) : (l : List ResultVar) → Option {y : List b3 // tv l y}
 | [] => some ⟨[],.nil⟩
 | x :: l => match aiQ P bV x,F9 P bV l with
  | some y,some ys => some ⟨y.1 :: ys.1,.cons y.2 ys.2⟩
  | _,_ => none

def cJ (P : Program) (bV : P = Tryz.prog) (fn : Func) : Option (bU × List b3) :=
 match fn.body with
 | none => none
 | some c => match sv P bV fn.ntmps c,F9 P bV fn.results.toList with
  | some x,some y => some (x.1,y.1)
  | _,_ => none

theorem mixed : Tryz.prog.follows .mixedOrders = true := by kernel_rfl

theorem df {f : FuncId} {fn : Func} {g5 : bU} {ew : List b3} {args : List av} {r : av} (aW : Tryz.prog.funcs[f]? = some fn) (aO : cJ Tryz.prog rfl fn = some (g5,ew)) (a7 : Nat.ble args.length fn.ntmps = true) (h : bJ g5 ew args r) : cu f args r := by
 unfold cJ at aO
 split at aO
 ·cases aO
 ·rename_i c aJ
  split at aO
  ·rename_i x y _ _
   cases aO
   exact agB aW aJ mixed x.2 y.2 (Nat.le_of_ble_eq_true a7) h
  ·cases aO
theorem Q3 {f : FuncId} {fn : Func} {g5 : bU} {ew : List b3} {args : List av} {r : av} (aW : Tryz.prog.funcs[f]? = some fn) (aO : cJ Tryz.prog rfl fn = some (g5,ew)) (a7 : Nat.ble args.length fn.ntmps = true) (h : DM g5 ew args r) : cu f args r := by
 unfold cJ at aO
 split at aO
 ·cases aO
 ·rename_i c aJ
  split at aO
  ·rename_i x y _ _
   cases aO
   exact agC aW aJ mixed x.2 y.2 (Nat.le_of_ble_eq_true a7) h
  ·cases aO

theorem aft {α : Type} (k : α → Prop) : cL none k = False := rfl
variable {S F : ak} {K : pI → ak → Prop} {L : ak → Prop}

theorem ae {a b : bU} (h : ∀ bz : pI → ak → Prop,(∀ eo S',hd b (S'.eH eo) K → bz .next S') → (∀ S',K .ret S' → bz .ret S') → (∀ i S',K (.exit i) S' → bz (.exit i) S') → hd a S bz) : hd (.seq a b) S K :=
 h _ (fun eo _ h => ⟨eo,h⟩) (fun _ h => h) (fun _ _ h => h)
theorem cx {id : Nat} {a : bU} (h : ∀ bz : pI → ak → Prop,(∀ S',K .next S' → bz .next S') → (∀ S',K .next S' → bz (.exit id) S') → (∀ S',K .ret S' → bz .ret S') → (∀ i S',i ≠ id → K (.exit i) S' → bz (.exit i) S') → hd a S bz) : hd (.block id a) S K :=
 h _ (fun _ h => h) (fun S' h => by simp only [if_true]; exact h) (fun _ h => h) (fun i S' aq h => by simp only [if_neg aq]; exact h)
theorem bY {c : Operand} {a b : bU} (h : hd a S K) (az : S.bf c = some (.v (.bool true)) := by rfl) : hd (.cond c a b) S K := by
 show cL (S.bf c) _
 rw [az]
 exact ⟨fun _ => h,(fun h => nomatch h)⟩
theorem bB {c : Operand} {a b : bU} (h : hd b S K) (az : S.bf c = some (.v (.bool false)) := by rfl) : hd (.cond c a b) S K := by
 show cL (S.bf c) _
 rw [az]
 exact ⟨(fun h => nomatch h),fun _ => h⟩
theorem mb {c : Operand} {a b : bU} {t : Bool} (az : S.bf c = some (.v (.bool t))) (af : t = true → hd a S K) (aj : t = false → hd b S K) : hd (.cond c a b) S K := by
 show cL (S.bf c) _
 rw [az]
 exact ⟨af,aj⟩
theorem jS {a : bU} (I : Nat → ak → Prop) (m : Nat) (hf : Option (List Nat × Option (List Nat × Nat))) (cs : List qz) (bb : I m ((S.gw cs).eH hf)) (h : ∀ k b0,I k b0 → ∀ bz : pI → ak → Prop,(∀ dA hf S',dA < k → I dA (S'.eH hf) → bz .next S') → (∀ S',K .ret S' → bz .ret S') → (∀ i S',K (.exit i) S' → bz (.exit i) S') → hd a b0 bz) : hd (.loop a) S K :=
 ⟨I,m,hf,cs,bb,fun k b0 aB => h k b0 aB _ (fun dA hf S' af aj => ⟨dA,hf,af,aj⟩) (fun _ h => h) (fun _ _ h => h)⟩
theorem NL : ∀ {a b : List cl} {S : ak} {L : ak → Prop},h0 (a ++ b) S L ↔ h0 a S fun S' => h0 b S' L
 | [],_,_,_ => Iff.rfl
 | o :: a,b,S,L => by
  have e : (fun S' => h0 (a ++ b) S' L) = fun S' => h0 a S' fun WD => h0 b WD L := funext fun S' => propext (NL (a := a) (b := b))
  simp only [List.cons_append,h0]
  rw [e]
theorem ia {f : FuncId} {xs : List Operand} {d : Option Nat} {l : List av} {P : (bg → Env → Prop) → av → List (Nat × bl) → Nat → Prop} (ax : fv f l S.O S.n P) (aF : S.kj xs = some l) (aB : ∀ J r O' bI,P J r O' bI → L (ak.bX ⟨S.T,dC O' S.n,bI⟩ d r)) : ND f xs S d L := .inr ⟨l,P,aF,ax,aB⟩
inductive uv (l : List cl) (L : ak → Prop) (S : ak) : Prop
 | mk (h : h0 l S L)
 | no (h : False)
inductive q2 (l : List cl) (L : ak → Prop) (S F : ak) (cB : List TypeId) : Prop
 | mk (h : iv l S F cB L)
 | no (h : False)
theorem vG {l : List cl} (h : h0 l S L) : uv l L S := .mk h
theorem vF {l : List cl} {F : ak} {cB : List TypeId} (h : iv l S F cB L) : q2 l L S F cB := .mk h
theorem aev (l : List cl) (L : ak → Prop) : uv l L = fun S => h0 l S L := funext fun S => propext ⟨fun h => by cases h with | mk h => exact h | no h => exact h.elim,.mk⟩
theorem aeu (l : List cl) (L : ak → Prop) : q2 l L = fun S F cB => iv l S F cB L := funext fun S => funext fun F => funext fun cB => propext ⟨fun h => by cases h with | mk h => exact h | no h => exact h.elim,.mk⟩
theorem l3 {l : List cl} (h : uv l L S) : h0 l S L := by
 cases h with
 | mk h => exact h
 | no h => exact h.elim
theorem Ud {l : List cl} {cB : List TypeId} (h : q2 l L S F cB) : iv l S F cB L := by
 cases h with
 | mk h => exact h
 | no h => exact h.elim
theorem ai {l : List cl} (h : ∀ bz : ak → Prop,(∀ S',K .next S' → bz S') → uv l bz S) : hd (.ops l) S K := ⟨[],[],l3 (h _ (fun _ h => h))⟩
theorem pW (sp : List (Nat × List qE)) (cs : List qz) {l : List cl} (h : ∀ bz : ak → Prop,(∀ S',K .next S' → bz S') → sP sp l (S.gw cs) bz) : hd (.ops l) S K := ⟨sp,cs,h _ (fun _ h => h)⟩
theorem yu {n : Nat} {rs : List qE} {sp : List (Nat × List qE)} {l : List cl} (h : ∀ bz : ak → Prop,(∀ S',oA rs S' (fun gh => sP sp (l.drop n) gh L) → bz S') → uv (l.take n) bz S) : sP ((n,rs) :: sp) l S L := l3 (h _ fun _ h => h)
theorem qL {rs : List qE} {sp : List (Nat × List qE)} {l : List cl} (h : oA rs S fun gh => sP sp l gh L) : sP ((0,rs) :: sp) l S L := by
 show h0 (l.take 0) S fun b0 => oA rs b0 fun gh => sP sp (l.drop 0) gh L
 rw [List.take_zero,List.drop_zero]
 exact h
theorem pX {l : List cl} (h : uv l L S) : sP [] l S L := l3 h
theorem As {i : Nat} {rs : List qE} {t : TypeId} {cs : List av} (aH : al S.O i = some (.box t cs)) (h : ∀ b,oA rs (S.fH (.cq (od i b))) L) : oA (.vV i :: rs) S L := ⟨⟨t,cs,aH⟩,h⟩
theorem pY {t g : Nat} {rs : List qE} {i b off : Nat} (aH : al S.O g = some (.cq (od i b))) (aO : al S.T t = some (.v (.pointer (some ⟨b,off,none⟩)))) (h : oA rs (S.put t (.ptr i 0 off)) L) : oA (.raw t g :: rs) S L := ⟨i,b,off,aH,aO,h⟩
theorem At {t g : Nat} {rs : List qE} {i b off : Nat} (aH : al S.O g = some (.cq (od i b))) (aO : al S.T t = some (.ptr i 0 off)) (h : oA rs (S.put t (.v (.pointer (some ⟨b,off,none⟩)))) L) : oA (.wa t g :: rs) S L := ⟨i,b,off,aH,aO,h⟩
theorem m7 (h : L S) : oA [] S L := h
theorem Aq {x : Operand} {name : String} {args : Array Operand} {hE : Array TypeId} {t : TypeId} {f : FuncId} {d : Option Nat} {lv : av} {l0 : List av} {P : (bg → Env → Prop) → av → List (Nat × bl) → Nat → Prop} (ax : fv f (lv :: l0) S.O S.n P) (bk : rr t name f) (bK : Enters f) (ar : S.bf x = some (.dr t lv)) (aF : S.kj args.toList = some l0) (aB : ∀ J r O' bI,P J r O' bI → L (ak.bX ⟨S.T,dC O' S.n,bI⟩ d r)) : NK (.call ⟨.invoke x name,args,hE⟩) (x :: args.toList) S d L :=
 ⟨x,name,args,hE,t,lv,l0,f,P,rfl,rfl,ar,aF,bk,bK,ax,aB⟩
theorem Hv {x : Operand} {f : FuncId} {xs : List Operand} {d : Option Nat} {s : av} {l0 l : List av} {P : (bg → Env → Prop) → av → List (Nat × bl) → Nat → Prop} (ax : fv f l S.O S.n P) (ar : S.bf x = some s) (aF : S.kj xs = some l0) (az : callee s l0 f l) (aB : ∀ J r O' bI,P J r O' bI → L (ak.bX ⟨S.T,dC O' S.n,bI⟩ d r)) : NF x xs S d L :=
 ⟨s,l0,f,l,P,ar,aF,az,ax,aB⟩
theorem vb (cs : List qz) (b0 : ak) {t : m3} {l : List cl} (af : ∀ L : ak → Prop,(∀ S' hf,(S'.eH hf).sorted = b0 → L S') → ns t l (S.gw cs) L) (aj : K .next b0) : hd (.ord t l) S K :=
 ⟨cs,b0,af _ (fun S' hf h => ⟨hf,h⟩),aj⟩
theorem gI {i : Nat} {t : m3} {l : List cl} {o : cl} (ay : l[i]? = some o) (h : ∀ uV : ak → Prop,(∀ S',ns t l S' L → uV S') → jT o S uV) : ns (.b1 i t) l S L := by
 show cL l[i]? _
 rw [ay]; exact h _ (fun _ h => h)
theorem bC {i : Nat} {t : m3} {l : List cl} {o : cl} (ay : l[i]? = some o) (h : ∀ uV : ak → Prop,(∀ S',ns t l S' L → uV S') → jT o S uV) : ns (.step i t) l S L := by
 show cL l[i]? _
 rw [ay]; exact h _ (fun _ h => h)
theorem hy (gs : List av) {n : Nat} {l : List cl} (h : ∀ bz : ak → Prop,(∀ S',uv (l.drop n) (K .next) S' → bz S') → q2 (l.take n) bz (S.nt gs) (S.nt gs) []) : hd (.hc n l) S K := ⟨gs,[],Ud (h _ (fun _ h => l3 h))⟩
theorem aaj (cs : List qz) (gs : List av) {n : Nat} {l : List cl} (h : ∀ bz : ak → Prop,(∀ S',uv (l.drop n) (K .next) S' → bz S') → q2 (l.take n) bz ((S.gw cs).nt gs) ((S.gw cs).nt gs) []) : hd (.hc n l) S K := ⟨gs,cs,Ud (h _ (fun _ h => l3 h))⟩
def vc : List cl → ak → ak → List TypeId → (ak → ak → List TypeId → Prop) → Prop
 | [],S,F,cB,K => K S F cB
 | o :: l,S,F,cB,K => Hw o S F cB fun S' k9 ng => vc l S' k9 ng K
where Hw (o : cl) (S F : ak) (cB : List TypeId) (K : ak → ak → List TypeId → Prop) : Prop :=
  match o.g with
  | none => (match gX S o.op with
   | some p => cL p fun p => cB.contains p.1 = false ∧ K (S.lF o.d) ((F.fH (.box p.1 p.2)).bX o.d (.ptr F.n 0 0)) (p.1 :: cB)
   | none => (match gW o.op with
    | some q => (cj o.op S fun s => K (S.bX o.d s) (F.bX o.d s) cB) ∨ KH S q fun es => cB.contains q.2.2.1 = false ∧ K (S.lF o.d) ((F.fH (.row q.2.2.1 q.2.2.2.1 es)).bX o.d (.own F.n)) (q.2.2.1 :: cB)
    | none => cj o.op S fun s => K (S.bX o.d s) (F.bX o.d s) cB))
  | some (t,b) => cL (S.bf (.tmp t)) fun s => match s with
   | .v (.bool ev) => (ev = b → cj o.op S fun s => K (S.bX o.d s) (F.bX o.d s) cB) ∧ (ev = !b → K (S.lF o.d) (F.lF o.d) cB)
   | _ => False
theorem aaC (o : cl) (l : List cl) (S F : ak) (cB : List TypeId) (bz : ak → Prop) : iv (o :: l) S F cB bz = vc.Hw o S F cB fun S' k9 ng => iv l S' k9 ng bz := by
 conv => lhs; unfold iv
 rfl
theorem NG : ∀ (a b : List cl) (S F : ak) (cB : List TypeId) (bz : ak → Prop),iv (a ++ b) S F cB bz = vc a S F cB fun S' k9 ng => iv b S' k9 ng bz
 | [],_,_,_,_,_ => rfl
 | o :: a,b,S,F,cB,bz => by
  have e : (fun S' k9 ng => iv (a ++ b) S' k9 ng bz) = fun S' k9 ng => vc a S' k9 ng fun S' k9 ng => iv b S' k9 ng bz := by
   funext S' k9 ng; exact NG a b S' k9 ng bz
  rw [List.cons_append,aaC,e]; rfl
structure sD (n : Nat) : Prop
theorem u9 {n : Nat} (_ : sD n) {l : List cl} (h : h0 (l.take n) S (uv (l.drop n) L)) : h0 l S L := by
 rw [aev] at h
 rw [← List.take_append_drop n l,NL]
 exact h
theorem DF {n : Nat} (_ : sD n) {l : List cl} {F : ak} {cB : List TypeId} (h : vc (l.take n) S F cB (q2 (l.drop n) L)) : iv l S F cB L := by
 rw [aeu] at h
 rw [← List.take_append_drop n l,NG]
 exact h
end Go.Proofs.YtkmbcjnaaokilaaGreatDoor
set_option linter.defProp false
namespace Go.Proofs.YtkmbcjnaaokilaaGreatDoor
set_option linter.unusedSimpArgs false
set_option linter.unusedVariables false
open Go.RowKit Go.Maps

def ahF := And.intro @bJ.eq_1 (And.intro @h0.eq_1 (And.intro @h0.eq_2 (And.intro @jT.eq_1 (And.intro @iv.eq_1 (And.intro @iv.eq_2 (And.intro @vc.eq_1 (And.intro @vc.eq_2 (And.intro @vc.Hw.eq_1 (And.intro @fx.eq_1 (And.intro @fx.eq_2 (And.intro @fx.eq_3 (And.intro @fx.eq_4 (And.intro @fx.eq_5 (And.intro @fx.eq_6 (And.intro @fx.eq_7 (And.intro @fx.eq_8 (And.intro @fx.eq_9 (And.intro @fx.eq_10 (And.intro @fx.eq_11 (And.intro @fx.eq_12 (And.intro @fx.eq_13 (And.intro @fx.eq_14 (And.intro @fx.eq_15 (And.intro @fx.eq_16 (And.intro @fx.eq_17 (And.intro @fx.eq_18 (And.intro @fx.eq_19 (And.intro @fx.eq_20 (And.intro @fx.eq_21 (And.intro @fx.eq_22 (And.intro @fx.eq_23 (And.intro @fx.eq_24 (And.intro @fx.eq_25 (And.intro @fx.eq_26 (And.intro @fx.eq_27 (And.intro @fx.eq_28 (And.intro @fx.eq_29 (And.intro @fx.eq_30 (@fx.eq_31)))))))))))))))))))))))))))))))))))))))
def ahG := And.intro @fx.eq_32 (And.intro @fx.eq_33 (And.intro @fx.eq_34 (And.intro @fx.eq_35 (And.intro @fx.eq_36 (And.intro @fx.eq_37 (And.intro @fx.eq_38 (And.intro @DL.eq_1 (And.intro @cj.eq_1 (And.intro @cj.eq_2 (And.intro @cj.eq_3 (And.intro @cj.eq_4 (And.intro @cj.eq_5 (And.intro @cj.eq_6 (And.intro @cj.eq_7 (And.intro @cj.eq_8 (And.intro @cj.eq_9 (And.intro @cj.eq_10 (And.intro @cj.eq_11 (And.intro @cj.eq_12 (And.intro @cj.eq_13 (And.intro @cj.eq_14 (And.intro @cj.eq_15 (And.intro @cj.eq_16 (And.intro @cj.eq_17 (And.intro @cj.eq_18 (And.intro @cj.eq_19 (And.intro @cj.eq_20 (And.intro @cj.eq_21 (And.intro @cj.eq_22 (And.intro @cj.eq_23 (And.intro @cj.eq_24 (And.intro @cj.eq_25 (And.intro @cj.eq_26 (And.intro @cj.eq_27 (And.intro @cj.eq_28 (And.intro @gX.eq_1 (And.intro @gX.eq_2 (And.intro @gX.eq_3 (@gX.eq_4)))))))))))))))))))))))))))))))))))))))
def ahJ := And.intro @gX.eq_5 (And.intro @gX.eq_6 (And.intro @gX.eq_7 (And.intro @gX.eq_8 (And.intro @gX.eq_9 (And.intro @gX.eq_10 (And.intro @gX.eq_11 (And.intro @gX.eq_12 (And.intro @gX.eq_13 (And.intro @gX.eq_14 (And.intro @gX.eq_15 (And.intro @gX.eq_16 (And.intro @gX.eq_17 (And.intro @gX.eq_18 (And.intro @gX.eq_19 (And.intro @gX.eq_20 (And.intro @gX.eq_21 (And.intro @gX.eq_22 (And.intro @gX.eq_23 (And.intro @gX.eq_24 (And.intro @gX.eq_25 (And.intro @gX.eq_26 (And.intro @gX.eq_27 (And.intro @gX.eq_28 (And.intro @gX.eq_29 (And.intro @gX.eq_30 (And.intro @gX.eq_31 (And.intro @gX.eq_32 (And.intro @gX.eq_33 (And.intro @gX.eq_34 (And.intro @gX.eq_35 (And.intro @gX.eq_36 (And.intro @gX.eq_37 (And.intro @gX.eq_38 (And.intro @gW.eq_1 (And.intro @gW.eq_2 (And.intro @gW.eq_3 (And.intro @gW.eq_4 (And.intro @gW.eq_5 (@gW.eq_6)))))))))))))))))))))))))))))))))))))))
def ahK := And.intro @gW.eq_7 (And.intro @gW.eq_8 (And.intro @gW.eq_9 (And.intro @gW.eq_10 (And.intro @gW.eq_11 (And.intro @gW.eq_12 (And.intro @gW.eq_13 (And.intro @gW.eq_14 (And.intro @gW.eq_15 (And.intro @gW.eq_16 (And.intro @gW.eq_17 (And.intro @gW.eq_18 (And.intro @gW.eq_19 (And.intro @gW.eq_20 (And.intro @gW.eq_21 (And.intro @gW.eq_22 (And.intro @gW.eq_23 (And.intro @gW.eq_24 (And.intro @gW.eq_25 (And.intro @gW.eq_26 (And.intro @gW.eq_27 (And.intro @gW.eq_28 (And.intro @gW.eq_29 (And.intro @gW.eq_30 (And.intro @gW.eq_31 (And.intro @gW.eq_32 (And.intro @gW.eq_33 (And.intro @gW.eq_34 (And.intro @gW.eq_35 (And.intro @gW.eq_36 (And.intro @gW.eq_37 (And.intro @gW.eq_38 (And.intro @KH.eq_1 (And.intro @cut.eq_1 (And.intro @cut.eq_2 (And.intro @ij (And.intro @aft (And.intro @ak.bf.eq_1 (And.intro @ak.bf.eq_2 (@ak.bf.eq_3)))))))))))))))))))))))))))))))))))))))
def ahL := And.intro @ak.bf.eq_4 (And.intro @ak.res.eq_1 (And.intro @ak.res.eq_2 (And.intro @ak.res.eq_3 (And.intro @ak.res.eq_4 (And.intro @ak.res.eq_5 (And.intro @ak.res.eq_6 (And.intro @ak.res.eq_7 (And.intro @ak.res.eq_8 (And.intro @ak.res.eq_9 (And.intro @ak.res.eq_10 (And.intro @ak.res.eq_11 (And.intro @al.eq_1 (And.intro @al.eq_2 (And.intro @dC.eq_1 (And.intro @dC.eq_2 (And.intro @ak.put.eq_1 (And.intro @ak.bX.eq_1 (And.intro @ak.bX.eq_2 (And.intro @ak.lF.eq_1 (And.intro @ak.lF.eq_2 (And.intro @ak.eK.eq_1 (And.intro @ak.fH.eq_1 (And.intro @ak.args.eq_1 (And.intro @ak.args.eq_2 (And.intro @ak.arg.eq_1 (And.intro @ak.arg.eq_2 (And.intro @ak.arg.eq_3 (And.intro @ak.arg.eq_4 (And.intro @ak.arg.eq_5 (And.intro @ak.arg.eq_6 (And.intro @ak.arg.eq_7 (And.intro @ak.arg.eq_8 (And.intro @ak.arg.eq_9 (And.intro @ak.arg.eq_10 (And.intro @ak.arg.eq_11 (And.intro @ak.ma.eq_1 (And.intro @ak.qF.eq_1 (And.intro @ak.qF.eq_2 (@av.pure.eq_1)))))))))))))))))))))))))))))))))))))))
def ahM := And.intro @av.pure.eq_2 (And.intro @av.pure.eq_3 (And.intro @av.pure.eq_4 (And.intro @av.pure.eq_5 (And.intro @av.pure.eq_6 (And.intro @av.pure.eq_7 (And.intro @av.pure.eq_8 (And.intro @av.pure.eq_9 (And.intro @av.pure.eq_10 (And.intro @av.pure.eq_11 (And.intro @av.one.eq_1 (And.intro @av.one.eq_2 (And.intro @av.one.eq_3 (And.intro @av.one.eq_4 (And.intro @av.one.eq_5 (And.intro @av.one.eq_6 (And.intro @av.one.eq_7 (And.intro @av.one.eq_8 (And.intro @av.one.eq_9 (And.intro @av.one.eq_10 (And.intro @av.one.eq_11 (And.intro @av.cells.eq_1 (And.intro @av.cells.eq_2 (And.intro @av.cells.eq_3 (And.intro @av.cells.eq_4 (And.intro @av.cells.eq_5 (And.intro @av.cells.eq_6 (And.intro @av.cells.eq_7 (And.intro @av.cells.eq_8 (And.intro @av.cells.eq_9 (And.intro @av.cells.eq_10 (And.intro @av.cells.eq_11 (And.intro @ak.at.eq_1 (And.intro @ak.at.eq_2 (And.intro @ak.at.eq_3 (And.intro @ak.mc.eq_1 (And.intro @ak.mc.eq_2 (And.intro @b4.fA.eq_1 (And.intro @b4.fA.eq_2 (@b4.fA.eq_3)))))))))))))))))))))))))))))))))))))))
def ahN := And.intro @b4.fA.eq_4 (And.intro @b4.fA.eq_5 (And.intro @b4.fA.eq_6 (And.intro @b4.fA.eq_7 (And.intro @b4.fA.eq_8 (And.intro @b4.fA.eq_9 (And.intro @b4.fA.eq_10 (And.intro @b4.fA.eq_11 (And.intro @b4.fA.eq_12 (And.intro @b4.fA.eq_13 (And.intro @b4.fA.eq_14 (And.intro @b4.fA.eq_15 (And.intro @b4.fA.eq_16 (And.intro @b4.fA.eq_17 (And.intro @b4.fA.eq_18 (And.intro @b4.fA.eq_19 (And.intro @b4.fA.eq_20 (And.intro @b4.fA.eq_21 (And.intro @b4.fA.eq_22 (And.intro @b4.fA.eq_23 (And.intro @b4.fA.eq_24 (And.intro @b4.fA.eq_25 (And.intro @b4.fA.eq_26 (And.intro @b4.fA.eq_27 (And.intro @b4.fA.eq_28 (And.intro @b4.fA.eq_29 (And.intro @b4.fA.eq_30 (And.intro @b4.fA.eq_31 (And.intro @b4.fA.eq_32 (And.intro @b4.fA.eq_33 (And.intro @b4.fA.eq_34 (And.intro @b4.fA.eq_35 (And.intro @b4.fA.eq_36 (And.intro @b4.fA.eq_37 (And.intro @b4.fA.eq_38 (And.intro @ak.jl.eq_1 (And.intro @ak.jl.eq_2 (And.intro @ak.jl.eq_3 (And.intro @ak.jl.eq_4 (@ak.jl.eq_5)))))))))))))))))))))))))))))))))))))))
def ahO := And.intro @ak.jl.eq_6 (And.intro @ak.jl.eq_7 (And.intro @ak.jl.eq_8 (And.intro @ak.jl.eq_9 (And.intro @ak.jl.eq_10 (And.intro @ak.jl.eq_11 (And.intro @ak.nu.eq_1 (And.intro @ak.fm.eq_1 (And.intro @ak.fm.eq_2 (And.intro @ak.fm.eq_3 (And.intro @ak.fm.eq_4 (And.intro @ak.fm.eq_5 (And.intro @ak.fm.eq_6 (And.intro @ak.fm.eq_7 (And.intro @ak.fm.eq_8 (And.intro @ak.fm.eq_9 (And.intro @ak.fm.eq_10 (And.intro @ak.fm.eq_11 (And.intro @ak.fm.eq_12 (And.intro @ak.wM.eq_1 (And.intro @rB.eq_1 (And.intro @rB.eq_2 (And.intro @ak.elems.eq_1 (And.intro @ak.elems.eq_2 (And.intro @ak.q6.eq_1 (And.intro @ak.q6.eq_2 (And.intro @v7.eq_1 (And.intro @v7.eq_2 (And.intro @v7.eq_3 (And.intro @dX.hX.eq_1 (And.intro @dX.hX.eq_2 (And.intro @dX.hX.eq_3 (And.intro @dX.hX.eq_4 (And.intro @dX.hX.eq_5 (And.intro @dX.hX.eq_6 (And.intro @dX.hX.eq_7 (And.intro @B4.eq_1 (And.intro @B4.eq_2 (And.intro @na.eq_1 (@na.eq_2)))))))))))))))))))))))))))))))))))))))
def ahP := And.intro @na.eq_3 (And.intro @na.eq_4 (And.intro @na.eq_5 (And.intro @na.eq_6 (And.intro @na.eq_7 (And.intro @na.eq_8 (And.intro @na.eq_9 (And.intro @na.eq_10 (And.intro @na.eq_11 (And.intro @na.eq_12 (And.intro @ak.jU.eq_1 (And.intro @ak.jU.eq_2 (And.intro @ak.xN.eq_1 (And.intro @ak.xN.eq_2 (And.intro @ak.oX.eq_1 (And.intro @ak.oX.eq_2 (And.intro @q9.eq_1 (And.intro @q9.eq_2 (And.intro @o8.eq_1 (And.intro @o8.eq_2 (And.intro @Go.Value.oneCell'.eq_1 (And.intro @Go.Value.oneCell'.eq_2 (And.intro @Go.Value.oneCell'.eq_3 (And.intro @List.map_cons.{0,0} (And.intro @List.map_nil.{0,0} (And.intro @List.all_cons.{0} (And.intro @List.all_nil.{0} (And.intro @List.take_succ_cons.{0} (And.intro @List.take_zero.{0} (And.intro @List.drop_succ_cons.{0} (And.intro @List.drop_zero.{0} (And.intro @List.append_nil.{0} (And.intro @List.nil_append.{0} (And.intro @List.cons_append.{0} (And.intro @List.length_cons.{0} (And.intro @List.length_nil.{0} (And.intro @List.set_cons_zero.{0} (And.intro @List.set_cons_succ.{0} (And.intro @List.getElem?_cons_zero.{0} (@List.getElem?_cons_succ.{0})))))))))))))))))))))))))))))))))))))))
def ahQ := And.intro @Option.map_some.{0,0} (And.intro @Option.map_none.{0,0} (And.intro @Option.bind_some.{0,0} (And.intro @Option.bind_none.{0,0} (And.intro @Option.isNone_some.{0} (And.intro @Option.isNone_none.{0} (And.intro @Option.isSome_some.{0} (And.intro @Bool.and_true (And.intro @Bool.true_and (And.intro @Bool.not_true (And.intro @Bool.not_false (And.intro @Bool.and_self (And.intro @decide_true (And.intro @decide_false (And.intro @Bool.false_eq_true (And.intro @Bool.true_eq_false (And.intro @en.eq_1 (And.intro @en.eq_2 (And.intro @ak.eH.eq_1 (And.intro @ak.eH.eq_2 (And.intro @ak.eH.eq_3 (And.intro @xL.eq_1 (And.intro @xL.eq_2 (And.intro @hW.eq_1 (And.intro @hW.eq_2 (And.intro @hW.eq_3 (And.intro @hW.eq_4 (And.intro @hW.eq_5 (And.intro @hW.eq_6 (And.intro @hW.eq_7 (And.intro @hW.eq_8 (And.intro @sj.eq_1 (And.intro @sj.eq_2 (And.intro @nd.eq_1 (And.intro @nd.eq_2 (And.intro @nd.eq_3 (And.intro @nd.eq_4 (And.intro @nd.eq_5 (And.intro @nd.eq_6 (@nd.eq_7)))))))))))))))))))))))))))))))))))))))
def ahH := And.intro @nd.eq_8 (And.intro @nd.eq_9 (And.intro @nd.eq_10 (And.intro @nd.eq_11 (And.intro @mU.eq_1 (And.intro @mU.eq_2 (And.intro @mU.eq_3 (And.intro @mU.eq_4 (And.intro @mU.eq_5 (And.intro @mU.eq_6 (And.intro @mU.eq_7 (And.intro @mU.eq_8 (And.intro @mU.eq_9 (And.intro @mU.eq_10 (And.intro @mU.eq_11 (And.intro @vU.eq_1 (And.intro @vU.eq_2 (And.intro @mV.eq_1 (And.intro @mV.eq_2 (And.intro @mV.eq_3 (And.intro @mV.eq_4 (And.intro @mV.eq_5 (And.intro @mV.eq_6 (And.intro @mV.eq_7 (And.intro @mV.eq_8 (And.intro @mV.eq_9 (And.intro @mV.eq_10 (And.intro @mV.eq_11 (And.intro @jL.eq_1 (And.intro @jL.eq_2 (And.intro @jL.eq_3 (And.intro @jL.eq_4 (And.intro @jL.eq_5 (And.intro @jL.eq_6 (And.intro @jL.eq_7 (And.intro @jL.eq_8 (And.intro @jL.eq_9 (And.intro @jL.eq_10 (And.intro @jL.eq_11 (@vT.eq_1)))))))))))))))))))))))))))))))))))))))
def ahI := And.intro @vT.eq_2 (And.intro @sl.eq_1 (And.intro @sl.eq_2 (And.intro @sl.eq_3 (And.intro @sl.eq_4 (And.intro @sl.eq_5 (And.intro @sl.eq_6 (And.intro @sl.eq_7 (And.intro @nD.eq_1 (And.intro @nD.eq_2 (And.intro @ak.gw.eq_1 (And.intro @ak.gw.eq_2 (And.intro @ak.cast.eq_1 (And.intro @ak.cast.eq_2 (And.intro @ak.cast.eq_3 (And.intro @ak.cast.eq_4 (And.intro @ak.cast.eq_5 (And.intro @ak.cast.eq_6 (And.intro @vL.eq_1 (And.intro @vL.eq_2 (And.intro @vL.eq_3 (And.intro @Bool.true_or (And.intro @List.range_zero (And.intro @true_and (And.intro @and_true (And.intro @and_self (And.intro @false_implies (And.intro @true_implies (And.intro @Nat.zero_add (And.intro @Nat.add_zero (And.intro @Nat.le_refl (And.intro @List.contains_nil.{0} (And.intro @List.contains_cons.{0} (And.intro @Bool.or_false (And.intro @Bool.or_true (And.intro @Bool.false_or (And.intro @ak.nt.eq_1 (And.intro @ak.nt.eq_2 (And.intro @decide_eq_true_eq (@beq_self_eq_true.{0})))))))))))))))))))))))))))))))))))))))
def v3 := And.intro ahF (And.intro ahG (And.intro ahJ (And.intro ahK (And.intro ahL (And.intro ahM (And.intro ahN (And.intro ahO (And.intro ahP (And.intro ahQ (And.intro ahH ahI))))))))))

theorem c5 {p q : Prop} (k : q) (h : q → p := by intro k; simp only [v3,if_true,if_false,ite_true,ite_false,forall_const,ite_self,eq_self,reduceIte,reduceCtorEq,Nat.reduceEqDiff,Nat.reduceAdd,Nat.reduceLeDiff,Nat.reduceSub,Int.reduceToNat,Nat.reduceBEq,Nat.reduceMul,Nat.reduceLT,Int.reduceLE,Int.reduceLT,Nat.reduceMod,List.length_map,List.length_replicate,List.take_length,List.drop_zero,Int.toNat_natCast,List.getElem?_map,bne_self_eq_false,Int.reduceBEq,Int.reduceBNe]; exact k) : p := h k
theorem aT {F p q : Prop} (f : F) (k : q) (h : F → q → p := by intro f k; simp only [v3,if_true,if_false,ite_true,ite_false,forall_const,ite_self,eq_self,reduceIte,reduceCtorEq,Nat.reduceEqDiff,Nat.reduceAdd,Nat.reduceLeDiff,Nat.reduceSub,Int.reduceToNat,Nat.reduceBEq,Nat.reduceMul,Nat.reduceLT,Int.reduceLE,Int.reduceLT,Nat.reduceMod,List.length_map,List.length_replicate,List.take_length,List.drop_zero,Int.toNat_natCast,List.getElem?_map,bne_self_eq_false,Int.reduceBEq,Int.reduceBNe,f]; exact k) : p := h f k
theorem Ct {p q : Prop} (k : q) (h : q → p := by intro k; simp only [v3,if_true,if_false,ite_true,ite_false,forall_const,ite_self,eq_self,reduceIte,reduceCtorEq,Nat.reduceEqDiff,Nat.reduceAdd,Nat.reduceLeDiff,Nat.reduceSub,Int.reduceToNat,Nat.reduceBEq,Nat.reduceMul,Nat.reduceLT,Int.reduceLE,Int.reduceLT,Nat.reduceMod,List.length_map,List.length_replicate,List.take_length,List.drop_zero,Int.toNat_natCast,List.getElem?_map,bne_self_eq_false,Int.reduceBEq,Int.reduceBNe,hd,fin,yy]; exact k) : p := h k
theorem jc {F p q : Prop} (f : F) (k : q) (h : F → q → p := by intro f k; simp only [v3,if_true,if_false,ite_true,ite_false,forall_const,ite_self,eq_self,reduceIte,reduceCtorEq,Nat.reduceEqDiff,Nat.reduceAdd,Nat.reduceLeDiff,Nat.reduceSub,Int.reduceToNat,Nat.reduceBEq,Nat.reduceMul,Nat.reduceLT,Int.reduceLE,Int.reduceLT,Nat.reduceMod,List.length_map,List.length_replicate,List.take_length,List.drop_zero,Int.toNat_natCast,List.getElem?_map,bne_self_eq_false,Int.reduceBEq,Int.reduceBNe,hd,fin,yy,f]; exact k) : p := h f k
theorem jb {p : Prop} (h : p := by (simp only [v3,if_true,if_false,ite_true,ite_false,forall_const,ite_self,eq_self,reduceIte,reduceCtorEq,Nat.reduceEqDiff,Nat.reduceAdd,Nat.reduceLeDiff,Nat.reduceSub,Int.reduceToNat,Nat.reduceBEq,Nat.reduceMul,Nat.reduceLT,Int.reduceLE,Int.reduceLT,Nat.reduceMod,List.length_map,List.length_replicate,List.take_length,List.drop_zero,Int.toNat_natCast,List.getElem?_map,bne_self_eq_false,Int.reduceBEq,Int.reduceBNe,hd,fin,yy] <;> rfl)) : p := h
theorem cO {F p : Prop} (f : F) (h : F → p := by intro f; (simp only [v3,if_true,if_false,ite_true,ite_false,forall_const,ite_self,eq_self,reduceIte,reduceCtorEq,Nat.reduceEqDiff,Nat.reduceAdd,Nat.reduceLeDiff,Nat.reduceSub,Int.reduceToNat,Nat.reduceBEq,Nat.reduceMul,Nat.reduceLT,Int.reduceLE,Int.reduceLT,Nat.reduceMod,List.length_map,List.length_replicate,List.take_length,List.drop_zero,Int.toNat_natCast,List.getElem?_map,bne_self_eq_false,Int.reduceBEq,Int.reduceBNe,hd,fin,yy,f] <;> rfl)) : p := h f
theorem bd {p q : Prop} (k : q) (h : q → p := by intro k; (repeat (refine ⟨by clear k; first | assumption | omega | decide | (simp; done) | (simp_all; done) | (simp; omega),?_⟩)); exact k) : p := h k
theorem eC {p q : Prop} (k : q) (h : q → p := by intro k; simp only [ak.gw,ak.cast,vL,ak.put,ak.fH,ak.eK,dC,List.getElem?_cons_zero,List.getElem?_cons_succ,List.set_cons_zero,List.set_cons_succ,al,Nat.reduceEqDiff,reduceCtorEq,en,vU,mV,jL,vT,sl,nD,List.map_cons,List.map_nil,List.length_cons,List.length_nil,Nat.reduceAdd,Nat.zero_add,decide_true,ak.eH,xL,hW,sj,nd,mU,decide_eq_true_eq,List.contains_cons,List.contains_nil,Bool.or_false,Bool.or_true,Bool.true_or,Bool.false_or,Bool.and_true,Bool.true_and,beq_self_eq_true,Nat.reduceBEq,reduceIte,Nat.blt_eq,Nat.reduceLT,decide_true,Nat.reduceLeDiff,Bool.false_eq_true,Bool.and_eq_true,and_self,true_and,and_true]; exact k) : p := h k
theorem hv {p q : Prop} (k : q) (h : q → p := by intro k; simp only [List.take_succ_cons,List.take_zero,ak.nt,ak.jl,ak.nu,ak.wM,ak.fm,ak.qF,ak.ma,ak.res,av.pure,ak.eK,al,dC,en,ak.eH,reduceIte,Nat.reduceEqDiff,reduceCtorEq,Option.bind_some,Option.map_some,List.contains_cons,List.contains_nil,Nat.reduceBEq,Bool.or_false,Bool.or_true,Bool.false_or,beq_self_eq_true,Bool.false_eq_true]; exact k) : p := h k
theorem hx {p q : Prop} (k : q) (h : q → p := by intro k; simp only [List.drop_succ_cons,List.drop_zero]; exact k) : p := h k
theorem yJ {p q : Prop} (h : p) (k : p → q := by intro h; simp only [decide_eq_true_eq,decide_eq_false_iff_not,Bool.not_eq_true',Bool.not_eq_false',Bool.not_eq_eq_eq_not,Bool.not_true,Bool.not_false,beq_iff_eq,bne_iff_ne,beq_eq_false_iff_ne,bne_eq_false_iff_eq,ne_eq,Int.not_le,Int.not_lt] at h; exact h) : q := k h
theorem g6 {a b : ak} (h : a = b := by first | (simp only [ak.eH,en,al,ak.sorted,je,vE,reduceIte,Nat.reduceEqDiff,Nat.reduceLeDiff,reduceCtorEq]; done) | (simp only [ak.eH,en,al,ak.sorted,je,vE,reduceIte,Nat.reduceEqDiff,Nat.reduceLeDiff,reduceCtorEq]; rfl) | rfl) : a = b := h
theorem aE {F p : Prop} (f : F) (h : F → p := by intro f; first | (simp only [v3,if_true,if_false,ite_true,ite_false,forall_const,ite_self,eq_self,reduceIte,reduceCtorEq,Nat.reduceEqDiff,Nat.reduceAdd,Nat.reduceLeDiff,Nat.reduceSub,Int.reduceToNat,Nat.reduceBEq,Nat.reduceMul,Nat.reduceLT,Int.reduceLE,Int.reduceLT,Nat.reduceMod,List.length_map,List.length_replicate,List.take_length,List.drop_zero,Int.toNat_natCast,List.getElem?_map,bne_self_eq_false,Int.reduceBEq,Int.reduceBNe,f]; done) | (simp only [v3,if_true,if_false,ite_true,ite_false,forall_const,ite_self,eq_self,reduceIte,reduceCtorEq,Nat.reduceEqDiff,Nat.reduceAdd,Nat.reduceLeDiff,Nat.reduceSub,Int.reduceToNat,Nat.reduceBEq,Nat.reduceMul,Nat.reduceLT,Int.reduceLE,Int.reduceLT,Nat.reduceMod,List.length_map,List.length_replicate,List.take_length,List.drop_zero,Int.toNat_natCast,List.getElem?_map,bne_self_eq_false,Int.reduceBEq,Int.reduceBNe,f]; rfl) | rfl) : p := h f
theorem eu {p q : Prop} (n : Nat) (k : q) (h : sD n → q → p := by intro a7 k; refine vG ?_; refine u9 a7 ?_; refine c5 ?_; exact k) : p := h ⟨⟩ k
theorem cV {p r q : Prop} (n : Nat) (k : q) (h : sD n → r → p := by intro a7 k; refine vG ?_; refine u9 a7 ?_; refine c5 ?_; exact k) (g : q → r := by intro k; (repeat (refine ⟨by clear k; first | assumption | omega | decide | (simp; done) | (simp_all; done) | (simp; omega),?_⟩)); exact k) : p := h ⟨⟩ (g k)
theorem cz {p q : Prop} (k : q) (h : q → p := by intro k; refine vG ?_; refine c5 ?_; exact k) : p := h k
theorem mW {p r q : Prop} (k : q) (h : r → p := by intro k; refine vG ?_; refine c5 ?_; exact k) (g : q → r := by intro k; (repeat (refine ⟨by clear k; first | assumption | omega | decide | (simp; done) | (simp_all; done) | (simp; omega),?_⟩)); exact k) : p := h (g k)
theorem aL {F p q : Prop} (n : Nat) (f : F) (k : q) (h : sD n → F → q → p := by intro a7 f k; refine vG ?_; refine u9 a7 ?_; refine aT f ?_; exact k) : p := h ⟨⟩ f k
theorem ag {F p r q : Prop} (n : Nat) (f : F) (k : q) (h : sD n → F → r → p := by intro a7 f k; refine vG ?_; refine u9 a7 ?_; refine aT f ?_; exact k) (g : q → r := by intro k; (repeat (refine ⟨by clear k; first | assumption | omega | decide | (simp; done) | (simp_all; done) | (simp; omega),?_⟩)); exact k) : p := h ⟨⟩ f (g k)
theorem an {F p q : Prop} (f : F) (k : q) (h : F → q → p := by intro f k; refine vG ?_; refine aT f ?_; exact k) : p := h f k
theorem aU {F p r q : Prop} (f : F) (k : q) (h : F → r → p := by intro f k; refine vG ?_; refine aT f ?_; exact k) (g : q → r := by intro k; (repeat (refine ⟨by clear k; first | assumption | omega | decide | (simp; done) | (simp_all; done) | (simp; omega),?_⟩)); exact k) : p := h f (g k)
theorem aaJ {p q : Prop} (n : Nat) (k : q) (h : sD n → q → p := by intro a7 k; refine vF ?_; refine DF a7 ?_; refine c5 ?_; exact k) : p := h ⟨⟩ k
theorem DP {p r q : Prop} (n : Nat) (k : q) (h : sD n → r → p := by intro a7 k; refine vF ?_; refine DF a7 ?_; refine c5 ?_; exact k) (g : q → r := by intro k; (repeat (refine ⟨by clear k; first | assumption | omega | decide | (simp; done) | (simp_all; done) | (simp; omega),?_⟩)); exact k) : p := h ⟨⟩ (g k)
theorem aaI {p q : Prop} (k : q) (h : q → p := by intro k; refine vF ?_; refine c5 ?_; exact k) : p := h k
theorem aaK {p r q : Prop} (k : q) (h : r → p := by intro k; refine vF ?_; refine c5 ?_; exact k) (g : q → r := by intro k; (repeat (refine ⟨by clear k; first | assumption | omega | decide | (simp; done) | (simp_all; done) | (simp; omega),?_⟩)); exact k) : p := h (g k)
theorem gj {F p q : Prop} (n : Nat) (f : F) (k : q) (h : sD n → F → q → p := by intro a7 f k; refine vF ?_; refine DF a7 ?_; refine aT f ?_; exact k) : p := h ⟨⟩ f k
theorem cR {F p r q : Prop} (n : Nat) (f : F) (k : q) (h : sD n → F → r → p := by intro a7 f k; refine vF ?_; refine DF a7 ?_; refine aT f ?_; exact k) (g : q → r := by intro k; (repeat (refine ⟨by clear k; first | assumption | omega | decide | (simp; done) | (simp_all; done) | (simp; omega),?_⟩)); exact k) : p := h ⟨⟩ f (g k)
theorem lJ {F p q : Prop} (f : F) (k : q) (h : F → q → p := by intro f k; refine vF ?_; refine aT f ?_; exact k) : p := h f k
theorem pc {F p r q : Prop} (f : F) (k : q) (h : F → r → p := by intro f k; refine vF ?_; refine aT f ?_; exact k) (g : q → r := by intro k; (repeat (refine ⟨by clear k; first | assumption | omega | decide | (simp; done) | (simp_all; done) | (simp; omega),?_⟩)); exact k) : p := h f (g k)

end Go.Proofs.YtkmbcjnaaokilaaGreatDoor
namespace Go.Proofs.YtkmbcjnaaokilaaGreatDoor
set_option linter.unusedSimpArgs false
set_option linter.unusedVariables false
open Go.ChangeShapes Go.WideShapes Go.ChangeAt Go.RowKit Go.Deep

def pP (W : World) : bg := fun k => W.heap[k]?
theorem Zr (W : World) (pe : uP (pP W) := by exact fun p hp => absurd hp (by simp [yC])) : Sub (pP W) W := ⟨fun _ _ h => h,pe⟩

section
variable {H : Type} {enc : TypeId × Value → H} {P : Program} {W : World} {base : Nat} {spare : Nat → Bool} {held : Bool} {α : Type} {R : wj α} {k : Nat}

theorem u4 {a : Addr} {u : Value} (h : W.cell? a = some u) : ∃ cells t cS,a.spot = none ∧ W.heap[a.block]? = some (.cells cells t cS) ∧ cells[a.off]? = some u := by
 unfold World.cell? at h
 split at h
 ·rename_i c e cS aJ
  split at h
  ·cases h
  ·rename_i ao
   exact ⟨c,e,cS,by simpa using ao,aJ,h⟩
 ·cases h

theorem ahV (a : Addr) (n : Nat) (h : ∀ i,i < n → ∃ es x,es.length = k ∧ (∀ u ∈ es,u.oneCell' = true) ∧ R (pP W) es x ∧ ∀ j u,es[j]? = some u → W.cell? (a.add (i * k + j)) = some u) :
  ∃ xs l,l.length = n ∧ jO k R (pP W) xs l ∧ (∀ u ∈ xs,u.oneCell' = true) ∧ ∀ j u,xs[j]? = some u → W.cell? (a.add j) = some u := by
 induction n with
 | zero => exact ⟨[],[],rfl,jO.nil,by simp,fun j u hu => by simp at hu⟩
 | succ n dO =>
  obtain ⟨xs,l,af,aj,aw,aV⟩ := dO (fun i aq => h i (by omega))
  obtain ⟨es,x,a2,a8,cg,e7⟩ := h n (by omega)
  refine ⟨xs ++ es,l ++ [x],by simp [af],aj.append (jO.one a2 cg),fun u hu => by rcases List.mem_append.1 hu with h | h; exact aw u h; exact a8 u h,fun j u hu => ?_⟩
  rcases Nat.lt_or_ge j xs.length with aM | aM
  ·rw [List.getElem?_append_left aM] at hu; exact aV j u hu
  ·rw [List.getElem?_append_right aM] at hu
   have := e7 _ u hu
   rw [aj.1,af] at this aM
   rw [show n * k + (j - n * k) = j from by omega] at this
   exact this

theorem ahU {t e : TypeId} {fuel : Nat} {cs : List Value} {x : DataW H × List MemPlace} (aO : P.underlying t = some (.slice e)) (hC : P.cellsOf e = k)
  (ba : ∀ n cs x,DataW.trod enc P W base spare held n e cs = some x → cs.length = k → (∀ u ∈ cs,u.oneCell' = true) ∧ ∃ v,R (pP W) cs v)
  (h : DataW.trod enc P W base spare held fuel t cs = some x) : ∃ s : WK,∃ l,cs = [.slice s.a s.n s.c] ∧ m5 k R (pP W) s.a s.n s.c l ∧ s.c ≤ maxLen := by
 rcases open_slice aO h with ⟨rfl,_⟩ | ⟨a,len,cap,m,n,D,ks,rfl,aJ,aF,hm,n8,ar,aq⟩
 ·exact ⟨⟨none,0,0⟩,[],rfl,m5.nil R _,Nat.zero_le _⟩
 ·have kC : len ≤ m := by rw [n8]; split <;> omega
  obtain ⟨xs,l,af,aj,aw,aV⟩ := ahV (W := W) (R := R) (k := k) a len (fun i AZ => by
   obtain ⟨cs',az,vA⟩ := aq i (by omega)
   rw [hC] at az
   obtain ⟨_,gz,eA⟩ := World.cells?_some az
   obtain ⟨ay,v,bj⟩ := ba _ _ _ vA gz
   refine ⟨cs',v,gz,ay,bj,fun j u hu => ?_⟩
   have aM : j < k := by have := (List.getElem?_eq_some_iff.1 hu).1; omega
   have := eA j aM
   rw [Go.Deep.add_add] at this
   rw [this,hu])
  refine ⟨⟨some a,len,cap⟩,l,rfl,⟨xs,af,aF,fun e => (by cases e),aj,aw,fun j u hu => ?_⟩,hm⟩
  obtain ⟨CA,BD⟩ : ∃ u,xs[0]? = some u := ⟨xs[0]'(by have := (List.getElem?_eq_some_iff.1 hu).1; omega),by simp⟩
  obtain ⟨dn,t0,f0,g1,bQ,gy⟩ := u4 (aV 0 CA BD)
  obtain ⟨cells,t',cS,Aw,vf,Ax⟩ := u4 (aV j u hu)
  have aZ : a.add 0 = a := by simp [Addr.add]
  rw [aZ] at g1
  have aJ : (a.add j).block = a.block := by unfold Addr.add; split <;> rfl
  have ay : (a.add j).off = a.off + j := by unfold Addr.add; split <;> simp_all
  rw [aJ] at vf
  rw [ay] at Ax
  exact ⟨a.block,a.off,cells,t',cS,by cases a; simp_all,vf,Ax⟩
end
end Go.Proofs.YtkmbcjnaaokilaaGreatDoor
namespace Go.Proofs.YtkmbcjnaaokilaaGreatDoor
set_option linter.unusedSimpArgs false
set_option linter.unusedVariables false
open Go.RowKit Go.Maps
abbrev aI (n : Int) : av := .v (.int .i64 n)
abbrev fX (n : Int) : av := .v (.int .u32 n)
abbrev dH (b : Bool) : av := .v (.bool b)
structure bq where
 val : Int
 eZ : Int
 ref : Int
abbrev dj (w : bq) : List av := [aI w.val,fX w.eZ,fX w.ref]
theorem aei : (Tryz.prog.info? 79).map (fun i => (i.zero,i.size,i.bytes)) = some (some (.agg #[.int .i64 0,.int .u32 0,.int .u32 0]),3,16) := by kernel_rfl
theorem Gf {w : World} {ops : Array Oper} {rest : List Oper} {o : Oper} {a : Act} {Q : Exit → Act → World → Prop} (aH : o.guard = none) (x y : Operand) (t e : TypeId) (i : TypeInfo)
  (jX : o.op = .call ⟨.builtin .append,#[x,y],#[t,t]⟩) (aO : Tryz.prog.underlying t = some (.slice e)) (aq : Tryz.prog.info? e = some i) (b bP : Option Addr) (c2 : Nat) (ar : a.eval x = .slice b 0 0) (a1 : a.eval y = .slice bP 0 c2)
  (fU : wpList Tryz.prog ops Q rest (a.put o.dst (.slice b 0 0)) w) : wpList Tryz.prog ops Q (o :: rest) a w := by
 refine wpList_plain aH fun o4 Ia => ?_
 have aF : ∀ (x : Addr),(loadCells x 0).run Tryz.prog w = .ok #[] w := fun x => by simpa using run_loadCells_list (P := Tryz.prog) w x [] (by simp)
 have c8 : (Builtin.append_ #[t,t] o.type #[.slice b 0 0,.slice bP 0 c2]).run Tryz.prog w = .ok (.slice b 0 0) w := by
  cases b <;> cases bP <;> simp [Builtin.append_,run_underlying aO,run_sizeOf aq,Builtin.lenOf,Builtin.firstCells,aF,storeCells]
 unfold Oper.wp
 simp [execOp,jX,resolve,ar,a1,invoke,builtin,c8]
 exact Ia _ _ fU
theorem ts.ok {f : FuncId} {args : List av} {e : TypeId} {k : Nat} {es : List (List av)} (h : ts f args e k es) : cu f args (.au k 0 es) := by
 intro w H vs ao bj
 refine Calls.mono (h w H vs ao bj) ?_
 rintro fw w' ⟨v,xs,rfl,aH,fz,jF,ba,xg⟩
 by_cases bb : es = []
 ·subst bb
  obtain ⟨a,rfl⟩ := xg rfl
  exact Cc (c := fun v : Value => v) _ H aH (.au .nil rfl (Nat.le_refl _) (Nat.zero_le _) ⟨fun _ => rfl,fun _ _ => rfl⟩ (fun _ => rfl) (fun j u hu => by simp at hu))
 ·have hp : 0 < es.length := by cases es with | nil => exact absurd rfl bb | cons => simp
  obtain ⟨g,cap,cur,rfl,s2,sm,sn,so,tf,sq⟩ := B2 jF ba rfl hp
  have IA : H g = none := ao.none s2
  refine Cc (c := fun v : Value => v) _ (H.add g (.cells cur e (0,0))) (aH.add sm s2) (.au (ba.mono (bg.wB IA)) rfl sn so ⟨fun e => (by cases e),fun _ e => absurd (List.eq_nil_of_length_eq_zero e) bb⟩ (fun e => (by cases e)) (fun j u hu => ⟨g,0,cur,e,(0,0),rfl,bg.wA _ _ _,?_⟩))
  rw [← sq,List.getElem?_take] at hu
  split at hu
  ·simpa using hu
  ·cases hu
theorem agD {f : FuncId} {xs : List Value} {r : Value} (h : ∀ w,uX Tryz.prog f xs.toArray w r) (ax : r.oneCell' = true) : cu f (xs.map .v) (.v r) := by
 intro w H vs ao bj
 have e : vs = xs := by
  clear h
  induction xs generalizing vs with
  | nil => cases bj; rfl
  | cons x xs dO => cases bj with | cons af t => cases af; rw [dO _ t]
 subst e
 exact uX.use (h w) fun w' aJ => Cc (c := fun v : Value => v) r H (Grow.afw ao aJ) (.v ax)
theorem Hs (a b : Bool) : sA 4 (.v (.bool a)) (.v (.bool b)) (a == b) := by
 intro H E w l4 iD eX eI ao af aj
 cases af; cases aj
 have hu := Tryz.underlying4
 have aS := run_equal_bool (P := Tryz.prog) w 4 a b hu
 constructor
 ·simp [eqGuard,binOp,aS]
 ·simp [eqGuard,binOp,aS]
theorem EZ (f : Int → Option Int) (k : Int) : (Option.map aI (f k)).getD (.v (.int .i64 0)) = aI ((f k).getD 0) := by cases f k <;> rfl

theorem akS (a b : bq) (w : World) : (binOp .eql 79 (.agg #[.int .i64 a.val,.int .u32 a.eZ,.int .u32 a.ref]) (.agg #[.int .i64 b.val,.int .u32 b.eZ,.int .u32 b.ref])).run Tryz.prog w = .ok (.bool (a.val == b.val && (a.eZ == b.eZ && a.ref == b.ref))) w := by
 have iD := Tryz.underlying2
 have ti := Tryz.underlying77
 have bP := Tryz.isAgg2
 have cK := Tryz.isAgg77
 have x6 := Tryz.sizeOf2
 have anS := Tryz.sizeOf77
 have aN : Tryz.prog.underlying 79 = some (.struct (Tryz.prog.fieldsOf 79)) := by kernel_rfl
 have hp : Tryz.prog.stoodInHeld 79 = false := by kernel_rfl
 rw [run_eql_struct,show (10000 : Nat) = 9999 + 1 from rfl,run_equalIn_agg w 9999 79 _ _ aN hp]
 simp only [Program.fieldsOf,Tryz.underlying79]
 go_simp
 by_cases af : a.val = b.val <;> by_cases aj : a.eZ = b.eZ <;> by_cases aw : a.ref = b.ref <;> simp [af,aj,aw]
theorem Ny (a b : bq) : sA 79 (.agg (dj a)) (.agg (dj b)) (a.val == b.val && (a.eZ == b.eZ && a.ref == b.ref)) := by
 intro H E w l4 iD eX eI ao af aj
 have e : ∀ {x : bq} {u : Value},ca H E (.agg (dj x)) u → u = .agg #[.int .i64 x.val,.int .u32 x.eZ,.int .u32 x.ref] := fun h => by
  cases h with
  | agg h _ =>
   cases h with
   | cons eJ h =>
    cases h with
    | cons fu h =>
     cases h with
     | cons fM h =>
      cases h
      cases eJ; cases fu; cases fM
      rfl
 obtain rfl := e af
 obtain rfl := e aj
 have aS := akS a b w
 have aH : Tryz.prog.eqGuardType Tryz.prog.depth 79 = false := by kernel_rfl
 refine ⟨by simpa [eqGuard,aH] using aS,?_⟩
 simp only [binOp,Sem.run_bind] at aS
 cases ax : Sem.run Tryz.prog (Op.equal 79 (.agg #[.int .i64 a.val,.int .u32 a.eZ,.int .u32 a.ref]) (.agg #[.int .i64 b.val,.int .u32 b.eZ,.int .u32 b.ref])) w with
 | ok v fh =>
  rw [ax] at aS
  simp at aS
  obtain ⟨rfl,rfl⟩ := aS
  simp [eqGuard,aH,binOp,ax]
 | halt x fh => rw [ax] at aS; simp at aS
end Go.Proofs.YtkmbcjnaaokilaaGreatDoor
set_option linter.defProp false
namespace Go.Proofs.YtkmbcjnaaokilaaGreatDoor
set_option linter.unusedSimpArgs false
set_option linter.unusedVariables false
open Go.RowKit Go.Maps

def qo : b4 → Bool
 | .ah _ | .aC .. | .a3 .. | .oC .. | .dU .. | .mi .. | .dE .. | .g2 .. | .kk .. | .len _ | .mj .. | .ext .. | .bin .. | .eqv .. | .not _ | .lE .. | .call .. | .kt .. | .jY .. | .ig .. | .pick .. | .kH .. | .k3 _ | .gen .. => true
 | _ => false
def B9 : Operand → List Nat
 | .tmp t => [t]
 | _ => []
def cl.reads (o : cl) : List Nat := o.op.cP.flatMap B9 ++ (match o.g with | some (t,_) => [t] | none => [])
def lr (S : ak) : av → Bool
 | .own i => (match al S.O i with | some (.fS _) => true | _ => false)
 | .v _ => true
 | .agg _ => true
 | .bR _ => true
 | .au .. => true
 | .mp .. => true
 | .fn .. => true
 | .dr .. => true
 | .dc .. => true
 | .any => true
 | .ptr .. => true
def og (S : ak) : av → Bool
 | .own _ => false
 | .ptr .. => false
 | .agg cs => cs.all (lr S)
 | .v _ => true
 | .bR _ => true
 | .au .. => true
 | .mp .. => true
 | .fn .. => true
 | .dr .. => true
 | .dc .. => true
 | .any => true
def oS (S : ak) (x : Operand) : Bool := match S.bf x with
 | some s => og S s
 | none => true
def o0 (o : cl) (S : ak) (k : av → Prop) : Prop :=
 match o.g with
 | none => o.op.fA.all (oS S) = true ∧ cj o.op S k
 | some (t,b) => cL (S.bf (.tmp t)) fun s => match s with
  | .v (.bool ev) => (ev = b → o.op.fA.all (oS S) = true ∧ cj o.op S k) ∧ (ev = !b → k (.bR []))
  | .bR [] => k (.bR [])
  | _ => False
def m6 : List cl → ak → (ak → Prop) → Prop
 | [],S,K => K S
 | o :: l,S,K => o0 o S fun s => m6 l (S.bX o.d s) K
def nP (S : ak) (x : Operand) : Option Nat := match S.bf x with
 | some (.ptr i _ _) => (match al S.O i with | some (.box ..) => some i | _ => none)
 | _ => none
def BV : Option Nat → Option Nat → Bool
 | some i,some j => !(i == j)
 | _,_ => true
def oo (S : ak) (q : cl) : Bool := match q.op with
 | .st _ x _ => (nP S x).isSome
 | _ => false
def oP (S : ak) (jM : List cl) (o : cl) : Bool := match o.op with
 | .aC x _ => jM.all fun q => match q.op with | .st _ y _ => BV (nP S x) (nP S y) | _ => true
 | _ => true
def Ac (ps jM : List cl) (S : ak) : Bool := jM.all (oo S) && ps.all (oP S jM)
def fl (l : List cl) (r : List Nat) : List cl := r.filterMap fun i => l[i]?

structure iE (S S' : ak) : Prop where
 o : S.O = S'.O
 n : S.n = S'.n
 t : ∀ t,al S.T t = al S'.T t
def js (S : ak) (i : Nat) : Option bl := match al S.O i with
 | some (.box ..) => none
 | o => o
structure o5 (S S' : ak) (l : List Operand) : Prop where
 v : ∀ i,js S i = js S' i
 t : ∀ x ∈ l,∀ t ∈ B9 x,al S.T t = al S'.T t
theorem zx {S S' : ak} {i : Nat} (h : js S i = js S' i) : al S.O i = al S'.O i ∨ ((al S.O i = none ∨ ∃ t cs,al S.O i = some (.box t cs)) ∧ (al S'.O i = none ∨ ∃ t cs,al S'.O i = some (.box t cs))) := by
 unfold js at h
 cases e : al S.O i with
 | none =>
  rw [e] at h
  cases e1 : al S'.O i with
  | none => exact .inl rfl
  | some o => rw [e1] at h; cases o <;> first | (cases h; done) | exact .inr ⟨.inl rfl,.inr ⟨_,_,rfl⟩⟩
 | some o =>
  rw [e] at h
  cases e1 : al S'.O i with
  | none => rw [e1] at h; cases o <;> first | (cases h; done) | exact .inr ⟨.inr ⟨_,_,rfl⟩,.inl rfl⟩
  | some o' =>
   rw [e1] at h
   cases o <;> cases o' <;> first | exact .inr ⟨.inr ⟨_,_,rfl⟩,.inr ⟨_,_,rfl⟩⟩ | (cases h; done) | (simp only at h; exact .inl h)
theorem KD {S S' : ak} (h : ∀ i,js S i = js S' i) (x : av) : S.res x = S'.res x := by
 cases x with
 | own i =>
  show (match al S.O i with | some (.fS x) => x | _ => .own i) = (match al S'.O i with | some (.fS x) => x | _ => .own i)
  rcases zx (h i) with e | ⟨e | ⟨_,_,e⟩,e1 | ⟨_,_,e1⟩⟩
  ·rw [e]
  all_goals rw [e,e1]
 | ptr i a b =>
  show (match al S.O i with | some (.fS (.dc e 0)) => av.dc e b | _ => .ptr i a b) = (match al S'.O i with | some (.fS (.dc e 0)) => av.dc e b | _ => .ptr i a b)
  rcases zx (h i) with e | ⟨e | ⟨_,_,e⟩,e1 | ⟨_,_,e1⟩⟩
  ·rw [e]
  all_goals rw [e,e1]
 | _ => rfl
theorem o5.bf {S S' : ak} {l : List Operand} (h : o5 S S' l) {x : Operand} (ar : x ∈ l) : S.bf x = S'.bf x := by
 cases x with
 | tmp t =>
  show (al S.T t).map S.res = (al S'.T t).map S'.res
  rw [h.t _ ar t (by simp [B9])]
  cases al S'.T t with
  | none => rfl
  | some y => simp [KD h.v]
 | const v => rfl
 | func f => rfl
 | global g => rfl
theorem M1 {S S' : ak} (h : ∀ i,js S i = js S' i) (x : av) : S.ma x = S'.ma x := by unfold ak.ma; rw [KD h]
theorem M4 {S S' : ak} (h : ∀ i,js S i = js S' i) : ∀ l,S.qF l = S'.qF l
 | [] => rfl
 | x :: l => by simp only [ak.qF]; rw [M1 h,M4 h l]
theorem ZA {S S' : ak} (h : ∀ i,js S i = js S' i) (x : av) : S.arg x = S'.arg x := by
 cases x <;> first | rfl | (simp only [ak.arg]; rw [M4 h]) | (simp only [ak.arg]; rw [M1 h])
theorem GX {S S' : ak} (h : ∀ i,js S i = js S' i) : S.arg = S'.arg := funext fun x => ZA h x
theorem yk {S S' : ak} {l : List Operand} (h : o5 S S' l) : ∀ {xs : List Operand},(∀ x ∈ xs,x ∈ l) → S.args xs = S'.args xs
 | [],_ => rfl
 | x :: xs,ar => by
  simp only [ak.args]
  rw [h.bf (ar x (List.mem_cons_self ..)),GX h.v,yk h (fun y a1 => ar y (List.mem_cons_of_mem _ a1))]
theorem Nv {S S' : ak} {l : List Operand} (h : o5 S S' l) (k : Nat) : ∀ {xs : List Operand},(∀ x ∈ xs,x ∈ l) → S.elems k xs = S'.elems k xs
 | [],_ => rfl
 | x :: xs,ar => by
  simp only [ak.elems]
  rw [h.bf (ar x (List.mem_cons_self ..)),GX h.v,Nv h k (fun y a1 => ar y (List.mem_cons_of_mem _ a1))]
theorem fill_eq {S S' : ak} {l : List Operand} (h : o5 S S' l) : ∀ {ps : List (Nat × Nat × Operand)} (cs : List av),(∀ p ∈ ps,p.2.2 ∈ l) → rB S cs ps = rB S' cs ps
 | [],_,_ => rfl
 | (a,b,x) :: ps,cs,ar => by
  simp only [rB]
  rw [h.bf (ar _ (List.mem_cons_self ..))]
  congr 1
  funext s
  split
  ·exact fill_eq h _ (fun y a1 => ar y (List.mem_cons_of_mem _ a1))
  ·rfl
theorem Q5 {S S' : ak} {l : List Operand} (h : o5 S S' l) (d : Int) {o : Option Operand} (ay : ∀ x ∈ o,x ∈ l) : S.q6 d o = S'.q6 d o := by
 cases o with
 | none => rfl
 | some x => simp only [ak.q6]; rw [h.bf (ay x rfl)]
theorem pz {α : Type} {o : Option α} {k dA : α → Prop} (h : cL o k) (g : ∀ x,k x → dA x) : cL o dA := by
 cases o with
 | none => exact h
 | some x => exact g x h
theorem mem_reads {o : cl} {x : Operand} {t : Nat} (ar : x ∈ o.op.cP) (aO : t ∈ B9 x) : t ∈ o.reads :=
 List.mem_append.2 (.inl (List.mem_flatMap.2 ⟨x,ar,aO⟩))

theorem aaz {op : b4} {S S' : ak} {k : av → Prop} (hp : qo op = true) (h : o5 S S' op.cP) (aF : ∀ x fZ,op = .aC x fZ → ∀ s,S.bf x = some s → S.at s = S'.at s) (he : cj op S k) : cj op S' k := by
 have O : ∀ {x},x ∈ op.cP → S'.bf x = S.bf x := fun ar => (h.bf ar).symm
 cases op with
 | aC x fZ =>
  simp only [cj] at he ⊢
  rw [O (by simp [b4.cP])]
  obtain ⟨s,ao,he⟩ := bW he
  rw [ao,ij,← aF x fZ rfl s ao]; exact he
 | dU x i dx =>
  simp only [cj] at he ⊢
  rw [O (by simp [b4.cP]),O (by simp [b4.cP])]
  refine pz he fun s he => pz he fun j he => ?_
  split at he
  ·exact he
  ·rcases zx (h.v _) with e | ⟨e | ⟨_,_,e⟩,_⟩
   ·rw [e] at he; exact he
   all_goals (rw [e] at he; exact he.elim)
  ·exact he.elim
 | len x =>
  simp only [cj] at he ⊢
  rw [O (by simp [b4.cP])]
  refine pz he fun s he => ?_
  cases s with
  | own q =>
   simp only at he ⊢
   rcases zx (h.v q) with e | ⟨e | ⟨_,_,e⟩,_⟩
   ·rw [← e]; exact he
   all_goals (rw [e] at he; exact he.elim)
  | _ => exact he
 | mj bc m key z ok =>
  simp only [cj] at he ⊢
  rw [O (by simp [b4.cP]),O (by simp [b4.cP])]
  refine pz he fun s he => pz he fun j he => ?_
  split at he
  ·exact he
  ·rcases zx (h.v _) with e | ⟨e | ⟨_,_,e⟩,_⟩
   ·rw [e] at he; exact he
   all_goals (rw [e] at he; exact he.elim)
  ·exact he.elim
 | ah x => simp only [cj] at he ⊢; rw [O (by simp [b4.cP])]; exact he
 | a3 x off => simp only [cj] at he ⊢; rw [O (by simp [b4.cP])]; exact he
 | oC x off fZ => simp only [cj] at he ⊢; rw [O (by simp [b4.cP])]; exact he
 | mi x i dx n => simp only [cj] at he ⊢; rw [O (by simp [b4.cP]),O (by simp [b4.cP])]; exact he
 | dE dz ps => simp only [cj] at he ⊢; rw [← fill_eq h _ (fun p hp => List.mem_map.2 ⟨p,hp,rfl⟩)]; exact he
 | g2 dx xs => simp only [cj] at he ⊢; rw [← Nv h dx (xs := xs) (fun x ar => ar)]; exact he
 | kk dx x jo aq mx =>
  simp only [cj] at he ⊢
  rw [O (by simp [b4.cP])]
  refine pz he fun s he => ?_
  cases s with
  | au k2 g es =>
   simp only at he ⊢
   refine ⟨he.1,?_⟩
   have he := he.2
   rw [← Q5 h 0 (fun y a1 => by subst a1; simp [b4.cP])]
   refine pz he fun l he => ?_
   rw [← Q5 h _ (fun y a1 => by subst a1; simp [b4.cP])]
   refine pz he fun q he => ⟨he.1,he.2.1,he.2.2.1,?_⟩
   have he := he.2.2.2
   cases mx with
   | none => exact he
   | some o => simp only at he ⊢; rw [O (by simp [b4.cP])]; exact he
  | _ => exact he
 | ext x i => simp only [cj] at he ⊢; rw [O (by simp [b4.cP])]; exact he
 | bin op x y => simp only [cj] at he ⊢; rw [O (by simp [b4.cP]),O (by simp [b4.cP])]; exact he
 | eqv neg t x y => simp only [cj] at he ⊢; rw [O (by simp [b4.cP]),O (by simp [b4.cP])]; exact he
 | not x => simp only [cj] at he ⊢; rw [O (by simp [b4.cP])]; exact he
 | lE dx x => simp only [cj] at he ⊢; rw [O (by simp [b4.cP])]; exact he
 | call f xs => simp only [cj] at he ⊢; rw [← yk h (xs := xs) (fun x ar => ar)]; exact he
 | gen op xs => simp only [cj] at he ⊢; rw [← yk h (xs := xs) (fun x ar => ar)]; exact he
 | kt x xs => simp only [cj] at he ⊢; rw [O (by simp [b4.cP]),← yk h (fun x ar => by simp [b4.cP,ar])]; exact he
 | jY f a b => simp only [cj] at he ⊢; rw [← yk h (fun x ar => by simp [b4.cP,ar]),← yk h (fun x ar => by simp [b4.cP,ar])]; exact he
 | ig t x => simp only [cj] at he ⊢; rw [O (by simp [b4.cP]),← GX h.v]; exact he
 | pick c a b => simp only [cj] at he ⊢; rw [O (by simp [b4.cP]),O (x := a) (by simp [b4.cP]),O (x := b) (by simp [b4.cP])]; exact he
 | kH mx x y => simp only [cj] at he ⊢; rw [O (by simp [b4.cP]),O (by simp [b4.cP])]; exact he
 | k3 x => simp only [cj] at he ⊢; rw [O (by simp [b4.cP])]; exact he
 | _ => cases hp
theorem uy {α : Type} {o : Option α} {k : av → Prop} {f : α → (av → Prop) → Prop} (h : cL o fun x => f x k) (g : ∀ x,f x k → ∃ s,(∀ dA : av → Prop,dA s → f x dA) ∧ k s) : ∃ s,(∀ dA : av → Prop,dA s → cL o fun x => f x dA) ∧ k s := by
 cases o with
 | none => exact h.elim
 | some x => obtain ⟨s,af,aj⟩ := g x h; exact ⟨s,af,aj⟩
theorem Np {cs : List av} {off : Nat} {fZ : Option Nat} {k : av → Prop} (h : cut cs off fZ k) : ∃ s,(∀ dA : av → Prop,dA s → cut cs off fZ dA) ∧ k s := by
 unfold cut at h ⊢
 cases fZ with
 | none => exact uy (f := fun x k => k x) h fun x ar => ⟨x,fun _ h => h,ar⟩
 | some n => exact ⟨_,fun _ dh => ⟨h.1,dh⟩,h.2⟩
theorem Hu {op : b4} {S : ak} {k : av → Prop} (hp : qo op = true) (he : cj op S k) : ∃ s,(∀ dA : av → Prop,dA s → cj op S dA) ∧ k s := by
 cases op with
 | ah x => exact uy (f := fun x k => k x) he fun x ar => ⟨x,fun _ h => h,ar⟩
 | aC x fZ =>
  simp only [cj] at he ⊢
  exact uy (f := fun s k => cL (S.at s) fun p => cut p.1 p.2 fZ k) he fun s he => uy (f := fun (p : List av × Nat) k => cut p.1 p.2 fZ k) he fun p he => Np he
 | a3 x off =>
  simp only [cj] at he ⊢
  obtain ⟨s,ao,he⟩ := bW he
  simp only [ao,ij]
  cases s <;> first | exact he.elim | exact ⟨_,fun _ h => h,he⟩
 | oC x off fZ =>
  simp only [cj] at he ⊢
  obtain ⟨s,ao,he⟩ := bW he
  simp only [ao,ij]
  cases s <;> first | exact he.elim | exact Np he
 | dU x i dx =>
  simp only [cj] at he ⊢
  obtain ⟨s,ao,he⟩ := bW he
  obtain ⟨j,aM,he⟩ := bW he
  simp only [ao,aM,ij]
  split at he
  ·obtain ⟨a2,a8,cg⟩ := he
   obtain ⟨e,dF,h9⟩ := bW cg
   simp only [dF,ij]
   exact ⟨_,fun _ h => ⟨a2,a8,h⟩,h9⟩
  ·split at he
   ·rename_i aH
    try simp only [aH]
    exact ⟨_,fun _ h => ⟨he.1,he.2.1,he.2.2.1,h⟩,he.2.2.2⟩
   ·rename_i aH
    try simp only [aH]
    exact ⟨_,fun _ h => ⟨he.1,he.2.1,he.2.2.1,h⟩,he.2.2.2⟩
   ·exact he.elim
  ·exact he.elim
 | mi x i dx N =>
  simp only [cj] at he ⊢
  obtain ⟨s,ao,he⟩ := bW he
  obtain ⟨j,aM,he⟩ := bW he
  simp only [ao,aM,ij]
  split at he
  ·exact ⟨_,fun _ h => ⟨he.1,he.2.1,h⟩,he.2.2⟩
  ·exact ⟨_,fun _ h => ⟨he.1,he.2.1,h⟩,he.2.2⟩
  ·exact he.elim
 | dE dz ps => exact uy (f := fun cs k => k (.agg cs)) he fun x ar => ⟨_,fun _ h => h,ar⟩
 | g2 dx xs => exact uy (f := fun (es : List (List av)) (k : av → Prop) => es.length ≤ 1000000 ∧ k (.au dx 0 es)) he fun x ar => ⟨_,fun _ h => ⟨ar.1,h⟩,ar.2⟩
 | kk dx x jo aq mx =>
  simp only [cj] at he ⊢
  obtain ⟨s,ao,he⟩ := bW he
  simp only [ao,ij]
  split at he
  ·obtain ⟨fs,he⟩ := he
   obtain ⟨l,aF,he⟩ := bW he
   obtain ⟨q,aS,he⟩ := bW he
   simp only [aF,aS,ij]
   obtain ⟨a2,a8,cg,he⟩ := he
   cases mx with
   | none => exact ⟨_,fun _ h => ⟨fs,a2,a8,cg,h⟩,he⟩
   | some o =>
    simp only at he ⊢
    obtain ⟨j,aM,he⟩ := bW he
    simp only [aM,ij]
    split at he
    ·exact ⟨_,fun _ h => ⟨fs,a2,a8,cg,he.1,he.2.1,h⟩,he.2.2⟩
    ·exact he.elim
  ·exact he.elim
 | len x =>
  simp only [cj] at he ⊢
  obtain ⟨s,ao,he⟩ := bW he
  simp only [ao,ij]
  split at he
  ·exact ⟨_,fun _ h => h,he⟩
  ·split at he
   ·rename_i aH
    try simp only [aH]
    exact ⟨_,fun _ h => h,he⟩
   ·rename_i aH
    try simp only [aH]
    exact ⟨_,fun _ h => h,he⟩
   ·exact he.elim
  ·exact he.elim
 | mj bc m key z ok =>
  simp only [cj] at he ⊢
  obtain ⟨s,ao,he⟩ := bW he
  obtain ⟨j,aM,he⟩ := bW he
  simp only [ao,aM,ij]
  split at he
  ·exact ⟨_,fun _ h => ⟨he.1,he.2.1,he.2.2.1,h⟩,he.2.2.2⟩
  ·split at he
   ·rename_i aH
    try simp only [aH]
    exact ⟨_,fun _ h => ⟨he.1,he.2.1,he.2.2.1,h⟩,he.2.2.2⟩
   ·exact he.elim
  ·exact he.elim
 | ext x i =>
  simp only [cj] at he ⊢
  obtain ⟨s,ao,he⟩ := bW he
  simp only [ao,ij]
  split at he
  ·exact uy (f := fun x k => k x) he fun x ar => ⟨x,fun _ h => h,ar⟩
  ·exact he.elim
 | bin op x y =>
  simp only [cj] at he ⊢
  obtain ⟨s,ao,he⟩ := bW he
  obtain ⟨j,aM,he⟩ := bW he
  simp only [ao,aM,ij]
  split at he
  ·obtain ⟨a2,he⟩ := he
   obtain ⟨r,ax,he⟩ := bW he
   simp only [ax,ij]
   exact ⟨_,fun _ h => ⟨a2,h⟩,he⟩
  ·exact he.elim
 | eqv neg t x y =>
  simp only [cj] at he ⊢
  obtain ⟨s,ao,he⟩ := bW he
  obtain ⟨j,aM,he⟩ := bW he
  simp only [ao,aM,ij]
  obtain ⟨b,af,aj⟩ := he
  exact ⟨_,fun _ h => ⟨b,af,h⟩,aj⟩
 | not x =>
  simp only [cj] at he ⊢
  obtain ⟨s,ao,he⟩ := bW he
  simp only [ao,ij]
  split at he
  ·exact ⟨_,fun _ h => h,he⟩
  ·exact he.elim
 | lE dx x =>
  simp only [cj] at he ⊢
  obtain ⟨s,ao,he⟩ := bW he
  simp only [ao,ij]
  split at he
  ·exact ⟨_,fun _ h => h,he⟩
  ·exact he.elim
 | call f xs =>
  simp only [cj] at he ⊢
  obtain ⟨s,ao,he⟩ := bW he
  simp only [ao,ij]
  obtain ⟨r,af,aj⟩ := he
  exact ⟨_,fun _ h => ⟨r,af,h⟩,aj⟩
 | kt x xs =>
  simp only [cj] at he ⊢
  obtain ⟨s,ao,he⟩ := bW he
  obtain ⟨l,aF,he⟩ := bW he
  simp only [ao,aF,ij]
  split at he
  ·obtain ⟨bb,r,af,aj⟩ := he
   exact ⟨_,fun _ h => ⟨bb,r,af,h⟩,aj⟩
  ·obtain ⟨f,hm,bb,r,af,aj⟩ := he
   exact ⟨_,fun _ h => ⟨f,hm,bb,r,af,h⟩,aj⟩
  ·exact he.elim
 | gen op xs =>
  simp only [cj] at he ⊢
  obtain ⟨s,ao,he⟩ := bW he
  simp only [ao,ij]
  obtain ⟨r,af,aj⟩ := he
  exact ⟨_,fun _ h => ⟨r,af,h⟩,aj⟩
 | jY f a b =>
  simp only [cj] at he ⊢
  obtain ⟨s,ao,he⟩ := bW he
  obtain ⟨l,aF,he⟩ := bW he
  simp only [ao,aF,ij]
  exact ⟨_,fun _ h => h,he⟩
 | ig t x => exact uy (f := fun s k => k (.dr t s)) he fun x ar => ⟨_,fun _ h => h,ar⟩
 | pick c a b =>
  simp only [cj] at he ⊢
  obtain ⟨s,ao,he⟩ := bW he
  simp only [ao,ij]
  split at he
  ·exact uy (f := fun x k => k x) he fun x ar => ⟨x,fun _ h => h,ar⟩
  ·exact he.elim
 | kH mx x y =>
  simp only [cj] at he ⊢
  obtain ⟨s,ao,he⟩ := bW he
  obtain ⟨j,aM,he⟩ := bW he
  simp only [ao,aM,ij]
  split at he
  ·exact ⟨_,fun _ h => ⟨he.1,h⟩,he.2⟩
  ·exact he.elim
 | k3 x =>
  simp only [cj] at he ⊢
  obtain ⟨s,ao,he⟩ := bW he
  simp only [ao,ij]
  split at he
  ·exact ⟨_,fun _ h => h,he⟩
  ·exact ⟨_,fun _ h => h,he⟩
  ·exact ⟨_,fun _ h => h,he⟩
  ·exact ⟨_,fun _ h => h,he⟩
  ·exact he.elim
 | _ => cases hp

theorem ag1 {S S' : ak} {l : List Operand} (h : o5 S S' l) (i : Nat) : lr S (.own i) = lr S' (.own i) := by
 show (match al S.O i with | some (.fS _) => true | _ => false) = (match al S'.O i with | some (.fS _) => true | _ => false)
 rcases zx (h.v i) with e | ⟨e | ⟨_,_,e⟩,e1 | ⟨_,_,e1⟩⟩
 ·rw [e]
 all_goals rw [e,e1]
theorem afl {S S' : ak} {l : List Operand} (h : o5 S S' l) {x : Operand} (ar : x ∈ l) : oS S x = oS S' x := by
 unfold oS
 rw [h.bf ar]
 cases S'.bf x with
 | none => rfl
 | some s =>
  cases s with
  | agg cs =>
   show cs.all (lr S) = cs.all (lr S')
   congr 1
   funext y
   cases y <;> first | rfl | exact ag1 h _
  | _ => rfl
theorem aa1 {S : ak} {i : Nat} (h : lr S (.own i) = true) : S.nu i = S := by
 change (match al S.O i with | some (.fS _) => true | _ => false) = true at h
 unfold ak.nu
 split at h
 ·rename_i e; rw [e]
 ·cases h
theorem Oe {S : ak} : ∀ {cs : List av},cs.all (lr S) = true → S.fm cs = S
 | [],_ => rfl
 | x :: cs,h => by
  simp only [List.all_cons,Bool.and_eq_true] at h
  have dO := Oe h.2
  cases x with
  | own i => show (S.nu i).fm cs = S; rw [aa1 h.1]; exact dO
  | _ => exact dO
theorem Of {S : ak} : ∀ {xs : List Operand},xs.all (oS S) = true → S.mc xs = S
 | [],_ => rfl
 | x :: xs,h => by
  simp only [List.all_cons,Bool.and_eq_true] at h
  have dO := Of h.2
  have af := h.1
  unfold oS at af
  unfold ak.mc
  cases e : S.bf x with
  | none => exact dO
  | some s =>
   rw [e] at af
   cases s with
   | own i => cases af
   | ptr i a b => cases af
   | agg cs => show (S.fm cs).mc xs = S; rw [Oe af]; exact dO
   | _ => exact dO
theorem ahc {op : b4} (hp : qo op = true) : ∀ x ∈ op.fA,x ∈ op.cP := by
 intro x ar
 cases op <;> first | (cases hp; done) | (cases ar; done) | (simp only [b4.fA,b4.cP] at ar ⊢; first | exact ar | (simp_all; done))
theorem ahd {S S' : ak} {op : b4} (hp : qo op = true) (h : o5 S S' op.cP) : op.fA.all (oS S) = op.fA.all (oS S') := by
 have : ∀ l : List Operand,(∀ x ∈ l,x ∈ op.cP) → l.all (oS S) = l.all (oS S') := by
  intro l
  induction l with
  | nil => intro _; rfl
  | cons x l dO => intro aF; simp only [List.all_cons]; rw [afl h (aF x (List.mem_cons_self ..)),dO (fun y a1 => aF y (List.mem_cons_of_mem _ a1))]
 exact this _ (ahc hp)
structure uZ (S S' : ak) (o : cl) : Prop where
 v : ∀ i,js S i = js S' i
 t : ∀ t ∈ o.reads,al S.T t = al S'.T t
 l : ∀ x fZ,o.op = .aC x fZ → ∀ s,S.bf x = some s → S.at s = S'.at s
theorem uZ.op {S S' : ak} {o : cl} (h : uZ S S' o) : o5 S S' o.op.cP := ⟨h.v,fun x ar t aO => h.t t (mem_reads ar aO)⟩
theorem F4 {o : cl} {S S' : ak} {k : av → Prop} (hp : qo o.op = true) (h : uZ S S' o) (he : o0 o S k) : o0 o S' k := by
 have run : (o.op.fA.all (oS S) = true ∧ cj o.op S k) → (o.op.fA.all (oS S') = true ∧ cj o.op S' k) := fun q => ⟨by rw [← ahd hp h.op]; exact q.1,aaz hp h.op h.l q.2⟩
 unfold o0 at he ⊢
 split at he
 ·exact run he
 ·rename_i t b aH
  have e : S'.bf (.tmp t) = S.bf (.tmp t) := by
   show (al S'.T t).map S'.res = (al S.T t).map S.res
   rw [h.t t (List.mem_append.2 (.inr (by rw [aH]; simp)))]
   cases al S'.T t with
   | none => rfl
   | some y => simp [KD h.v]
  rw [e]
  refine pz he fun s he => ?_
  split at he
  ·exact ⟨fun q => run (he.1 q),he.2⟩
  ·exact he
  ·exact he.elim
theorem ah0 {o : cl} {S : ak} {k : av → Prop} (hp : qo o.op = true) (he : o0 o S k) : ∃ s,(∀ dA : av → Prop,dA s → o0 o S dA) ∧ k s := by
 unfold o0 at he ⊢
 split at he
 ·obtain ⟨s,af,aj⟩ := Hu hp he.2
  exact ⟨s,fun dA h => ⟨he.1,af dA h⟩,aj⟩
 ·rename_i t b aH
  obtain ⟨s,ao,he⟩ := bW he
  simp only [ao,ij]
  split at he
  ·rename_i ev
   by_cases e : ev = b
   ·obtain ⟨s,af,aj⟩ := Hu hp (he.1 e).2
    exact ⟨s,fun dA h => ⟨fun q => ⟨(he.1 e).1,af dA h⟩,fun q => by subst e; cases ev <;> cases q⟩,aj⟩
   ·have e1 : ev = !b := by cases ev <;> cases b <;> simp_all
    exact ⟨_,fun dA h => ⟨fun q => absurd q e,fun _ => h⟩,he.2 e1⟩
  ·exact ⟨_,fun _ h => h,he⟩
  ·exact he.elim
theorem NN {d : Option Nat} {op : b4} {S : ak} {K : ak → Prop} (hp : qo op = true) (aW : op.fA.all (oS S) = true) (h : cj op S fun s => K (S.bX d s)) : fx d op S K := by
 have e := Of aW
 cases op with
 | call f xs => simp only [fx]; rw [e]; exact .inl (.inl h)
 | eqv b t x y => simp only [fx]; rw [e]; exact .inl h
 | kt x xs => simp only [fx]; rw [e]; exact .inl h
 | gen op xs => simp only [fx]; rw [e]; exact .inl h
 | _ => first | (cases hp; done) | (simp only [fx]; rw [e]; exact h)
theorem NI {o : cl} {S : ak} {K : ak → Prop} (hp : qo o.op = true) (h : o0 o S fun s => K (S.bX o.d s)) : jT o S K := by
 unfold o0 at h
 unfold jT
 split at h
 ·rename_i aH; rw [aH]; exact NN hp h.1 h.2
 ·rename_i t b aH
  rw [aH]
  refine pz h fun s h => ?_
  split at h
  ·exact ⟨fun q => NN hp (h.1 q).1 (h.1 q).2,h.2⟩
  ·exact h
  ·exact h.elim

inductive mu : List cl → ak → ak → Prop
 | nil {S} : mu [] S S
 | cons {o l S s b0} : qo o.op = true → (∀ k : av → Prop,k s → o0 o S k) → mu l (S.bX o.d s) b0 → mu (o :: l) S b0
theorem Ry : ∀ {l : List cl} {S : ak} {K : ak → Prop},l.all (fun o => qo o.op) = true → m6 l S K → ∃ b0,mu l S b0 ∧ K b0
 | [],S,K,_,h => ⟨S,.nil,h⟩
 | o :: l,S,K,hp,h => by
  simp only [List.all_cons,Bool.and_eq_true] at hp
  obtain ⟨s,af,aj⟩ := ah0 hp.1 h
  obtain ⟨b0,aw,aV⟩ := Ry hp.2 aj
  exact ⟨b0,.cons hp.1 af aw,aV⟩
theorem uC (S : ak) (d : Option Nat) (s : av) : (S.bX d s).O = S.O := by cases d <;> rfl
theorem Fq (S : ak) (d : Option Nat) (s : av) : (S.bX d s).n = S.n := by cases d <;> rfl
theorem za (S : ak) (d : Option Nat) (s : av) (t : Nat) : al (S.bX d s).T t = if d = some t then some s else al S.T t := by
 cases d with
 | none => rfl
 | some d =>
  show al ((d,s) :: dC S.T d) t = _
  rw [lj]
  by_cases e : d = t
  ·rw [if_pos e,if_pos (by rw [e])]
  ·rw [if_neg e,if_neg (by simpa using e)]
theorem ahe (S : ak) (d : Option Nat) (s : av) (i : Nat) (o : bl) : (S.bX d s).eK i o = (S.eK i o).bX d s := by cases d <;> rfl
theorem iE.refl (S : ak) : iE S S := ⟨rfl,rfl,fun _ => rfl⟩
theorem iE.trans {A B C : ak} (h : iE A B) (k : iE B C) : iE A C := ⟨h.o.trans k.o,h.n.trans k.n,fun t => (h.t t).trans (k.t t)⟩
theorem iE.symm {A B : ak} (h : iE A B) : iE B A := ⟨h.o.symm,h.n.symm,fun t => (h.t t).symm⟩
theorem iE.put {A B : ak} (h : iE A B) (d : Option Nat) (s : av) : iE (A.bX d s) (B.bX d s) :=
 ⟨by rw [uC,uC]; exact h.o,by rw [Fq,Fq]; exact h.n,fun t => by rw [za,za]; split; rfl; exact h.t t⟩
theorem iE.js {A B : ak} (h : iE A B) (i : Nat) : js A i = js B i := by unfold Go.Proofs.YtkmbcjnaaokilaaGreatDoor.js; rw [h.o]
theorem GY {A B : ak} (h : A.O = B.O) (s : av) : A.at s = B.at s := by
 cases s <;> first | rfl | (unfold ak.at; rw [h])
theorem iE.ahD {A B : ak} (h : iE A B) (o : cl) : uZ A B o := ⟨h.js,fun t _ => h.t t,fun _ _ _ _ _ => GY h.o _⟩
theorem iE.bf {A B : ak} (h : iE A B) (x : Operand) : A.bf x = B.bf x := (show o5 A B [x] from ⟨h.js,fun _ _ t _ => h.t t⟩).bf (List.mem_singleton.2 rfl)
theorem Rd {S : ak} {o : cl} {d : Option Nat} (aX : ∀ t ∈ o.reads,d ≠ some t) (s : av) : uZ S (S.bX d s) o :=
 ⟨fun i => by unfold js; rw [uC],fun t aO => by rw [za,if_neg (aX t aO)],fun _ _ _ _ _ => GY (uC _ _ _).symm _⟩
theorem uZ.symm {S S' : ak} {o : cl} (h : uZ S S' o) (cX : S.O = S'.O) : uZ S' S o :=
 ⟨fun i => (h.v i).symm,fun t aO => (h.t t aO).symm,fun _ _ _ _ _ => GY cX.symm _⟩
theorem mu.eqv : ∀ {l : List cl} {A B Ml : ak},mu l A Ml → iE A B → ∃ CR,mu l B CR ∧ iE Ml CR
 | _,_,B,_,.nil,h => ⟨B,.nil,h⟩
 | _,_,B,_,.cons (o := o) (s := s) hp af aj,h => by
  obtain ⟨CR,aw,aV⟩ := aj.eqv (h.put o.d s)
  exact ⟨CR,.cons hp (fun k aB => F4 hp (h.ahD o) (af k aB)) aw,aV⟩
def EN (p q : cl) : Bool := (match p.d with | some d => !q.reads.contains d | none => true) && (match q.d with | some d => !p.reads.contains d | none => true) && !(p.d == q.d)
theorem aec {p q : cl} (h : EN p q = true) : (∀ t ∈ q.reads,p.d ≠ some t) ∧ (∀ t ∈ p.reads,q.d ≠ some t) ∧ p.d ≠ q.d := by
 unfold EN at h
 simp only [Bool.and_eq_true,Bool.not_eq_true',beq_eq_false_iff_ne] at h
 obtain ⟨⟨af,aj⟩,aw⟩ := h
 refine ⟨fun t aO e => ?_,fun t aO e => ?_,aw⟩
 ·rw [e] at af; simp only [Bool.not_eq_true'] at af
  rw [List.contains_eq_mem] at af; simp [aO] at af
 ·rw [e] at aj; simp only [Bool.not_eq_true'] at aj
  rw [List.contains_eq_mem] at aj; simp [aO] at aj
theorem mu.first {o : cl} : ∀ {A B : List cl} {S b0 : ak},mu (A ++ o :: B) S b0 → A.all (fun a => EN a o) = true → ∃ s gh,qo o.op = true ∧ (∀ k : av → Prop,k s → o0 o S k) ∧ mu (A ++ B) (S.bX o.d s) gh ∧ iE b0 gh
 | [],B,S,b0,h,_ => by
  cases h with
  | cons hp af aj => exact ⟨_,b0,hp,af,aj,iE.refl _⟩
 | a :: A,B,S,b0,h,aq => by
  simp only [List.all_cons,Bool.and_eq_true] at aq
  obtain ⟨i1,i2,i3⟩ := aec aq.1
  cases h with
  | cons hp af aj =>
   rename_i Le
   obtain ⟨s,gh,PA,aw,aV,bF⟩ := mu.first (A := A) aj aq.2
   have adV : iE ((S.bX a.d Le).bX o.d s) ((S.bX o.d s).bX a.d Le) :=
    ⟨by simp only [uC],by simp only [Fq],fun t => by
     simp only [za]
     by_cases a2 : o.d = some t
     ·rw [if_pos a2,if_neg (fun e => i3 (e.trans a2.symm)),if_pos a2]
     ·rw [if_neg a2,if_neg a2]⟩
   obtain ⟨WE,bH,cA⟩ := aV.eqv adV
   refine ⟨s,WE,PA,fun k aB => ?_,?_,bF.trans cA⟩
   ·exact F4 PA ((Rd i1 Le).symm (uC _ _ _).symm) (aw k aB)
   ·exact .cons hp (fun k aB => F4 hp (Rd i2 s) (af k aB)) bH
theorem mu.O : ∀ {l : List cl} {S b0 : ak},mu l S b0 → b0.O = S.O ∧ b0.n = S.n
 | _,_,_,.nil => ⟨rfl,rfl⟩
 | _,_,_,.cons _ _ h => ⟨h.O.1.trans (uC _ _ _),h.O.2.trans (Fq _ _ _)⟩
theorem mu.T : ∀ {l : List cl} {S b0 : ak} {t : Nat},mu l S b0 → (∀ o ∈ l,o.d ≠ some t) → al b0.T t = al S.T t
 | _,_,_,_,.nil,_ => rfl
 | _,_,_,_,.cons _ _ h,aX => (h.T (fun o ay => aX o (List.mem_cons_of_mem _ ay))).trans (by rw [za,if_neg (aX _ (List.mem_cons_self ..))])
theorem Km {A B : ak} (cX : A.O = B.O) {x : Operand} (eP : ∀ t ∈ B9 x,al A.T t = al B.T t) : A.bf x = B.bf x := (show o5 A B [x] from ⟨fun i => by unfold js; rw [cX],fun y a1 t aO => eP t (by rw [List.mem_singleton.1 a1] at aO; exact aO)⟩).bf (List.mem_singleton.2 rfl)
def r6 : List cl → Bool
 | [] => true
 | o :: l => (o :: l).all (fun q => match q.d with | some d => !o.reads.contains d | none => true) && r6 l
theorem JJ {o : cl} {l : List cl} (h : r6 (o :: l) = true) : (∀ q ∈ o :: l,∀ t ∈ o.reads,q.d ≠ some t) ∧ r6 l = true := by
 unfold r6 at h
 simp only [Bool.and_eq_true] at h
 refine ⟨fun q aS t aO e => ?_,h.2⟩
 have := (List.all_eq_true.1 h.1) q aS
 rw [e] at this
 simp only [Bool.not_eq_true'] at this
 rw [List.contains_eq_mem] at this; simp [aO] at this
theorem Ur {S : ak} {i : Nat} {t t' : TypeId} {cs cs' : List av} (h : al S.O i = some (.box t cs)) (j : Nat) : js S j = js (S.eK i (.box t' cs')) j := by
 unfold js
 show _ = (match al ((i,bl.box t' cs') :: dC S.O i) j with | some (.box ..) => none | o => o)
 rw [lj]
 by_cases e : i = j
 ·subst e; rw [if_pos rfl,h]
 ·rw [if_neg e]
theorem ZC {S : ak} {i : Nat} {o : bl} {s : av} (h : ∀ a b,s ≠ .ptr i a b) : S.at s = (S.eK i o).at s := by
 cases s with
 | ptr j a b =>
  have e : i ≠ j := fun e => h a b (by rw [e])
  have : al (S.eK i o).O j = al S.O j := by
   show al ((i,o) :: dC S.O i) j = _
   rw [lj,if_neg e]
  show (match al S.O j with | some (.box _ cs) => some (cs,b) | some (.row _ _ es) => (es[a]?).map fun e => (e,b) | some (.hN _ cs) => some (cs,a + b) | _ => none) = (match al (S.eK i o).O j with | some (.box _ cs) => some (cs,b) | some (.row _ _ es) => (es[a]?).map fun e => (e,b) | some (.hN _ cs) => some (cs,a + b) | _ => none)
  rw [this]
 | _ => rfl
theorem mu.behind {i : Nat} {t t' : TypeId} {cs cs' : List av} : ∀ {l : List cl} {S b0 : ak},mu l S b0 → r6 l = true → al S.O i = some (.box t cs) →
  (∀ o ∈ l,∀ x fZ,o.op = .aC x fZ → ∀ j a b,b0.bf x = some (.ptr j a b) → j ≠ i) → mu l (S.eK i (.box t' cs')) (b0.eK i (.box t' cs'))
 | _,_,_,.nil,_,_,_ => .nil
 | _,S,b0,.cons (o := o) (l := l) (s := s) hp af aj,aF,aq,Po => by
  obtain ⟨l1,l2⟩ := JJ aF
  have ax := aj.behind (t' := t') (cs' := cs') l2 (by rw [uC]; exact aq) (fun q aS => Po q (List.mem_cons_of_mem _ aS))
  rw [ahe] at ax
  refine .cons hp (fun k aB => F4 hp ⟨fun j => Ur aq j,fun t _ => rfl,fun x fZ e s ao => ZC fun a b a8 => ?_⟩ (af k aB)) ax
  subst a8
  have : b0.bf x = S.bf x := Km (aj.O.1.trans (uC _ _ _)) fun t aO => by
   have hm : t ∈ o.reads := mem_reads (by rw [e]; simp [b4.cP]) aO
   exact (aj.T (fun q aS => l1 q (List.mem_cons_of_mem _ aS) t hm)).trans (by rw [za,if_neg (l1 o (List.mem_cons_self ..) t hm)])
  exact Po o (List.mem_cons_self ..) x fZ e i a b (this.trans ao) rfl

def sg (l : List cl) : m3 → List Nat → List Nat → Bool
 | .leaf,[],[] => true
 | .leaf,_,_ => false
 | .b1 i t,e3,rs => Fc l i e3 rs && sg l t (e3.erase i) (rs.erase i)
 | .step i t,e3,rs => Fc l i e3 rs && sg l t (e3.erase i) (rs.erase i)
 | .alt a b,e3,rs => sg l a e3 rs && sg l b e3 rs
where Fc (l : List cl) (i : Nat) (e3 rs : List Nat) : Bool :=
  if e3.contains i = true then !rs.contains i && (match l[i]? with | some o => (fl l (e3.takeWhile fun j => !(j == i))).all fun a => EN a o | none => false)
  else match rs with
   | [] => false
   | j :: _ => decide (j = i) && (match l[i]? with | some o => (match o.g,o.op with | none,.st .. => (match o.d with | none => true | some _ => false) && (fl l e3).all (fun a => match a.d with | some d => !o.reads.contains d | none => true) | _,_ => false) | none => false)
theorem Fo (l : List cl) (a b : List Nat) : fl l (a ++ b) = fl l a ++ fl l b := List.filterMap_append
theorem Ht {i : Nat} : ∀ {r : List Nat},r.contains i = true → ∃ b,r = r.takeWhile (fun j => !(j == i)) ++ i :: b ∧ r.erase i = r.takeWhile (fun j => !(j == i)) ++ b
 | [],h => by simp at h
 | j :: r,h => by
  by_cases e : j = i
  ·subst e; exact ⟨r,by simp,by simp⟩
  ·have dh : r.contains i = true := by
    rw [List.contains_eq_mem,decide_eq_true_eq] at h ⊢
    rcases List.mem_cons.1 h with h | h
    ·exact absurd h.symm e
    ·exact h
   obtain ⟨b,af,aj⟩ := Ht dh
   refine ⟨b,?_,?_⟩
   ·have aO : (j :: r).takeWhile (fun j => !(j == i)) = j :: r.takeWhile (fun j => !(j == i)) := by rw [List.takeWhile_cons]; simp [e]
    rw [aO,List.cons_append,← af]
   ·have aO : (j :: r).takeWhile (fun j => !(j == i)) = j :: r.takeWhile (fun j => !(j == i)) := by rw [List.takeWhile_cons]; simp [e]
    rw [aO,List.erase_cons_tail (by simpa using e),aj]; rfl
theorem JI : ∀ {a b : List cl} {o : cl},r6 (a ++ o :: b) = true → r6 (a ++ b) = true
 | [],_,_,h => (JJ h).2
 | x :: a,b,o,h => by
  obtain ⟨af,aj⟩ := JJ (l := a ++ o :: b) h
  show r6 (x :: (a ++ b)) = true
  unfold r6
  rw [Bool.and_eq_true]
  refine ⟨?_,JI aj⟩
  rw [List.all_eq_true]
  intro q aS
  have PB : q ∈ x :: (a ++ o :: b) := by
   rcases List.mem_cons.1 aS with rfl | aS
   ·exact List.mem_cons_self ..
   ·refine List.mem_cons_of_mem _ ?_
    rcases List.mem_append.1 aS with aS | aS
    ·exact List.mem_append.2 (.inl aS)
    ·exact List.mem_append.2 (.inr (List.mem_cons_of_mem _ aS))
  cases e : q.d with
  | none => rfl
  | some d =>
   simp only [Bool.not_eq_true']
   rw [List.contains_eq_mem,decide_eq_false_iff_not]
   exact fun aX => af q PB d aX e
theorem DJ {i : Nat} {r : List Nat} (h : r.contains i = false) : r.erase i = r := by
 rw [List.contains_eq_mem,decide_eq_false_iff_not] at h
 exact List.erase_of_not_mem h
theorem F2 {A B : ak} (h : iE A B) (x : Operand) : nP A x = nP B x := by unfold nP; rw [h.bf,h.o]
theorem DN {o : cl} {k : Nat} {x y : Operand} {S : ak} {K : ak → Prop} (aH : o.g = none) (ay : o.op = .st k x y) (aX : o.d = none) (aJ : (nP S x).isSome = true) (h : jT o S K) :
  ∃ i a b t cs cs',S.bf x = some (.ptr i a b) ∧ nP S x = some i ∧ al S.O i = some (.box t cs) ∧ K (S.eK i (.box t cs')) ∧
   ∀ (S' : ak) (o4 : ak → Prop),S'.bf x = S.bf x → S'.bf y = S.bf y → al S'.O i = al S.O i → o4 (S'.eK i (.box t cs')) → jT o S' o4 := by
 unfold nP at aJ
 split at aJ
 ·rename_i i a b ar
  split at aJ
  ·rename_i t cs aq
   unfold jT at h
   rw [aH] at h
   simp only [ay,aX,fx,b4.fA,ak.mc,ar,ij,aq] at h
   obtain ⟨_,h⟩ := h
   obtain ⟨v,bj,af,aj,aw,aV⟩ := bW h
   refine ⟨i,a,b,t,cs,_,ar,?_,aq,aV,fun S' o4 a2 a8 cg aB => ?_⟩
   ·unfold nP; rw [ar]; simp only [aq]
   ·unfold jT
    rw [aH]
    simp only [ay,aX,fx,b4.fA,ak.mc,a2,a8,ar,bj,ij,cg,aq]
    exact ⟨trivial,af,aj,aw,aB⟩
  ·cases aJ
 ·cases aJ
def MR (L : ak → Prop) : Prop := ∀ A B,iE A B → L A → L B
theorem ahE {A B : ak} (h : iE A B) (i : Nat) (o : bl) : iE (A.eK i o) (B.eK i o) := ⟨by show (i,o) :: dC A.O i = (i,o) :: dC B.O i; rw [h.o],h.n,h.t⟩
theorem zt {S : ak} {i : Nat} {t t' : TypeId} {cs cs' : List av} (h : al S.O i = some (.box t cs)) (x : Operand) : nP (S.eK i (.box t' cs')) x = nP S x := by
 have e : (S.eK i (.box t' cs')).bf x = S.bf x := ((show o5 S (S.eK i (.box t' cs')) [x] from ⟨fun j => Ur h j,fun _ _ _ _ => rfl⟩).bf (List.mem_singleton.2 rfl)).symm
 unfold nP
 rw [e]
 split
 ·rename_i j a b _
  show (match al ((i,bl.box t' cs') :: dC S.O i) j with | some (.box ..) => some j | _ => none) = _
  rw [lj]
  by_cases e : i = j
  ·subst e; rw [if_pos rfl,h]
  ·rw [if_neg e]
 ·rfl
theorem Hy {L : ak → Prop} (ej : MR L) : ∀ {jM : List cl} {A B : ak},jM.all (fun o => match o.g,o.op,o.d with | none,.st ..,none => true | _,_,_ => false) = true → jM.all (oo A) = true → iE A B → h0 jM A L → h0 jM B L
 | [],A,B,_,_,h,aB => ej A B h aB
 | o :: jM,A,B,ao,aJ,h,aB => by
  simp only [List.all_cons,Bool.and_eq_true] at ao aJ
  obtain ⟨sY,rZ⟩ := ao
  split at sY
  ·rename_i k x y aH ay aX
   have ib := aJ.1
   unfold oo at ib
   rw [ay] at ib
   obtain ⟨i,a,b,t,cs,cs',a2,_,a8,cg,e7⟩ := DN aH ay aX ib aB
   refine e7 B _ (h.bf x).symm (h.bf y).symm (by rw [h.o]) (Hy ej rZ ?_ (ahE h i _) cg)
   rw [List.all_eq_true] at aJ ⊢
   intro q aS
   have := aJ.2 q aS
   unfold oo at this ⊢
   split at this
   ·rw [zt a8]; exact this
   ·cases this
  ·cases sY
def F5 (o : cl) : Bool := match o.g,o.op,o.d with | none,.st ..,none => true | _,_,_ => false
theorem P3 {S : ak} {q : cl} {jM : List cl} {o : cl} (h : oP S (q :: jM) o = true) : oP S jM o = true := by
 unfold oP at h ⊢
 split at h
 ·simp only [List.all_cons,Bool.and_eq_true] at h; exact h.2
 ·rfl
theorem P1 {A B : ak} (h : iE A B) {jM : List cl} {o : cl} (aB : oP A jM o = true) : oP B jM o = true := by
 unfold oP at aB ⊢
 split at aB
 ·rw [List.all_eq_true] at aB ⊢
  intro q aS
  have := aB q aS
  split at this
  ·rw [← F2 h,← F2 h]; exact this
  ·rfl
 ·rfl
theorem P2 {S : ak} {i : Nat} {t t' : TypeId} {cs cs' : List av} (h : al S.O i = some (.box t cs)) {jM : List cl} {o : cl} (aB : oP S jM o = true) : oP (S.eK i (.box t' cs')) jM o = true := by
 unfold oP at aB ⊢
 split at aB
 ·rw [List.all_eq_true] at aB ⊢
  intro q aS
  have := aB q aS
  split at this
  ·rw [zt h,zt h]; exact this
  ·rfl
 ·rfl
theorem wH {l : List cl} {L L0 : ak → Prop} (ej : MR L0) (hw : ∀ S,L0 S → L S) : ∀ {t : m3} {e3 rs : List Nat} {S b0 : ak},sg l t e3 rs = true → (fl l rs).all F5 = true → r6 (fl l e3) = true → mu (fl l e3) S b0 →
  (fl l rs).all (oo b0) = true → (fl l e3).all (oP b0 (fl l rs)) = true → h0 (fl l rs) b0 L0 → ns t l S L
 | .leaf,e3,rs,S,b0,az,_,_,ba,_,_,aB => by
  cases e3 with
  | cons => cases rs <;> cases az
  | nil =>
   cases rs with
   | cons => cases az
   | nil => cases ba with | nil => exact hw _ aB
 | .alt a b,e3,rs,S,b0,az,af,aj,aw,aV,bF,bH => by
  simp only [sg,Bool.and_eq_true] at az
  exact ⟨wH ej hw az.1 af aj aw aV bF bH,wH ej hw az.2 af aj aw aV bF bH⟩
 | .b1 i t,e3,rs,S,b0,az,af,aj,aw,aV,bF,bH => by
  simp only [sg,Bool.and_eq_true] at az
  obtain ⟨az,nx⟩ := az
  show cL l[i]? fun o => jT o S fun S' => ns t l S' L
  unfold sg.Fc at az
  split at az
  ·rename_i ka
   simp only [Bool.and_eq_true,Bool.not_eq_true'] at az
   obtain ⟨Je,az⟩ := az
   rw [DJ Je] at nx
   obtain ⟨b,a2,a8⟩ := Ht ka
   split at az
   ·rename_i o ay
    rw [ay,ij]
    have Hr : fl l e3 = fl l (e3.takeWhile fun j => !(j == i)) ++ o :: fl l b := by
     conv => lhs; rw [a2]
     rw [Fo]
     congr 1
     unfold fl
     rw [List.filterMap_cons,ay]
    have wG : fl l (e3.erase i) = fl l (e3.takeWhile fun j => !(j == i)) ++ fl l b := by rw [a8,Fo]
    rw [Hr] at aw aj bF
    obtain ⟨s,gh,hp,ao,ax,aS⟩ := aw.first az
    refine NI hp (ao _ ?_)
    refine wH ej hw nx af (by rw [wG]; exact JI aj) (by rw [wG]; exact ax) ?_ ?_ (Hy ej af aV aS bH)
    ·rw [List.all_eq_true] at aV ⊢
     intro q k1
     have := aV q k1
     unfold oo at this ⊢
     split at this
     ·rw [← F2 aS]; exact this
     ·cases this
    ·rw [wG,List.all_eq_true]
     rw [List.all_eq_true] at bF
     intro q k1
     refine P1 aS (bF q ?_)
     rcases List.mem_append.1 k1 with k1 | k1
     ·exact List.mem_append.2 (.inl k1)
     ·exact List.mem_append.2 (.inr (List.mem_cons_of_mem _ k1))
   ·cases az
  ·rename_i ka
   have ka : e3.contains i = false := by simpa using ka
   split at az
   ·cases az
   ·rename_i j Cg
    simp only [Bool.and_eq_true,decide_eq_true_eq] at az
    obtain ⟨rfl,az⟩ := az
    split at az
    ·rename_i o ay
     rw [ay,ij]
     split at az
     ·rename_i k x y aH jX
      simp only [Bool.and_eq_true] at az
      obtain ⟨aX,az⟩ := az
      have aX : o.d = none := by
       cases e : o.d with
       | none => rfl
       | some _ => rw [e] at aX; cases aX
      have eq : fl l (j :: Cg) = o :: fl l Cg := by unfold fl; rw [List.filterMap_cons,ay]
      rw [eq] at af aV bF bH
      simp only [List.all_cons,Bool.and_eq_true] at af aV
      have ib := aV.1
      unfold oo at ib
      rw [jX] at ib
      obtain ⟨i,a,b,ty,cs,cs',a2,fs,a8,cg,e7⟩ := DN aH jX aX ib bH
      have eP : ∀ z,z ∈ o.op.cP → b0.bf z = S.bf z := fun z bO => Km aw.O.1 fun t aO => aw.T fun q aS e => by
       have := (List.all_eq_true.1 az) q aS
       rw [e] at this
       simp only [Bool.not_eq_true'] at this
       rw [List.contains_eq_mem,decide_eq_false_iff_not] at this
       exact this (mem_reads bO aO)
      have cX : al S.O i = al b0.O i := by rw [aw.O.1]
      refine e7 S _ (eP x (by rw [jX]; simp [b4.cP])).symm (eP y (by rw [jX]; simp [b4.cP])).symm cX ?_
      have En : e3.erase j = e3 := DJ ka
      rw [En,List.erase_cons_head] at nx
      refine wH ej hw nx af.2 aj (aw.behind aj (cX.trans a8) fun q aS z fZ bO r3 Xi ev r2 => ?_) ?_ ?_ cg
      ·have := (List.all_eq_true.1 bF) q aS
       unfold oP at this
       rw [bO] at this
       simp only [List.all_cons,Bool.and_eq_true] at this
       have cA := this.1
       rw [jX] at cA
       simp only [fs] at cA
       intro e
       subst e
       unfold nP at cA
       rw [r2] at cA
       simp only [a8,BV,beq_self_eq_true,Bool.not_true] at cA
       cases cA
      ·rw [List.all_eq_true]
       intro q aS
       have := (List.all_eq_true.1 aV.2) q aS
       unfold oo at this ⊢
       split at this
       ·rw [zt a8]; exact this
       ·cases this
      ·rw [List.all_eq_true]
       intro q aS
       exact P2 a8 (P3 ((List.all_eq_true.1 bF) q aS))
     ·cases az
    ·cases az
 | .step i t,e3,rs,S,b0,az,af,aj,aw,aV,bF,bH => by
  simp only [sg,Bool.and_eq_true] at az
  obtain ⟨az,nx⟩ := az
  show cL l[i]? fun o => jT o S fun S' => ns t l S' L
  unfold sg.Fc at az
  split at az
  ·rename_i ka
   simp only [Bool.and_eq_true,Bool.not_eq_true'] at az
   obtain ⟨Je,az⟩ := az
   rw [DJ Je] at nx
   obtain ⟨b,a2,a8⟩ := Ht ka
   split at az
   ·rename_i o ay
    rw [ay,ij]
    have Hr : fl l e3 = fl l (e3.takeWhile fun j => !(j == i)) ++ o :: fl l b := by
     conv => lhs; rw [a2]
     rw [Fo]
     congr 1
     unfold fl
     rw [List.filterMap_cons,ay]
    have wG : fl l (e3.erase i) = fl l (e3.takeWhile fun j => !(j == i)) ++ fl l b := by rw [a8,Fo]
    rw [Hr] at aw aj bF
    obtain ⟨s,gh,hp,ao,ax,aS⟩ := aw.first az
    refine NI hp (ao _ ?_)
    refine wH ej hw nx af (by rw [wG]; exact JI aj) (by rw [wG]; exact ax) ?_ ?_ (Hy ej af aV aS bH)
    ·rw [List.all_eq_true] at aV ⊢
     intro q k1
     have := aV q k1
     unfold oo at this ⊢
     split at this
     ·rw [← F2 aS]; exact this
     ·cases this
    ·rw [wG,List.all_eq_true]
     rw [List.all_eq_true] at bF
     intro q k1
     refine P1 aS (bF q ?_)
     rcases List.mem_append.1 k1 with k1 | k1
     ·exact List.mem_append.2 (.inl k1)
     ·exact List.mem_append.2 (.inr (List.mem_cons_of_mem _ k1))
   ·cases az
  ·rename_i ka
   have ka : e3.contains i = false := by simpa using ka
   split at az
   ·cases az
   ·rename_i j Cg
    simp only [Bool.and_eq_true,decide_eq_true_eq] at az
    obtain ⟨rfl,az⟩ := az
    split at az
    ·rename_i o ay
     rw [ay,ij]
     split at az
     ·rename_i k x y aH jX
      simp only [Bool.and_eq_true] at az
      obtain ⟨aX,az⟩ := az
      have aX : o.d = none := by
       cases e : o.d with
       | none => rfl
       | some _ => rw [e] at aX; cases aX
      have eq : fl l (j :: Cg) = o :: fl l Cg := by unfold fl; rw [List.filterMap_cons,ay]
      rw [eq] at af aV bF bH
      simp only [List.all_cons,Bool.and_eq_true] at af aV
      have ib := aV.1
      unfold oo at ib
      rw [jX] at ib
      obtain ⟨i,a,b,ty,cs,cs',a2,fs,a8,cg,e7⟩ := DN aH jX aX ib bH
      have eP : ∀ z,z ∈ o.op.cP → b0.bf z = S.bf z := fun z bO => Km aw.O.1 fun t aO => aw.T fun q aS e => by
       have := (List.all_eq_true.1 az) q aS
       rw [e] at this
       simp only [Bool.not_eq_true'] at this
       rw [List.contains_eq_mem,decide_eq_false_iff_not] at this
       exact this (mem_reads bO aO)
      have cX : al S.O i = al b0.O i := by rw [aw.O.1]
      refine e7 S _ (eP x (by rw [jX]; simp [b4.cP])).symm (eP y (by rw [jX]; simp [b4.cP])).symm cX ?_
      have En : e3.erase j = e3 := DJ ka
      rw [En,List.erase_cons_head] at nx
      refine wH ej hw nx af.2 aj (aw.behind aj (cX.trans a8) fun q aS z fZ bO r3 Xi ev r2 => ?_) ?_ ?_ cg
      ·have := (List.all_eq_true.1 bF) q aS
       unfold oP at this
       rw [bO] at this
       simp only [List.all_cons,Bool.and_eq_true] at this
       have cA := this.1
       rw [jX] at cA
       simp only [fs] at cA
       intro e
       subst e
       unfold nP at cA
       rw [r2] at cA
       simp only [a8,BV,beq_self_eq_true,Bool.not_true] at cA
       cases cA
      ·rw [List.all_eq_true]
       intro q aS
       have := (List.all_eq_true.1 aV.2) q aS
       unfold oo at this ⊢
       split at this
       ·rw [zt a8]; exact this
       ·cases this
      ·rw [List.all_eq_true]
       intro q aS
       exact P2 a8 (P3 ((List.all_eq_true.1 bF) q aS))
     ·cases az
    ·cases az
theorem NB {op : b4} {S : ak} {k dA : av → Prop} (h : cj op S k) (g : ∀ s,k s → dA s) : cj op S dA := by
 by_cases hp : qo op = true
 ·obtain ⟨s,af,aj⟩ := Hu hp h
  exact af dA (g s aj)
 ·cases op with
  | mm n e dx bytes dz =>
   simp only [cj] at h ⊢
   refine pz h fun s h => ?_
   split at h
   ·exact ⟨h.1,h.2.1,h.2.2.1,g _ h.2.2.2⟩
   ·exact h.elim
  | oe t bc => exact g _ h
  | app x y e dx bytes =>
   simp only [cj] at h ⊢
   refine pz h fun s h => pz h fun j h => ?_
   split at h
   ·obtain ⟨af,aj,aw,aV,bF,bH,cA⟩ := h
    exact ⟨af,aj,aw,aV,bF,bH,g _ cA⟩
   ·exact h.elim
  | _ => first | exact absurd rfl hp | exact h.elim
theorem gx (n : Nat) {l : List cl} {S : ak} {L : ak → Prop} (h : ∀ bz : ak → Prop,(∀ S',m6 (l.drop n) S' L → bz S') → m6 (l.take n) S bz) : m6 l S L := by
 have app : ∀ {a b : List cl} {S : ak},m6 a S (fun S' => m6 b S' L) → m6 (a ++ b) S L := by
  intro a
  induction a with
  | nil => intro b S h; exact h
  | cons o a dO =>
   intro b S h
   show o0 o S fun s => m6 (a ++ b) (S.bX o.d s) L
   have h : o0 o S fun s => m6 a (S.bX o.d s) fun S' => m6 b S' L := h
   have e : (fun s => m6 a (S.bX o.d s) fun S' => m6 b S' L) = fun s => m6 a (S.bX o.d s) fun S' => m6 b S' L := rfl
   unfold o0 at h ⊢
   split at h
   ·rename_i aH
    refine ⟨h.1,?_⟩
    exact NB h.2 fun s ao => dO ao
   ·refine pz h fun s h => ?_
    split at h
    ·exact ⟨fun q => ⟨(h.1 q).1,NB (h.1 q).2 fun s ao => dO ao⟩,fun q => dO (h.2 q)⟩
    ·exact dO h
    ·exact h.elim
 have := app (a := l.take n) (b := l.drop n) (S := S) (h _ fun _ h => h)
 rwa [List.take_append_drop] at this
theorem ahY {A B : ak} (h : iE A B) (eo : List Nat) (m : Option (List Nat × Nat)) : A.eH (some (eo,m)) = B.eH (some (eo,m)) := by
 have e : ∀ eo,en A.T eo = en B.T eo := fun eo => by
  induction eo with
  | nil => rfl
  | cons k eo dO => unfold en; rw [h.t k,dO]
 cases m with
 | none => simp only [ak.eH,e,h.o,h.n]
 | some p => simp only [ak.eH,e,h.o,h.n]
def QB (l : List cl) (t : m3) (e3 rs : List Nat) : Bool := sg l t e3 rs && (fl l rs).all F5 && r6 (fl l e3) && (fl l e3).all (fun o => qo o.op)
theorem n0 (cs : List qz) (eo : List Nat) (e3 rs : List Nat) {t : m3} {l : List cl} {S : ak} {K : pI → ak → Prop} (bb : QB l t e3 rs = true)
  (h : ∀ bz : ak → Prop,(∀ b0,Ac (fl l e3) (fl l rs) b0 = true → (∀ b7 : ak → Prop,(∀ S',K .next (S'.eH (some (eo,none))).sorted → b7 S') → h0 (fl l rs) b0 b7) → bz b0) → m6 (fl l e3) (S.gw cs) bz) : hd (.ord t l) S K := by
 unfold QB at bb
 simp only [Bool.and_eq_true] at bb
 obtain ⟨⟨⟨af,aj⟩,aw⟩,aV⟩ := bb
 have := h (fun b0 => Ac (fl l e3) (fl l rs) b0 = true ∧ h0 (fl l rs) b0 fun S' => K .next (S'.eH (some (eo,none))).sorted) (fun b0 c g => ⟨c,g _ fun _ h => h⟩)
 obtain ⟨b0,ba,az,aB⟩ := Ry aV this
 unfold Ac at az
 rw [Bool.and_eq_true] at az
 have ex : ∃ gh,h0 (fl l rs) b0 (fun S' => (S'.eH (some (eo,none))).sorted = gh) ∧ K .next gh := by
  have gen : ∀ {jM : List cl} {b0 : ak},jM.all F5 = true → jM.all (oo b0) = true → h0 jM b0 (fun S' => K .next (S'.eH (some (eo,none))).sorted) → ∃ gh,h0 jM b0 (fun S' => (S'.eH (some (eo,none))).sorted = gh) ∧ K .next gh := by
   intro jM
   induction jM with
   | nil => intro b0 _ _ h; exact ⟨_,rfl,h⟩
   | cons o jM dO =>
    intro b0 ao aJ aB
    simp only [List.all_cons,Bool.and_eq_true] at ao aJ
    have sY := ao.1
    unfold F5 at sY
    split at sY
    ·rename_i k x y aH ay aX
     have ib := aJ.1
     unfold oo at ib
     rw [ay] at ib
     obtain ⟨i,a,b,ty,amq,amr,a2,_,a8,cg,e7⟩ := DN aH ay aX ib aB
     obtain ⟨gh,g1,bQ⟩ := dO ao.2 (by
      have iH := aJ.2
      rw [List.all_eq_true] at iH ⊢
      intro q aS
      have := iH q aS
      unfold oo at this ⊢
      split at this
      ·rw [zt a8]; exact this
      ·cases this) cg
     exact ⟨gh,e7 b0 _ rfl rfl rfl g1,bQ⟩
    ·cases sY
  exact gen aj az.1 aB
 obtain ⟨gh,aG,IK⟩ := ex
 exact ⟨cs,gh,wH (L0 := fun S' => (S'.eH (some (eo,none))).sorted = gh) (fun A B abO e => by show (B.eH (some (eo,none))).sorted = gh; rw [← ahY abO eo none]; exact e) (fun S' e => ⟨_,e⟩) af aj aw ba az.1 az.2 aG,IK⟩
theorem Zn (f : Operand → Bool) : ([] : List Operand).all f = true := rfl
theorem Zo (f : Operand → Bool) (x : Operand) (l : List Operand) : (x :: l).all f = (f x && l.all f) := rfl
theorem Zp (f : av → Bool) : ([] : List av).all f = true := rfl
theorem Zq (f : av → Bool) (x : av) (l : List av) : (x :: l).all f = (f x && l.all f) := rfl
def oj := And.intro @m6.eq_1 (And.intro @m6.eq_2 (And.intro @o0.eq_1 (And.intro @oS.eq_1 (And.intro @og.eq_1 (And.intro @og.eq_2 (And.intro @og.eq_3 (And.intro @og.eq_4 (And.intro @og.eq_5 (And.intro @og.eq_6 (And.intro @og.eq_7 (And.intro @og.eq_8 (And.intro @og.eq_9 (And.intro @og.eq_10 (And.intro @og.eq_11 (And.intro @lr.eq_1 (And.intro @lr.eq_2 (And.intro @lr.eq_3 (And.intro @lr.eq_4 (And.intro @lr.eq_5 (And.intro @lr.eq_6 (And.intro @lr.eq_7 (And.intro @lr.eq_8 (And.intro @lr.eq_9 (And.intro @lr.eq_10 (And.intro @lr.eq_11 (And.intro @Zn (And.intro @Zo (And.intro @Zp (And.intro @Zq (And.intro @Bool.and_true @Bool.true_and))))))))))))))))))))))))))))))
theorem im {p q : Prop} (k : q) (h : q → p := by intro k; simp only [fl,List.filterMap_cons,List.filterMap_nil,List.getElem?_cons_zero,List.getElem?_cons_succ]; exact k) : p := h k
theorem om {p q : Prop} (k : q) (h : q → p := by intro k; simp only [ak.eH,en,al,ak.sorted,je,vE,reduceIte,Nat.reduceEqDiff,Nat.reduceLeDiff,reduceCtorEq]; exact k) : p := h k
end Go.Proofs.YtkmbcjnaaokilaaGreatDoor
namespace Go.Proofs.YtkmbcjnaaokilaaGreatDoor
set_option linter.unusedSimpArgs false
set_option linter.unusedVariables false
open Go.ChangeShapes Go.WideShapes Go.ChangeAt Go.RowKit Go.Deep

inductive tl where
 | int (k : IntKind)
 | bool

def tl.fits : tl → Value → Prop
 | .int k,v => ∃ n,v = .int k n ∧ (Lit.int k n).wf = true
 | .bool,v => ∃ b,v = .bool b
def Fits : List tl → List Value → Prop
 | [],[] => True
 | k :: eo,v :: vs => k.fits v ∧ Fits eo vs
 | _,_ => False

theorem Fits.length : ∀ {eo : List tl} {vs : List Value},Fits eo vs → vs.length = eo.length
 | [],[],_ => rfl
 | _ :: _,_ :: _,h => by simp [Fits.length h.2]
theorem Fits.append : ∀ {eo : List tl} {vs : List Value} {PY : List tl} {lz : List Value},Fits eo vs → Fits PY lz → Fits (eo ++ PY) (vs ++ lz)
 | [],[],_,_,_,h => h
 | _ :: _,_ :: _,_,_,h,dh => ⟨h.1,Fits.append h.2 dh⟩
theorem Fits.one : ∀ {eo : List tl} {vs : List Value},Fits eo vs → ∀ u ∈ vs,u.oneCell' = true
 | [],[],_ => by simp
 | k :: _,v :: _,h => by
  intro u hu
  rcases List.mem_cons.1 hu with rfl | hu
  ·cases k with
   | int k => obtain ⟨n,rfl,_⟩ := h.1; rfl
   | bool => obtain ⟨b,rfl⟩ := h.1; rfl
  ·exact Fits.one h.2 u hu

theorem Fits.int {k : IntKind} {eo : List tl} : ∀ {vs : List Value},Fits (.int k :: eo) vs → ∃ n lz,vs = .int k n :: lz ∧ k.min ≤ n ∧ n ≤ k.max ∧ Fits eo lz
 | v :: vs,⟨⟨n,h,w⟩,dh⟩ => by
  simp only [Lit.wf,Bool.and_eq_true,decide_eq_true_eq] at w
  exact ⟨n,vs,by rw [h],w.1,w.2,dh⟩
theorem Fits.bool {eo : List tl} : ∀ {vs : List Value},Fits (.bool :: eo) vs → ∃ b lz,vs = .bool b :: lz ∧ Fits eo lz
 | v :: vs,⟨⟨b,h⟩,dh⟩ => ⟨b,vs,by rw [h],dh⟩
theorem Fits.nil : ∀ {vs : List Value},Fits [] vs → vs = []
 | [],_ => rfl

section
variable {H : Type} {enc : TypeId × Value → H} {P : Program} {W : World} {base : Nat} {spare : Nat → Bool} {held : Bool}

theorem M5 {Dp : World} (aF : laidOutB P = true) (aJ : Below W.heap.size W Dp) {sp : Nat → Bool} : ∀ {cB : List TypeId} {vs : List Value} {ky : List (DataW H)} {ps : List MemPlace},(cB.all fun t => P.readableRec t && decide (t < P.types.size)) = true →
  DataW.TrodAll enc P W 0 (fun _ => true) true cB vs ky ps → (∀ x ∈ ps,x.block < W.heap.size ∧ sp x.block = true) → DataW.TrodAll enc P Dp 0 sp true cB vs ky ps
 | [],_,_,_,_,h,_ => by
  obtain ⟨rfl,rfl,rfl⟩ := trodAll_nil h
  exact rfl
 | t :: cB,_,_,_,aO,h,hp => by
  obtain ⟨v,vs,d,ky,p,q,rfl,rfl,rfl,af,aj⟩ := trodAll_cons h
  simp only [List.all_cons,Bool.and_eq_true,decide_eq_true_eq] at aO
  exact ⟨p,q,WideElems.Trod_stays aF aO.1.1 aO.1.2 af (fun x ar => aJ.same (hp x (by simp [ar])).1) (fun x ar => (hp x (by simp [ar])).2),
   M5 aF aJ aO.2 aj (fun x ar => hp x (by simp [ar])),rfl⟩

theorem Um {w : World} : ∀ {cB : List TypeId} {vs : List Value} {ky : List (DataW H)} {ps : List MemPlace},DataW.TrodAll enc P w base spare held cB vs ky ps → ky.length = cB.length
 | [],_,_,_,h => by
  obtain ⟨rfl,rfl,rfl⟩ := trodAll_nil h
  rfl
 | _ :: _,_,_,_,h => by
  obtain ⟨v,vs,d,ky,p,q,rfl,rfl,rfl,af,aj⟩ := trodAll_cons h
  simp [Um aj]

end

theorem own : ownKnob Tryz.prog.godebug = Option.none := by kernel_rfl
theorem laidOut : laidOutB Tryz.prog = true := by kernel_rfl
end Go.Proofs.YtkmbcjnaaokilaaGreatDoor
namespace Go.Proofs.YtkmbcjnaaokilaaGreatDoor
set_option linter.unusedSimpArgs false
set_option linter.unusedVariables false
open Go.ChangeShapes Go.WideShapes Go.ChangeAt Go.RowKit Go.Deep Go.Maps

def C2 {α : Type} (enc : α → List av) (Q : α → Prop) : wj α := fun H cs x => db H ep (enc x) cs ∧ (enc x).all av.one = true ∧ Q x

theorem NX {α : Type} {enc : α → List av} {Q : α → Prop} {k : Nat} {H : bg} : ∀ (l : List α) (xs : List Value),jO k (C2 enc Q) H xs l → eD H k (l.map enc) xs ∧ ∀ x ∈ l,Q x
 | [],xs,h => by
  obtain ⟨af,_⟩ := h
  obtain rfl : xs = [] := List.eq_nil_of_length_eq_zero (by simpa using af)
  exact ⟨.nil,fun x ar => by cases ar⟩
 | x :: l,xs,h => by
  obtain ⟨af,aj⟩ := h
  simp only [List.length_cons,Nat.add_mul,Nat.one_mul] at af
  have bb := aj 0 x rfl
  simp only [Nat.zero_mul,List.drop_zero] at bb
  have aO : jO k (C2 enc Q) H (xs.drop k) l := ⟨by rw [List.length_drop]; omega,fun i y a1 => by
   have := aj (i + 1) y (by simpa using a1)
   rw [List.drop_drop,show k + i * k = (i + 1) * k from by rw [Nat.add_mul]; omega]
   exact this⟩
  obtain ⟨et,dP⟩ := NX l _ aO
  refine ⟨?_,fun y a1 => ?_⟩
  ·have := eD.cons bb.1 (by rw [List.length_take]; omega) bb.2.1 et
   rw [List.take_append_drop] at this
   exact this
  ·rcases List.mem_cons.1 a1 with rfl | a1
   ·exact bb.2.2
   ·exact dP y a1

theorem ahW {α : Type} {enc : α → List av} {Q : α → Prop} {k : Nat} {H : bg} {a : Option Addr} {n c : Nat} {l : List α} (h : m5 k (C2 enc Q) H a n c l) (az : c ≤ maxLen) : ca H ep (.au k 2 (l.map enc)) (.slice a n c) ∧ ∀ x ∈ l,Q x := by
 obtain ⟨xs,af,aj,aw,aV,_,bH⟩ := h
 obtain ⟨et,dP⟩ := NX l xs aV
 exact ⟨.au et (by rw [List.length_map]; exact af) aj az ⟨(fun e => absurd e (by decide)),(fun e => absurd e (by decide))⟩ aw bH,dP⟩
theorem aho {f : FuncId} {args : List av} {vs : List Value} {W : World} {b : Bool} (h : cu f args (.v (.bool b))) (bj : db (pP W) ep args vs) (pe : uP (pP W) := by exact fun p hp => absurd hp (by simp [yC])) : uX Tryz.prog f vs.toArray W (.bool b) := by
 refine Calls.mono (h W (pP W) vs (Zr W pe) bj) ?_
 rintro e w' ⟨v,H',rfl,aH,ax⟩
 cases ax
 exact ahn aH.below
inductive ks where
 | int (k : IntKind)
 | bool
 | au (k : Nat) (e : ks)
 | nil
 | cons (h t : ks)
inductive nT where
 | i (n : Int)
 | b (b : Bool)
 | l (xs : List nT)
 | nil
 | cons (h t : nT)
def mo : ks → nT → List av
 | .int k,.i n => [.v (.int k n)]
 | .bool,.b b => [.v (.bool b)]
 | .au k e,.l xs => [.au k 2 (xs.map fun x => mo e x)]
 | .cons h t,.cons a b => mo h a ++ mo t b
 | _,_ => []
def kN : ks → nT → Prop
 | .int k,.i n => k.min ≤ n ∧ n ≤ k.max
 | .bool,.b _ => True
 | .au _ e,.l xs => ∀ x ∈ xs,kN e x
 | .nil,.nil => True
 | .cons h t,.cons a b => kN h a ∧ kN t b
 | _,_ => False
def y8 (P : Program) (g : TypeId → Option ks) : List Field → Nat → Option ks
 | [],_ => some .nil
 | f :: fT,acc => if f.offset = acc then (g f.type).bind fun p => (y8 P g fT (acc + P.cellsOf f.type)).map (.cons p ·) else none
def Av (P : Program) : List Field → Nat → Nat
 | [],acc => acc
 | f :: fT,acc => Av P fT (acc + P.cellsOf f.type)
def KC (p : ks) : Nat → ks
 | 0 => .nil
 | n + 1 => .cons p (KC p n)
def qn (P : Program) : Nat → TypeId → Option ks
 | 0 => fun _ => none
 | m + 1 => fun t => match P.underlying t with
  | some (.int k) => some (.int k)
  | some .bool => some .bool
  | some (.slice e) => (qn P m e).map (.au (P.cellsOf e))
  | some (.array n e) => if n * P.cellsOf e = P.cellsOf t then (qn P m e).map (KC · n) else none
  | some (.struct fT) => if Av P fT.toList 0 = P.cellsOf t then y8 P (qn P m) fT.toList 0 else none
  | _ => none
section
variable {H : Type} {enc : TypeId × Value → H} {P : Program} {W : World} {base : Nat} {spare : Nat → Bool} {held : Bool}
def tn (W : World) (pl : ks) (vs : List Value) : Prop := ∃ d,kN pl d ∧ db (pP W) ep (mo pl d) vs ∧ (mo pl d).all av.one = true
theorem Oz {p q : ks} {us vs : List Value} (af : tn W p us) (aj : tn W q vs) : tn W (.cons p q) (us ++ vs) := by
 obtain ⟨a,bE,bP,cK⟩ := af
 obtain ⟨b,c4,dm,gi⟩ := aj
 exact ⟨.cons a b,⟨bE,c4⟩,bP.append dm,by simp only [mo,List.all_append,cK,gi,Bool.and_self]⟩
theorem OA : tn W .nil [] := ⟨.nil,trivial,.nil,rfl⟩
theorem Rb {m : Nat} {g : TypeId → Option ks} {cs : List Value} (aH : ∀ t p vs x,g t = some p → DataW.trod enc P W base spare held m t vs = some x → tn W p vs) :
  ∀ (fT : List Field) (acc : Nat) (p : ks) (xs : List (DataW H × List MemPlace)),y8 P g fT acc = some p → xs.length = fT.length →
   (∀ (i : Nat) (f : Field),fT[i]? = some f → DataW.trod enc P W base spare held m f.type ((cs.drop f.offset).take (P.cellsOf f.type)) = xs[i]?) → cs.length = Av P fT acc → tn W p (cs.drop acc)
 | [],acc,p,xs,h,_,_,aF => by
  simp only [y8,Option.some.injEq] at h
  subst h
  rw [List.drop_of_length_le (by simp [Av] at aF; omega)]
  exact OA
 | f :: fT,acc,p,xs,h,ar,aq,aF => by
  unfold y8 at h
  split at h
  ·rename_i ay
   cases aB : g f.type with
   | none => rw [aB] at h; cases h
   | some eJ =>
    rw [aB] at h
    simp only [Option.bind_some] at h
    cases ax : y8 P g fT (acc + P.cellsOf f.type) with
    | none => rw [ax] at h; cases h
    | some fu =>
     rw [ax] at h
     simp only [Option.map_some,Option.some.injEq] at h
     subst h
     match xs,ar with
     | x :: xs,ar =>
      have bb := aq 0 f rfl
      rw [ay] at bb
      have f1 := aH _ _ _ _ aB bb
      have f2 := Rb aH fT (acc + P.cellsOf f.type) fu xs ax (by simpa using ar) (fun i yw aW => by have := aq (i + 1) yw (by simpa using aW); simpa using this) (by simpa [Av] using aF)
      have e : cs.drop acc = (cs.drop acc).take (P.cellsOf f.type) ++ cs.drop (acc + P.cellsOf f.type) := by rw [← List.drop_drop,List.take_append_drop]
      rw [e]
      exact Oz f1 f2
  ·cases h
theorem Rn {p : ks} {k : Nat} : ∀ (n : Nat) (cs : List Value),cs.length = n * k → (∀ i,i < n → tn W p ((cs.drop (i * k)).take k)) → tn W (KC p n) cs
 | 0,cs,aF,_ => by
  obtain rfl : cs = [] := List.eq_nil_of_length_eq_zero (by simpa using aF)
  exact OA
 | n + 1,cs,aF,h => by
  have f1 := h 0 (by omega)
  rw [Nat.zero_mul,List.drop_zero] at f1
  have f2 := Rn (k := k) n (cs.drop k) (by rw [List.length_drop,aF,Nat.add_mul]; omega) (fun i aq => by
   have := h (i + 1) (by omega)
   rw [List.drop_drop,show k + i * k = (i + 1) * k from by rw [Nat.add_mul]; omega]
   exact this)
  have e : cs = cs.take k ++ cs.drop k := by rw [List.take_append_drop]
  rw [e]
  exact Oz f1 f2
theorem B5 : ∀ (lp : Nat) (t : TypeId) (p : ks) (m : Nat) (vs : List Value) (x : DataW H × List MemPlace),qn P lp t = some p → DataW.trod enc P W base spare held m t vs = some x → tn W p vs
 | 0,_,_,_,_,_,h,_ => by simp [qn] at h
 | lp + 1,t,p,m,vs,x,h,ar => by
  unfold qn at h
  split at h
  ·rename_i k hu
   cases h
   obtain ⟨n,rfl,_,hw⟩ := DataW.trod_int hu ar
   simp only [Lit.wf,Bool.and_eq_true,decide_eq_true_eq] at hw
   exact ⟨.i n,hw,.cons (.v rfl) .nil,rfl⟩
  ·rename_i hu
   cases h
   obtain ⟨b,rfl,_⟩ := DataW.trod_bool hu ar
   exact ⟨.b b,trivial,.cons (.v rfl) .nil,rfl⟩
  ·rename_i e hu
   cases ax : qn P lp e with
   | none => rw [ax] at h; cases h
   | some q =>
    rw [ax] at h
    simp only [Option.map_some,Option.some.injEq] at h
    subst h
    obtain ⟨s,l,rfl,ao,az⟩ := ahU (R := C2 (mo q) (kN q)) hu rfl (fun n cs x ar aF => by
     obtain ⟨d,d1,d2,d3⟩ := B5 lp e q n cs x ax ar
     exact ⟨d2.one d3,d,d2,d3,d1⟩) ar
    obtain ⟨et,dP⟩ := ahW ao az
    exact ⟨.l l,dP,.cons et .nil,rfl⟩
  ·rename_i n e hu
   split at h
   ·rename_i az
    cases ax : qn P lp e with
    | none => rw [ax] at h; cases h
    | some q =>
     rw [ax] at h
     simp only [Option.map_some,Option.some.injEq] at h
     subst h
     obtain ⟨xs,sa,rfl,_,aF,lX,aW⟩ := DataW.trod_array hu ar
     exact Rn (k := P.cellsOf e) n vs (by rw [aF,az]) (fun i aq => by
      have := aW i aq
      rw [List.getElem?_eq_getElem (by omega)] at this
      exact B5 lp e q sa _ _ ax this)
   ·cases h
  ·rename_i fT hu
   split at h
   ·rename_i az
    obtain ⟨xs,n,rfl,_,aF,lX,aW⟩ := DataW.trod_struct hu ar
    have := Rb (cs := vs) (fun t p vs x h dh => B5 lp t p n vs x h dh) fT.toList 0 p xs h (by simpa using lX) (fun i f aq => aW i f (by simpa using aq)) (by rw [aF,az])
    simpa using this
   ·cases h
  ·cases h
theorem M3 {t : TypeId} {v : Value} {d : DataW H} {ps : List MemPlace} {m : Nat} {p : ks} (af : v.oneCell' = true) (aB : qn P m t = some p)
  (aX : DataW.Trod enc P W base spare held t v d ps) : ∃ q,kN p q ∧ db (pP W) ep (mo p q) [v] := by
 obtain ⟨fuel,aW⟩ := aX
 obtain ⟨q,bL,cd,_⟩ := B5 m t p fuel _ _ aB aW
 have e : v.cells = #[v] := by cases v <;> simp_all [Value.cells,Value.oneCell']
 rw [e] at cd
 exact ⟨q,bL,cd⟩
theorem QF {t : TypeId} {DD : TypeDesc} {v : Value} {r : Reach} {ha : Nat} (hu : P.underlying t = some DD) (ao : DD = .bool ∨ (∃ k,DD = .int k) ∨ ∃ e,DD = .slice e) (pn : Value.okWide P W r ha t v) : v.oneCell' = true := by
 rcases ao with rfl | ⟨k,rfl⟩ | ⟨e,rfl⟩
 ·obtain ⟨b,rfl⟩ := okWide_bool hu pn; rfl
 ·obtain ⟨n,rfl⟩ := okWide_int hu pn; rfl
 ·obtain ⟨a,n,c,rfl⟩ := okWide_slice hu pn; rfl
end
end Go.Proofs.YtkmbcjnaaokilaaGreatDoor
