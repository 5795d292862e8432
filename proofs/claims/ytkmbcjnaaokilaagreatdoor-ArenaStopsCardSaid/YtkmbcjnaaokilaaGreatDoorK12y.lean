/-
  Layer 12, plain: worlds of chains.
-/
import Derived.Test.YtkmbcjnaaokilaaGreatDoorK12x
namespace Go.Proofs.YtkmbcjnaaokilaaGreatDoor
set_option linter.unusedSimpArgs false
set_option linter.unusedVariables false
open Go.RowKit Go.Maps
theorem abc {C : dR} {y : ds C} {s : C.ak} (aF : y.live = true) (az : y.code = some s) (g : dW) : iO y g = jr { y with e8 := y.e8 ++ [g] } (C.next s g).1 (C.next s g).2.1 (C.next s g).2.2 := by
 unfold iO
 rw [if_pos aF,az]
theorem FN {C : dR} (y : ds C) (s : C.ak) (a : dB) (b : Bool) : (jr y s a b).code = some s ∧ (jr y s a b).live = !b ∧ (b = false → (jr y s a b).act = a) := by
 unfold jr
 cases b
 ·exact ⟨rfl,rfl,fun _ => rfl⟩
 ·exact ⟨rfl,rfl,fun h => nomatch h⟩
structure CS (l : cc) (y : ds fR) (s : da) : Prop where
 code : ∃ L,y.code = some (s,L)
 lay : s.l = l
 bad : s.bad = false
 once : Dg s
 head : ∀ a,s.now = some a → p3 s = (lL a).isSome
 live : y.live = true → ∃ a,s.now = some a ∧ kM a y.act ∧ ln a = l
 dead : y.live = false → s.now = none ∧ s.ops = []
def zZ (l : cc) (a b : bq) (q : Int) : Prop := b.eZ = a.eZ ∧ b.ref = a.ref ∧ (b.val = a.val ∨ (bA l 0 ≤ q ∧ q ≤ bA l (l.blocks.toNat - 1)))
structure ov (N : Nat) (l : cc) (f0 : Int → bq) (w : cM fR) (S : List da) : Prop where
 v : 0 < w.m.mem.views.length
 pl : w.m.mem.places.length = N
 size : dp l 7 ≤ (N : Int)
 lay : fj l = 0
 pos : 0 < l.blocks
 len : w.tasks.length = S.length
 task : ∀ (i : Nat) (y : ds fR) (s : da),w.tasks[i]? = some y → S[i]? = some s → CS l y s
 apart : ∀ (i j : Nat) (s t : da),i ≠ j → S[i]? = some s → S[j]? = some t → ∀ b,Holds s b → ¬ Holds t b
 used : ∀ b : Nat,(b : Int) < l.blocks → (dZ l (eg w.m) b = true ↔ ∃ (i : Nat) (s : da),S[i]? = some s ∧ Holds s b)
 rest : ∀ q : Int,0 ≤ q → q < N → zZ l (f0 q) (eg w.m q) q
section
variable {N : Nat} {l : cc} {f0 : Int → bq} {w : cM fR} {S : List da} {n : Nat}
theorem ov.get (h : ov N l f0 w S) {i : Nat} {y : ds fR} (a1 : w.tasks[i]? = some y) : ∃ s,S[i]? = some s ∧ CS l y s := by
 have aq := (List.getElem?_eq_some_iff.1 a1).1
 rw [h.len] at aq
 exact ⟨_,List.getElem?_eq_getElem aq,h.task i y _ a1 (List.getElem?_eq_getElem aq)⟩
theorem ov.jy (_ : ov N l f0 w S) (a7 : jh w n) {i : Nat} {y : ds fR} (a1 : w.tasks[i]? = some y) {s : da} (eP : CS l y s) : ju n s := by
 obtain ⟨L,az⟩ := eP.code
 exact ((a7.task y (List.mem_of_getElem? a1)).jy _ az).1
theorem ov.g5 (h : ov N l f0 w S) (a7 : jh w n) : GO w n := by
 refine ⟨a7,h.v,fun y a1 aF => ?_⟩
 obtain ⟨i,aq⟩ := List.getElem?_of_mem a1
 obtain ⟨s,ao,eP⟩ := h.get aq
 obtain ⟨a,aZ,br,qb⟩ := eP.live aF
 have mM := ((h.jy a7 aq eP).now a aZ).1
 obtain ⟨af,b,aj,aw⟩ := br.ask mM
 rw [qb] at aj aw
 have bE := qG h.lay b
 have bP := tB h.lay aj
 have cK := h.size
 have hp := h.pl
 refine ⟨by omega,?_⟩
 unfold fq
 omega
theorem ahC {f0 : Int → bq} {f : Int → bq} {b : Nat} {q : Int} (aJ : b < l.blocks.toNat) (h : zZ l (f0 q) (f q) q) : zZ l (f0 q) (lZ l f b q) q := by
 unfold lZ
 split
 ·rename_i e; exact ⟨h.1,h.2.1,.inr ⟨by rw [e]; unfold bA; omega,by rw [e]; unfold bA; omega⟩⟩
 ·exact h
theorem ahB {f0 : Int → bq} {f : Int → bq} {b : Nat} {q : Int} (aJ : b < l.blocks.toNat) (h : zZ l (f0 q) (f q) q) : zZ l (f0 q) (nr l f b q) q := by
 unfold nr
 split
 ·rename_i e; exact ⟨h.1,h.2.1,.inr ⟨by rw [e]; unfold bA; omega,by rw [e]; unfold bA; omega⟩⟩
 ·exact h
theorem adu {s : da} (aB : ju n s) {b : Nat} (h : Holds s b) : (b : Int) < s.l.blocks := by
 rcases h with h | h
 ·have := aB.has.lt h; omega
 ·cases aZ : s.now with
  | none => rw [aZ] at h; cases h
  | some a =>
   rw [aZ] at h
   obtain ⟨_,_,aw,_⟩ := aB.now a aZ
   cases a with
   | c9 _ => cases h
   | ec g => cases h; exact aw
inductive UZ (w : cM fR) (S : List da) (p : kO) (S' : List da) : Prop
 | idle (e : eL w p = (w,false)) (ao : S' = S) (aO : p.kind = 0 → kJ w p.iC = false)
 | halt (k : p.kind = 1) (ao : S' = S) (e : eL w p = (qU w p.iC,true))
 | go (m : Nat) (y : ds fR) (s : da) (k : p.kind = 0) (aO : p.iC = (m : Int) + 1) (a1 : w.tasks[m]? = some y) (aN : S[m]? = some s) (aF : y.live = true) (hp : jf w m = false) (amx : (eL w p).2 = true)
   (eP : (eL w p).1.tasks = w.tasks.set m (iO y (cQ (eg w.m) y.act))) (ie : (eL w p).1.hY = w.hY) (mD : eg (eL w p).1.m = iA (eg w.m) y.act)
   (ao : S' = S.set m (dN s (cQ (eg w.m) y.act)).1) (dS : GG (eg w.m) s y.act)
   (Ju : (iO y (cQ (eg w.m) y.act)).live = !(dN s (cQ (eg w.m) y.act)).2.2) (anp : (dN s (cQ (eg w.m) y.act)).2.2 = false → (iO y (cQ (eg w.m) y.act)).act = (dN s (cQ (eg w.m) y.act)).2.1)
theorem Hi (h : ov N l f0 w S) (a7 : jh w n) (p : kO) (hp : p.kind ≠ 2) : ∃ S',ov N l f0 (eL w p).1 S' ∧ UZ w S p S' := by
 have ao := h.g5 a7
 have g4 := LF ao.ok p hp
 rcases TK ao p hp with ⟨e,a8⟩ | ⟨m,y,bb,af,aj,aw,aV,bF,bH,cA,dY⟩ | ⟨m,y,bb,af,aj,aw,aV,bF⟩
 ·exact ⟨S,by rw [e]; exact h,.idle e rfl a8⟩
 ·obtain ⟨s,aN,eP⟩ := h.get aj
  have aB := h.jy a7 aj eP
  obtain ⟨a,aZ,br,qb⟩ := eP.live aw
  have mD : eg (eL w p).1.m = iA (eg w.m) y.act := funext dY
  have Pq := (List.getElem?_eq_some_iff.1 aN).1
  obtain ⟨L,az⟩ := eP.code
  have aH := abc aw az (cQ (eg w.m) y.act)
  change iO y (cQ (eg w.m) y.act) = jr { y with e8 := y.e8 ++ [cQ (eg w.m) y.act] } ((dN s (cQ (eg w.m) y.act)).1,L) (dN s (cQ (eg w.m) y.act)).2.1 (dN s (cQ (eg w.m) y.act)).2.2 at aH
  obtain ⟨cw,c2,eE⟩ := FN (C := fR) { y with e8 := y.e8 ++ [cQ (eg w.m) y.act] } ((dN s (cQ (eg w.m) y.act)).1,L) (dN s (cQ (eg w.m) y.act)).2.1 (dN s (cQ (eg w.m) y.act)).2.2
  rw [← aH] at cw c2 eE
  rcases afj (f := eg w.m) aB (by rw [eP.lay]; exact h.pos) eP.once aZ br (eP.head a aZ) with dS | ⟨b,ib,iH,Ij⟩
  ·refine ⟨_,⟨by rw [g4.1]; exact h.v,by rw [g4.2.1]; exact h.pl,h.size,h.lay,h.pos,by rw [g4.2.2,h.len,List.length_set],fun i Gg dv aq iI => ?_,?_,?_,?_⟩,.go m y s bb af aj aN aw aV bF bH cA mD rfl dS c2 eE⟩
   ·rw [bH,List.getElem?_set] at aq
    rw [List.getElem?_set] at iI
    split at aq
    ·rename_i e
     subst e
     rw [if_pos rfl,if_pos Pq] at iI
     rw [if_pos (List.getElem?_eq_some_iff.1 aj).1] at aq
     cases aq; cases iI
     refine ⟨⟨L,cw⟩,by rw [dS.l,eP.lay],by rw [dS.bad,eP.bad],dS.once,dS.head,fun kc => ?_,fun kc => ?_⟩
     ·rw [c2] at kc
      have kc : (dN s (cQ (eg w.m) y.act)).2.2 = false := by simpa using kc
      obtain ⟨dD,bL,cd,dV⟩ := dS.live kc
      rw [eE kc]
      exact ⟨dD,bL,cd,dV.trans eP.lay⟩
     ·rw [c2] at kc
      exact dS.dead (by simpa using kc)
    ·rename_i e
     rw [if_neg e] at iI
     exact h.task i Gg dv aq iI
   ·have sZ : ∀ c,Holds (dN s (cQ (eg w.m) y.act)).1 c → Holds s c ∨ (∀ (j : Nat) (t : da),j ≠ m → S[j]? = some t → ¬ Holds t c) := fun c az => by
     rcases dS.out with ⟨_,dq⟩ | ⟨b,aJ,hu,_,dq⟩ | ⟨b,_,_,dq⟩
     ·exact .inl ((dq c).1 az)
     ·rcases (dq c).1 az with ch | ch
      ·exact .inl ch
      ·refine .inr fun j t _ aO ar => ?_
       rw [eP.lay] at aJ hu
       subst ch
       rw [(h.used c aJ).2 ⟨j,t,aO,ar⟩] at hu; cases hu
     ·exact .inl ((dq c).1 az).1
    intro i j s1 t1 iw aq aM b ib iH
    rw [List.getElem?_set] at aq aM
    split at aq
    ·rename_i e
     subst e
     cases aq
     rw [if_neg iw] at aM
     rcases sZ b ib with ch | ch
     ·exact h.apart m j s t1 iw aN aM b ch iH
     ·exact ch j t1 (fun e => iw e.symm) aM iH
    ·rename_i e
     split at aM
     ·rename_i a8
      subst a8
      cases aM
      rcases sZ b iH with ch | ch
      ·exact h.apart i m s1 s (fun e1 => e e1.symm) aq aN b ib ch
      ·exact ch i s1 (fun e1 => e e1.symm) aq ib
     ·exact h.apart i j s1 t1 iw aq aM b ib iH
   ·intro c az
    have hex : (∃ (i : Nat) (t : da),(S.set m (dN s (cQ (eg w.m) y.act)).1)[i]? = some t ∧ Holds t c) ↔ Holds (dN s (cQ (eg w.m) y.act)).1 c ∨ ∃ (i : Nat) (t : da),i ≠ m ∧ S[i]? = some t ∧ Holds t c := by
     constructor
     ·rintro ⟨i,t,aq,aO⟩
      rw [List.getElem?_set] at aq
      split at aq
      ·cases aq; exact .inl aO
      ·rename_i e; exact .inr ⟨i,t,fun e1 => e e1.symm,aq,aO⟩
     ·rintro (ch | ⟨i,t,dd,aq,aO⟩)
      ·exact ⟨m,_,by rw [List.getElem?_set,if_pos rfl,if_pos Pq],ch⟩
      ·exact ⟨i,t,by rw [List.getElem?_set,if_neg (fun e => dd e.symm)]; exact aq,aO⟩
    have acn : (∃ (i : Nat) (t : da),S[i]? = some t ∧ Holds t c) ↔ Holds s c ∨ ∃ (i : Nat) (t : da),i ≠ m ∧ S[i]? = some t ∧ Holds t c := by
     constructor
     ·rintro ⟨i,t,aq,aO⟩
      by_cases e : i = m
      ·subst e; rw [aN] at aq; cases aq; exact .inl aO
      ·exact .inr ⟨i,t,e,aq,aO⟩
     ·rintro (ch | ⟨i,t,_,aq,aO⟩)
      ·exact ⟨m,s,aN,ch⟩
      ·exact ⟨i,t,aq,aO⟩
    have kA := h.used c az
    rw [acn] at kA
    rw [hex,mD]
    rcases dS.out with ⟨e,dq⟩ | ⟨b,aJ,hu,e,dq⟩ | ⟨b,aJ,e,dq⟩
    ·rw [e,dq]; exact kA
    ·rw [eP.lay] at e
     rw [e,L7,dq,Bool.or_eq_true,kA,decide_eq_true_eq]
     constructor
     ·rintro ((ch | ch) | ch)
      ·exact .inl (.inl ch)
      ·exact .inr ch
      ·exact .inl (.inr ch.symm)
     ·rintro ((ch | ch) | ch)
      ·exact .inl (.inl ch)
      ·exact .inr ch.symm
      ·exact .inl (.inr ch)
    ·rw [eP.lay] at e
     rw [e,Uo,dq,Bool.and_eq_true,kA,Bool.not_eq_true',decide_eq_false_iff_not]
     constructor
     ·rintro ⟨ch | ch,dY⟩
      ·exact .inl ⟨ch,fun e => dY e.symm⟩
      ·exact .inr ch
     ·rintro (⟨ch,dY⟩ | ⟨i,t,dd,aq,aO⟩)
      ·exact ⟨.inl ch,fun e => dY e.symm⟩
      ·refine ⟨.inr ⟨i,t,dd,aq,aO⟩,fun e => ?_⟩
       subst e
       exact h.apart m i s t (fun e => dd e.symm) aN aq b aJ aO
   ·intro q bb af
    have ax := h.rest q bb af
    rw [mD]
    rcases dS.out with ⟨e,_⟩ | ⟨b,aJ,_,e,_⟩ | ⟨b,aJ,e,_⟩
    ·rw [e]; exact ax
    ·rw [eP.lay] at e aJ
     rw [e]; exact ahC (by omega) ax
    ·have aJ := adu aB aJ
     rw [eP.lay] at e aJ
     rw [e]; exact ahB (by omega) ax
  ·rw [eP.lay] at iH Ij
   rw [(h.used b iH).2 ⟨m,s,aN,ib⟩] at Ij; cases Ij
 ·have e : (eL w p).1 = qU w p.iC := by rw [bF]
  exact ⟨S,by rw [e]; exact ⟨h.v,h.pl,h.size,h.lay,h.pos,h.len,h.task,h.apart,h.used,h.rest⟩,.halt bb rfl bF⟩
structure UY (N : Nat) (l : cc) (f0 : Int → bq) (w w' : cM fR) (m : Nat) (S' : List da) : Prop where
 W : ov N l f0 w' S'
 done : kh w' m = false
 amz : ∀ j,j ≠ m → w'.tasks[j]? = w.tasks[j]?
 st : w'.hY = w.hY
theorem Nk : ∀ (k : Nat) {w : cM fR} {S : List da} {n : Nat} (_ : ov N l f0 w S) (_ : jh w n) {m : Nat} {y : ds fR} {s : da} (_ : w.tasks[m]? = some y) (_ : S[m]? = some s) (_ : jf w m = false) (_ : qm (eg w.m) s y.act y.live ≤ k),∃ S',UY N l f0 w (eT w ((m : Int) + 1) k) m S'
 | k,w,S,n,h,a7,m,y,s,a1,aN,ie,aB => by
  have kC := (List.getElem?_eq_some_iff.1 a1).1
  have eP := h.task m y s a1 aN
  by_cases aF : y.live = true
  case neg =>
   have vr : kh w m = false := by unfold kh; rw [a1]; simpa using aF
   rw [Ou (m := m) (by omega) vr]
   exact ⟨S,h,vr,fun _ _ => rfl,rfl⟩
  have fz : 1 ≤ qm (eg w.m) s y.act y.live := by
   obtain ⟨a,aZ,br,qb⟩ := eP.live aF
   rw [aF,y6 aZ]
   have := (br.DC (f := eg w.m) (by rw [qb]; exact h.pos)).2
   omega
  match k,aB with
  | 0,aB => omega
  | k + 1,aB =>
   have vB : kJ w ((m : Int) + 1) = true := by
    unfold kJ kh
    rw [show ((m : Int) + 1 - 1).toNat = m by omega,ie,a1]
    simp [aF]; omega
   obtain ⟨b0,ab1,sY⟩ := Hi h a7 ⟨0,(m : Int) + 1,0⟩ (by simp)
   have yP := F3 a7 ⟨0,(m : Int) + 1,0⟩
   rcases sY with ⟨e,_,a8⟩ | ⟨e,_,_⟩ | ⟨lp,Gg,dv,fs,a2,a8,cg,e7,h9,lH,nY,qK,gH,aad,aae,aaf,aag⟩
   ·have := a8 rfl
    rw [vB] at this; cases this
   ·cases e
   ·have n8 : lp = m := by simp only at a2; omega
    subst n8
    rw [a1] at a8; cases a8
    rw [aN] at cg; cases cg
    have acr : eT w ((lp : Int) + 1) (k + 1) = eT (eL w ⟨0,(lp : Int) + 1,0⟩).1 ((lp : Int) + 1) k := by rw [eT,if_pos lH]
    rw [acr]
    have um : (eL w ⟨0,(lp : Int) + 1,0⟩).1.tasks[lp]? = some (iO y (cQ (eg w.m) y.act)) := by rw [nY,List.getElem?_set,if_pos rfl,if_pos kC]
    have sS : b0[lp]? = some (dN s (cQ (eg w.m) y.act)).1 := by rw [aad,List.getElem?_set,if_pos rfl,if_pos (List.getElem?_eq_some_iff.1 aN).1]
    have adT : jf (eL w ⟨0,(lp : Int) + 1,0⟩).1 lp = false := by unfold jf; rw [qK]; exact ie
    have az := aae.cost
    rw [← aF] at az
    have Pz : qm (eg (eL w ⟨0,(lp : Int) + 1,0⟩).1.m) (dN s (cQ (eg w.m) y.act)).1 (iO y (cQ (eg w.m) y.act)).act (iO y (cQ (eg w.m) y.act)).live = qm (iA (eg w.m) y.act) (dN s (cQ (eg w.m) y.act)).1 (dN s (cQ (eg w.m) y.act)).2.1 (!(dN s (cQ (eg w.m) y.act)).2.2) := by
     rw [gH,aaf]
     cases aX : (dN s (cQ (eg w.m) y.act)).2.2
     ·rw [aag aX]
     ·rfl
    obtain ⟨gh,et,dP,nL,xI⟩ := Nk k ab1 yP um sS adT (by rw [Pz]; omega)
    refine ⟨gh,et,dP,fun j aM => ?_,by rw [xI,qK]⟩
    rw [nL j aM,nY,List.getElem?_set,if_neg (fun e => aM e.symm)]
theorem ag4 (h : ov N l f0 w S) (a7 : jh w n) {m : Nat} {y : ds fR} {s : da} (a1 : w.tasks[m]? = some y) (aN : S[m]? = some s) : qm (eg w.m) s y.act y.live ≤ (h7 l + 1) * s.ops.length := by
 have eP := h.task m y s a1 aN
 cases aF : y.live
 case true =>
  obtain ⟨a,aZ,br,qb⟩ := eP.live aF
  have az := (br.DC (f := eg w.m) (by rw [qb]; exact h.pos)).1
  have dd := List.length_pos_iff.2 ((h.jy a7 a1 eP).now a aZ).2.2.2
  rw [qb] at az
  rw [y6 aZ,eP.lay]
  have : (h7 l + 1) * s.ops.length = (h7 l + 1) * (s.ops.length - 1) + (h7 l + 1) := by
   conv => lhs; rw [show s.ops.length = (s.ops.length - 1) + 1 by omega]
   rw [Nat.mul_add,Nat.mul_one]
  omega
 case false => rw [Q8]; exact Nat.zero_le _
end
def sI (l : cc) (ops : List fi) : da := ⟨l,ops,none,[],[],false⟩
theorem Nh {l : cc} (aF : fj l = 0) {ops : List fi} (af : ops.length ≤ 1000) (aj : ∀ o ∈ ops,wv o) : ju 0 (sI l ops) :=
 ⟨aF,af,aj,fun a aZ => (by cases aZ),⟨fun _ => false,(List.filter_eq_nil_iff.2 fun _ _ => by simp).symm⟩,by show 0 ≤ _; omega⟩
theorem ZT {l : cc} (aF : fj l = 0) (aJ : 0 < l.blocks) {k : Int} {ws : List bq} (hw : dp l 7 ≤ (ws.length : Int)) (aB : (gC k ws).2 = 0) (am8 : 0 < k) (cs : List (da × fF)) (lN : ∀ p ∈ cs,p.1.l = l ∧ p.1.bad = false ∧ p.1.now = none ∧ p.1.has = [] ∧ ju 0 p.1) (st : List Bool)
  (hu : ∀ b : Nat,(b : Int) < l.blocks → dZ l (dw ws) b = false) : ∃ S,ov ws.length l (dw ws) ⟨(j5 k ws).1,cs.map (nf (C := fR)),st⟩ S := by
 obtain ⟨af,aj,aw⟩ := Ae aB
 have EJ : ∀ q : Int,0 ≤ q → q < ws.length → eg (j5 k ws).1 q = dw ws q := fun q bb af => by
  obtain ⟨p,rfl⟩ := Int.eq_ofNat_of_zero_le bb
  have hp : p < ws.length := by omega
  rw [Uv aB (List.getElem?_eq_getElem hp)]
  show _ = ((ws[(p : Int).toNat]?).getD gv)
  rw [Int.toNat_natCast,List.getElem?_eq_getElem hp]; rfl
 have k0 : ∀ p ∈ cs,dN p.1 e4 = hF p.1 := fun p hp => by unfold dN; rw [(lN p hp).2.2.1]
 have fD : ∀ p ∈ cs,Mq p.1 (hF p.1) := fun p hp => Dv (lN p hp).2.2.2.2 (by rw [(lN p hp).1]; exact aJ) (lN p hp).2.2.1
 have kD : ∀ p ∈ cs,∀ b,¬ Holds (hF p.1).1 b := fun p hp b ar => by
  rw [(fD p hp).hold b,(lN p hp).2.2.2.1] at ar; cases ar
 have gp : ∀ (i : Nat) (s : da),(cs.map fun p => (hF p.1).1)[i]? = some s → ∃ p ∈ cs,s = (hF p.1).1 := fun i s aq => by
  rw [List.getElem?_map] at aq
  cases hp : cs[i]? with
  | none => rw [hp] at aq; cases aq
  | some p => rw [hp] at aq; exact ⟨p,List.mem_of_getElem? hp,(Option.some.inj aq).symm⟩
 refine ⟨cs.map fun p => (hF p.1).1,by rw [af]; omega,aj,hw,aF,aJ,by simp,fun i y s aq iI => ?_,fun i j s t _ aq _ b ar => ?_,fun b pf => ?_,fun q bb af => by rw [EJ q bb af]; exact ⟨rfl,rfl,.inl rfl⟩⟩
 ·rw [List.getElem?_map] at aq iI
  cases hp : cs[i]? with
  | none => rw [hp] at aq; cases aq
  | some p =>
   rw [hp] at aq iI
   cases aq; cases iI
   have hm := List.mem_of_getElem? hp
   have aN := fD p hm
   obtain ⟨cw,c2,eE⟩ := FN (C := fR) (uN fR) ((dN p.1 e4).1,p.2) (dN p.1 e4).2.1 (dN p.1 e4).2.2
   change CS l (jr (uN fR) ((dN p.1 e4).1,p.2) (dN p.1 e4).2.1 (dN p.1 e4).2.2) _
   rw [k0 p hm] at cw c2 eE ⊢
   refine ⟨⟨p.2,cw⟩,by rw [aN.l]; exact (lN p hm).1,by rw [aN.bad]; exact (lN p hm).2.1,aN.once,aN.head,fun kX => ?_,fun kX => ?_⟩
   ·rw [c2] at kX
    have kX : (hF p.1).2.2 = false := by simpa using kX
    obtain ⟨a,bL,cd,dV⟩ := aN.live kX
    rw [eE kX]
    exact ⟨a,bL,cd,by rw [dV,aN.l]; exact (lN p hm).1⟩
   ·rw [c2] at kX
    exact aN.dead (by simpa using kX)
 ·obtain ⟨p,hp,rfl⟩ := gp i s aq
  exact absurd ar (kD p hp b)
 ·have a2 : dZ l (eg (j5 k ws).1) b = dZ l (dw ws) b := by
   unfold dZ
   have bE := qG aF b
   have bP := tB aF pf
   rw [EJ _ bE (by omega)]
  rw [a2,hu b pf]
  constructor
  ·intro h; cases h
  ·rintro ⟨i,s,aq,ar⟩
   obtain ⟨p,hp,rfl⟩ := gp i s aq
   exact absurd ar (kD p hp b)
end Go.Proofs.YtkmbcjnaaokilaaGreatDoor
