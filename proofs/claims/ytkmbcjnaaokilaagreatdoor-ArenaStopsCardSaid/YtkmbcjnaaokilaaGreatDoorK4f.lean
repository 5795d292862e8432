/-
  Layer 4, plain law: what a thread knows exists.
-/
import Derived.Test.YtkmbcjnaaokilaaGreatDoorMK25
namespace Go.Proofs.YtkmbcjnaaokilaaGreatDoor
set_option linter.unusedSimpArgs false
set_option linter.unusedVariables false
open Go.RowKit Go.Maps
theorem acC (M : c6) (t : Int) (v : hS) (p : Int) : dI (sx M t v) p = dI M p := rfl
theorem acB {M : c6} {a : Int} (aZ : fq M a) (x : List jP) (V : List hS) (p : Int) : dI ⟨M.places.set a.toNat x,V⟩ p = if p = a then x else dI M p := by
 obtain ⟨m,rfl,hm,e,_⟩ := y9 aZ
 unfold dI
 simp only [Int.toNat_natCast]
 by_cases hp : p = (m : Int)
 ·subst hp
  rw [if_pos (by omega),Int.toNat_natCast,List.getElem?_set,if_pos rfl,if_pos (by simpa using hm)]
  simp
 ·rw [if_neg hp]
  split
  ·rw [List.getElem?_set,if_neg (by omega)]
  ·rfl
theorem A0 {M : c6} {a : Int} (aZ : fq M a) (t : Int) (w : bq) (b : Bool) (p : Int) : dI (j4 M t a w b) p = if p = a then dI M a ++ [⟨w,t,th M t a b⟩] else dI M p := by
 unfold j4
 rw [acC]
 exact acB aZ _ _ p
theorem TO {M : c6} {t : Int} (aO : hl M t) (v : hS) (s : Int) : gL (sx M t v) s = if s = t then v else gL M s := by
 obtain ⟨m,rfl,hm,e,_⟩ := LZ aO
 unfold gL sx
 have fs : ((m : Int) + 1 - 1).toNat = m := by omega
 simp only [fs]
 by_cases ao : s = (m : Int) + 1
 ·subst ao
  rw [if_pos (by omega),fs,List.getElem?_set,if_pos rfl,if_pos (by simpa using hm)]
  simp
 ·rw [if_neg ao]
  split
  ·rw [List.getElem?_set,if_neg (by omega)]
  ·rfl
theorem TM {M : c6} {t : Int} (aO : hl M t) (a : Int) (w : bq) (b : Bool) (s : Int) : gL (j4 M t a w b) s = if s = t then l5 (gL M t) a (dI M a).length else gL M s := by
 unfold j4
 exact TO (M := { M with places := M.places.set a.toNat (dI M a ++ [⟨w,t,th M t a b⟩]) }) aO _ s
noncomputable def Kv (M : c6) (t a i : Int) (j : Bool) : hS := if j = true then tj (l5 (gL M t) a i) (kQ (dI M a) i).view else l5 (gL M t) a i
theorem TN {M : c6} {t : Int} (aO : hl M t) (a i : Int) (j : Bool) (s : Int) : gL (mB M t a i j).1 s = if s = t then Kv M t a i j else gL M s := TO aO _ s
theorem acA (M : c6) (t a i : Int) (j : Bool) (p : Int) : dI (mB M t a i j).1 p = dI M p := rfl
theorem M7 (h : List jP) (m : jP) (i : Int) : kQ (h ++ [m]) i = if i = (h.length : Int) then m else kQ h i := by
 unfold kQ
 by_cases bb : 0 ≤ i
 ·obtain ⟨k,rfl⟩ := Int.eq_ofNat_of_zero_le bb
  rw [if_pos bb,if_pos bb,Int.toNat_natCast]
  rcases Nat.lt_trichotomy k h.length with aB | aB | aB
  ·rw [List.getElem?_append_left aB,if_neg (by omega)]
  ·subst aB
   rw [if_pos rfl]; simp
  ·rw [if_neg (by omega),List.getElem?_eq_none (by simp; omega),List.getElem?_eq_none (by omega)]
 ·rw [if_neg bb,if_neg bb,if_neg (by omega)]
theorem aeG (h : List jP) (m : jP) : yX (h ++ [m]) = m := by
 unfold yX
 rw [M7,if_pos (by simp)]
structure nm (M : c6) : Prop where
 seen : ∀ s p,fq M p → gl (gL M s) p ≤ ((dI M p).length : Int) - 1
 told : ∀ q i p,fq M p → gl (kQ (dI M q) i).view p ≤ ((dI M p).length : Int) - 1
theorem Eh {M : c6} {n : Nat} (h : gg M n) {p : Int} (hp : fq M p) : 0 < (dI M p).length := by
 obtain ⟨_,_,_,_,hm⟩ := y9 hp
 exact h.one _ hm
theorem Oo {M : c6} {n : Nat} (h : gg M n) (t a i : Int) (j : Bool) (aZ : fq M a) (p : Int) : gl (Kv M t a i j) p = max (if p = a then max (gl (gL M t) a) i else gl (gL M t) p) (if j = true then gl (kQ (dI M a) i).view p else gl (gL M t) p) := by
 obtain ⟨_,a0,bE⟩ := xE h aZ
 unfold Kv
 cases j
 ·simp only [Bool.false_eq_true,if_false]
  rw [zw _ _ _ _ a0 bE]
  split
  ·rename_i e; subst e; omega
  ·omega
 ·simp only [if_true]
  rw [akH (x0 (xV h t) _ _) (G0 h a i),zw _ _ _ _ a0 bE]
theorem Qf {M : c6} {n : Nat} (h : gg M n) (aq : nm M) {t a i : Int} (j : Bool) (aO : hl M t) (aZ : fq M a) (Eg : i ≤ ((dI M a).length : Int) - 1) : nm (mB M t a i j).1 := by
 refine ⟨fun s p hp => ?_,fun q k p hp => aq.told q k p hp⟩
 have lU : fq M p := hp
 rw [acA,TN aO]
 split
 ·rw [Oo h t a i j aZ]
  have af := aq.seen t p lU
  have aj := aq.told a i p lU
  have aw := aq.seen t a aZ
  by_cases e : p = a
  ·subst e; rw [if_pos rfl]; split <;> omega
  ·rw [if_neg e]; split <;> omega
 ·exact aq.seen s p lU
theorem abb {M : c6} {n : Nat} (h : gg M n) (t a : Int) (b : Bool) (aZ : fq M a) (p : Int) : gl (th M t a b) p = if p = a then max (if b = true then gl (gL M t) a else 0) (dI M a).length else if b = true then gl (gL M t) p else 0 := by
 obtain ⟨_,a0,bE⟩ := xE h aZ
 unfold th
 cases b
 ·simp only [Bool.false_eq_true,if_false]
  rw [zw _ _ _ _ a0 bE]
  split <;> simp [gl]
 ·simp only [if_true]
  rw [zw _ _ _ _ a0 bE]
theorem Qe {M : c6} {n : Nat} (h : gg M n) (aq : nm M) {t a : Int} (w : bq) (b : Bool) (aO : hl M t) (aZ : fq M a) : nm (j4 M t a w b) := by
 obtain ⟨_,a0,bE⟩ := xE h aZ
 have fa : ∀ p,fq (j4 M t a w b) p → fq M p := fun p hp => by unfold fq at hp ⊢; rw [(LL M t a w b).2] at hp; exact hp
 have aF : ∀ p,fq M p → ((dI M p).length : Int) ≤ ((dI (j4 M t a w b) p).length : Int) := fun p _ => by
  rw [A0 aZ]; split
  ·rename_i e; subst e; simp; omega
  ·omega
 have qb : ((dI (j4 M t a w b) a).length : Int) = (dI M a).length + 1 := by rw [A0 aZ,if_pos rfl]; simp
 refine ⟨fun s p hp => ?_,fun q i p hp => ?_⟩
 ·have lU := fa p hp
  have af := aF p lU
  rw [TM aO]
  split
  ·rw [zw _ _ _ _ a0 bE]
   have aj := aq.seen t a aZ
   split
   ·rename_i e; subst e; omega
   ·have := aq.seen t p lU; omega
  ·have := aq.seen s p lU; omega
 ·have lU := fa p hp
  have af := aF p lU
  have aj := aq.seen t p lU
  have aw := aq.seen t a aZ
  have aV := Eh h lU
  have hold : ∀ q,gl (kQ (dI M q) i).view p ≤ ((dI (j4 M t a w b) p).length : Int) - 1 := fun q => by have := aq.told q i p lU; omega
  rw [A0 aZ t w b q]
  split
  ·rw [M7]
   split
   ·show gl (th M t a b) p ≤ _
    rw [abb h t a b aZ]
    by_cases e : p = a
    ·subst e; rw [if_pos rfl,qb]; split <;> omega
    ·rw [if_neg e]; split <;> omega
   ·exact hold a
  ·exact hold q
theorem aeW : nm ⟨[],[]⟩ := ⟨fun s p hp => by have af := hp.1; have aj := hp.2; simp at aj; omega,fun q i p hp => by have af := hp.1; have aj := hp.2; simp at aj; omega⟩
theorem Qg (k : Int) (ws : List bq) : nm (gC k ws).1 := by
 have bk := JS k ws
 have bb : ∀ s p,gl (gL (gC k ws).1 s) p = 0 := fun s p => by
  have bj : ∀ v ∈ (gC k ws).1.views,v = fun _ => none := fun v bj => by
   unfold gC at bj
   split at bj
   ·simp at bj
   ·split at bj
    ·simp at bj
    ·split at bj
     ·simp at bj
     ·exact (List.mem_replicate.1 bj).2
  have : gL (gC k ws).1 s = fun _ => none := by
   unfold gL
   split
   ·cases e : (gC k ws).1.views[(s - 1).toNat]? with
    | none => rfl
    | some v => exact bj v (List.mem_of_getElem? e)
   ·rfl
  rw [this]; rfl
 have af : ∀ q i p,gl (kQ (dI (gC k ws).1 q) i).view p = 0 := fun q i p => by
  have hm : ∀ m ∈ dI (gC k ws).1 q,m.view = fun _ => none := fun m hm => by
   unfold dI at hm
   split at hm
   ·cases e : (gC k ws).1.places[q.toNat]? with
    | none => rw [e] at hm; simp at hm
    | some h =>
     rw [e] at hm
     have dq := List.mem_of_getElem? e
     unfold gC at dq
     split at dq
     ·simp at dq
     ·split at dq
      ·simp at dq
      ·split at dq
       ·simp at dq
       ·obtain ⟨w,_,rfl⟩ := List.mem_map.1 dq
        simp only [sc,Option.getD_some,List.mem_singleton] at hm
        subst hm; rfl
   ·simp at hm
  unfold kQ
  split
  ·cases e : (dI (gC k ws).1 q)[i.toNat]? with
   | none => rfl
   | some m => simp only [Option.getD_some]; rw [hm m (List.mem_of_getElem? e)]; rfl
  ·rfl
 exact ⟨fun s p hp => by rw [bb]; have := Eh bk hp; omega,fun q i p hp => by rw [af]; have := Eh bk hp; omega⟩
theorem ZU {M : c6} {n : Nat} (h : gg M n) {a : Int} (aZ : fq M a) (f c : Int) : sJ (dI M a).length f c ≤ ((dI M a).length : Int) - 1 := (Nm (Eh h aZ) f c).2
theorem aeT {M : c6} {n : Nat} (h : gg M n) (aq : nm M) (t a : Int) (q : Bool) (c : Int) : nm (nc M t a q c).1 := by
 unfold nc; split
 ·rename_i hw
  obtain ⟨aO,aZ⟩ := pF.1 hw
  exact Qf h aq q aO aZ (ZU h aZ _ _)
 ·exact aq
theorem JR {M : c6} {n : Nat} (h : gg M n) (aq : nm M) (t a : Int) : nm (fb M t a).1 := by
 unfold fb; split
 ·rename_i hw
  obtain ⟨aO,aZ⟩ := pF.1 hw
  exact Qf h aq true aO aZ (Int.le_refl _)
 ·exact aq
theorem aeU {M : c6} {n : Nat} (h : gg M n) (aq : nm M) (t a : Int) (w : bq) (b : Bool) : nm (nH M t a w b).1 := by
 unfold nH; split
 ·rename_i hw
  obtain ⟨aO,aZ⟩ := pF.1 hw
  exact Qe h aq w b aO aZ
 ·exact aq
theorem Ub {M : c6} {t a s : Int} : hl (fb M t a).1 s ↔ hl M s := by unfold hl; rw [(zp M t a).1]
theorem Kr {M : c6} {t a p : Int} : fq (fb M t a).1 p ↔ fq M p := by unfold fq; rw [(zp M t a).2]
theorem aeV {M : c6} {n : Nat} (h : gg M n) (aq : nm M) (t a : Int) (o w : bq) : nm (ih M t a o w).1 := by
 unfold ih; split
 ·rename_i hw
  obtain ⟨aO,aZ⟩ := pF.1 hw.1
  exact Qe (BO h t a) (JR h aq t a) w true (Ub.2 aO) (Kr.2 aZ)
 ·exact JR h aq t a
theorem E0 {M : c6} {t a : Int} (aO : hl M t) (aZ : fq M a) : (fb M t a).2 = (iJ M a,0) := by
 unfold fb; rw [if_pos (pF.2 ⟨aO,aZ⟩)]; rfl
theorem JL (M : c6) (t a p : Int) : dI (fb M t a).1 p = dI M p := by
 unfold dI; rw [(zp M t a).2]
theorem aeL {M : c6} {n : Nat} (h : gg M n) (aq : nm M) {t a : Int} (aO : hl M t) (aZ : fq M a) : gl (gL (fb M t a).1 t) a = ((dI M a).length : Int) - 1 := by
 unfold fb
 rw [if_pos (pF.2 ⟨aO,aZ⟩)]
 show gl (gL (mB M t a _ true).1 t) a = _
 rw [TN aO,if_pos rfl,Oo h t a _ true aZ,if_pos rfl,if_pos rfl]
 have af := aq.seen t a aZ
 have aj := aq.told a ((dI M a).length - 1) a aZ
 omega
theorem ah3 {M : c6} {n : Nat} (h : gg M n) (aq : nm M) {t a : Int} {o w : bq} (aO : hl M t) (aZ : fq M a) (ay : mY (iJ M a) o = true) :
  (ih M t a o w).2 = (iJ M a,true,0) ∧ dI (ih M t a o w).1 a = dI M a ++ [⟨w,t,th (fb M t a).1 t a true⟩] ∧ gl (gL (ih M t a o w).1 t) a = (dI M a).length := by
 have e := E0 aO aZ
 unfold ih
 rw [if_pos ⟨pF.2 ⟨aO,aZ⟩,by rw [e]; exact ay⟩]
 refine ⟨by rw [e],?_,?_⟩
 ·show dI (j4 (fb M t a).1 t a w true) a = _
  rw [A0 (Kr.2 aZ),if_pos rfl,JL]
 ·show gl (gL (j4 (fb M t a).1 t a w true) t) a = _
  obtain ⟨_,a0,bE⟩ := xE h aZ
  rw [TM (Ub.2 aO),if_pos rfl,zw _ _ _ _ a0 bE,if_pos rfl,aeL h aq aO aZ,JL]
  omega
theorem ah2 {M : c6} {t a : Int} {o w : bq} (aO : hl M t) (aZ : fq M a) (ay : ¬ mY (iJ M a) o = true) :
  ih M t a o w = ((fb M t a).1,iJ M a,false,0) := by
 have e := E0 aO aZ
 unfold ih
 rw [if_neg (fun h => ay (by have := h.2; rw [e] at this; exact this)),e]
theorem JH (M : c6) (t a p : Int) : iJ (fb M t a).1 p = iJ M p := by unfold iJ; rw [JL]
end Go.Proofs.YtkmbcjnaaokilaaGreatDoor
