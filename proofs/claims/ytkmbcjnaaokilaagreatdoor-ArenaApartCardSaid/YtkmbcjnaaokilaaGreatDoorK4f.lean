/-
  Layer 4, plain law: what a thread knows exists.
-/
import Derived.Test.YtkmbcjnaaokilaaGreatDoorMK22
namespace Go.Proofs.YtkmbcjnaaokilaaGreatDoor
set_option linter.unusedSimpArgs false
set_option linter.unusedVariables false
open Go.RowKit Go.Maps
theorem aga (M : c8) (t : Int) (v : h5) (p : Int) : dV (tA M t v) p = dV M p := rfl
theorem af9 {M : c8} {a : Int} (a5 : fC M a) (x : List j5) (V : List h5) (p : Int) : dV ⟨M.places.set a.toNat x,V⟩ p = if p = a then x else dV M p := by
 obtain ⟨m,rfl,hm,e,_⟩ := AP a5
 unfold dV
 simp only [Int.toNat_natCast]
 by_cases hp : p = (m : Int)
 ·subst hp
  rw [if_pos (by omega),Int.toNat_natCast,List.getElem?_set,if_pos rfl,if_pos (by simpa using hm)]
  simp
 ·rw [if_neg hp]
  split
  ·rw [List.getElem?_set,if_neg (by omega)]
  ·rfl
theorem CI {M : c8} {a : Int} (a5 : fC M a) (t : Int) (w : bm) (b : Bool) (p : Int) : dV (kr M t a w b) p = if p = a then dV M a ++ [⟨w,t,ux M t a b⟩] else dV M p := by
 unfold kr
 rw [aga]
 exact af9 a5 _ _ p
theorem W6 {M : c8} {t : Int} (aL : hA M t) (v : h5) (s : Int) : gS (tA M t v) s = if s = t then v else gS M s := by
 obtain ⟨m,rfl,hm,e,_⟩ := OJ aL
 unfold gS tA
 have fD : ((m : Int) + 1 - 1).toNat = m := by omega
 simp only [fD]
 by_cases ao : s = (m : Int) + 1
 ·subst ao
  rw [if_pos (by omega),fD,List.getElem?_set,if_pos rfl,if_pos (by simpa using hm)]
  simp
 ·rw [if_neg ao]
  split
  ·rw [List.getElem?_set,if_neg (by omega)]
  ·rfl
theorem W4 {M : c8} {t : Int} (aL : hA M t) (a : Int) (w : bm) (b : Bool) (s : Int) : gS (kr M t a w b) s = if s = t then mH (gS M t) a (dV M a).length else gS M s := by
 unfold kr
 exact W6 (M := { M with places := M.places.set a.toNat (dV M a ++ [⟨w,t,ux M t a b⟩]) }) aL _ s
noncomputable def M6 (M : c8) (t a i : Int) (j : Bool) : h5 := if j = true then uA (mH (gS M t) a i) (lb (dV M a) i).view else mH (gS M t) a i
theorem W5 {M : c8} {t : Int} (aL : hA M t) (a i : Int) (j : Bool) (s : Int) : gS (nb M t a i j).1 s = if s = t then M6 M t a i j else gS M s := W6 aL _ s
theorem af8 (M : c8) (t a i : Int) (j : Bool) (p : Int) : dV (nb M t a i j).1 p = dV M p := rfl
theorem PX (h : List j5) (m : j5) (i : Int) : lb (h ++ [m]) i = if i = (h.length : Int) then m else lb h i := by
 unfold lb
 by_cases ba : 0 ≤ i
 ·obtain ⟨k,rfl⟩ := Int.eq_ofNat_of_zero_le ba
  rw [if_pos ba,if_pos ba,Int.toNat_natCast]
  rcases Nat.lt_trichotomy k h.length with az | az | az
  ·rw [List.getElem?_append_left az,if_neg (by omega)]
  ·subst az
   rw [if_pos rfl]; simp
  ·rw [if_neg (by omega),List.getElem?_eq_none (by simp; omega),List.getElem?_eq_none (by omega)]
 ·rw [if_neg ba,if_neg ba,if_neg (by omega)]
theorem aie (h : List j5) (m : j5) : AG (h ++ [m]) = m := by
 unfold AG
 rw [PX,if_pos (by simp)]
structure n4 (M : c8) : Prop where
 seen : ∀ s p,fC M p → gy (gS M s) p ≤ ((dV M p).length : Int) - 1
 told : ∀ q i p,fC M p → gy (lb (dV M q) i).view p ≤ ((dV M p).length : Int) - 1
theorem Gq {M : c8} {n : Nat} (h : gp M n) {p : Int} (hp : fC M p) : 0 < (dV M p).length := by
 obtain ⟨_,_,_,_,hm⟩ := AP hp
 exact h.one _ hm
theorem Rg {M : c8} {n : Nat} (h : gp M n) (t a i : Int) (j : Bool) (a5 : fC M a) (p : Int) : gy (M6 M t a i j) p = max (if p = a then max (gy (gS M t) a) i else gy (gS M t) p) (if j = true then gy (lb (dV M a) i).view p else gy (gS M t) p) := by
 obtain ⟨_,a0,bS⟩ := zk h a5
 unfold M6
 cases j
 ·simp only [Bool.false_eq_true,if_false]
  rw [Ba _ _ _ _ a0 bS]
  split
  ·rename_i e; subst e; omega
  ·omega
 ·simp only [if_true]
  rw [aop (zK (zB h t) _ _) (Jb h a i),Ba _ _ _ _ a0 bS]
theorem Tb {M : c8} {n : Nat} (h : gp M n) (aq : n4 M) {t a i : Int} (j : Bool) (aL : hA M t) (a5 : fC M a) (Gp : i ≤ ((dV M a).length : Int) - 1) : n4 (nb M t a i j).1 := by
 refine ⟨fun s p hp => ?_,fun q k p hp => aq.told q k p hp⟩
 have mz : fC M p := hp
 rw [af8,W5 aL]
 split
 ·rw [Rg h t a i j a5]
  have af := aq.seen t p mz
  have aj := aq.told a i p mz
  have av := aq.seen t a a5
  by_cases e : p = a
  ·subst e; rw [if_pos rfl]; split <;> omega
  ·rw [if_neg e]; split <;> omega
 ·exact aq.seen s p mz
theorem aeC {M : c8} {n : Nat} (h : gp M n) (t a : Int) (b : Bool) (a5 : fC M a) (p : Int) : gy (ux M t a b) p = if p = a then max (if b = true then gy (gS M t) a else 0) (dV M a).length else if b = true then gy (gS M t) p else 0 := by
 obtain ⟨_,a0,bS⟩ := zk h a5
 unfold ux
 cases b
 ·simp only [Bool.false_eq_true,if_false]
  rw [Ba _ _ _ _ a0 bS]
  split <;> simp [gy]
 ·simp only [if_true]
  rw [Ba _ _ _ _ a0 bS]
theorem Ta {M : c8} {n : Nat} (h : gp M n) (aq : n4 M) {t a : Int} (w : bm) (b : Bool) (aL : hA M t) (a5 : fC M a) : n4 (kr M t a w b) := by
 obtain ⟨_,a0,bS⟩ := zk h a5
 have fg : ∀ p,fC (kr M t a w b) p → fC M p := fun p hp => by unfold fC at hp ⊢; rw [(On M t a w b).2] at hp; exact hp
 have aE : ∀ p,fC M p → ((dV M p).length : Int) ≤ ((dV (kr M t a w b) p).length : Int) := fun p _ => by
  rw [CI a5]; split
  ·rename_i e; subst e; simp; omega
  ·omega
 have re : ((dV (kr M t a w b) a).length : Int) = (dV M a).length + 1 := by rw [CI a5,if_pos rfl]; simp
 refine ⟨fun s p hp => ?_,fun q i p hp => ?_⟩
 ·have mz := fg p hp
  have af := aE p mz
  rw [W4 aL]
  split
  ·rw [Ba _ _ _ _ a0 bS]
   have aj := aq.seen t a a5
   split
   ·rename_i e; subst e; omega
   ·have := aq.seen t p mz; omega
  ·have := aq.seen s p mz; omega
 ·have mz := fg p hp
  have af := aE p mz
  have aj := aq.seen t p mz
  have av := aq.seen t a a5
  have aY := Gq h mz
  have hold : ∀ q,gy (lb (dV M q) i).view p ≤ ((dV (kr M t a w b) p).length : Int) - 1 := fun q => by have := aq.told q i p mz; omega
  rw [CI a5 t w b q]
  split
  ·rw [PX]
   split
   ·show gy (ux M t a b) p ≤ _
    rw [aeC h t a b a5]
    by_cases e : p = a
    ·subst e; rw [if_pos rfl,re]; split <;> omega
    ·rw [if_neg e]; split <;> omega
   ·exact hold a
  ·exact hold q
theorem aiy : n4 ⟨[],[]⟩ := ⟨fun s p hp => by have af := hp.1; have aj := hp.2; simp at aj; omega,fun q i p hp => by have af := hp.1; have aj := hp.2; simp at aj; omega⟩
theorem Tc (k : Int) (ws : List bm) : n4 (gI k ws).1 := by
 have bA := Mo k ws
 have ba : ∀ s p,gy (gS (gI k ws).1 s) p = 0 := fun s p => by
  have bj : ∀ v ∈ (gI k ws).1.views,v = fun _ => none := fun v bj => by
   unfold gI at bj
   split at bj
   ·simp at bj
   ·split at bj
    ·simp at bj
    ·split at bj
     ·simp at bj
     ·exact (List.mem_replicate.1 bj).2
  have : gS (gI k ws).1 s = fun _ => none := by
   unfold gS
   split
   ·cases e : (gI k ws).1.views[(s - 1).toNat]? with
    | none => rfl
    | some v => exact bj v (List.mem_of_getElem? e)
   ·rfl
  rw [this]; rfl
 have af : ∀ q i p,gy (lb (dV (gI k ws).1 q) i).view p = 0 := fun q i p => by
  have hm : ∀ m ∈ dV (gI k ws).1 q,m.view = fun _ => none := fun m hm => by
   unfold dV at hm
   split at hm
   ·cases e : (gI k ws).1.places[q.toNat]? with
    | none => rw [e] at hm; simp at hm
    | some h =>
     rw [e] at hm
     have cy := List.mem_of_getElem? e
     unfold gI at cy
     split at cy
     ·simp at cy
     ·split at cy
      ·simp at cy
      ·split at cy
       ·simp at cy
       ·obtain ⟨w,_,rfl⟩ := List.mem_map.1 cy
        simp only [th,Option.getD_some,List.mem_singleton] at hm
        subst hm; rfl
   ·simp at hm
  unfold lb
  split
  ·cases e : (dV (gI k ws).1 q)[i.toNat]? with
   | none => rfl
   | some m => simp only [Option.getD_some]; rw [hm m (List.mem_of_getElem? e)]; rfl
  ·rfl
 exact ⟨fun s p hp => by rw [ba]; have := Gq bA hp; omega,fun q i p hp => by rw [af]; have := Gq bA hp; omega⟩
theorem adg {M : c8} {n : Nat} (h : gp M n) {a : Int} (a5 : fC M a) (f c : Int) : tO (dV M a).length f c ≤ ((dV M a).length : Int) - 1 := (Qa (Gq h a5) f c).2
theorem aiv {M : c8} {n : Nat} (h : gp M n) (aq : n4 M) (t a : Int) (q : Bool) (c : Int) : n4 (ny M t a q c).1 := by
 unfold ny; split
 ·rename_i hw
  obtain ⟨aL,a5⟩ := qF.1 hw
  exact Tb h aq q aL a5 (adg h a5 _ _)
 ·exact aq
theorem Mn {M : c8} {n : Nat} (h : gp M n) (aq : n4 M) (t a : Int) : n4 (fh M t a).1 := by
 unfold fh; split
 ·rename_i hw
  obtain ⟨aL,a5⟩ := qF.1 hw
  exact Tb h aq true aL a5 (Int.le_refl _)
 ·exact aq
theorem aiw {M : c8} {n : Nat} (h : gp M n) (aq : n4 M) (t a : Int) (w : bm) (b : Bool) : n4 (oB M t a w b).1 := by
 unfold oB; split
 ·rename_i hw
  obtain ⟨aL,a5⟩ := qF.1 hw
  exact Ta h aq w b aL a5
 ·exact aq
theorem Xp {M : c8} {t a s : Int} : hA (fh M t a).1 s ↔ hA M s := by unfold hA; rw [(A2 M t a).1]
theorem M0 {M : c8} {t a p : Int} : fC (fh M t a).1 p ↔ fC M p := by unfold fC; rw [(A2 M t a).2]
theorem aix {M : c8} {n : Nat} (h : gp M n) (aq : n4 M) (t a : Int) (o w : bm) : n4 (iD M t a o w).1 := by
 unfold iD; split
 ·rename_i hw
  obtain ⟨aL,a5⟩ := qF.1 hw.1
  exact Ta (DC h t a) (Mn h aq t a) w true (Xp.2 aL) (M0.2 a5)
 ·exact Mn h aq t a
theorem G6 {M : c8} {t a : Int} (aL : hA M t) (a5 : fC M a) : (fh M t a).2 = (jd M a,0) := by
 unfold fh; rw [if_pos (qF.2 ⟨aL,a5⟩)]; rfl
theorem Mg (M : c8) (t a p : Int) : dV (fh M t a).1 p = dV M p := by
 unfold dV; rw [(A2 M t a).2]
theorem ail {M : c8} {n : Nat} (h : gp M n) (aq : n4 M) {t a : Int} (aL : hA M t) (a5 : fC M a) : gy (gS (fh M t a).1 t) a = ((dV M a).length : Int) - 1 := by
 unfold fh
 rw [if_pos (qF.2 ⟨aL,a5⟩)]
 show gy (gS (nb M t a _ true).1 t) a = _
 rw [W5 aL,if_pos rfl,Rg h t a _ true a5,if_pos rfl,if_pos rfl]
 have af := aq.seen t a a5
 have aj := aq.told a ((dV M a).length - 1) a a5
 omega
theorem alG {M : c8} {n : Nat} (h : gp M n) (aq : n4 M) {t a : Int} {o w : bm} (aL : hA M t) (a5 : fC M a) (ax : nH (jd M a) o = true) :
  (iD M t a o w).2 = (jd M a,true,0) ∧ dV (iD M t a o w).1 a = dV M a ++ [⟨w,t,ux (fh M t a).1 t a true⟩] ∧ gy (gS (iD M t a o w).1 t) a = (dV M a).length := by
 have e := G6 aL a5
 unfold iD
 rw [if_pos ⟨qF.2 ⟨aL,a5⟩,by rw [e]; exact ax⟩]
 refine ⟨by rw [e],?_,?_⟩
 ·show dV (kr (fh M t a).1 t a w true) a = _
  rw [CI (M0.2 a5),if_pos rfl,Mg]
 ·show gy (gS (kr (fh M t a).1 t a w true) t) a = _
  obtain ⟨_,a0,bS⟩ := zk h a5
  rw [W4 (Xp.2 aL),if_pos rfl,Ba _ _ _ _ a0 bS,if_pos rfl,ail h aq aL a5,Mg]
  omega
theorem alF {M : c8} {t a : Int} {o w : bm} (aL : hA M t) (a5 : fC M a) (ax : ¬ nH (jd M a) o = true) :
  iD M t a o w = ((fh M t a).1,jd M a,false,0) := by
 have e := G6 aL a5
 unfold iD
 rw [if_neg (fun h => ax (by have := h.2; rw [e] at this; exact this)),e]
theorem Mc (M : c8) (t a p : Int) : jd (fh M t a).1 p = jd M p := by unfold jd; rw [Mg]
end Go.Proofs.YtkmbcjnaaokilaaGreatDoor
