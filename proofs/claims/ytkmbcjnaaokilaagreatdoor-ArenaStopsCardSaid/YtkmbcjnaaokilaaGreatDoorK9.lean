/-
  Looks, swaps and releases see the newest words: what a step of a world does to them.
-/
import Derived.Test.YtkmbcjnaaokilaaGreatDoorMK22
namespace Go.Proofs.YtkmbcjnaaokilaaGreatDoor
set_option linter.unusedSimpArgs false
set_option linter.unusedVariables false
open Go.RowKit Go.Maps
theorem Z6 {M : e0} {t : Int} {a : dB} (aO : hl M.mem t) (af : 0 ≤ a.op ∧ a.op ≤ 8) (hp : a.op ≠ 0 → a.op ≠ 8 → fq M.mem a.place) : pV M t a = 0 := by
 unfold pV
 obtain ⟨t1,t2⟩ := aO
 rw [if_neg (by omega),if_neg (by omega),if_neg]
 rintro ⟨aj,aw,aV⟩
 obtain ⟨eJ,fu⟩ := hp aj aw
 omega
noncomputable abbrev eg (M : e0) (p : Int) : bq := iJ M.mem p
def cQ (f : Int → bq) (a : dB) : dW := if a.op = 5 then ⟨f a.place,true⟩ else if a.op = 6 then ⟨f a.place,mY (f a.place) a.old⟩ else ⟨gv,true⟩
def uD (f : Int → bq) (a : dB) : Bool := a.op == 4 || (a.op == 6 && mY (f a.place) a.old)
def iA (f : Int → bq) (a : dB) (p : Int) : bq := if p = a.place ∧ uD f a = true then a.new else f p
structure GN (M : e0) (a : dB) : Prop where
 op : a.op = 4 ∨ a.op = 5 ∨ a.op = 6
 place : fq M.mem a.place
theorem Tp {M : c6} {a : Int} (aZ : fq M a) (t : Int) (w : bq) (b : Bool) (p : Int) : iJ (j4 M t a w b) p = if p = a then w else iJ M p := by
 unfold iJ
 rw [A0 aZ]
 split
 ·rw [aeG]
 ·rfl
theorem Z7 {M : e0} {n : Nat} (bk : m1 M n) {t : Int} (aO : hl M.mem t) {a : dB} (aZ : GN M a) (c : Int) :
  (kx M t a c).2 = (cQ (eg M) a,0) ∧ ∀ p,eg (kx M t a c).1 p = iA (eg M) a p := by
 obtain ⟨op,pl,o,w⟩ := a
 obtain ⟨jX,hp⟩ := aZ
 simp only at jX hp
 have az : pV M t ⟨op,pl,o,w⟩ = 0 := Z6 aO (by simp only; omega) fun _ _ => hp
 unfold kx
 rw [if_pos az]
 rcases jX with rfl | rfl | rfl
 ·refine ⟨rfl,fun p => ?_⟩
  have e : (nH M.mem t pl w true).1 = j4 M.mem t pl w true := by unfold nH; rw [if_pos (pF.2 ⟨aO,hp⟩)]
  show iJ (nH M.mem t pl w true).1 p = _
  rw [e,Tp hp]
  unfold iA uD
  by_cases h : p = pl
  ·rw [if_pos h,if_pos ⟨h,rfl⟩]
  ·rw [if_neg h,if_neg (fun dh => h dh.1)]
 ·refine ⟨?_,fun p => ?_⟩
  ·show ((⟨(fb M.mem t pl).2.1,true⟩,0) : dW × Int) = _
   rw [E0 aO hp]; rfl
  ·show iJ (fb M.mem t pl).1 p = _
   rw [JH]
   unfold iA uD
   rw [if_neg (by simp)]
 ·have fs : (sF M t ⟨6,pl,o,w⟩ c) = sy M t ⟨6,pl,o,w⟩ := rfl
  rw [fs]
  have a2 : sy M t ⟨6,pl,o,w⟩ = (if (ih M.mem t pl o w).2.2.1 = true then { M with mem := (ih M.mem t pl o w).1,lines := rb M.lines pl w } else { M with mem := (ih M.mem t pl o w).1 },⟨(ih M.mem t pl o w).2.1,(ih M.mem t pl o w).2.2.1⟩) := by
   unfold sy; rw [if_pos rfl]
  rw [a2]
  have aH : cQ (eg M) ⟨6,pl,o,w⟩ = ⟨iJ M.mem pl,mY (iJ M.mem pl) o⟩ := rfl
  rw [aH]
  by_cases h : mY (iJ M.mem pl) o = true
  ·obtain ⟨s1,_,_⟩ := ah3 bk.mem bk.ur aO hp h (w := w)
   rw [s1,h]
   refine ⟨rfl,fun p => ?_⟩
   rw [if_pos rfl]
   show iJ (ih M.mem t pl o w).1 p = _
   have ao : (ih M.mem t pl o w).1 = j4 (fb M.mem t pl).1 t pl w true := by
    unfold ih
    rw [if_pos ⟨pF.2 ⟨aO,hp⟩,by rw [E0 aO hp]; exact h⟩]
   rw [ao,Tp (Kr.2 hp),JH]
   unfold iA uD
   by_cases aj : p = pl
   ·rw [if_pos aj,if_pos ⟨aj,by simp only [beq_self_eq_true,Bool.true_and]; rw [show eg M pl = iJ M.mem pl from rfl,h]; rfl⟩]
   ·rw [if_neg aj,if_neg (fun dh => aj dh.1)]
  ·have s := ah2 aO hp h (w := w)
   have dh : mY (iJ M.mem pl) o = false := by simpa using h
   rw [s,dh]
   refine ⟨rfl,fun p => ?_⟩
   rw [if_neg (by simp)]
   show iJ (fb M.mem t pl).1 p = _
   rw [JH]
   unfold iA uD
   rw [if_neg]
   rintro ⟨_,aj⟩
   simp only [beq_self_eq_true,Bool.true_and,show eg M pl = iJ M.mem pl from rfl,dh] at aj
   exact absurd aj (by decide)
structure GO {C : dR} (w : cM C) (n : Nat) : Prop where
 ok : jh w n
 ZF : 0 < w.m.mem.views.length
 GS : ∀ y ∈ w.tasks,y.live = true → GN w.m y.act
theorem aic {C : dR} {w : cM C} {n : Nat} (h : jh w n) {m : Nat} (hm : m < w.tasks.length) : hl w.m.mem ((m : Int) + 1) := by
 have := h.pd
 exact ⟨by omega,by omega⟩
theorem TK {C : dR} {w : cM C} {n : Nat} (h : GO w n) (p : kO) (hp : p.kind ≠ 2) :
  (eL w p = (w,false) ∧ (p.kind = 0 → kJ w p.iC = false)) ∨
  (∃ (m : Nat) (y : ds C),p.kind = 0 ∧ p.iC = (m : Int) + 1 ∧ w.tasks[m]? = some y ∧ y.live = true ∧ jf w m = false ∧ (eL w p).2 = true ∧
   (eL w p).1.tasks = w.tasks.set m (iO y (cQ (eg w.m) y.act)) ∧ (eL w p).1.hY = w.hY ∧ (∀ q,eg (eL w p).1.m q = iA (eg w.m) y.act q)) ∨
  (∃ (m : Nat) (y : ds C),p.kind = 1 ∧ p.iC = (m : Int) + 1 ∧ w.tasks[m]? = some y ∧ y.live = true ∧ jf w m = false ∧ eL w p = (qU w p.iC,true)) := by
 have aX : sL w = false := by unfold sL; rw [decide_eq_false_iff_not]; have := h.ZF; omega
 unfold eL
 rw [if_neg (by rw [aX]; simp),if_neg hp]
 cases aO : kJ w p.iC
 ·exact .inl ⟨by rw [if_pos rfl],fun _ => rfl⟩
 ·rw [if_neg (by simp)]
  obtain ⟨m,y,e,a1,aF,ao⟩ := LX aO
  by_cases bb : p.kind = 0
  ·rw [if_pos bb]
   refine .inr (.inl ⟨m,y,bb,e,a1,aF,ao,rfl,?_⟩)
   have hm := (List.getElem?_eq_some_iff.1 a1).1
   have EA := Z7 h.ok.q5 (aic h.ok hm) (h.GS y (List.mem_of_getElem? a1) aF) p.choice
   have Hp : oD w p.iC p.choice = nN w (kx w.m ((m : Int) + 1) y.act p.choice).1 m (iO y (kx w.m ((m : Int) + 1) y.act p.choice).2.1) := by
    unfold oD
    rw [e,show ((m : Int) + 1 - 1).toNat = m by omega,a1]
   rw [Hp]
   refine ⟨?_,rfl,fun q => ?_⟩
   ·show w.tasks.set m (iO y (kx w.m ((m : Int) + 1) y.act p.choice).2.1) = _
    rw [EA.1]
   ·exact EA.2 q
  ·rw [if_neg bb]
   by_cases af : p.kind = 1
   ·rw [if_pos af]
    exact .inr (.inr ⟨m,y,af,e,a1,aF,ao,rfl⟩)
   ·rw [if_neg af]
    exact .inl ⟨rfl,fun h => absurd h bb⟩
theorem LF {C : dR} {w : cM C} {n : Nat} (h : jh w n) (p : kO) (hp : p.kind ≠ 2) : (eL w p).1.m.mem.views.length = w.m.mem.views.length ∧ (eL w p).1.m.mem.places.length = w.m.mem.places.length ∧ (eL w p).1.tasks.length = w.tasks.length := by
 unfold eL
 split
 ·exact ⟨rfl,rfl,rfl⟩
 ·try rw [if_neg hp]
  split
  ·exact ⟨rfl,rfl,rfl⟩
  ·split
   ·unfold oD
    split
    ·rename_i y _
     have := TU h.q5 p.iC y.act p.choice
     exact ⟨this.1,this.2,by simp [nN]⟩
    ·exact ⟨rfl,rfl,rfl⟩
   ·split
    ·exact ⟨rfl,rfl,rfl⟩
    ·exact ⟨rfl,rfl,rfl⟩
theorem Uv {k : Int} {ws : List bq} (h : (gC k ws).2 = 0) {p : Nat} {w : bq} (hp : ws[p]? = some w) : eg (j5 k ws).1 p = w := by
 obtain ⟨_,_,_,_,e⟩ := BR h
 have a8 : (j5 k ws).1.mem = ⟨ws.map sc,List.replicate k.toNat fun _ => none⟩ := by unfold j5; rw [if_pos h]; exact e
 have aq := (List.getElem?_eq_some_iff.1 hp)
 obtain ⟨af,aj⟩ := aq
 unfold eg
 rw [a8]
 unfold iJ dI
 simp [af,sc,yX,kQ,aj]
theorem Ae {k : Int} {ws : List bq} (h : (gC k ws).2 = 0) : (j5 k ws).1.mem.views.length = k.toNat ∧ (j5 k ws).1.mem.places.length = ws.length ∧ (j5 k ws).2 = 0 := by
 obtain ⟨_,_,_,_,e⟩ := BR h
 have a8 : (j5 k ws).1.mem = ⟨ws.map sc,List.replicate k.toNat fun _ => none⟩ := by unfold j5; rw [if_pos h]; exact e
 rw [a8]
 exact ⟨by simp,by simp,by unfold j5; rw [if_pos h]⟩
theorem Ou {C : dR} {w : cM C} {t : Int} {m : Nat} (aO : t - 1 = m) (h : kh w m = false) (k : Nat) : eT w t k = w := by
 refine D0 ?_ k
 unfold eL
 split
 ·rfl
 ·rw [if_neg (by simp),if_pos (show kJ w t = false by unfold kJ; rw [aO,Int.toNat_natCast,h,Bool.and_false,Bool.and_false])]
theorem Ow {C : dR} {I : cM C → Prop} (t : Int) (h : ∀ w p,p.kind = 0 → I w → I (eL w p).1) : ∀ (k : Nat) {w : cM C},I w → I (eT w t k)
 | 0,_,hw => hw
 | k + 1,w,hw => by
  unfold eT
  split
  ·exact Ow t h k (h w ⟨0,t,0⟩ rfl hw)
  ·exact hw
def TQ (q : kO → Bool) (l : List kO) : List kO := l.filter q
end Go.Proofs.YtkmbcjnaaokilaaGreatDoor
