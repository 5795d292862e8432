/-
  Layer 12, plain: worlds of chains.
-/
import Derived.Test.YtkmbcjnaaokilaaGreatDoorK12x
namespace Go.Proofs.YtkmbcjnaaokilaaGreatDoor
set_option linter.unusedSimpArgs false
set_option linter.unusedVariables false
open Go.RowKit Go.Maps
theorem aeD {C : ed} {y : dt C} {s : C.ak} (aE : y.live = true) (aB : y.code = some s) (g : ei) : jl y g = jG { y with fc := y.fc ++ [g] } (C.next s g).1 (C.next s g).2.1 (C.next s g).2.2 := by
 unfold jl
 rw [if_pos aE,aB]
theorem HM {C : ed} (y : dt C) (s : C.ak) (a : dJ) (b : Bool) : (jG y s a b).code = some s ∧ (jG y s a b).live = !b ∧ (b = false → (jG y s a b).act = a) := by
 unfold jG
 cases b
 ·exact ⟨rfl,rfl,fun _ => rfl⟩
 ·exact ⟨rfl,rfl,fun h => nomatch h⟩
structure Ex (l : b1) (y : dt ft) (s : cO) : Prop where
 code : ∃ L,y.code = some (s,L)
 lay : s.l = l
 bad : s.bad = false
 once : EX s
 head : ∀ a,s.now = some a → q6 s = (ml a).isSome
 live : y.live = true → ∃ a,s.now = some a ∧ k6 a y.act ∧ lW a = l
 dead : y.live = false → s.now = none ∧ s.ops = []
def Bs (l : b1) (a b : bm) (q : Int) : Prop := b.eV = a.eV ∧ b.ref = a.ref ∧ (b.val = a.val ∨ (bw l 0 ≤ q ∧ q ≤ bw l (l.blocks.toNat - 1)))
structure mJ (N : Nat) (l : b1) (f0 : Int → bm) (w : cN ft) (S : List cO) : Prop where
 v : 0 < w.m.mem.views.length
 pl : w.m.mem.places.length = N
 size : dm l 7 ≤ (N : Int)
 lay : e4 l = 0
 pos : 0 < l.blocks
 len : w.tasks.length = S.length
 task : ∀ (i : Nat) (y : dt ft) (s : cO),w.tasks[i]? = some y → S[i]? = some s → Ex l y s
 apart : ∀ (i j : Nat) (s t : cO),i ≠ j → S[i]? = some s → S[j]? = some t → ∀ b,Holds s b → ¬ Holds t b
 used : ∀ b : Nat,(b : Int) < l.blocks → (eg l (dx w.m) b = true ↔ ∃ (i : Nat) (s : cO),S[i]? = some s ∧ Holds s b)
 rest : ∀ q : Int,0 ≤ q → q < N → Bs l (f0 q) (dx w.m q) q
section
variable {N : Nat} {l : b1} {f0 : Int → bm} {w : cN ft} {S : List cO} {n : Nat}
theorem mJ.get (h : mJ N l f0 w S) {i : Nat} {y : dt ft} (aV : w.tasks[i]? = some y) : ∃ s,S[i]? = some s ∧ Ex l y s := by
 have aq := (List.getElem?_eq_some_iff.1 aV).1
 rw [h.len] at aq
 exact ⟨_,List.getElem?_eq_getElem aq,h.task i y _ aV (List.getElem?_eq_getElem aq)⟩
theorem mJ.jB (_ : mJ N l f0 w S) (a9 : iW w n) {i : Nat} {y : dt ft} (aV : w.tasks[i]? = some y) {s : cO} (eE : Ex l y s) : jI n s := by
 obtain ⟨L,aB⟩ := eE.code
 exact ((a9.task y (List.mem_of_getElem? aV)).jB _ aB).1
theorem mJ.h9 (h : mJ N l f0 w S) (a9 : iW w n) : IZ w n := by
 refine ⟨a9,h.v,fun y aV aE => ?_⟩
 obtain ⟨i,aq⟩ := List.getElem?_of_mem aV
 obtain ⟨s,ao,eE⟩ := h.get aq
 obtain ⟨a,a5,br,re⟩ := eE.live aE
 have nt := ((h.jB a9 aq eE).now a a5).1
 obtain ⟨af,b,aj,av⟩ := br.ask nt
 rw [re] at aj av
 have bS := rM h.lay b
 have bH := uT h.lay aj
 have bP := h.size
 have hp := h.pl
 refine ⟨by omega,?_⟩
 unfold fC
 omega
theorem ald {f0 : Int → bm} {f : Int → bm} {b : Nat} {q : Int} (aI : b < l.blocks.toNat) (h : Bs l (f0 q) (f q) q) : Bs l (f0 q) (mE l f b q) q := by
 unfold mE
 split
 ·rename_i e; exact ⟨h.1,h.2.1,.inr ⟨by rw [e]; unfold bw; omega,by rw [e]; unfold bw; omega⟩⟩
 ·exact h
theorem alc {f0 : Int → bm} {f : Int → bm} {b : Nat} {q : Int} (aI : b < l.blocks.toNat) (h : Bs l (f0 q) (f q) q) : Bs l (f0 q) (oa l f b q) q := by
 unfold oa
 split
 ·rename_i e; exact ⟨h.1,h.2.1,.inr ⟨by rw [e]; unfold bw; omega,by rw [e]; unfold bw; omega⟩⟩
 ·exact h
theorem agR {s : cO} (az : jI n s) {b : Nat} (h : Holds s b) : (b : Int) < s.l.blocks := by
 rcases h with h | h
 ·have := az.has.lt h; omega
 ·cases a5 : s.now with
  | none => rw [a5] at h; cases h
  | some a =>
   rw [a5] at h
   obtain ⟨_,_,av,_⟩ := az.now a a5
   cases a with
   | dp _ => cases h
   | ev g => cases h; exact av
inductive YB (w : cN ft) (S : List cO) (p : lI) (S' : List cO) : Prop
 | idle (e : eU w p = (w,false)) (ao : S' = S) (aL : p.kind = 0 → k3 w p.jv = false)
 | halt (k : p.kind = 1) (ao : S' = S) (e : eU w p = (rZ w p.jv,true))
 | go (m : Nat) (y : dt ft) (s : cO) (k : p.kind = 0) (aL : p.jv = (m : Int) + 1) (aV : w.tasks[m]? = some y) (aO : S[m]? = some s) (aE : y.live = true) (hp : jt w m = false) (ap8 : (eU w p).2 = true)
   (eE : (eU w p).1.tasks = w.tasks.set m (jl y (cY (dx w.m) y.act))) (iB : (eU w p).1.ib = w.ib) (ng : dx (eU w p).1.m = iT (dx w.m) y.act)
   (ao : S' = S.set m (eb s (cY (dx w.m) y.act)).1) (dy : IT (dx w.m) s y.act)
   (LS : (jl y (cY (dx w.m) y.act)).live = !(eb s (cY (dx w.m) y.act)).2.2) (aqV : (eb s (cY (dx w.m) y.act)).2.2 = false → (jl y (cY (dx w.m) y.act)).act = (eb s (cY (dx w.m) y.act)).2.1)
theorem Jv (h : mJ N l f0 w S) (a9 : iW w n) (p : lI) (hp : p.kind ≠ 2) : ∃ S',mJ N l f0 (eU w p).1 S' ∧ YB w S p S' := by
 have ao := h.h9 a9
 have hi := Oh ao.ok p hp
 rcases W2 ao p hp with ⟨e,a7⟩ | ⟨m,y,ba,af,aj,av,aY,bM,bN,cJ,c9⟩ | ⟨m,y,ba,af,aj,av,aY,bM⟩
 ·exact ⟨S,by rw [e]; exact h,.idle e rfl a7⟩
 ·obtain ⟨s,aO,eE⟩ := h.get aj
  have az := h.jB a9 aj eE
  obtain ⟨a,a5,br,re⟩ := eE.live av
  have ng : dx (eU w p).1.m = iT (dx w.m) y.act := funext c9
  have Sd := (List.getElem?_eq_some_iff.1 aO).1
  obtain ⟨L,aB⟩ := eE.code
  have aJ := aeD av aB (cY (dx w.m) y.act)
  change jl y (cY (dx w.m) y.act) = jG { y with fc := y.fc ++ [cY (dx w.m) y.act] } ((eb s (cY (dx w.m) y.act)).1,L) (eb s (cY (dx w.m) y.act)).2.1 (eb s (cY (dx w.m) y.act)).2.2 at aJ
  obtain ⟨cd,c2,eu⟩ := HM (C := ft) { y with fc := y.fc ++ [cY (dx w.m) y.act] } ((eb s (cY (dx w.m) y.act)).1,L) (eb s (cY (dx w.m) y.act)).2.1 (eb s (cY (dx w.m) y.act)).2.2
  rw [← aJ] at cd c2 eu
  rcases aiV (f := dx w.m) az (by rw [eE.lay]; exact h.pos) eE.once a5 br (eE.head a a5) with dy | ⟨b,il,iL,Kw⟩
  ·refine ⟨_,⟨by rw [hi.1]; exact h.v,by rw [hi.2.1]; exact h.pl,h.size,h.lay,h.pos,by rw [hi.2.2,h.len,List.length_set],fun i O3 dH aq iM => ?_,?_,?_,?_⟩,.go m y s ba af aj aO av aY bM bN cJ ng rfl dy c2 eu⟩
   ·rw [bN,List.getElem?_set] at aq
    rw [List.getElem?_set] at iM
    split at aq
    ·rename_i e
     subst e
     rw [if_pos rfl,if_pos Sd] at iM
     rw [if_pos (List.getElem?_eq_some_iff.1 aj).1] at aq
     cases aq; cases iM
     refine ⟨⟨L,cd⟩,by rw [dy.l,eE.lay],by rw [dy.bad,eE.bad],dy.once,dy.head,fun kB => ?_,fun kB => ?_⟩
     ·rw [c2] at kB
      have kB : (eb s (cY (dx w.m) y.act)).2.2 = false := by simpa using kB
      obtain ⟨dN,bJ,cf,dA⟩ := dy.live kB
      rw [eu kB]
      exact ⟨dN,bJ,cf,dA.trans eE.lay⟩
     ·rw [c2] at kB
      exact dy.dead (by simpa using kB)
    ·rename_i e
     rw [if_neg e] at iM
     exact h.task i O3 dH aq iM
   ·have ud : ∀ c,Holds (eb s (cY (dx w.m) y.act)).1 c → Holds s c ∨ (∀ (j : Nat) (t : cO),j ≠ m → S[j]? = some t → ¬ Holds t c) := fun c aB => by
     rcases dy.out with ⟨_,cy⟩ | ⟨b,aI,hu,_,cy⟩ | ⟨b,_,_,cy⟩
     ·exact .inl ((cy c).1 aB)
     ·rcases (cy c).1 aB with c1 | c1
      ·exact .inl c1
      ·refine .inr fun j t _ aL ar => ?_
       rw [eE.lay] at aI hu
       subst c1
       rw [(h.used c aI).2 ⟨j,t,aL,ar⟩] at hu; cases hu
     ·exact .inl ((cy c).1 aB).1
    intro i j s1 t1 iN aq aN b il iL
    rw [List.getElem?_set] at aq aN
    split at aq
    ·rename_i e
     subst e
     cases aq
     rw [if_neg iN] at aN
     rcases ud b il with c1 | c1
     ·exact h.apart m j s t1 iN aO aN b c1 iL
     ·exact c1 j t1 (fun e => iN e.symm) aN iL
    ·rename_i e
     split at aN
     ·rename_i a7
      subst a7
      cases aN
      rcases ud b iL with c1 | c1
      ·exact h.apart i m s1 s (fun e5 => e e5.symm) aq aO b il c1
      ·exact c1 i s1 (fun e5 => e e5.symm) aq il
     ·exact h.apart i j s1 t1 iN aq aN b il iL
   ·intro c aB
    have hex : (∃ (i : Nat) (t : cO),(S.set m (eb s (cY (dx w.m) y.act)).1)[i]? = some t ∧ Holds t c) ↔ Holds (eb s (cY (dx w.m) y.act)).1 c ∨ ∃ (i : Nat) (t : cO),i ≠ m ∧ S[i]? = some t ∧ Holds t c := by
     constructor
     ·rintro ⟨i,t,aq,aL⟩
      rw [List.getElem?_set] at aq
      split at aq
      ·cases aq; exact .inl aL
      ·rename_i e; exact .inr ⟨i,t,fun e5 => e e5.symm,aq,aL⟩
     ·rintro (c1 | ⟨i,t,dj,aq,aL⟩)
      ·exact ⟨m,_,by rw [List.getElem?_set,if_pos rfl,if_pos Sd],c1⟩
      ·exact ⟨i,t,by rw [List.getElem?_set,if_neg (fun e => dj e.symm)]; exact aq,aL⟩
    have afW : (∃ (i : Nat) (t : cO),S[i]? = some t ∧ Holds t c) ↔ Holds s c ∨ ∃ (i : Nat) (t : cO),i ≠ m ∧ S[i]? = some t ∧ Holds t c := by
     constructor
     ·rintro ⟨i,t,aq,aL⟩
      by_cases e : i = m
      ·subst e; rw [aO] at aq; cases aq; exact .inl aL
      ·exact .inr ⟨i,t,e,aq,aL⟩
     ·rintro (c1 | ⟨i,t,_,aq,aL⟩)
      ·exact ⟨m,s,aO,c1⟩
      ·exact ⟨i,t,aq,aL⟩
    have kf := h.used c aB
    rw [afW] at kf
    rw [hex,ng]
    rcases dy.out with ⟨e,cy⟩ | ⟨b,aI,hu,e,cy⟩ | ⟨b,aI,e,cy⟩
    ·rw [e,cy]; exact kf
    ·rw [eE.lay] at e
     rw [e,OP,cy,Bool.or_eq_true,kf,decide_eq_true_eq]
     constructor
     ·rintro ((c1 | c1) | c1)
      ·exact .inl (.inl c1)
      ·exact .inr c1
      ·exact .inl (.inr c1.symm)
     ·rintro ((c1 | c1) | c1)
      ·exact .inl (.inl c1)
      ·exact .inr c1.symm
      ·exact .inl (.inr c1)
    ·rw [eE.lay] at e
     rw [e,XE,cy,Bool.and_eq_true,kf,Bool.not_eq_true',decide_eq_false_iff_not]
     constructor
     ·rintro ⟨c1 | c1,c9⟩
      ·exact .inl ⟨c1,fun e => c9 e.symm⟩
      ·exact .inr c1
     ·rintro (⟨c1,c9⟩ | ⟨i,t,dj,aq,aL⟩)
      ·exact ⟨.inl c1,fun e => c9 e.symm⟩
      ·refine ⟨.inr ⟨i,t,dj,aq,aL⟩,fun e => ?_⟩
       subst e
       exact h.apart m i s t (fun e => dj e.symm) aO aq b aI aL
   ·intro q ba af
    have aA := h.rest q ba af
    rw [ng]
    rcases dy.out with ⟨e,_⟩ | ⟨b,aI,_,e,_⟩ | ⟨b,aI,e,_⟩
    ·rw [e]; exact aA
    ·rw [eE.lay] at e aI
     rw [e]; exact ald (by omega) aA
    ·have aI := agR az aI
     rw [eE.lay] at e aI
     rw [e]; exact alc (by omega) aA
  ·rw [eE.lay] at iL Kw
   rw [(h.used b iL).2 ⟨m,s,aO,il⟩] at Kw; cases Kw
 ·have e : (eU w p).1 = rZ w p.jv := by rw [bM]
  exact ⟨S,by rw [e]; exact ⟨h.v,h.pl,h.size,h.lay,h.pos,h.len,h.task,h.apart,h.used,h.rest⟩,.halt ba rfl bM⟩
structure YA (N : Nat) (l : b1) (f0 : Int → bm) (w w' : cN ft) (m : Nat) (S' : List cO) : Prop where
 W : mJ N l f0 w' S'
 done : je w' m = false
 ap9 : ∀ j,j ≠ m → w'.tasks[j]? = w.tasks[j]?
 st : w'.ib = w.ib
theorem P8 : ∀ (k : Nat) {w : cN ft} {S : List cO} {n : Nat} (_ : mJ N l f0 w S) (_ : iW w n) {m : Nat} {y : dt ft} {s : cO} (_ : w.tasks[m]? = some y) (_ : S[m]? = some s) (_ : jt w m = false) (_ : rr (dx w.m) s y.act y.live ≤ k),∃ S',YA N l f0 w (e0 w ((m : Int) + 1) k) m S'
 | k,w,S,n,h,a9,m,y,s,aV,aO,iB,az => by
  have kT := (List.getElem?_eq_some_iff.1 aV).1
  have eE := h.task m y s aV aO
  by_cases aE : y.live = true
  case neg =>
   have w7 : je w m = false := by unfold je; rw [aV]; simpa using aE
   rw [Rj (m := m) (by omega) w7]
   exact ⟨S,h,w7,fun _ _ => rfl,rfl⟩
  have fK : 1 ≤ rr (dx w.m) s y.act y.live := by
   obtain ⟨a,a5,br,re⟩ := eE.live aE
   rw [aE,AM a5]
   have := (br.Fu (f := dx w.m) (by rw [re]; exact h.pos)).2
   omega
  match k,az with
  | 0,az => omega
  | k + 1,az =>
   have xf : k3 w ((m : Int) + 1) = true := by
    unfold k3 je
    rw [show ((m : Int) + 1 - 1).toNat = m by omega,iB,aV]
    simp [aE]; omega
   obtain ⟨bT,afv,uc⟩ := Jv h a9 ⟨0,(m : Int) + 1,0⟩ (by simp)
   have Av := H2 a9 ⟨0,(m : Int) + 1,0⟩
   rcases uc with ⟨e,_,a7⟩ | ⟨e,_,_⟩ | ⟨lY,O3,dH,fD,a1,a7,ct,fb,iA,mi,qe,oc,fE,adC,adD,adE,adF⟩
   ·have := a7 rfl
    rw [xf] at this; cases this
   ·cases e
   ·have o0 : lY = m := by simp only at a1; omega
    subst o0
    rw [aV] at a7; cases a7
    rw [aO] at ct; cases ct
    have af0 : e0 w ((lY : Int) + 1) (k + 1) = e0 (eU w ⟨0,(lY : Int) + 1,0⟩).1 ((lY : Int) + 1) k := by rw [e0,if_pos mi]
    rw [af0]
    have rm : (eU w ⟨0,(lY : Int) + 1,0⟩).1.tasks[lY]? = some (jl y (cY (dx w.m) y.act)) := by rw [qe,List.getElem?_set,if_pos rfl,if_pos kT]
    have qk : bT[lY]? = some (eb s (cY (dx w.m) y.act)).1 := by rw [adC,List.getElem?_set,if_pos rfl,if_pos (List.getElem?_eq_some_iff.1 aO).1]
    have ahf : jt (eU w ⟨0,(lY : Int) + 1,0⟩).1 lY = false := by unfold jt; rw [oc]; exact iB
    have aB := adD.cost
    rw [← aE] at aB
    have Sl : rr (dx (eU w ⟨0,(lY : Int) + 1,0⟩).1.m) (eb s (cY (dx w.m) y.act)).1 (jl y (cY (dx w.m) y.act)).act (jl y (cY (dx w.m) y.act)).live = rr (iT (dx w.m) y.act) (eb s (cY (dx w.m) y.act)).1 (eb s (cY (dx w.m) y.act)).2.1 (!(eb s (cY (dx w.m) y.act)).2.2) := by
     rw [fE,adE]
     cases a6 : (eb s (cY (dx w.m) y.act)).2.2
     ·rw [adF a6]
     ·rfl
    obtain ⟨gr,dI,dS,oG,o9⟩ := P8 k afv Av rm qk ahf (by rw [Sl]; omega)
    refine ⟨gr,dI,dS,fun j aN => ?_,by rw [o9,oc]⟩
    rw [oG j aN,qe,List.getElem?_set,if_neg (fun e => aN e.symm)]
theorem akB (h : mJ N l f0 w S) (a9 : iW w n) {m : Nat} {y : dt ft} {s : cO} (aV : w.tasks[m]? = some y) (aO : S[m]? = some s) : rr (dx w.m) s y.act y.live ≤ (kZ l + 1) * s.ops.length := by
 have eE := h.task m y s aV aO
 cases aE : y.live
 case true =>
  obtain ⟨a,a5,br,re⟩ := eE.live aE
  have aB := (br.Fu (f := dx w.m) (by rw [re]; exact h.pos)).1
  have dj := List.length_pos_iff.2 ((h.jB a9 aV eE).now a a5).2.2.2
  rw [re] at aB
  rw [AM a5,eE.lay]
  have : (kZ l + 1) * s.ops.length = (kZ l + 1) * (s.ops.length - 1) + (kZ l + 1) := by
   conv => lhs; rw [show s.ops.length = (s.ops.length - 1) + 1 by omega]
   rw [Nat.mul_add,Nat.mul_one]
  omega
 case false => rw [Ug]; exact Nat.zero_le _
end
def tN (l : b1) (ops : List gq) : cO := ⟨l,ops,none,[],[],false⟩
theorem P5 {l : b1} (aE : e4 l = 0) {ops : List gq} (af : ops.length ≤ 1000) (aj : ∀ o ∈ ops,zV o) : jI 0 (tN l ops) :=
 ⟨aE,af,aj,fun a a5 => (by cases a5),⟨fun _ => false,(List.filter_eq_nil_iff.2 fun _ _ => by simp).symm⟩,by show 0 ≤ _; omega⟩
theorem adf {l : b1} (aE : e4 l = 0) (aI : 0 < l.blocks) {k : Int} {ws : List bm} (hw : dm l 7 ≤ (ws.length : Int)) (az : (gI k ws).2 = 0) (aqE : 0 < k) (cs : List (cO × fO)) (mo : ∀ p ∈ cs,p.1.l = l ∧ p.1.bad = false ∧ p.1.now = none ∧ p.1.has = [] ∧ jI 0 p.1) (st : List Bool)
  (hu : ∀ b : Nat,(b : Int) < l.blocks → eg l (du ws) b = false) : ∃ S,mJ ws.length l (du ws) ⟨(ks k ws).1,cs.map (nX (C := ft)),st⟩ S := by
 obtain ⟨af,aj,av⟩ := BK az
 have GR : ∀ q : Int,0 ≤ q → q < ws.length → dx (ks k ws).1 q = du ws q := fun q ba af => by
  obtain ⟨p,rfl⟩ := Int.eq_ofNat_of_zero_le ba
  have hp : p < ws.length := by omega
  rw [XM az (List.getElem?_eq_getElem hp)]
  show _ = ((ws[(p : Int).toNat]?).getD gE)
  rw [Int.toNat_natCast,List.getElem?_eq_getElem hp]; rfl
 have lx : ∀ p ∈ cs,eb p.1 e9 = hT p.1 := fun p hp => by unfold eb; rw [(mo p hp).2.2.1]
 have fw : ∀ p ∈ cs,Pg p.1 (hT p.1) := fun p hp => Ff (mo p hp).2.2.2.2 (by rw [(mo p hp).1]; exact aI) (mo p hp).2.2.1
 have kh : ∀ p ∈ cs,∀ b,¬ Holds (hT p.1).1 b := fun p hp b ar => by
  rw [(fw p hp).hold b,(mo p hp).2.2.2.1] at ar; cases ar
 have gB : ∀ (i : Nat) (s : cO),(cs.map fun p => (hT p.1).1)[i]? = some s → ∃ p ∈ cs,s = (hT p.1).1 := fun i s aq => by
  rw [List.getElem?_map] at aq
  cases hp : cs[i]? with
  | none => rw [hp] at aq; cases aq
  | some p => rw [hp] at aq; exact ⟨p,List.mem_of_getElem? hp,(Option.some.inj aq).symm⟩
 refine ⟨cs.map fun p => (hT p.1).1,by rw [af]; omega,aj,hw,aE,aI,by simp,fun i y s aq iM => ?_,fun i j s t _ aq _ b ar => ?_,fun b ql => ?_,fun q ba af => by rw [GR q ba af]; exact ⟨rfl,rfl,.inl rfl⟩⟩
 ·rw [List.getElem?_map] at aq iM
  cases hp : cs[i]? with
  | none => rw [hp] at aq; cases aq
  | some p =>
   rw [hp] at aq iM
   cases aq; cases iM
   have hm := List.mem_of_getElem? hp
   have aO := fw p hm
   obtain ⟨cd,c2,eu⟩ := HM (C := ft) (v9 ft) ((eb p.1 e9).1,p.2) (eb p.1 e9).2.1 (eb p.1 e9).2.2
   change Ex l (jG (v9 ft) ((eb p.1 e9).1,p.2) (eb p.1 e9).2.1 (eb p.1 e9).2.2) _
   rw [lx p hm] at cd c2 eu ⊢
   refine ⟨⟨p.2,cd⟩,by rw [aO.l]; exact (mo p hm).1,by rw [aO.bad]; exact (mo p hm).2.1,aO.once,aO.head,fun lr => ?_,fun lr => ?_⟩
   ·rw [c2] at lr
    have lr : (hT p.1).2.2 = false := by simpa using lr
    obtain ⟨a,bJ,cf,dA⟩ := aO.live lr
    rw [eu lr]
    exact ⟨a,bJ,cf,by rw [dA,aO.l]; exact (mo p hm).1⟩
   ·rw [c2] at lr
    exact aO.dead (by simpa using lr)
 ·obtain ⟨p,hp,rfl⟩ := gB i s aq
  exact absurd ar (kh p hp b)
 ·have a1 : eg l (dx (ks k ws).1) b = eg l (du ws) b := by
   unfold eg
   have bS := rM aE b
   have bH := uT aE ql
   rw [GR _ bS (by omega)]
  rw [a1,hu b ql]
  constructor
  ·intro h; cases h
  ·rintro ⟨i,s,aq,ar⟩
   obtain ⟨p,hp,rfl⟩ := gB i s aq
   exact absurd ar (kh p hp b)
end Go.Proofs.YtkmbcjnaaokilaaGreatDoor
