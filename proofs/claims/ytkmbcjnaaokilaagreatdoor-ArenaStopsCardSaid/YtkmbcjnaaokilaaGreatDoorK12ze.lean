/-
  Layer 12 by shadows: the law's world of chains.
-/
import Derived.Test.YtkmbcjnaaokilaaGreatDoorMK16
import Derived.Test.YtkmbcjnaaokilaaGreatDoorK12t
import Derived.Test.YtkmbcjnaaokilaaGreatDoorMC
namespace Go.Proofs.YtkmbcjnaaokilaaGreatDoor
set_option linter.unusedSimpArgs false
set_option linter.unusedVariables false
open Go.RowKit Go.Maps
theorem ZS {N : Nat} {l : cc} {f0 : Int → bq} {w w' : cM fR} {S : List da} (h : ov N l f0 w S) (e : ff hG w' = ff hG w) : ov N l f0 w' S := by
 obtain ⟨a2,a8,cg⟩ := wJ e
 refine ⟨by rw [a2]; exact h.v,by rw [a2]; exact h.pl,h.size,h.lay,h.pos,by rw [qO e]; exact h.len,fun i y s a1 ao => ?_,h.apart,by rw [a2]; exact h.used,by rw [a2]; exact h.rest⟩
 obtain ⟨z,bO,aW⟩ := yx e a1
 have eP := h.task i z s bO ao
 obtain ⟨cw,c2,eE,hb⟩ := wI aW
 obtain ⟨L,az⟩ := eP.code
 refine ⟨?_,eP.lay,eP.bad,eP.once,eP.head,fun aF => ?_,fun aF => ?_⟩
 ·rw [az] at cw
  cases aS : y.code with
  | none => rw [aS] at cw; cases cw
  | some p =>
   obtain ⟨dv,du⟩ := p
   rw [aS] at cw
   have gH : (dv,lA) = (s,lA) := Option.some.inj cw
   exact ⟨du,by rw [(Prod.mk.inj gH).1]⟩
 ·rw [eE]; exact eP.live (by rw [← c2]; exact aF)
 ·exact eP.dead (by rw [← c2]; exact aF)
theorem KB {H : bg} {E : Env} {x y : av} (PL : ∀ u,ca H E x u → ca H E y u) {l1 : List av} : ∀ (l0 : List av) {vs : List Value},db H E (l0 ++ x :: l1) vs → db H E (l0 ++ y :: l1) vs
 | [],_,.cons h t => .cons (PL _ h) t
 | _ :: l0,_,.cons h t => .cons h (KB PL l0 t)
theorem J5 {f : FuncId} {l0 l1 : List av} {O : List (Nat × bl)} {n r : Nat} {P : (bg → Env → Prop) → av → List (Nat × bl) → Nat → Prop} {e : TypeId} {k : Nat} {es : List (List av)} (ax : r < n) (cX : al O r = some (.row e k es))
  (h : fv f (l0 ++ .au k 0 es :: l1) ((r,.fS (.au k 0 es)) :: dC O r) n P) : fv f (l0 ++ .own r :: l1) O n P := by
 intro J N w0 H0 E a w H vs aN bj
 have aH : al ((n,bl.cq J) :: O) r = some (.row e k es) := by simp only [al]; rw [if_neg (by omega)]; exact cX
 obtain ⟨H',hle,dL⟩ := aN.nu r
 have fs : ak.nu ⟨[],(n,.cq J) :: O,n + 1⟩ r = ⟨[],(r,.fS (.au k 0 es)) :: dC ((n,.cq J) :: O) r,n + 1⟩ := by
  unfold ak.nu
  simp only [aH]; rfl
 rw [fs] at dL
 have gp : ∀ i,al ((n,bl.cq J) :: (r,bl.fS (.au k 0 es)) :: dC O r) i = al ((r,bl.fS (.au k 0 es)) :: dC ((n,.cq J) :: O) r) i := fun i => by
  simp only [al,bn]
  by_cases af : r = i
  ·subst af
   rw [if_neg (by omega),if_pos rfl,if_pos rfl]
  ·rw [if_neg af,if_neg af,if_neg af,if_neg af]
 have hr : bu N w0 H0 ⟨[],(n,.cq J) :: (r,.fS (.au k 0 es)) :: dC O r,n + 1⟩ E a w H' := by
  refine ⟨dL.grow,fun t x ar => (by cases ar),fun i o ay => dL.ob i o ((gp i).symm.trans ay),fun i j iw aq aM => dL.ap i j iw ?_ ?_,dL.cS,dL.jg,dL.kv⟩
  ·obtain ⟨o,af,aj⟩ := aq
   exact ⟨o,(gp i).symm.trans af,aj⟩
  ·obtain ⟨o,af,aj⟩ := aM
   exact ⟨o,(gp j).symm.trans af,aj⟩
 refine h J N w0 H0 E a w H' vs hr (KB (fun u hu => ?_) l0 (bj.mono hle (fK.refl _)))
 have ch := KE hr.ob hu
 have gH : ak.res ⟨[],(n,.cq J) :: (r,.fS (.au k 0 es)) :: dC O r,n + 1⟩ (.own r) = .au k 0 es := by
  show (match al ((n,bl.cq J) :: (r,bl.fS (.au k 0 es)) :: dC O r) r with | some (.fS x) => x | _ => .own r) = _
  simp only [al]
  rw [if_neg (by omega)]
  simp only [if_true]
 rw [gH] at ch
 exact ch
def kl (l : cc) (rows : List (List fi)) : List (da × fF) := (rows.take l.threads.toNat).map fun r => (sI l r,lA)
def mZ (l : cc) : List bq := xy l (firstM l) []
def wc (l : cc) (rows : List (List fi)) : cM fR := ⟨(j5 l.threads (mZ l)).1,(kl l rows).map (nf (C := fR)),List.replicate (kl l rows).length false⟩
def GR (l : cc) (rows : List (List fi)) (O : List (Nat × bl)) (n : Nat) (_ : bg → Env → Prop) (r : av) (O' : List (Nat × bl)) (bI : Nat) : Prop :=
 ∃ w',ff hG w' = ff hG (wc l rows) ∧ r = .bR [lI w',dH true] ∧ jw hG w' O' bI ∧ jQ [] (hP hG w') O n O' bI
def WS (l : cc) (g : Nat) (rows : List (List fi)) (M : e0) (ws : List bq) (J : bg → Env → Prop) (O : List (Nat × bl)) (n : Nat) (k : Nat) (S : ak) : Prop :=
 ∃ (i r : Nat) (c1 : List (Nat × bl)) (bM : Nat),i ≤ rows.length ∧ i ≤ l.threads.toNat ∧ k = rows.length - i ∧ n + 4 ≤ r ∧ r < bM ∧ al c1 n = some (.cq J) ∧ al c1 (n + 1) = some (.box 25 (fe l)) ∧ al c1 (n + 2) = some (.box 63 ri) ∧ al c1 (n + 3) = some (.box 59 (Dz M)) ∧
  al c1 r = some (.row 35 1 (((rows.take i).map fun r => ((sI l r,lA) : da × fF)).map (Al fR))) ∧ (∀ e,e < n → al c1 e = al O e) ∧
  S = ⟨[(1,.au 1 g (rows.map nZ)),(3,.ptr (n + 1) 0 0),(6,.ptr (n + 2) 0 0),(8,.au 3 0 (ws.map dj)),(9,aI 0),(10,.ptr (n + 3) 0 0),(11,aI 0),(12,.own r),(13,aI i)],c1,bM⟩
set_option maxHeartbeats 16000000 in
set_option maxRecDepth 20000 in
theorem afF {l : cc} (aF : fj l = 0) (BC : 1 ≤ l.threads ∧ l.threads ≤ 8) (fz : 0 < l.blocks) (g : Nat) (rows : List (List fi)) (ax : ∀ r ∈ rows,r.length ≤ 1000 ∧ ∀ o ∈ r,wv o) (adN : rows.length ≤ 1000) (O : List (Nat × bl)) (n : Nat) : fv 22 [.agg (fe l),.au 1 g (rows.map nZ),.v (.slice none 0 0)] O n (GR l rows O n) := by
 refine xB Tryz.func22 ajT rfl fun J => ?_
 have hid := fE n
 have fU := oY fR
 have adR := me
 have acz := @wN
 have g4 := (ku aF).2
 have q2 := QV l aF
 have mG : dp l 7 ≤ ((firstM l).length : Int) := by rw [yA]; omega
 have Ix : (firstM l).length ≤ 4096 := by rw [yA]; omega
 have vH := fun g => afM aF 0 g (firstM l) [] mG (by omega) (by simp) (fun u hu => by cases hu)
 have s4 : (mZ l).length = (firstM l).length := by unfold mZ; rw [Qc]
 have vt : (gC l.threads (mZ l)).2 = 0 := by
  obtain ⟨ek,_⟩ := ku aF
  have bb : dp l 7 = dp l 1 + (e2 l 1 + e2 l 2 + e2 l 3 + e2 l 4 + e2 l 5 + e2 l 6) := by
   show dp l 1 + e2 l 1 + e2 l 2 + e2 l 3 + e2 l 4 + e2 l 5 + e2 l 6 = _; omega
  have af : dp l 1 = 8 := rfl
  have := (lo ek 1).1; have := (lo ek 2).1; have := (lo ek 3).1; have := (lo ek 4).1; have := (lo ek 5).1; have := (lo ek 6).1
  unfold gC
  rw [if_neg (by omega),if_neg (by omega),if_neg (by omega)]
 obtain ⟨cw,c2,eE⟩ := Ae vt
 have uw := J9 l.threads 0 (mZ l)
 rw [eE] at uw
 have s6 := Kf l
 have mO : zq l = ((mZ l).length : Int) := by
  unfold zq
  rw [if_pos aF,s4,yA]
  have := (tK (ku aF).1 7).1; omega
 rw [mO] at s6
 unfold GR wc
 have vH : ∀ g,cu 28 [.agg (fe l),.au 3 0 ((firstM l).map dj),.au 1 g []] (.bR [.au 3 0 ((mZ l).map dj),aI 0]) := vH
 generalize mZ l = ws at vH s4 uw s6 cw c2 eE vt
 generalize firstM l = fT at q2 vH mG Ix s4
 have Js : (j5 l.threads ws).1.mem.views.length = l.threads.toNat := cw
 generalize (j5 l.threads ws).1 = M at uw cw c2 Js
 have PU := fun cs (lN : ∀ p ∈ cs,fR.jy 0 p) (acV : cs.length ≤ M.mem.views.length) X N cU => QE (W := hG) M 0 cs (by rw [Js]; omega) (k := 0) lN (by decide) acV X N cU
 unfold Tg R9;delta ab aR a9 aa aA a6
 have ad := And.intro @hid (And.intro @fU (And.intro @adR @acz))
 refine ae fun _ aK b6 _ => ai fun _ aG => ?_;refine an ad ?_;refine aG _ (aK (some ([1,2,3,6],none)) _ (ae fun _ aQ _ _ => ?_));refine aaj ([.slot 2 none 1]) [] (n := 8) fun _ bh => ?_;refine hv ?_;refine cR 1 ad ?_;refine cR 1 ad ?_;refine gj 1 ad ?_;refine ⟨_,q2,?_⟩;refine gj 1 ad ?_;refine gj 1 ad ?_;refine ⟨_,vH 0,?_⟩;refine lJ ad ?_;refine bh _ ?_;refine hx ?_;refine an ad ?_;refine aQ (some ([1,3,6,8,9],none)) _ (ae fun _ bp _ _ => ai fun _ bD => ?_);refine ag 2 ad ?_;refine aL 1 ad ?_;refine aL 1 ad ?_;refine Or.inl (Or.inl ⟨_,uw,?_⟩);refine aL 3 ad ?_;refine ag 2 ad ?_;refine an ad ?_;refine bD _ (bp (some ([1,3,6,8,9,10,11],none)) _ (ae fun _ ck _ _ => ai fun _ aP => ?_));refine an ad ?_;refine aP _ (ck (some ([1,3,6,8,9,10,11,12],none)) _ (ae fun _ ee _ _ => ?_))
 refine ae fun _ ct _ _ => ai fun _ cG => ?_;refine an ad ?_;refine cG _ (ct (some ([1,3,6,8,9,10,11,12,13],none)) _ (cx fun _ _ EL _ _ => ?_));refine jS (WS l g rows M ws J O n) (rows.length) (some ([1,3,6,8,9,10,11,12,13],none)) ([.slot 12 (some 35) 1]) ?_ ?_
 ·try refine eC ?_
  refine ⟨0,n + 4,_,_,by omega,by omega,by omega,by omega,by omega,?_,?_,?_,?_,?_,fun e he => ?_,rfl⟩
  ·simp [al]
  ·simp [al]
  ·simp [al]
  ·simp [al]
  ·simp [al]
  ·simp only [al,bn]; repeat rw [if_neg (by omega)]
 ·intro k b0 aY
  obtain ⟨i,r,c1,bM,aq,iI,rfl,b6,yT,a0,bE,bP,cK,nV,hold,rfl⟩ := aY
  have iP := fE bM
  have d0 := c3 (n := bM) (d := n) (by omega)
  have d1 := c3 (n := bM) (d := n + 1) (by omega)
  have d2 := c3 (n := bM) (d := n + 2) (by omega)
  have d3 := c3 (n := bM) (d := n + 3) (by omega)
  have ef := c3 (n := bM) (d := r) (by omega)
  have eF : i = rows.length ∨ (i < rows.length ∧ i = l.threads.toNat) ∨ ∃ u,i < rows.length ∧ i < l.threads.toNat ∧ rows[i]? = some u := by
   rcases Nat.lt_or_ge i rows.length with h | h
   ·rcases Nat.lt_or_ge i l.threads.toNat with aj | aj
    ·exact .inr (.inr ⟨_,h,aj,List.getElem?_eq_getElem h⟩)
    ·exact .inr (.inl ⟨h,by omega⟩)
   ·exact .inl (by omega)
  have OS : i = rows.length ∨ (i < rows.length ∧ i = l.threads.toNat) → ((rows.take i).map fun r => ((sI l r,lA) : da × fF)) = kl l rows := by
   unfold kl
   rintro (h | ⟨h,aj⟩)
   ·rw [List.take_of_length_le (by omega),List.take_of_length_le (by omega)]
   ·rw [aj]
  have lN : ∀ p ∈ kl l rows,fR.jy 0 p := fun p hp => by
   unfold kl at hp
   obtain ⟨u,hu,rfl⟩ := List.mem_map.1 hp
   have := ax u (List.mem_of_mem_take hu)
   exact ⟨Nh aF this.1 this.2,fz⟩
  have gz : (kl l rows).length ≤ M.mem.views.length := by
   unfold kl; rw [List.length_map,List.length_take,Js]; omega
  have sT : ∀ X N,Gr hG (kl l rows) X N := fun X N => by
   have n9 : ∀ p ∈ kl l rows,p.1.now = none := fun p hp => by
    unfold kl at hp
    obtain ⟨u,hu,rfl⟩ := List.mem_map.1 hp
    rfl
   refine ⟨fun p hp a aZ => ?_,fun i j a b _ aZ _ e he => ?_⟩
   ·rw [n9 p hp] at aZ; cases aZ
   ·have ch := n9 a (List.mem_of_getElem? aZ)
    have he : e ∈ nq a.1 a.2 := he
    unfold nq at he
    rw [ch] at he; cases he
  have O4 : tG hG (kl l rows) = [] := by
   unfold tG
   rw [List.flatMap_eq_nil_iff]
   intro p hp
   unfold kl at hp
   obtain ⟨u,hu,rfl⟩ := List.mem_map.1 hp
   rfl
  intro _ fQ _ mF
  rcases eF with dT | ⟨dT,tS⟩ | ⟨u,dT,tS,hu⟩
  ·skip
   have cE : ¬ (i : Int) < (rows.length : Int) := by omega
   rw [OS (.inl dT)] at nV
   have JE := PU _ lN gz
   have aD := And.intro ad (And.intro @iP (And.intro @d0 (And.intro @d1 (And.intro @d2 (And.intro @d3 (And.intro @ef (And.intro @a0 (And.intro @bE (And.intro @bP (And.intro @cK (And.intro @nV @cE)))))))))))
   refine ae fun _ _ _ lP => ae fun _ fy _ _ => ai fun _ eV => ?_;refine aL 3 aD ?_;refine ag 1 aD ?_;refine aL 3 aD ?_;refine ag 1 aD ?_;refine ag 1 aD ?_;refine an aD ?_;refine eV _ (fy (some ([1,3,6,8,9,10,11,12,13,40],none)) _ (bB (lP 0 _ (mF 0 _ (EL _ (ee (some ([3,6,8,9,10,11,12],none)) _ (ae fun _ ic _ _ => ai fun _ hz => ?_)))))));refine ag 1 aD ?_;refine aL 1 aD ?_;refine aL 1 aD ?_;refine Or.inr (ia ((show fv 43 [mA M,.own r] _ _ _ from J5 (l0 := [mA M]) (l1 := []) yT nV (JE _ _ (sT _ _)))) (by simp [ak.kj,ak.bf,ak.res,al,nV]) (fun zT Ce ru mT rJ => ?_))
   obtain ⟨fh,mP,rfl,kV,bs⟩ := rJ
   dsimp only at kV bs
   rw [O4] at bs
   have yN := bs.le
   have ha := bs.at (e := n) (X := .cq J) (by omega) (by simp) (by simp only [al,bn]; (repeat rw [if_neg (by omega)]); exact a0)
   have c4 := bs.at (e := n + 1) (X := .box 25 (fe l)) (by omega) (by simp) (by simp only [al,bn]; (repeat rw [if_neg (by omega)]); exact bE)
   have dm := bs.at (e := n + 2) (X := .box 63 ri) (by omega) (by simp) (by simp only [al,bn]; (repeat rw [if_neg (by omega)]); exact bP)
   have iQ := fE mT
   have dn := c3 (n := mT) (d := n) (by omega)
   have cw := c3 (n := mT) (d := n + 1) (by omega)
   have c2 := c3 (n := mT) (d := n + 2) (by omega)
   have bm := And.intro aD (And.intro @iQ (And.intro @dn (And.intro @cw (And.intro @c2 (And.intro @ha (And.intro @c4 @dm))))))
   refine aL 3 bm ?_;refine ag 2 bm ?_;refine an bm ?_;refine hz _ (ic (some ([3,6,8,9,11,14,15],none)) _ (ae fun _ ix _ _ => ?_));refine n0 ([]) [6,7] [0,1,2,3,4,5,6,7,8,9,10,11,12,13,14,15,16,17,19] [18] (by kernel_rfl) (fun _ ht => ?_);refine im ?_
   have bx := And.intro bm @oj
   refine gx 1 fun _ gr => ?_;refine aT bx ?_;refine bd ?_;refine gr _ ?_;refine gx 2 fun _ hK => ?_;refine aT bx ?_;refine bd ?_;refine hK _ ?_;refine gx 3 fun _ iS => ?_;refine aT bx ?_;refine bd ?_;refine iS _ ?_;refine gx 3 fun _ gu => ?_;refine aT bx ?_;refine gu _ ?_;refine gx 1 fun _ iT => ?_;refine aT bx ?_;refine bd ?_;refine iT _ ?_;refine gx 3 fun _ iU => ?_;refine aT bx ?_;refine iU _ ?_;refine gx 2 fun _ iV => ?_;refine aT bx ?_;refine bd ?_;refine iV _ ?_;refine gx 1 fun _ iW => ?_;refine aT bx ?_;refine ⟨_,s6,?_⟩;refine iW _ ?_;refine gx 1 fun _ kb => ?_;refine aT bx ?_;refine bd ?_;refine kb _ ?_;refine aT bx ?_;refine ht _ (by simp [Ac,fl,oo,oP,BV,nP,ak.bf,ak.res,al,bx]) (fun _ lQ => ?_);refine im ?_;refine l3 ?_;refine aU bx ?_;refine lQ _ ?_
   refine om ?_;refine ix (some ([6,7],none)) _ ?_
   first | refine gd (aE bx) (aE bx) (aE bx) ?_ | refine gb (aE bx) (aE bx) (aE bx) ?_
   try dsimp only
   refine ⟨fh,mP,rfl,kn kV (by omega) fun e he => ?_,⟨by omega,fun e he ar => ?_,fun e he => ?_⟩⟩
   ·have af := (bs.new e he).resolve_left (by simp)
    have aj := rh kV he
    simp only [wN,me,bn]; repeat rw [if_neg (by omega)]
   ·simp only [wN,me,bn]; repeat rw [if_neg (by omega)]
    rw [bs.old e (by omega) (by simp)]
    simp only [al,bn]; repeat rw [if_neg (by omega)]
    exact hold e he
   ·have af := (bs.new e he).resolve_left (by simp)
    exact .inr (by omega)
  ·skip
   have cE : (i : Int) < (rows.length : Int) := by omega
   have gm : ¬ (i : Int) < l.threads := by omega
   rw [OS (.inr ⟨dT,tS⟩)] at nV
   have JE := PU _ lN gz
   have bS := And.intro ad (And.intro @iP (And.intro @d0 (And.intro @d1 (And.intro @d2 (And.intro @d3 (And.intro @ef (And.intro @a0 (And.intro @bE (And.intro @bP (And.intro @cK (And.intro @nV (And.intro @cE @gm))))))))))))
   refine ae fun _ _ _ ach => ae fun _ kZ _ _ => ai fun _ lR => ?_;refine aL 3 bS ?_;refine ag 1 bS ?_;refine aL 3 bS ?_;refine ag 1 bS ?_;refine ag 1 bS ?_;refine an bS ?_;refine lR _ (kZ (some ([1,3,6,8,9,10,11,12,13,40],none)) _ (bB (ach 0 _ (mF 0 _ (EL _ (ee (some ([3,6,8,9,10,11,12],none)) _ (ae fun _ qf _ _ => ai fun _ oI => ?_)))))));refine ag 1 bS ?_;refine aL 1 bS ?_;refine aL 1 bS ?_;refine Or.inr (ia ((show fv 43 [mA M,.own r] _ _ _ from J5 (l0 := [mA M]) (l1 := []) yT nV (JE _ _ (sT _ _)))) (by simp [ak.kj,ak.bf,ak.res,al,nV]) (fun zT Ce ru mT rJ => ?_))
   obtain ⟨fh,mP,rfl,kV,bs⟩ := rJ
   dsimp only at kV bs
   rw [O4] at bs
   have yN := bs.le
   have ha := bs.at (e := n) (X := .cq J) (by omega) (by simp) (by simp only [al,bn]; (repeat rw [if_neg (by omega)]); exact a0)
   have c4 := bs.at (e := n + 1) (X := .box 25 (fe l)) (by omega) (by simp) (by simp only [al,bn]; (repeat rw [if_neg (by omega)]); exact bE)
   have dm := bs.at (e := n + 2) (X := .box 63 ri) (by omega) (by simp) (by simp only [al,bn]; (repeat rw [if_neg (by omega)]); exact bP)
   have iQ := fE mT
   have dn := c3 (n := mT) (d := n) (by omega)
   have cw := c3 (n := mT) (d := n + 1) (by omega)
   have c2 := c3 (n := mT) (d := n + 2) (by omega)
   have eb := And.intro bS (And.intro @iQ (And.intro @dn (And.intro @cw (And.intro @c2 (And.intro @ha (And.intro @c4 @dm))))))
   refine aL 3 eb ?_;refine ag 2 eb ?_;refine an eb ?_;refine oI _ (qf (some ([3,6,8,9,11,14,15],none)) _ (ae fun _ rX _ _ => ?_));refine n0 ([]) [6,7] [0,1,2,3,4,5,6,7,8,9,10,11,12,13,14,15,16,17,19] [18] (by kernel_rfl) (fun _ oJ => ?_);refine im ?_
   have di := And.intro eb @oj
   refine gx 1 fun _ jE => ?_;refine aT di ?_;refine bd ?_;refine jE _ ?_;refine gx 2 fun _ nz => ?_;refine aT di ?_;refine bd ?_;refine nz _ ?_;refine gx 3 fun _ mI => ?_;refine aT di ?_;refine bd ?_;refine mI _ ?_;refine gx 3 fun _ nA => ?_;refine aT di ?_;refine nA _ ?_;refine gx 1 fun _ tY => ?_;refine aT di ?_;refine bd ?_;refine tY _ ?_;refine gx 3 fun _ qX => ?_;refine aT di ?_;refine qX _ ?_;refine gx 2 fun _ p6 => ?_;refine aT di ?_;refine bd ?_;refine p6 _ ?_;refine gx 1 fun _ rN => ?_;refine aT di ?_;refine ⟨_,s6,?_⟩;refine rN _ ?_;refine gx 1 fun _ rO => ?_;refine aT di ?_;refine bd ?_;refine rO _ ?_;refine aT di ?_;refine oJ _ (by simp [Ac,fl,oo,oP,BV,nP,ak.bf,ak.res,al,di]) (fun _ p7 => ?_);refine im ?_;refine l3 ?_;refine aU di ?_;refine p7 _ ?_
   refine om ?_;refine rX (some ([6,7],none)) _ ?_
   first | refine gd (aE di) (aE di) (aE di) ?_ | refine gb (aE di) (aE di) (aE di) ?_
   try dsimp only
   refine ⟨fh,mP,rfl,kn kV (by omega) fun e he => ?_,⟨by omega,fun e he ar => ?_,fun e he => ?_⟩⟩
   ·have af := (bs.new e he).resolve_left (by simp)
    have aj := rh kV he
    simp only [wN,me,bn]; repeat rw [if_neg (by omega)]
   ·simp only [wN,me,bn]; repeat rw [if_neg (by omega)]
    rw [bs.old e (by omega) (by simp)]
    simp only [al,bn]; repeat rw [if_neg (by omega)]
    exact hold e he
   ·have af := (bs.new e he).resolve_left (by simp)
    exact .inr (by omega)
  ·skip
   have cE : (i : Int) < (rows.length : Int) := by omega
   have gm : (i : Int) < l.threads := by omega
   have dQ : IntKind.i64.wrap ((i : Int) + 1) = ((i + 1 : Nat) : Int) := by rw [IntKind.wrap_i64]; omega
   have hO : ((rows.take i).map fun r => ((sI l r,lA) : da × fF)).length + 1 ≤ 140737488355328 := by simp; omega
   have l7 : (((rows.take i).map fun r => ((sI l r,lA) : da × fF)).length + 1) * 16 ≤ 140737488355328 := by simp; omega
   have jt : ((rows.take (i + 1)).map fun r => ((sI l r,lA) : da × fF)) = ((rows.take i).map fun r => ((sI l r,lA) : da × fF)) ++ [(sI l u,lA)] := by
    rw [List.take_add_one,hu,List.map_append]; rfl
   generalize ((rows.take i).map fun r => ((sI l r,lA) : da × fF)) = cs at nV hO l7 jt
   have gF := And.intro ad (And.intro @iP (And.intro @d0 (And.intro @d1 (And.intro @d2 (And.intro @d3 (And.intro @ef (And.intro @a0 (And.intro @bE (And.intro @bP (And.intro @cK (And.intro @nV (And.intro @cE (And.intro @dQ (And.intro @gm (And.intro @hO (And.intro @l7 (And.intro @dT @hu)))))))))))))))))
   refine ae fun _ Bl _ _ => ae fun _ xc _ _ => ai fun _ p8 => ?_;refine aL 3 gF ?_;refine ag 1 gF ?_;refine aL 3 gF ?_;refine ag 1 gF ?_;refine ag 1 gF ?_;refine an gF ?_;refine p8 _ (xc (some ([1,3,6,8,9,10,11,12,13,40],none)) _ (bY (Bl (some ([1,3,6,8,9,10,11,12,13],none)) _ (ae fun _ Bm _ _ => cx fun _ ud _ _ _ => ?_))));refine hy [] (n := 6) fun _ rS => ?_;refine hv ?_;refine cR 2 gF ?_;refine cR 3 gF ?_;refine pc gF ?_;refine rS _ ?_;refine hx ?_;refine ag 3 gF ?_;refine ag 1 gF ?_;refine an gF ?_;refine ud _ (Bm (some ([1,3,6,8,9,10,11,12,13],none)) _ (ai fun _ tZ => ?_));refine ag 2 gF ?_;refine an gF ?_;refine tZ _ ?_;refine fQ (rows.length - (i + 1)) (some ([1,3,6,8,9,10,11,12,13],none)) _ ?_ ?_
   all_goals try refine eC ?_
   ·omega
   ·refine ⟨i + 1,bM,_,bM + 1,by omega,by omega,rfl,by omega,by omega,?_,?_,?_,?_,?_,fun e he => ?_,rfl⟩
    ·simp only [al,bn]; (repeat rw [if_neg (by omega)]); exact a0
    ·simp only [al,bn]; (repeat rw [if_neg (by omega)]); exact bE
    ·simp only [al,bn]; (repeat rw [if_neg (by omega)]); exact bP
    ·simp only [al,bn]; (repeat rw [if_neg (by omega)]); exact cK
    ·rw [jt,List.map_append]; simp only [al,if_true]; rfl
    ·simp only [al,bn]; (repeat rw [if_neg (by omega)]); exact hold e he
end Go.Proofs.YtkmbcjnaaokilaaGreatDoor
