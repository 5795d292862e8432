/-
  Layer 12 by shadows: the example of the chapter.
-/
import Derived.Test.YtkmbcjnaaokilaaGreatDoorK12n
import Derived.Test.YtkmbcjnaaokilaaGreatDoorMK14
namespace Go.Proofs.YtkmbcjnaaokilaaGreatDoor
set_option linter.unusedSimpArgs false
set_option linter.unusedVariables false
open Go.RowKit Go.Maps
theorem Ok {t : TypeId} {x : Operand} {k : IntKind} {p : Int} : rl (.unOp .neg t x) [x] [.v (.int k p)] (.v (.int k (k.wrap (-p)))) := vg fun o a w H ay aN br => by
 cases br with
 | cons ar br =>
  generalize aS : a.eval x = u at ar
  cases ar
  exact ⟨_,by simp [execOp,ay,aS,Op.unary,Op.intArith],.v rfl⟩
theorem akF {l : cc} (aF : fj l = 0) {N : Nat} (dS : dp l 7 ≤ (N : Int)) (f : Int → bq) {i : Nat} (aq : (i : Int) < l.blocks) : dZ l (dw (ou N f)) i = dZ l f i := by
 have af := qG aF i
 have aj := tB aF aq
 obtain ⟨p,hp⟩ := Int.eq_ofNat_of_zero_le af
 unfold dZ dw ou
 rw [hp,Int.toNat_natCast,List.getElem?_map,List.getElem?_range (by omega)]
 rfl
theorem Mf (N : Nat) (f : Int → bq) : (ou N f).length = N := by simp [ou]
structure m2 (s : e5) (O : List (Nat × bl)) (n : Nat) (x : fF) (O' : List (Nat × bl)) (bI : Nat) : Prop where
 own : ko s x O' bI
 cS : pH none O n O' bI
 new : n < x.i ∧ n < x.g
theorem m2.of {s : e5} {O O' : List (Nat × bl)} {n bI : Nat} {x : fF} (af : ko s x O' bI) (aj : pH none O n O' bI) (aw : n < x.i) (aV : n < x.g) : m2 s O n x (dC O' n) bI :=
 ⟨ko.to af (Nat.le_refl _) (by rw [bn,if_neg (by omega)]) (by rw [bn,if_neg (by omega)]),⟨aj.le,fun e he ar => by rw [bn,if_neg (by omega)]; exact aj.old e he ar⟩,aw,aV⟩
theorem BQ {j0 : List (Nat × av)} {V : fF → List (Nat × (Nat × av))} {late : List Nat} {s : e5} {O : List (Nat × bl)} {n : Nat} {done : List Nat} {S : ak} {x : fF} (h : iM j0 V late 6 O n (m2 s O n) done S x) {e : Nat} {Y : bl} (aj : e < n) (cU : al O e = some Y) : al S.O e = some Y := by
 cases az : done.contains 6 with
 | false => rw [(h.pre az).1]; exact cU
 | true => rw [(h.post az).cS.old e aj (by simp)]; exact cU
def ea : cc := ⟨1,8,40⟩
theorem nW : fj ea = 0 := by decide
abbrev pQ : List (List av) := [[aI 5],[aI 5],[aI (-5)],[aI (-5)],[aI 39],[aI 39]]
abbrev tz : List (List av) := [[aI 5],[aI 6],[aI 5],[aI 5],[aI 39],[aI 0]]
def wC : Nat → List Nat
 | 0 => []
 | 1 => [5]
 | 2 => [5,6]
 | 3 => [6]
 | 4 => [6]
 | 5 => [6,39]
 | _ => [0,6,39]
structure wi (i : Nat) (ws : List bq) : Prop where
 len : ws.length = 1424
 bits : ∀ c,c < 40 → dZ ea (dw ws) c = (wC i).contains c
inductive Mo (i : Nat) (ws : List bq) : Prop
 | e (h : i = 6)
 | t (a b : Nat) (af : pQ[i]? = some [aI a]) (aj : tz[i]? = some [aI b]) (aw : a < 40) (aV : (13 == (0 : Int)) = ((i : Int) == 3)) (bF : re (dZ ea (dw ws)) 40 a = some b) (bH : wi (i + 1) (ou 1424 (lZ ea (dw ws) b))) (cA : i < 6)
 | g (af : i = 2) (aj : dZ ea (dw ws) 5 = true) (bH : wi 3 (ou 1424 (nr ea (dw ws) 5)))
 | f (af : i = 3) (aj : dZ ea (dw ws) 5 = false) (bH : wi 4 (ou 1424 (dw ws)))
theorem aaY {U V : Nat → Bool} {B a : Nat} (aZ : a ≤ B) (h : ∀ i,i < B → U i = V i) : re U B a = re V B a := by
 unfold re
 rw [DW (B - a) a fun i af aj => h i (by omega),DW a 0 fun i af aj => h i (by omega)]
theorem yl : dp ea 7 = 1424 := by decide
theorem G4 {f : Int → bq} {c : Nat} (az : c < 40) : dZ ea (dw (ou 1424 f)) c = dZ ea f c := akF nW (by rw [yl]; decide) f (by show (c : Int) < 40; omega)
theorem Du {i a b : Nat} {ws : List bq} (h : wi i ws) (af : pQ[i]? = some [aI a]) (aj : tz[i]? = some [aI b]) (aw : a < 40) (aV : (13 == (0 : Int)) = ((i : Int) == 3)) (cA : i < 6) (bF : re (fun c => (wC i).contains c) 40 a = some b) (bH : ∀ c,c < 40 → ((wC i).contains c || decide (b = c)) = (wC (i + 1)).contains c) : Mo i ws := by
 refine .t a b af aj aw aV ?_ ⟨Mf _ _,fun c az => ?_⟩ cA
 ·rw [aaY (by omega) h.bits]; exact bF
 ·rw [G4 az,L7,h.bits c az]; exact bH c az
theorem ZE {i : Nat} {ws : List bq} (aq : i ≤ 6) (h : wi i ws) : Mo i ws := by
 have eF : i = 0 ∨ i = 1 ∨ i = 2 ∨ i = 3 ∨ i = 4 ∨ i = 5 ∨ i = 6 := by omega
 rcases eF with rfl | rfl | rfl | rfl | rfl | rfl | rfl
 ·exact Du (a := 5) (b := 5) h rfl rfl (by decide) (by decide) (by decide) (by decide) (by decide)
 ·exact Du (a := 5) (b := 6) h rfl rfl (by decide) (by decide) (by decide) (by decide) (by decide)
 ·refine .g rfl ?_ ⟨Mf _ _,fun c az => ?_⟩
  ·rw [h.bits 5 (by decide)]; rfl
  ·rw [G4 az,Uo,h.bits c az]
   have : ∀ c,c < 40 → ((wC 2).contains c && !decide (5 = c)) = (wC 3).contains c := by decide
   exact this c az
 ·refine .f rfl ?_ ⟨Mf _ _,fun c az => ?_⟩
  ·rw [h.bits 5 (by decide)]; rfl
  ·rw [G4 az,h.bits c az]; rfl
 ·exact Du (a := 39) (b := 39) h rfl rfl (by decide) (by decide) (by decide) (by decide) (by decide)
 ·exact Du (a := 39) (b := 0) h rfl rfl (by decide) (by decide) (by decide) (by decide) (by decide)
 ·exact .e rfl
theorem ZD : wi 0 (firstM ea) := by
 refine ⟨by rw [yA,yl]; rfl,fun c az => ?_⟩
 rw [aaS nW (by show (c : Int) < 40; omega)]; rfl
def UT (J : bg → Env → Prop) (n : Nat) (k : Nat) (S : ak) : Prop :=
 ∃ (i : Nat) (ws : List bq) (c1 : List (Nat × bl)) (bM : Nat),i ≤ 6 ∧ k = 6 - i ∧ wi i ws ∧ n + 2 ≤ bM ∧ al c1 n = some (.cq J) ∧ al c1 (n + 1) = some (.box 25 (fe ea)) ∧
  S = ⟨[(1,.ptr (n + 1) 0 0),(2,.au 3 0 (ws.map dj)),(3,.au 1 0 pQ),(4,.au 1 0 tz),(5,aI i)],c1,bM⟩
abbrev z9 (n : Nat) (ws : List bq) (i : Nat) : List (Nat × av) := [(1,.ptr (n + 1) 0 0),(2,.au 3 0 (ws.map dj)),(3,.au 1 0 pQ),(4,.au 1 0 tz),(5,aI i)]
abbrev G2 (i : Nat) (a m : Int) (e : List av) : List (Nat × (Nat × av)) := [(24,0,.agg (fe ea)),(25,1,.au 1 0 pQ),(26,2,aI i),(27,3,.dc e 0),(28,4,aI a),(29,5,aI m)]
abbrev M8 (i : Nat) (a m : Int) (e : List av) : List (Nat × (Nat × av)) := [(39,0,.agg (fe ea)),(40,1,.au 1 0 pQ),(41,2,aI i),(42,3,.dc e 0),(43,4,aI a),(44,5,aI m)]
abbrev G3 (s : e5) (x : fF) : List (Nat × (Nat × av)) := [(30,6,.bR [jk s x,aI 0]),(23,7,.bR [jk s x,aI 0]),(31,8,jk s x),(32,9,aI 0),(6,10,jk s x),(7,11,aI 0)]
abbrev M9 (s : e5) (x : fF) : List (Nat × (Nat × av)) := [(45,6,.bR [jk s x,aI 0]),(38,7,.bR [jk s x,aI 0]),(46,8,jk s x),(47,9,aI 0),(6,10,jk s x),(7,11,aI 0)]
abbrev Aa : List (List Nat) := [[],[],[],[1,2],[3],[4],[0,5],[6],[7],[7],[8,6,0,1,2,3,4,5,6,7,8],[9,10,0,1,2,3,4,5,6,7,8,9,10]]
set_option maxHeartbeats 8000000 in
set_option maxRecDepth 20000 in
theorem afE (O : List (Nat × bl)) (n : Nat) : fv 8 [] O n (fun _ r _ _ => r = dH true) := by
 refine xB Tryz.func8 ajO rfl fun J => ?_
 have hid := fE n
 have q2 := QV ea nW
 have EH := ZD
 generalize firstM ea = akV at q2 EH
 unfold Tb R4;delta ab aR a9 aa aA a6
 have ad := @hid
 refine ae fun _ aK _ _ => ai fun _ aG => ?_;refine an ad ?_;refine aG _ (aK (some ([],none)) _ (ae fun _ aQ _ _ => ai fun _ bh => ?_));refine aU ad ?_;refine bh _ (aQ (some ([1],none)) _ (ae fun _ bT _ _ => ai fun _ de => ?_));refine ag 1 ad ?_;refine aL 1 ad ?_;refine Or.inl (Or.inl ⟨_,q2,?_⟩);refine an ad ?_;refine de _ (bT (some ([1,2],none)) _ (ae fun _ cp _ _ => ai fun _ c0 => ?_));refine ag 1 ad ?_;refine an ad ?_;refine c0 _ (cp (some ([1,2,3],none)) _ (ae fun bo cN _ _ => ai fun _ cF => ?_));refine ag 1 ad ?_;refine an ad ?_;refine cF _ (cN (some ([1,2,3,4],none)) _ (ae fun _ ct _ _ => ae fun _ eW _ _ => ai fun _ ed => ?_));refine an ad ?_;refine ed _ (eW (some ([1,2,3,4,5],none)) _ ?_)
 refine cx fun _ _ xp _ _ => ?_;refine jS (UT J n) (6) (some ([1,2,3,4,5],none)) ([]) ?_ ?_
 ·try refine eC ?_
  refine ⟨0,akV,_,_,by omega,by omega,EH,by omega,?_,?_,rfl⟩
  ·simp [al]
  ·simp [al,ea]
 ·intro k b0 aY
  obtain ⟨i,ws,c1,bM,aq,rfl,mD,hle,a0,bE,rfl⟩ := aY
  have iP := fE bM
  have d0 := c3 (n := bM) (d := n) (by omega)
  have d1 := c3 (n := bM) (d := n + 1) (by omega)
  have ie := ZE aq mD
  have hlen := mD.len
  intro _ gK _ lP
  rcases ie with rfl | ⟨a,b,oE,abP,OZ,hI,vB,vk,am4⟩ | ⟨rfl,hu,vk⟩ | ⟨rfl,hu,vk⟩
  ·skip
   have PV := afR nW 0 ws (by rw [yl,hlen]; decide)
   have aal : L6 ea (dw ws) = [0,6,39] := by
    have a2 : (List.range 40).filter (dZ ea (dw ws)) = (List.range 40).filter (fun c => (wC 6).contains c) := List.filter_congr fun c az => mD.bits c (List.mem_range.1 az)
    show (List.range 40).filter _ = _
    rw [a2]; rfl
   rw [aal] at PV
   have s6 := agG 0 0 [0,6,39] [0,6,39] (by decide) (by decide)
   have aD := And.intro ad (And.intro @iP (And.intro @d0 (And.intro @d1 (And.intro @a0 @bE))))
   refine ae fun _ _ _ qV => ae fun _ kd _ _ => ai fun _ hs => ?_;refine aL 3 aD ?_;refine aU aD ?_;refine hs _ (kd (some ([1,2,3,4,5,20],none)) _ (bB (qV 0 _ (lP 0 _ (xp _ (ct (some ([1,2],none)) _ (ae fun _ h4 _ _ => ai fun _ hJ => ?_)))))));refine ag 1 aD ?_;refine aL 1 aD ?_;refine aL 1 aD ?_;refine Or.inl (Or.inl ⟨_,PV,?_⟩);refine ag 1 aD ?_;refine aL 1 aD ?_;refine Or.inl (Or.inl ⟨_,s6,?_⟩);refine an aD ?_;refine hJ _ (h4 (some ([0],none)) _ ?_)
   first | refine gd (aE aD) (aE aD) (aE aD) ?_ | refine gb (aE aD) (aE aD) (aE aD) ?_
   try dsimp only
   rfl
  ·skip
   have tk : (0 : Int) ≤ (i : Int) := by omega
   have cE : (i : Int) < ((6 : Nat) : Int) := by omega
   have dQ : IntKind.i64.wrap ((i : Int) + 1) = ((i + 1 : Nat) : Int) := by rw [IntKind.wrap_i64]; omega
   have uK : max (a : Int) 0 = (a : Int) := by omega
   have wn : ¬ (a : Int) < 0 := by omega
   have xw := Ff nW a (by show (a : Int) < 40; omega)
   obtain ⟨X,cU,tQ,AK⟩ := ahX nW (a := a) (by show (a : Int) < 40; omega) (dw ws)
   have qT : fc X.s = ((b : Int),0,true) ∧ X.f = lZ ea (dw ws) b := by
    rcases AK with ⟨fO,af,aj,aw⟩ | ⟨af,_⟩
    ·have af : re (dZ ea (dw ws)) 40 a = some fO := af
     rw [vB] at af; cases af; exact ⟨aj,aw⟩
    ·have af : re (dZ ea (dw ws)) 40 a = none := af
     rw [vB] at af; cases af
   have akP : ((b : Int) != (b : Int)) = false := by simp
   have zB : ((i : Int) == 3) = false := by rw [← hI]; rfl
   have bm := And.intro ad (And.intro @iP (And.intro @d0 (And.intro @d1 (And.intro @a0 (And.intro @bE (And.intro @cE (And.intro @dQ (And.intro @oE (And.intro @abP (And.intro @tk (And.intro @wn (And.intro @akP @zB))))))))))))
   refine ae fun _ h5 _ _ => ae fun _ lS _ _ => ai fun _ hK => ?_;refine aL 3 bm ?_;refine aU bm ?_;refine hK _ (lS (some ([1,2,3,4,5,20],none)) _ (bY (h5 (some ([1,2,3,4,5],none)) _ (ae fun _ iX _ _ => cx fun _ qd _ _ _ => ae fun _ kY _ _ => ?_))));refine sM ([]) (fun done S => o3 Aa done ∧ ∃ x,iM (z9 n ws i) (fun x => G2 i a a [aI a] ++ G3 (.c9 (fJ ea a)) x) [7,8,9,10,11] 6 c1 bM (m2 (.c9 (fJ ea a)) c1 bM) done S x) (fun S => ∃ x jv jJ,S = ⟨[(1,.ptr (n + 1) 0 0),(2,.au 3 0 (ws.map dj)),(3,.au 1 0 pQ),(4,.au 1 0 tz),(5,aI i),(6,jk (.c9 (fJ ea a)) x),(7,aI 0)],jv,jJ⟩ ∧ m2 (.c9 (fJ ea a)) c1 bM x jv jJ) ?_ ?_ ?_ ?_
   ·skip
    refine ⟨sK _,⟨0,0,0,.any⟩,iM.init (fun t v h => ?_) rfl rfl⟩
    simp only [al] at h
    simp only [ak.gw,ak.eH,en,al,reduceIte,Nat.reduceEqDiff]
    repeat' split at h
    all_goals first | (rename_i gH; subst gH; exact h) | cases h
   ·skip
    intro done S i0 ⟨az,x,aY⟩ ax
    have j9 := tc ax
    have gk := td ax
    have c4 := aY.base 1 _ rfl
    have gi := aY.base 3 _ rfl
    have cW := aY.base 5 _ rfl
    have kF := BQ aY (e := n + 1) (by omega) bE
    have cr := fun t j v h aj => aY.jz t j v h aj
    have kg := fun x => gO (jq (.c9 (fJ ea a)) x)
    have eF : i0 = 0 ∨ i0 = 1 ∨ i0 = 2 ∨ i0 = 3 ∨ i0 = 4 ∨ i0 = 5 ∨ i0 = 6 ∨ i0 = 7 ∨ i0 = 8 ∨ i0 = 9 ∨ i0 = 10 ∨ i0 = 11 := by simp at j9; omega
    rcases eF with rfl | rfl | rfl | rfl | rfl | rfl | rfl | rfl | rfl | rfl | rfl | rfl
    ·skip
     have a5 := And.intro c4 kF
     refine cn rfl fun bo aP => ?_;refine aT a5 ?_;refine bd ?_;refine aP _ ?_
     exact ⟨az.cons ax,x,aY.put (i := 0) (t := 24) rfl rfl rfl (by decide) (fun h => by cases h)⟩
    ·skip
     have a5 := gi
     refine cn rfl fun bo aP => ?_;refine aT a5 ?_;refine aP _ ?_
     exact ⟨az.cons ax,x,aY.put (i := 1) (t := 25) rfl rfl rfl (by decide) (fun h => by cases h)⟩
    ·skip
     have a5 := cW
     refine cn rfl fun bo aP => ?_;refine aT a5 ?_;refine aP _ ?_
     exact ⟨az.cons ax,x,aY.put (i := 2) (t := 26) rfl rfl rfl (by decide) (fun h => by cases h)⟩
    ·skip
     have hw := dg ax rfl
     have g1 := cr 25 1 _ rfl (hw 1 rfl)
     have bQ := cr 26 2 _ rfl (hw 2 rfl)
     have a5 := And.intro g1 (And.intro bQ (And.intro tk oE))
     refine cn rfl fun bo aP => ?_;refine aT a5 ?_;refine bd ?_;refine aP _ ?_
     exact ⟨az.cons ax,x,aY.put (i := 3) (t := 27) rfl rfl rfl (by decide) (fun h => by cases h)⟩
    ·skip
     have hw := dg ax rfl
     have g1 := cr 27 3 _ rfl (hw 3 rfl)
     have a5 := g1
     refine cn rfl fun bo aP => ?_;refine aT a5 ?_;refine aP _ ?_
     exact ⟨az.cons ax,x,aY.put (i := 4) (t := 28) rfl rfl rfl (by decide) (fun h => by cases h)⟩
    ·skip
     have hw := dg ax rfl
     have g1 := cr 28 4 _ rfl (hw 4 rfl)
     have a5 := And.intro g1 uK
     refine cn rfl fun bo aP => ?_;refine aT a5 ?_;refine aP _ ?_
     exact ⟨az.cons ax,x,aY.put (i := 5) (t := 29) rfl rfl rfl (by decide) (fun h => by cases h)⟩
    ·have hw := dg ax rfl
     have g1 := cr 24 0 _ rfl (hw 0 rfl)
     have bQ := cr 29 5 _ rfl (hw 5 rfl)
     obtain ⟨u0,jv,jJ⟩ := S
     obtain ⟨a2,a8⟩ := aY.pre gk
     dsimp only at a2 a8
     subst a2 a8
     dsimp only at g1 bQ
     refine cn rfl fun bo aP => ?_;refine Or.inr (ia (xw _ _) (by simp only [ak.kj,ak.bf,g1,bQ,ak.res,Option.map_some,Option.bind_some]) fun tp ik zX BS mC => ?_)
     obtain ⟨m0,rfl,bL,cd,dV,fW⟩ := mC
     refine aP _ ?_
     exact ⟨az.cons ax,m0,aY.call2 (t := 30) gk rfl rfl rfl rfl (m2.of bL cd dV fW)⟩
    ·skip
     have hw := dg ax rfl
     have g1 := cr 30 6 _ rfl (hw 6 rfl)
     have a5 := g1
     refine cn rfl fun bo aP => ?_;refine aT a5 ?_;refine aP _ ?_
     exact ⟨az.cons ax,x,aY.put (i := 7) (t := 23) rfl rfl rfl (by decide) (fun _ => hw 6 rfl)⟩
    ·skip
     have hw := dg ax rfl
     have bH := az 7 _ (hw 7 rfl) rfl 6 rfl
     have g1 := cr 23 7 _ rfl (hw 7 rfl)
     have a5 := And.intro g1 (kg x)
     refine cn rfl fun bo aP => ?_;refine aT a5 ?_;refine aP _ ?_
     exact ⟨az.cons ax,x,aY.put (i := 8) (t := 31) rfl rfl rfl (by decide) (fun _ => bH)⟩
    ·skip
     have hw := dg ax rfl
     have bH := az 7 _ (hw 7 rfl) rfl 6 rfl
     have g1 := cr 23 7 _ rfl (hw 7 rfl)
     have a5 := And.intro g1 (kg x)
     refine cn rfl fun bo aP => ?_;refine aT a5 ?_;refine aP _ ?_
     exact ⟨az.cons ax,x,aY.put (i := 9) (t := 32) rfl rfl rfl (by decide) (fun _ => bH)⟩
    ·skip
     have hw := dg ax rfl
     have g1 := cr 31 8 _ rfl (hw 8 rfl)
     have a5 := And.intro g1 (kg x)
     refine cn rfl fun bo aP => ?_;refine aT a5 ?_;refine aP _ ?_
     exact ⟨az.cons ax,x,aY.put (i := 10) (t := 6) rfl rfl rfl (by decide) (fun _ => hw 6 rfl)⟩
    ·skip
     have hw := dg ax rfl
     have g1 := cr 32 9 _ rfl (hw 9 rfl)
     have a5 := g1
     refine cn rfl fun bo aP => ?_;refine aT a5 ?_;refine aP _ ?_
     exact ⟨az.cons ax,x,aY.put (i := 11) (t := 7) rfl rfl rfl (by decide) (fun _ => hw 6 rfl)⟩
   ·skip
    rintro done S ⟨az,x,aY⟩ dM
    have t1 := aY.base 1 _ rfl
    have t2 := aY.base 2 _ rfl
    have t3 := aY.base 3 _ rfl
    have t4 := aY.base 4 _ rfl
    have t5 := aY.base 5 _ rfl
    have t6 := aY.jz 6 10 _ rfl (dM 10 (by decide))
    have t7 := aY.jz 7 11 _ rfl (dM 11 (by decide))
    obtain ⟨l4,iD,ti⟩ := aY.post (dM 6 (by decide))
    have iY : ∀ e,al (je S.O) e = al S.O e := fun e => me _ _
    refine ⟨some ([1,2,3,4,5,6,7],none),x,je S.O,S.n,?_,⟨ko.to l4 (Nat.le_refl _) (iY _) (iY _),⟨iD.le,fun e he ar => (iY e).trans (iD.old e he ar)⟩,ti⟩⟩
    show ak.mk (en S.T [1,2,3,4,5,6,7]) _ _ = _
    simp only [ak.eH,en,t1,t2,t3,t4,t5,t6,t7]
   rintro b0 ⟨x,mr,fV,rfl,eJ,fu,fM⟩
   have ub := fu.le
   have u1 : al mr n = some (.cq J) := by rw [fu.old n (by omega) (by simp)]; exact a0
   have sE : al mr (n + 1) = some (.box 25 (fe ea)) := by rw [fu.old (n + 1) (by omega) (by simp)]; exact bE
   have kg := gO (jq (.c9 (fJ ea a)) x)
   have iQ := fE fV
   have dn := c3 (n := fV) (d := n) (by omega)
   have cw := c3 (n := fV) (d := n + 1) (by omega)
   have r4 := J6 nW 0 ws (by rw [yl,hlen]; decide) (by rw [hlen]; decide) (.c9 (fJ ea a)) (LW nW (a := a) (by show (a : Int) < 40; omega)) rfl (by rw [cU]; exact tQ) mr fV eJ
   rw [cU,qT.1,qT.2,hlen] at r4
   generalize ou 1424 (lZ ea (dw ws) b) = UD at r4 vk
   have bx := And.intro bm (And.intro @kg (And.intro @iQ (And.intro @dn (And.intro @cw (And.intro @u1 @sE)))))
   refine kY (some ([1,2,3,4,5,6,7],none)) _ (ae fun _ kf _ _ => ae fun _ mL _ _ => ai fun _ iW => ?_);refine ag 3 bx ?_;refine ag 1 bx ?_;refine aU bx ?_;refine iW _ (mL (some ([1,2,3,4,5,6,7,37],none)) _ (bB (kf (some ([1,2,3,4,5,6,7],none)) _ (ae fun _ qe _ _ => ai fun _ lQ => ?_))));refine ag 1 bx ?_;refine aL 2 bx ?_;refine aL 1 bx ?_;refine Or.inr (ia (r4) (aE bx) (fun zT Ce ru mT rJ => ?_))
   obtain ⟨rfl,El,vq⟩ := rJ
   have f0 : al ru n = some (.cq J) := by rw [vq n (by omega) (by simp; omega)]; exact u1
   have f1 : al ru (n + 1) = some (.box 25 (fe ea)) := by rw [vq (n + 1) (by omega) (by simp; omega)]; exact sE
   have fs := c3 (n := mT) (d := n) (by omega)
   have a2 := c3 (n := mT) (d := n + 1) (by omega)
   have bS := And.intro bx (And.intro @fs (And.intro @a2 (And.intro @f0 @f1)))
   refine aL 3 bS ?_;refine aL 3 bS ?_;refine an bS ?_;refine lQ _ (qe (some ([1,3,4,5,7,8,9,10,11],none)) _ (ae fun _ oL _ _ => ae fun _ kZ _ _ => ai fun _ lR => ?_));refine ag 2 bS ?_;refine aL 3 bS ?_;refine aL 3 bS ?_;refine ag 3 bS ?_;refine ag 1 bS ?_;refine ag 1 bS ?_;refine aL 3 bS ?_;refine ag 1 bS ?_;refine ag 2 bS ?_;refine aL 1 bS ?_;refine Or.inl ⟨_,Hs _ _,?_⟩;refine an bS ?_;refine lR _ (kZ (some ([1,3,4,5,8,77],none)) _ (bB (oL (some ([1,3,4,5,8],none)) _ (ai fun _ oH => ?_))));refine an bS ?_;refine oH _ (qd _ (iX (some ([1,2,3,4,5],none)) _ (ai fun _ oI => ?_)));refine ag 2 bS ?_;refine an bS ?_;refine oI _ ?_;refine gK (6 - (i + 1)) (some ([1,2,3,4,5],none)) _ ?_ ?_
   all_goals try refine eC ?_
   ·omega
   ·refine ⟨_ + 1,_,_,_,by omega,by omega,vk,by omega,?_,?_,rfl⟩
    ·simp only [al,bn]; (repeat rw [if_neg (by omega)]); exact f0
    ·simp only [al,bn]; (repeat rw [if_neg (by omega)]); exact f1
  ·skip
   have tk : (0 : Int) ≤ ((2 : Nat) : Int) := by omega
   have oE : pQ[2]? = some [aI (-5)] := rfl
   have uK : max (-5 : Int) 0 = ((0 : Nat) : Int) := by decide
   have xw := Ff nW 0 (by decide)
   have pr := J8 nW 5 (by decide)
   obtain ⟨X,cU,tQ,AK⟩ := TY (l := ea) 5 (dw ws)
   have qT : fc X.s = (5,0,true) ∧ X.f = nr ea (dw ws) 5 := by
    rcases AK with ⟨af,aj,aw⟩ | ⟨af,_⟩
    ·exact ⟨aj,aw⟩
    ·rw [hu] at af; cases af
   have eb := And.intro ad (And.intro @iP (And.intro @d0 (And.intro @d1 (And.intro @a0 (And.intro @bE @tk)))))
   refine ae fun _ rX _ _ => ae fun _ oN _ _ => ai fun _ jE => ?_;refine aL 3 eb ?_;refine aU eb ?_;refine jE _ (oN (some ([1,2,3,4,5,20],none)) _ (bY (rX (some ([1,2,3,4,5],none)) _ (ae fun _ rY _ _ => cx fun _ w8 _ _ _ => ae fun _ w9 _ _ => ?_))));refine sM ([]) (fun done S => o3 Aa done ∧ ∃ x,iM (z9 n ws 2) (fun x => G2 2 (-5) ((0 : Nat) : Int) [aI (-5)] ++ G3 (.c9 (fJ ea 0)) x) [7,8,9,10,11] 6 c1 bM (m2 (.c9 (fJ ea 0)) c1 bM) done S x) (fun S => ∃ x jv jJ,S = ⟨[(1,.ptr (n + 1) 0 0),(2,.au 3 0 (ws.map dj)),(3,.au 1 0 pQ),(4,.au 1 0 tz),(5,aI ((2 : Nat) : Int)),(6,jk (.c9 (fJ ea 0)) x),(7,aI 0)],jv,jJ⟩ ∧ m2 (.c9 (fJ ea 0)) c1 bM x jv jJ) ?_ ?_ ?_ ?_
   ·skip
    refine ⟨sK _,⟨0,0,0,.any⟩,iM.init (fun t v h => ?_) rfl rfl⟩
    simp only [al] at h
    simp only [ak.gw,ak.eH,en,al,reduceIte,Nat.reduceEqDiff]
    repeat' split at h
    all_goals first | (rename_i gH; subst gH; exact h) | cases h
   ·skip
    intro done S i0 ⟨az,x,aY⟩ ax
    have j9 := tc ax
    have gk := td ax
    have c4 := aY.base 1 _ rfl
    have gi := aY.base 3 _ rfl
    have cW := aY.base 5 _ rfl
    have kF := BQ aY (e := n + 1) (by omega) bE
    have cr := fun t j v h aj => aY.jz t j v h aj
    have kg := fun x => gO (jq (.c9 (fJ ea 0)) x)
    have eF : i0 = 0 ∨ i0 = 1 ∨ i0 = 2 ∨ i0 = 3 ∨ i0 = 4 ∨ i0 = 5 ∨ i0 = 6 ∨ i0 = 7 ∨ i0 = 8 ∨ i0 = 9 ∨ i0 = 10 ∨ i0 = 11 := by simp at j9; omega
    rcases eF with rfl | rfl | rfl | rfl | rfl | rfl | rfl | rfl | rfl | rfl | rfl | rfl
    ·skip
     have a5 := And.intro c4 kF
     refine cn rfl fun bo aP => ?_;refine aT a5 ?_;refine bd ?_;refine aP _ ?_
     exact ⟨az.cons ax,x,aY.put (i := 0) (t := 24) rfl rfl rfl (by decide) (fun h => by cases h)⟩
    ·skip
     have a5 := gi
     refine cn rfl fun bo aP => ?_;refine aT a5 ?_;refine aP _ ?_
     exact ⟨az.cons ax,x,aY.put (i := 1) (t := 25) rfl rfl rfl (by decide) (fun h => by cases h)⟩
    ·skip
     have a5 := cW
     refine cn rfl fun bo aP => ?_;refine aT a5 ?_;refine aP _ ?_
     exact ⟨az.cons ax,x,aY.put (i := 2) (t := 26) rfl rfl rfl (by decide) (fun h => by cases h)⟩
    ·skip
     have hw := dg ax rfl
     have g1 := cr 25 1 _ rfl (hw 1 rfl)
     have bQ := cr 26 2 _ rfl (hw 2 rfl)
     have a5 := And.intro g1 (And.intro bQ (And.intro tk oE))
     refine cn rfl fun bo aP => ?_;refine aT a5 ?_;refine bd ?_;refine aP _ ?_
     exact ⟨az.cons ax,x,aY.put (i := 3) (t := 27) rfl rfl rfl (by decide) (fun h => by cases h)⟩
    ·skip
     have hw := dg ax rfl
     have g1 := cr 27 3 _ rfl (hw 3 rfl)
     have a5 := g1
     refine cn rfl fun bo aP => ?_;refine aT a5 ?_;refine aP _ ?_
     exact ⟨az.cons ax,x,aY.put (i := 4) (t := 28) rfl rfl rfl (by decide) (fun h => by cases h)⟩
    ·skip
     have hw := dg ax rfl
     have g1 := cr 28 4 _ rfl (hw 4 rfl)
     have a5 := And.intro g1 uK
     refine cn rfl fun bo aP => ?_;refine aT a5 ?_;refine aP _ ?_
     exact ⟨az.cons ax,x,aY.put (i := 5) (t := 29) rfl rfl rfl (by decide) (fun h => by cases h)⟩
    ·have hw := dg ax rfl
     have g1 := cr 24 0 _ rfl (hw 0 rfl)
     have bQ := cr 29 5 _ rfl (hw 5 rfl)
     obtain ⟨u0,jv,jJ⟩ := S
     obtain ⟨a2,a8⟩ := aY.pre gk
     dsimp only at a2 a8
     subst a2 a8
     dsimp only at g1 bQ
     refine cn rfl fun bo aP => ?_;refine Or.inr (ia (xw _ _) (by simp only [ak.kj,ak.bf,g1,bQ,ak.res,Option.map_some,Option.bind_some]) fun tp ik zX BS mC => ?_)
     obtain ⟨m0,rfl,bL,cd,dV,fW⟩ := mC
     refine aP _ ?_
     exact ⟨az.cons ax,m0,aY.call2 (t := 30) gk rfl rfl rfl rfl (m2.of bL cd dV fW)⟩
    ·skip
     have hw := dg ax rfl
     have g1 := cr 30 6 _ rfl (hw 6 rfl)
     have a5 := g1
     refine cn rfl fun bo aP => ?_;refine aT a5 ?_;refine aP _ ?_
     exact ⟨az.cons ax,x,aY.put (i := 7) (t := 23) rfl rfl rfl (by decide) (fun _ => hw 6 rfl)⟩
    ·skip
     have hw := dg ax rfl
     have bH := az 7 _ (hw 7 rfl) rfl 6 rfl
     have g1 := cr 23 7 _ rfl (hw 7 rfl)
     have a5 := And.intro g1 (kg x)
     refine cn rfl fun bo aP => ?_;refine aT a5 ?_;refine aP _ ?_
     exact ⟨az.cons ax,x,aY.put (i := 8) (t := 31) rfl rfl rfl (by decide) (fun _ => bH)⟩
    ·skip
     have hw := dg ax rfl
     have bH := az 7 _ (hw 7 rfl) rfl 6 rfl
     have g1 := cr 23 7 _ rfl (hw 7 rfl)
     have a5 := And.intro g1 (kg x)
     refine cn rfl fun bo aP => ?_;refine aT a5 ?_;refine aP _ ?_
     exact ⟨az.cons ax,x,aY.put (i := 9) (t := 32) rfl rfl rfl (by decide) (fun _ => bH)⟩
    ·skip
     have hw := dg ax rfl
     have g1 := cr 31 8 _ rfl (hw 8 rfl)
     have a5 := And.intro g1 (kg x)
     refine cn rfl fun bo aP => ?_;refine aT a5 ?_;refine aP _ ?_
     exact ⟨az.cons ax,x,aY.put (i := 10) (t := 6) rfl rfl rfl (by decide) (fun _ => hw 6 rfl)⟩
    ·skip
     have hw := dg ax rfl
     have g1 := cr 32 9 _ rfl (hw 9 rfl)
     have a5 := g1
     refine cn rfl fun bo aP => ?_;refine aT a5 ?_;refine aP _ ?_
     exact ⟨az.cons ax,x,aY.put (i := 11) (t := 7) rfl rfl rfl (by decide) (fun _ => hw 6 rfl)⟩
   ·skip
    rintro done S ⟨az,x,aY⟩ dM
    have t1 := aY.base 1 _ rfl
    have t2 := aY.base 2 _ rfl
    have t3 := aY.base 3 _ rfl
    have t4 := aY.base 4 _ rfl
    have t5 := aY.base 5 _ rfl
    have t6 := aY.jz 6 10 _ rfl (dM 10 (by decide))
    have t7 := aY.jz 7 11 _ rfl (dM 11 (by decide))
    obtain ⟨l4,iD,ti⟩ := aY.post (dM 6 (by decide))
    have iY : ∀ e,al (je S.O) e = al S.O e := fun e => me _ _
    refine ⟨some ([1,2,3,4,5,6,7],none),x,je S.O,S.n,?_,⟨ko.to l4 (Nat.le_refl _) (iY _) (iY _),⟨iD.le,fun e he ar => (iY e).trans (iD.old e he ar)⟩,ti⟩⟩
    show ak.mk (en S.T [1,2,3,4,5,6,7]) _ _ = _
    simp only [ak.eH,en,t1,t2,t3,t4,t5,t6,t7]
   rintro b0 ⟨x,mr,fV,rfl,eJ,fu,fM⟩
   have ub := fu.le
   have u1 : al mr n = some (.cq J) := by rw [fu.old n (by omega) (by simp)]; exact a0
   have sE : al mr (n + 1) = some (.box 25 (fe ea)) := by rw [fu.old (n + 1) (by omega) (by simp)]; exact bE
   have kg := gO (jq (.c9 (fJ ea 0)) x)
   have iQ := fE fV
   have dn := c3 (n := fV) (d := n) (by omega)
   have cw := c3 (n := fV) (d := n + 1) (by omega)
   have uK : IntKind.i64.wrap (-(-5)) = ((5 : Nat) : Int) := by decide
   have di := And.intro eb (And.intro @kg (And.intro @iQ (And.intro @dn (And.intro @cw (And.intro @u1 @sE)))))
   refine w9 (some ([1,2,3,4,5,6,7],none)) _ (ae fun _ sW _ _ => ae fun _ xa _ _ => ai fun _ p6 => ?_);refine ag 3 di ?_;refine ag 1 di ?_;refine aU di ?_;refine p6 _ (xa (some ([1,2,3,4,5,6,7,37],none)) _ (bY ?_));refine sM ([]) (fun done S => o3 Aa done ∧ ∃ x,iM (z9 n ws 2) (fun x => M8 2 (-5) ((5 : Nat) : Int) [aI (-5)] ++ M9 (.ec (h2 ea 5)) x) [7,8,9,10,11] 6 mr fV (m2 (.ec (h2 ea 5)) mr fV) done S x) (fun S => ∃ x jv jJ,S = ⟨[(1,.ptr (n + 1) 0 0),(2,.au 3 0 (ws.map dj)),(3,.au 1 0 pQ),(4,.au 1 0 tz),(5,aI ((2 : Nat) : Int)),(6,jk (.ec (h2 ea 5)) x),(7,aI 0)],jv,jJ⟩ ∧ m2 (.ec (h2 ea 5)) mr fV x jv jJ) ?_ ?_ ?_ ?_
   ·skip
    refine ⟨sK _,⟨0,0,0,.any⟩,iM.init (fun t v h => ?_) rfl rfl⟩
    simp only [al] at h
    simp only [ak.gw,ak.eH,en,al,reduceIte,Nat.reduceEqDiff]
    repeat' split at h
    all_goals first | (rename_i gH; subst gH; exact h) | cases h
   ·skip
    intro done S i0 ⟨az,x,aY⟩ ax
    have j9 := tc ax
    have gk := td ax
    have c4 := aY.base 1 _ rfl
    have gi := aY.base 3 _ rfl
    have cW := aY.base 5 _ rfl
    have kF := BQ aY (e := n + 1) (by omega) sE
    have cr := fun t j v h aj => aY.jz t j v h aj
    have kg := fun x => gO (jq (.ec (h2 ea 5)) x)
    have eF : i0 = 0 ∨ i0 = 1 ∨ i0 = 2 ∨ i0 = 3 ∨ i0 = 4 ∨ i0 = 5 ∨ i0 = 6 ∨ i0 = 7 ∨ i0 = 8 ∨ i0 = 9 ∨ i0 = 10 ∨ i0 = 11 := by simp at j9; omega
    rcases eF with rfl | rfl | rfl | rfl | rfl | rfl | rfl | rfl | rfl | rfl | rfl | rfl
    ·skip
     have a5 := And.intro c4 kF
     refine cn rfl fun bo aP => ?_;refine aT a5 ?_;refine bd ?_;refine aP _ ?_
     exact ⟨az.cons ax,x,aY.put (i := 0) (t := 39) rfl rfl rfl (by decide) (fun h => by cases h)⟩
    ·skip
     have a5 := gi
     refine cn rfl fun bo aP => ?_;refine aT a5 ?_;refine aP _ ?_
     exact ⟨az.cons ax,x,aY.put (i := 1) (t := 40) rfl rfl rfl (by decide) (fun h => by cases h)⟩
    ·skip
     have a5 := cW
     refine cn rfl fun bo aP => ?_;refine aT a5 ?_;refine aP _ ?_
     exact ⟨az.cons ax,x,aY.put (i := 2) (t := 41) rfl rfl rfl (by decide) (fun h => by cases h)⟩
    ·skip
     have hw := dg ax rfl
     have g1 := cr 40 1 _ rfl (hw 1 rfl)
     have bQ := cr 41 2 _ rfl (hw 2 rfl)
     have a5 := And.intro g1 (And.intro bQ (And.intro tk oE))
     refine cn rfl fun bo aP => ?_;refine aT a5 ?_;refine bd ?_;refine aP _ ?_
     exact ⟨az.cons ax,x,aY.put (i := 3) (t := 42) rfl rfl rfl (by decide) (fun h => by cases h)⟩
    ·skip
     have hw := dg ax rfl
     have g1 := cr 42 3 _ rfl (hw 3 rfl)
     have a5 := g1
     refine cn rfl fun bo aP => ?_;refine aT a5 ?_;refine aP _ ?_
     exact ⟨az.cons ax,x,aY.put (i := 4) (t := 43) rfl rfl rfl (by decide) (fun h => by cases h)⟩
    ·skip
     have hw := dg ax rfl
     have g1 := cr 43 4 _ rfl (hw 4 rfl)
     have a5 := And.intro g1 uK
     refine cn rfl fun bo aP => ?_;refine aT a5 ?_;refine Or.inl ⟨_,Ok,?_⟩;refine aT a5 ?_;refine aP _ ?_
     exact ⟨az.cons ax,x,aY.put (i := 5) (t := 44) rfl rfl rfl (by decide) (fun h => by cases h)⟩
    ·have hw := dg ax rfl
     have g1 := cr 39 0 _ rfl (hw 0 rfl)
     have bQ := cr 44 5 _ rfl (hw 5 rfl)
     obtain ⟨u0,jv,jJ⟩ := S
     obtain ⟨a2,a8⟩ := aY.pre gk
     dsimp only at a2 a8
     subst a2 a8
     dsimp only at g1 bQ
     refine cn rfl fun bo aP => ?_;refine Or.inr (ia (pr _ _) (by simp only [ak.kj,ak.bf,g1,bQ,ak.res,Option.map_some,Option.bind_some]) fun tp ik zX BS mC => ?_)
     obtain ⟨m0,rfl,bL,cd,dV,fW⟩ := mC
     refine aP _ ?_
     exact ⟨az.cons ax,m0,aY.call2 (t := 45) gk rfl rfl rfl rfl (m2.of bL cd dV fW)⟩
    ·skip
     have hw := dg ax rfl
     have g1 := cr 45 6 _ rfl (hw 6 rfl)
     have a5 := g1
     refine cn rfl fun bo aP => ?_;refine aT a5 ?_;refine aP _ ?_
     exact ⟨az.cons ax,x,aY.put (i := 7) (t := 38) rfl rfl rfl (by decide) (fun _ => hw 6 rfl)⟩
    ·skip
     have hw := dg ax rfl
     have bH := az 7 _ (hw 7 rfl) rfl 6 rfl
     have g1 := cr 38 7 _ rfl (hw 7 rfl)
     have a5 := And.intro g1 (kg x)
     refine cn rfl fun bo aP => ?_;refine aT a5 ?_;refine aP _ ?_
     exact ⟨az.cons ax,x,aY.put (i := 8) (t := 46) rfl rfl rfl (by decide) (fun _ => bH)⟩
    ·skip
     have hw := dg ax rfl
     have bH := az 7 _ (hw 7 rfl) rfl 6 rfl
     have g1 := cr 38 7 _ rfl (hw 7 rfl)
     have a5 := And.intro g1 (kg x)
     refine cn rfl fun bo aP => ?_;refine aT a5 ?_;refine aP _ ?_
     exact ⟨az.cons ax,x,aY.put (i := 9) (t := 47) rfl rfl rfl (by decide) (fun _ => bH)⟩
    ·skip
     have hw := dg ax rfl
     have g1 := cr 46 8 _ rfl (hw 8 rfl)
     have a5 := And.intro g1 (kg x)
     refine cn rfl fun bo aP => ?_;refine aT a5 ?_;refine aP _ ?_
     exact ⟨az.cons ax,x,aY.put (i := 10) (t := 6) rfl rfl rfl (by decide) (fun _ => hw 6 rfl)⟩
    ·skip
     have hw := dg ax rfl
     have g1 := cr 47 9 _ rfl (hw 9 rfl)
     have a5 := g1
     refine cn rfl fun bo aP => ?_;refine aT a5 ?_;refine aP _ ?_
     exact ⟨az.cons ax,x,aY.put (i := 11) (t := 7) rfl rfl rfl (by decide) (fun _ => hw 6 rfl)⟩
   ·skip
    rintro done S ⟨az,x,aY⟩ dM
    have t1 := aY.base 1 _ rfl
    have t2 := aY.base 2 _ rfl
    have t3 := aY.base 3 _ rfl
    have t4 := aY.base 4 _ rfl
    have t5 := aY.base 5 _ rfl
    have t6 := aY.jz 6 10 _ rfl (dM 10 (by decide))
    have t7 := aY.jz 7 11 _ rfl (dM 11 (by decide))
    obtain ⟨l4,iD,ti⟩ := aY.post (dM 6 (by decide))
    have iY : ∀ e,al (je S.O) e = al S.O e := fun e => me _ _
    refine ⟨some ([1,2,3,4,5,6,7],none),x,je S.O,S.n,?_,⟨ko.to l4 (Nat.le_refl _) (iY _) (iY _),⟨iD.le,fun e he ar => (iY e).trans (iD.old e he ar)⟩,ti⟩⟩
    show ak.mk (en S.T [1,2,3,4,5,6,7]) _ _ = _
    simp only [ak.eH,en,t1,t2,t3,t4,t5,t6,t7]
   rintro b0 ⟨x1,wu,ux,rfl,et,dP,nL⟩
   have Ek := dP.le
   have z2 : al wu n = some (.cq J) := by rw [dP.old n (by omega) (by simp)]; exact u1
   have z3 : al wu (n + 1) = some (.box 25 (fe ea)) := by rw [dP.old (n + 1) (by omega) (by simp)]; exact sE
   have Jj := gO (jq (.ec (h2 ea 5)) x1)
   have wY := fE ux
   have Hc := c3 (n := ux) (d := n) (by omega)
   have Hd := c3 (n := ux) (d := n + 1) (by omega)
   have r4 := J6 nW 0 ws (by rw [yl,hlen]; decide) (by rw [hlen]; decide) (.ec (h2 ea 5)) (⟨nW,by decide⟩ : pJ (h2 ea 5)) rfl (by rw [cU]; exact tQ) wu ux et
   rw [cU,qT.1,qT.2,hlen] at r4
   generalize ou 1424 (nr ea (dw ws) 5) = UD at r4 vk
   have gF := And.intro di (And.intro @Jj (And.intro @wY (And.intro @Hc (And.intro @Hd (And.intro @z2 @z3)))))
   refine sW (some ([1,2,3,4,5,6,7],none)) _ (ae fun _ Bj _ _ => ai fun _ rO => ?_);refine ag 1 gF ?_;refine aL 2 gF ?_;refine aL 1 gF ?_;refine Or.inr (ia (r4) (aE gF) (fun zT Ce ru mT rJ => ?_))
   obtain ⟨rfl,El,vq⟩ := rJ
   have f0 : al ru n = some (.cq J) := by rw [vq n (by omega) (by simp; omega)]; exact z2
   have f1 : al ru (n + 1) = some (.box 25 (fe ea)) := by rw [vq (n + 1) (by omega) (by simp; omega)]; exact z3
   have fs := c3 (n := mT) (d := n) (by omega)
   have a2 := c3 (n := mT) (d := n + 1) (by omega)
   have a5 := And.intro gF (And.intro @fs (And.intro @a2 (And.intro @f0 @f1)))
   refine aL 3 a5 ?_;refine aL 3 a5 ?_;refine an a5 ?_;refine rO _ (Bj (some ([1,3,4,5,7,8,9,10,11],none)) _ (ae fun _ Bk _ _ => ae fun _ Bl _ _ => ai fun _ rQ => ?_));refine ag 2 a5 ?_;refine aL 3 a5 ?_;refine aL 3 a5 ?_;refine ag 3 a5 ?_;refine ag 1 a5 ?_;refine ag 1 a5 ?_;refine aL 3 a5 ?_;refine ag 1 a5 ?_;refine ag 2 a5 ?_;refine aL 1 a5 ?_;refine Or.inl ⟨_,Hs _ _,?_⟩;refine an a5 ?_;refine rQ _ (Bl (some ([1,3,4,5,8,77],none)) _ (bB (Bk (some ([1,3,4,5,8],none)) _ (ai fun _ p8 => ?_))));refine an a5 ?_;refine p8 _ (w8 _ (rY (some ([1,2,3,4,5],none)) _ (ai fun _ rR => ?_)));refine ag 2 a5 ?_;refine an a5 ?_;refine rR _ ?_;refine gK (6 - 3) (some ([1,2,3,4,5],none)) _ ?_ ?_
   all_goals try refine eC ?_
   ·omega
   ·refine ⟨_ + 1,_,_,_,by omega,by omega,vk,by omega,?_,?_,rfl⟩
    ·simp only [al,bn]; (repeat rw [if_neg (by omega)]); exact f0
    ·simp only [al,bn]; (repeat rw [if_neg (by omega)]); exact f1
  ·skip
   have tk : (0 : Int) ≤ ((3 : Nat) : Int) := by omega
   have oE : pQ[3]? = some [aI (-5)] := rfl
   have uK : max (-5 : Int) 0 = ((0 : Nat) : Int) := by decide
   have xw := Ff nW 0 (by decide)
   have pr := J8 nW 5 (by decide)
   obtain ⟨X,cU,tQ,AK⟩ := TY (l := ea) 5 (dw ws)
   have qT : fc X.s = (5,13,true) ∧ X.f = dw ws := by
    rcases AK with ⟨af,_⟩ | ⟨af,aj,aw⟩
    ·rw [hu] at af; cases af
    ·exact ⟨aj,aw⟩
   have rk := And.intro ad (And.intro @iP (And.intro @d0 (And.intro @d1 (And.intro @a0 (And.intro @bE @tk)))))
   refine ae fun _ ud _ _ => ae fun _ Bn _ _ => ai fun _ p9 => ?_;refine aL 3 rk ?_;refine aU rk ?_;refine p9 _ (Bn (some ([1,2,3,4,5,20],none)) _ (bY (ud (some ([1,2,3,4,5],none)) _ (ae fun _ xd _ _ => cx fun _ Bo _ _ _ => ae fun _ xe _ _ => ?_))));refine sM ([]) (fun done S => o3 Aa done ∧ ∃ x,iM (z9 n ws 3) (fun x => G2 3 (-5) ((0 : Nat) : Int) [aI (-5)] ++ G3 (.c9 (fJ ea 0)) x) [7,8,9,10,11] 6 c1 bM (m2 (.c9 (fJ ea 0)) c1 bM) done S x) (fun S => ∃ x jv jJ,S = ⟨[(1,.ptr (n + 1) 0 0),(2,.au 3 0 (ws.map dj)),(3,.au 1 0 pQ),(4,.au 1 0 tz),(5,aI ((3 : Nat) : Int)),(6,jk (.c9 (fJ ea 0)) x),(7,aI 0)],jv,jJ⟩ ∧ m2 (.c9 (fJ ea 0)) c1 bM x jv jJ) ?_ ?_ ?_ ?_
   ·skip
    refine ⟨sK _,⟨0,0,0,.any⟩,iM.init (fun t v h => ?_) rfl rfl⟩
    simp only [al] at h
    simp only [ak.gw,ak.eH,en,al,reduceIte,Nat.reduceEqDiff]
    repeat' split at h
    all_goals first | (rename_i gH; subst gH; exact h) | cases h
   ·skip
    intro done S i0 ⟨az,x,aY⟩ ax
    have j9 := tc ax
    have gk := td ax
    have c4 := aY.base 1 _ rfl
    have gi := aY.base 3 _ rfl
    have cW := aY.base 5 _ rfl
    have kF := BQ aY (e := n + 1) (by omega) bE
    have cr := fun t j v h aj => aY.jz t j v h aj
    have kg := fun x => gO (jq (.c9 (fJ ea 0)) x)
    have eF : i0 = 0 ∨ i0 = 1 ∨ i0 = 2 ∨ i0 = 3 ∨ i0 = 4 ∨ i0 = 5 ∨ i0 = 6 ∨ i0 = 7 ∨ i0 = 8 ∨ i0 = 9 ∨ i0 = 10 ∨ i0 = 11 := by simp at j9; omega
    rcases eF with rfl | rfl | rfl | rfl | rfl | rfl | rfl | rfl | rfl | rfl | rfl | rfl
    ·skip
     have a5 := And.intro c4 kF
     refine cn rfl fun bo aP => ?_;refine aT a5 ?_;refine bd ?_;refine aP _ ?_
     exact ⟨az.cons ax,x,aY.put (i := 0) (t := 24) rfl rfl rfl (by decide) (fun h => by cases h)⟩
    ·skip
     have a5 := gi
     refine cn rfl fun bo aP => ?_;refine aT a5 ?_;refine aP _ ?_
     exact ⟨az.cons ax,x,aY.put (i := 1) (t := 25) rfl rfl rfl (by decide) (fun h => by cases h)⟩
    ·skip
     have a5 := cW
     refine cn rfl fun bo aP => ?_;refine aT a5 ?_;refine aP _ ?_
     exact ⟨az.cons ax,x,aY.put (i := 2) (t := 26) rfl rfl rfl (by decide) (fun h => by cases h)⟩
    ·skip
     have hw := dg ax rfl
     have g1 := cr 25 1 _ rfl (hw 1 rfl)
     have bQ := cr 26 2 _ rfl (hw 2 rfl)
     have a5 := And.intro g1 (And.intro bQ (And.intro tk oE))
     refine cn rfl fun bo aP => ?_;refine aT a5 ?_;refine bd ?_;refine aP _ ?_
     exact ⟨az.cons ax,x,aY.put (i := 3) (t := 27) rfl rfl rfl (by decide) (fun h => by cases h)⟩
    ·skip
     have hw := dg ax rfl
     have g1 := cr 27 3 _ rfl (hw 3 rfl)
     have a5 := g1
     refine cn rfl fun bo aP => ?_;refine aT a5 ?_;refine aP _ ?_
     exact ⟨az.cons ax,x,aY.put (i := 4) (t := 28) rfl rfl rfl (by decide) (fun h => by cases h)⟩
    ·skip
     have hw := dg ax rfl
     have g1 := cr 28 4 _ rfl (hw 4 rfl)
     have a5 := And.intro g1 uK
     refine cn rfl fun bo aP => ?_;refine aT a5 ?_;refine aP _ ?_
     exact ⟨az.cons ax,x,aY.put (i := 5) (t := 29) rfl rfl rfl (by decide) (fun h => by cases h)⟩
    ·have hw := dg ax rfl
     have g1 := cr 24 0 _ rfl (hw 0 rfl)
     have bQ := cr 29 5 _ rfl (hw 5 rfl)
     obtain ⟨u0,jv,jJ⟩ := S
     obtain ⟨a2,a8⟩ := aY.pre gk
     dsimp only at a2 a8
     subst a2 a8
     dsimp only at g1 bQ
     refine cn rfl fun bo aP => ?_;refine Or.inr (ia (xw _ _) (by simp only [ak.kj,ak.bf,g1,bQ,ak.res,Option.map_some,Option.bind_some]) fun tp ik zX BS mC => ?_)
     obtain ⟨m0,rfl,bL,cd,dV,fW⟩ := mC
     refine aP _ ?_
     exact ⟨az.cons ax,m0,aY.call2 (t := 30) gk rfl rfl rfl rfl (m2.of bL cd dV fW)⟩
    ·skip
     have hw := dg ax rfl
     have g1 := cr 30 6 _ rfl (hw 6 rfl)
     have a5 := g1
     refine cn rfl fun bo aP => ?_;refine aT a5 ?_;refine aP _ ?_
     exact ⟨az.cons ax,x,aY.put (i := 7) (t := 23) rfl rfl rfl (by decide) (fun _ => hw 6 rfl)⟩
    ·skip
     have hw := dg ax rfl
     have bH := az 7 _ (hw 7 rfl) rfl 6 rfl
     have g1 := cr 23 7 _ rfl (hw 7 rfl)
     have a5 := And.intro g1 (kg x)
     refine cn rfl fun bo aP => ?_;refine aT a5 ?_;refine aP _ ?_
     exact ⟨az.cons ax,x,aY.put (i := 8) (t := 31) rfl rfl rfl (by decide) (fun _ => bH)⟩
    ·skip
     have hw := dg ax rfl
     have bH := az 7 _ (hw 7 rfl) rfl 6 rfl
     have g1 := cr 23 7 _ rfl (hw 7 rfl)
     have a5 := And.intro g1 (kg x)
     refine cn rfl fun bo aP => ?_;refine aT a5 ?_;refine aP _ ?_
     exact ⟨az.cons ax,x,aY.put (i := 9) (t := 32) rfl rfl rfl (by decide) (fun _ => bH)⟩
    ·skip
     have hw := dg ax rfl
     have g1 := cr 31 8 _ rfl (hw 8 rfl)
     have a5 := And.intro g1 (kg x)
     refine cn rfl fun bo aP => ?_;refine aT a5 ?_;refine aP _ ?_
     exact ⟨az.cons ax,x,aY.put (i := 10) (t := 6) rfl rfl rfl (by decide) (fun _ => hw 6 rfl)⟩
    ·skip
     have hw := dg ax rfl
     have g1 := cr 32 9 _ rfl (hw 9 rfl)
     have a5 := g1
     refine cn rfl fun bo aP => ?_;refine aT a5 ?_;refine aP _ ?_
     exact ⟨az.cons ax,x,aY.put (i := 11) (t := 7) rfl rfl rfl (by decide) (fun _ => hw 6 rfl)⟩
   ·skip
    rintro done S ⟨az,x,aY⟩ dM
    have t1 := aY.base 1 _ rfl
    have t2 := aY.base 2 _ rfl
    have t3 := aY.base 3 _ rfl
    have t4 := aY.base 4 _ rfl
    have t5 := aY.base 5 _ rfl
    have t6 := aY.jz 6 10 _ rfl (dM 10 (by decide))
    have t7 := aY.jz 7 11 _ rfl (dM 11 (by decide))
    obtain ⟨l4,iD,ti⟩ := aY.post (dM 6 (by decide))
    have iY : ∀ e,al (je S.O) e = al S.O e := fun e => me _ _
    refine ⟨some ([1,2,3,4,5,6,7],none),x,je S.O,S.n,?_,⟨ko.to l4 (Nat.le_refl _) (iY _) (iY _),⟨iD.le,fun e he ar => (iY e).trans (iD.old e he ar)⟩,ti⟩⟩
    show ak.mk (en S.T [1,2,3,4,5,6,7]) _ _ = _
    simp only [ak.eH,en,t1,t2,t3,t4,t5,t6,t7]
   rintro b0 ⟨x,mr,fV,rfl,eJ,fu,fM⟩
   have ub := fu.le
   have u1 : al mr n = some (.cq J) := by rw [fu.old n (by omega) (by simp)]; exact a0
   have sE : al mr (n + 1) = some (.box 25 (fe ea)) := by rw [fu.old (n + 1) (by omega) (by simp)]; exact bE
   have kg := gO (jq (.c9 (fJ ea 0)) x)
   have iQ := fE fV
   have dn := c3 (n := fV) (d := n) (by omega)
   have cw := c3 (n := fV) (d := n + 1) (by omega)
   have uK : IntKind.i64.wrap (-(-5)) = ((5 : Nat) : Int) := by decide
   have C4 := And.intro rk (And.intro @kg (And.intro @iQ (And.intro @dn (And.intro @cw (And.intro @u1 @sE)))))
   refine xe (some ([1,2,3,4,5,6,7],none)) _ (ae fun _ I3 _ _ => ae fun _ Bp _ _ => ai fun _ w2 => ?_);refine ag 3 C4 ?_;refine ag 1 C4 ?_;refine aU C4 ?_;refine w2 _ (Bp (some ([1,2,3,4,5,6,7,37],none)) _ (bY ?_));refine sM ([]) (fun done S => o3 Aa done ∧ ∃ x,iM (z9 n ws 3) (fun x => M8 3 (-5) ((5 : Nat) : Int) [aI (-5)] ++ M9 (.ec (h2 ea 5)) x) [7,8,9,10,11] 6 mr fV (m2 (.ec (h2 ea 5)) mr fV) done S x) (fun S => ∃ x jv jJ,S = ⟨[(1,.ptr (n + 1) 0 0),(2,.au 3 0 (ws.map dj)),(3,.au 1 0 pQ),(4,.au 1 0 tz),(5,aI ((3 : Nat) : Int)),(6,jk (.ec (h2 ea 5)) x),(7,aI 0)],jv,jJ⟩ ∧ m2 (.ec (h2 ea 5)) mr fV x jv jJ) ?_ ?_ ?_ ?_
   ·skip
    refine ⟨sK _,⟨0,0,0,.any⟩,iM.init (fun t v h => ?_) rfl rfl⟩
    simp only [al] at h
    simp only [ak.gw,ak.eH,en,al,reduceIte,Nat.reduceEqDiff]
    repeat' split at h
    all_goals first | (rename_i gH; subst gH; exact h) | cases h
   ·skip
    intro done S i0 ⟨az,x,aY⟩ ax
    have j9 := tc ax
    have gk := td ax
    have c4 := aY.base 1 _ rfl
    have gi := aY.base 3 _ rfl
    have cW := aY.base 5 _ rfl
    have kF := BQ aY (e := n + 1) (by omega) sE
    have cr := fun t j v h aj => aY.jz t j v h aj
    have kg := fun x => gO (jq (.ec (h2 ea 5)) x)
    have eF : i0 = 0 ∨ i0 = 1 ∨ i0 = 2 ∨ i0 = 3 ∨ i0 = 4 ∨ i0 = 5 ∨ i0 = 6 ∨ i0 = 7 ∨ i0 = 8 ∨ i0 = 9 ∨ i0 = 10 ∨ i0 = 11 := by simp at j9; omega
    rcases eF with rfl | rfl | rfl | rfl | rfl | rfl | rfl | rfl | rfl | rfl | rfl | rfl
    ·skip
     have a5 := And.intro c4 kF
     refine cn rfl fun bo aP => ?_;refine aT a5 ?_;refine bd ?_;refine aP _ ?_
     exact ⟨az.cons ax,x,aY.put (i := 0) (t := 39) rfl rfl rfl (by decide) (fun h => by cases h)⟩
    ·skip
     have a5 := gi
     refine cn rfl fun bo aP => ?_;refine aT a5 ?_;refine aP _ ?_
     exact ⟨az.cons ax,x,aY.put (i := 1) (t := 40) rfl rfl rfl (by decide) (fun h => by cases h)⟩
    ·skip
     have a5 := cW
     refine cn rfl fun bo aP => ?_;refine aT a5 ?_;refine aP _ ?_
     exact ⟨az.cons ax,x,aY.put (i := 2) (t := 41) rfl rfl rfl (by decide) (fun h => by cases h)⟩
    ·skip
     have hw := dg ax rfl
     have g1 := cr 40 1 _ rfl (hw 1 rfl)
     have bQ := cr 41 2 _ rfl (hw 2 rfl)
     have a5 := And.intro g1 (And.intro bQ (And.intro tk oE))
     refine cn rfl fun bo aP => ?_;refine aT a5 ?_;refine bd ?_;refine aP _ ?_
     exact ⟨az.cons ax,x,aY.put (i := 3) (t := 42) rfl rfl rfl (by decide) (fun h => by cases h)⟩
    ·skip
     have hw := dg ax rfl
     have g1 := cr 42 3 _ rfl (hw 3 rfl)
     have a5 := g1
     refine cn rfl fun bo aP => ?_;refine aT a5 ?_;refine aP _ ?_
     exact ⟨az.cons ax,x,aY.put (i := 4) (t := 43) rfl rfl rfl (by decide) (fun h => by cases h)⟩
    ·skip
     have hw := dg ax rfl
     have g1 := cr 43 4 _ rfl (hw 4 rfl)
     have a5 := And.intro g1 uK
     refine cn rfl fun bo aP => ?_;refine aT a5 ?_;refine Or.inl ⟨_,Ok,?_⟩;refine aT a5 ?_;refine aP _ ?_
     exact ⟨az.cons ax,x,aY.put (i := 5) (t := 44) rfl rfl rfl (by decide) (fun h => by cases h)⟩
    ·have hw := dg ax rfl
     have g1 := cr 39 0 _ rfl (hw 0 rfl)
     have bQ := cr 44 5 _ rfl (hw 5 rfl)
     obtain ⟨u0,jv,jJ⟩ := S
     obtain ⟨a2,a8⟩ := aY.pre gk
     dsimp only at a2 a8
     subst a2 a8
     dsimp only at g1 bQ
     refine cn rfl fun bo aP => ?_;refine Or.inr (ia (pr _ _) (by simp only [ak.kj,ak.bf,g1,bQ,ak.res,Option.map_some,Option.bind_some]) fun tp ik zX BS mC => ?_)
     obtain ⟨m0,rfl,bL,cd,dV,fW⟩ := mC
     refine aP _ ?_
     exact ⟨az.cons ax,m0,aY.call2 (t := 45) gk rfl rfl rfl rfl (m2.of bL cd dV fW)⟩
    ·skip
     have hw := dg ax rfl
     have g1 := cr 45 6 _ rfl (hw 6 rfl)
     have a5 := g1
     refine cn rfl fun bo aP => ?_;refine aT a5 ?_;refine aP _ ?_
     exact ⟨az.cons ax,x,aY.put (i := 7) (t := 38) rfl rfl rfl (by decide) (fun _ => hw 6 rfl)⟩
    ·skip
     have hw := dg ax rfl
     have bH := az 7 _ (hw 7 rfl) rfl 6 rfl
     have g1 := cr 38 7 _ rfl (hw 7 rfl)
     have a5 := And.intro g1 (kg x)
     refine cn rfl fun bo aP => ?_;refine aT a5 ?_;refine aP _ ?_
     exact ⟨az.cons ax,x,aY.put (i := 8) (t := 46) rfl rfl rfl (by decide) (fun _ => bH)⟩
    ·skip
     have hw := dg ax rfl
     have bH := az 7 _ (hw 7 rfl) rfl 6 rfl
     have g1 := cr 38 7 _ rfl (hw 7 rfl)
     have a5 := And.intro g1 (kg x)
     refine cn rfl fun bo aP => ?_;refine aT a5 ?_;refine aP _ ?_
     exact ⟨az.cons ax,x,aY.put (i := 9) (t := 47) rfl rfl rfl (by decide) (fun _ => bH)⟩
    ·skip
     have hw := dg ax rfl
     have g1 := cr 46 8 _ rfl (hw 8 rfl)
     have a5 := And.intro g1 (kg x)
     refine cn rfl fun bo aP => ?_;refine aT a5 ?_;refine aP _ ?_
     exact ⟨az.cons ax,x,aY.put (i := 10) (t := 6) rfl rfl rfl (by decide) (fun _ => hw 6 rfl)⟩
    ·skip
     have hw := dg ax rfl
     have g1 := cr 47 9 _ rfl (hw 9 rfl)
     have a5 := g1
     refine cn rfl fun bo aP => ?_;refine aT a5 ?_;refine aP _ ?_
     exact ⟨az.cons ax,x,aY.put (i := 11) (t := 7) rfl rfl rfl (by decide) (fun _ => hw 6 rfl)⟩
   ·skip
    rintro done S ⟨az,x,aY⟩ dM
    have t1 := aY.base 1 _ rfl
    have t2 := aY.base 2 _ rfl
    have t3 := aY.base 3 _ rfl
    have t4 := aY.base 4 _ rfl
    have t5 := aY.base 5 _ rfl
    have t6 := aY.jz 6 10 _ rfl (dM 10 (by decide))
    have t7 := aY.jz 7 11 _ rfl (dM 11 (by decide))
    obtain ⟨l4,iD,ti⟩ := aY.post (dM 6 (by decide))
    have iY : ∀ e,al (je S.O) e = al S.O e := fun e => me _ _
    refine ⟨some ([1,2,3,4,5,6,7],none),x,je S.O,S.n,?_,⟨ko.to l4 (Nat.le_refl _) (iY _) (iY _),⟨iD.le,fun e he ar => (iY e).trans (iD.old e he ar)⟩,ti⟩⟩
    show ak.mk (en S.T [1,2,3,4,5,6,7]) _ _ = _
    simp only [ak.eH,en,t1,t2,t3,t4,t5,t6,t7]
   rintro b0 ⟨x1,wu,ux,rfl,et,dP,nL⟩
   have Ek := dP.le
   have z2 : al wu n = some (.cq J) := by rw [dP.old n (by omega) (by simp)]; exact u1
   have z3 : al wu (n + 1) = some (.box 25 (fe ea)) := by rw [dP.old (n + 1) (by omega) (by simp)]; exact sE
   have Jj := gO (jq (.ec (h2 ea 5)) x1)
   have wY := fE ux
   have Hc := c3 (n := ux) (d := n) (by omega)
   have Hd := c3 (n := ux) (d := n + 1) (by omega)
   have r4 := J6 nW 0 ws (by rw [yl,hlen]; decide) (by rw [hlen]; decide) (.ec (h2 ea 5)) (⟨nW,by decide⟩ : pJ (h2 ea 5)) rfl (by rw [cU]; exact tQ) wu ux et
   rw [cU,qT.1,qT.2,hlen] at r4
   generalize ou 1424 (dw ws) = UD at r4 vk
   have zO := And.intro C4 (And.intro @Jj (And.intro @wY (And.intro @Hc (And.intro @Hd (And.intro @z2 @z3)))))
   refine I3 (some ([1,2,3,4,5,6,7],none)) _ (ae fun _ I5 _ _ => ai fun _ w3 => ?_);refine ag 1 zO ?_;refine aL 2 zO ?_;refine aL 1 zO ?_;refine Or.inr (ia (r4) (aE zO) (fun zT Ce ru mT rJ => ?_))
   obtain ⟨rfl,El,vq⟩ := rJ
   have f0 : al ru n = some (.cq J) := by rw [vq n (by omega) (by simp; omega)]; exact z2
   have f1 : al ru (n + 1) = some (.box 25 (fe ea)) := by rw [vq (n + 1) (by omega) (by simp; omega)]; exact z3
   have fs := c3 (n := mT) (d := n) (by omega)
   have a2 := c3 (n := mT) (d := n + 1) (by omega)
   have ni := And.intro zO (And.intro @fs (And.intro @a2 (And.intro @f0 @f1)))
   refine aL 3 ni ?_;refine aL 3 ni ?_;refine an ni ?_;refine w3 _ (I5 (some ([1,3,4,5,7,8,9,10,11],none)) _ (ae fun _ Bq _ _ => ae fun _ I6 _ _ => ai fun _ w4 => ?_));refine ag 2 ni ?_;refine aL 3 ni ?_;refine aL 3 ni ?_;refine ag 3 ni ?_;refine ag 1 ni ?_;refine ag 1 ni ?_;refine aL 3 ni ?_;refine ag 1 ni ?_;refine ag 2 ni ?_;refine aL 1 ni ?_;refine Or.inl ⟨_,Hs _ _,?_⟩;refine an ni ?_;refine w4 _ (I6 (some ([1,3,4,5,8,77],none)) _ (bB (Bq (some ([1,3,4,5,8],none)) _ (ai fun _ IN => ?_))));refine an ni ?_;refine IN _ (Bo _ (xd (some ([1,2,3,4,5],none)) _ (ai fun _ A5 => ?_)));refine ag 2 ni ?_;refine an ni ?_;refine A5 _ ?_;refine gK (6 - 4) (some ([1,2,3,4,5],none)) _ ?_ ?_
   all_goals try refine eC ?_
   ·omega
   ·refine ⟨_ + 1,_,_,_,by omega,by omega,vk,by omega,?_,?_,rfl⟩
    ·simp only [al,bn]; (repeat rw [if_neg (by omega)]); exact f0
    ·simp only [al,bn]; (repeat rw [if_neg (by omega)]); exact f1
theorem Ka : cu 8 [] (dH true) := Q2 (afE [] 0) rfl
end Go.Proofs.YtkmbcjnaaokilaaGreatDoor
