/-
  Layer 12 by shadows: the example of the chapter.
-/
import Derived.Test.YtkmbcjnaaokilaaGreatDoorK12n
import Derived.Test.YtkmbcjnaaokilaaGreatDoorMK10
namespace Go.Proofs.YtkmbcjnaaokilaaGreatDoor
set_option linter.unusedSimpArgs false
set_option linter.unusedVariables false
open Go.RowKit Go.Maps
theorem Rc {t : TypeId} {x : Operand} {k : IntKind} {p : Int} : ss (.unOp .neg t x) [x] [.v (.int k p)] (.v (.int k (k.wrap (-p)))) := wU fun o a w H ax aO br => by
 cases br with
 | cons ar br =>
  generalize aT : a.eval x = u at ar
  cases ar
  exact ⟨_,by simp [execOp,ax,aT,Op.unary,Op.intArith],.v rfl⟩
theorem XG {l : b1} (aE : e4 l = 0) {N : Nat} (dy : dm l 7 ≤ (N : Int)) (f : Int → bm) {i : Nat} (aq : (i : Int) < l.blocks) : eg l (du (iy N f)) i = eg l f i := by
 have af := rM aE i
 have aj := uT aE aq
 obtain ⟨p,hp⟩ := Int.eq_ofNat_of_zero_le af
 unfold eg du iy
 rw [hp,Int.toNat_natCast,List.getElem?_map,List.getElem?_range (by omega)]
 rfl
theorem v3 (N : Nat) (f : Int → bm) : (iy N f).length = N := by simp [iy]
structure nL (s : fa) (O : List (Nat × bo)) (n : Nat) (x : fO) (O' : List (Nat × bo)) (bO : Nat) : Prop where
 own : kJ s x O' bO
 c0 : qH none O n O' bO
 new : n < x.i ∧ n < x.g
theorem nL.of {s : fa} {O O' : List (Nat × bo)} {n bO : Nat} {x : fO} (af : kJ s x O' bO) (aj : qH none O n O' bO) (av : n < x.i) (aY : n < x.g) : nL s O n x (ef O' n) bO :=
 ⟨kJ.to af (Nat.le_refl _) (by rw [bq,if_neg (by omega)]) (by rw [bq,if_neg (by omega)]),⟨aj.le,fun e he ar => by rw [bq,if_neg (by omega)]; exact aj.old e he ar⟩,av,aY⟩
theorem DE {lG : List (Nat × aw)} {V : fO → List (Nat × (Nat × aw))} {late : List Nat} {s : fa} {O : List (Nat × bo)} {n : Nat} {done : List Nat} {S : ak} {x : fO} (h : jh lG V late 6 O n (nL s O n) done S x) {e : Nat} {Y : bo} (aj : e < n) (cC : an O e = some Y) : an S.O e = some Y := by
 cases aB : done.contains 6 with
 | false => rw [(h.pre aB).1]; exact cC
 | true => rw [(h.post aB).c0.old e aj (by simp)]; exact cC
def er : b1 := ⟨1,8,40⟩
theorem oQ : e4 er = 0 := by decide
abbrev qU : List (List aw) := [[aG 5],[aG 5],[aG (-5)],[aG (-5)],[aG 39],[aG 39]]
abbrev uR : List (List aw) := [[aG 5],[aG 6],[aG 5],[aG 5],[aG 39],[aG 0]]
def x6 : Nat → List Nat
 | 0 => []
 | 1 => [5]
 | 2 => [5,6]
 | 3 => [6]
 | 4 => [6]
 | 5 => [6,39]
 | _ => [0,6,39]
structure xV (i : Nat) (ws : List bm) : Prop where
 len : ws.length = 1424
 bits : ∀ c,c < 40 → eg er (du ws) c = (x6 i).contains c
inductive Pc (i : Nat) (ws : List bm) : Prop
 | e (h : i = 6)
 | t (a b : Nat) (af : qU[i]? = some [aG a]) (aj : uR[i]? = some [aG b]) (av : a < 40) (aY : (13 == (0 : Int)) = ((i : Int) == 3)) (bM : sl (eg er (du ws)) 40 a = some b) (bN : xV (i + 1) (iy 1424 (mE er (du ws) b))) (cJ : i < 6)
 | g (af : i = 2) (aj : eg er (du ws) 5 = true) (bN : xV 3 (iy 1424 (oa er (du ws) 5)))
 | f (af : i = 3) (aj : eg er (du ws) 5 = false) (bN : xV 4 (iy 1424 (du ws)))
theorem aep {U V : Nat → Bool} {B a : Nat} (a5 : a ≤ B) (h : ∀ i,i < B → U i = V i) : sl U B a = sl V B a := by
 unfold sl
 rw [FZ (B - a) a fun i af aj => h i (by omega),FZ a 0 fun i af aj => h i (by omega)]
theorem z1 : dm er 7 = 1424 := by decide
theorem Jf {f : Int → bm} {c : Nat} (aB : c < 40) : eg er (du (iy 1424 f)) c = eg er f c := XG oQ (by rw [z1]; decide) f (by show (c : Int) < 40; omega)
theorem Fa {i a b : Nat} {ws : List bm} (h : xV i ws) (af : qU[i]? = some [aG a]) (aj : uR[i]? = some [aG b]) (av : a < 40) (aY : (13 == (0 : Int)) = ((i : Int) == 3)) (cJ : i < 6) (bM : sl (fun c => (x6 i).contains c) 40 a = some b) (bN : ∀ c,c < 40 → ((x6 i).contains c || decide (b = c)) = (x6 (i + 1)).contains c) : Pc i ws := by
 refine .t a b af aj av aY ?_ ⟨v3 _ _,fun c aB => ?_⟩ cJ
 ·rw [aep (by omega) h.bits]; exact bM
 ·rw [Jf aB,OP,h.bits c aB]; exact bN c aB
theorem acS {i : Nat} {ws : List bm} (aq : i ≤ 6) (h : xV i ws) : Pc i ws := by
 have dZ : i = 0 ∨ i = 1 ∨ i = 2 ∨ i = 3 ∨ i = 4 ∨ i = 5 ∨ i = 6 := by omega
 rcases dZ with rfl | rfl | rfl | rfl | rfl | rfl | rfl
 ·exact Fa (a := 5) (b := 5) h rfl rfl (by decide) (by decide) (by decide) (by decide) (by decide)
 ·exact Fa (a := 5) (b := 6) h rfl rfl (by decide) (by decide) (by decide) (by decide) (by decide)
 ·refine .g rfl ?_ ⟨v3 _ _,fun c aB => ?_⟩
  ·rw [h.bits 5 (by decide)]; rfl
  ·rw [Jf aB,XE,h.bits c aB]
   have : ∀ c,c < 40 → ((x6 2).contains c && !decide (5 = c)) = (x6 3).contains c := by decide
   exact this c aB
 ·refine .f rfl ?_ ⟨v3 _ _,fun c aB => ?_⟩
  ·rw [h.bits 5 (by decide)]; rfl
  ·rw [Jf aB,h.bits c aB]; rfl
 ·exact Fa (a := 39) (b := 39) h rfl rfl (by decide) (by decide) (by decide) (by decide) (by decide)
 ·exact Fa (a := 39) (b := 0) h rfl rfl (by decide) (by decide) (by decide) (by decide) (by decide)
 ·exact .e rfl
theorem acR : xV 0 (firstM er) := by
 refine ⟨by rw [Ai,z1]; rfl,fun c aB => ?_⟩
 rw [aei oQ (by show (c : Int) < 40; omega)]; rfl
def Yu (J : bl → Env → Prop) (n : Nat) (k : Nat) (S : ak) : Prop :=
 ∃ (i : Nat) (ws : List bm) (cV : List (Nat × bo)) (bG : Nat),i ≤ 6 ∧ k = 6 - i ∧ xV i ws ∧ n + 2 ≤ bG ∧ an cV n = some (.cB J) ∧ an cV (n + 1) = some (.box 25 (fu er)) ∧
  S = ⟨[(1,.ptr (n + 1) 0 0),(2,.au 3 0 (ws.map c6)),(3,.au 1 0 qU),(4,.au 1 0 uR),(5,aG i)],cV,bG⟩
abbrev BA (n : Nat) (ws : List bm) (i : Nat) : List (Nat × aw) := [(1,.ptr (n + 1) 0 0),(2,.au 3 0 (ws.map c6)),(3,.au 1 0 qU),(4,.au 1 0 uR),(5,aG i)]
abbrev Jd (i : Nat) (a m : Int) (e : List aw) : List (Nat × (Nat × aw)) := [(24,0,.agg (fu er)),(25,1,.au 1 0 qU),(26,2,aG i),(27,3,.di e 0),(28,4,aG a),(29,5,aG m)]
abbrev PY (i : Nat) (a m : Int) (e : List aw) : List (Nat × (Nat × aw)) := [(39,0,.agg (fu er)),(40,1,.au 1 0 qU),(41,2,aG i),(42,3,.di e 0),(43,4,aG a),(44,5,aG m)]
abbrev Je (s : fa) (x : fO) : List (Nat × (Nat × aw)) := [(30,6,.bY [jz s x,aG 0]),(23,7,.bY [jz s x,aG 0]),(31,8,jz s x),(32,9,aG 0),(6,10,jz s x),(7,11,aG 0)]
abbrev PZ (s : fa) (x : fO) : List (Nat × (Nat × aw)) := [(45,6,.bY [jz s x,aG 0]),(38,7,.bY [jz s x,aG 0]),(46,8,jz s x),(47,9,aG 0),(6,10,jz s x),(7,11,aG 0)]
abbrev BB : List (List Nat) := [[],[],[],[1,2],[3],[4],[0,5],[6],[7],[7],[8,6,0,1,2,3,4,5,6,7,8],[9,10,0,1,2,3,4,5,6,7,8,9,10]]
set_option maxHeartbeats 8000000 in
set_option maxRecDepth 20000 in
theorem aje (O : List (Nat × bo)) (n : Nat) : gg 8 [] O n (fun _ r _ _ => r = eA true) := by
 refine xy Tryz.func8 ant rfl fun J => ?_
 have hid := fG n
 have r9 := TY er oQ
 have GP := acR
 generalize firstM er = aoC at r9 GP
 unfold Wp Vh;delta ab aQ a8 aa ay a3
 have ad := @hid
 refine ae fun _ aK _ _ => ai fun _ aH => ?_;refine al ad ?_;refine aH _ (aK (some ([],none)) _ (ae fun _ aP _ _ => ai fun _ bk => ?_));refine aS ad ?_;refine bk _ (aP (some ([1],none)) _ (ae fun _ bV _ _ => ai fun _ dk => ?_));refine ag 1 ad ?_;refine aM 1 ad ?_;refine Or.inl (Or.inl ⟨_,r9,?_⟩);refine al ad ?_;refine dk _ (bV (some ([1,2],none)) _ (ae fun _ cz _ _ => ai fun _ c7 => ?_));refine ag 1 ad ?_;refine al ad ?_;refine c7 _ (cz (some ([1,2,3],none)) _ (ae fun bz cR _ _ => ai fun _ cK => ?_));refine ag 1 ad ?_;refine al ad ?_;refine cK _ (cR (some ([1,2,3,4],none)) _ (ae fun _ cr _ _ => ae fun _ ff _ _ => ai fun _ ew => ?_));refine al ad ?_;refine ew _ (ff (some ([1,2,3,4,5],none)) _ ?_)
 refine cj fun _ _ y3 _ _ => ?_;refine ie (Yu J n) (6) (some ([1,2,3,4,5],none)) ([]) ?_ ?_
 ·try refine dR ?_
  refine ⟨0,aoC,_,_,by omega,by omega,GP,by omega,?_,?_,rfl⟩
  ·simp [an]
  ·simp [an,er]
 ·intro k bT aW
  obtain ⟨i,ws,cV,bG,aq,rfl,ng,hle,a0,bS,rfl⟩ := aW
  have jm := fG bG
  have d0 := cW (n := bG) (d := n) (by omega)
  have d1 := cW (n := bG) (d := n + 1) (by omega)
  have iB := acS aq ng
  have hlen := ng.len
  intro _ gl _ lo
  rcases iB with rfl | ⟨a,b,oV,afi,RN,hW,xf,wY,aqA⟩ | ⟨rfl,hu,wY⟩ | ⟨rfl,hu,wY⟩
  ·skip
   have xo := MF oQ 0 ws (by rw [z1,hlen]; decide)
   have adL : p3 er (du ws) = [0,6,39] := by
    have a1 : (List.range 40).filter (eg er (du ws)) = (List.range 40).filter (fun c => (x6 6).contains c) := List.filter_congr fun c aB => ng.bits c (List.mem_range.1 aB)
    show (List.range 40).filter _ = _
    rw [a1]; rfl
   rw [adL] at xo
   have xn := T8 0 0 [0,6,39] [0,6,39] (by decide) (by decide)
   have aD := And.intro ad (And.intro @jm (And.intro @d0 (And.intro @d1 (And.intro @a0 @bS))))
   refine ae fun _ _ _ tW => ae fun _ kC _ _ => ai fun _ hI => ?_;refine aM 3 aD ?_;refine aS aD ?_;refine hI _ (kC (some ([1,2,3,4,5,20],none)) _ (bs (tW 0 _ (lo 0 _ (y3 _ (cr (some ([1,2],none)) _ (ae fun _ hJ _ _ => ai fun _ hX => ?_)))))));refine ag 1 aD ?_;refine aM 1 aD ?_;refine aM 1 aD ?_;refine Or.inl (Or.inl ⟨_,xo,?_⟩);refine ag 1 aD ?_;refine aM 1 aD ?_;refine Or.inl (Or.inl ⟨_,xn,?_⟩);refine al aD ?_;refine hX _ (hJ (some ([0],none)) _ ?_)
   first | refine gv (aF aD) (aF aD) (aF aD) ?_ | refine gu (aF aD) (aF aD) (aF aD) ?_
   try dsimp only
   rfl
  ·skip
   have uB : (0 : Int) ≤ (i : Int) := by omega
   have cn : (i : Int) < ((6 : Nat) : Int) := by omega
   have dM : IntKind.i64.wrap ((i : Int) + 1) = ((i + 1 : Nat) : Int) := by rw [IntKind.wrap_i64]; omega
   have uC : max (a : Int) 0 = (a : Int) := by omega
   have wn : ¬ (a : Int) < 0 := by omega
   have y7 := Hg oQ a (by show (a : Int) < 40; omega)
   obtain ⟨X,cC,va,Cs⟩ := alA oQ (a := a) (by show (a : Int) < 40; omega) (du ws)
   have rY : fk X.s = ((b : Int),0,true) ∧ X.f = mE er (du ws) b := by
    rcases Cs with ⟨gb,af,aj,av⟩ | ⟨af,_⟩
    ·have af : sl (eg er (du ws)) 40 a = some gb := af
     rw [xf] at af; cases af; exact ⟨aj,av⟩
    ·have af : sl (eg er (du ws)) 40 a = none := af
     rw [xf] at af; cases af
   have aow : ((b : Int) != (b : Int)) = false := by simp
   have v5 : ((i : Int) == 3) = false := by rw [← hW]; rfl
   have bc := And.intro ad (And.intro @jm (And.intro @d0 (And.intro @d1 (And.intro @a0 (And.intro @bS (And.intro @cn (And.intro @dM (And.intro @oV (And.intro @afi (And.intro @uB (And.intro @wn (And.intro @aow @v5))))))))))))
   refine ae fun _ hK _ _ => ae fun _ lu _ _ => ai fun _ im => ?_;refine aM 3 bc ?_;refine aS bc ?_;refine im _ (lu (some ([1,2,3,4,5,20],none)) _ (bU (hK (some ([1,2,3,4,5],none)) _ (ae fun _ iP _ _ => cj fun _ ns _ _ _ => ae fun _ lv _ _ => ?_))));refine u0 ([]) (fun done S => qI BB done ∧ ∃ x,jh (BA n ws i) (fun x => Jd i a a [aG a] ++ Je (.dp (fV er a)) x) [7,8,9,10,11] 6 cV bG (nL (.dp (fV er a)) cV bG) done S x) (fun S => ∃ x j6 kk,S = ⟨[(1,.ptr (n + 1) 0 0),(2,.au 3 0 (ws.map c6)),(3,.au 1 0 qU),(4,.au 1 0 uR),(5,aG i),(6,jz (.dp (fV er a)) x),(7,aG 0)],j6,kk⟩ ∧ nL (.dp (fV er a)) cV bG x j6 kk) ?_ ?_ ?_ ?_
   ·skip
    refine ⟨uY _,⟨0,0,0,.any⟩,jh.init (fun t v h => ?_) rfl rfl⟩
    simp only [an] at h
    simp only [ak.gM,ak.e1,eL,an,reduceIte,Nat.reduceEqDiff]
    repeat' split at h
    all_goals first | (rename_i fE; subst fE; exact h) | cases h
   ·skip
    intro done S i0 ⟨aB,x,aW⟩ aA
    have lp := vS aA
    have hs := vT aA
    have dh := aW.base 1 _ rfl
    have gL := aW.base 3 _ rfl
    have lQ := aW.base 5 _ rfl
    have vK := DE aW (e := n + 1) (by omega) bS
    have c3 := fun t j v h aj => aW.mm t j v h aj
    have kE := fun x => gX (jF (.dp (fV er a)) x)
    have dZ : i0 = 0 ∨ i0 = 1 ∨ i0 = 2 ∨ i0 = 3 ∨ i0 = 4 ∨ i0 = 5 ∨ i0 = 6 ∨ i0 = 7 ∨ i0 = 8 ∨ i0 = 9 ∨ i0 = 10 ∨ i0 = 11 := by simp at lp; omega
    rcases dZ with rfl | rfl | rfl | rfl | rfl | rfl | rfl | rfl | rfl | rfl | rfl | rfl
    ·skip
     have bb := And.intro dh vK
     refine cZ rfl fun bz aR => ?_;refine a2 bb ?_;refine bh ?_;refine aR _ ?_
     exact ⟨aB.cons aA,x,aW.put (i := 0) (t := 24) rfl rfl rfl (by decide) (fun h => by cases h)⟩
    ·skip
     have bb := gL
     refine cZ rfl fun bz aR => ?_;refine a2 bb ?_;refine aR _ ?_
     exact ⟨aB.cons aA,x,aW.put (i := 1) (t := 25) rfl rfl rfl (by decide) (fun h => by cases h)⟩
    ·skip
     have bb := lQ
     refine cZ rfl fun bz aR => ?_;refine a2 bb ?_;refine aR _ ?_
     exact ⟨aB.cons aA,x,aW.put (i := 2) (t := 26) rfl rfl rfl (by decide) (fun h => by cases h)⟩
    ·skip
     have hw := dL aA rfl
     have g1 := c3 25 1 _ rfl (hw 1 rfl)
     have bW := c3 26 2 _ rfl (hw 2 rfl)
     have bb := And.intro g1 (And.intro bW (And.intro uB oV))
     refine cZ rfl fun bz aR => ?_;refine a2 bb ?_;refine bh ?_;refine aR _ ?_
     exact ⟨aB.cons aA,x,aW.put (i := 3) (t := 27) rfl rfl rfl (by decide) (fun h => by cases h)⟩
    ·skip
     have hw := dL aA rfl
     have g1 := c3 27 3 _ rfl (hw 3 rfl)
     have bb := g1
     refine cZ rfl fun bz aR => ?_;refine a2 bb ?_;refine aR _ ?_
     exact ⟨aB.cons aA,x,aW.put (i := 4) (t := 28) rfl rfl rfl (by decide) (fun h => by cases h)⟩
    ·skip
     have hw := dL aA rfl
     have g1 := c3 28 4 _ rfl (hw 4 rfl)
     have bb := And.intro g1 uC
     refine cZ rfl fun bz aR => ?_;refine a2 bb ?_;refine aR _ ?_
     exact ⟨aB.cons aA,x,aW.put (i := 5) (t := 29) rfl rfl rfl (by decide) (fun h => by cases h)⟩
    ·have hw := dL aA rfl
     have g1 := c3 24 0 _ rfl (hw 0 rfl)
     have bW := c3 29 5 _ rfl (hw 5 rfl)
     obtain ⟨wu,j6,kk⟩ := S
     obtain ⟨a1,a7⟩ := aW.pre hs
     dsimp only at a1 a7
     subst a1 a7
     dsimp only at g1 bW
     refine cZ rfl fun bz aR => ?_;refine Or.inr (iJ (y7 _ _) (by simp only [ak.k0,ak.bg,g1,bW,ak.res,Option.map_some,Option.bind_some]) fun wb xD Bq DG oo => ?_)
     obtain ⟨l9,rfl,bJ,cf,dA,fr⟩ := oo
     refine aR _ ?_
     exact ⟨aB.cons aA,l9,aW.call2 (t := 30) hs rfl rfl rfl rfl (nL.of bJ cf dA fr)⟩
    ·skip
     have hw := dL aA rfl
     have g1 := c3 30 6 _ rfl (hw 6 rfl)
     have bb := g1
     refine cZ rfl fun bz aR => ?_;refine a2 bb ?_;refine aR _ ?_
     exact ⟨aB.cons aA,x,aW.put (i := 7) (t := 23) rfl rfl rfl (by decide) (fun _ => hw 6 rfl)⟩
    ·skip
     have hw := dL aA rfl
     have bN := aB 7 _ (hw 7 rfl) rfl 6 rfl
     have g1 := c3 23 7 _ rfl (hw 7 rfl)
     have bb := And.intro g1 (kE x)
     refine cZ rfl fun bz aR => ?_;refine a2 bb ?_;refine aR _ ?_
     exact ⟨aB.cons aA,x,aW.put (i := 8) (t := 31) rfl rfl rfl (by decide) (fun _ => bN)⟩
    ·skip
     have hw := dL aA rfl
     have bN := aB 7 _ (hw 7 rfl) rfl 6 rfl
     have g1 := c3 23 7 _ rfl (hw 7 rfl)
     have bb := And.intro g1 (kE x)
     refine cZ rfl fun bz aR => ?_;refine a2 bb ?_;refine aR _ ?_
     exact ⟨aB.cons aA,x,aW.put (i := 9) (t := 32) rfl rfl rfl (by decide) (fun _ => bN)⟩
    ·skip
     have hw := dL aA rfl
     have g1 := c3 31 8 _ rfl (hw 8 rfl)
     have bb := And.intro g1 (kE x)
     refine cZ rfl fun bz aR => ?_;refine a2 bb ?_;refine aR _ ?_
     exact ⟨aB.cons aA,x,aW.put (i := 10) (t := 6) rfl rfl rfl (by decide) (fun _ => hw 6 rfl)⟩
    ·skip
     have hw := dL aA rfl
     have g1 := c3 32 9 _ rfl (hw 9 rfl)
     have bb := g1
     refine cZ rfl fun bz aR => ?_;refine a2 bb ?_;refine aR _ ?_
     exact ⟨aB.cons aA,x,aW.put (i := 11) (t := 7) rfl rfl rfl (by decide) (fun _ => hw 6 rfl)⟩
   ·skip
    rintro done S ⟨aB,x,aW⟩ ec
    have t1 := aW.base 1 _ rfl
    have t2 := aW.base 2 _ rfl
    have t3 := aW.base 3 _ rfl
    have t4 := aW.base 4 _ rfl
    have t5 := aW.base 5 _ rfl
    have t6 := aW.mm 6 10 _ rfl (ec 10 (by decide))
    have t7 := aW.mm 7 11 _ rfl (ec 11 (by decide))
    obtain ⟨mG,ha,uz⟩ := aW.post (ec 6 (by decide))
    have kU : ∀ e,an (j1 S.O) e = an S.O e := fun e => nc _ _
    refine ⟨some ([1,2,3,4,5,6,7],none),x,j1 S.O,S.n,?_,⟨kJ.to mG (Nat.le_refl _) (kU _) (kU _),⟨ha.le,fun e he ar => (kU e).trans (ha.old e he ar)⟩,uz⟩⟩
    show ak.mk (eL S.T [1,2,3,4,5,6,7]) _ _ = _
    simp only [ak.e1,eL,t1,t2,t3,t4,t5,t6,t7]
   rintro bT ⟨x,mK,fz,rfl,eR,fi,fZ⟩
   have w8 := fi.le
   have wv : an mK n = some (.cB J) := by rw [fi.old n (by omega) (by simp)]; exact a0
   have tH : an mK (n + 1) = some (.box 25 (fu er)) := by rw [fi.old (n + 1) (by omega) (by simp)]; exact bS
   have kE := gX (jF (.dp (fV er a)) x)
   have jS := fG fz
   have de := cW (n := fz) (d := n) (by omega)
   have cd := cW (n := fz) (d := n + 1) (by omega)
   have s8 := MD oQ 0 ws (by rw [z1,hlen]; decide) (by rw [hlen]; decide) (.dp (fV er a)) (OG oQ (a := a) (by show (a : Int) < 40; omega)) rfl (by rw [cC]; exact va) mK fz eR
   rw [cC,rY.1,rY.2,hlen] at s8
   generalize iy 1424 (mE er (du ws) b) = XU at s8 wY
   have bt := And.intro bc (And.intro @kE (And.intro @jS (And.intro @de (And.intro @cd (And.intro @wv @tH)))))
   refine lv (some ([1,2,3,4,5,6,7],none)) _ (ae fun _ iQ _ _ => ae fun _ mv _ _ => ai fun _ hY => ?_);refine ag 3 bt ?_;refine ag 1 bt ?_;refine aS bt ?_;refine hY _ (mv (some ([1,2,3,4,5,6,7,37],none)) _ (bs (iQ (some ([1,2,3,4,5,6,7],none)) _ (ae fun _ rf _ _ => ai fun _ mr => ?_))));refine ag 1 bt ?_;refine aM 2 bt ?_;refine aM 1 bt ?_;refine Or.inr (iJ (s8) (aF bt) (fun zT AT rF gR q4 => ?_))
   obtain ⟨rfl,Gt,w6⟩ := q4
   have f0 : an rF n = some (.cB J) := by rw [w6 n (by omega) (by simp; omega)]; exact wv
   have f1 : an rF (n + 1) = some (.box 25 (fu er)) := by rw [w6 (n + 1) (by omega) (by simp; omega)]; exact tH
   have fD := cW (n := gR) (d := n) (by omega)
   have a1 := cW (n := gR) (d := n + 1) (by omega)
   have bB := And.intro bt (And.intro @fD (And.intro @a1 (And.intro @f0 @f1)))
   refine aM 3 bB ?_;refine aM 3 bB ?_;refine al bB ?_;refine mr _ (rf (some ([1,3,4,5,7,8,9,10,11],none)) _ (ae fun _ pP _ _ => ae fun _ kD _ _ => ai fun _ lq => ?_));refine ag 2 bB ?_;refine aM 3 bB ?_;refine aM 3 bB ?_;refine ag 3 bB ?_;refine ag 1 bB ?_;refine ag 1 bB ?_;refine aM 3 bB ?_;refine ag 1 bB ?_;refine ag 2 bB ?_;refine aM 1 bB ?_;refine Or.inl ⟨_,JF _ _,?_⟩;refine al bB ?_;refine lq _ (kD (some ([1,3,4,5,8,77],none)) _ (bs (pP (some ([1,3,4,5,8],none)) _ (ai fun _ nj => ?_))));refine al bB ?_;refine nj _ (ns _ (iP (some ([1,2,3,4,5],none)) _ (ai fun _ pK => ?_)));refine ag 2 bB ?_;refine al bB ?_;refine pK _ ?_;refine gl (6 - (i + 1)) (some ([1,2,3,4,5],none)) _ ?_ ?_
   all_goals try refine dR ?_
   ·omega
   ·refine ⟨_ + 1,_,_,_,by omega,by omega,wY,by omega,?_,?_,rfl⟩
    ·simp only [an,bq]; (repeat rw [if_neg (by omega)]); exact f0
    ·simp only [an,bq]; (repeat rw [if_neg (by omega)]); exact f1
  ·skip
   have uB : (0 : Int) ≤ ((2 : Nat) : Int) := by omega
   have oV : qU[2]? = some [aG (-5)] := rfl
   have uC : max (-5 : Int) 0 = ((0 : Nat) : Int) := by decide
   have y7 := Hg oQ 0 (by decide)
   have kF := ME oQ 5 (by decide)
   obtain ⟨X,cC,va,Cs⟩ := Xg (l := er) 5 (du ws)
   have rY : fk X.s = (5,0,true) ∧ X.f = oa er (du ws) 5 := by
    rcases Cs with ⟨af,aj,av⟩ | ⟨af,_⟩
    ·exact ⟨aj,av⟩
    ·rw [hu] at af; cases af
   have ep := And.intro ad (And.intro @jm (And.intro @d0 (And.intro @d1 (And.intro @a0 (And.intro @bS @uB)))))
   refine ae fun _ pR _ _ => ae fun _ oy _ _ => ai fun _ jV => ?_;refine aM 3 ep ?_;refine aS ep ?_;refine jV _ (oy (some ([1,2,3,4,5,20],none)) _ (bU (pR (some ([1,2,3,4,5],none)) _ (ae fun _ ri _ _ => cj fun _ s3 _ _ _ => ae fun _ vo _ _ => ?_))));refine u0 ([]) (fun done S => qI BB done ∧ ∃ x,jh (BA n ws 2) (fun x => Jd 2 (-5) ((0 : Nat) : Int) [aG (-5)] ++ Je (.dp (fV er 0)) x) [7,8,9,10,11] 6 cV bG (nL (.dp (fV er 0)) cV bG) done S x) (fun S => ∃ x j6 kk,S = ⟨[(1,.ptr (n + 1) 0 0),(2,.au 3 0 (ws.map c6)),(3,.au 1 0 qU),(4,.au 1 0 uR),(5,aG ((2 : Nat) : Int)),(6,jz (.dp (fV er 0)) x),(7,aG 0)],j6,kk⟩ ∧ nL (.dp (fV er 0)) cV bG x j6 kk) ?_ ?_ ?_ ?_
   ·skip
    refine ⟨uY _,⟨0,0,0,.any⟩,jh.init (fun t v h => ?_) rfl rfl⟩
    simp only [an] at h
    simp only [ak.gM,ak.e1,eL,an,reduceIte,Nat.reduceEqDiff]
    repeat' split at h
    all_goals first | (rename_i fE; subst fE; exact h) | cases h
   ·skip
    intro done S i0 ⟨aB,x,aW⟩ aA
    have lp := vS aA
    have hs := vT aA
    have dh := aW.base 1 _ rfl
    have gL := aW.base 3 _ rfl
    have lQ := aW.base 5 _ rfl
    have vK := DE aW (e := n + 1) (by omega) bS
    have c3 := fun t j v h aj => aW.mm t j v h aj
    have kE := fun x => gX (jF (.dp (fV er 0)) x)
    have dZ : i0 = 0 ∨ i0 = 1 ∨ i0 = 2 ∨ i0 = 3 ∨ i0 = 4 ∨ i0 = 5 ∨ i0 = 6 ∨ i0 = 7 ∨ i0 = 8 ∨ i0 = 9 ∨ i0 = 10 ∨ i0 = 11 := by simp at lp; omega
    rcases dZ with rfl | rfl | rfl | rfl | rfl | rfl | rfl | rfl | rfl | rfl | rfl | rfl
    ·skip
     have bb := And.intro dh vK
     refine cZ rfl fun bz aR => ?_;refine a2 bb ?_;refine bh ?_;refine aR _ ?_
     exact ⟨aB.cons aA,x,aW.put (i := 0) (t := 24) rfl rfl rfl (by decide) (fun h => by cases h)⟩
    ·skip
     have bb := gL
     refine cZ rfl fun bz aR => ?_;refine a2 bb ?_;refine aR _ ?_
     exact ⟨aB.cons aA,x,aW.put (i := 1) (t := 25) rfl rfl rfl (by decide) (fun h => by cases h)⟩
    ·skip
     have bb := lQ
     refine cZ rfl fun bz aR => ?_;refine a2 bb ?_;refine aR _ ?_
     exact ⟨aB.cons aA,x,aW.put (i := 2) (t := 26) rfl rfl rfl (by decide) (fun h => by cases h)⟩
    ·skip
     have hw := dL aA rfl
     have g1 := c3 25 1 _ rfl (hw 1 rfl)
     have bW := c3 26 2 _ rfl (hw 2 rfl)
     have bb := And.intro g1 (And.intro bW (And.intro uB oV))
     refine cZ rfl fun bz aR => ?_;refine a2 bb ?_;refine bh ?_;refine aR _ ?_
     exact ⟨aB.cons aA,x,aW.put (i := 3) (t := 27) rfl rfl rfl (by decide) (fun h => by cases h)⟩
    ·skip
     have hw := dL aA rfl
     have g1 := c3 27 3 _ rfl (hw 3 rfl)
     have bb := g1
     refine cZ rfl fun bz aR => ?_;refine a2 bb ?_;refine aR _ ?_
     exact ⟨aB.cons aA,x,aW.put (i := 4) (t := 28) rfl rfl rfl (by decide) (fun h => by cases h)⟩
    ·skip
     have hw := dL aA rfl
     have g1 := c3 28 4 _ rfl (hw 4 rfl)
     have bb := And.intro g1 uC
     refine cZ rfl fun bz aR => ?_;refine a2 bb ?_;refine aR _ ?_
     exact ⟨aB.cons aA,x,aW.put (i := 5) (t := 29) rfl rfl rfl (by decide) (fun h => by cases h)⟩
    ·have hw := dL aA rfl
     have g1 := c3 24 0 _ rfl (hw 0 rfl)
     have bW := c3 29 5 _ rfl (hw 5 rfl)
     obtain ⟨wu,j6,kk⟩ := S
     obtain ⟨a1,a7⟩ := aW.pre hs
     dsimp only at a1 a7
     subst a1 a7
     dsimp only at g1 bW
     refine cZ rfl fun bz aR => ?_;refine Or.inr (iJ (y7 _ _) (by simp only [ak.k0,ak.bg,g1,bW,ak.res,Option.map_some,Option.bind_some]) fun wb xD Bq DG oo => ?_)
     obtain ⟨l9,rfl,bJ,cf,dA,fr⟩ := oo
     refine aR _ ?_
     exact ⟨aB.cons aA,l9,aW.call2 (t := 30) hs rfl rfl rfl rfl (nL.of bJ cf dA fr)⟩
    ·skip
     have hw := dL aA rfl
     have g1 := c3 30 6 _ rfl (hw 6 rfl)
     have bb := g1
     refine cZ rfl fun bz aR => ?_;refine a2 bb ?_;refine aR _ ?_
     exact ⟨aB.cons aA,x,aW.put (i := 7) (t := 23) rfl rfl rfl (by decide) (fun _ => hw 6 rfl)⟩
    ·skip
     have hw := dL aA rfl
     have bN := aB 7 _ (hw 7 rfl) rfl 6 rfl
     have g1 := c3 23 7 _ rfl (hw 7 rfl)
     have bb := And.intro g1 (kE x)
     refine cZ rfl fun bz aR => ?_;refine a2 bb ?_;refine aR _ ?_
     exact ⟨aB.cons aA,x,aW.put (i := 8) (t := 31) rfl rfl rfl (by decide) (fun _ => bN)⟩
    ·skip
     have hw := dL aA rfl
     have bN := aB 7 _ (hw 7 rfl) rfl 6 rfl
     have g1 := c3 23 7 _ rfl (hw 7 rfl)
     have bb := And.intro g1 (kE x)
     refine cZ rfl fun bz aR => ?_;refine a2 bb ?_;refine aR _ ?_
     exact ⟨aB.cons aA,x,aW.put (i := 9) (t := 32) rfl rfl rfl (by decide) (fun _ => bN)⟩
    ·skip
     have hw := dL aA rfl
     have g1 := c3 31 8 _ rfl (hw 8 rfl)
     have bb := And.intro g1 (kE x)
     refine cZ rfl fun bz aR => ?_;refine a2 bb ?_;refine aR _ ?_
     exact ⟨aB.cons aA,x,aW.put (i := 10) (t := 6) rfl rfl rfl (by decide) (fun _ => hw 6 rfl)⟩
    ·skip
     have hw := dL aA rfl
     have g1 := c3 32 9 _ rfl (hw 9 rfl)
     have bb := g1
     refine cZ rfl fun bz aR => ?_;refine a2 bb ?_;refine aR _ ?_
     exact ⟨aB.cons aA,x,aW.put (i := 11) (t := 7) rfl rfl rfl (by decide) (fun _ => hw 6 rfl)⟩
   ·skip
    rintro done S ⟨aB,x,aW⟩ ec
    have t1 := aW.base 1 _ rfl
    have t2 := aW.base 2 _ rfl
    have t3 := aW.base 3 _ rfl
    have t4 := aW.base 4 _ rfl
    have t5 := aW.base 5 _ rfl
    have t6 := aW.mm 6 10 _ rfl (ec 10 (by decide))
    have t7 := aW.mm 7 11 _ rfl (ec 11 (by decide))
    obtain ⟨mG,ha,uz⟩ := aW.post (ec 6 (by decide))
    have kU : ∀ e,an (j1 S.O) e = an S.O e := fun e => nc _ _
    refine ⟨some ([1,2,3,4,5,6,7],none),x,j1 S.O,S.n,?_,⟨kJ.to mG (Nat.le_refl _) (kU _) (kU _),⟨ha.le,fun e he ar => (kU e).trans (ha.old e he ar)⟩,uz⟩⟩
    show ak.mk (eL S.T [1,2,3,4,5,6,7]) _ _ = _
    simp only [ak.e1,eL,t1,t2,t3,t4,t5,t6,t7]
   rintro bT ⟨x,mK,fz,rfl,eR,fi,fZ⟩
   have w8 := fi.le
   have wv : an mK n = some (.cB J) := by rw [fi.old n (by omega) (by simp)]; exact a0
   have tH : an mK (n + 1) = some (.box 25 (fu er)) := by rw [fi.old (n + 1) (by omega) (by simp)]; exact bS
   have kE := gX (jF (.dp (fV er 0)) x)
   have jS := fG fz
   have de := cW (n := fz) (d := n) (by omega)
   have cd := cW (n := fz) (d := n + 1) (by omega)
   have uC : IntKind.i64.wrap (-(-5)) = ((5 : Nat) : Int) := by decide
   have eh := And.intro ep (And.intro @kE (And.intro @jS (And.intro @de (And.intro @cd (And.intro @wv @tH)))))
   refine vo (some ([1,2,3,4,5,6,7],none)) _ (ae fun _ r2 _ _ => ae fun _ yL _ _ => ai fun _ q8 => ?_);refine ag 3 eh ?_;refine ag 1 eh ?_;refine aS eh ?_;refine q8 _ (yL (some ([1,2,3,4,5,6,7,37],none)) _ (bU ?_));refine u0 ([]) (fun done S => qI BB done ∧ ∃ x,jh (BA n ws 2) (fun x => PY 2 (-5) ((5 : Nat) : Int) [aG (-5)] ++ PZ (.ev (ij er 5)) x) [7,8,9,10,11] 6 mK fz (nL (.ev (ij er 5)) mK fz) done S x) (fun S => ∃ x j6 kk,S = ⟨[(1,.ptr (n + 1) 0 0),(2,.au 3 0 (ws.map c6)),(3,.au 1 0 qU),(4,.au 1 0 uR),(5,aG ((2 : Nat) : Int)),(6,jz (.ev (ij er 5)) x),(7,aG 0)],j6,kk⟩ ∧ nL (.ev (ij er 5)) mK fz x j6 kk) ?_ ?_ ?_ ?_
   ·skip
    refine ⟨uY _,⟨0,0,0,.any⟩,jh.init (fun t v h => ?_) rfl rfl⟩
    simp only [an] at h
    simp only [ak.gM,ak.e1,eL,an,reduceIte,Nat.reduceEqDiff]
    repeat' split at h
    all_goals first | (rename_i fE; subst fE; exact h) | cases h
   ·skip
    intro done S i0 ⟨aB,x,aW⟩ aA
    have lp := vS aA
    have hs := vT aA
    have dh := aW.base 1 _ rfl
    have gL := aW.base 3 _ rfl
    have lQ := aW.base 5 _ rfl
    have vK := DE aW (e := n + 1) (by omega) tH
    have c3 := fun t j v h aj => aW.mm t j v h aj
    have kE := fun x => gX (jF (.ev (ij er 5)) x)
    have dZ : i0 = 0 ∨ i0 = 1 ∨ i0 = 2 ∨ i0 = 3 ∨ i0 = 4 ∨ i0 = 5 ∨ i0 = 6 ∨ i0 = 7 ∨ i0 = 8 ∨ i0 = 9 ∨ i0 = 10 ∨ i0 = 11 := by simp at lp; omega
    rcases dZ with rfl | rfl | rfl | rfl | rfl | rfl | rfl | rfl | rfl | rfl | rfl | rfl
    ·skip
     have bb := And.intro dh vK
     refine cZ rfl fun bz aR => ?_;refine a2 bb ?_;refine bh ?_;refine aR _ ?_
     exact ⟨aB.cons aA,x,aW.put (i := 0) (t := 39) rfl rfl rfl (by decide) (fun h => by cases h)⟩
    ·skip
     have bb := gL
     refine cZ rfl fun bz aR => ?_;refine a2 bb ?_;refine aR _ ?_
     exact ⟨aB.cons aA,x,aW.put (i := 1) (t := 40) rfl rfl rfl (by decide) (fun h => by cases h)⟩
    ·skip
     have bb := lQ
     refine cZ rfl fun bz aR => ?_;refine a2 bb ?_;refine aR _ ?_
     exact ⟨aB.cons aA,x,aW.put (i := 2) (t := 41) rfl rfl rfl (by decide) (fun h => by cases h)⟩
    ·skip
     have hw := dL aA rfl
     have g1 := c3 40 1 _ rfl (hw 1 rfl)
     have bW := c3 41 2 _ rfl (hw 2 rfl)
     have bb := And.intro g1 (And.intro bW (And.intro uB oV))
     refine cZ rfl fun bz aR => ?_;refine a2 bb ?_;refine bh ?_;refine aR _ ?_
     exact ⟨aB.cons aA,x,aW.put (i := 3) (t := 42) rfl rfl rfl (by decide) (fun h => by cases h)⟩
    ·skip
     have hw := dL aA rfl
     have g1 := c3 42 3 _ rfl (hw 3 rfl)
     have bb := g1
     refine cZ rfl fun bz aR => ?_;refine a2 bb ?_;refine aR _ ?_
     exact ⟨aB.cons aA,x,aW.put (i := 4) (t := 43) rfl rfl rfl (by decide) (fun h => by cases h)⟩
    ·skip
     have hw := dL aA rfl
     have g1 := c3 43 4 _ rfl (hw 4 rfl)
     have bb := And.intro g1 uC
     refine cZ rfl fun bz aR => ?_;refine a2 bb ?_;refine Or.inl ⟨_,Rc,?_⟩;refine a2 bb ?_;refine aR _ ?_
     exact ⟨aB.cons aA,x,aW.put (i := 5) (t := 44) rfl rfl rfl (by decide) (fun h => by cases h)⟩
    ·have hw := dL aA rfl
     have g1 := c3 39 0 _ rfl (hw 0 rfl)
     have bW := c3 44 5 _ rfl (hw 5 rfl)
     obtain ⟨wu,j6,kk⟩ := S
     obtain ⟨a1,a7⟩ := aW.pre hs
     dsimp only at a1 a7
     subst a1 a7
     dsimp only at g1 bW
     refine cZ rfl fun bz aR => ?_;refine Or.inr (iJ (kF _ _) (by simp only [ak.k0,ak.bg,g1,bW,ak.res,Option.map_some,Option.bind_some]) fun wb xD Bq DG oo => ?_)
     obtain ⟨l9,rfl,bJ,cf,dA,fr⟩ := oo
     refine aR _ ?_
     exact ⟨aB.cons aA,l9,aW.call2 (t := 45) hs rfl rfl rfl rfl (nL.of bJ cf dA fr)⟩
    ·skip
     have hw := dL aA rfl
     have g1 := c3 45 6 _ rfl (hw 6 rfl)
     have bb := g1
     refine cZ rfl fun bz aR => ?_;refine a2 bb ?_;refine aR _ ?_
     exact ⟨aB.cons aA,x,aW.put (i := 7) (t := 38) rfl rfl rfl (by decide) (fun _ => hw 6 rfl)⟩
    ·skip
     have hw := dL aA rfl
     have bN := aB 7 _ (hw 7 rfl) rfl 6 rfl
     have g1 := c3 38 7 _ rfl (hw 7 rfl)
     have bb := And.intro g1 (kE x)
     refine cZ rfl fun bz aR => ?_;refine a2 bb ?_;refine aR _ ?_
     exact ⟨aB.cons aA,x,aW.put (i := 8) (t := 46) rfl rfl rfl (by decide) (fun _ => bN)⟩
    ·skip
     have hw := dL aA rfl
     have bN := aB 7 _ (hw 7 rfl) rfl 6 rfl
     have g1 := c3 38 7 _ rfl (hw 7 rfl)
     have bb := And.intro g1 (kE x)
     refine cZ rfl fun bz aR => ?_;refine a2 bb ?_;refine aR _ ?_
     exact ⟨aB.cons aA,x,aW.put (i := 9) (t := 47) rfl rfl rfl (by decide) (fun _ => bN)⟩
    ·skip
     have hw := dL aA rfl
     have g1 := c3 46 8 _ rfl (hw 8 rfl)
     have bb := And.intro g1 (kE x)
     refine cZ rfl fun bz aR => ?_;refine a2 bb ?_;refine aR _ ?_
     exact ⟨aB.cons aA,x,aW.put (i := 10) (t := 6) rfl rfl rfl (by decide) (fun _ => hw 6 rfl)⟩
    ·skip
     have hw := dL aA rfl
     have g1 := c3 47 9 _ rfl (hw 9 rfl)
     have bb := g1
     refine cZ rfl fun bz aR => ?_;refine a2 bb ?_;refine aR _ ?_
     exact ⟨aB.cons aA,x,aW.put (i := 11) (t := 7) rfl rfl rfl (by decide) (fun _ => hw 6 rfl)⟩
   ·skip
    rintro done S ⟨aB,x,aW⟩ ec
    have t1 := aW.base 1 _ rfl
    have t2 := aW.base 2 _ rfl
    have t3 := aW.base 3 _ rfl
    have t4 := aW.base 4 _ rfl
    have t5 := aW.base 5 _ rfl
    have t6 := aW.mm 6 10 _ rfl (ec 10 (by decide))
    have t7 := aW.mm 7 11 _ rfl (ec 11 (by decide))
    obtain ⟨mG,ha,uz⟩ := aW.post (ec 6 (by decide))
    have kU : ∀ e,an (j1 S.O) e = an S.O e := fun e => nc _ _
    refine ⟨some ([1,2,3,4,5,6,7],none),x,j1 S.O,S.n,?_,⟨kJ.to mG (Nat.le_refl _) (kU _) (kU _),⟨ha.le,fun e he ar => (kU e).trans (ha.old e he ar)⟩,uz⟩⟩
    show ak.mk (eL S.T [1,2,3,4,5,6,7]) _ _ = _
    simp only [ak.e1,eL,t1,t2,t3,t4,t5,t6,t7]
   rintro bT ⟨so,tE,oC,rfl,dI,dS,oG⟩
   have Gs := dS.le
   have Bv : an tE n = some (.cB J) := by rw [dS.old n (by omega) (by simp)]; exact wv
   have Bw : an tE (n + 1) = some (.box 25 (fu er)) := by rw [dS.old (n + 1) (by omega) (by simp)]; exact tH
   have LH := gX (jF (.ev (ij er 5)) so)
   have tY := fG oC
   have Jp := cW (n := oC) (d := n) (by omega)
   have Jq := cW (n := oC) (d := n + 1) (by omega)
   have s8 := MD oQ 0 ws (by rw [z1,hlen]; decide) (by rw [hlen]; decide) (.ev (ij er 5)) (⟨oQ,by decide⟩ : qL (ij er 5)) rfl (by rw [cC]; exact va) tE oC dI
   rw [cC,rY.1,rY.2,hlen] at s8
   generalize iy 1424 (oa er (du ws) 5) = XU at s8 wY
   have gz := And.intro eh (And.intro @LH (And.intro @tY (And.intro @Jp (And.intro @Jq (And.intro @Bv @Bw)))))
   refine r2 (some ([1,2,3,4,5,6,7],none)) _ (ae fun _ C0 _ _ => ai fun _ sX => ?_);refine ag 1 gz ?_;refine aM 2 gz ?_;refine aM 1 gz ?_;refine Or.inr (iJ (s8) (aF gz) (fun zT AT rF gR q4 => ?_))
   obtain ⟨rfl,Gt,w6⟩ := q4
   have f0 : an rF n = some (.cB J) := by rw [w6 n (by omega) (by simp; omega)]; exact Bv
   have f1 : an rF (n + 1) = some (.box 25 (fu er)) := by rw [w6 (n + 1) (by omega) (by simp; omega)]; exact Bw
   have fD := cW (n := gR) (d := n) (by omega)
   have a1 := cW (n := gR) (d := n + 1) (by omega)
   have bb := And.intro gz (And.intro @fD (And.intro @a1 (And.intro @f0 @f1)))
   refine aM 3 bb ?_;refine aM 3 bb ?_;refine al bb ?_;refine sX _ (C0 (some ([1,3,4,5,7,8,9,10,11],none)) _ (ae fun _ yN _ _ => ae fun _ vq _ _ => ai fun _ ra => ?_));refine ag 2 bb ?_;refine aM 3 bb ?_;refine aM 3 bb ?_;refine ag 3 bb ?_;refine ag 1 bb ?_;refine ag 1 bb ?_;refine aM 3 bb ?_;refine ag 1 bb ?_;refine ag 2 bb ?_;refine aM 1 bb ?_;refine Or.inl ⟨_,JF _ _,?_⟩;refine al bb ?_;refine ra _ (vq (some ([1,3,4,5,8,77],none)) _ (bs (yN (some ([1,3,4,5,8],none)) _ (ai fun _ pN => ?_))));refine al bb ?_;refine pN _ (s3 _ (ri (some ([1,2,3,4,5],none)) _ (ai fun _ vh => ?_)));refine ag 2 bb ?_;refine al bb ?_;refine vh _ ?_;refine gl (6 - 3) (some ([1,2,3,4,5],none)) _ ?_ ?_
   all_goals try refine dR ?_
   ·omega
   ·refine ⟨_ + 1,_,_,_,by omega,by omega,wY,by omega,?_,?_,rfl⟩
    ·simp only [an,bq]; (repeat rw [if_neg (by omega)]); exact f0
    ·simp only [an,bq]; (repeat rw [if_neg (by omega)]); exact f1
  ·skip
   have uB : (0 : Int) ≤ ((3 : Nat) : Int) := by omega
   have oV : qU[3]? = some [aG (-5)] := rfl
   have uC : max (-5 : Int) 0 = ((0 : Nat) : Int) := by decide
   have y7 := Hg oQ 0 (by decide)
   have kF := ME oQ 5 (by decide)
   obtain ⟨X,cC,va,Cs⟩ := Xg (l := er) 5 (du ws)
   have rY : fk X.s = (5,13,true) ∧ X.f = du ws := by
    rcases Cs with ⟨af,_⟩ | ⟨af,aj,av⟩
    ·rw [hu] at af; cases af
    ·exact ⟨aj,av⟩
   have ph := And.intro ad (And.intro @jm (And.intro @d0 (And.intro @d1 (And.intro @a0 (And.intro @bS @uB)))))
   refine ae fun _ vt _ _ => ae fun _ yP _ _ => ai fun _ ov => ?_;refine aM 3 ph ?_;refine aS ph ?_;refine ov _ (yP (some ([1,2,3,4,5,20],none)) _ (bU (vt (some ([1,2,3,4,5],none)) _ (ae fun _ vu _ _ => cj fun _ yQ _ _ _ => ae fun _ C1 _ _ => ?_))));refine u0 ([]) (fun done S => qI BB done ∧ ∃ x,jh (BA n ws 3) (fun x => Jd 3 (-5) ((0 : Nat) : Int) [aG (-5)] ++ Je (.dp (fV er 0)) x) [7,8,9,10,11] 6 cV bG (nL (.dp (fV er 0)) cV bG) done S x) (fun S => ∃ x j6 kk,S = ⟨[(1,.ptr (n + 1) 0 0),(2,.au 3 0 (ws.map c6)),(3,.au 1 0 qU),(4,.au 1 0 uR),(5,aG ((3 : Nat) : Int)),(6,jz (.dp (fV er 0)) x),(7,aG 0)],j6,kk⟩ ∧ nL (.dp (fV er 0)) cV bG x j6 kk) ?_ ?_ ?_ ?_
   ·skip
    refine ⟨uY _,⟨0,0,0,.any⟩,jh.init (fun t v h => ?_) rfl rfl⟩
    simp only [an] at h
    simp only [ak.gM,ak.e1,eL,an,reduceIte,Nat.reduceEqDiff]
    repeat' split at h
    all_goals first | (rename_i fE; subst fE; exact h) | cases h
   ·skip
    intro done S i0 ⟨aB,x,aW⟩ aA
    have lp := vS aA
    have hs := vT aA
    have dh := aW.base 1 _ rfl
    have gL := aW.base 3 _ rfl
    have lQ := aW.base 5 _ rfl
    have vK := DE aW (e := n + 1) (by omega) bS
    have c3 := fun t j v h aj => aW.mm t j v h aj
    have kE := fun x => gX (jF (.dp (fV er 0)) x)
    have dZ : i0 = 0 ∨ i0 = 1 ∨ i0 = 2 ∨ i0 = 3 ∨ i0 = 4 ∨ i0 = 5 ∨ i0 = 6 ∨ i0 = 7 ∨ i0 = 8 ∨ i0 = 9 ∨ i0 = 10 ∨ i0 = 11 := by simp at lp; omega
    rcases dZ with rfl | rfl | rfl | rfl | rfl | rfl | rfl | rfl | rfl | rfl | rfl | rfl
    ·skip
     have bb := And.intro dh vK
     refine cZ rfl fun bz aR => ?_;refine a2 bb ?_;refine bh ?_;refine aR _ ?_
     exact ⟨aB.cons aA,x,aW.put (i := 0) (t := 24) rfl rfl rfl (by decide) (fun h => by cases h)⟩
    ·skip
     have bb := gL
     refine cZ rfl fun bz aR => ?_;refine a2 bb ?_;refine aR _ ?_
     exact ⟨aB.cons aA,x,aW.put (i := 1) (t := 25) rfl rfl rfl (by decide) (fun h => by cases h)⟩
    ·skip
     have bb := lQ
     refine cZ rfl fun bz aR => ?_;refine a2 bb ?_;refine aR _ ?_
     exact ⟨aB.cons aA,x,aW.put (i := 2) (t := 26) rfl rfl rfl (by decide) (fun h => by cases h)⟩
    ·skip
     have hw := dL aA rfl
     have g1 := c3 25 1 _ rfl (hw 1 rfl)
     have bW := c3 26 2 _ rfl (hw 2 rfl)
     have bb := And.intro g1 (And.intro bW (And.intro uB oV))
     refine cZ rfl fun bz aR => ?_;refine a2 bb ?_;refine bh ?_;refine aR _ ?_
     exact ⟨aB.cons aA,x,aW.put (i := 3) (t := 27) rfl rfl rfl (by decide) (fun h => by cases h)⟩
    ·skip
     have hw := dL aA rfl
     have g1 := c3 27 3 _ rfl (hw 3 rfl)
     have bb := g1
     refine cZ rfl fun bz aR => ?_;refine a2 bb ?_;refine aR _ ?_
     exact ⟨aB.cons aA,x,aW.put (i := 4) (t := 28) rfl rfl rfl (by decide) (fun h => by cases h)⟩
    ·skip
     have hw := dL aA rfl
     have g1 := c3 28 4 _ rfl (hw 4 rfl)
     have bb := And.intro g1 uC
     refine cZ rfl fun bz aR => ?_;refine a2 bb ?_;refine aR _ ?_
     exact ⟨aB.cons aA,x,aW.put (i := 5) (t := 29) rfl rfl rfl (by decide) (fun h => by cases h)⟩
    ·have hw := dL aA rfl
     have g1 := c3 24 0 _ rfl (hw 0 rfl)
     have bW := c3 29 5 _ rfl (hw 5 rfl)
     obtain ⟨wu,j6,kk⟩ := S
     obtain ⟨a1,a7⟩ := aW.pre hs
     dsimp only at a1 a7
     subst a1 a7
     dsimp only at g1 bW
     refine cZ rfl fun bz aR => ?_;refine Or.inr (iJ (y7 _ _) (by simp only [ak.k0,ak.bg,g1,bW,ak.res,Option.map_some,Option.bind_some]) fun wb xD Bq DG oo => ?_)
     obtain ⟨l9,rfl,bJ,cf,dA,fr⟩ := oo
     refine aR _ ?_
     exact ⟨aB.cons aA,l9,aW.call2 (t := 30) hs rfl rfl rfl rfl (nL.of bJ cf dA fr)⟩
    ·skip
     have hw := dL aA rfl
     have g1 := c3 30 6 _ rfl (hw 6 rfl)
     have bb := g1
     refine cZ rfl fun bz aR => ?_;refine a2 bb ?_;refine aR _ ?_
     exact ⟨aB.cons aA,x,aW.put (i := 7) (t := 23) rfl rfl rfl (by decide) (fun _ => hw 6 rfl)⟩
    ·skip
     have hw := dL aA rfl
     have bN := aB 7 _ (hw 7 rfl) rfl 6 rfl
     have g1 := c3 23 7 _ rfl (hw 7 rfl)
     have bb := And.intro g1 (kE x)
     refine cZ rfl fun bz aR => ?_;refine a2 bb ?_;refine aR _ ?_
     exact ⟨aB.cons aA,x,aW.put (i := 8) (t := 31) rfl rfl rfl (by decide) (fun _ => bN)⟩
    ·skip
     have hw := dL aA rfl
     have bN := aB 7 _ (hw 7 rfl) rfl 6 rfl
     have g1 := c3 23 7 _ rfl (hw 7 rfl)
     have bb := And.intro g1 (kE x)
     refine cZ rfl fun bz aR => ?_;refine a2 bb ?_;refine aR _ ?_
     exact ⟨aB.cons aA,x,aW.put (i := 9) (t := 32) rfl rfl rfl (by decide) (fun _ => bN)⟩
    ·skip
     have hw := dL aA rfl
     have g1 := c3 31 8 _ rfl (hw 8 rfl)
     have bb := And.intro g1 (kE x)
     refine cZ rfl fun bz aR => ?_;refine a2 bb ?_;refine aR _ ?_
     exact ⟨aB.cons aA,x,aW.put (i := 10) (t := 6) rfl rfl rfl (by decide) (fun _ => hw 6 rfl)⟩
    ·skip
     have hw := dL aA rfl
     have g1 := c3 32 9 _ rfl (hw 9 rfl)
     have bb := g1
     refine cZ rfl fun bz aR => ?_;refine a2 bb ?_;refine aR _ ?_
     exact ⟨aB.cons aA,x,aW.put (i := 11) (t := 7) rfl rfl rfl (by decide) (fun _ => hw 6 rfl)⟩
   ·skip
    rintro done S ⟨aB,x,aW⟩ ec
    have t1 := aW.base 1 _ rfl
    have t2 := aW.base 2 _ rfl
    have t3 := aW.base 3 _ rfl
    have t4 := aW.base 4 _ rfl
    have t5 := aW.base 5 _ rfl
    have t6 := aW.mm 6 10 _ rfl (ec 10 (by decide))
    have t7 := aW.mm 7 11 _ rfl (ec 11 (by decide))
    obtain ⟨mG,ha,uz⟩ := aW.post (ec 6 (by decide))
    have kU : ∀ e,an (j1 S.O) e = an S.O e := fun e => nc _ _
    refine ⟨some ([1,2,3,4,5,6,7],none),x,j1 S.O,S.n,?_,⟨kJ.to mG (Nat.le_refl _) (kU _) (kU _),⟨ha.le,fun e he ar => (kU e).trans (ha.old e he ar)⟩,uz⟩⟩
    show ak.mk (eL S.T [1,2,3,4,5,6,7]) _ _ = _
    simp only [ak.e1,eL,t1,t2,t3,t4,t5,t6,t7]
   rintro bT ⟨x,mK,fz,rfl,eR,fi,fZ⟩
   have w8 := fi.le
   have wv : an mK n = some (.cB J) := by rw [fi.old n (by omega) (by simp)]; exact a0
   have tH : an mK (n + 1) = some (.box 25 (fu er)) := by rw [fi.old (n + 1) (by omega) (by simp)]; exact bS
   have kE := gX (jF (.dp (fV er 0)) x)
   have jS := fG fz
   have de := cW (n := fz) (d := n) (by omega)
   have cd := cW (n := fz) (d := n + 1) (by omega)
   have uC : IntKind.i64.wrap (-(-5)) = ((5 : Nat) : Int) := by decide
   have m3 := And.intro ph (And.intro @kE (And.intro @jS (And.intro @de (And.intro @cd (And.intro @wv @tH)))))
   refine C1 (some ([1,2,3,4,5,6,7],none)) _ (ae fun _ yR _ _ => ae fun _ Lk _ _ => ai fun _ yE => ?_);refine ag 3 m3 ?_;refine ag 1 m3 ?_;refine aS m3 ?_;refine yE _ (Lk (some ([1,2,3,4,5,6,7,37],none)) _ (bU ?_));refine u0 ([]) (fun done S => qI BB done ∧ ∃ x,jh (BA n ws 3) (fun x => PY 3 (-5) ((5 : Nat) : Int) [aG (-5)] ++ PZ (.ev (ij er 5)) x) [7,8,9,10,11] 6 mK fz (nL (.ev (ij er 5)) mK fz) done S x) (fun S => ∃ x j6 kk,S = ⟨[(1,.ptr (n + 1) 0 0),(2,.au 3 0 (ws.map c6)),(3,.au 1 0 qU),(4,.au 1 0 uR),(5,aG ((3 : Nat) : Int)),(6,jz (.ev (ij er 5)) x),(7,aG 0)],j6,kk⟩ ∧ nL (.ev (ij er 5)) mK fz x j6 kk) ?_ ?_ ?_ ?_
   ·skip
    refine ⟨uY _,⟨0,0,0,.any⟩,jh.init (fun t v h => ?_) rfl rfl⟩
    simp only [an] at h
    simp only [ak.gM,ak.e1,eL,an,reduceIte,Nat.reduceEqDiff]
    repeat' split at h
    all_goals first | (rename_i fE; subst fE; exact h) | cases h
   ·skip
    intro done S i0 ⟨aB,x,aW⟩ aA
    have lp := vS aA
    have hs := vT aA
    have dh := aW.base 1 _ rfl
    have gL := aW.base 3 _ rfl
    have lQ := aW.base 5 _ rfl
    have vK := DE aW (e := n + 1) (by omega) tH
    have c3 := fun t j v h aj => aW.mm t j v h aj
    have kE := fun x => gX (jF (.ev (ij er 5)) x)
    have dZ : i0 = 0 ∨ i0 = 1 ∨ i0 = 2 ∨ i0 = 3 ∨ i0 = 4 ∨ i0 = 5 ∨ i0 = 6 ∨ i0 = 7 ∨ i0 = 8 ∨ i0 = 9 ∨ i0 = 10 ∨ i0 = 11 := by simp at lp; omega
    rcases dZ with rfl | rfl | rfl | rfl | rfl | rfl | rfl | rfl | rfl | rfl | rfl | rfl
    ·skip
     have bb := And.intro dh vK
     refine cZ rfl fun bz aR => ?_;refine a2 bb ?_;refine bh ?_;refine aR _ ?_
     exact ⟨aB.cons aA,x,aW.put (i := 0) (t := 39) rfl rfl rfl (by decide) (fun h => by cases h)⟩
    ·skip
     have bb := gL
     refine cZ rfl fun bz aR => ?_;refine a2 bb ?_;refine aR _ ?_
     exact ⟨aB.cons aA,x,aW.put (i := 1) (t := 40) rfl rfl rfl (by decide) (fun h => by cases h)⟩
    ·skip
     have bb := lQ
     refine cZ rfl fun bz aR => ?_;refine a2 bb ?_;refine aR _ ?_
     exact ⟨aB.cons aA,x,aW.put (i := 2) (t := 41) rfl rfl rfl (by decide) (fun h => by cases h)⟩
    ·skip
     have hw := dL aA rfl
     have g1 := c3 40 1 _ rfl (hw 1 rfl)
     have bW := c3 41 2 _ rfl (hw 2 rfl)
     have bb := And.intro g1 (And.intro bW (And.intro uB oV))
     refine cZ rfl fun bz aR => ?_;refine a2 bb ?_;refine bh ?_;refine aR _ ?_
     exact ⟨aB.cons aA,x,aW.put (i := 3) (t := 42) rfl rfl rfl (by decide) (fun h => by cases h)⟩
    ·skip
     have hw := dL aA rfl
     have g1 := c3 42 3 _ rfl (hw 3 rfl)
     have bb := g1
     refine cZ rfl fun bz aR => ?_;refine a2 bb ?_;refine aR _ ?_
     exact ⟨aB.cons aA,x,aW.put (i := 4) (t := 43) rfl rfl rfl (by decide) (fun h => by cases h)⟩
    ·skip
     have hw := dL aA rfl
     have g1 := c3 43 4 _ rfl (hw 4 rfl)
     have bb := And.intro g1 uC
     refine cZ rfl fun bz aR => ?_;refine a2 bb ?_;refine Or.inl ⟨_,Rc,?_⟩;refine a2 bb ?_;refine aR _ ?_
     exact ⟨aB.cons aA,x,aW.put (i := 5) (t := 44) rfl rfl rfl (by decide) (fun h => by cases h)⟩
    ·have hw := dL aA rfl
     have g1 := c3 39 0 _ rfl (hw 0 rfl)
     have bW := c3 44 5 _ rfl (hw 5 rfl)
     obtain ⟨wu,j6,kk⟩ := S
     obtain ⟨a1,a7⟩ := aW.pre hs
     dsimp only at a1 a7
     subst a1 a7
     dsimp only at g1 bW
     refine cZ rfl fun bz aR => ?_;refine Or.inr (iJ (kF _ _) (by simp only [ak.k0,ak.bg,g1,bW,ak.res,Option.map_some,Option.bind_some]) fun wb xD Bq DG oo => ?_)
     obtain ⟨l9,rfl,bJ,cf,dA,fr⟩ := oo
     refine aR _ ?_
     exact ⟨aB.cons aA,l9,aW.call2 (t := 45) hs rfl rfl rfl rfl (nL.of bJ cf dA fr)⟩
    ·skip
     have hw := dL aA rfl
     have g1 := c3 45 6 _ rfl (hw 6 rfl)
     have bb := g1
     refine cZ rfl fun bz aR => ?_;refine a2 bb ?_;refine aR _ ?_
     exact ⟨aB.cons aA,x,aW.put (i := 7) (t := 38) rfl rfl rfl (by decide) (fun _ => hw 6 rfl)⟩
    ·skip
     have hw := dL aA rfl
     have bN := aB 7 _ (hw 7 rfl) rfl 6 rfl
     have g1 := c3 38 7 _ rfl (hw 7 rfl)
     have bb := And.intro g1 (kE x)
     refine cZ rfl fun bz aR => ?_;refine a2 bb ?_;refine aR _ ?_
     exact ⟨aB.cons aA,x,aW.put (i := 8) (t := 46) rfl rfl rfl (by decide) (fun _ => bN)⟩
    ·skip
     have hw := dL aA rfl
     have bN := aB 7 _ (hw 7 rfl) rfl 6 rfl
     have g1 := c3 38 7 _ rfl (hw 7 rfl)
     have bb := And.intro g1 (kE x)
     refine cZ rfl fun bz aR => ?_;refine a2 bb ?_;refine aR _ ?_
     exact ⟨aB.cons aA,x,aW.put (i := 9) (t := 47) rfl rfl rfl (by decide) (fun _ => bN)⟩
    ·skip
     have hw := dL aA rfl
     have g1 := c3 46 8 _ rfl (hw 8 rfl)
     have bb := And.intro g1 (kE x)
     refine cZ rfl fun bz aR => ?_;refine a2 bb ?_;refine aR _ ?_
     exact ⟨aB.cons aA,x,aW.put (i := 10) (t := 6) rfl rfl rfl (by decide) (fun _ => hw 6 rfl)⟩
    ·skip
     have hw := dL aA rfl
     have g1 := c3 47 9 _ rfl (hw 9 rfl)
     have bb := g1
     refine cZ rfl fun bz aR => ?_;refine a2 bb ?_;refine aR _ ?_
     exact ⟨aB.cons aA,x,aW.put (i := 11) (t := 7) rfl rfl rfl (by decide) (fun _ => hw 6 rfl)⟩
   ·skip
    rintro done S ⟨aB,x,aW⟩ ec
    have t1 := aW.base 1 _ rfl
    have t2 := aW.base 2 _ rfl
    have t3 := aW.base 3 _ rfl
    have t4 := aW.base 4 _ rfl
    have t5 := aW.base 5 _ rfl
    have t6 := aW.mm 6 10 _ rfl (ec 10 (by decide))
    have t7 := aW.mm 7 11 _ rfl (ec 11 (by decide))
    obtain ⟨mG,ha,uz⟩ := aW.post (ec 6 (by decide))
    have kU : ∀ e,an (j1 S.O) e = an S.O e := fun e => nc _ _
    refine ⟨some ([1,2,3,4,5,6,7],none),x,j1 S.O,S.n,?_,⟨kJ.to mG (Nat.le_refl _) (kU _) (kU _),⟨ha.le,fun e he ar => (kU e).trans (ha.old e he ar)⟩,uz⟩⟩
    show ak.mk (eL S.T [1,2,3,4,5,6,7]) _ _ = _
    simp only [ak.e1,eL,t1,t2,t3,t4,t5,t6,t7]
   rintro bT ⟨so,tE,oC,rfl,dI,dS,oG⟩
   have Gs := dS.le
   have Bv : an tE n = some (.cB J) := by rw [dS.old n (by omega) (by simp)]; exact wv
   have Bw : an tE (n + 1) = some (.box 25 (fu er)) := by rw [dS.old (n + 1) (by omega) (by simp)]; exact tH
   have LH := gX (jF (.ev (ij er 5)) so)
   have tY := fG oC
   have Jp := cW (n := oC) (d := n) (by omega)
   have Jq := cW (n := oC) (d := n + 1) (by omega)
   have s8 := MD oQ 0 ws (by rw [z1,hlen]; decide) (by rw [hlen]; decide) (.ev (ij er 5)) (⟨oQ,by decide⟩ : qL (ij er 5)) rfl (by rw [cC]; exact va) tE oC dI
   rw [cC,rY.1,rY.2,hlen] at s8
   generalize iy 1424 (du ws) = XU at s8 wY
   have oO := And.intro m3 (And.intro @LH (And.intro @tY (And.intro @Jp (And.intro @Jq (And.intro @Bv @Bw)))))
   refine yR (some ([1,2,3,4,5,6,7],none)) _ (ae fun _ C2 _ _ => ai fun _ CL => ?_);refine ag 1 oO ?_;refine aM 2 oO ?_;refine aM 1 oO ?_;refine Or.inr (iJ (s8) (aF oO) (fun zT AT rF gR q4 => ?_))
   obtain ⟨rfl,Gt,w6⟩ := q4
   have f0 : an rF n = some (.cB J) := by rw [w6 n (by omega) (by simp; omega)]; exact Bv
   have f1 : an rF (n + 1) = some (.box 25 (fu er)) := by rw [w6 (n + 1) (by omega) (by simp; omega)]; exact Bw
   have fD := cW (n := gR) (d := n) (by omega)
   have a1 := cW (n := gR) (d := n + 1) (by omega)
   have n2 := And.intro oO (And.intro @fD (And.intro @a1 (And.intro @f0 @f1)))
   refine aM 3 n2 ?_;refine aM 3 n2 ?_;refine al n2 ?_;refine CL _ (C2 (some ([1,3,4,5,7,8,9,10,11],none)) _ (ae fun _ Ln _ _ => ae fun _ Lo _ _ => ai fun _ CN => ?_));refine ag 2 n2 ?_;refine aM 3 n2 ?_;refine aM 3 n2 ?_;refine ag 3 n2 ?_;refine ag 1 n2 ?_;refine ag 1 n2 ?_;refine aM 3 n2 ?_;refine ag 1 n2 ?_;refine ag 2 n2 ?_;refine aM 1 n2 ?_;refine Or.inl ⟨_,JF _ _,?_⟩;refine al n2 ?_;refine CN _ (Lo (some ([1,3,4,5,8,77],none)) _ (bs (Ln (some ([1,3,4,5,8],none)) _ (ai fun _ CO => ?_))));refine al n2 ?_;refine CO _ (yQ _ (vu (some ([1,2,3,4,5],none)) _ (ai fun _ yF => ?_)));refine ag 2 n2 ?_;refine al n2 ?_;refine yF _ ?_;refine gl (6 - 4) (some ([1,2,3,4,5],none)) _ ?_ ?_
   all_goals try refine dR ?_
   ·omega
   ·refine ⟨_ + 1,_,_,_,by omega,by omega,wY,by omega,?_,?_,rfl⟩
    ·simp only [an,bq]; (repeat rw [if_neg (by omega)]); exact f0
    ·simp only [an,bq]; (repeat rw [if_neg (by omega)]); exact f1
theorem TU : cq 8 [] (eA true) := T5 (aje [] 0) rfl
end Go.Proofs.YtkmbcjnaaokilaaGreatDoor
