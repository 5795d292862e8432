/-
  ArenaApart by shadows.
-/
import Derived.Test.YtkmbcjnaaokilaaGreatDoorMK11
import Derived.Test.YtkmbcjnaaokilaaGreatDoorK12o
namespace Go.Proofs.YtkmbcjnaaokilaaGreatDoor
set_option linter.unusedSimpArgs false
set_option linter.unusedVariables false
open Go.RowKit Go.Maps
theorem ae9 {rows : List (List gq)} {m : Nat} (h : sQ rows m = false) : rows.length ≤ 4 ∧ m ≤ 250 ∧ ∀ r ∈ rows,r.length ≤ 30 := by
 unfold sQ at h
 simp only [Bool.or_eq_false_iff,decide_eq_false_iff_not,List.any_eq_false,decide_eq_true_eq] at h
 obtain ⟨af,aj,av⟩ := h
 refine ⟨by omega,by omega,fun r aA => ?_⟩
 have := af r (by rw [List.take_of_length_le (by omega)]; exact aA)
 omega
theorem akI {t b : Int} (aL : 0 ≤ t) : 1 ≤ (xC t b).threads ∧ (xC t b).threads ≤ 4 := by
 show 1 ≤ 1 + t % 4 ∧ 1 + t % 4 ≤ 4; omega
structure Pd (l : b1) (w : cN ft) (J : bl → Env → Prop) (n b : Nat) (cV : List (Nat × bo)) (bG : Nat) : Prop where
 own : lM ka w cV bG
 gA : an cV n = some (.cB J)
 bW : an cV (n + 2) = some (.box 25 (fu l))
 rV : an cV b = some (.box 63 (tL w))
 mj : ∀ e ∈ ix ka w,n + 3 ≤ e ∧ e ≠ b
 dh : n + 3 ≤ b
 dv : b < bG
def Yf (N T : Nat) (l : b1) (f0 : Int → bm) (ps : List lI) (J : bl → Env → Prop) (n b : Nat) (k : Nat) (S : ak) : Prop :=
 ∃ (i : Nat) (w : cN ft) (cV : List (Nat × bo)) (bG : Nat),i ≤ ps.length ∧ k = ps.length - i ∧ lL N l f0 w (1 + i) ∧ (∀ m,jt w m = false) ∧ w.tasks.length = T ∧ Pd l w J n b cV bG ∧
  S = ⟨[(2,.au 3 2 (ps.map wQ)),(7,.ptr (n + 2) 0 0),(8,.ptr b 0 0),(10,.au 3 0 ((iy N f0).map c6)),(11,aG i)],cV,bG⟩
def Yg (N T : Nat) (l : b1) (f0 : Int → bm) (J : bl → Env → Prop) (n b K : Nat) (k : Nat) (S : ak) : Prop :=
 ∃ (j : Nat) (w : cN ft) (cV : List (Nat × bo)) (bG : Nat),j ≤ T ∧ k = T - j ∧ lL N l f0 w (K + 120 * j) ∧ (∀ m,jt w m = false) ∧ w.tasks.length = T ∧ (∀ m,m < j → je w m = false) ∧ Pd l w J n b cV bG ∧
  S = ⟨[(7,.ptr (n + 2) 0 0),(8,.ptr b 0 0),(10,.au 3 0 ((iy N f0).map c6)),(15,aG ((j : Int) + 1))],cV,bG⟩
structure Pe (l : b1) (w : cN ft) (J : bl → Env → Prop) (n b : Nat) (cV : List (Nat × bo)) (bG : Nat) : Prop where
 gA : an cV n = some (.cB J)
 bW : an cV (n + 2) = some (.box 25 (fu l))
 rV : an cV b = some (.box 63 (tL w))
 dh : n + 3 ≤ b
 dv : b < bG
def Yh (N : Nat) (l : b1) (f0 : Int → bm) (w : cN ft) (C : List cO) (J : bl → Env → Prop) (n b : Nat) (k : Nat) (S : ak) : Prop :=
 ∃ (i : Nat) (all : List Nat) (cV : List (Nat × bo)) (bG : Nat),i ≤ w.tasks.length ∧ k = w.tasks.length - i ∧ n1 l.blocks.toNat (zj C i) all ∧ Pe l w J n b cV bG ∧
  S = ⟨[(7,.ptr (n + 2) 0 0),(8,.ptr b 0 0),(10,.au 3 0 ((iy N f0).map c6)),(18,.au 1 0 (all.map hq)),(19,aG i)],cV,bG⟩
def Yj (N : Nat) (l : b1) (f0 : Int → bm) (w : cN ft) (C : List cO) (i : Nat) (s : cO) (J : bl → Env → Prop) (n b c : Nat) (k : Nat) (S : ak) : Prop :=
 ∃ (m : Nat) (all : List Nat) (cV : List (Nat × bo)) (bG : Nat),m ≤ s.has.length ∧ k = s.has.length - m ∧ n1 l.blocks.toNat (tm C i s m) all ∧ Pe l w J n b cV bG ∧ an cV c = some (.box 72 (pr s .any)) ∧ b < c ∧ c < bG ∧
  S = ⟨[(7,.ptr (n + 2) 0 0),(8,.ptr b 0 0),(10,.au 3 0 ((iy N f0).map c6)),(18,.au 1 0 (all.map hq)),(19,aG i),(20,.ptr c 0 0),(22,aG m)],cV,bG⟩
set_option maxHeartbeats 16000000 in
set_option maxRecDepth 20000 in
theorem ai9 {t b : Int} (aL : 0 ≤ t ∧ t ≤ 255) (aI : 0 ≤ b ∧ b ≤ 255) (rows : List (List gq)) (GH : ∀ r ∈ rows,∀ o ∈ r,zV o) (ps : List lI) (O : List (Nat × bo)) (n : Nat) : gg 4 [.agg [.v (.int .u8 t),.v (.int .u8 b)],.au 1 2 (rows.map wO),.au 3 2 (ps.map wQ)] O n (fun _ r _ _ => r = eA true) := by
 refine xy Tryz.func4 amu rfl fun J => ?_
 have hid := fG n
 have afm := pa ft
 have kF := ajK 2 2 rows ps
 cases CE : sQ rows ps.length
 case true =>
  rw [CE] at kF
  unfold NS No;delta ab aQ a8 aa ay a3
  have ad := @hid
  refine ae fun bD aK b9 ck => ai fun ca aH => ?_;refine al ad ?_;refine aH _ (aK (some ([1,2,3],none)) _ (ae fun cg aP bx b8 => ae fun ch bI dd dU => ai fun cM b0 => ?_));refine aM 2 ad ?_;refine al ad ?_;refine Or.inl (Or.inl ⟨_,kF,?_⟩);refine b0 _ (bI (some ([1,2,3,25],none)) _ (bU (ae fun cG bp c5 dn => ai fun cI bE => ?_)));refine aM 1 ad ?_;refine Or.inl (Or.inl ⟨_,TU,?_⟩);refine al ad ?_;refine bE _ (bp (some ([6],none)) _ (bx _ ?_))
  first | refine gv (aF ad) (aF ad) (aF ad) ?_ | refine gu (aF ad) (aF ad) (aF ad) ?_
  try dsimp only
  rfl
 rw [CE] at kF
 obtain ⟨dd,aqO,GF⟩ := ae9 CE
 have ht := ajL (t := t) (b := b) aL aI
 have aE := akH (t := t) (b := b) aL.1 aI.1
 have Df := akI (t := t) (b := b) aL.1
 have r0 : 1 ≤ (xC t b).blocks := by show 1 ≤ 1 + b % 64; omega
 have Kz : (xC t b).blocks ≤ 64 := by show 1 + b % 64 ≤ 64; omega
 generalize xC t b = l at ht aE Df r0 Kz
 have ah4 := fun X M => ajf aE ⟨Df.1,by omega⟩ (by omega) 2 rows (fun r aA => ⟨by have := GF r aA; omega,GH r aA⟩) (by omega) X M
 obtain ⟨N,dy,Kr,Ss⟩ := lL.start aE ⟨Df.1,by omega⟩ (by omega) (rows := rows) fun r aA => ⟨GF r aA,GH r aA⟩
 have afu : (kH l rows).length ≤ 4 := by unfold kH; rw [List.length_map,List.length_take]; omega
 have RL : ∀ X M J r E5 rE,I2 l rows X M J r E5 rE → ∃ w',(lL N l (dx w'.m) w' 1 ∧ (∀ m,jt w' m = false) ∧ w'.tasks.length = (kH l rows).length) ∧ r = .bY [od w',eA true] ∧ lM ka w' E5 rE ∧ kq [] (ix ka w') X M E5 rE := by
  rintro X M J r E5 rE ⟨w',af,aj,av,aY⟩
  exact ⟨w',Ss w' af,aj,av,aY⟩
 clear Ss
 generalize (kH l rows).length = T at afu RL
 unfold NS No;delta ab aQ a8 aa ay a3
 have ad := And.intro @hid @afm
 refine ae fun bD aK b9 ck => ai fun ca aH => ?_;refine al ad ?_;refine aH _ (aK (some ([1,2,3],none)) _ (ae fun cg aP bx b8 => ae fun ch bI dd dU => ai fun cM b0 => ?_));refine aM 2 ad ?_;refine al ad ?_;refine Or.inl (Or.inl ⟨_,kF,?_⟩);refine b0 _ (bI (some ([1,2,3,25],none)) _ (bs (aP (some ([1,2,3],none)) _ (ae fun cG bp c5 dn => ai fun cI bE => ?_))));refine ag 1 ad ?_;refine ag 1 ad ?_;refine ag 1 ad ?_;refine ag 1 ad ?_;refine aM 1 ad ?_;refine Or.inl (Or.inl ⟨_,ht,?_⟩);refine aS ad ?_;refine bE _ (bp (some ([1,2,7],none)) _ (ae fun _ cv _ _ => ai fun _ aR => ?_));refine ag 1 ad ?_;refine aM 1 ad ?_;refine aM 1 ad ?_;refine Or.inr (iJ (ah4 _ _) (aF ad) (fun zT AT rF gR q4 => ?_))
 obtain ⟨w0,⟨yq,ahe,aft⟩,rfl,Gd,An⟩ := RL _ _ _ _ _ _ q4
 dsimp only at Gd An
 have aqG := An.le
 have a0 := An.at (e := n) (X := .cB J) (by omega) (by simp) (aF ad)
 have bH := An.at (e := n + 2) (X := .box 25 (fu l)) (by omega) (by simp) (aF ad)
 have af5 := fG gR
 have xB := cW (n := gR) (d := n) (by omega)
 have fi := cW (n := gR) (d := n + 2) (by omega)
 obtain ⟨S0,nf⟩ := yq.W
 have LQ := (nf.E6 yq.ok).words
 have SL : cq 23 [lS w0.m] (.au 3 0 ((iy N (dx w0.m)).map c6)) := by
  rw [← LQ]; exact Hh _ yq.ok.pU.mem (by omega)
 have RI : lL N l (dx w0.m) w0 (1 + 0) := yq
 obtain ⟨f0,RX⟩ : ∃ f0,f0 = dx w0.m := ⟨_,rfl⟩
 rw [← RX] at SL RI
 clear yq nf RX LQ
 have aD := And.intro ad (And.intro @af5 (And.intro @xB (And.intro @fi (And.intro @a0 @bH))))
 refine aM 3 aD ?_;refine ag 2 aD ?_;refine al aD ?_;refine aR _ (cv (some ([2,7,8,9],none)) _ (ae fun _ eo _ _ => ae fun _ cr _ _ => ai fun _ cD => ?_));refine al aD ?_;refine cD _ (cr (some ([2,7,8,39],none)) _ (bs (eo (some ([2,7,8],none)) _ (ae fun _ dF _ _ => ai fun _ dq => ?_))));refine ag 2 aD ?_;refine aM 1 aD ?_;refine Or.inl (Or.inl ⟨_,SL,?_⟩);refine al aD ?_;refine dq _ (dF (some ([2,7,8,10],none)) _ (ae fun _ gl _ _ => ae fun _ fF _ _ => ai fun _ eF => ?_));refine al aD ?_;refine eF _ (fF (some ([2,7,8,10,11],none)) _ (cj fun _ _ aho _ _ => ?_));refine ie (Yf N T l f0 ps J n gR) (ps.length) (some ([2,7,8,10,11],none)) ([]) ?_ ?_
 ·try refine dR ?_
  refine ⟨0,w0,_,_,by omega,rfl,RI,ahe,aft,⟨nZ Gd (by omega) fun e he => ?_,?_,?_,?_,fun e he => ?_,by omega,by omega⟩,rfl⟩
  ·have af := (An.new e he).resolve_left (by simp)
   have aj := rA Gd he
   simp only [an,bq]; repeat rw [if_neg (by omega)]
  ·simp only [an,bq]; (repeat rw [if_neg (by omega)]); exact a0
  ·simp only [an,bq]; (repeat rw [if_neg (by omega)]); exact bH
  ·simp only [an,if_true]
  ·have af := (An.new e he).resolve_left (by simp)
   have aj := rA Gd he
   omega
 ·intro k bT aW
  obtain ⟨i,w,cV,bG,aq,rfl,tU,iB,eE,fw,rfl⟩ := aW
  have il := fw.dh
  have iL := fw.dv
  have jm := fG bG
  have d0 := cW (n := bG) (d := n) (by omega)
  have d2 := cW (n := bG) (d := n + 2) (by omega)
  have wK := cW (n := bG) (d := gR) (by omega)
  have DL := zg (a := n) (b := gR) (by omega)
  have xx := zg (a := n + 2) (b := gR) (by omega)
  have gA := fw.gA
  have bW := fw.bW
  have rV := fw.rV
  have oZ : ∀ e ∈ ix ka w,n + 3 ≤ e ∧ e ≠ gR ∧ e < bG := fun e he => ⟨(fw.mj e he).1,(fw.mj e he).2,rA fw.own he⟩
  have dZ : i = ps.length ∨ ∃ p,i < ps.length ∧ ps[i]? = some p := by
   rcases Nat.lt_or_ge i ps.length with h | h
   ·exact .inr ⟨_,h,List.getElem?_eq_getElem h⟩
   ·exact .inl (by omega)
  intro _ hJ _ Gk
  rcases dZ with ea | ⟨p,ea,hp⟩
  ·skip
   have cn : ¬ (i : Int) < (ps.length : Int) := by omega
   have bc := And.intro aD (And.intro @jm (And.intro @d0 (And.intro @d2 (And.intro @wK (And.intro @DL (And.intro @xx (And.intro @gA (And.intro @bW (And.intro @rV @cn)))))))))
   refine ae fun _ _ _ yy => ae fun _ hK _ _ => ai fun _ gf => ?_;refine aM 3 bc ?_;refine aS bc ?_;refine gf _ (hK (some ([2,7,8,10,11,46],none)) _ (bs (yy 0 _ (Gk 0 _ (aho _ (gl (some ([7,8,10],none)) _ (ae fun _ iu _ _ => ae fun _ iP _ _ => ai fun _ gD => ?_)))))));refine al bc ?_;refine gD _ (iP (some ([7,8,10,15],none)) _ (cj fun _ _ aht _ _ => ?_));refine ie (Yg N T l f0 J n gR (1 + i)) (T) (some ([7,8,10,15],none)) ([]) ?_ ?_
   ·try refine dR ?_
    refine ⟨0,w,cV,bG,by omega,rfl,tU,iB,eE,fun m h => absurd h (by omega),fw,rfl⟩
   ·intro k bT aW
    obtain ⟨j,w,cV,bG,aN,rfl,tU,iB,eE,kS,fw,rfl⟩ := aW
    have il := fw.dh
    have iL := fw.dv
    have jm := fG bG
    have d0 := cW (n := bG) (d := n) (by omega)
    have d2 := cW (n := bG) (d := n + 2) (by omega)
    have wK := cW (n := bG) (d := gR) (by omega)
    have DL := zg (a := n) (b := gR) (by omega)
    have xx := zg (a := n + 2) (b := gR) (by omega)
    have gA := fw.gA
    have bW := fw.bW
    have rV := fw.rV
    have oZ : ∀ e ∈ ix ka w,n + 3 ≤ e ∧ e ≠ gR ∧ e < bG := fun e he => ⟨(fw.mj e he).1,(fw.mj e he).2,rA fw.own he⟩
    have dZ : j = T ∨ j < T := by omega
    intro _ iQ _ afN
    rcases dZ with pI | pI
    ·skip
     have cn : ¬ (j : Int) + 1 ≤ (w.tasks.length : Int) := by omega
     obtain ⟨C,hC⟩ := tU.W
     have KE : ∀ m,m < w.tasks.length → je w m = false := fun m hm => kS m (by omega)
     have Kv := hC.E6 tU.ok
     have SM : cq 23 [lS w.m] (.au 3 0 ((iy N (dx w.m)).map c6)) := by
      rw [← Kv.words]; exact Hh _ tU.ok.pU.mem (by omega)
     have xo := MF aE 0 (iy N (dx w.m)) (by rw [v3]; exact dy)
     rw [XC aE dy] at xo
     have ah3 := ajM aE r0 0 0 (iy N f0) (iy N (dx w.m)) (by rw [v3]; omega) (akX hC)
     have bt := And.intro bc (And.intro @jm (And.intro @d0 (And.intro @d2 (And.intro @wK (And.intro @DL (And.intro @xx (And.intro @gA (And.intro @bW (And.intro @rV @cn)))))))))
     refine ae fun _ _ _ afO => ae fun _ s0 _ _ => ai fun _ jU => ?_;refine ag 3 bt ?_;refine aS bt ?_;refine jU _ (s0 (some ([7,8,10,15,68],none)) _ (bs (afO 2 _ (afN 2 _ (aht _ (iu (some ([7,8,10],none)) _ (ae fun _ mw _ _ => ai fun _ mu => ?_)))))));refine al bt ?_;refine mu _ (mw (some ([7,8,10,18],none)) _ (ae fun _ kD _ _ => ae fun _ rh _ _ => ai fun _ nj => ?_));refine al bt ?_;refine nj _ (rh (some ([7,8,10,18,19],none)) _ (cj fun _ _ ahv _ _ => ?_));refine ie (Yh N l f0 w C J n gR) (w.tasks.length) (some ([7,8,10,18,19],none)) ([.slot 18 none 1]) ?_ ?_
     ·try refine dR ?_
      refine ⟨0,[],cV,bG,by omega,rfl,.nil fun c ⟨j,_,aN,_⟩ => absurd aN (by omega),⟨gA,bW,rV,il,iL⟩,rfl⟩
     ·intro k bT aW
      obtain ⟨i2,all,mK,fz,iM,rfl,ec,fo,rfl⟩ := aW
      have ah5 := fo.dh
      have ah6 := fo.dv
      have tY := fG fz
      have fD := cW (n := fz) (d := n) (by omega)
      have a7 := cW (n := fz) (d := n + 2) (by omega)
      have Qj := cW (n := fz) (d := gR) (by omega)
      have bX := fo.gA
      have k2 := fo.bW
      have mC := fo.rV
      have dZ : i2 = w.tasks.length ∨ ∃ y,i2 < w.tasks.length ∧ w.tasks[i2]? = some y := by
       rcases Nat.lt_or_ge i2 w.tasks.length with h | h
       ·exact .inr ⟨_,h,List.getElem?_eq_getElem h⟩
       ·exact .inl (by omega)
      intro _ pR _ afQ
      rcases dZ with KC | ⟨y,KC,aV⟩
      ·skip
       have v2 : ¬ (i2 : Int) < (w.tasks.length : Int) := by omega
       rw [KC] at ec
       have RP := acH (k := 0) hC KE ec
       have aqT := XB l (dx w.m)
       have SG := T8 0 0 all (p3 l (dx w.m)) (by rw [RP]; omega) (by omega)
       rw [show decide (all = p3 l (dx w.m)) = true from decide_eq_true RP] at SG
       have bB := And.intro bt (And.intro @tY (And.intro @fD (And.intro @a7 (And.intro @Qj (And.intro @bX (And.intro @k2 (And.intro @mC @v2)))))))
       refine ae fun _ _ _ afR => ae fun _ yK _ _ => ai fun _ nm => ?_;refine ag 3 bB ?_;refine aS bB ?_;refine nm _ (yK (some ([7,8,10,18,19,89],none)) _ (bs (afR 4 _ (afQ 4 _ (ahv _ (kD (some ([7,8,10,18],none)) _ (ae fun _ s3 _ _ => ?_)))))));refine gh [] (n := 13) fun _ np => ?_;refine gY ?_;refine cF 2 bB ?_;refine cF 2 bB ?_;refine gd 1 bB ?_;refine ⟨_,SM,?_⟩;refine gd 1 bB ?_;refine ⟨_,xo,?_⟩;refine gd 1 bB ?_;refine ⟨_,SG,?_⟩;refine cF 2 bB ?_;refine cF 3 bB ?_;refine lh bB ?_;refine ⟨_,SM,?_⟩;refine np _ ?_;refine gZ ?_;refine aM 1 bB ?_;refine Or.inl (Or.inl ⟨_,ah3,?_⟩);refine aM 2 bB ?_;refine aM 1 bB ?_;refine Or.inl (Or.inl ⟨_,TU,?_⟩);refine al bB ?_;refine s3 (some ([6],none)) _ ?_
       first | refine gv (aF bB) (aF bB) (aF bB) ?_ | refine gu (aF bB) (aF bB) (aF bB) ?_
       try dsimp only
       rfl
      ·skip
       have v2 : (i2 : Int) < (w.tasks.length : Int) := by omega
       have oL : IntKind.i64.wrap ((i2 : Int) + 1) = ((i2 + 1 : Nat) : Int) := by have := Kv.oT; rw [IntKind.wrap_i64]; omega
       obtain ⟨s,L,ao,aB,lz,cy,jc⟩ := Kv.get i2 y aV
       have afA := (hC.task i2 y s aV ao).bad
       have Du := TV y aB
       have ep := And.intro bt (And.intro @tY (And.intro @fD (And.intro @a7 (And.intro @Qj (And.intro @bX (And.intro @k2 (And.intro @mC (And.intro @v2 (And.intro @oL (And.intro @KC (And.intro @aV @afA)))))))))))
       refine ae fun _ yL _ _ => ae fun _ vp _ _ => ai fun _ pM => ?_;refine ag 3 ep ?_;refine aS ep ?_;refine pM _ (vp (some ([7,8,10,18,19,89],none)) _ (bU (yL (some ([7,8,10,18,19],none)) _ (ae fun _ yM _ _ => cj fun _ yN _ _ _ => ae fun _ vq _ _ => ai fun _ ra => ?_))));refine ag 2 ep ?_;refine ag 2 ep ?_;refine ag 1 ep ?_;refine aM 1 ep ?_;refine Or.inl (Or.inl ⟨_,Du,?_⟩);refine aM 3 ep ?_;refine ag 2 ep ?_;refine al ep ?_;refine ra _ (vq (some ([7,8,10,18,19,20,21],none)) _ (ae fun _ Lj _ _ => ae fun _ vr _ _ => ai fun _ vi => ?_));refine aM 3 ep ?_;refine ag 2 ep ?_;refine al ep ?_;refine vi _ (vr (some ([7,8,10,18,19,20,106],none)) _ (bs (Lj (some ([7,8,10,18,19,20],none)) _ (ae fun _ yP _ _ => ?_))))
       refine ai fun _ ov => ?_;refine al ep ?_;refine ov _ (yP (some ([7,8,10,18,19,20,22],none)) _ (cj fun _ _ ahw _ _ => ?_));refine ie (Yj N l f0 w C i2 s J n gR fz) (s.has.length) (some ([7,8,10,18,19,20,22],none)) ([]) ?_ ?_
       ·try refine dR ?_
        refine ⟨0,all,_,_,by omega,rfl,ec.imp Ue,⟨?_,?_,?_,by omega,by omega⟩,?_,by omega,by omega,rfl⟩
        ·simp only [an,bq]; (repeat rw [if_neg (by omega)]); exact bX
        ·simp only [an,bq]; (repeat rw [if_neg (by omega)]); exact k2
        ·simp only [an,bq]; (repeat rw [if_neg (by omega)]); exact mC
        ·simp only [an,if_true]
       ·intro k bT aW
        obtain ⟨m,zY,tE,oC,hm,rfl,wZ,yr,ou,afB,afH,rfl⟩ := aW
        have ah5 := yr.dh
        have ah6 := yr.dv
        have R7 := fG oC
        have zo := cW (n := oC) (d := n) (by omega)
        have dS := cW (n := oC) (d := n + 2) (by omega)
        have Ut := cW (n := oC) (d := gR) (by omega)
        have rc := cW (n := oC) (d := fz) (by omega)
        have l0 := yr.gA
        have l2 := yr.bW
        have SQ := yr.rV
        have CF := cy.len
        have dZ : m = s.has.length ∨ ∃ b,m < s.has.length ∧ s.has[m]? = some b := by
         rcases Nat.lt_or_ge m s.has.length with h | h
         ·exact .inr ⟨_,h,List.getElem?_eq_getElem h⟩
         ·exact .inl (by omega)
        intro _ yQ _ afS
        rcases dZ with KD | ⟨Jl,KD,Ky⟩
        ·skip
         have so : ¬ (m : Int) < (s.has.length : Int) := by omega
         have eh := And.intro ep (And.intro @R7 (And.intro @zo (And.intro @dS (And.intro @Ut (And.intro @rc (And.intro @l0 (And.intro @l2 (And.intro @SQ (And.intro @ou @so)))))))))
         refine ae fun _ _ _ afT => ae fun _ yR _ _ => ai fun _ vm => ?_;refine ag 3 eh ?_;refine aS eh ?_;refine vm _ (yR (some ([7,8,10,18,19,20,22,111],none)) _ (bs (afT 6 _ (afS 6 _ (ahw _ (yN _ (yM (some ([7,8,10,18,19],none)) _ (ai fun _ yE => ?_))))))));refine ag 2 eh ?_;refine al eh ?_;refine yE _ ?_;refine pR (w.tasks.length - (i2 + 1)) (some ([7,8,10,18,19],none)) _ ?_ ?_
         all_goals try refine dR ?_
         ·omega
         ·exact ⟨i2 + 1,zY,tE,oC,by omega,rfl,wZ.imp (by rw [KD]; exact Uc ao),yr,rfl⟩
        ·skip
         have so : (m : Int) < (s.has.length : Int) := by omega
         have XW : IntKind.i64.wrap ((m : Int) + 1) = ((m + 1 : Nat) : Int) := by rw [IntKind.wrap_i64]; omega
         have afD := cy.lt (List.mem_of_getElem? Ky)
         have Ku := wZ.len
         have L8 := MN 0 zY Jl (by omega)
         have gz := And.intro ep (And.intro @R7 (And.intro @zo (And.intro @dS (And.intro @Ut (And.intro @rc (And.intro @l0 (And.intro @l2 (And.intro @SQ (And.intro @ou (And.intro @so (And.intro @XW (And.intro @KD @Ky))))))))))))
         refine ae fun _ C2 _ _ => ae fun _ Lm _ _ => ai fun _ CM => ?_;refine ag 3 gz ?_;refine aS gz ?_;refine CM _ (Lm (some ([7,8,10,18,19,20,22,111],none)) _ (bU (C2 (some ([7,8,10,18,19,20,22],none)) _ (ae fun _ Lo _ _ => cj fun _ Lp _ _ _ => ai fun _ CO => ?_))));refine ag 3 gz ?_;refine ag 2 gz ?_;refine ag 1 gz ?_;refine aM 1 gz ?_;refine Or.inl (Or.inl ⟨_,L8,?_⟩);refine al gz ?_;refine CO _ (Lp _ (Lo (some ([7,8,10,18,19,20,22],none)) _ (ai fun _ yF => ?_)));refine ag 2 gz ?_;refine al gz ?_;refine yF _ ?_;refine yQ (s.has.length - (m + 1)) (some ([7,8,10,18,19,20,22],none)) _ ?_ ?_
         all_goals try refine dR ?_
         ·omega
         ·exact ⟨m + 1,_,tE,oC,by omega,rfl,wZ.put afD (Ud Ky),yr,ou,afB,afH,rfl⟩
    ·skip
     have cn : (j : Int) + 1 ≤ (w.tasks.length : Int) := by omega
     have dM : IntKind.i64.wrap ((j : Int) + 1 + 1) = ((j + 1 : Nat) : Int) + 1 := by rw [IntKind.wrap_i64]; omega
     obtain ⟨oV,sR,qj,afe,aff,afg⟩ := tU.alone Kz (m := j) (by omega) (iB j) (n := 120) (.inl (by have := ai1 Kz; omega))
     have SF := fun X M cC => TC (W := ka) w j 3000 tU.ok 120 (.inr aff) (by omega) (by omega) (iB j) X M cC
     have ct : e0 w ((j : Int) + 1) (3000 : Int).toNat = e0 w ((j : Int) + 1) 120 := afg 2880
     rw [ct,sR] at SF
     have bb := And.intro bc (And.intro @jm (And.intro @d0 (And.intro @d2 (And.intro @wK (And.intro @DL (And.intro @xx (And.intro @gA (And.intro @bW (And.intro @rV (And.intro @cn @dM))))))))))
     refine ae fun _ agz _ _ => ae fun _ Lr _ _ => ai fun _ yG => ?_;refine ag 3 bb ?_;refine aS bb ?_;refine yG _ (Lr (some ([7,8,10,15,68],none)) _ (bU (agz (some ([7,8,10,15],none)) _ (ae fun _ C3 _ _ => cj fun _ Ls _ _ _ => ae fun _ Lt _ _ => ai fun _ CP => ?_))));refine ag 1 bb ?_;refine aM 1 bb ?_;refine aM 1 bb ?_;refine Or.inr (iJ (SF _ _ fw.own) (aF bb) (fun ao8 arl aph DK afr => ?_))
     obtain ⟨fB,nU,rfl,nd,mS⟩ := afr
     dsimp only at nd mS nU
     have CW := mS.le
     have fP := mS.at (e := n) (X := .cB J) (by omega) (fun hm => absurd (oZ _ hm).1 (by omega)) (aF bb)
     have dv := mS.at (e := n + 2) (X := .box 25 (fu l)) (by omega) (fun hm => absurd (oZ _ hm).1 (by omega)) (aF bb)
     have ez := mS.at (e := gR) (X := .box 63 (tL w)) (by omega) (fun hm => (oZ _ hm).2.1 rfl) (aF bb)
     have jS := fG DK
     have de := cW (n := DK) (d := n) (by omega)
     have c2 := cW (n := DK) (d := n + 2) (by omega)
     have wF := cW (n := DK) (d := gR) (by omega)
     have sS := oV.fY nU
     have xc : ∀ m,jt fB m = false := fun m => by
      rw [Ed nU]
      unfold jt; rw [afe]; exact iB m
     have Ks : fB.tasks.length = T := by rw [rT nU,Kb,eE]
     have KE : ∀ m,m < j + 1 → je fB m = false := fun m hm => by
      rw [Dz nU]
      by_cases e : m = j
      ·subst e; exact sR
      ·have := kS m (by omega)
       unfold je at this ⊢
       rw [qj m e]; exact this
     have Ds : cq 25 [od fB] (eA true) := by
      obtain ⟨bT,qk⟩ := sS.W
      exact TT aE (qk.E6 sS.ok) dy Kr sS.ok (by omega)
     have ph := And.intro bb (And.intro @jS (And.intro @de (And.intro @c2 (And.intro @wF (And.intro @fP (And.intro @dv @ez))))))
     refine aM 3 ph ?_;refine ag 2 ph ?_;refine al ph ?_;refine CP _ (Lt (some ([7,8,10,15,16,17],none)) _ (ae fun _ C4 _ _ => ai fun _ CQ => ?_));refine ag 1 ph ?_;refine aS ph ?_;refine CQ _ (C4 (some ([7,8,10,15,17],none)) _ (ae fun _ C5 _ _ => ai fun _ K6 => ?_));refine aM 3 ph ?_;refine ag 1 ph ?_;refine aM 1 ph ?_;refine Or.inl (Or.inl ⟨_,Ds,?_⟩);refine al ph ?_;refine K6 _ (C5 (some ([7,8,10,15,84],none)) _ (bs (Ls _ (C3 (some ([7,8,10,15],none)) _ (ai fun _ K7 => ?_)))));refine ag 2 ph ?_;refine al ph ?_;refine K7 _ ?_;refine iQ (T - (j + 1)) (some ([7,8,10,15],none)) _ ?_ ?_
     all_goals try refine dR ?_
     ·omega
     ·have rj : ∀ e ∈ ix ka fB,n + 3 ≤ e ∧ e ≠ gR ∧ e < DK ∧ e ≠ bG := fun e he => by
       have aj := rA nd he
       rcases mS.new e he with h | h
       ·have := oZ e h; omega
       ·omega
      refine ⟨j + 1,fB,_,_,by omega,rfl,sS,xc,Ks,KE,⟨nZ nd (by omega) fun e he => ?_,?_,?_,?_,fun e he => ?_,by omega,by omega⟩,rfl⟩
      ·have := rj e he
       simp only [an,bq]; repeat rw [if_neg (by omega)]
      ·simp only [an,bq]; (repeat rw [if_neg (by omega)]); exact fP
      ·simp only [an,bq]; (repeat rw [if_neg (by omega)]); exact dv
      ·simp only [an,if_true]
      ·have := rj e he
       exact ⟨this.1,this.2.1⟩
  ·skip
   have cn : (i : Int) < (ps.length : Int) := by omega
   have dM : IntKind.i64.wrap ((i : Int) + 1) = ((i + 1 : Nat) : Int) := by rw [IntKind.wrap_i64]; omega
   have xn := fun X M cC => MC (W := ka) w ⟨0,p.jv,p.choice⟩ tU.ok (by omega) X M cC
   have vw : ∀ a Z,(∀ e,e < bG → an Z e = an cV e) → lM ka w ((bG,a) :: Z) (bG + 1) := fun a Z ll => nZ fw.own (by omega) fun e he => by
    have := oZ e he
    simp only [an]; rw [if_neg (by omega)]; exact ll e this.2.2
   have m3 := And.intro aD (And.intro @jm (And.intro @d0 (And.intro @d2 (And.intro @wK (And.intro @DL (And.intro @xx (And.intro @gA (And.intro @bW (And.intro @rV (And.intro @cn (And.intro @dM (And.intro @ea @hp))))))))))))
   refine ae fun _ Lu _ _ => ae fun _ Lv _ _ => ai fun _ K8 => ?_;refine aM 3 m3 ?_;refine aS m3 ?_;refine K8 _ (Lv (some ([2,7,8,10,11,46],none)) _ (bU (Lu (some ([2,7,8,10,11],none)) _ (ae fun _ agF _ _ => cj fun _ Lw _ _ _ => ae fun _ Lx _ _ => ai fun _ ago => ?_))));refine ag 3 m3 ?_;refine ag 1 m3 ?_;refine aS m3 ?_;refine ago _ (Lx (some ([2,7,8,10,11,12],none)) _ (ae fun _ agG _ _ => ai fun _ agp => ?_));refine aS m3 ?_;refine agp _ (agG (some ([2,7,8,10,11,12],none)) _ (ae fun _ C6 _ _ => ai fun _ Lb => ?_));refine ag 1 m3 ?_;refine ag 1 m3 ?_;refine aM 1 m3 ?_;refine Or.inr (iJ (xn _ _ (vw _ _ fun e c1 => by simp only [bq]; repeat rw [if_neg (by omega)])) (aF m3) (fun ao7 ark apg DJ afq => ?_))
   obtain ⟨fB,nU,rfl,nd,mS,_⟩ := afq
   dsimp only at nd mS nU
   have CW := mS.le
   have fP := mS.at (e := n) (X := .cB J) (by omega) (fun hm => absurd (oZ _ hm).1 (by omega)) (aF m3)
   have dv := mS.at (e := n + 2) (X := .box 25 (fu l)) (by omega) (fun hm => absurd (oZ _ hm).1 (by omega)) (aF m3)
   have ez := mS.at (e := gR) (X := .box 63 (tL w)) (by omega) (fun hm => (oZ _ hm).2.1 rfl) (aF m3)
   have jS := fG DJ
   have de := cW (n := DJ) (d := n) (by omega)
   have c2 := cW (n := DJ) (d := n + 2) (by omega)
   have wF := cW (n := DJ) (d := gR) (by omega)
   obtain ⟨sS,Le⟩ := tU.step ⟨0,p.jv,p.choice⟩ (by simp)
   have sS := sS.fY nU
   have xc : ∀ m,jt fB m = false := fun m => by
    rw [Ed nU]
    exact alE tU _ (by simp) m (iB m) (fun h => absurd h (by simp))
   have Ks : fB.tasks.length = T := by rw [rT nU,Le,eE]
   have Ds : cq 25 [od fB] (eA true) := by
    obtain ⟨bT,qk⟩ := sS.W
    exact TT aE (qk.E6 sS.ok) dy Kr sS.ok (by omega)
   have oO := And.intro m3 (And.intro @jS (And.intro @de (And.intro @c2 (And.intro @wF (And.intro @fP (And.intro @dv @ez))))))
   refine aM 3 oO ?_;refine ag 2 oO ?_;refine al oO ?_;refine Lb _ (C6 (some ([2,7,8,10,11,13],none)) _ (ae fun _ C7 _ _ => ai fun _ CR => ?_));refine ag 1 oO ?_;refine aS oO ?_;refine CR _ (C7 (some ([2,7,8,10,11],none)) _ (ae fun _ LA _ _ => ai fun _ agq => ?_));refine ag 1 oO ?_;refine aM 1 oO ?_;refine Or.inl (Or.inl ⟨_,Ds,?_⟩);refine al oO ?_;refine agq _ (LA (some ([2,7,8,10,11,63],none)) _ (bs (Lw _ (agF (some ([2,7,8,10,11],none)) _ (ai fun _ Lc => ?_)))));refine ag 2 oO ?_;refine al oO ?_;refine Lc _ ?_;refine hJ (ps.length - (i + 1)) (some ([2,7,8,10,11],none)) _ ?_ ?_
   all_goals try refine dR ?_
   ·omega
   ·have rj : ∀ e ∈ ix ka fB,n + 3 ≤ e ∧ e ≠ gR ∧ e < DJ ∧ e ≠ bG ∧ e ≠ bG + 1 := fun e he => by
     have aj := rA nd he
     rcases mS.new e he with h | h
     ·have := oZ e h; omega
     ·omega
    refine ⟨i + 1,fB,_,_,by omega,rfl,sS,xc,Ks,⟨nZ nd (by omega) fun e he => ?_,?_,?_,?_,fun e he => ?_,by omega,by omega⟩,rfl⟩
    ·have := rj e he
     simp only [an,bq]; repeat rw [if_neg (by omega)]
    ·simp only [an,bq]; (repeat rw [if_neg (by omega)]); exact fP
    ·simp only [an,bq]; (repeat rw [if_neg (by omega)]); exact dv
    ·simp only [an,if_true]
    ·have := rj e he
     exact ⟨this.1,this.2.1⟩
theorem ajg {t b : Int} (aL : 0 ≤ t ∧ t ≤ 255) (aI : 0 ≤ b ∧ b ≤ 255) (rows : List (List gq)) (GH : ∀ r ∈ rows,∀ o ∈ r,zV o) (ps : List lI) : cq 4 [.agg [.v (.int .u8 t),.v (.int .u8 b)],.au 1 2 (rows.map wO),.au 3 2 (ps.map wQ)] (eA true) := T5 (ai9 aL aI rows GH ps [] 0) rfl
end Go.Proofs.YtkmbcjnaaokilaaGreatDoor
