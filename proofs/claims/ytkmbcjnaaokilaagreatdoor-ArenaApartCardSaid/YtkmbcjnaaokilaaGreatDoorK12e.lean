/-
  Layer 12 by shadows: Next of the arena's codes; Take, Give, Block.
-/
import Derived.Test.YtkmbcjnaaokilaaGreatDoorK12d
namespace Go.Proofs.YtkmbcjnaaokilaaGreatDoor
set_option linter.unusedSimpArgs false
set_option linter.unusedVariables false
open Go.RowKit Go.Maps
theorem gg.mono {f : FuncId} {l : List aw} {O : List (Nat × bo)} {n : Nat} {P PE : (bl → Env → Prop) → aw → List (Nat × bo) → Nat → Prop} (h : gg f l O n P) (cb : ∀ J r O' bO,P J r O' bO → PE J r O' bO) : gg f l O n PE := by
 intro J N w0 H0 E a w H vs aO bj
 refine Calls.mono (h J N w0 H0 E a w H vs aO bj) ?_
 rintro e w' ⟨v,r,O',bO,E',H',af,aj,av⟩
 exact ⟨v,r,O',bO,E',H',af,cb _ _ _ _ aj,av⟩
theorem oM.El {O O' : List (Nat × bo)} {n bO : Nat} {R : fa × dJ × Bool} {J : bl → Env → Prop} {r : aw} (L : fO) (h : oM none O n R J r O' bO) : oM (some L) O n R J r O' bO := by
 obtain ⟨dw,af,aj,av,aY⟩ := h
 refine ⟨dw,af,aj,av.El,?_⟩
 rcases aY with h | ⟨_,h,_⟩
 ·exact .inl h
 ·cases h
theorem ael (s : hl) (ao : p9 s) (aE : E3 s) (aZ : s.fin = false) (g : ei) {L : fO} (hp : Plain L.eG) (O : List (Nat × bo)) (n : Nat) (af : L.i < n) (aj : L.g < n) (lV : L.i ≠ L.g) (av : an O L.i = some (.box 98 (qV s L.eG))) (aY : an O L.g = some (.cB (o4 L.i L.b))) :
  gg (H6 s.k) (.agg (kR g) :: [tn L.b]) O n (oM (some L) O n (ic (h6 s g))) := by
 obtain ⟨l,parts,Rz,block,err,q2,k⟩ := s
 simp only at aZ
 subst aZ
 match k with
 | 0 => exact (ajp _ ao g hp _ _ af aj av aY).mono fun _ _ _ _ h => h.El _
 | 1 => exact (ajk _ ao (aE rfl (by simp)) g hp _ _ af aj av aY).mono fun _ _ _ _ h => h.El _
 | k + 2 =>
  have e : h6 ⟨l,parts,Rz,block,err,false,k + 2⟩ g = FX ⟨l,parts,Rz,block,err,false,k + 2⟩ g := rfl
  rw [e]
  exact ajo _ ao (aE rfl (by simp)) g (L := L) hp _ _ af aj lV av aY
set_option maxHeartbeats 4000000 in
theorem TN (s : hl) (ao : p9 s) (aE : E3 s) (g : ei) {L : fO} {O : List (Nat × bo)} {n : Nat} (jP : kJ (.dp s) L O n) : gg 147 [.agg (qV s L.eG),.agg (kR g)] O n (oM (some L) O n (ic (h6 s g))) := by
 refine oF Tryz.func147 amL rfl fun J => ?_
 have hid := fG n
 have fg := gX jP.pl
 have e2 := cW jP.i
 have eQ := cW jP.g
 have aq := jP.i
 have lU := jP.g
 cases aZ : s.fin
 ·have B8 := ael s ao aE aZ g jP.pl
  have lV := jP.ne
  obtain ⟨lx,af,aj⟩ := jP.own aZ
  have hp := jP.pl
  clear jP
  obtain ⟨i,jk,b,eG⟩ := L
  simp only at lx af aj hp e2 eQ fg aq lU lV B8 ⊢
  change eG = .fn (.func (H6 s.k)) [] ([tn b]) at lx
  subst lx
  change an O i = some (.box 98 (qV s _)) at af
  unfold N0 Nw;delta ab aQ aa a3
  have ad := And.intro @hid (And.intro @e2 (And.intro @eQ (And.intro @af (And.intro @aj @aZ))))
  refine ae fun bD aK b9 ck => ai fun ca aH => ?_;refine al ad ?_;refine aH _ (aK (some ([2,3,5],none)) _ (ae fun cg aP bx b8 => ae fun ch bI dd dU => ai fun cM b0 => ?_));refine aS ad ?_;refine b0 _ (bI (some ([2,3,5,8],none)) _ (bs (aP (some ([2,3,5],none)) _ (ae fun cG bp c5 dn => ai fun cI bE => ?_))));refine ag 2 ad ?_;refine ag 1 ad ?_;refine aM 1 ad ?_;refine Or.inr (JL (B8 _ (n + 4) (by omega) (by omega) lV (aF ad) (aF ad)) (aF ad) (aF ad) (.inl ⟨[],_,rfl,adW _,rfl⟩) (fun wc xJ uK qw oq => ?_))
  obtain ⟨dw,rfl,br,bu,aZ⟩ := oq
  dsimp only at br bu aZ
  change qH (some i) _ _ _ _ at bu
  have gA := bu.at (e := n) (X := .cB J) (by omega) (by intro h; injection h; omega) (aF ad)
  have gH := bu.at (e := n + 3) (X := .box 81 n0) (by omega) (by intro h; injection h; omega) (aF ad)
  have jW := gX (jF (ic (h6 s g)).1 dw)
  have aD := And.intro ad (And.intro @gA (And.intro @gH @jW))
  refine ag 5 aD ?_;refine al aD ?_;refine bE _ (bp (some ([4,5,6],none)) _ ?_)
  first | refine gv (aF aD) (aF aD) (aF aD) ?_ | refine gu (aF aD) (aF aD) (aF aD) ?_
  try dsimp only
  refine ⟨dw,rfl,br.to (by omega) ?_ ?_,⟨by have := bu.le; omega,?_⟩,?_⟩
  ·obtain ⟨bJ,cf⟩ | ⟨_,h,bJ,cf⟩ := aZ
   ·simp only [an,bq]; repeat rw [if_neg (by omega)]
   ·cases h; simp only at bJ cf; simp only [an,bq]; repeat rw [if_neg (by omega)]
  ·obtain ⟨bJ,cf⟩ | ⟨_,h,bJ,cf⟩ := aZ
   ·simp only [an,bq]; repeat rw [if_neg (by omega)]
   ·cases h; simp only at bJ cf; simp only [an,bq]; repeat rw [if_neg (by omega)]
  ·intro e he ar
   simp only [an,bq]; repeat rw [if_neg (by omega)]
   rw [bu.old e (by omega) ar]
   simp only [an,bq]; repeat rw [if_neg (by omega)]
  ·obtain ⟨bJ,cf⟩ | ⟨_,h,bJ,cf⟩ := aZ
   ·exact .inl ⟨by omega,by omega⟩
   ·exact .inr ⟨_,h,bJ,cf⟩
 ·have bf : h6 s g = (s,hx,true) := by unfold h6; exact if_pos aZ
  rw [bf]
  unfold N0 Nw;delta ab aQ aa a3
  have ad := And.intro @hid (And.intro @fg @aZ)
  refine ae fun bD aK b9 ck => ai fun ca aH => ?_;refine al ad ?_;refine aH _ (aK (some ([2,3,5],none)) _ (ae fun cg aP bx b8 => ae fun ch bI dd dU => ai fun cM b0 => ?_));refine aS ad ?_;refine b0 _ (bI (some ([2,3,5,8],none)) _ (bU (ae fun cG bp c5 dn => ai fun cI bE => ?_)));refine ag 1 ad ?_;refine ag 4 ad ?_;refine al ad ?_;refine bE _ (bp (some ([4,5,6],none)) _ (bx _ ?_))
  first | refine gv (aF ad) (aF ad) (aF ad) ?_ | refine gu (aF ad) (aF ad) (aF ad) ?_
  try dsimp only
  refine ⟨L,by rw [show jz (ic (s,hx,true)).1 L = .ds 98 (.agg (qV s L.eG)) from rfl]; simp only [qV,aZ]; rfl,⟨by show L.i < _; omega,by show L.g < _; omega,jP.ne,jP.pl,fun h => by rw [show Ag (ic (s,hx,true)).1 = s.fin from rfl,aZ] at h; cases h⟩,⟨by omega,?_⟩,.inr ⟨_,rfl,rfl,rfl⟩⟩
  intro e he ar
  simp only [an,bq]; repeat rw [if_neg (by omega)]
theorem aek (s : ko) (ao : qL s) (aZ : s.fin = false) (g : ei) {L : fO} (hp : Plain L.eG) (O : List (Nat × bo)) (n : Nat) (af : L.i < n) (aj : L.g < n) (lV : L.i ≠ L.g) (av : an O L.i = some (.box 104 (rN s L.eG))) (aY : an O L.g = some (.cB (o4 L.i L.b))) :
  gg (F9 s.k) (.agg (kR g) :: Kg s L.b) O n (oM (some L) O n (lO (kY s g))) := by
 obtain ⟨l,block,err,q2,k⟩ := s
 simp only at aZ
 subst aZ
 match k with
 | 0 => exact aji _ ao g (L := L) hp _ _ af aj lV av aY
 | 1 => exact (ajj _ ao g hp _ _ af aj av aY).mono fun _ _ _ _ h => h.El _
 | k + 2 =>
  have e : kY ⟨l,block,err,false,k + 2⟩ g = FW ⟨l,block,err,false,k + 2⟩ g := rfl
  rw [e]
  exact ajh _ ao g (L := L) hp _ _ af aj lV av aY
set_option maxHeartbeats 4000000 in
theorem TJ (s : ko) (ao : qL s) (g : ei) {L : fO} {O : List (Nat × bo)} {n : Nat} (jP : kJ (.ev s) L O n) : gg 148 [.agg (rN s L.eG),.agg (kR g)] O n (oM (some L) O n (lO (kY s g))) := by
 refine oF Tryz.func148 amz rfl fun J => ?_
 have hid := fG n
 have fg := gX jP.pl
 have e2 := cW jP.i
 have eQ := cW jP.g
 have aq := jP.i
 have lU := jP.g
 cases aZ : s.fin
 ·have B8 := aek s ao aZ g jP.pl
  have lV := jP.ne
  obtain ⟨lx,af,aj⟩ := jP.own aZ
  have hp := jP.pl
  clear jP
  obtain ⟨i,jk,b,eG⟩ := L
  simp only at lx af aj hp e2 eQ fg aq lU lV B8 ⊢
  change eG = .fn (.func (F9 s.k)) [] (Kg s b) at lx
  subst lx
  change an O i = some (.box 104 (rN s _)) at af
  unfold NV Nr;delta ab aQ aa a3
  have ad := And.intro @hid (And.intro @e2 (And.intro @eQ (And.intro @af (And.intro @aj @aZ))))
  refine ae fun bD aK b9 ck => ai fun ca aH => ?_;refine al ad ?_;refine aH _ (aK (some ([2,3,5],none)) _ (ae fun cg aP bx b8 => ae fun ch bI dd dU => ai fun cM b0 => ?_));refine aS ad ?_;refine b0 _ (bI (some ([2,3,5,8],none)) _ (bs (aP (some ([2,3,5],none)) _ (ae fun cG bp c5 dn => ai fun cI bE => ?_))));refine ag 2 ad ?_;refine ag 1 ad ?_;refine aM 1 ad ?_;refine Or.inr (JL (B8 _ (n + 4) (by omega) (by omega) lV (aF ad) (aF ad)) (aF ad) (aF ad) (.inl ⟨[],_,rfl,adV _,rfl⟩) (fun wc xJ uK qw oq => ?_))
  obtain ⟨dw,rfl,br,bu,aZ⟩ := oq
  dsimp only at br bu aZ
  change qH (some i) _ _ _ _ at bu
  have gA := bu.at (e := n) (X := .cB J) (by omega) (by intro h; injection h; omega) (aF ad)
  have gH := bu.at (e := n + 3) (X := .box 81 n0) (by omega) (by intro h; injection h; omega) (aF ad)
  have jW := gX (jF (lO (kY s g)).1 dw)
  have aD := And.intro ad (And.intro @gA (And.intro @gH @jW))
  refine ag 5 aD ?_;refine al aD ?_;refine bE _ (bp (some ([4,5,6],none)) _ ?_)
  first | refine gv (aF aD) (aF aD) (aF aD) ?_ | refine gu (aF aD) (aF aD) (aF aD) ?_
  try dsimp only
  refine ⟨dw,rfl,br.to (by omega) ?_ ?_,⟨by have := bu.le; omega,?_⟩,?_⟩
  ·obtain ⟨bJ,cf⟩ | ⟨_,h,bJ,cf⟩ := aZ
   ·simp only [an,bq]; repeat rw [if_neg (by omega)]
   ·cases h; simp only at bJ cf; simp only [an,bq]; repeat rw [if_neg (by omega)]
  ·obtain ⟨bJ,cf⟩ | ⟨_,h,bJ,cf⟩ := aZ
   ·simp only [an,bq]; repeat rw [if_neg (by omega)]
   ·cases h; simp only at bJ cf; simp only [an,bq]; repeat rw [if_neg (by omega)]
  ·intro e he ar
   simp only [an,bq]; repeat rw [if_neg (by omega)]
   rw [bu.old e (by omega) ar]
   simp only [an,bq]; repeat rw [if_neg (by omega)]
  ·obtain ⟨bJ,cf⟩ | ⟨_,h,bJ,cf⟩ := aZ
   ·exact .inl ⟨by omega,by omega⟩
   ·exact .inr ⟨_,h,bJ,cf⟩
 ·have bf : kY s g = (s,hx,true) := by unfold kY; exact if_pos aZ
  rw [bf]
  unfold NV Nr;delta ab aQ aa a3
  have ad := And.intro @hid (And.intro @fg @aZ)
  refine ae fun bD aK b9 ck => ai fun ca aH => ?_;refine al ad ?_;refine aH _ (aK (some ([2,3,5],none)) _ (ae fun cg aP bx b8 => ae fun ch bI dd dU => ai fun cM b0 => ?_));refine aS ad ?_;refine b0 _ (bI (some ([2,3,5,8],none)) _ (bU (ae fun cG bp c5 dn => ai fun cI bE => ?_)));refine ag 1 ad ?_;refine ag 4 ad ?_;refine al ad ?_;refine bE _ (bp (some ([4,5,6],none)) _ (bx _ ?_))
  first | refine gv (aF ad) (aF ad) (aF ad) ?_ | refine gu (aF ad) (aF ad) (aF ad) ?_
  try dsimp only
  refine ⟨L,by rw [show jz (lO (s,hx,true)).1 L = .ds 104 (.agg (rN s L.eG)) from rfl]; simp only [rN,aZ]; rfl,⟨by show L.i < _; omega,by show L.g < _; omega,jP.ne,jP.pl,fun h => by rw [show Ag (lO (s,hx,true)).1 = s.fin from rfl,aZ] at h; cases h⟩,⟨by omega,?_⟩,.inr ⟨_,rfl,rfl,rfl⟩⟩
  intro e he ar
  simp only [an,bq]; repeat rw [if_neg (by omega)]
def fV (l : b1) (a : Nat) : hl := ⟨l,lC l.blocks.toNat a,0,0,0,false,0⟩
def ij (l : b1) (b : Nat) : ko := ⟨l,b,0,false,0⟩
def Ps (O : List (Nat × bo)) (n : Nat) (s : fa) (_ : bl → Env → Prop) (r : aw) (O' : List (Nat × bo)) (bO : Nat) : Prop :=
 ∃ dw,r = .bY [jz s dw,aG 0] ∧ kJ s dw O' bO ∧ qH none O n O' bO ∧ n < dw.i ∧ n < dw.g
theorem OG {l : b1} (aE : e4 l = 0) {a : Nat} (a5 : (a : Int) < l.blocks) : p9 (fV l a) ∧ E3 (fV l a) := by
 have aI := (kb aE).1.2.2
 refine ⟨⟨aE,by show (0 : Nat) ≠ 1; decide,fun p hp => ?_⟩,fun _ h => absurd rfl h⟩
 have hp : p ∈ lC l.blocks.toNat a := hp
 unfold lC at hp
 rcases List.mem_append.1 hp with h | h
 ·have := zC _ _ h
  exact ⟨this.1,by show (p.2 : Int) ≤ l.blocks; omega⟩
 ·have := zC _ _ h
  exact ⟨this.1,by show (p.2 : Int) ≤ l.blocks; omega⟩
set_option maxHeartbeats 4000000 in
theorem Hg {l : b1} (aE : e4 l = 0) (a : Nat) (a5 : (a : Int) < l.blocks) (O : List (Nat × bo)) (n : Nat) : gg 12 [.agg (fu l),aG a] O n (Ps O n (.dp (fV l a))) := by
 refine oF Tryz.func12 amM rfl fun J => ?_
 have hid := fG n
 have aI := (kb aE).1.2.2
 have bX := TH l a
 rw [if_pos aE,if_pos ⟨by omega,a5⟩] at bX
 have cL := ajn l.blocks.toNat a (by omega) (by omega)
 rw [show ((l.blocks.toNat : Nat) : Int) = l.blocks by omega] at cL
 unfold fV
 generalize lC l.blocks.toNat a = ps at cL ⊢
 unfold V0 UR;delta ab aQ aa ay
 have ad := @hid
 refine ae fun _ aK _ _ => ai fun _ aH => ?_;refine al ad ?_;refine aH _ (aK (some ([1,2],none)) _ (ae fun _ aP _ _ => ae fun _ bI _ _ => ai fun _ b0 => ?_));refine ag 1 ad ?_;refine aM 1 ad ?_;refine aM 1 ad ?_;refine Or.inl (Or.inl ⟨_,bX,?_⟩);refine al ad ?_;refine b0 _ (bI (some ([1,2,6],none)) _ (ae fun _ bp _ _ => ai fun _ bE => ?_));refine aS ad ?_;refine bE _ (bp (some ([1,2,6,12],none)) _ (bs (aP (some ([1,2],none)) _ (ae fun _ cv _ _ => ?_))));refine gh [] (n := 7) fun _ aR => ?_;refine gY ?_;refine cF 1 ad ?_;refine cF 2 ad ?_;refine gd 1 ad ?_;refine gd 1 ad ?_;refine ⟨_,cL,?_⟩;refine lh ad ?_;refine aR _ ?_;refine gZ ?_;refine aS ad ?_;refine cv (some ([7],none)) _ (ae fun _ cr _ _ => ?_);refine qZ [(0,[.xH (n + 2),.xQ 7 (n + 3)]),(1,[.raw 7 (n + 3)])] ([]) fun _ cD => ?_
 refine rR ?_;refine B2 (aF ad) fun b => ?_;refine B3 (i := n + 2) (b := b) (off := 0) (aF ad) (aF ad) ?_;refine nT ?_;refine qh fun _ ew => ?_;refine al ad ?_;refine ew _ ?_;refine q1 (i := n + 2) (b := b) (off := 0) (aF ad) (aF ad) ?_;refine nT ?_;refine q0 ?_;refine aS ad ?_;refine cD _ (cr (some ([7],none)) _ (ae fun _ fx _ _ => ai fun _ eJ => ?_));refine ag 1 ad ?_;refine al ad ?_;refine eJ _ (fx (some ([4,5],none)) _ ?_)
 first | refine gv (aF ad) (aF ad) (aF ad) ?_ | refine gu (aF ad) (aF ad) (aF ad) ?_
 try dsimp only
 refine ⟨⟨n + 2,n + 3,b,_⟩,rfl,⟨by show n + 2 < _; omega,by show n + 3 < _; omega,by show n + 2 ≠ n + 3; omega,plain_fn _ _ _,fun _ => ⟨rfl,?_,?_⟩⟩,⟨by omega,yn⟩,by show n < n + 2; omega,by show n < n + 3; omega⟩
 ·exact aF ad
 ·exact aF ad
set_option maxHeartbeats 4000000 in
theorem ME {l : b1} (aE : e4 l = 0) (a : Nat) (a5 : (a : Int) < l.blocks) (O : List (Nat × bo)) (n : Nat) : gg 13 [.agg (fu l),aG a] O n (Ps O n (.ev (ij l a))) := by
 refine oF Tryz.func13 amA rfl fun J => ?_
 have hid := fG n
 have bX := TH l a
 rw [if_pos aE,if_pos ⟨by omega,a5⟩] at bX
 have cL := xz aE a a5
 unfold ij
 unfold VT UK;delta ab aQ aa ay
 have ad := @hid
 refine ae fun _ aK _ _ => ai fun _ aH => ?_;refine al ad ?_;refine aH _ (aK (some ([1,2],none)) _ (ae fun _ aP _ _ => ae fun _ bI _ _ => ai fun _ b0 => ?_));refine ag 1 ad ?_;refine aM 1 ad ?_;refine aM 1 ad ?_;refine Or.inl (Or.inl ⟨_,bX,?_⟩);refine al ad ?_;refine b0 _ (bI (some ([1,2,6],none)) _ (ae fun _ bp _ _ => ai fun _ bE => ?_));refine aS ad ?_;refine bE _ (bp (some ([1,2,6,14],none)) _ (bs (aP (some ([1,2],none)) _ (ae fun _ cv _ _ => ai fun _ aR => ?_))));refine ag 1 ad ?_;refine aS ad ?_;refine aR _ (cv (some ([1,2,7],none)) _ (ae fun _ eo _ _ => ai fun _ fe => ?_));refine ag 1 ad ?_;refine aM 1 ad ?_;refine aM 1 ad ?_;refine Or.inl (Or.inl ⟨_,cL,?_⟩);refine ag 5 ad ?_;refine al ad ?_;refine fe _ (eo (some ([7,8],none)) _ ?_)
 refine ae fun _ ff _ _ => ?_;refine qZ [(0,[.xH (n + 2),.xQ 7 (n + 4)]),(1,[.raw 7 (n + 4)])] ([]) fun _ ew => ?_;refine rR ?_;refine B2 (aF ad) fun b => ?_;refine B3 (i := n + 2) (b := b) (off := 0) (aF ad) (aF ad) ?_;refine nT ?_;refine qh fun _ dq => ?_;refine al ad ?_;refine dq _ ?_;refine q1 (i := n + 2) (b := b) (off := 0) (aF ad) (aF ad) ?_;refine nT ?_;refine q0 ?_;refine aS ad ?_;refine ew _ (ff (some ([7],none)) _ (ae fun _ gl _ _ => ai fun _ gC => ?_));refine ag 1 ad ?_;refine al ad ?_;refine gC _ (gl (some ([4,5],none)) _ ?_)
 first | refine gv (aF ad) (aF ad) (aF ad) ?_ | refine gu (aF ad) (aF ad) (aF ad) ?_
 try dsimp only
 refine ⟨⟨n + 2,n + 4,b,_⟩,rfl,⟨by show n + 2 < _; omega,by show n + 4 < _; omega,by show n + 2 ≠ n + 4; omega,plain_fn _ _ _,fun _ => ⟨rfl,?_,?_⟩⟩,⟨by omega,yn⟩,by show n < n + 2; omega,by show n < n + 4; omega⟩
 ·exact aF ad
 ·exact aF ad
end Go.Proofs.YtkmbcjnaaokilaaGreatDoor
