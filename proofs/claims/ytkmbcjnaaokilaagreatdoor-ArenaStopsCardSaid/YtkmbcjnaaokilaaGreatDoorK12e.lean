/-
  Layer 12 by shadows: Next of the arena's codes; Take, Give, Block.
-/
import Derived.Test.YtkmbcjnaaokilaaGreatDoorK12d
namespace Go.Proofs.YtkmbcjnaaokilaaGreatDoor
set_option linter.unusedSimpArgs false
set_option linter.unusedVariables false
open Go.RowKit Go.Maps
theorem fv.mono {f : FuncId} {l : List av} {O : List (Nat × bl)} {n : Nat} {P MK : (bg → Env → Prop) → av → List (Nat × bl) → Nat → Prop} (h : fv f l O n P) (bV : ∀ J r O' bI,P J r O' bI → MK J r O' bI) : fv f l O n MK := by
 intro J N w0 H0 E a w H vs aN bj
 refine Calls.mono (h J N w0 H0 E a w H vs aN bj) ?_
 rintro e w' ⟨v,r,O',bI,E',H',af,aj,aw⟩
 exact ⟨v,r,O',bI,E',H',af,bV _ _ _ _ aj,aw⟩
theorem nS.CF {O O' : List (Nat × bl)} {n bI : Nat} {R : e5 × dB × Bool} {J : bg → Env → Prop} {r : av} (L : fF) (h : nS none O n R J r O' bI) : nS (some L) O n R J r O' bI := by
 obtain ⟨du,af,aj,aw,aV⟩ := h
 refine ⟨du,af,aj,aw.CF,?_⟩
 rcases aV with h | ⟨_,h,_⟩
 ·exact .inl h
 ·cases h
theorem aaV (s : g8) (ao : o7 s) (aF : Dm s) (aW : s.fin = false) (g : dW) {L : fF} (hp : Plain L.er) (O : List (Nat × bl)) (n : Nat) (af : L.i < n) (aj : L.g < n) (ll : L.i ≠ L.g) (aw : al O L.i = some (.box 98 (pU s L.er))) (aV : al O L.g = some (.cq (od L.i L.b))) :
  fv (F7 s.k) (.agg (kz g) :: [si L.b]) O n (nS (some L) O n (hZ (hU s g))) := by
 obtain ⟨l,parts,OL,block,err,pZ,k⟩ := s
 simp only at aW
 subst aW
 match k with
 | 0 => exact (afQ _ ao g hp _ _ af aj aw aV).mono fun _ _ _ _ h => h.CF _
 | 1 => exact (afL _ ao (aF rfl (by simp)) g hp _ _ af aj aw aV).mono fun _ _ _ _ h => h.CF _
 | k + 2 =>
  have e : hU ⟨l,parts,OL,block,err,false,k + 2⟩ g = DU ⟨l,parts,OL,block,err,false,k + 2⟩ g := rfl
  rw [e]
  exact afP _ ao (aF rfl (by simp)) g (L := L) hp _ _ af aj ll aw aV
set_option maxHeartbeats 4000000 in
theorem QN (s : g8) (ao : o7 s) (aF : Dm s) (g : dW) {L : fF} {O : List (Nat × bl)} {n : Nat} (jA : ko (.c9 s) L O n) : fv 147 [.agg (pU s L.er),.agg (kz g)] O n (nS (some L) O n (hZ (hU s g))) := by
 refine nJ Tryz.func147 ai8 rfl fun J => ?_
 have hid := fE n
 have fa := gO jA.pl
 have eX := c3 jA.i
 have eI := c3 jA.g
 have aq := jA.i
 have lk := jA.g
 cases aW : s.fin
 ·have Au := aaV s ao aF aW g jA.pl
  have ll := jA.ne
  obtain ⟨k0,af,aj⟩ := jA.own aW
  have hp := jA.pl
  clear jA
  obtain ⟨i,jx,b,er⟩ := L
  simp only at k0 af aj hp eX eI fa aq lk ll Au ⊢
  change er = .fn (.func (F7 s.k)) [] ([si b]) at k0
  subst k0
  change al O i = some (.box 98 (pU s _)) at af
  unfold Lm KU;delta ab aR aa a6
  have ad := And.intro @hid (And.intro @eX (And.intro @eI (And.intro @af (And.intro @aj @aW))))
  refine ae fun bz aK b6 cb => ai fun b7 aG => ?_;refine an ad ?_;refine aG _ (aK (some ([2,3,5],none)) _ (ae fun b8 aQ bt b5 => ae fun b9 bG c7 dF => ai fun cD bZ => ?_));refine aU ad ?_;refine bZ _ (bG (some ([2,3,5,8],none)) _ (bB (aQ (some ([2,3,5],none)) _ (ae fun cv bp cY dk => ai fun cC bD => ?_))));refine ag 2 ad ?_;refine ag 1 ad ?_;refine aL 1 ad ?_;refine Or.inr (Hv (Au _ (n + 4) (by omega) (by omega) ll (aE ad) (aE ad)) (aE ad) (aE ad) (.inl ⟨[],_,rfl,aav _,rfl⟩) (fun uR vW tt px nw => ?_))
  obtain ⟨du,rfl,br,bs,aW⟩ := nw
  dsimp only at br bs aW
  change pH (some i) _ _ _ _ at bs
  have fC := bs.at (e := n) (X := .cq J) (by omega) (by intro h; injection h; omega) (aE ad)
  have gy := bs.at (e := n + 3) (X := .box 81 nh) (by omega) (by intro h; injection h; omega) (aE ad)
  have jG := gO (jq (hZ (hU s g)).1 du)
  have aD := And.intro ad (And.intro @fC (And.intro @gy @jG))
  refine ag 5 aD ?_;refine an aD ?_;refine bD _ (bp (some ([4,5,6],none)) _ ?_)
  first | refine gd (aE aD) (aE aD) (aE aD) ?_ | refine gb (aE aD) (aE aD) (aE aD) ?_
  try dsimp only
  refine ⟨du,rfl,br.to (by omega) ?_ ?_,⟨by have := bs.le; omega,?_⟩,?_⟩
  ·obtain ⟨bL,cd⟩ | ⟨_,h,bL,cd⟩ := aW
   ·simp only [al,bn]; repeat rw [if_neg (by omega)]
   ·cases h; simp only at bL cd; simp only [al,bn]; repeat rw [if_neg (by omega)]
  ·obtain ⟨bL,cd⟩ | ⟨_,h,bL,cd⟩ := aW
   ·simp only [al,bn]; repeat rw [if_neg (by omega)]
   ·cases h; simp only at bL cd; simp only [al,bn]; repeat rw [if_neg (by omega)]
  ·intro e he ar
   simp only [al,bn]; repeat rw [if_neg (by omega)]
   rw [bs.old e (by omega) ar]
   simp only [al,bn]; repeat rw [if_neg (by omega)]
  ·obtain ⟨bL,cd⟩ | ⟨_,h,bL,cd⟩ := aW
   ·exact .inl ⟨by omega,by omega⟩
   ·exact .inr ⟨_,h,bL,cd⟩
 ·have ba : hU s g = (s,hi,true) := by unfold hU; exact if_pos aW
  rw [ba]
  unfold Lm KU;delta ab aR aa a6
  have ad := And.intro @hid (And.intro @fa @aW)
  refine ae fun bz aK b6 cb => ai fun b7 aG => ?_;refine an ad ?_;refine aG _ (aK (some ([2,3,5],none)) _ (ae fun b8 aQ bt b5 => ae fun b9 bG c7 dF => ai fun cD bZ => ?_));refine aU ad ?_;refine bZ _ (bG (some ([2,3,5,8],none)) _ (bY (ae fun cv bp cY dk => ai fun cC bD => ?_)));refine ag 1 ad ?_;refine ag 4 ad ?_;refine an ad ?_;refine bD _ (bp (some ([4,5,6],none)) _ (bt _ ?_))
  first | refine gd (aE ad) (aE ad) (aE ad) ?_ | refine gb (aE ad) (aE ad) (aE ad) ?_
  try dsimp only
  refine ⟨L,by rw [show jk (hZ (s,hi,true)).1 L = .dr 98 (.agg (pU s L.er)) from rfl]; simp only [pU,aW]; rfl,⟨by show L.i < _; omega,by show L.g < _; omega,jA.ne,jA.pl,fun h => by rw [show yz (hZ (s,hi,true)).1 = s.fin from rfl,aW] at h; cases h⟩,⟨by omega,?_⟩,.inr ⟨_,rfl,rfl,rfl⟩⟩
  intro e he ar
  simp only [al,bn]; repeat rw [if_neg (by omega)]
theorem aaU (s : j2) (ao : pJ s) (aW : s.fin = false) (g : dW) {L : fF} (hp : Plain L.er) (O : List (Nat × bl)) (n : Nat) (af : L.i < n) (aj : L.g < n) (ll : L.i ≠ L.g) (aw : al O L.i = some (.box 104 (qI s L.er))) (aV : al O L.g = some (.cq (od L.i L.b))) :
  fv (D4 s.k) (.agg (kz g) :: H3 s L.b) O n (nS (some L) O n (lf (kI s g))) := by
 obtain ⟨l,block,err,pZ,k⟩ := s
 simp only at aW
 subst aW
 match k with
 | 0 => exact afJ _ ao g (L := L) hp _ _ af aj ll aw aV
 | 1 => exact (afK _ ao g hp _ _ af aj aw aV).mono fun _ _ _ _ h => h.CF _
 | k + 2 =>
  have e : kI ⟨l,block,err,false,k + 2⟩ g = DT ⟨l,block,err,false,k + 2⟩ g := rfl
  rw [e]
  exact afI _ ao g (L := L) hp _ _ af aj ll aw aV
set_option maxHeartbeats 4000000 in
theorem QJ (s : j2) (ao : pJ s) (g : dW) {L : fF} {O : List (Nat × bl)} {n : Nat} (jA : ko (.ec s) L O n) : fv 148 [.agg (qI s L.er),.agg (kz g)] O n (nS (some L) O n (lf (kI s g))) := by
 refine nJ Tryz.func148 aiW rfl fun J => ?_
 have hid := fE n
 have fa := gO jA.pl
 have eX := c3 jA.i
 have eI := c3 jA.g
 have aq := jA.i
 have lk := jA.g
 cases aW : s.fin
 ·have Au := aaU s ao aW g jA.pl
  have ll := jA.ne
  obtain ⟨k0,af,aj⟩ := jA.own aW
  have hp := jA.pl
  clear jA
  obtain ⟨i,jx,b,er⟩ := L
  simp only at k0 af aj hp eX eI fa aq lk ll Au ⊢
  change er = .fn (.func (D4 s.k)) [] (H3 s b) at k0
  subst k0
  change al O i = some (.box 104 (qI s _)) at af
  unfold Lh KP;delta ab aR aa a6
  have ad := And.intro @hid (And.intro @eX (And.intro @eI (And.intro @af (And.intro @aj @aW))))
  refine ae fun bz aK b6 cb => ai fun b7 aG => ?_;refine an ad ?_;refine aG _ (aK (some ([2,3,5],none)) _ (ae fun b8 aQ bt b5 => ae fun b9 bG c7 dF => ai fun cD bZ => ?_));refine aU ad ?_;refine bZ _ (bG (some ([2,3,5,8],none)) _ (bB (aQ (some ([2,3,5],none)) _ (ae fun cv bp cY dk => ai fun cC bD => ?_))));refine ag 2 ad ?_;refine ag 1 ad ?_;refine aL 1 ad ?_;refine Or.inr (Hv (Au _ (n + 4) (by omega) (by omega) ll (aE ad) (aE ad)) (aE ad) (aE ad) (.inl ⟨[],_,rfl,aau _,rfl⟩) (fun uR vW tt px nw => ?_))
  obtain ⟨du,rfl,br,bs,aW⟩ := nw
  dsimp only at br bs aW
  change pH (some i) _ _ _ _ at bs
  have fC := bs.at (e := n) (X := .cq J) (by omega) (by intro h; injection h; omega) (aE ad)
  have gy := bs.at (e := n + 3) (X := .box 81 nh) (by omega) (by intro h; injection h; omega) (aE ad)
  have jG := gO (jq (lf (kI s g)).1 du)
  have aD := And.intro ad (And.intro @fC (And.intro @gy @jG))
  refine ag 5 aD ?_;refine an aD ?_;refine bD _ (bp (some ([4,5,6],none)) _ ?_)
  first | refine gd (aE aD) (aE aD) (aE aD) ?_ | refine gb (aE aD) (aE aD) (aE aD) ?_
  try dsimp only
  refine ⟨du,rfl,br.to (by omega) ?_ ?_,⟨by have := bs.le; omega,?_⟩,?_⟩
  ·obtain ⟨bL,cd⟩ | ⟨_,h,bL,cd⟩ := aW
   ·simp only [al,bn]; repeat rw [if_neg (by omega)]
   ·cases h; simp only at bL cd; simp only [al,bn]; repeat rw [if_neg (by omega)]
  ·obtain ⟨bL,cd⟩ | ⟨_,h,bL,cd⟩ := aW
   ·simp only [al,bn]; repeat rw [if_neg (by omega)]
   ·cases h; simp only at bL cd; simp only [al,bn]; repeat rw [if_neg (by omega)]
  ·intro e he ar
   simp only [al,bn]; repeat rw [if_neg (by omega)]
   rw [bs.old e (by omega) ar]
   simp only [al,bn]; repeat rw [if_neg (by omega)]
  ·obtain ⟨bL,cd⟩ | ⟨_,h,bL,cd⟩ := aW
   ·exact .inl ⟨by omega,by omega⟩
   ·exact .inr ⟨_,h,bL,cd⟩
 ·have ba : kI s g = (s,hi,true) := by unfold kI; exact if_pos aW
  rw [ba]
  unfold Lh KP;delta ab aR aa a6
  have ad := And.intro @hid (And.intro @fa @aW)
  refine ae fun bz aK b6 cb => ai fun b7 aG => ?_;refine an ad ?_;refine aG _ (aK (some ([2,3,5],none)) _ (ae fun b8 aQ bt b5 => ae fun b9 bG c7 dF => ai fun cD bZ => ?_));refine aU ad ?_;refine bZ _ (bG (some ([2,3,5,8],none)) _ (bY (ae fun cv bp cY dk => ai fun cC bD => ?_)));refine ag 1 ad ?_;refine ag 4 ad ?_;refine an ad ?_;refine bD _ (bp (some ([4,5,6],none)) _ (bt _ ?_))
  first | refine gd (aE ad) (aE ad) (aE ad) ?_ | refine gb (aE ad) (aE ad) (aE ad) ?_
  try dsimp only
  refine ⟨L,by rw [show jk (lf (s,hi,true)).1 L = .dr 104 (.agg (qI s L.er)) from rfl]; simp only [qI,aW]; rfl,⟨by show L.i < _; omega,by show L.g < _; omega,jA.ne,jA.pl,fun h => by rw [show yz (lf (s,hi,true)).1 = s.fin from rfl,aW] at h; cases h⟩,⟨by omega,?_⟩,.inr ⟨_,rfl,rfl,rfl⟩⟩
  intro e he ar
  simp only [al,bn]; repeat rw [if_neg (by omega)]
def fJ (l : cc) (a : Nat) : g8 := ⟨l,k5 l.blocks.toNat a,0,0,0,false,0⟩
def h2 (l : cc) (b : Nat) : j2 := ⟨l,b,0,false,0⟩
def MG (O : List (Nat × bl)) (n : Nat) (s : e5) (_ : bg → Env → Prop) (r : av) (O' : List (Nat × bl)) (bI : Nat) : Prop :=
 ∃ du,r = .bR [jk s du,aI 0] ∧ ko s du O' bI ∧ pH none O n O' bI ∧ n < du.i ∧ n < du.g
theorem LW {l : cc} (aF : fj l = 0) {a : Nat} (aZ : (a : Int) < l.blocks) : o7 (fJ l a) ∧ Dm (fJ l a) := by
 have aJ := (ku aF).1.2.2
 refine ⟨⟨aF,by show (0 : Nat) ≠ 1; decide,fun p hp => ?_⟩,fun _ h => absurd rfl h⟩
 have hp : p ∈ k5 l.blocks.toNat a := hp
 unfold k5 at hp
 rcases List.mem_append.1 hp with h | h
 ·have := xW _ _ h
  exact ⟨this.1,by show (p.2 : Int) ≤ l.blocks; omega⟩
 ·have := xW _ _ h
  exact ⟨this.1,by show (p.2 : Int) ≤ l.blocks; omega⟩
set_option maxHeartbeats 4000000 in
theorem Ff {l : cc} (aF : fj l = 0) (a : Nat) (aZ : (a : Int) < l.blocks) (O : List (Nat × bl)) (n : Nat) : fv 12 [.agg (fe l),aI a] O n (MG O n (.c9 (fJ l a))) := by
 refine nJ Tryz.func12 ai9 rfl fun J => ?_
 have hid := fE n
 have aJ := (ku aF).1.2.2
 have b2 := QH l a
 rw [if_pos aF,if_pos ⟨by omega,aZ⟩] at b2
 have cy := afO l.blocks.toNat a (by omega) (by omega)
 rw [show ((l.blocks.toNat : Nat) : Int) = l.blocks by omega] at cy
 unfold fJ
 generalize k5 l.blocks.toNat a = ps at cy ⊢
 unfold SL RG;delta ab aR aa aA
 have ad := @hid
 refine ae fun _ aK _ _ => ai fun _ aG => ?_;refine an ad ?_;refine aG _ (aK (some ([1,2],none)) _ (ae fun _ aQ _ _ => ae fun _ bG _ _ => ai fun _ bZ => ?_));refine ag 1 ad ?_;refine aL 1 ad ?_;refine aL 1 ad ?_;refine Or.inl (Or.inl ⟨_,b2,?_⟩);refine an ad ?_;refine bZ _ (bG (some ([1,2,6],none)) _ (ae fun _ bp _ _ => ai fun _ bD => ?_));refine aU ad ?_;refine bD _ (bp (some ([1,2,6,12],none)) _ (bB (aQ (some ([1,2],none)) _ (ae fun _ ck _ _ => ?_))));refine hy [] (n := 7) fun _ aP => ?_;refine hv ?_;refine cR 1 ad ?_;refine cR 2 ad ?_;refine gj 1 ad ?_;refine gj 1 ad ?_;refine ⟨_,cy,?_⟩;refine lJ ad ?_;refine aP _ ?_;refine hx ?_;refine aU ad ?_;refine ck (some ([7],none)) _ (ae fun _ ct _ _ => ?_);refine pW [(0,[.vV (n + 2),.wa 7 (n + 3)]),(1,[.raw 7 (n + 3)])] ([]) fun _ cG => ?_
 refine qL ?_;refine As (aE ad) fun b => ?_;refine At (i := n + 2) (b := b) (off := 0) (aE ad) (aE ad) ?_;refine m7 ?_;refine yu fun _ ed => ?_;refine an ad ?_;refine ed _ ?_;refine pY (i := n + 2) (b := b) (off := 0) (aE ad) (aE ad) ?_;refine m7 ?_;refine pX ?_;refine aU ad ?_;refine cG _ (ct (some ([7],none)) _ (ae fun _ fQ _ _ => ai fun _ eB => ?_));refine ag 1 ad ?_;refine an ad ?_;refine eB _ (fQ (some ([4,5],none)) _ ?_)
 first | refine gd (aE ad) (aE ad) (aE ad) ?_ | refine gb (aE ad) (aE ad) (aE ad) ?_
 try dsimp only
 refine ⟨⟨n + 2,n + 3,b,_⟩,rfl,⟨by show n + 2 < _; omega,by show n + 3 < _; omega,by show n + 2 ≠ n + 3; omega,plain_fn _ _ _,fun _ => ⟨rfl,?_,?_⟩⟩,⟨by omega,wL⟩,by show n < n + 2; omega,by show n < n + 3; omega⟩
 ·exact aE ad
 ·exact aE ad
set_option maxHeartbeats 4000000 in
theorem J8 {l : cc} (aF : fj l = 0) (a : Nat) (aZ : (a : Int) < l.blocks) (O : List (Nat × bl)) (n : Nat) : fv 13 [.agg (fe l),aI a] O n (MG O n (.ec (h2 l a))) := by
 refine nJ Tryz.func13 aiX rfl fun J => ?_
 have hid := fE n
 have b2 := QH l a
 rw [if_pos aF,if_pos ⟨by omega,aZ⟩] at b2
 have cy := y2 aF a aZ
 unfold h2
 unfold SE Rz;delta ab aR aa aA
 have ad := @hid
 refine ae fun _ aK _ _ => ai fun _ aG => ?_;refine an ad ?_;refine aG _ (aK (some ([1,2],none)) _ (ae fun _ aQ _ _ => ae fun _ bG _ _ => ai fun _ bZ => ?_));refine ag 1 ad ?_;refine aL 1 ad ?_;refine aL 1 ad ?_;refine Or.inl (Or.inl ⟨_,b2,?_⟩);refine an ad ?_;refine bZ _ (bG (some ([1,2,6],none)) _ (ae fun _ bp _ _ => ai fun _ bD => ?_));refine aU ad ?_;refine bD _ (bp (some ([1,2,6,14],none)) _ (bB (aQ (some ([1,2],none)) _ (ae fun _ ck _ _ => ai fun _ aP => ?_))));refine ag 1 ad ?_;refine aU ad ?_;refine aP _ (ck (some ([1,2,7],none)) _ (ae fun _ ee _ _ => ai fun _ eU => ?_));refine ag 1 ad ?_;refine aL 1 ad ?_;refine aL 1 ad ?_;refine Or.inl (Or.inl ⟨_,cy,?_⟩);refine ag 5 ad ?_;refine an ad ?_;refine eU _ (ee (some ([7,8],none)) _ ?_)
 refine ae fun _ eW _ _ => ?_;refine pW [(0,[.vV (n + 2),.wa 7 (n + 4)]),(1,[.raw 7 (n + 4)])] ([]) fun _ ed => ?_;refine qL ?_;refine As (aE ad) fun b => ?_;refine At (i := n + 2) (b := b) (off := 0) (aE ad) (aE ad) ?_;refine m7 ?_;refine yu fun _ dt => ?_;refine an ad ?_;refine dt _ ?_;refine pY (i := n + 2) (b := b) (off := 0) (aE ad) (aE ad) ?_;refine m7 ?_;refine pX ?_;refine aU ad ?_;refine ed _ (eW (some ([7],none)) _ (ae fun _ gK _ _ => ai fun _ gq => ?_));refine ag 1 ad ?_;refine an ad ?_;refine gq _ (gK (some ([4,5],none)) _ ?_)
 first | refine gd (aE ad) (aE ad) (aE ad) ?_ | refine gb (aE ad) (aE ad) (aE ad) ?_
 try dsimp only
 refine ⟨⟨n + 2,n + 4,b,_⟩,rfl,⟨by show n + 2 < _; omega,by show n + 4 < _; omega,by show n + 2 ≠ n + 4; omega,plain_fn _ _ _,fun _ => ⟨rfl,?_,?_⟩⟩,⟨by omega,wL⟩,by show n < n + 2; omega,by show n < n + 4; omega⟩
 ·exact aE ad
 ·exact aE ad
end Go.Proofs.YtkmbcjnaaokilaaGreatDoor
