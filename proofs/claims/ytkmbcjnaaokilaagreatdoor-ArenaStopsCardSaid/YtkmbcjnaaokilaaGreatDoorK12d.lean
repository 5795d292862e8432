/-
  Layer 12 by shadows: the closures of the arena's codes, Next.
-/
import Derived.Test.YtkmbcjnaaokilaaGreatDoorMK19
namespace Go.Proofs.YtkmbcjnaaokilaaGreatDoor
set_option linter.unusedSimpArgs false
set_option linter.unusedVariables false
open Go.RowKit Go.Maps
theorem pH.CF {O O' : List (Nat × bl)} {n bI i : Nat} (h : pH none O n O' bI) : pH (some i) O n O' bI := ⟨h.le,fun e he _ => h.old e he (by simp)⟩
theorem aas : Enters 36 := nn Tryz.func36 rfl rfl
theorem aap : Enters 62 := nn Tryz.func62 rfl rfl
theorem aar : Enters 80 := nn Tryz.func80 rfl rfl
theorem aan : Enters 39 := nn Tryz.func39 rfl rfl
theorem aao : Enters 40 := nn Tryz.func40 rfl rfl
theorem aam : Enters 64 := nn Tryz.func64 rfl rfl
theorem Nx : Enters 147 := nn Tryz.func147 rfl rfl
theorem Nw : Enters 148 := nn Tryz.func148 rfl rfl
theorem Qs : rr 98 "Next" 147 := by intro v w; kernel_rfl
theorem Qr : rr 104 "Next" 148 := by intro v w; kernel_rfl
theorem aav : ∀ k,Enters (F7 k)
 | 0 => aas
 | 1 => aap
 | _ + 2 => aar
theorem aau : ∀ k,Enters (D4 k)
 | 0 => aan
 | 1 => aao
 | _ + 2 => aam
set_option maxHeartbeats 4000000 in
theorem afQ (s : g8) (ao : o7 s) (g : dW) {er : av} (hp : Plain er) (O : List (Nat × bl)) (n : Nat) {i jx b : Nat} (aq : i < n) (lk : jx < n) (af : al O i = some (.box 98 (pU s er))) (aj : al O jx = some (.cq (od i b))) :
  fv 36 [.agg (kz g),si b] O n (nS none O n (hZ (h6 s))) := by
 refine nJ Tryz.func36 aja rfl fun J => ?_
 have hid := fE n
 have fa := gO hp
 have eX := c3 aq
 have eI := c3 lk
 unfold SM RH;delta ab aR aa a6
 have ad := And.intro @hid (And.intro @fa (And.intro @eX (And.intro @eI (And.intro @af @aj))))
 refine ae fun _ aK _ _ => ai fun _ aG => ?_;refine an ad ?_;refine aG _ (aK (some ([1,4],none)) _ (ae fun _ aQ _ _ => ?_));refine pW [(0,[.raw 1 jx])] ([]) fun _ bh => ?_;refine qL ?_;refine pY (i := i) (b := b) (off := 0) (aE ad) (aE ad) ?_;refine m7 ?_;refine pX ?_;refine ag 1 ad ?_;refine aL 1 ad ?_;refine Or.inr (ia (QK s ao hp _ _) (aE ad) (fun uR vW tt px nw => ?_))
 obtain ⟨du,rfl,br,bs,aW⟩ := nw
 dsimp only at br bs aW
 have fC := bs.at (e := n) (X := .cq J) (by omega) (by simp) (aE ad)
 have gy := bs.at (e := n + 2) (X := .box 81 nh) (by omega) (by simp) (aE ad)
 have jG := gO (jq (hZ (h6 s)).1 du)
 have aD := And.intro ad (And.intro @fC (And.intro @gy @jG))
 refine ag 5 aD ?_;refine an aD ?_;refine bh _ (aQ (some ([3,4,5],none)) _ ?_)
 first | refine gd (aE aD) (aE aD) (aE aD) ?_ | refine gb (aE aD) (aE aD) (aE aD) ?_
 try dsimp only
 refine ⟨du,rfl,br.to (by omega) ?_ ?_,⟨by have := bs.le; omega,?_⟩,.inl ?_⟩
 ·obtain ⟨bL,cd⟩ | ⟨_,h,_⟩ := aW
  ·simp only [al,bn]; repeat rw [if_neg (by omega)]
  ·cases h
 ·obtain ⟨bL,cd⟩ | ⟨_,h,_⟩ := aW
  ·simp only [al,bn]; repeat rw [if_neg (by omega)]
  ·cases h
 ·intro e he ar
  simp only [al,bn]; repeat rw [if_neg (by omega)]
  rw [bs.old e (by omega) (by simp)]
  simp only [al,bn]; repeat rw [if_neg (by omega)]
 ·obtain ⟨bL,cd⟩ | ⟨_,h,_⟩ := aW
  ·exact ⟨by omega,by omega⟩
  ·cases h
set_option maxHeartbeats 4000000 in
theorem afL (s : g8) (ao : o7 s) (dd : s.parts ≠ []) (g : dW) {er : av} (hp : Plain er) (O : List (Nat × bl)) (n : Nat) {i jx b : Nat} (aq : i < n) (lk : jx < n) (af : al O i = some (.box 98 (pU s er))) (aj : al O jx = some (.cq (od i b))) :
  fv 62 [.agg (kz g),si b] O n (nS none O n (hZ (gT s g.word))) := by
 refine nJ Tryz.func62 ai1 rfl fun J => ?_
 have hid := fE n
 have fa := gO hp
 have eX := c3 aq
 have eI := c3 lk
 unfold SH RC;delta ab aR aa a6
 have ad := And.intro @hid (And.intro @fa (And.intro @eX (And.intro @eI (And.intro @af @aj))))
 refine ae fun _ aK _ _ => ai fun _ aG => ?_;refine an ad ?_;refine aG _ (aK (some ([1,2,4],none)) _ (ae fun _ aQ _ _ => ?_));refine pW [(0,[.raw 1 jx])] ([]) fun _ bh => ?_;refine qL ?_;refine pY (i := i) (b := b) (off := 0) (aE ad) (aE ad) ?_;refine m7 ?_;refine pX ?_;refine ag 1 ad ?_;refine ag 2 ad ?_;refine aL 1 ad ?_;refine Or.inr (ia (QM s ao dd g.word hp _ _) (aE ad) (fun uR vW tt px nw => ?_))
 obtain ⟨du,rfl,br,bs,aW⟩ := nw
 dsimp only at br bs aW
 have fC := bs.at (e := n) (X := .cq J) (by omega) (by simp) (aE ad)
 have gy := bs.at (e := n + 2) (X := .box 81 nh) (by omega) (by simp) (aE ad)
 have jG := gO (jq (hZ (gT s g.word)).1 du)
 have aD := And.intro ad (And.intro @fC (And.intro @gy @jG))
 refine ag 5 aD ?_;refine an aD ?_;refine bh _ (aQ (some ([3,4,5],none)) _ ?_)
 first | refine gd (aE aD) (aE aD) (aE aD) ?_ | refine gb (aE aD) (aE aD) (aE aD) ?_
 try dsimp only
 refine ⟨du,rfl,br.to (by omega) ?_ ?_,⟨by have := bs.le; omega,?_⟩,.inl ?_⟩
 ·obtain ⟨bL,cd⟩ | ⟨_,h,_⟩ := aW
  ·simp only [al,bn]; repeat rw [if_neg (by omega)]
  ·cases h
 ·obtain ⟨bL,cd⟩ | ⟨_,h,_⟩ := aW
  ·simp only [al,bn]; repeat rw [if_neg (by omega)]
  ·cases h
 ·intro e he ar
  simp only [al,bn]; repeat rw [if_neg (by omega)]
  rw [bs.old e (by omega) (by simp)]
  simp only [al,bn]; repeat rw [if_neg (by omega)]
 ·obtain ⟨bL,cd⟩ | ⟨_,h,_⟩ := aW
  ·exact ⟨by omega,by omega⟩
  ·cases h
def DU (s : g8) (g : dW) : g8 × dB × Bool := if g.ok = true then ({ s with fin := true },hi,true) else gT s g.word
set_option maxHeartbeats 4000000 in
theorem afP (s : g8) (ao : o7 s) (dd : s.parts ≠ []) (g : dW) {L : fF} (hp : Plain L.er) (O : List (Nat × bl)) (n : Nat) (aq : L.i < n) (lk : L.g < n) (ll : L.i ≠ L.g) (af : al O L.i = some (.box 98 (pU s L.er))) (aj : al O L.g = some (.cq (od L.i L.b))) :
  fv 80 [.agg (kz g),si L.b] O n (nS (some L) O n (hZ (DU s g))) := by
 refine nJ Tryz.func80 ai7 rfl fun J => ?_
 obtain ⟨i,jx,b,er⟩ := L
 simp only at hp aq lk ll af aj ⊢
 have hid := fE n
 have fa := gO hp
 have eX := c3 aq
 have eI := c3 lk
 have nI := BY ll
 obtain ⟨rG,HX⟩ := g
 cases HX
 ·have ba : DU s ⟨rG,false⟩ = gT s rG := if_neg (by simp)
  rw [ba]
  unfold Ll KT;delta ab aR aa a6
  have ad := And.intro @hid (And.intro @fa (And.intro @eX (And.intro @eI (And.intro @nI (And.intro @af @aj)))))
  refine ae fun bz aK b6 cb => ai fun b7 aG => ?_;refine an ad ?_;refine aG _ (aK (some ([1,2,4],none)) _ (ae fun b8 aQ bt b5 => ae fun b9 bG c7 dF => ?_));refine pW [(0,[.raw 1 jx])] ([]) fun cD bZ => ?_;refine qL ?_;refine pY (i := i) (b := b) (off := 0) (aE ad) (aE ad) ?_;refine m7 ?_;refine pX ?_;refine aU ad ?_;refine bZ _ (bG (some ([1,2,4,7],none)) _ (bB (aQ (some ([1,2,4],none)) _ (ae fun cv bp cY dk => ai fun cC bD => ?_))));refine ag 1 ad ?_;refine ag 2 ad ?_;refine aL 1 ad ?_;refine Or.inr (ia (QM s ao dd rG hp _ _) (aE ad) (fun uR vW tt px nw => ?_))
  obtain ⟨du,rfl,br,bs,aW⟩ := nw
  dsimp only at br bs aW
  have fC := bs.at (e := n) (X := .cq J) (by omega) (by simp) (aE ad)
  have gy := bs.at (e := n + 2) (X := .box 81 nh) (by omega) (by simp) (aE ad)
  have jG := gO (jq (hZ (gT s rG)).1 du)
  have aD := And.intro ad (And.intro @fC (And.intro @gy @jG))
  refine ag 5 aD ?_;refine an aD ?_;refine bD _ (bp (some ([3,4,5],none)) _ ?_)
  first | refine gd (aE aD) (aE aD) (aE aD) ?_ | refine gb (aE aD) (aE aD) (aE aD) ?_
  try dsimp only
  refine ⟨du,rfl,br.to (by omega) ?_ ?_,⟨by have := bs.le; omega,?_⟩,.inl ?_⟩
  ·obtain ⟨bL,cd⟩ | ⟨_,h,_⟩ := aW
   ·simp only [al,bn]; repeat rw [if_neg (by omega)]
   ·cases h
  ·obtain ⟨bL,cd⟩ | ⟨_,h,_⟩ := aW
   ·simp only [al,bn]; repeat rw [if_neg (by omega)]
   ·cases h
  ·intro e he ar
   simp only [al,bn]; repeat rw [if_neg (by omega)]
   rw [bs.old e (by omega) (by simp)]
   simp only [al,bn]; repeat rw [if_neg (by omega)]
  ·obtain ⟨bL,cd⟩ | ⟨_,h,_⟩ := aW
   ·exact ⟨by omega,by omega⟩
   ·cases h
 ·have ba : DU s ⟨rG,true⟩ = ({ s with fin := true },hi,true) := if_pos rfl
  rw [ba]
  unfold Ll KT;delta ab aR aa a6
  have ad := And.intro @hid (And.intro @fa (And.intro @eX (And.intro @eI (And.intro @nI (And.intro @af @aj)))))
  refine ae fun bz aK b6 cb => ai fun b7 aG => ?_;refine an ad ?_;refine aG _ (aK (some ([1,2,4],none)) _ (ae fun b8 aQ bt b5 => ae fun b9 bG c7 dF => ?_));refine pW [(0,[.raw 1 jx])] ([]) fun cD bZ => ?_;refine qL ?_;refine pY (i := i) (b := b) (off := 0) (aE ad) (aE ad) ?_;refine m7 ?_;refine pX ?_;refine aU ad ?_;refine bZ _ (bG (some ([1,2,4,7],none)) _ (bY (ae fun cv bp cY dk => ai fun cC bD => ?_)));refine aU ad ?_;refine bD _ (bp (some ([1,4],none)) _ (ae fun _ ck _ _ => ai fun _ aP => ?_));refine ag 1 ad ?_;refine ag 4 ad ?_;refine an ad ?_;refine aP _ (ck (some ([3,4,5],none)) _ (bt _ ?_))
  first | refine gd (aE ad) (aE ad) (aE ad) ?_ | refine gb (aE ad) (aE ad) (aE ad) ?_
  try dsimp only
  refine ⟨⟨i,jx,b,er⟩,rfl,⟨by show i < _; omega,by show jx < _; omega,ll,hp,fun h => nomatch h⟩,⟨by omega,?_⟩,.inr ⟨_,rfl,rfl,rfl⟩⟩
  intro e he ar
  have _ : i ≠ e := fun h => ar (by rw [h]; rfl)
  simp only [al,bn]; repeat rw [if_neg (by omega)]
set_option maxHeartbeats 4000000 in
theorem QI (s : j2) (ao : pJ s) (w : bq) {er : av} (hp : Plain er) (O : List (Nat × bl)) (n : Nat) : fv 41 [.agg (qI s er),.agg (dj w)] O n (nS none O n (lf (h1 s w))) := by
 refine nJ Tryz.func41 aiU rfl fun J => ?_
 have hid := fE n
 have fa := gO hp
 have nF := y2 ao.lay s.block ao.tC
 obtain ⟨l,block,err,pZ,k⟩ := s
 simp only at nF
 cases hu : ly w.val block
 ·have ba : h1 ⟨l,block,err,pZ,k⟩ w = (⟨l,block,13,true,k⟩,hi,true) := if_neg (by show ¬ ly w.val block = true; rw [hu]; simp)
  rw [ba]
  have qv : (gN .and .i64 w.val (fP block) == 0) = true := by have : (gN .and .i64 w.val (fP block) != 0) = false := hu; simpa using this
  unfold Lf KN;delta ab aR aa aA a6
  have ad := And.intro @hid (And.intro @fa @qv)
  refine ae fun bz aK b6 cb => ai fun b7 aG => ?_;refine an ad ?_;refine aG _ (aK (some ([2,3,5],none)) _ (ae fun b8 aQ bt b5 => ai fun b9 bh => ?_));refine ag 2 ad ?_;refine ag 2 ad ?_;refine aL 1 ad ?_;refine Or.inl (Or.inl ⟨_,nF,?_⟩);refine an ad ?_;refine bh _ (aQ (some ([2,3,5,7,8],none)) _ (ae fun cD bT dG eG => ae fun cv bp cY dk => ai fun cC bD => ?_));refine ag 2 ad ?_;refine aL 1 ad ?_;refine aL 1 ad ?_;refine Or.inl ⟨_,tM (.inl rfl),?_⟩;refine aU ad ?_;refine bD _ (bp (some ([2,3,5,7,8,21],none)) _ (bY (ae fun dy ck gV gA => ai fun bo aP => ?_)));refine ag 2 ad ?_;refine aU ad ?_;refine aP _ (ck (some ([2,5],none)) _ (ae fun ey ee _ _ => ai fun fB eU => ?_));refine ag 1 ad ?_;refine ag 4 ad ?_;refine an ad ?_
  refine eU _ (ee (some ([4,5,6],none)) _ (dG _ ?_))
  first | refine gd (aE ad) (aE ad) (aE ad) ?_ | refine gb (aE ad) (aE ad) (aE ad) ?_
  try dsimp only
  refine ⟨⟨n + 1,n + 2,0,er⟩,rfl,⟨by show n + 1 < _; omega,by show n + 2 < _; omega,by show n + 1 ≠ n + 2; omega,hp,fun h => nomatch h⟩,⟨by omega,wL⟩,.inl ⟨by show n < n + 1; omega,by show n < n + 2; omega⟩⟩
 ·have ba : h1 ⟨l,block,err,pZ,k⟩ w = (⟨l,block,err,pZ,2⟩,⟨6,bA l block,w,⟨gN .andNot .i64 w.val (fP block),w.eZ,w.ref⟩⟩,false) := if_pos (by show ly w.val block = true; exact hu)
  rw [ba]
  have qv : (gN .and .i64 w.val (fP block) == 0) = false := by have : (gN .and .i64 w.val (fP block) != 0) = true := hu; simpa using this
  unfold Lf KN;delta ab aR aa aA a6
  have ad := And.intro @hid (And.intro @fa @qv)
  refine ae fun bz aK b6 cb => ai fun b7 aG => ?_;refine an ad ?_;refine aG _ (aK (some ([2,3,5],none)) _ (ae fun b8 aQ bt b5 => ai fun b9 bh => ?_));refine ag 2 ad ?_;refine ag 2 ad ?_;refine aL 1 ad ?_;refine Or.inl (Or.inl ⟨_,nF,?_⟩);refine an ad ?_;refine bh _ (aQ (some ([2,3,5,7,8],none)) _ (ae fun cD bT dG eG => ae fun cv bp cY dk => ai fun cC bD => ?_));refine ag 2 ad ?_;refine aL 1 ad ?_;refine aL 1 ad ?_;refine Or.inl ⟨_,tM (.inl rfl),?_⟩;refine aU ad ?_;refine bD _ (bp (some ([2,3,5,7,8,21],none)) _ (bB (bT (some ([2,3,5,7,8],none)) _ (ae fun dy ck gV gA => ?_))));refine pW [(0,[.vV (n + 1),.wa 2 (n + 4)]),(1,[.raw 2 (n + 4)])] ([]) fun bo aP => ?_;refine qL ?_;refine As (aE ad) fun b => ?_;refine At (i := n + 1) (b := b) (off := 0) (aE ad) (aE ad) ?_
  refine m7 ?_;refine yu fun ey cF => ?_;refine an ad ?_;refine cF _ ?_;refine pY (i := n + 1) (b := b) (off := 0) (aE ad) (aE ad) ?_;refine m7 ?_;refine pX ?_;refine aU ad ?_;refine aP _ (ck (some ([2,3,5,7,8],none)) _ (ae fun fB ct _ _ => ?_));refine hy [] (n := 15) fun _ cG => ?_;refine hv ?_;refine cR 1 ad ?_;refine cR 3 ad ?_;refine cR 2 ad ?_;refine gj 1 ad ?_;refine gj 1 ad ?_;refine ⟨_,tM (.inr (.inr (.inr rfl))),?_⟩;refine cR 2 ad ?_;refine cR 2 ad ?_;refine lJ ad ?_;refine cG _ ?_;refine hx ?_;refine ag 1 ad ?_;refine an ad ?_;refine ct (some ([4,5,6],none)) _ ?_
  first | refine gd (aE ad) (aE ad) (aE ad) ?_ | refine gb (aE ad) (aE ad) (aE ad) ?_
  try dsimp only
  refine ⟨⟨n + 1,n + 4,b,_⟩,rfl,⟨by show n + 1 < _; omega,by show n + 4 < _; omega,by show n + 1 ≠ n + 4; omega,plain_fn _ _ _,fun _ => ⟨rfl,?_,?_⟩⟩,⟨by omega,wL⟩,.inl ⟨by show n < n + 1; omega,by show n < n + 4; omega⟩⟩
  ·exact aE ad
  ·exact aE ad
set_option maxHeartbeats 4000000 in
theorem afJ (s : j2) (ao : pJ s) (g : dW) {L : fF} (hp : Plain L.er) (O : List (Nat × bl)) (n : Nat) (aq : L.i < n) (lk : L.g < n) (ll : L.i ≠ L.g) (af : al O L.i = some (.box 104 (qI s L.er))) (aj : al O L.g = some (.cq (od L.i L.b))) :
  fv 39 [.agg (kz g),si L.b,.dc [aI (bA s.l s.block)] 0] O n (nS (some L) O n (.ec { s with k := 1 },⟨5,bA s.l s.block,gv,gv⟩,false)) := by
 refine nJ Tryz.func39 aiY rfl fun J => ?_
 obtain ⟨i,jx,b,er⟩ := L
 simp only at hp aq lk ll af aj ⊢
 have hid := fE n
 have fa := gO hp
 have eX := c3 aq
 have eI := c3 lk
 have nI := BY ll
 unfold SF RA;delta ab aR aa aA a6
 have ad := And.intro @hid (And.intro @fa (And.intro @eX (And.intro @eI (And.intro @nI (And.intro @af @aj)))))
 refine ae fun _ aK _ _ => ai fun _ aG => ?_;refine an ad ?_;refine aG _ (aK (some ([1,2,5],none)) _ (ae fun _ aQ _ _ => ?_));refine pW [(1,[.raw 1 jx])] ([]) fun _ bh => ?_;refine yu fun _ bZ => ?_;refine an ad ?_;refine bZ _ ?_;refine pY (i := i) (b := b) (off := 0) (aE ad) (aE ad) ?_;refine m7 ?_;refine pX ?_;refine aU ad ?_;refine bh _ (aQ (some ([1,2,5],none)) _ (ae fun _ bp _ _ => ?_));refine hy [] (n := 5) fun _ bD => ?_;refine hv ?_;refine cR 1 ad ?_;refine cR 2 ad ?_;refine lJ ad ?_;refine bD _ ?_;refine hx ?_;refine ag 1 ad ?_;refine an ad ?_;refine bp (some ([4,5,6],none)) _ ?_
 first | refine gd (aE ad) (aE ad) (aE ad) ?_ | refine gb (aE ad) (aE ad) (aE ad) ?_
 try dsimp only
 refine ⟨⟨i,jx,b,_⟩,rfl,⟨by show i < _; omega,by show jx < _; omega,ll,plain_fn _ _ _,fun _ => ⟨rfl,?_,?_⟩⟩,⟨by omega,?_⟩,.inr ⟨_,rfl,rfl,rfl⟩⟩
 ·exact aE ad
 ·exact aE ad
 ·intro e he ar
  have _ : i ≠ e := fun h => ar (by rw [h]; rfl)
  simp only [al,bn]; repeat rw [if_neg (by omega)]
set_option maxHeartbeats 4000000 in
theorem afK (s : j2) (ao : pJ s) (g : dW) {er : av} (hp : Plain er) (O : List (Nat × bl)) (n : Nat) {i jx b : Nat} (aq : i < n) (lk : jx < n) (af : al O i = some (.box 104 (qI s er))) (aj : al O jx = some (.cq (od i b))) :
  fv 40 [.agg (kz g),si b] O n (nS none O n (lf (h1 s g.word))) := by
 refine nJ Tryz.func40 aiZ rfl fun J => ?_
 have hid := fE n
 have fa := gO hp
 have eX := c3 aq
 have eI := c3 lk
 unfold SG RB;delta ab aR aa a6
 have ad := And.intro @hid (And.intro @fa (And.intro @eX (And.intro @eI (And.intro @af @aj))))
 refine ae fun _ aK _ _ => ai fun _ aG => ?_;refine an ad ?_;refine aG _ (aK (some ([1,2,4],none)) _ (ae fun _ aQ _ _ => ?_));refine pW [(0,[.raw 1 jx])] ([]) fun _ bh => ?_;refine qL ?_;refine pY (i := i) (b := b) (off := 0) (aE ad) (aE ad) ?_;refine m7 ?_;refine pX ?_;refine ag 1 ad ?_;refine ag 2 ad ?_;refine aL 1 ad ?_;refine Or.inr (ia (QI s ao g.word hp _ _) (aE ad) (fun uR vW tt px nw => ?_))
 obtain ⟨du,rfl,br,bs,aW⟩ := nw
 dsimp only at br bs aW
 have fC := bs.at (e := n) (X := .cq J) (by omega) (by simp) (aE ad)
 have gy := bs.at (e := n + 2) (X := .box 81 nh) (by omega) (by simp) (aE ad)
 have jG := gO (jq (lf (h1 s g.word)).1 du)
 have aD := And.intro ad (And.intro @fC (And.intro @gy @jG))
 refine ag 5 aD ?_;refine an aD ?_;refine bh _ (aQ (some ([3,4,5],none)) _ ?_)
 first | refine gd (aE aD) (aE aD) (aE aD) ?_ | refine gb (aE aD) (aE aD) (aE aD) ?_
 try dsimp only
 refine ⟨du,rfl,br.to (by omega) ?_ ?_,⟨by have := bs.le; omega,?_⟩,.inl ?_⟩
 ·obtain ⟨bL,cd⟩ | ⟨_,h,_⟩ := aW
  ·simp only [al,bn]; repeat rw [if_neg (by omega)]
  ·cases h
 ·obtain ⟨bL,cd⟩ | ⟨_,h,_⟩ := aW
  ·simp only [al,bn]; repeat rw [if_neg (by omega)]
  ·cases h
 ·intro e he ar
  simp only [al,bn]; repeat rw [if_neg (by omega)]
  rw [bs.old e (by omega) (by simp)]
  simp only [al,bn]; repeat rw [if_neg (by omega)]
 ·obtain ⟨bL,cd⟩ | ⟨_,h,_⟩ := aW
  ·exact ⟨by omega,by omega⟩
  ·cases h
def DT (s : j2) (g : dW) : j2 × dB × Bool := if g.ok = true then ({ s with fin := true },hi,true) else h1 s g.word
set_option maxHeartbeats 4000000 in
theorem afI (s : j2) (ao : pJ s) (g : dW) {L : fF} (hp : Plain L.er) (O : List (Nat × bl)) (n : Nat) (aq : L.i < n) (lk : L.g < n) (ll : L.i ≠ L.g) (af : al O L.i = some (.box 104 (qI s L.er))) (aj : al O L.g = some (.cq (od L.i L.b))) :
  fv 64 [.agg (kz g),si L.b] O n (nS (some L) O n (lf (DT s g))) := by
 refine nJ Tryz.func64 aiV rfl fun J => ?_
 obtain ⟨i,jx,b,er⟩ := L
 simp only at hp aq lk ll af aj ⊢
 have hid := fE n
 have fa := gO hp
 have eX := c3 aq
 have eI := c3 lk
 have nI := BY ll
 obtain ⟨rG,HX⟩ := g
 cases HX
 ·have ba : DT s ⟨rG,false⟩ = h1 s rG := if_neg (by simp)
  rw [ba]
  unfold Lg KO;delta ab aR aa a6
  have ad := And.intro @hid (And.intro @fa (And.intro @eX (And.intro @eI (And.intro @nI (And.intro @af @aj)))))
  refine ae fun bz aK b6 cb => ai fun b7 aG => ?_;refine an ad ?_;refine aG _ (aK (some ([1,2,4],none)) _ (ae fun b8 aQ bt b5 => ae fun b9 bG c7 dF => ?_));refine pW [(0,[.raw 1 jx])] ([]) fun cD bZ => ?_;refine qL ?_;refine pY (i := i) (b := b) (off := 0) (aE ad) (aE ad) ?_;refine m7 ?_;refine pX ?_;refine aU ad ?_;refine bZ _ (bG (some ([1,2,4,7],none)) _ (bB (aQ (some ([1,2,4],none)) _ (ae fun cv bp cY dk => ai fun cC bD => ?_))));refine ag 1 ad ?_;refine ag 2 ad ?_;refine aL 1 ad ?_;refine Or.inr (ia (QI s ao rG hp _ _) (aE ad) (fun uR vW tt px nw => ?_))
  obtain ⟨du,rfl,br,bs,aW⟩ := nw
  dsimp only at br bs aW
  have fC := bs.at (e := n) (X := .cq J) (by omega) (by simp) (aE ad)
  have gy := bs.at (e := n + 2) (X := .box 81 nh) (by omega) (by simp) (aE ad)
  have jG := gO (jq (lf (h1 s rG)).1 du)
  have aD := And.intro ad (And.intro @fC (And.intro @gy @jG))
  refine ag 5 aD ?_;refine an aD ?_;refine bD _ (bp (some ([3,4,5],none)) _ ?_)
  first | refine gd (aE aD) (aE aD) (aE aD) ?_ | refine gb (aE aD) (aE aD) (aE aD) ?_
  try dsimp only
  refine ⟨du,rfl,br.to (by omega) ?_ ?_,⟨by have := bs.le; omega,?_⟩,.inl ?_⟩
  ·obtain ⟨bL,cd⟩ | ⟨_,h,_⟩ := aW
   ·simp only [al,bn]; repeat rw [if_neg (by omega)]
   ·cases h
  ·obtain ⟨bL,cd⟩ | ⟨_,h,_⟩ := aW
   ·simp only [al,bn]; repeat rw [if_neg (by omega)]
   ·cases h
  ·intro e he ar
   simp only [al,bn]; repeat rw [if_neg (by omega)]
   rw [bs.old e (by omega) (by simp)]
   simp only [al,bn]; repeat rw [if_neg (by omega)]
  ·obtain ⟨bL,cd⟩ | ⟨_,h,_⟩ := aW
   ·exact ⟨by omega,by omega⟩
   ·cases h
 ·have ba : DT s ⟨rG,true⟩ = ({ s with fin := true },hi,true) := if_pos rfl
  rw [ba]
  unfold Lg KO;delta ab aR aa a6
  have ad := And.intro @hid (And.intro @fa (And.intro @eX (And.intro @eI (And.intro @nI (And.intro @af @aj)))))
  refine ae fun bz aK b6 cb => ai fun b7 aG => ?_;refine an ad ?_;refine aG _ (aK (some ([1,2,4],none)) _ (ae fun b8 aQ bt b5 => ae fun b9 bG c7 dF => ?_));refine pW [(0,[.raw 1 jx])] ([]) fun cD bZ => ?_;refine qL ?_;refine pY (i := i) (b := b) (off := 0) (aE ad) (aE ad) ?_;refine m7 ?_;refine pX ?_;refine aU ad ?_;refine bZ _ (bG (some ([1,2,4,7],none)) _ (bY (ae fun cv bp cY dk => ai fun cC bD => ?_)));refine aU ad ?_;refine bD _ (bp (some ([1,4],none)) _ (ae fun _ ck _ _ => ai fun _ aP => ?_));refine ag 1 ad ?_;refine ag 4 ad ?_;refine an ad ?_;refine aP _ (ck (some ([3,4,5],none)) _ (bt _ ?_))
  first | refine gd (aE ad) (aE ad) (aE ad) ?_ | refine gb (aE ad) (aE ad) (aE ad) ?_
  try dsimp only
  refine ⟨⟨i,jx,b,er⟩,rfl,⟨by show i < _; omega,by show jx < _; omega,ll,hp,fun h => nomatch h⟩,⟨by omega,?_⟩,.inr ⟨_,rfl,rfl,rfl⟩⟩
  intro e he ar
  have _ : i ≠ e := fun h => ar (by rw [h]; rfl)
  simp only [al,bn]; repeat rw [if_neg (by omega)]
end Go.Proofs.YtkmbcjnaaokilaaGreatDoor
