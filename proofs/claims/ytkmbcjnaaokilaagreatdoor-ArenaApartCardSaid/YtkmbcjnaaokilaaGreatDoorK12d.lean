/-
  Layer 12 by shadows: the closures of the arena's codes, Next.
-/
import Derived.Test.YtkmbcjnaaokilaaGreatDoorMK14
namespace Go.Proofs.YtkmbcjnaaokilaaGreatDoor
set_option linter.unusedSimpArgs false
set_option linter.unusedVariables false
open Go.RowKit Go.Maps
theorem qH.El {O O' : List (Nat × bo)} {n bO i : Nat} (h : qH none O n O' bO) : qH (some i) O n O' bO := ⟨h.le,fun e he _ => h.old e he (by simp)⟩
theorem adT : Enters 36 := n8 Tryz.func36 rfl rfl
theorem adQ : Enters 62 := n8 Tryz.func62 rfl rfl
theorem adS : Enters 80 := n8 Tryz.func80 rfl rfl
theorem adO : Enters 39 := n8 Tryz.func39 rfl rfl
theorem adP : Enters 40 := n8 Tryz.func40 rfl rfl
theorem adN : Enters 64 := n8 Tryz.func64 rfl rfl
theorem Qo : Enters 147 := n8 Tryz.func147 rfl rfl
theorem Qn : Enters 148 := n8 Tryz.func148 rfl rfl
theorem Tp : sy 98 "Next" 147 := by intro v w; kernel_rfl
theorem To : sy 104 "Next" 148 := by intro v w; kernel_rfl
theorem adW : ∀ k,Enters (H6 k)
 | 0 => adT
 | 1 => adQ
 | _ + 2 => adS
theorem adV : ∀ k,Enters (F9 k)
 | 0 => adO
 | 1 => adP
 | _ + 2 => adN
set_option maxHeartbeats 4000000 in
theorem ajp (s : hl) (ao : p9 s) (g : ei) {eG : aw} (hp : Plain eG) (O : List (Nat × bo)) (n : Nat) {i jk b : Nat} (aq : i < n) (lU : jk < n) (af : an O i = some (.box 98 (qV s eG))) (aj : an O jk = some (.cB (o4 i b))) :
  gg 36 [.agg (kR g),tn b] O n (oM none O n (ic (iv s))) := by
 refine oF Tryz.func36 amN rfl fun J => ?_
 have hid := fG n
 have fg := gX hp
 have e2 := cW aq
 have eQ := cW lU
 unfold V1 US;delta ab aQ aa a3
 have ad := And.intro @hid (And.intro @fg (And.intro @e2 (And.intro @eQ (And.intro @af @aj))))
 refine ae fun _ aK _ _ => ai fun _ aH => ?_;refine al ad ?_;refine aH _ (aK (some ([1,4],none)) _ (ae fun _ aP _ _ => ?_));refine qZ [(0,[.raw 1 jk])] ([]) fun _ bk => ?_;refine rR ?_;refine q1 (i := i) (b := b) (off := 0) (aF ad) (aF ad) ?_;refine nT ?_;refine q0 ?_;refine ag 1 ad ?_;refine aM 1 ad ?_;refine Or.inr (iJ (TK s ao hp _ _) (aF ad) (fun wc xJ uK qw oq => ?_))
 obtain ⟨dw,rfl,br,bu,aZ⟩ := oq
 dsimp only at br bu aZ
 have gA := bu.at (e := n) (X := .cB J) (by omega) (by simp) (aF ad)
 have gH := bu.at (e := n + 2) (X := .box 81 n0) (by omega) (by simp) (aF ad)
 have jW := gX (jF (ic (iv s)).1 dw)
 have aD := And.intro ad (And.intro @gA (And.intro @gH @jW))
 refine ag 5 aD ?_;refine al aD ?_;refine bk _ (aP (some ([3,4,5],none)) _ ?_)
 first | refine gv (aF aD) (aF aD) (aF aD) ?_ | refine gu (aF aD) (aF aD) (aF aD) ?_
 try dsimp only
 refine ⟨dw,rfl,br.to (by omega) ?_ ?_,⟨by have := bu.le; omega,?_⟩,.inl ?_⟩
 ·obtain ⟨bJ,cf⟩ | ⟨_,h,_⟩ := aZ
  ·simp only [an,bq]; repeat rw [if_neg (by omega)]
  ·cases h
 ·obtain ⟨bJ,cf⟩ | ⟨_,h,_⟩ := aZ
  ·simp only [an,bq]; repeat rw [if_neg (by omega)]
  ·cases h
 ·intro e he ar
  simp only [an,bq]; repeat rw [if_neg (by omega)]
  rw [bu.old e (by omega) (by simp)]
  simp only [an,bq]; repeat rw [if_neg (by omega)]
 ·obtain ⟨bJ,cf⟩ | ⟨_,h,_⟩ := aZ
  ·exact ⟨by omega,by omega⟩
  ·cases h
set_option maxHeartbeats 4000000 in
theorem ajk (s : hl) (ao : p9 s) (dj : s.parts ≠ []) (g : ei) {eG : aw} (hp : Plain eG) (O : List (Nat × bo)) (n : Nat) {i jk b : Nat} (aq : i < n) (lU : jk < n) (af : an O i = some (.box 98 (qV s eG))) (aj : an O jk = some (.cB (o4 i b))) :
  gg 62 [.agg (kR g),tn b] O n (oM none O n (ic (g5 s g.word))) := by
 refine oF Tryz.func62 amE rfl fun J => ?_
 have hid := fG n
 have fg := gX hp
 have e2 := cW aq
 have eQ := cW lU
 unfold VW UN;delta ab aQ aa a3
 have ad := And.intro @hid (And.intro @fg (And.intro @e2 (And.intro @eQ (And.intro @af @aj))))
 refine ae fun _ aK _ _ => ai fun _ aH => ?_;refine al ad ?_;refine aH _ (aK (some ([1,2,4],none)) _ (ae fun _ aP _ _ => ?_));refine qZ [(0,[.raw 1 jk])] ([]) fun _ bk => ?_;refine rR ?_;refine q1 (i := i) (b := b) (off := 0) (aF ad) (aF ad) ?_;refine nT ?_;refine q0 ?_;refine ag 1 ad ?_;refine ag 2 ad ?_;refine aM 1 ad ?_;refine Or.inr (iJ (TM s ao dj g.word hp _ _) (aF ad) (fun wc xJ uK qw oq => ?_))
 obtain ⟨dw,rfl,br,bu,aZ⟩ := oq
 dsimp only at br bu aZ
 have gA := bu.at (e := n) (X := .cB J) (by omega) (by simp) (aF ad)
 have gH := bu.at (e := n + 2) (X := .box 81 n0) (by omega) (by simp) (aF ad)
 have jW := gX (jF (ic (g5 s g.word)).1 dw)
 have aD := And.intro ad (And.intro @gA (And.intro @gH @jW))
 refine ag 5 aD ?_;refine al aD ?_;refine bk _ (aP (some ([3,4,5],none)) _ ?_)
 first | refine gv (aF aD) (aF aD) (aF aD) ?_ | refine gu (aF aD) (aF aD) (aF aD) ?_
 try dsimp only
 refine ⟨dw,rfl,br.to (by omega) ?_ ?_,⟨by have := bu.le; omega,?_⟩,.inl ?_⟩
 ·obtain ⟨bJ,cf⟩ | ⟨_,h,_⟩ := aZ
  ·simp only [an,bq]; repeat rw [if_neg (by omega)]
  ·cases h
 ·obtain ⟨bJ,cf⟩ | ⟨_,h,_⟩ := aZ
  ·simp only [an,bq]; repeat rw [if_neg (by omega)]
  ·cases h
 ·intro e he ar
  simp only [an,bq]; repeat rw [if_neg (by omega)]
  rw [bu.old e (by omega) (by simp)]
  simp only [an,bq]; repeat rw [if_neg (by omega)]
 ·obtain ⟨bJ,cf⟩ | ⟨_,h,_⟩ := aZ
  ·exact ⟨by omega,by omega⟩
  ·cases h
def FX (s : hl) (g : ei) : hl × dJ × Bool := if g.ok = true then ({ s with fin := true },hx,true) else g5 s g.word
set_option maxHeartbeats 4000000 in
theorem ajo (s : hl) (ao : p9 s) (dj : s.parts ≠ []) (g : ei) {L : fO} (hp : Plain L.eG) (O : List (Nat × bo)) (n : Nat) (aq : L.i < n) (lU : L.g < n) (lV : L.i ≠ L.g) (af : an O L.i = some (.box 98 (qV s L.eG))) (aj : an O L.g = some (.cB (o4 L.i L.b))) :
  gg 80 [.agg (kR g),tn L.b] O n (oM (some L) O n (ic (FX s g))) := by
 refine oF Tryz.func80 amK rfl fun J => ?_
 obtain ⟨i,jk,b,eG⟩ := L
 simp only at hp aq lU lV af aj ⊢
 have hid := fG n
 have fg := gX hp
 have e2 := cW aq
 have eQ := cW lU
 have oE := zg lV
 obtain ⟨rX,Kc⟩ := g
 cases Kc
 ·have bf : FX s ⟨rX,false⟩ = g5 s rX := if_neg (by simp)
  rw [bf]
  unfold NZ Nv;delta ab aQ aa a3
  have ad := And.intro @hid (And.intro @fg (And.intro @e2 (And.intro @eQ (And.intro @oE (And.intro @af @aj)))))
  refine ae fun bD aK b9 ck => ai fun ca aH => ?_;refine al ad ?_;refine aH _ (aK (some ([1,2,4],none)) _ (ae fun cg aP bx b8 => ae fun ch bI dd dU => ?_));refine qZ [(0,[.raw 1 jk])] ([]) fun cM b0 => ?_;refine rR ?_;refine q1 (i := i) (b := b) (off := 0) (aF ad) (aF ad) ?_;refine nT ?_;refine q0 ?_;refine aS ad ?_;refine b0 _ (bI (some ([1,2,4,7],none)) _ (bs (aP (some ([1,2,4],none)) _ (ae fun cG bp c5 dn => ai fun cI bE => ?_))));refine ag 1 ad ?_;refine ag 2 ad ?_;refine aM 1 ad ?_;refine Or.inr (iJ (TM s ao dj rX hp _ _) (aF ad) (fun wc xJ uK qw oq => ?_))
  obtain ⟨dw,rfl,br,bu,aZ⟩ := oq
  dsimp only at br bu aZ
  have gA := bu.at (e := n) (X := .cB J) (by omega) (by simp) (aF ad)
  have gH := bu.at (e := n + 2) (X := .box 81 n0) (by omega) (by simp) (aF ad)
  have jW := gX (jF (ic (g5 s rX)).1 dw)
  have aD := And.intro ad (And.intro @gA (And.intro @gH @jW))
  refine ag 5 aD ?_;refine al aD ?_;refine bE _ (bp (some ([3,4,5],none)) _ ?_)
  first | refine gv (aF aD) (aF aD) (aF aD) ?_ | refine gu (aF aD) (aF aD) (aF aD) ?_
  try dsimp only
  refine ⟨dw,rfl,br.to (by omega) ?_ ?_,⟨by have := bu.le; omega,?_⟩,.inl ?_⟩
  ·obtain ⟨bJ,cf⟩ | ⟨_,h,_⟩ := aZ
   ·simp only [an,bq]; repeat rw [if_neg (by omega)]
   ·cases h
  ·obtain ⟨bJ,cf⟩ | ⟨_,h,_⟩ := aZ
   ·simp only [an,bq]; repeat rw [if_neg (by omega)]
   ·cases h
  ·intro e he ar
   simp only [an,bq]; repeat rw [if_neg (by omega)]
   rw [bu.old e (by omega) (by simp)]
   simp only [an,bq]; repeat rw [if_neg (by omega)]
  ·obtain ⟨bJ,cf⟩ | ⟨_,h,_⟩ := aZ
   ·exact ⟨by omega,by omega⟩
   ·cases h
 ·have bf : FX s ⟨rX,true⟩ = ({ s with fin := true },hx,true) := if_pos rfl
  rw [bf]
  unfold NZ Nv;delta ab aQ aa a3
  have ad := And.intro @hid (And.intro @fg (And.intro @e2 (And.intro @eQ (And.intro @oE (And.intro @af @aj)))))
  refine ae fun bD aK b9 ck => ai fun ca aH => ?_;refine al ad ?_;refine aH _ (aK (some ([1,2,4],none)) _ (ae fun cg aP bx b8 => ae fun ch bI dd dU => ?_));refine qZ [(0,[.raw 1 jk])] ([]) fun cM b0 => ?_;refine rR ?_;refine q1 (i := i) (b := b) (off := 0) (aF ad) (aF ad) ?_;refine nT ?_;refine q0 ?_;refine aS ad ?_;refine b0 _ (bI (some ([1,2,4,7],none)) _ (bU (ae fun cG bp c5 dn => ai fun cI bE => ?_)));refine aS ad ?_;refine bE _ (bp (some ([1,4],none)) _ (ae fun _ cv _ _ => ai fun _ aR => ?_));refine ag 1 ad ?_;refine ag 4 ad ?_;refine al ad ?_;refine aR _ (cv (some ([3,4,5],none)) _ (bx _ ?_))
  first | refine gv (aF ad) (aF ad) (aF ad) ?_ | refine gu (aF ad) (aF ad) (aF ad) ?_
  try dsimp only
  refine ⟨⟨i,jk,b,eG⟩,rfl,⟨by show i < _; omega,by show jk < _; omega,lV,hp,fun h => nomatch h⟩,⟨by omega,?_⟩,.inr ⟨_,rfl,rfl,rfl⟩⟩
  intro e he ar
  have _ : i ≠ e := fun h => ar (by rw [h]; rfl)
  simp only [an,bq]; repeat rw [if_neg (by omega)]
set_option maxHeartbeats 4000000 in
theorem TI (s : ko) (ao : qL s) (w : bm) {eG : aw} (hp : Plain eG) (O : List (Nat × bo)) (n : Nat) : gg 41 [.agg (rN s eG),.agg (c6 w)] O n (oM none O n (lO (ih s w))) := by
 refine oF Tryz.func41 amx rfl fun J => ?_
 have hid := fG n
 have fg := gX hp
 have mC := xz ao.lay s.block ao.uU
 obtain ⟨l,block,err,q2,k⟩ := s
 simp only at mC
 cases hu : l7 w.val block
 ·have bf : ih ⟨l,block,err,q2,k⟩ w = (⟨l,block,13,true,k⟩,hx,true) := if_neg (by show ¬ l7 w.val block = true; rw [hu]; simp)
  rw [bf]
  have oL : (gV .and .i64 w.val (fX block) == 0) = true := by have : (gV .and .i64 w.val (fX block) != 0) = false := hu; simpa using this
  unfold NT Np;delta ab aQ aa ay a3
  have ad := And.intro @hid (And.intro @fg @oL)
  refine ae fun bD aK b9 ck => ai fun ca aH => ?_;refine al ad ?_;refine aH _ (aK (some ([2,3,5],none)) _ (ae fun cg aP bx b8 => ai fun ch bk => ?_));refine ag 2 ad ?_;refine ag 2 ad ?_;refine aM 1 ad ?_;refine Or.inl (Or.inl ⟨_,mC,?_⟩);refine al ad ?_;refine bk _ (aP (some ([2,3,5,7,8],none)) _ (ae fun cM bV dQ eP => ae fun cG bp c5 dn => ai fun cI bE => ?_));refine ag 2 ad ?_;refine aM 1 ad ?_;refine aM 1 ad ?_;refine Or.inl ⟨_,u5 (.inl rfl),?_⟩;refine aS ad ?_;refine bE _ (bp (some ([2,3,5,7,8,21],none)) _ (bU (ae fun dB cv g7 gw => ai fun bz aR => ?_)));refine ag 2 ad ?_;refine aS ad ?_;refine aR _ (cv (some ([2,5],none)) _ (ae fun eK eo _ _ => ai fun fM fe => ?_));refine ag 1 ad ?_;refine ag 4 ad ?_;refine al ad ?_
  refine fe _ (eo (some ([4,5,6],none)) _ (dQ _ ?_))
  first | refine gv (aF ad) (aF ad) (aF ad) ?_ | refine gu (aF ad) (aF ad) (aF ad) ?_
  try dsimp only
  refine ⟨⟨n + 1,n + 2,0,eG⟩,rfl,⟨by show n + 1 < _; omega,by show n + 2 < _; omega,by show n + 1 ≠ n + 2; omega,hp,fun h => nomatch h⟩,⟨by omega,yn⟩,.inl ⟨by show n < n + 1; omega,by show n < n + 2; omega⟩⟩
 ·have bf : ih ⟨l,block,err,q2,k⟩ w = (⟨l,block,err,q2,2⟩,⟨6,bw l block,w,⟨gV .andNot .i64 w.val (fX block),w.eV,w.ref⟩⟩,false) := if_pos (by show l7 w.val block = true; exact hu)
  rw [bf]
  have oL : (gV .and .i64 w.val (fX block) == 0) = false := by have : (gV .and .i64 w.val (fX block) != 0) = true := hu; simpa using this
  unfold NT Np;delta ab aQ aa ay a3
  have ad := And.intro @hid (And.intro @fg @oL)
  refine ae fun bD aK b9 ck => ai fun ca aH => ?_;refine al ad ?_;refine aH _ (aK (some ([2,3,5],none)) _ (ae fun cg aP bx b8 => ai fun ch bk => ?_));refine ag 2 ad ?_;refine ag 2 ad ?_;refine aM 1 ad ?_;refine Or.inl (Or.inl ⟨_,mC,?_⟩);refine al ad ?_;refine bk _ (aP (some ([2,3,5,7,8],none)) _ (ae fun cM bV dQ eP => ae fun cG bp c5 dn => ai fun cI bE => ?_));refine ag 2 ad ?_;refine aM 1 ad ?_;refine aM 1 ad ?_;refine Or.inl ⟨_,u5 (.inl rfl),?_⟩;refine aS ad ?_;refine bE _ (bp (some ([2,3,5,7,8,21],none)) _ (bs (bV (some ([2,3,5,7,8],none)) _ (ae fun dB cv g7 gw => ?_))));refine qZ [(0,[.xH (n + 1),.xQ 2 (n + 4)]),(1,[.raw 2 (n + 4)])] ([]) fun bz aR => ?_;refine rR ?_;refine B2 (aF ad) fun b => ?_;refine B3 (i := n + 1) (b := b) (off := 0) (aF ad) (aF ad) ?_
  refine nT ?_;refine qh fun eK cK => ?_;refine al ad ?_;refine cK _ ?_;refine q1 (i := n + 1) (b := b) (off := 0) (aF ad) (aF ad) ?_;refine nT ?_;refine q0 ?_;refine aS ad ?_;refine aR _ (cv (some ([2,3,5,7,8],none)) _ (ae fun fM cr _ _ => ?_));refine gh [] (n := 15) fun _ cD => ?_;refine gY ?_;refine cF 1 ad ?_;refine cF 3 ad ?_;refine cF 2 ad ?_;refine gd 1 ad ?_;refine gd 1 ad ?_;refine ⟨_,u5 (.inr (.inr (.inr rfl))),?_⟩;refine cF 2 ad ?_;refine cF 2 ad ?_;refine lh ad ?_;refine cD _ ?_;refine gZ ?_;refine ag 1 ad ?_;refine al ad ?_;refine cr (some ([4,5,6],none)) _ ?_
  first | refine gv (aF ad) (aF ad) (aF ad) ?_ | refine gu (aF ad) (aF ad) (aF ad) ?_
  try dsimp only
  refine ⟨⟨n + 1,n + 4,b,_⟩,rfl,⟨by show n + 1 < _; omega,by show n + 4 < _; omega,by show n + 1 ≠ n + 4; omega,plain_fn _ _ _,fun _ => ⟨rfl,?_,?_⟩⟩,⟨by omega,yn⟩,.inl ⟨by show n < n + 1; omega,by show n < n + 4; omega⟩⟩
  ·exact aF ad
  ·exact aF ad
set_option maxHeartbeats 4000000 in
theorem aji (s : ko) (ao : qL s) (g : ei) {L : fO} (hp : Plain L.eG) (O : List (Nat × bo)) (n : Nat) (aq : L.i < n) (lU : L.g < n) (lV : L.i ≠ L.g) (af : an O L.i = some (.box 104 (rN s L.eG))) (aj : an O L.g = some (.cB (o4 L.i L.b))) :
  gg 39 [.agg (kR g),tn L.b,.di [aG (bw s.l s.block)] 0] O n (oM (some L) O n (.ev { s with k := 1 },⟨5,bw s.l s.block,gE,gE⟩,false)) := by
 refine oF Tryz.func39 amB rfl fun J => ?_
 obtain ⟨i,jk,b,eG⟩ := L
 simp only at hp aq lU lV af aj ⊢
 have hid := fG n
 have fg := gX hp
 have e2 := cW aq
 have eQ := cW lU
 have oE := zg lV
 unfold VU UL;delta ab aQ aa ay a3
 have ad := And.intro @hid (And.intro @fg (And.intro @e2 (And.intro @eQ (And.intro @oE (And.intro @af @aj)))))
 refine ae fun _ aK _ _ => ai fun _ aH => ?_;refine al ad ?_;refine aH _ (aK (some ([1,2,5],none)) _ (ae fun _ aP _ _ => ?_));refine qZ [(1,[.raw 1 jk])] ([]) fun _ bk => ?_;refine qh fun _ b0 => ?_;refine al ad ?_;refine b0 _ ?_;refine q1 (i := i) (b := b) (off := 0) (aF ad) (aF ad) ?_;refine nT ?_;refine q0 ?_;refine aS ad ?_;refine bk _ (aP (some ([1,2,5],none)) _ (ae fun _ bp _ _ => ?_));refine gh [] (n := 5) fun _ bE => ?_;refine gY ?_;refine cF 1 ad ?_;refine cF 2 ad ?_;refine lh ad ?_;refine bE _ ?_;refine gZ ?_;refine ag 1 ad ?_;refine al ad ?_;refine bp (some ([4,5,6],none)) _ ?_
 first | refine gv (aF ad) (aF ad) (aF ad) ?_ | refine gu (aF ad) (aF ad) (aF ad) ?_
 try dsimp only
 refine ⟨⟨i,jk,b,_⟩,rfl,⟨by show i < _; omega,by show jk < _; omega,lV,plain_fn _ _ _,fun _ => ⟨rfl,?_,?_⟩⟩,⟨by omega,?_⟩,.inr ⟨_,rfl,rfl,rfl⟩⟩
 ·exact aF ad
 ·exact aF ad
 ·intro e he ar
  have _ : i ≠ e := fun h => ar (by rw [h]; rfl)
  simp only [an,bq]; repeat rw [if_neg (by omega)]
set_option maxHeartbeats 4000000 in
theorem ajj (s : ko) (ao : qL s) (g : ei) {eG : aw} (hp : Plain eG) (O : List (Nat × bo)) (n : Nat) {i jk b : Nat} (aq : i < n) (lU : jk < n) (af : an O i = some (.box 104 (rN s eG))) (aj : an O jk = some (.cB (o4 i b))) :
  gg 40 [.agg (kR g),tn b] O n (oM none O n (lO (ih s g.word))) := by
 refine oF Tryz.func40 amC rfl fun J => ?_
 have hid := fG n
 have fg := gX hp
 have e2 := cW aq
 have eQ := cW lU
 unfold VV UM;delta ab aQ aa a3
 have ad := And.intro @hid (And.intro @fg (And.intro @e2 (And.intro @eQ (And.intro @af @aj))))
 refine ae fun _ aK _ _ => ai fun _ aH => ?_;refine al ad ?_;refine aH _ (aK (some ([1,2,4],none)) _ (ae fun _ aP _ _ => ?_));refine qZ [(0,[.raw 1 jk])] ([]) fun _ bk => ?_;refine rR ?_;refine q1 (i := i) (b := b) (off := 0) (aF ad) (aF ad) ?_;refine nT ?_;refine q0 ?_;refine ag 1 ad ?_;refine ag 2 ad ?_;refine aM 1 ad ?_;refine Or.inr (iJ (TI s ao g.word hp _ _) (aF ad) (fun wc xJ uK qw oq => ?_))
 obtain ⟨dw,rfl,br,bu,aZ⟩ := oq
 dsimp only at br bu aZ
 have gA := bu.at (e := n) (X := .cB J) (by omega) (by simp) (aF ad)
 have gH := bu.at (e := n + 2) (X := .box 81 n0) (by omega) (by simp) (aF ad)
 have jW := gX (jF (lO (ih s g.word)).1 dw)
 have aD := And.intro ad (And.intro @gA (And.intro @gH @jW))
 refine ag 5 aD ?_;refine al aD ?_;refine bk _ (aP (some ([3,4,5],none)) _ ?_)
 first | refine gv (aF aD) (aF aD) (aF aD) ?_ | refine gu (aF aD) (aF aD) (aF aD) ?_
 try dsimp only
 refine ⟨dw,rfl,br.to (by omega) ?_ ?_,⟨by have := bu.le; omega,?_⟩,.inl ?_⟩
 ·obtain ⟨bJ,cf⟩ | ⟨_,h,_⟩ := aZ
  ·simp only [an,bq]; repeat rw [if_neg (by omega)]
  ·cases h
 ·obtain ⟨bJ,cf⟩ | ⟨_,h,_⟩ := aZ
  ·simp only [an,bq]; repeat rw [if_neg (by omega)]
  ·cases h
 ·intro e he ar
  simp only [an,bq]; repeat rw [if_neg (by omega)]
  rw [bu.old e (by omega) (by simp)]
  simp only [an,bq]; repeat rw [if_neg (by omega)]
 ·obtain ⟨bJ,cf⟩ | ⟨_,h,_⟩ := aZ
  ·exact ⟨by omega,by omega⟩
  ·cases h
def FW (s : ko) (g : ei) : ko × dJ × Bool := if g.ok = true then ({ s with fin := true },hx,true) else ih s g.word
set_option maxHeartbeats 4000000 in
theorem ajh (s : ko) (ao : qL s) (g : ei) {L : fO} (hp : Plain L.eG) (O : List (Nat × bo)) (n : Nat) (aq : L.i < n) (lU : L.g < n) (lV : L.i ≠ L.g) (af : an O L.i = some (.box 104 (rN s L.eG))) (aj : an O L.g = some (.cB (o4 L.i L.b))) :
  gg 64 [.agg (kR g),tn L.b] O n (oM (some L) O n (lO (FW s g))) := by
 refine oF Tryz.func64 amy rfl fun J => ?_
 obtain ⟨i,jk,b,eG⟩ := L
 simp only at hp aq lU lV af aj ⊢
 have hid := fG n
 have fg := gX hp
 have e2 := cW aq
 have eQ := cW lU
 have oE := zg lV
 obtain ⟨rX,Kc⟩ := g
 cases Kc
 ·have bf : FW s ⟨rX,false⟩ = ih s rX := if_neg (by simp)
  rw [bf]
  unfold NU Nq;delta ab aQ aa a3
  have ad := And.intro @hid (And.intro @fg (And.intro @e2 (And.intro @eQ (And.intro @oE (And.intro @af @aj)))))
  refine ae fun bD aK b9 ck => ai fun ca aH => ?_;refine al ad ?_;refine aH _ (aK (some ([1,2,4],none)) _ (ae fun cg aP bx b8 => ae fun ch bI dd dU => ?_));refine qZ [(0,[.raw 1 jk])] ([]) fun cM b0 => ?_;refine rR ?_;refine q1 (i := i) (b := b) (off := 0) (aF ad) (aF ad) ?_;refine nT ?_;refine q0 ?_;refine aS ad ?_;refine b0 _ (bI (some ([1,2,4,7],none)) _ (bs (aP (some ([1,2,4],none)) _ (ae fun cG bp c5 dn => ai fun cI bE => ?_))));refine ag 1 ad ?_;refine ag 2 ad ?_;refine aM 1 ad ?_;refine Or.inr (iJ (TI s ao rX hp _ _) (aF ad) (fun wc xJ uK qw oq => ?_))
  obtain ⟨dw,rfl,br,bu,aZ⟩ := oq
  dsimp only at br bu aZ
  have gA := bu.at (e := n) (X := .cB J) (by omega) (by simp) (aF ad)
  have gH := bu.at (e := n + 2) (X := .box 81 n0) (by omega) (by simp) (aF ad)
  have jW := gX (jF (lO (ih s rX)).1 dw)
  have aD := And.intro ad (And.intro @gA (And.intro @gH @jW))
  refine ag 5 aD ?_;refine al aD ?_;refine bE _ (bp (some ([3,4,5],none)) _ ?_)
  first | refine gv (aF aD) (aF aD) (aF aD) ?_ | refine gu (aF aD) (aF aD) (aF aD) ?_
  try dsimp only
  refine ⟨dw,rfl,br.to (by omega) ?_ ?_,⟨by have := bu.le; omega,?_⟩,.inl ?_⟩
  ·obtain ⟨bJ,cf⟩ | ⟨_,h,_⟩ := aZ
   ·simp only [an,bq]; repeat rw [if_neg (by omega)]
   ·cases h
  ·obtain ⟨bJ,cf⟩ | ⟨_,h,_⟩ := aZ
   ·simp only [an,bq]; repeat rw [if_neg (by omega)]
   ·cases h
  ·intro e he ar
   simp only [an,bq]; repeat rw [if_neg (by omega)]
   rw [bu.old e (by omega) (by simp)]
   simp only [an,bq]; repeat rw [if_neg (by omega)]
  ·obtain ⟨bJ,cf⟩ | ⟨_,h,_⟩ := aZ
   ·exact ⟨by omega,by omega⟩
   ·cases h
 ·have bf : FW s ⟨rX,true⟩ = ({ s with fin := true },hx,true) := if_pos rfl
  rw [bf]
  unfold NU Nq;delta ab aQ aa a3
  have ad := And.intro @hid (And.intro @fg (And.intro @e2 (And.intro @eQ (And.intro @oE (And.intro @af @aj)))))
  refine ae fun bD aK b9 ck => ai fun ca aH => ?_;refine al ad ?_;refine aH _ (aK (some ([1,2,4],none)) _ (ae fun cg aP bx b8 => ae fun ch bI dd dU => ?_));refine qZ [(0,[.raw 1 jk])] ([]) fun cM b0 => ?_;refine rR ?_;refine q1 (i := i) (b := b) (off := 0) (aF ad) (aF ad) ?_;refine nT ?_;refine q0 ?_;refine aS ad ?_;refine b0 _ (bI (some ([1,2,4,7],none)) _ (bU (ae fun cG bp c5 dn => ai fun cI bE => ?_)));refine aS ad ?_;refine bE _ (bp (some ([1,4],none)) _ (ae fun _ cv _ _ => ai fun _ aR => ?_));refine ag 1 ad ?_;refine ag 4 ad ?_;refine al ad ?_;refine aR _ (cv (some ([3,4,5],none)) _ (bx _ ?_))
  first | refine gv (aF ad) (aF ad) (aF ad) ?_ | refine gu (aF ad) (aF ad) (aF ad) ?_
  try dsimp only
  refine ⟨⟨i,jk,b,eG⟩,rfl,⟨by show i < _; omega,by show jk < _; omega,lV,hp,fun h => nomatch h⟩,⟨by omega,?_⟩,.inr ⟨_,rfl,rfl,rfl⟩⟩
  intro e he ar
  have _ : i ≠ e := fun h => ar (by rw [h]; rfl)
  simp only [an,bq]; repeat rw [if_neg (by omega)]
end Go.Proofs.YtkmbcjnaaokilaaGreatDoor
