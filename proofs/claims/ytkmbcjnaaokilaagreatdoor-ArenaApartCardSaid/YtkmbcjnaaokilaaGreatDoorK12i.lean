/-
  Layer 8 once more, for codes that have a part of one's own memory: Alone.
-/
import Derived.Test.YtkmbcjnaaokilaaGreatDoorK12h
namespace Go.Proofs.YtkmbcjnaaokilaaGreatDoor
set_option linter.unusedSimpArgs false
set_option linter.unusedVariables false
open Go.RowKit Go.Maps
section
variable {C : ed} {W : iz C}
def Yc (w : cN C) (O : List (Nat × bo)) (n : Nat) (W : iz C) (R : cN C × Bool) (_ : bl → Env → Prop) (r : aw) (O' : List (Nat × bo)) (bO : Nat) : Prop :=
 ∃ w',fl W w' = fl W R.1 ∧ r = .bY [od w',eA R.2] ∧ lM W w' O' bO ∧ kq (ix W w) (ix W w') O n O' bO
structure Yk (W : iz C) (w : cN C) (t : Int) (J : bl → Env → Prop) (O : List (Nat × bo)) (n i : Nat) (w' : cN C) (cV : List (Nat × bo)) (bG : Nat) : Prop where
 fY : fl W w' = fl W (e0 w t i)
 own : lM W w' cV bG
 c0 : kq (ix W w) (ix W w') O n cV bG
 le : n + 3 ≤ bG
 mj : ∀ e ∈ ix W w',e < n ∨ n + 3 ≤ e
 g1 : an cV (n + 1) = some (Jo w')
 bW : an cV (n + 2) = some (.box 63 uD)
 gA : an cV n = some (.cB J)
def Yl (W : iz C) (w : cN C) (t : Int) (N K : Nat) (J : bl → Env → Prop) (O : List (Nat × bo)) (n : Nat) (k : Nat) (S : ak) : Prop :=
 ∃ (i : Nat) (w' : cN C) (cV : List (Nat × bo)) (bG : Nat),i ≤ N ∧ i ≤ K ∧ k = N - i ∧ S = ⟨[(1,aG t),(3,.ptr (n + 1) 0 0),(6,.ptr (n + 2) 0 0),(27,aG N),(28,aG i)],cV,bG⟩ ∧ Yk W w t J O n i w' cV bG
set_option maxHeartbeats 8000000 in
theorem TC (w : cN C) (m : Nat) (mZ : Int) {k : Nat} (h : iW w k) (K : Nat) (Ko : mZ.toNat ≤ K ∨ (eU (e0 w ((m : Int) + 1) K) ⟨0,(m : Int) + 1,0⟩).2 = false) (a9 : k + K ≤ 900) (kT : m < w.tasks.length) (iB : jt w m = false)
  (O : List (Nat × bo)) (n : Nat) (ax : lM W w O n) : gg 26 [od w,aG ((m : Int) + 1),aG mZ] O n (Yc w O n W (e0 w ((m : Int) + 1) mZ.toNat,!(je (e0 w ((m : Int) + 1) mZ.toNat) m))) := by
 refine oF Tryz.func26 anf rfl fun J => ?_
 have hid := fG n
 have fo := pa C
 have c9 := Eo h
 have bQ : ∀ e ∈ ix W w,e < n := fun e he => rA ax he
 have af : ¬ ((m : Int) + 1) < 1 := by omega
 have aj : ¬ (w.tasks.length : Int) < (m : Int) + 1 := by omega
 have bJ : IntKind.i64.wrap ((m : Int) + 1 - 1) = (m : Int) := by rw [IntKind.wrap_i64]; omega
 have bX := TR w m (by omega)
 rw [iB] at bX
 obtain ⟨t,aL⟩ : ∃ t : Int,t = (m : Int) + 1 := ⟨_,rfl⟩
 rw [← aL] at Ko af aj bJ ⊢
 have Pp := Lib.hid aL
 clear aL
 obtain ⟨N,dy⟩ : ∃ N,N = mZ.toNat := ⟨_,rfl⟩
 have cf : max mZ 0 = (N : Int) := by omega
 rw [← dy] at Ko ⊢
 have rD := Lib.hid dy
 clear dy
 unfold Wh U9;delta ab aQ a8 aa ay a3
 have ad := And.intro @hid (And.intro @af (And.intro @aj (And.intro @bJ (And.intro @cf @fo))))
 refine ae fun _ aK _ _ => ai fun _ aH => ?_;refine al ad ?_;refine aH _ (aK (some ([1,2,3,6],none)) _ (ae fun _ aP _ _ => ae fun _ bI _ _ => ai fun _ b0 => ?_));refine ag 2 ad ?_;refine ag 4 ad ?_;refine ag 2 ad ?_;refine ag 3 ad ?_;refine ag 2 ad ?_;refine aM 1 ad ?_;refine Or.inl (Or.inl ⟨_,bX,?_⟩);refine al ad ?_;refine b0 _ (bI (some ([1,2,3,6,24],none)) _ (bs (aP (some ([1,2,3,6],none)) _ (ae fun _ bp _ _ => ae fun _ cz _ _ => ai fun _ c7 => ?_))));refine al ad ?_;refine c7 _ (cz (some ([1,3,6,27,28],none)) _ (cj fun _ _ xg _ _ => ?_));refine ie (Yl W w t N K J O n) (N) (some ([1,3,6,27,28],none)) ([]) ?_ ?_
 ·try refine dR ?_
  refine ⟨0,w,_,_,by omega,by omega,by omega,rfl,⟨rfl,nZ ax (by omega) fun e he => ?_,⟨by omega,fun e he ar => ?_,fun e he => .inl he⟩,by omega,fun e he => .inl (bQ e he),?_,?_,?_⟩⟩
  ·have := bQ e he
   simp only [an,bq]; repeat rw [if_neg (by omega)]
  ·simp only [an,bq]; repeat rw [if_neg (by omega)]
  ·simp [an]
  ·simp [an]
  ·simp [an]
 ·intro k bT aW
  obtain ⟨i,w',cV,bG,aq,aqB,rfl,rfl,br⟩ := aW
  have jm := fG bG
  have CW := br.le
  have d0 := cW (n := bG) (d := n) (by omega)
  have d1 := cW (n := bG) (d := n + 1) (by omega)
  have d2 := cW (n := bG) (d := n + 2) (by omega)
  have a0 := br.gA
  have bS := br.g1
  have bH := br.bW
  have ng := O2 br.fY.symm (J9 t i h)
  have hlen : w'.tasks.length = w.tasks.length := (rT br.fY).trans (Kb t i w)
  have LL := Xj br.fY ⟨0,t,0⟩
  obtain ⟨y,aV⟩ : ∃ y,w'.tasks[m]? = some y := ⟨_,List.getElem?_eq_getElem (by omega)⟩
  have a1 : je w' m = y.live := by unfold je; rw [aV]; rfl
  have dA : m < w'.tasks.length := by omega
  have fr : (0 : Int) ≤ (m : Int) := by omega
  have jY : (m : Int) < (w'.tasks.length : Int) := by omega
  have k2 := Hj y
  have oZ : ∀ e ∈ ix W w',e < bG := fun e he => rA br.own he
  have dZ : i = N ∨ (i < N ∧ (eU (e0 w t i) ⟨0,t,0⟩).2 = false) ∨ (i < N ∧ i < K ∧ (eU (e0 w t i) ⟨0,t,0⟩).2 = true) := by
   rcases Nat.lt_or_ge i N with h | h
   ·cases ao : (eU (e0 w t i) ⟨0,t,0⟩).2
    ·exact .inr (.inl ⟨h,rfl⟩)
    ·refine .inr (.inr ⟨h,?_,rfl⟩)
     rcases Ko with c1 | c1
     ·omega
     ·rcases Nat.lt_or_ge i K with av | av
      ·exact av
      ·obtain rfl : i = K := by omega
       rw [ao] at c1; cases c1
   ·exact .inl (by omega)
  intro _ eo _ jb
  rcases dZ with ea | ⟨ea,ao⟩ | ⟨ea,aqs,ao⟩
  ·skip
   have cn : ¬ (i : Int) < (N : Int) := by omega
   subst ea
   have lr : je (e0 w t i) m = y.live := by rw [← Dz br.fY,a1]
   have aD := And.intro ad (And.intro @jm (And.intro @d0 (And.intro @d1 (And.intro @d2 (And.intro @a0 (And.intro @bS (And.intro @bH (And.intro @cn (And.intro @aV (And.intro @dA (And.intro @fr @jY)))))))))))
   refine ae fun _ cr _ _ => ai fun _ cD => ?_;refine aS aD ?_;refine cD _ (cr (some ([1,3,6,27,28,29],none)) _ (ae fun _ _ _ ln => bs (ln 0 _ (jb 0 _ (xg _ (bp (some ([1,3,6],none)) _ (ae fun _ fx _ _ => ?_)))))));refine gh [] (n := 8) fun _ eJ => ?_;refine gY ?_;refine cF 1 aD ?_;refine cF 2 aD ?_;refine cF 2 aD ?_;refine cF 1 aD ?_;refine cF 1 aD ?_;refine lh aD ?_;refine ⟨_,k2,?_⟩;refine eJ _ ?_;refine gZ ?_;refine ag 1 aD ?_;refine al aD ?_;refine fx (some ([6,7],none)) _ ?_
   first | refine gv (aF aD) (aF aD) (aF aD) ?_ | refine gu (aF aD) (aF aD) (aF aD) ?_
   try dsimp only
   refine ⟨w',br.fY,by rw [lr]; rfl,nZ br.own (by omega) fun e he => ?_,⟨by omega,fun e he ar => ?_,br.c0.new⟩⟩
   ·rcases br.mj e he with c1 | c1
    ·simp only [an,bq]; repeat rw [if_neg (by omega)]
    ·simp only [an,bq]; repeat rw [if_neg (by omega)]
   ·simp only [an,bq]; repeat rw [if_neg (by omega)]
    exact br.c0.old e he ar
  ·skip
   have cn : (i : Int) < (N : Int) := by omega
   have cL := MC w' ⟨0,t,0⟩ ng (by omega) cV bG br.own
   have xc : e0 w t N = e0 w t i := by
    rw [show N = i + (N - i) by omega,Ka,F5 ao]
   have lr : je (e0 w t N) m = y.live := by rw [xc,← Dz br.fY,a1]
   rw [← LL.2] at ao
   have bc := And.intro ad (And.intro @jm (And.intro @d0 (And.intro @d1 (And.intro @d2 (And.intro @a0 (And.intro @bS (And.intro @bH (And.intro @cn (And.intro @aV (And.intro @dA (And.intro @fr @jY)))))))))))
   refine ae fun _ kC _ _ => ai fun _ hI => ?_;refine aS bc ?_;refine hI _ (kC (some ([1,3,6,27,28,29],none)) _ (ae fun _ hJ _ _ => bU (hJ (some ([1,3,6,27,28],none)) _ (ae fun _ _ _ yy => cj fun _ _ _ _ Aq => ae fun _ lu _ _ => ai fun _ im => ?_))));refine ag 1 bc ?_;refine aM 2 bc ?_;refine aM 1 bc ?_;refine Or.inr (iJ (cL) (aF bc) (fun IJ Nh EY nB yt => ?_))
   obtain ⟨pg,vC,rfl,Ge,q3,Ga⟩ := yt
   rw [ao] at Ga
   rw [ao]
   have Ga := Ga rfl
   subst Ga
   have Gt := q3.le
   have gA := q3.at (e := n) (X := .cB J) (by omega) (fun hm => by rcases br.mj _ hm with h | h <;> omega) a0
   have g1 := q3.at (e := n + 1) (X := Jo pg) (by omega) (fun hm => by rcases br.mj _ hm with h | h <;> omega) bS
   have bW := q3.at (e := n + 2) (X := .box 63 uD) (by omega) (fun hm => by rcases br.mj _ hm with h | h <;> omega) bH
   have jS := fG nB
   have de := cW (n := nB) (d := n) (by omega)
   have cd := cW (n := nB) (d := n + 1) (by omega)
   have c2 := cW (n := nB) (d := n + 2) (by omega)
   have bt := And.intro bc (And.intro @jS (And.intro @de (And.intro @cd (And.intro @c2 (And.intro @gA (And.intro @g1 @bW))))))
   refine ag 5 bt ?_;refine al bt ?_;refine im _ (lu (some ([1,3,6,8,9,27,28],none)) _ (ae fun _ _ _ KJ => ae fun _ ns _ _ => ai fun _ ir => ?_));refine al bt ?_;refine ir _ (ns (some ([1,3,6,8,27,28,38],none)) _ (bU (KJ 0 _ (Aq 0 _ (by decide) (yy 0 _ (jb 0 _ (xg _ (bp (some ([1,3,6],none)) _ (ae fun _ iQ _ _ => ?_)))))))));refine gh [] (n := 8) fun _ iO => ?_;refine gY ?_;refine cF 1 bt ?_;refine cF 2 bt ?_;refine cF 2 bt ?_;refine cF 1 bt ?_;refine cF 1 bt ?_;refine lh bt ?_;refine ⟨_,k2,?_⟩;refine iO _ ?_;refine gZ ?_;refine ag 1 bt ?_;refine al bt ?_;refine iQ (some ([6,7],none)) _ ?_
   first | refine gv (aF bt) (aF bt) (aF bt) ?_ | refine gu (aF bt) (aF bt) (aF bt) ?_
   try dsimp only
   refine ⟨pg,by rw [xc]; exact br.fY,by rw [lr]; rfl,nZ Ge (by omega) fun e he => ?_,⟨by omega,fun e he ar => ?_,br.c0.new⟩⟩
   ·have c9 := oZ e he
    rcases br.mj e he with c1 | c1
    ·simp only [an,bq]; repeat rw [if_neg (by omega)]
    ·simp only [an,bq]; repeat rw [if_neg (by omega)]
   ·have xg : e ∉ ix W pg := fun hm => by
     rcases br.c0.new e hm with c9 | c9
     ·exact ar c9
     ·omega
    simp only [an,bq]; repeat rw [if_neg (by omega)]
    rw [q3.old e (by omega) xg]
    exact br.c0.old e he ar
  ·skip
   have cn : (i : Int) < (N : Int) := by omega
   have dM : IntKind.i64.wrap ((i : Int) + 1) = ((i + 1 : Nat) : Int) := by rw [IntKind.wrap_i64]; omega
   have cL := MC w' ⟨0,t,0⟩ ng (by omega) cV bG br.own
   have xc : e0 w t (i + 1) = (eU (e0 w t i) ⟨0,t,0⟩).1 := by rw [Rm,if_pos ao]
   rw [← LL.2] at ao
   have bB := And.intro ad (And.intro @jm (And.intro @d0 (And.intro @d1 (And.intro @d2 (And.intro @a0 (And.intro @bS (And.intro @bH (And.intro @cn @dM))))))))
   refine ae fun _ rf _ _ => ai fun _ mr => ?_;refine aS bB ?_;refine mr _ (rf (some ([1,3,6,27,28,29],none)) _ (ae fun _ pP _ _ => bU (pP (some ([1,3,6,27,28],none)) _ (ae fun _ kD _ _ => cj fun _ rh _ _ _ => ae fun _ pQ _ _ => ai fun _ pK => ?_))));refine ag 1 bB ?_;refine aM 2 bB ?_;refine aM 1 bB ?_;refine Or.inr (iJ (cL) (aF bB) (fun IJ Nh EY nB yt => ?_))
   obtain ⟨pg,vC,rfl,Ge,q3,_⟩ := yt
   rw [ao]
   have Gt := q3.le
   have gA := q3.at (e := n) (X := .cB J) (by omega) (fun hm => by rcases br.mj _ hm with h | h <;> omega) a0
   have g1 := q3.at (e := n + 1) (X := Jo w') (by omega) (fun hm => by rcases br.mj _ hm with h | h <;> omega) bS
   have bW := q3.at (e := n + 2) (X := .box 63 uD) (by omega) (fun hm => by rcases br.mj _ hm with h | h <;> omega) bH
   have jS := fG nB
   have de := cW (n := nB) (d := n) (by omega)
   have cd := cW (n := nB) (d := n + 1) (by omega)
   have c2 := cW (n := nB) (d := n + 2) (by omega)
   have ep := And.intro bB (And.intro @jS (And.intro @de (And.intro @cd (And.intro @c2 (And.intro @gA (And.intro @g1 @bW))))))
   refine ag 5 ep ?_;refine al ep ?_;refine pK _ (pQ (some ([1,3,6,8,9,27,28],none)) _ (ae fun _ pR _ _ => ae fun _ oy _ _ => ai fun _ jV => ?_));refine al ep ?_;refine jV _ (oy (some ([1,3,6,8,27,28,38],none)) _ (bs (pR (some ([1,3,6,8,27,28],none)) _ (ai fun _ nm => ?_))));refine ag 1 ep ?_;refine aS ep ?_;refine nm _ (rh _ (kD (some ([1,3,6,27,28],none)) _ (ai fun _ nn => ?_)));refine ag 1 ep ?_;refine al ep ?_;refine nn _ ?_;refine eo (N - (i + 1)) (some ([1,3,6,27,28],none)) _ ?_ ?_
   all_goals try refine dR ?_
   ·omega
   ·have agu : ∀ e ∈ ix W pg,e < nB := fun e he => rA Ge he
    have sU : ∀ e ∈ ix W pg,(e < n ∨ n + 3 ≤ e) ∧ e ≠ bG := fun e he => by
     rcases q3.new e he with c1 | c1
     ·have := br.mj e c1
      have := oZ e c1
      exact ⟨by assumption,by omega⟩
     ·exact ⟨.inr (by omega),by omega⟩
    refine ⟨i + 1,pg,_,_,by omega,by omega,by omega,rfl,⟨by rw [xc,vC]; exact LL.1,nZ Ge (by omega) fun e he => ?_,⟨by omega,fun e he ar => ?_,fun e he => ?_⟩,by omega,fun e he => (sU e he).1,?_,?_,?_⟩⟩
    ·have cJ := agu e he
     obtain ⟨c1 | c1,c9⟩ := sU e he
     ·simp only [an,bq]; repeat rw [if_neg (by omega)]
     ·simp only [an,bq]; repeat rw [if_neg (by omega)]
    ·have xg : e ∉ ix W w' := fun hm => by
      rcases br.c0.new e hm with c9 | c9
      ·exact ar c9
      ·omega
     simp only [an,bq]; repeat rw [if_neg (by omega)]
     rw [q3.old e (by omega) xg]
     exact br.c0.old e he ar
    ·rcases q3.new e he with c1 | c1
     ·exact br.c0.new e c1
     ·exact .inr (by omega)
    ·simp only [an,bq,reduceIte]; first | rfl | (repeat rw [if_neg (by omega)])
    ·simp only [an,bq]; repeat rw [if_neg (by omega)]
     exact bW
    ·simp only [an,bq]; repeat rw [if_neg (by omega)]
     exact gA
end
end Go.Proofs.YtkmbcjnaaokilaaGreatDoor
