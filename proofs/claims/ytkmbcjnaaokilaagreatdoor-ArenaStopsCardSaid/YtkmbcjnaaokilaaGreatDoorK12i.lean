/-
  Layer 8 once more, for codes that have a part of one's own memory: Alone.
-/
import Derived.Test.YtkmbcjnaaokilaaGreatDoorK12h
namespace Go.Proofs.YtkmbcjnaaokilaaGreatDoor
set_option linter.unusedSimpArgs false
set_option linter.unusedVariables false
open Go.RowKit Go.Maps
section
variable {C : dR} {W : h8 C}
def Mn (w : cM C) (O : List (Nat × bl)) (n : Nat) (W : h8 C) (R : cM C × Bool) (_ : bg → Env → Prop) (r : av) (O' : List (Nat × bl)) (bI : Nat) : Prop :=
 ∃ w',ff W w' = ff W R.1 ∧ r = .bR [lI w',dH R.2] ∧ jw W w' O' bI ∧ jQ (hP W w) (hP W w') O n O' bI
structure UP (W : h8 C) (w : cM C) (t : Int) (J : bg → Env → Prop) (O : List (Nat × bl)) (n i : Nat) (w' : cM C) (c1 : List (Nat × bl)) (bM : Nat) : Prop where
 fL : ff W w' = ff W (eT w t i)
 own : jw W w' c1 bM
 cS : jQ (hP W w) (hP W w') O n c1 bM
 le : n + 3 ≤ bM
 lK : ∀ e ∈ hP W w',e < n ∨ n + 3 ≤ e
 g1 : al c1 (n + 1) = some (Hb w')
 bQ : al c1 (n + 2) = some (.box 63 ri)
 fC : al c1 n = some (.cq J)
def UQ (W : h8 C) (w : cM C) (t : Int) (N K : Nat) (J : bg → Env → Prop) (O : List (Nat × bl)) (n : Nat) (k : Nat) (S : ak) : Prop :=
 ∃ (i : Nat) (w' : cM C) (c1 : List (Nat × bl)) (bM : Nat),i ≤ N ∧ i ≤ K ∧ k = N - i ∧ S = ⟨[(1,aI t),(3,.ptr (n + 1) 0 0),(6,.ptr (n + 2) 0 0),(27,aI N),(28,aI i)],c1,bM⟩ ∧ UP W w t J O n i w' c1 bM
set_option maxHeartbeats 8000000 in
theorem QD (w : cM C) (m : Nat) (mn : Int) {k : Nat} (h : jh w k) (K : Nat) (Ib : mn.toNat ≤ K ∨ (eL (eT w ((m : Int) + 1) K) ⟨0,(m : Int) + 1,0⟩).2 = false) (a7 : k + K ≤ 900) (kC : m < w.tasks.length) (ie : jf w m = false)
  (O : List (Nat × bl)) (n : Nat) (ay : jw W w O n) : fv 26 [lI w,aI ((m : Int) + 1),aI mn] O n (Mn w O n W (eT w ((m : Int) + 1) mn.toNat,!(kh (eT w ((m : Int) + 1) mn.toNat) m))) := by
 refine nJ Tryz.func26 ajB rfl fun J => ?_
 have hid := fE n
 have fU := oY C
 have dY := Gd h
 have bN : ∀ e ∈ hP W w,e < n := fun e he => rh ay he
 have af : ¬ ((m : Int) + 1) < 1 := by omega
 have aj : ¬ (w.tasks.length : Int) < (m : Int) + 1 := by omega
 have bL : IntKind.i64.wrap ((m : Int) + 1 - 1) = (m : Int) := by rw [IntKind.wrap_i64]; omega
 have b2 := QR w m (by omega)
 rw [ie] at b2
 obtain ⟨t,aO⟩ : ∃ t : Int,t = (m : Int) + 1 := ⟨_,rfl⟩
 rw [← aO] at Ib af aj bL ⊢
 have ale := Lib.hid aO
 clear aO
 obtain ⟨N,dS⟩ : ∃ N,N = mn.toNat := ⟨_,rfl⟩
 have cd : max mn 0 = (N : Int) := by omega
 rw [← dS] at Ib ⊢
 have uQ := Lib.hid dS
 clear dS
 unfold S4 RX;delta ab aR a9 aa aA a6
 have ad := And.intro @hid (And.intro @af (And.intro @aj (And.intro @bL (And.intro @cd @fU))))
 refine ae fun _ aK _ _ => ai fun _ aG => ?_;refine an ad ?_;refine aG _ (aK (some ([1,2,3,6],none)) _ (ae fun _ aQ _ _ => ae fun _ bG _ _ => ai fun _ bZ => ?_));refine ag 2 ad ?_;refine ag 4 ad ?_;refine ag 2 ad ?_;refine ag 3 ad ?_;refine ag 2 ad ?_;refine aL 1 ad ?_;refine Or.inl (Or.inl ⟨_,b2,?_⟩);refine an ad ?_;refine bZ _ (bG (some ([1,2,3,6,24],none)) _ (bB (aQ (some ([1,2,3,6],none)) _ (ae fun _ bp _ _ => ae fun _ cp _ _ => ai fun _ c0 => ?_))));refine an ad ?_;refine c0 _ (cp (some ([1,3,6,27,28],none)) _ (cx fun _ _ vC _ _ => ?_));refine jS (UQ W w t N K J O n) (N) (some ([1,3,6,27,28],none)) ([]) ?_ ?_
 ·try refine eC ?_
  refine ⟨0,w,_,_,by omega,by omega,by omega,rfl,⟨rfl,kn ay (by omega) fun e he => ?_,⟨by omega,fun e he ar => ?_,fun e he => .inl he⟩,by omega,fun e he => .inl (bN e he),?_,?_,?_⟩⟩
  ·have := bN e he
   simp only [al,bn]; repeat rw [if_neg (by omega)]
  ·simp only [al,bn]; repeat rw [if_neg (by omega)]
  ·simp [al]
  ·simp [al]
  ·simp [al]
 ·intro k b0 aY
  obtain ⟨i,w',c1,bM,aq,am5,rfl,rfl,br⟩ := aY
  have iP := fE bM
  have yN := br.le
  have d0 := c3 (n := bM) (d := n) (by omega)
  have d1 := c3 (n := bM) (d := n + 1) (by omega)
  have d2 := c3 (n := bM) (d := n + 2) (by omega)
  have a0 := br.fC
  have bE := br.g1
  have bP := br.bQ
  have mD := Mg br.fL.symm (HV t i h)
  have hlen : w'.tasks.length = w.tasks.length := (qO br.fL).trans (Ox t i w)
  have Jn := T2 br.fL ⟨0,t,0⟩
  obtain ⟨y,a1⟩ : ∃ y,w'.tasks[m]? = some y := ⟨_,List.getElem?_eq_getElem (by omega)⟩
  have a2 : kh w' m = y.live := by unfold kh; rw [a1]; rfl
  have dV : m < w'.tasks.length := by omega
  have fW : (0 : Int) ≤ (m : Int) := by omega
  have ja : (m : Int) < (w'.tasks.length : Int) := by omega
  have k2 := Fh y
  have mf : ∀ e ∈ hP W w',e < bM := fun e he => rh br.own he
  have eF : i = N ∨ (i < N ∧ (eL (eT w t i) ⟨0,t,0⟩).2 = false) ∨ (i < N ∧ i < K ∧ (eL (eT w t i) ⟨0,t,0⟩).2 = true) := by
   rcases Nat.lt_or_ge i N with h | h
   ·cases ao : (eL (eT w t i) ⟨0,t,0⟩).2
    ·exact .inr (.inl ⟨h,rfl⟩)
    ·refine .inr (.inr ⟨h,?_,rfl⟩)
     rcases Ib with ch | ch
     ·omega
     ·rcases Nat.lt_or_ge i K with aw | aw
      ·exact aw
      ·obtain rfl : i = K := by omega
       rw [ao] at ch; cases ch
   ·exact .inl (by omega)
  intro _ ee _ jm
  rcases eF with dT | ⟨dT,ao⟩ | ⟨dT,amX,ao⟩
  ·skip
   have cE : ¬ (i : Int) < (N : Int) := by omega
   subst dT
   have kX : kh (eT w t i) m = y.live := by rw [← EY br.fL,a2]
   have aD := And.intro ad (And.intro @iP (And.intro @d0 (And.intro @d1 (And.intro @d2 (And.intro @a0 (And.intro @bE (And.intro @bP (And.intro @cE (And.intro @a1 (And.intro @dV (And.intro @fW @ja)))))))))))
   refine ae fun _ ct _ _ => ai fun _ cG => ?_;refine aU aD ?_;refine cG _ (ct (some ([1,3,6,27,28,29],none)) _ (ae fun _ _ _ kW => bB (kW 0 _ (jm 0 _ (vC _ (bp (some ([1,3,6],none)) _ (ae fun _ fQ _ _ => ?_)))))));refine hy [] (n := 8) fun _ eB => ?_;refine hv ?_;refine cR 1 aD ?_;refine cR 2 aD ?_;refine cR 2 aD ?_;refine cR 1 aD ?_;refine cR 1 aD ?_;refine lJ aD ?_;refine ⟨_,k2,?_⟩;refine eB _ ?_;refine hx ?_;refine ag 1 aD ?_;refine an aD ?_;refine fQ (some ([6,7],none)) _ ?_
   first | refine gd (aE aD) (aE aD) (aE aD) ?_ | refine gb (aE aD) (aE aD) (aE aD) ?_
   try dsimp only
   refine ⟨w',br.fL,by rw [kX]; rfl,kn br.own (by omega) fun e he => ?_,⟨by omega,fun e he ar => ?_,br.cS.new⟩⟩
   ·rcases br.lK e he with ch | ch
    ·simp only [al,bn]; repeat rw [if_neg (by omega)]
    ·simp only [al,bn]; repeat rw [if_neg (by omega)]
   ·simp only [al,bn]; repeat rw [if_neg (by omega)]
    exact br.cS.old e he ar
  ·skip
   have cE : (i : Int) < (N : Int) := by omega
   have cy := Fe w' ⟨0,t,0⟩ mD (by omega) c1 bM br.own
   have vy : eT w t N = eT w t i := by
    rw [show N = i + (N - i) by omega,HW,D0 ao]
   have kX : kh (eT w t N) m = y.live := by rw [vy,← EY br.fL,a2]
   rw [← Jn.2] at ao
   have bm := And.intro ad (And.intro @iP (And.intro @d0 (And.intro @d1 (And.intro @d2 (And.intro @a0 (And.intro @bE (And.intro @bP (And.intro @cE (And.intro @a1 (And.intro @dV (And.intro @fW @ja)))))))))))
   refine ae fun _ kd _ _ => ai fun _ hs => ?_;refine aU bm ?_;refine hs _ (kd (some ([1,3,6,27,28,29],none)) _ (ae fun _ h4 _ _ => bY (h4 (some ([1,3,6,27,28],none)) _ (ae fun _ _ _ AN => cx fun _ _ _ _ yK => ae fun _ lS _ _ => ai fun _ hK => ?_))));refine ag 1 bm ?_;refine aL 2 bm ?_;refine aL 1 bm ?_;refine Or.inr (ia (cy) (aE bm) (fun GB KG Dh mS wQ => ?_))
   obtain ⟨mX,uk,rfl,D7,p1,D5⟩ := wQ
   rw [ao] at D5
   rw [ao]
   have D5 := D5 rfl
   subst D5
   have El := p1.le
   have fC := p1.at (e := n) (X := .cq J) (by omega) (fun hm => by rcases br.lK _ hm with h | h <;> omega) a0
   have g1 := p1.at (e := n + 1) (X := Hb mX) (by omega) (fun hm => by rcases br.lK _ hm with h | h <;> omega) bE
   have bQ := p1.at (e := n + 2) (X := .box 63 ri) (by omega) (fun hm => by rcases br.lK _ hm with h | h <;> omega) bP
   have iQ := fE mS
   have dn := c3 (n := mS) (d := n) (by omega)
   have cw := c3 (n := mS) (d := n + 1) (by omega)
   have c2 := c3 (n := mS) (d := n + 2) (by omega)
   have bx := And.intro bm (And.intro @iQ (And.intro @dn (And.intro @cw (And.intro @c2 (And.intro @fC (And.intro @g1 @bQ))))))
   refine ag 5 bx ?_;refine an bx ?_;refine hK _ (lS (some ([1,3,6,8,9,27,28],none)) _ (ae fun _ _ _ It => ae fun _ qd _ _ => ai fun _ iT => ?_));refine an bx ?_;refine iT _ (qd (some ([1,3,6,8,27,28,38],none)) _ (bY (It 0 _ (yK 0 _ (by decide) (AN 0 _ (jm 0 _ (vC _ (bp (some ([1,3,6],none)) _ (ae fun _ kf _ _ => ?_)))))))));refine hy [] (n := 8) fun _ iV => ?_;refine hv ?_;refine cR 1 bx ?_;refine cR 2 bx ?_;refine cR 2 bx ?_;refine cR 1 bx ?_;refine cR 1 bx ?_;refine lJ bx ?_;refine ⟨_,k2,?_⟩;refine iV _ ?_;refine hx ?_;refine ag 1 bx ?_;refine an bx ?_;refine kf (some ([6,7],none)) _ ?_
   first | refine gd (aE bx) (aE bx) (aE bx) ?_ | refine gb (aE bx) (aE bx) (aE bx) ?_
   try dsimp only
   refine ⟨mX,by rw [vy]; exact br.fL,by rw [kX]; rfl,kn D7 (by omega) fun e he => ?_,⟨by omega,fun e he ar => ?_,br.cS.new⟩⟩
   ·have dY := mf e he
    rcases br.lK e he with ch | ch
    ·simp only [al,bn]; repeat rw [if_neg (by omega)]
    ·simp only [al,bn]; repeat rw [if_neg (by omega)]
   ·have vC : e ∉ hP W mX := fun hm => by
     rcases br.cS.new e hm with dY | dY
     ·exact ar dY
     ·omega
    simp only [al,bn]; repeat rw [if_neg (by omega)]
    rw [p1.old e (by omega) vC]
    exact br.cS.old e he ar
  ·skip
   have cE : (i : Int) < (N : Int) := by omega
   have dQ : IntKind.i64.wrap ((i : Int) + 1) = ((i + 1 : Nat) : Int) := by rw [IntKind.wrap_i64]; omega
   have cy := Fe w' ⟨0,t,0⟩ mD (by omega) c1 bM br.own
   have vy : eT w t (i + 1) = (eL (eT w t i) ⟨0,t,0⟩).1 := by rw [Oy,if_pos ao]
   rw [← Jn.2] at ao
   have bS := And.intro ad (And.intro @iP (And.intro @d0 (And.intro @d1 (And.intro @d2 (And.intro @a0 (And.intro @bE (And.intro @bP (And.intro @cE @dQ))))))))
   refine ae fun _ qe _ _ => ai fun _ lQ => ?_;refine aU bS ?_;refine lQ _ (qe (some ([1,3,6,27,28,29],none)) _ (ae fun _ oL _ _ => bY (oL (some ([1,3,6,27,28],none)) _ (ae fun _ kZ _ _ => cx fun _ rW _ _ _ => ae fun _ qf _ _ => ai fun _ oI => ?_))));refine ag 1 bS ?_;refine aL 2 bS ?_;refine aL 1 bS ?_;refine Or.inr (ia (cy) (aE bS) (fun GB KG Dh mS wQ => ?_))
   obtain ⟨mX,uk,rfl,D7,p1,_⟩ := wQ
   rw [ao]
   have El := p1.le
   have fC := p1.at (e := n) (X := .cq J) (by omega) (fun hm => by rcases br.lK _ hm with h | h <;> omega) a0
   have g1 := p1.at (e := n + 1) (X := Hb w') (by omega) (fun hm => by rcases br.lK _ hm with h | h <;> omega) bE
   have bQ := p1.at (e := n + 2) (X := .box 63 ri) (by omega) (fun hm => by rcases br.lK _ hm with h | h <;> omega) bP
   have iQ := fE mS
   have dn := c3 (n := mS) (d := n) (by omega)
   have cw := c3 (n := mS) (d := n + 1) (by omega)
   have c2 := c3 (n := mS) (d := n + 2) (by omega)
   have eb := And.intro bS (And.intro @iQ (And.intro @dn (And.intro @cw (And.intro @c2 (And.intro @fC (And.intro @g1 @bQ))))))
   refine ag 5 eb ?_;refine an eb ?_;refine oI _ (qf (some ([1,3,6,8,9,27,28],none)) _ (ae fun _ rX _ _ => ae fun _ oN _ _ => ai fun _ jE => ?_));refine an eb ?_;refine jE _ (oN (some ([1,3,6,8,27,28,38],none)) _ (bB (rX (some ([1,3,6,8,27,28],none)) _ (ai fun _ nz => ?_))));refine ag 1 eb ?_;refine aU eb ?_;refine nz _ (rW _ (kZ (some ([1,3,6,27,28],none)) _ (ai fun _ mI => ?_)));refine ag 1 eb ?_;refine an eb ?_;refine mI _ ?_;refine ee (N - (i + 1)) (some ([1,3,6,27,28],none)) _ ?_ ?_
   all_goals try refine eC ?_
   ·omega
   ·have acW : ∀ e ∈ hP W mX,e < mS := fun e he => rh D7 he
    have rL : ∀ e ∈ hP W mX,(e < n ∨ n + 3 ≤ e) ∧ e ≠ bM := fun e he => by
     rcases p1.new e he with ch | ch
     ·have := br.lK e ch
      have := mf e ch
      exact ⟨by assumption,by omega⟩
     ·exact ⟨.inr (by omega),by omega⟩
    refine ⟨i + 1,mX,_,_,by omega,by omega,by omega,rfl,⟨by rw [vy,uk]; exact Jn.1,kn D7 (by omega) fun e he => ?_,⟨by omega,fun e he ar => ?_,fun e he => ?_⟩,by omega,fun e he => (rL e he).1,?_,?_,?_⟩⟩
    ·have cA := acW e he
     obtain ⟨ch | ch,dY⟩ := rL e he
     ·simp only [al,bn]; repeat rw [if_neg (by omega)]
     ·simp only [al,bn]; repeat rw [if_neg (by omega)]
    ·have vC : e ∉ hP W w' := fun hm => by
      rcases br.cS.new e hm with dY | dY
      ·exact ar dY
      ·omega
     simp only [al,bn]; repeat rw [if_neg (by omega)]
     rw [p1.old e (by omega) vC]
     exact br.cS.old e he ar
    ·rcases p1.new e he with ch | ch
     ·exact br.cS.new e ch
     ·exact .inr (by omega)
    ·simp only [al,bn,reduceIte]; first | rfl | (repeat rw [if_neg (by omega)])
    ·simp only [al,bn]; repeat rw [if_neg (by omega)]
     exact bQ
    ·simp only [al,bn]; repeat rw [if_neg (by omega)]
     exact fC
end
end Go.Proofs.YtkmbcjnaaokilaaGreatDoor
