/-
  Layer 12 by shadows: the reference's Take; the law's rest.
-/
import Derived.Test.YtkmbcjnaaokilaaGreatDoorK12q
import Derived.Test.YtkmbcjnaaokilaaGreatDoorMC
import Derived.Test.YtkmbcjnaaokilaaGreatDoorK12o
import Derived.Test.YtkmbcjnaaokilaaGreatDoorMK13
namespace Go.Proofs.YtkmbcjnaaokilaaGreatDoor
set_option linter.unusedSimpArgs false
set_option linter.unusedVariables false
open Go.RowKit Go.Maps
def Xn (U : Nat → Bool) (B f : Nat) : Int := match sl U B f with
 | some b => (b : Int)
 | none => -1
structure PJ (l : b1) (a b : List bm) : Prop where
 len : a.length = b.length
 w : ∀ (i : Nat) x y,a[i]? = some x → b[i]? = some y → y.eV = x.eV ∧ y.ref = x.ref ∧ (y.val = x.val ∨ (bw l 0 ≤ (i : Int) ∧ (i : Int) ≤ bw l (l.blocks.toNat - 1)))
def ZY (l : b1) (g bW : Nat) (a b : List bm) (k : Nat) (S : ak) : Prop :=
 ∃ i : Nat,i ≤ a.length ∧ k = a.length - i ∧ S = ⟨[(1,.au 3 g (a.map c6)),(2,.au 3 bW (b.map c6)),(7,aG (bw l 0)),(9,aG (bw l (l.blocks.toNat - 1))),(11,aG i)],[(0,.box 25 (fu l))],1⟩
set_option maxHeartbeats 4000000 in
theorem ajM {l : b1} (aE : e4 l = 0) (af : 1 ≤ l.blocks) (g bW : Nat) (a b : List bm) (a9 : a.length ≤ 1000000) (h : PJ l a b) : cq 20 [.agg (fu l),.au 3 g (a.map c6),.au 3 bW (b.map c6)] (eA true) := by
 refine df Tryz.func20 anz rfl ?_
 have aI := (kb aE).1.2.2
 have d : ((a.length : Int) != (b.length : Int)) = false := by rw [h.len]; simp
 have bX : cq 38 [.agg (fu l),aG 0] (.bY [aG (bw l 0),aG (fX 0)]) := xz aE 0 (by omega)
 have cL := xz aE (l.blocks.toNat - 1) (by omega)
 have w0 : IntKind.i64.wrap (l.blocks - 1) = ((l.blocks.toNat - 1 : Nat) : Int) := by rw [IntKind.wrap_i64]; omega
 unfold bK Wu Vm;delta ab aQ a8 aa ay a3
 have ad := And.intro @d @w0
 refine ae fun _ aK _ _ => ai fun _ aH => ?_;refine al ad ?_;refine aH _ (aK (some ([1,2,3],none)) _ (ae fun _ aP _ _ => ae fun _ bI _ _ => ai fun _ b0 => ?_));refine aS ad ?_;refine b0 _ (bI (some ([1,2,3,17],none)) _ (bs (aP (some ([1,2,3],none)) _ (ae fun _ bp _ _ => ai fun _ bE => ?_))));refine ag 1 ad ?_;refine aM 1 ad ?_;refine Or.inl (Or.inl ⟨_,bX,?_⟩);refine al ad ?_;refine bE _ (bp (some ([1,2,3,7],none)) _ (ae fun _ cv _ _ => ai fun _ aR => ?_));refine ag 1 ad ?_;refine ag 2 ad ?_;refine ag 1 ad ?_;refine aM 1 ad ?_;refine Or.inl (Or.inl ⟨_,cL,?_⟩);refine al ad ?_;refine aR _ (cv (some ([1,2,7,9],none)) _ (ae fun _ eo _ _ => ae fun _ cr _ _ => ai fun _ cD => ?_));refine al ad ?_;refine cD _ (cr (some ([1,2,7,9,11],none)) _ ?_)
 refine cj fun _ _ AB _ _ => ?_;refine ie (ZY l g bW a b) (a.length) (some ([1,2,7,9,11],some ([0],1))) ([]) ?_ ?_
 ·try refine dR ?_
  exact ⟨0,by omega,by omega,by rfl⟩
 ·intro k bT aW
  obtain ⟨i,aq,rfl,rfl⟩ := aW
  have dM : IntKind.i64.wrap ((i : Int) + 1) = ((i + 1 : Nat) : Int) := by rw [IntKind.wrap_i64]; omega
  have dZ : i = a.length ∨ ∃ x y,a[i]? = some x ∧ b[i]? = some y ∧ y.eV = x.eV ∧ y.ref = x.ref ∧ ((bw l 0 ≤ (i : Int) ∧ (i : Int) ≤ bw l (l.blocks.toNat - 1)) ∨ (y.val = x.val ∧ (i : Int) < bw l 0) ∨ (y.val = x.val ∧ bw l 0 ≤ (i : Int) ∧ bw l (l.blocks.toNat - 1) < (i : Int))) := by
   rcases Nat.lt_or_ge i a.length with aB | aB
   ·have af := List.getElem?_eq_getElem aB
    have aj := List.getElem?_eq_getElem (l := b) (i := i) (by have := h.len; omega)
    obtain ⟨bJ,cf,dA⟩ := h.w i _ _ af aj
    refine .inr ⟨_,_,af,aj,bJ,cf,?_⟩
    rcases Int.lt_or_le (i : Int) (bw l 0) with c | c
    ·rcases dA with dA | dA
     ·exact .inr (.inl ⟨dA,c⟩)
     ·omega
    ·rcases Int.lt_or_le (bw l (l.blocks.toNat - 1)) (i : Int) with c2 | c2
     ·rcases dA with dA | dA
      ·exact .inr (.inr ⟨dA,c,c2⟩)
      ·omega
     ·exact .inl ⟨c,c2⟩
   ·exact .inl (by omega)
  intro _ fx _ mq
  rcases dZ with ea | ⟨x,⟨xT,Be,arH⟩,e7,rm,bj,aA,⟨cd,c2⟩ | ⟨bR,cd⟩ | ⟨bR,cd,c2⟩⟩
  ·skip
   have cn : ¬ (i : Int) < (a.length : Int) := by omega
   have aD := And.intro ad @cn
   refine ae fun _ _ _ lo => ae fun _ fF _ _ => ai fun _ eF => ?_;refine aS aD ?_;refine eF _ (fF (some ([1,2,7,9,11,34],none)) _ (bs (lo 0 _ (mq 0 _ (AB _ (eo (some ([],none)) _ (ae fun _ hM _ _ => ai fun _ hr => ?_)))))));refine al aD ?_;refine hr _ (hM (some ([6],none)) _ ?_)
   exact cQ aD
  ·skip
   have bQ := (List.getElem?_eq_some_iff.1 e7).1
   have cn : (i : Int) < (a.length : Int) := by omega
   have fH : (i : Int) < (b.length : Int) := by have := h.len; omega
   dsimp only at bj aA
   subst bj aA
   have bc := And.intro ad (And.intro @cn (And.intro @dM (And.intro @fH (And.intro @e7 (And.intro @rm (And.intro @cd @c2))))))
   refine ae fun _ hZ _ _ => ae fun _ hK _ _ => ai fun _ gf => ?_;refine aS bc ?_;refine gf _ (hK (some ([1,2,7,9,11,34],none)) _ (bU (hZ (some ([1,2,7,9,11],none)) _ (ae fun _ iu _ _ => cj fun _ iP _ _ _ => ae fun _ ns _ _ => ai fun _ ir => ?_))));refine ag 3 bc ?_;refine ag 1 bc ?_;refine aS bc ?_;refine ir _ (ns (some ([1,2,7,9,11,12],none)) _ (ae fun _ iQ _ _ => ae fun _ mv _ _ => ai fun _ hY => ?_));refine ag 3 bc ?_;refine ag 4 bc ?_;refine al bc ?_;refine hY _ (mv (some ([1,2,7,9,11,12,48],none)) _ (bU (ai fun _ jU => ?_)));refine ag 3 bc ?_;refine ag 2 bc ?_;refine aS bc ?_;refine jU _ (iQ (some ([1,2,7,9,11,12],none)) _ (ae fun _ mw _ _ => ?_));refine gh [] (n := 5) fun _ mu => ?_
   refine gY ?_;refine cF 1 bc ?_;refine cF 3 bc ?_;refine og bc ?_;refine mu _ ?_;refine gZ ?_;refine al bc ?_;refine Or.inl ⟨_,JH x,?_⟩;refine mw (some ([1,2,7,9,11,60],none)) _ (bs (iP _ (iu (some ([1,2,7,9,11],none)) _ (ai fun _ lq => ?_))));refine ag 2 bc ?_;refine al bc ?_;refine lq _ ?_;refine fx (a.length - (i + 1)) (some ([1,2,7,9,11],some ([0],1))) _ ?_ ?_
   all_goals try refine dR ?_
   ·omega
   ·exact ⟨i + 1,by omega,rfl,rfl⟩
  ·skip
   have bQ := (List.getElem?_eq_some_iff.1 e7).1
   have cn : (i : Int) < (a.length : Int) := by omega
   have fH : (i : Int) < (b.length : Int) := by have := h.len; omega
   dsimp only at bj aA bR
   subst bj aA bR
   have eu : ¬ bw l 0 ≤ (i : Int) := by omega
   have bt := And.intro ad (And.intro @cn (And.intro @dM (And.intro @fH (And.intro @e7 (And.intro @rm @eu)))))
   refine ae fun _ pQ _ _ => ae fun _ ox _ _ => ai fun _ nk => ?_;refine aS bt ?_;refine nk _ (ox (some ([1,2,7,9,11,34],none)) _ (bU (pQ (some ([1,2,7,9,11],none)) _ (ae fun _ oy _ _ => cj fun _ yK _ _ _ => ae fun _ ri _ _ => ai fun _ nn => ?_))));refine ag 3 bt ?_;refine ag 1 bt ?_;refine aS bt ?_;refine nn _ (ri (some ([1,2,7,9,11,12],none)) _ (ae fun _ vo _ _ => ae fun _ r2 _ _ => ai fun _ oY => ?_));refine ag 3 bt ?_;refine ag 4 bt ?_;refine al bt ?_;refine oY _ (r2 (some ([1,2,7,9,11,12,48],none)) _ (bs (vo (some ([1,2,7,9,11,12],none)) _ (ae fun _ vp _ _ => ?_))));refine gh [] (n := 5) fun _ pM => ?_;refine gY ?_;refine cF 1 bt ?_;refine cF 3 bt ?_;refine og bt ?_;refine pM _ ?_;refine gZ ?_
   refine al bt ?_;refine Or.inl ⟨_,JH x,?_⟩;refine vp (some ([1,2,7,9,11,60],none)) _ (bs (yK _ (oy (some ([1,2,7,9,11],none)) _ (ai fun _ q9 => ?_))));refine ag 2 bt ?_;refine al bt ?_;refine q9 _ ?_;refine fx (a.length - (i + 1)) (some ([1,2,7,9,11],some ([0],1))) _ ?_ ?_
   all_goals try refine dR ?_
   ·omega
   ·exact ⟨i + 1,by omega,rfl,rfl⟩
  ·skip
   have bQ := (List.getElem?_eq_some_iff.1 e7).1
   have cn : (i : Int) < (a.length : Int) := by omega
   have fH : (i : Int) < (b.length : Int) := by have := h.len; omega
   dsimp only at bj aA bR
   subst bj aA bR
   have eu : ¬ (i : Int) ≤ bw l (l.blocks.toNat - 1) := by omega
   have bB := And.intro ad (And.intro @cn (And.intro @dM (And.intro @fH (And.intro @e7 (And.intro @rm (And.intro @cd @eu))))))
   refine ae fun _ vq _ _ => ae fun _ yO _ _ => ai fun _ pN => ?_;refine aS bB ?_;refine pN _ (yO (some ([1,2,7,9,11,34],none)) _ (bU (vq (some ([1,2,7,9,11],none)) _ (ae fun _ vr _ _ => cj fun _ vt _ _ _ => ae fun _ yP _ _ => ai fun _ ov => ?_))));refine ag 3 bB ?_;refine ag 1 bB ?_;refine aS bB ?_;refine ov _ (yP (some ([1,2,7,9,11,12],none)) _ (ae fun _ vu _ _ => ae fun _ yQ _ _ => ai fun _ vk => ?_));refine ag 3 bB ?_;refine ag 4 bB ?_;refine al bB ?_;refine vk _ (yQ (some ([1,2,7,9,11,12,48],none)) _ (bs (vu (some ([1,2,7,9,11,12],none)) _ (ae fun _ yR _ _ => ?_))));refine gh [] (n := 5) fun _ vm => ?_;refine gY ?_;refine cF 1 bB ?_;refine cF 3 bB ?_;refine og bB ?_;refine vm _ ?_;refine gZ ?_
   refine al bB ?_;refine Or.inl ⟨_,JH x,?_⟩;refine yR (some ([1,2,7,9,11,60],none)) _ (bs (vt _ (vr (some ([1,2,7,9,11],none)) _ (ai fun _ CK => ?_))));refine ag 2 bB ?_;refine al bB ?_;refine CK _ ?_;refine fx (a.length - (i + 1)) (some ([1,2,7,9,11],some ([0],1))) _ ?_ ?_
   all_goals try refine dR ?_
   ·omega
   ·exact ⟨i + 1,by omega,rfl,rfl⟩
end Go.Proofs.YtkmbcjnaaokilaaGreatDoor
namespace Go.Proofs.YtkmbcjnaaokilaaGreatDoor
open Go.RowKit

end Go.Proofs.YtkmbcjnaaokilaaGreatDoor
namespace Go.Proofs.YtkmbcjnaaokilaaGreatDoor
set_option linter.unusedSimpArgs false
set_option linter.unusedVariables false
open Go.RowKit Go.Maps
theorem QK (U : Nat → Bool) {B c : Nat} (h : c < B) : ((List.range B).filter U).contains c = U c := by
 rw [Bool.eq_iff_iff,List.contains_iff_mem,List.mem_filter]
 exact ⟨fun h => h.2,fun aj => ⟨List.mem_range.2 h,aj⟩⟩
theorem aok {l : b1} (f : Int → bm) {c : Nat} (h : c < l.blocks.toNat) : (p3 l f).contains c = eg l f c := QK _ h
theorem XB (l : b1) (f : Int → bm) : (p3 l f).length ≤ l.blocks.toNat := by
 unfold p3; exact Nat.le_trans (List.length_filter_le _ _) (by simp)
theorem XC {l : b1} (aE : e4 l = 0) {N : Nat} (dy : dm l 7 ≤ (N : Int)) (f : Int → bm) : p3 l (du (iy N f)) = p3 l f := by
 unfold p3
 exact List.filter_congr fun c aB => XG aE dy f (by have := List.mem_range.1 aB; omega)
theorem XS {N : Nat} {f : Int → bm} {i : Nat} {y : bm} (h : (iy N f)[i]? = some y) : y = f i := by
 unfold iy at h
 rw [List.getElem?_map] at h
 cases af : (List.range N)[i]? with
 | none => rw [af] at h; cases h
 | some j =>
  rw [af] at h
  have aj := (List.getElem?_eq_some_iff.1 af)
  obtain ⟨av,aY⟩ := aj
  simp at aY
  subst aY
  exact (Option.some.inj h).symm
inductive aoN (l : b1) (ws : List bm) (g : Bool) (m : Nat) : Prop
 | ary (h : g = false) (af : Xn (eg l (du ws)) l.blocks.toNat m = -1) (X : oP) (cC : js 100 (oI (.dp (fV l m)) (du ws)) = X) (va : X.live = false) (rY : fk X.s = (0,9,true) ∧ X.f = du ws)
 | cH (h : g = false) (b : Nat) (aI : b < l.blocks.toNat) (af : Xn (eg l (du ws)) l.blocks.toNat m = (b : Int)) (X : oP) (cC : js 100 (oI (.dp (fV l m)) (du ws)) = X) (va : X.live = false) (rY : fk X.s = ((b : Int),0,true) ∧ X.f = mE l (du ws) b)
 | aqh (h : g = true) (af : eg l (du ws) m = true) (X : oP) (cC : js 100 (oI (.ev (ij l m)) (du ws)) = X) (va : X.live = false) (rY : fk X.s = ((m : Int),0,true) ∧ X.f = oa l (du ws) m)
 | aqd (h : g = true) (af : eg l (du ws) m = false) (X : oP) (cC : js 100 (oI (.ev (ij l m)) (du ws)) = X) (va : X.live = false) (rY : fk X.s = ((m : Int),13,true) ∧ X.f = du ws)
end Go.Proofs.YtkmbcjnaaokilaaGreatDoor
