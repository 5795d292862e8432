/-
  Layer 12 by shadows: a chain's Next; chains as codes with parts of their own.
-/
import Derived.Test.YtkmbcjnaaokilaaGreatDoorK12zb
import Derived.Test.YtkmbcjnaaokilaaGreatDoorMC
import Derived.Test.YtkmbcjnaaokilaaGreatDoorMS
namespace Go.Proofs.YtkmbcjnaaokilaaGreatDoor
set_option linter.unusedSimpArgs false
set_option linter.unusedVariables false
open Go.RowKit Go.Maps
theorem ZR {s : da} {a : e5} {L : fF} (h : s.now = some a) : nq s L = [L.i,L.g] := by unfold nq; rw [h]
theorem Ni {s : da} {L : fF} {O O' : List (Nat × bl)} {n bI : Nat} (h : jQ [] (nq s L) O n O' bI) {a : e5} (aZ : s.now = some a) : n < L.i ∧ n < L.g := by
 have := h.new
 rw [ZR aZ] at this
 exact ⟨(this L.i (by simp)).resolve_left (by simp),(this L.g (by simp)).resolve_left (by simp)⟩
set_option maxHeartbeats 16000000 in
set_option maxRecDepth 20000 in
theorem afA {k : Nat} (s : da) (ao : ju k s) (aB : k ≤ 900) (fz : 0 < s.l.blocks) (g : dW) {L : fF} (O : List (Nat × bl)) (n : Nat) (cX : Hh s L O n) : fv 144 [.agg (pT s (tH s.now L)),.agg (kz g)] O n (Ms (nq s L) O n (dN s g)) := by
 refine xB Tryz.func144 ajn rfl fun J => ?_
 have hid := fE n
 cases vv : s.now with
 | none =>
  have BJ := fun X N => QC s ao fz vv X N
  have ba : dN s g = hF s := by unfold dN; rw [vv]
  have aY : nq s L = [] := by unfold nq; rw [vv]
  rw [ba,aY,show tH none L = av.v .nilIface from rfl]
  unfold FT FI;delta ab aR aa a6
  have ad := @hid
  refine ae fun bz aK b6 cb => ai fun b7 aG => ?_;refine an ad ?_;refine aG _ (aK (some ([2,3,5],none)) _ (ae fun b8 aQ bt b5 => ae fun b9 bG c7 dF => ai fun cD bZ => ?_));refine ag 2 ad ?_;refine an ad ?_;refine Or.inl ⟨_,aa9 wD,?_⟩;refine bZ _ (bG (some ([2,3,5,12],none)) _ (bY (ae fun cv bp cY dk => ai fun cC bD => ?_)));refine ag 1 ad ?_;refine aL 1 ad ?_;refine Or.inr (ia (BJ _ _) (aE ad) (fun uR vW tt px nw => ?_))
  obtain ⟨du,rfl,br,bs⟩ := nw
  dsimp only at br bs
  have ha := bs.at (e := n) (X := .cq J) (by omega) (by simp) (aE ad)
  have c4 := bs.at (e := n + 3) (X := .box 81 nh) (by omega) (by simp) (aE ad)
  have ub := bs.le
  have jG := gO (show Plain (DE (hF s).1 du) from Fp _ _)
  have aD := And.intro ad (And.intro @ha (And.intro @c4 @jG))
  refine ag 5 aD ?_;refine an aD ?_;refine bD _ (bp (some ([4,5,6],none)) _ (bt _ ?_))
  first | refine gd (aE aD) (aE aD) (aE aD) ?_ | refine gb (aE aD) (aE aD) (aE aD) ?_
  try dsimp only
  refine ⟨du,rfl,fun a aZ => (by have ch := Ni bs aZ; exact (br a aZ).to (by omega) (by simp only [al,bn]; repeat rw [if_neg (by omega)]) (by simp only [al,bn]; repeat rw [if_neg (by omega)])),⟨by omega,fun e he ar => ?_,fun e he => ?_⟩⟩
  ·simp only [al,bn]; repeat rw [if_neg (by omega)]
   rw [bs.old e (by omega) (by simp)]
   simp only [al,bn]; repeat rw [if_neg (by omega)]
  ·have := (bs.new e he).resolve_left (by simp)
   exact .inr (by omega)
 | some a =>
  obtain ⟨af,aj,aw,aV⟩ := ao.now a vv
  have H7 := cX a vv
  have aY : nq s L = [L.i,L.g] := by unfold nq; rw [vv]
  rw [aY]
  obtain ⟨ty,x,f,he,hm,bK,mM⟩ := kP.step (s := (a,L)) g (n := 0) af (by decide)
  have jW : tH (some a) L = .dr ty x := he
  have aq := H7.i
  have lk := H7.g
  have oE : ∀ p q r : bl,kP.own (a,L) ((n + 3,p) :: (n + 2,q) :: (n + 1,r) :: (n,.cq J) :: O) (n + 4) := fun p q r => ko.to H7 (by omega) (by simp only [al]; repeat rw [if_neg (by omega)]) (by simp only [al]; repeat rw [if_neg (by omega)])
  rw [jW]
  by_cases aX : (cI a g).2.2 = true
  ·have ba : dN s g = hF (ta s (cI a g).1) := by rw [JY vv,if_pos aX]
   have O1 := BW af aj aw g
   have uw := fun du (hp : Plain du.er) => af0 ao aB fz aV (cI a g).1 O1 (L := du) hp
   have BJ := fun X N => QC (ta s (cI a g).1) (ao.E7 fz O1) fz rfl X N
   rw [ba]
   unfold FT FI;delta ab aR aa a6
   have ad := @hid
   refine ae fun bz aK b6 cb => ai fun b7 aG => ?_;refine an ad ?_;refine aG _ (aK (some ([2,3,5],none)) _ (ae fun b8 aQ bt b5 => ae fun b9 bG c7 dF => ai fun cD bZ => ?_));refine ag 2 ad ?_;refine an ad ?_;refine Or.inl ⟨_,yE wD,?_⟩;refine bZ _ (bG (some ([2,3,5,12],none)) _ (bB (aQ (some ([2,3,5],none)) _ (ae fun cv bp cY dk => ai fun cC bD => ?_))));refine ag 2 ad ?_;refine ag 1 ad ?_;refine aL 1 ad ?_;refine Or.inr (Aq (mM _ _ (oE _ _ _)) (hm) (bK) (aE ad) (aE ad) (fun Dd FC Df lq tP => ?_))
   obtain ⟨⟨dD,du⟩,Iu,rfl,br,bs⟩ := tP
   obtain rfl : dD = (cI a g).1 := (Prod.mk.inj Iu).1
   dsimp only at br bs
   have xf : ∀ e,n ≤ e → e ∉ kP.ids (a,L) := fun e af aj => by
    have aj : e ∈ [L.i,L.g] := aj
    simp only [List.mem_cons,List.not_mem_nil,or_false] at aj
    omega
   have ha := bs.at (e := n) (X := .cq J) (by omega) (xf _ (by omega)) (aE ad)
   have c4 := bs.at (e := n + 1) (X := .box 72 (pT s (.dr ty x))) (by omega) (xf _ (by omega)) (aE ad)
   have gi := bs.at (e := n + 3) (X := .box 81 nh) (by omega) (xf _ (by omega)) (aE ad)
   have ub := bs.le
   have iQ := fE lq
   have dn := c3 (n := lq) (d := n) (by omega)
   have cw := c3 (n := lq) (d := n + 1) (by omega)
   have eE := c3 (n := lq) (d := n + 3) (by omega)
   have jG := gO (jq (cI a g).1 du)
   have AP : lC.enc ((cI a g).1,du) = jk (cI a g).1 du := rfl
   have vo : (lC.next (a,L) g).2.2 = true := aX
   have aew := uw du br.pl
   have aD := And.intro ad (And.intro @iQ (And.intro @dn (And.intro @cw (And.intro @eE (And.intro @ha (And.intro @c4 (And.intro @gi (And.intro @jG (And.intro @AP (And.intro @vo @aX))))))))))
   refine ag 7 aD ?_;refine an aD ?_;refine bD _ (bp (some ([2,5,7,8,9],none)) _ (ae fun dy ck gV gA => ai fun bo aP => ?_));refine aU aD ?_;refine aP _ (ck (some ([2,5,8,9],none)) _ (ae fun ey ee mg jm => ae fun fB ct hL gU => ai fun fN cG => ?_));refine an aD ?_;refine cG _ (ct (some ([2,5,8,29],none)) _ (bB (ee (some ([2,5],none)) _ (ae fun gG dJ mN kW => ai fun gZ dt => ?_))));refine ag 1 aD ?_;refine aL 1 aD ?_;refine Or.inl (Or.inl ⟨_,aew,?_⟩);refine aL 1 aD ?_;refine Or.inr (ia (BJ _ _) (aE aD) (fun MD Rq GJ sd AH => ?_))
   obtain ⟨kr,rfl,p0,kU⟩ := AH
   dsimp only at p0 kU
   have Ek := kU.le
   have f0 := kU.at (e := n) (X := .cq J) (by omega) (by simp) (aE aD)
   have f3 := kU.at (e := n + 3) (X := .box 81 nh) (by omega) (by simp) (aE aD)
   have Bw := gO (show Plain (DE (hF (ta s (cI a g).1)).1 kr) from Fp _ _)
   have bm := And.intro aD (And.intro @f0 (And.intro @f3 @Bw))
   refine ag 5 bm ?_;refine an bm ?_;refine dt _ (dJ (some ([4,5,6],none)) _ ?_)
   first | refine gd (aE bm) (aE bm) (aE bm) ?_ | refine gb (aE bm) (aE bm) (aE bm) ?_
   try dsimp only
   refine ⟨kr,rfl,fun a aZ => (by have ch := Ni kU aZ; exact (p0 a aZ).to (by omega) (by simp only [al,bn]; repeat rw [if_neg (by omega)]) (by simp only [al,bn]; repeat rw [if_neg (by omega)])),⟨by omega,fun e he ar => ?_,fun e he => ?_⟩⟩
   ·simp only [al,bn]; repeat rw [if_neg (by omega)]
    rw [kU.old e (by omega) (by simp)]
    simp only [al,bn]; repeat rw [if_neg (by omega)]
    rw [bs.old e (by omega) ar]
    simp only [al,bn]; repeat rw [if_neg (by omega)]
   ·have := (kU.new e he).resolve_left (by simp)
    exact .inr (by omega)
  ·have ba : dN s g = ({ s with now := some (cI a g).1 },(cI a g).2.1,false) := by rw [JY vv,if_neg aX]
   have aX : (cI a g).2.2 = false := by simpa using aX
   rw [ba]
   unfold FT FI;delta ab aR aa a6
   have ad := @hid
   refine ae fun bz aK b6 cb => ai fun b7 aG => ?_;refine an ad ?_;refine aG _ (aK (some ([2,3,5],none)) _ (ae fun b8 aQ bt b5 => ae fun b9 bG c7 dF => ai fun cD bZ => ?_));refine ag 2 ad ?_;refine an ad ?_;refine Or.inl ⟨_,yE wD,?_⟩;refine bZ _ (bG (some ([2,3,5,12],none)) _ (bB (aQ (some ([2,3,5],none)) _ (ae fun cv bp cY dk => ai fun cC bD => ?_))));refine ag 2 ad ?_;refine ag 1 ad ?_;refine aL 1 ad ?_;refine Or.inr (Aq (mM _ _ (oE _ _ _)) (hm) (bK) (aE ad) (aE ad) (fun Dd FC Df lq tP => ?_))
   obtain ⟨⟨dD,du⟩,Iu,rfl,br,bs⟩ := tP
   obtain rfl : dD = (cI a g).1 := (Prod.mk.inj Iu).1
   dsimp only at br bs
   have xf : ∀ e,n ≤ e → e ∉ kP.ids (a,L) := fun e af aj => by
    have aj : e ∈ [L.i,L.g] := aj
    simp only [List.mem_cons,List.not_mem_nil,or_false] at aj
    omega
   have ha := bs.at (e := n) (X := .cq J) (by omega) (xf _ (by omega)) (aE ad)
   have c4 := bs.at (e := n + 1) (X := .box 72 (pT s (.dr ty x))) (by omega) (xf _ (by omega)) (aE ad)
   have gi := bs.at (e := n + 3) (X := .box 81 nh) (by omega) (xf _ (by omega)) (aE ad)
   have ub := bs.le
   have iQ := fE lq
   have dn := c3 (n := lq) (d := n) (by omega)
   have cw := c3 (n := lq) (d := n + 1) (by omega)
   have eE := c3 (n := lq) (d := n + 3) (by omega)
   have jG := gO (jq (cI a g).1 du)
   have AP : lC.enc ((cI a g).1,du) = jk (cI a g).1 du := rfl
   have vo : (lC.next (a,L) g).2.2 = false := aX
   have aD := And.intro ad (And.intro @iQ (And.intro @dn (And.intro @cw (And.intro @eE (And.intro @ha (And.intro @c4 (And.intro @gi (And.intro @jG (And.intro @AP (And.intro @vo @aX))))))))))
   refine ag 7 aD ?_;refine an aD ?_;refine bD _ (bp (some ([2,5,7,8,9],none)) _ (ae fun dy ck gV gA => ai fun bo aP => ?_));refine aU aD ?_;refine aP _ (ck (some ([2,5,8,9],none)) _ (ae fun ey ee mg jm => ae fun fB ct hL gU => ai fun fN cG => ?_));refine an aD ?_;refine cG _ (ct (some ([2,5,8,29],none)) _ (bY (ae fun gG dJ mN kW => ?_)));refine hy [] (n := 4) fun gZ dt => ?_;refine hv ?_;refine cR 1 aD ?_;refine cR 2 aD ?_;refine lJ aD ?_;refine dt _ ?_;refine hx ?_;refine ag 1 aD ?_;refine an aD ?_;refine dJ (some ([4,5,6],none)) _ (mg _ ?_)
   first | refine gd (aE aD) (aE aD) (aE aD) ?_ | refine gb (aE aD) (aE aD) (aE aD) ?_
   try dsimp only
   have qg : ∀ e ∈ [du.i,du.g],(e = L.i ∨ e = L.g) ∨ n + 4 < e := fun e he => by
    rcases bs.new e he with h | h
    ·have h : e ∈ [L.i,L.g] := h
     simp only [List.mem_cons,List.not_mem_nil,or_false] at h
     exact .inl h
    ·exact .inr h
   have ane := qg du.i (by simp)
   have anf := qg du.g (by simp)
   have amV : du.i < lq := ko.i br
   have D8 : du.g < lq := ko.g br
   refine ⟨du,rfl,fun hT ab2 => (by cases ab2; exact ko.to br (by omega) (by simp only [al,bn]; repeat rw [if_neg (by omega)]) (by simp only [al,bn]; repeat rw [if_neg (by omega)])),⟨by omega,fun e he ar => ?_,fun e he => ?_⟩⟩
   ·simp only [al,bn]; repeat rw [if_neg (by omega)]
    rw [bs.old e (by omega) ar]
    simp only [al,bn]; repeat rw [if_neg (by omega)]
   ·rcases qg e he with h | h
    ·exact .inl (by simp only [List.mem_cons,List.not_mem_nil,or_false]; exact h)
    ·exact .inr (by omega)
end Go.Proofs.YtkmbcjnaaokilaaGreatDoor
namespace Go.Proofs.YtkmbcjnaaokilaaGreatDoor
open Go.RowKit

def Tb : bU := (.seq (.ops [ab 0 (.ah (a6 false))]) (.seq (.ops [ab 12 (.dE [.int .i64,.int .i64,.int .i64] [(0,(1,(aA 1))),(1,(1,(aA 8))),(2,(1,(aA 40)))]),ab 1 (.cm 25 [.int .i64,.int .i64,.int .i64]),aR (.st 3 (aa 1) (aa 12))]) (.seq (.ops [ab 13 (.aC (aa 1) (some 3)),ab 14 (.call 10 [.tmp 13]),ab 2 (.ah (aa 14))]) (.seq (.ops [ab 15 (.g2 1 [(aA 5),(aA 5),(aA (-5)),(aA (-5)),(aA 39),(aA 39)]),ab 3 (.ah (aa 15))]) (.seq (.ops [ab 16 (.g2 1 [(aA 5),(aA 6),(aA 5),(aA 5),(aA 39),(aA 0)]),ab 4 (.ah (aa 16))]) (.seq (.seq (.ops [ab 5 (.ah (aA 0))]) (.block 0 (.loop (.seq (.seq (.ops [ab 17 (.ah (aa 5)),ab 18 (.ah (aa 3)),ab 19 (.len (aa 18)),ab 20 (.bin .lss (aa 17) (aa 19))]) (.cond (aa 20) .skip (.exit 0))) (.seq (.block 1 (.seq (.np [[],[],[],[1,2],[3],[4],[0,5],[6],[7],[7],[8,6,0,1,2,3,4,5,6,7,8],[9,10,0,1,2,3,4,5,6,7,8,9,10]] [ab 24 (.aC (aa 1) (some 3)),ab 25 (.ah (aa 3)),ab 26 (.ah (aa 5)),ab 27 (.dU (aa 25) (aa 26) 1),ab 28 (.aC (aa 27) none),ab 29 (.kH true (aa 28) (aA 0)),ab 30 (.call 12 [.tmp 24,.tmp 29]),ab 23 (.ah (aa 30)),ab 31 (.ext (aa 23) 0),ab 32 (.ext (aa 23) 1),ab 6 (.ah (aa 31)),ab 7 (.ah (aa 32))]) (.seq (.seq (.ops [ab 33 (.ah (aa 3)),ab 34 (.ah (aa 5)),ab 35 (.dU (aa 33) (aa 34) 1),ab 36 (.aC (aa 35) none),ab 37 (.bin .lss (aa 36) (aA 0))]) (.cond (aa 37) (.np [[],[],[],[1,2],[3],[4],[0,5],[6],[7],[7],[8,6,0,1,2,3,4,5,6,7,8],[9,10,0,1,2,3,4,5,6,7,8,9,10]] [ab 39 (.aC (aa 1) (some 3)),ab 40 (.ah (aa 3)),ab 41 (.ah (aa 5)),ab 42 (.dU (aa 40) (aa 41) 1),ab 43 (.aC (aa 42) none),ab 44 (.gen (.unOp .neg 3 (aa 43)) [.tmp 43]),ab 45 (.call 13 [.tmp 39,.tmp 44]),ab 38 (.ah (aa 45)),ab 46 (.ext (aa 38) 0),ab 47 (.ext (aa 38) 1),ab 6 (.ah (aa 46)),ab 7 (.ah (aa 47))]) .skip)) (.seq (.ops [ab 49 (.aC (aa 1) (some 3)),ab 50 (.ah (aa 2)),ab 51 (.ah (aa 6)),ab 52 (.call 17 [.tmp 49,.tmp 50,.tmp 51]),ab 48 (.ah (aa 52)),ab 53 (.ext (aa 48) 0),ab 54 (.ext (aa 48) 1),ab 55 (.ext (aa 48) 2),ab 56 (.ext (aa 48) 3),ab 8 (.ah (aa 53)),ab 9 (.ah (aa 54)),ab 10 (.ah (aa 55)),ab 11 (.ah (aa 56))]) (.seq (.seq (.ops [ab 57 (.ah (aa 7)),ab 58 (.bin .neq (aa 57) (aA 0)),ab 59 (.ah (aa 58)),a9 60 59 false (.ah (aa 11)),a9 61 59 false (.not (aa 60)),ab 62 (.pick (aa 59) (a6 true) (aa 61)),ab 63 (.ah (aa 62)),a9 64 63 false (.ah (aa 9)),a9 65 63 false (.ah (aa 4)),a9 66 63 false (.ah (aa 5)),a9 67 63 false (.dU (aa 65) (aa 66) 1),a9 68 63 false (.aC (aa 67) none),a9 69 63 false (.bin .neq (aa 64) (aa 68)),ab 70 (.pick (aa 63) (a6 true) (aa 69)),ab 71 (.ah (aa 70)),a9 72 71 false (.ah (aa 10)),a9 73 71 false (.bin .eql (aa 72) (aA 13)),a9 74 71 false (.ah (aa 5)),a9 75 71 false (.bin .eql (aa 74) (aA 3)),a9 76 71 false (.eqv true 4 (aa 73) (aa 75)),ab 77 (.pick (aa 71) (a6 true) (aa 76))]) (.cond (aa 77) (.seq (.ops [ab 0 (.ah (a6 false))]) .ret) .skip)) (.ops [ab 78 (.ah (aa 8)),ab 2 (.ah (aa 78))])))))) (.ops [ab 21 (.ah (aa 5)),ab 22 (.bin .add (aa 21) (aA 1)),ab 5 (.ah (aa 22))])))))) (.seq (.ops [ab 79 (.aC (aa 1) (some 3)),ab 80 (.ah (aa 2)),ab 81 (.call 19 [.tmp 79,.tmp 80]),ab 82 (.g2 1 [(aA 0),(aA 6),(aA 39)]),ab 83 (.call 18 [.tmp 81,.tmp 82]),ab 0 (.ah (aa 83))]) .ret)))))))
def R4 : List b3 := [.tmp 0]
theorem ajO : uH Tryz.prog rfl Tryz.f8 = some (Tb,R4) := by kernel_rfl
end Go.Proofs.YtkmbcjnaaokilaaGreatDoor
