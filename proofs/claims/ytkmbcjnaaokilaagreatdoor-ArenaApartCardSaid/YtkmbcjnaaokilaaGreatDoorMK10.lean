/-
  Layer 12 by shadows: a chain's Next; chains as codes with parts of their own.
-/
import Derived.Test.YtkmbcjnaaokilaaGreatDoorK12zb
import Derived.Test.YtkmbcjnaaokilaaGreatDoorMC
import Derived.Test.YtkmbcjnaaokilaaGreatDoorMS
namespace Go.Proofs.YtkmbcjnaaokilaaGreatDoor
set_option linter.unusedSimpArgs false
set_option linter.unusedVariables false
open Go.RowKit Go.Maps
theorem adb {s : cO} {a : fa} {L : fO} (h : s.now = some a) : n9 s L = [L.i,L.g] := by unfold n9; rw [h]
theorem P6 {s : cO} {L : fO} {O O' : List (Nat × bo)} {n bO : Nat} (h : kq [] (n9 s L) O n O' bO) {a : fa} (a5 : s.now = some a) : n < L.i ∧ n < L.g := by
 have := h.new
 rw [adb a5] at this
 exact ⟨(this L.i (by simp)).resolve_left (by simp),(this L.g (by simp)).resolve_left (by simp)⟩
set_option maxHeartbeats 16000000 in
set_option maxRecDepth 20000 in
theorem aja {k : Nat} (s : cO) (ao : jI k s) (az : k ≤ 900) (fK : 0 < s.l.blocks) (g : ei) {L : fO} (O : List (Nat × bo)) (n : Nat) (dX : Ju s L O n) : gg 144 [.agg (pr s (u1 s.now L)),.agg (kR g)] O n (Ph (n9 s L) O n (eb s g)) := by
 refine xy Tryz.func144 am0 rfl fun J => ?_
 have hid := fG n
 cases ub : s.now with
 | none =>
  have Dt := fun X N => TA s ao fK ub X N
  have bf : eb s g = hT s := by unfold eb; rw [ub]
  have aW : n9 s L = [] := by unfold n9; rw [ub]
  rw [bf,aW,show u1 none L = aw.v .nilIface from rfl]
  unfold HQ HF;delta ab aQ aa a3
  have ad := @hid
  refine ae fun bD aK b9 ck => ai fun ca aH => ?_;refine al ad ?_;refine aH _ (aK (some ([2,3,5],none)) _ (ae fun cg aP bx b8 => ae fun ch bI dd dU => ai fun cM b0 => ?_));refine ag 2 ad ?_;refine al ad ?_;refine Or.inl ⟨_,aeA ye,?_⟩;refine b0 _ (bI (some ([2,3,5,12],none)) _ (bU (ae fun cG bp c5 dn => ai fun cI bE => ?_)));refine ag 1 ad ?_;refine aM 1 ad ?_;refine Or.inr (iJ (Dt _ _) (aF ad) (fun wc xJ uK qw oq => ?_))
  obtain ⟨dw,rfl,br,bu⟩ := oq
  dsimp only at br bu
  have fP := bu.at (e := n) (X := .cB J) (by omega) (by simp) (aF ad)
  have dh := bu.at (e := n + 3) (X := .box 81 n0) (by omega) (by simp) (aF ad)
  have w8 := bu.le
  have jW := gX (show Plain (FC (hT s).1 dw) from Hr _ _)
  have aD := And.intro ad (And.intro @fP (And.intro @dh @jW))
  refine ag 5 aD ?_;refine al aD ?_;refine bE _ (bp (some ([4,5,6],none)) _ (bx _ ?_))
  first | refine gv (aF aD) (aF aD) (aF aD) ?_ | refine gu (aF aD) (aF aD) (aF aD) ?_
  try dsimp only
  refine ⟨dw,rfl,fun a a5 => (by have c1 := P6 bu a5; exact (br a a5).to (by omega) (by simp only [an,bq]; repeat rw [if_neg (by omega)]) (by simp only [an,bq]; repeat rw [if_neg (by omega)])),⟨by omega,fun e he ar => ?_,fun e he => ?_⟩⟩
  ·simp only [an,bq]; repeat rw [if_neg (by omega)]
   rw [bu.old e (by omega) (by simp)]
   simp only [an,bq]; repeat rw [if_neg (by omega)]
  ·have := (bu.new e he).resolve_left (by simp)
   exact .inr (by omega)
 | some a =>
  obtain ⟨af,aj,av,aY⟩ := ao.now a ub
  have Kl := dX a ub
  have aW : n9 s L = [L.i,L.g] := by unfold n9; rw [ub]
  rw [aW]
  obtain ⟨ty,x,f,he,hm,bL,nt⟩ := la.step (s := (a,L)) g (n := 0) af (by decide)
  have kg : u1 (some a) L = .ds ty x := he
  have aq := Kl.i
  have lU := Kl.g
  have oV : ∀ p q r : bo,la.own (a,L) ((n + 3,p) :: (n + 2,q) :: (n + 1,r) :: (n,.cB J) :: O) (n + 4) := fun p q r => kJ.to Kl (by omega) (by simp only [an]; repeat rw [if_neg (by omega)]) (by simp only [an]; repeat rw [if_neg (by omega)])
  rw [kg]
  by_cases a6 : (cU a g).2.2 = true
  ·have bf : eb s g = hT (um s (cU a g).1) := by rw [Mu ub,if_pos a6]
   have RQ := DI af aj av g
   have xm := fun dw (hp : Plain dw.eG) => ajx ao az fK aY (cU a g).1 RQ (L := dw) hp
   have Dt := fun X N => TA (um s (cU a g).1) (ao.Hb fK RQ) fK rfl X N
   rw [bf]
   unfold HQ HF;delta ab aQ aa a3
   have ad := @hid
   refine ae fun bD aK b9 ck => ai fun ca aH => ?_;refine al ad ?_;refine aH _ (aK (some ([2,3,5],none)) _ (ae fun cg aP bx b8 => ae fun ch bI dd dU => ai fun cM b0 => ?_));refine ag 2 ad ?_;refine al ad ?_;refine Or.inl ⟨_,Am ye,?_⟩;refine b0 _ (bI (some ([2,3,5,12],none)) _ (bs (aP (some ([2,3,5],none)) _ (ae fun cG bp c5 dn => ai fun cI bE => ?_))));refine ag 2 ad ?_;refine ag 1 ad ?_;refine aM 1 ad ?_;refine Or.inr (B0 (nt _ _ (oV _ _ _)) (hm) (bL) (aF ad) (aF ad) (fun EV HA EW lZ u9 => ?_))
   obtain ⟨⟨dN,dw⟩,KL,rfl,br,bu⟩ := u9
   obtain rfl : dN = (cU a g).1 := (Prod.mk.inj KL).1
   dsimp only at br bu
   have yS : ∀ e,n ≤ e → e ∉ la.ids (a,L) := fun e af aj => by
    have aj : e ∈ [L.i,L.g] := aj
    simp only [List.mem_cons,List.not_mem_nil,or_false] at aj
    omega
   have fP := bu.at (e := n) (X := .cB J) (by omega) (yS _ (by omega)) (aF ad)
   have dh := bu.at (e := n + 1) (X := .box 72 (pr s (.ds ty x))) (by omega) (yS _ (by omega)) (aF ad)
   have gL := bu.at (e := n + 3) (X := .box 81 n0) (by omega) (yS _ (by omega)) (aF ad)
   have w8 := bu.le
   have jS := fG lZ
   have de := cW (n := lZ) (d := n) (by omega)
   have cd := cW (n := lZ) (d := n + 1) (by omega)
   have eu := cW (n := lZ) (d := n + 3) (by omega)
   have jW := gX (jF (cU a g).1 dw)
   have Cw : mc.enc ((cU a g).1,dw) = jz (cU a g).1 dw := rfl
   have w4 : (mc.next (a,L) g).2.2 = true := a6
   have ah2 := xm dw br.pl
   have aD := And.intro ad (And.intro @jS (And.intro @de (And.intro @cd (And.intro @eu (And.intro @fP (And.intro @dh (And.intro @gL (And.intro @jW (And.intro @Cw (And.intro @w4 @a6))))))))))
   refine ag 7 aD ?_;refine al aD ?_;refine bE _ (bp (some ([2,5,7,8,9],none)) _ (ae fun dB cv g7 gw => ai fun bz aR => ?_));refine aS aD ?_;refine aR _ (cv (some ([2,5,8,9],none)) _ (ae fun eK eo mT jb => ae fun fM cr h0 g6 => ai fun ga cD => ?_));refine al aD ?_;refine cD _ (cr (some ([2,5,8,29],none)) _ (bs (eo (some ([2,5],none)) _ (ae fun gK dF nu ln => ai fun hc dq => ?_))));refine ag 1 aD ?_;refine aM 1 aD ?_;refine Or.inl (Or.inl ⟨_,ah2,?_⟩);refine aM 1 aD ?_;refine Or.inr (iJ (Dt _ _) (aF aD) (fun Pq UC IU ti Cp => ?_))
   obtain ⟨kL,rfl,qj,lk⟩ := Cp
   dsimp only at qj lk
   have Gs := lk.le
   have f0 := lk.at (e := n) (X := .cB J) (by omega) (by simp) (aF aD)
   have f3 := lk.at (e := n + 3) (X := .box 81 n0) (by omega) (by simp) (aF aD)
   have Da := gX (show Plain (FC (hT (um s (cU a g).1)).1 kL) from Hr _ _)
   have bc := And.intro aD (And.intro @f0 (And.intro @f3 @Da))
   refine ag 5 bc ?_;refine al bc ?_;refine dq _ (dF (some ([4,5,6],none)) _ ?_)
   first | refine gv (aF bc) (aF bc) (aF bc) ?_ | refine gu (aF bc) (aF bc) (aF bc) ?_
   try dsimp only
   refine ⟨kL,rfl,fun a a5 => (by have c1 := P6 lk a5; exact (qj a a5).to (by omega) (by simp only [an,bq]; repeat rw [if_neg (by omega)]) (by simp only [an,bq]; repeat rw [if_neg (by omega)])),⟨by omega,fun e he ar => ?_,fun e he => ?_⟩⟩
   ·simp only [an,bq]; repeat rw [if_neg (by omega)]
    rw [lk.old e (by omega) (by simp)]
    simp only [an,bq]; repeat rw [if_neg (by omega)]
    rw [bu.old e (by omega) ar]
    simp only [an,bq]; repeat rw [if_neg (by omega)]
   ·have := (lk.new e he).resolve_left (by simp)
    exact .inr (by omega)
  ·have bf : eb s g = ({ s with now := some (cU a g).1 },(cU a g).2.1,false) := by rw [Mu ub,if_neg a6]
   have a6 : (cU a g).2.2 = false := by simpa using a6
   rw [bf]
   unfold HQ HF;delta ab aQ aa a3
   have ad := @hid
   refine ae fun bD aK b9 ck => ai fun ca aH => ?_;refine al ad ?_;refine aH _ (aK (some ([2,3,5],none)) _ (ae fun cg aP bx b8 => ae fun ch bI dd dU => ai fun cM b0 => ?_));refine ag 2 ad ?_;refine al ad ?_;refine Or.inl ⟨_,Am ye,?_⟩;refine b0 _ (bI (some ([2,3,5,12],none)) _ (bs (aP (some ([2,3,5],none)) _ (ae fun cG bp c5 dn => ai fun cI bE => ?_))));refine ag 2 ad ?_;refine ag 1 ad ?_;refine aM 1 ad ?_;refine Or.inr (B0 (nt _ _ (oV _ _ _)) (hm) (bL) (aF ad) (aF ad) (fun EV HA EW lZ u9 => ?_))
   obtain ⟨⟨dN,dw⟩,KL,rfl,br,bu⟩ := u9
   obtain rfl : dN = (cU a g).1 := (Prod.mk.inj KL).1
   dsimp only at br bu
   have yS : ∀ e,n ≤ e → e ∉ la.ids (a,L) := fun e af aj => by
    have aj : e ∈ [L.i,L.g] := aj
    simp only [List.mem_cons,List.not_mem_nil,or_false] at aj
    omega
   have fP := bu.at (e := n) (X := .cB J) (by omega) (yS _ (by omega)) (aF ad)
   have dh := bu.at (e := n + 1) (X := .box 72 (pr s (.ds ty x))) (by omega) (yS _ (by omega)) (aF ad)
   have gL := bu.at (e := n + 3) (X := .box 81 n0) (by omega) (yS _ (by omega)) (aF ad)
   have w8 := bu.le
   have jS := fG lZ
   have de := cW (n := lZ) (d := n) (by omega)
   have cd := cW (n := lZ) (d := n + 1) (by omega)
   have eu := cW (n := lZ) (d := n + 3) (by omega)
   have jW := gX (jF (cU a g).1 dw)
   have Cw : mc.enc ((cU a g).1,dw) = jz (cU a g).1 dw := rfl
   have w4 : (mc.next (a,L) g).2.2 = false := a6
   have aD := And.intro ad (And.intro @jS (And.intro @de (And.intro @cd (And.intro @eu (And.intro @fP (And.intro @dh (And.intro @gL (And.intro @jW (And.intro @Cw (And.intro @w4 @a6))))))))))
   refine ag 7 aD ?_;refine al aD ?_;refine bE _ (bp (some ([2,5,7,8,9],none)) _ (ae fun dB cv g7 gw => ai fun bz aR => ?_));refine aS aD ?_;refine aR _ (cv (some ([2,5,8,9],none)) _ (ae fun eK eo mT jb => ae fun fM cr h0 g6 => ai fun ga cD => ?_));refine al aD ?_;refine cD _ (cr (some ([2,5,8,29],none)) _ (bU (ae fun gK dF nu ln => ?_)));refine gh [] (n := 4) fun hc dq => ?_;refine gY ?_;refine cF 1 aD ?_;refine cF 2 aD ?_;refine lh aD ?_;refine dq _ ?_;refine gZ ?_;refine ag 1 aD ?_;refine al aD ?_;refine dF (some ([4,5,6],none)) _ (mT _ ?_)
   first | refine gv (aF aD) (aF aD) (aF aD) ?_ | refine gu (aF aD) (aF aD) (aF aD) ?_
   try dsimp only
   have rj : ∀ e ∈ [dw.i,dw.g],(e = L.i ∨ e = L.g) ∨ n + 4 < e := fun e he => by
    rcases bu.new e he with h | h
    ·have h : e ∈ [L.i,L.g] := h
     simp only [List.mem_cons,List.not_mem_nil,or_false] at h
     exact .inl h
    ·exact .inr h
   have aqK := rj dw.i (by simp)
   have aqL := rj dw.g (by simp)
   have aqq : dw.i < lZ := kJ.i br
   have Gf : dw.g < lZ := kJ.g br
   refine ⟨dw,rfl,fun hn afw => (by cases afw; exact kJ.to br (by omega) (by simp only [an,bq]; repeat rw [if_neg (by omega)]) (by simp only [an,bq]; repeat rw [if_neg (by omega)])),⟨by omega,fun e he ar => ?_,fun e he => ?_⟩⟩
   ·simp only [an,bq]; repeat rw [if_neg (by omega)]
    rw [bu.old e (by omega) ar]
    simp only [an,bq]; repeat rw [if_neg (by omega)]
   ·rcases rj e he with h | h
    ·exact .inl (by simp only [List.mem_cons,List.not_mem_nil,or_false]; exact h)
    ·exact .inr (by omega)
end Go.Proofs.YtkmbcjnaaokilaaGreatDoor
namespace Go.Proofs.YtkmbcjnaaokilaaGreatDoor
open Go.RowKit

def Wp : bZ := (.seq (.ops [ab 0 (.ah (a3 false))]) (.seq (.ops [ab 12 (.dO [.int .i64,.int .i64,.int .i64] [(0,(1,(ay 1))),(1,(1,(ay 8))),(2,(1,(ay 40)))]),ab 1 (.cw 25 [.int .i64,.int .i64,.int .i64]),aQ (.st 3 (aa 1) (aa 12))]) (.seq (.ops [ab 13 (.aC (aa 1) (some 3)),ab 14 (.call 10 [.tmp 13]),ab 2 (.ah (aa 14))]) (.seq (.ops [ab 15 (.hE 1 [(ay 5),(ay 5),(ay (-5)),(ay (-5)),(ay 39),(ay 39)]),ab 3 (.ah (aa 15))]) (.seq (.ops [ab 16 (.hE 1 [(ay 5),(ay 6),(ay 5),(ay 5),(ay 39),(ay 0)]),ab 4 (.ah (aa 16))]) (.seq (.seq (.ops [ab 5 (.ah (ay 0))]) (.block 0 (.loop (.seq (.seq (.ops [ab 17 (.ah (aa 5)),ab 18 (.ah (aa 3)),ab 19 (.len (aa 18)),ab 20 (.bin .lss (aa 17) (aa 19))]) (.cond (aa 20) .skip (.exit 0))) (.seq (.block 1 (.seq (.qc [[],[],[],[1,2],[3],[4],[0,5],[6],[7],[7],[8,6,0,1,2,3,4,5,6,7,8],[9,10,0,1,2,3,4,5,6,7,8,9,10]] [ab 24 (.aC (aa 1) (some 3)),ab 25 (.ah (aa 3)),ab 26 (.ah (aa 5)),ab 27 (.dD (aa 25) (aa 26) 1),ab 28 (.aC (aa 27) none),ab 29 (.kX true (aa 28) (ay 0)),ab 30 (.call 12 [.tmp 24,.tmp 29]),ab 23 (.ah (aa 30)),ab 31 (.ext (aa 23) 0),ab 32 (.ext (aa 23) 1),ab 6 (.ah (aa 31)),ab 7 (.ah (aa 32))]) (.seq (.seq (.ops [ab 33 (.ah (aa 3)),ab 34 (.ah (aa 5)),ab 35 (.dD (aa 33) (aa 34) 1),ab 36 (.aC (aa 35) none),ab 37 (.bin .lss (aa 36) (ay 0))]) (.cond (aa 37) (.qc [[],[],[],[1,2],[3],[4],[0,5],[6],[7],[7],[8,6,0,1,2,3,4,5,6,7,8],[9,10,0,1,2,3,4,5,6,7,8,9,10]] [ab 39 (.aC (aa 1) (some 3)),ab 40 (.ah (aa 3)),ab 41 (.ah (aa 5)),ab 42 (.dD (aa 40) (aa 41) 1),ab 43 (.aC (aa 42) none),ab 44 (.gen (.unOp .neg 3 (aa 43)) [.tmp 43]),ab 45 (.call 13 [.tmp 39,.tmp 44]),ab 38 (.ah (aa 45)),ab 46 (.ext (aa 38) 0),ab 47 (.ext (aa 38) 1),ab 6 (.ah (aa 46)),ab 7 (.ah (aa 47))]) .skip)) (.seq (.ops [ab 49 (.aC (aa 1) (some 3)),ab 50 (.ah (aa 2)),ab 51 (.ah (aa 6)),ab 52 (.call 17 [.tmp 49,.tmp 50,.tmp 51]),ab 48 (.ah (aa 52)),ab 53 (.ext (aa 48) 0),ab 54 (.ext (aa 48) 1),ab 55 (.ext (aa 48) 2),ab 56 (.ext (aa 48) 3),ab 8 (.ah (aa 53)),ab 9 (.ah (aa 54)),ab 10 (.ah (aa 55)),ab 11 (.ah (aa 56))]) (.seq (.seq (.ops [ab 57 (.ah (aa 7)),ab 58 (.bin .neq (aa 57) (ay 0)),ab 59 (.ah (aa 58)),a8 60 59 false (.ah (aa 11)),a8 61 59 false (.not (aa 60)),ab 62 (.pick (aa 59) (a3 true) (aa 61)),ab 63 (.ah (aa 62)),a8 64 63 false (.ah (aa 9)),a8 65 63 false (.ah (aa 4)),a8 66 63 false (.ah (aa 5)),a8 67 63 false (.dD (aa 65) (aa 66) 1),a8 68 63 false (.aC (aa 67) none),a8 69 63 false (.bin .neq (aa 64) (aa 68)),ab 70 (.pick (aa 63) (a3 true) (aa 69)),ab 71 (.ah (aa 70)),a8 72 71 false (.ah (aa 10)),a8 73 71 false (.bin .eql (aa 72) (ay 13)),a8 74 71 false (.ah (aa 5)),a8 75 71 false (.bin .eql (aa 74) (ay 3)),a8 76 71 false (.eqv true 4 (aa 73) (aa 75)),ab 77 (.pick (aa 71) (a3 true) (aa 76))]) (.cond (aa 77) (.seq (.ops [ab 0 (.ah (a3 false))]) .ret) .skip)) (.ops [ab 78 (.ah (aa 8)),ab 2 (.ah (aa 78))])))))) (.ops [ab 21 (.ah (aa 5)),ab 22 (.bin .add (aa 21) (ay 1)),ab 5 (.ah (aa 22))])))))) (.seq (.ops [ab 79 (.aC (aa 1) (some 3)),ab 80 (.ah (aa 2)),ab 81 (.call 19 [.tmp 79,.tmp 80]),ab 82 (.hE 1 [(ay 0),(ay 6),(ay 39)]),ab 83 (.call 18 [.tmp 81,.tmp 82]),ab 0 (.ah (aa 83))]) .ret)))))))
def Vh : List b6 := [.tmp 0]
theorem ant : uy Tryz.prog rfl Tryz.f8 = some (Wp,Vh) := by kernel_rfl
end Go.Proofs.YtkmbcjnaaokilaaGreatDoor
