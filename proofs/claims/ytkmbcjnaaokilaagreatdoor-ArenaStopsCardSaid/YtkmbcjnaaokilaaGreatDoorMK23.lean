/-
  Layer 12 by shadows: the codes of the arena as codes with a part of their own; what a code tells; a code alone.
-/
import Derived.Test.YtkmbcjnaaokilaaGreatDoorK12j
import Derived.Test.YtkmbcjnaaokilaaGreatDoorK9
import Derived.Test.YtkmbcjnaaokilaaGreatDoorMC
namespace Go.Proofs.YtkmbcjnaaokilaaGreatDoor
set_option linter.unusedSimpArgs false
set_option linter.unusedVariables false
open Go.RowKit Go.Maps
def ln : e5 → cc
 | .c9 s => s.l
 | .ec s => s.l
structure sz (l : cc) (a : dB) : Prop where
 op : a.op = 5 ∨ a.op = 6
 pl : ∃ i : Nat,(i : Int) < l.blocks ∧ a.place = bA l i
theorem Uc {s : g8} (ao : o7 s) {p : Nat × Nat} (hp : p ∈ s.parts) : (p.1 : Int) < s.l.blocks := by have := ao.jZ p hp; omega
theorem DV {v : Int} : ∀ {m a i : Nat},rC v a m = some i → a ≤ i ∧ i < a + m ∧ ly v i = false ∧ ∀ j,a ≤ j → j < i → ly v j = true
 | 0,a,i,h => by cases h
 | m + 1,a,i,h => by
  unfold rC at h
  split at h
  ·rename_i hu
   obtain ⟨af,aj,aw,aV⟩ := DV h
   exact ⟨by omega,by omega,aw,fun j qW kB => (by
    by_cases e : j = a
    ·subst e; exact hu
    ·exact aV j (by omega) kB)⟩
  ·rename_i hu
   cases h
   exact ⟨Nat.le_refl _,by omega,by simpa using hu,fun j af aj => by omega⟩
theorem P6 {s : g8} (ao : o7 s) : oT (.c9 (h6 s).1) ∧ (h6 s).1.l = s.l ∧ ((h6 s).2.2 = false → sz s.l (h6 s).2.1) ∧ ((h6 s).2.2 = true → (h6 s).1.fin = true) := by
 unfold h6
 split
 ·exact ⟨⟨⟨ao.lay,ao.g,ao.jZ⟩,fun h => by cases h⟩,rfl,fun h => (by cases h),fun _ => rfl⟩
 ·rename_i p ps hp
  refine ⟨⟨⟨ao.lay,ao.g,ao.jZ⟩,fun _ _ h => ?_⟩,rfl,fun _ => ⟨.inl rfl,p.1,Uc ao (by rw [hp]; exact List.mem_cons_self ..),rfl⟩,fun h => by cases h⟩
  simp only at h
  rw [hp] at h; cases h
theorem N7 {s : g8} (ao : o7 s) (dd : s.parts ≠ []) (w : bq) : oT (.c9 (gT s w).1) ∧ (gT s w).1.l = s.l ∧ ((gT s w).2.2 = false → sz s.l (gT s w).2.1) ∧ ((gT s w).2.2 = true → (gT s w).1.fin = true) := by
 unfold gT
 split
 ·rename_i h; exact absurd h dd
 ·rename_i p ps hp
  have ax := ao.jZ p (by rw [hp]; exact List.mem_cons_self ..)
  split
  ·rename_i i aq
   obtain ⟨af,aj,_,_⟩ := DV aq
   refine ⟨⟨⟨ao.lay,ao.g,ao.jZ⟩,fun _ _ h => ?_⟩,rfl,fun _ => ⟨.inr rfl,i,by omega,rfl⟩,fun h => by cases h⟩
   simp only at h
   rw [hp] at h; cases h
  ·exact P6 ⟨ao.lay,by show (2 : Nat) ≠ 1; decide,fun q aS => ao.jZ q (by rw [hp]; exact List.mem_cons_of_mem _ aS)⟩
theorem N5 {s : j2} (ao : pJ s) (w : bq) : pJ (h1 s w).1 ∧ (h1 s w).1.l = s.l ∧ ((h1 s w).2.2 = false → sz s.l (h1 s w).2.1) ∧ ((h1 s w).2.2 = true → (h1 s w).1.fin = true) := by
 unfold h1
 split
 ·exact ⟨⟨ao.lay,ao.tC⟩,rfl,fun _ => ⟨.inr rfl,s.block,ao.tC,rfl⟩,fun h => by cases h⟩
 ·exact ⟨⟨ao.lay,ao.tC⟩,rfl,fun h => (by cases h),fun _ => rfl⟩
theorem xA {s : e5} (ao : oT s) (g : dW) : oT (cI s g).1 ∧ ln (cI s g).1 = ln s ∧ ((cI s g).2.2 = false → sz (ln s) (cI s g).2.1) ∧ ((cI s g).2.2 = true → yz (cI s g).1 = true) := by
 cases s with
 | c9 s =>
  show oT (.c9 (hU s g).1) ∧ (hU s g).1.l = s.l ∧ ((hU s g).2.2 = false → sz s.l (hU s g).2.1) ∧ ((hU s g).2.2 = true → (hU s g).1.fin = true)
  unfold hU
  split
  ·rename_i aW
   exact ⟨ao,rfl,fun h => (by cases h),fun _ => aW⟩
  ·rename_i aW
   have aW : s.fin = false := by simpa using aW
   split
   ·exact P6 ao.1
   ·rename_i aB
    exact N7 ao.1 (ao.2 aW (by omega)) _
   ·rename_i bb af
    split
    ·exact ⟨⟨⟨ao.1.lay,ao.1.g,ao.1.jZ⟩,fun h => by cases h⟩,rfl,fun h => (by cases h),fun _ => rfl⟩
    ·exact N7 ao.1 (ao.2 aW (fun e => bb e)) _
 | ec s =>
  show pJ (kI s g).1 ∧ (kI s g).1.l = s.l ∧ ((kI s g).2.2 = false → sz s.l (kI s g).2.1) ∧ ((kI s g).2.2 = true → (kI s g).1.fin = true)
  unfold kI
  split
  ·rename_i aW
   exact ⟨ao,rfl,fun h => (by cases h),fun _ => aW⟩
  ·split
   ·exact ⟨⟨ao.lay,ao.tC⟩,rfl,fun _ => ⟨.inl rfl,s.block,ao.tC,rfl⟩,fun h => by cases h⟩
   ·exact N5 ao _
   ·split
    ·exact ⟨⟨ao.lay,ao.tC⟩,rfl,fun h => (by cases h),fun _ => rfl⟩
    ·exact N5 ao _
abbrev lC : dR where
 ak := e5 × fF
 enc p := jk p.1 p.2
 next p g := (((cI p.1 g).1,p.2),(cI p.1 g).2)
 jy _ p := oT p.1
 up h _ := h
 keeps g h := (xA h g).1
 shape p := ⟨_,_,rfl⟩
def lA : fF := ⟨0,0,0,.any⟩
def kP : h8 lC where
 ids p := [p.2.i,p.2.g]
 own p O n := ko p.1 p.2 O n
 fL p := (p.1,lA)
 lt {s O n} h e he := by
  simp only [List.mem_cons,List.not_mem_nil,or_false] at he
  rcases he with rfl | rfl
  ·exact h.i
  ·exact h.g
 to h a7 cX := ko.to h a7 (cX _ (by simp)) (cX _ (by simp))
 HY {a b n} h aH := by
  have : a.1 = b.1 := (Prod.mk.inj h).1
  show oT b.1
  rw [← this]; exact aH
 oh {a b} g h := by
  have : a.1 = b.1 := (Prod.mk.inj h).1
  show ((cI a.1 g).1,lA) = ((cI b.1 g).1,lA) ∧ (cI a.1 g).2 = (cI b.1 g).2
  rw [this]; exact ⟨rfl,rfl⟩
 step {n s} g aH _ := by
  obtain ⟨s,L⟩ := s
  refine ⟨L5 s,.agg (He s L.er),?_⟩
  cases s with
  | c9 s =>
   refine ⟨_,rfl,Qs,Nx,fun O n ay => (QN s aH.1 aH.2 g ay).mono ?_⟩
   rintro J r O' bI ⟨du,af,aj,aw,aV⟩
   refine ⟨((cI (.c9 s) g).1,du),rfl,af,aj,aw.le,fun e he ar => aw.old e he ?_,fun e he => ?_⟩
   ·intro h
    simp only [Option.map_some,Option.some.injEq] at h
    exact ar (by rw [← h]; simp)
   ·simp only [List.mem_cons,List.not_mem_nil,or_false] at he ⊢
    rcases aV with ⟨bE,bP⟩ | ⟨_,a0,bE,bP⟩
    ·rcases he with rfl | rfl
     ·exact .inr bE
     ·exact .inr bP
    ·cases a0
     rcases he with rfl | rfl
     ·exact .inl (.inl bE)
     ·exact .inl (.inr bP)
  | ec s =>
   refine ⟨_,rfl,Qr,Nw,fun O n ay => (QJ s aH g ay).mono ?_⟩
   rintro J r O' bI ⟨du,af,aj,aw,aV⟩
   refine ⟨((cI (.ec s) g).1,du),rfl,af,aj,aw.le,fun e he ar => aw.old e he ?_,fun e he => ?_⟩
   ·intro h
    simp only [Option.map_some,Option.some.injEq] at h
    exact ar (by rw [← h]; simp)
   ·simp only [List.mem_cons,List.not_mem_nil,or_false] at he ⊢
    rcases aV with ⟨bE,bP⟩ | ⟨_,a0,bE,bP⟩
    ·rcases he with rfl | rfl
     ·exact .inr bE
     ·exact .inr bP
    ·cases a0
     rcases he with rfl | rfl
     ·exact .inl (.inl bE)
     ·exact .inl (.inr bP)
def fc : e5 → Int × Int × Bool
 | .c9 s => if s.fin = true then (if s.err ≠ 0 then (0,s.err,true) else (s.block,0,true)) else (0,0,false)
 | .ec s => if s.fin = true then ((s.block : Int),s.err,true) else (0,0,false)
theorem aeg : (Tryz.prog.info? 98).map (fun i => (i.zero,i.size,i.bytes)) = some (some (.agg #[.int .i64 0,.int .i64 0,.int .i64 0,.slice none 0 0,.int .i64 0,.int .i64 0,.bool false,.nilFunc]),8,80) := by kernel_rfl
abbrev ak2 : List av := [aI 0,aI 0,aI 0,.au 2 0 [],aI 0,aI 0,dH false,.v .nilFunc]
theorem UH (H : bg) : ca H ep (.agg ak2) (.agg #[.int .i64 0,.int .i64 0,.int .i64 0,.slice none 0 0,.int .i64 0,.int .i64 0,.bool false,.nilFunc]) := by
 have := ca.agg (E := ep) (yd H ep [.int .i64,.int .i64,.int .i64,.au 2,.int .i64,.int .i64,.bool,.nilFunc]) (zE _)
 simpa [dX.hX,dX.val] using this
theorem UI (w : World) : (zeroValue 98).run Tryz.prog w = .ok (.agg #[.int .i64 0,.int .i64 0,.int .i64 0,.slice none 0 0,.int .i64 0,.int .i64 0,.bool false,.nilFunc]) w := by
 obtain ⟨i,aq,bO,_⟩ := info_parts aeg
 exact xO aq bO w
theorem QG (s : e5) {L : fF} (hp : Plain L.er) : cu 44 [jk s L] (.bR [aI (fc s).1,aI (fc s).2.1,dH (fc s).2.2]) := by
 refine df Tryz.func44 aiS rfl ?_
 have fa := gO hp
 cases s with
 | c9 s =>
  show bJ _ _ [.dr 98 (.agg (pU s L.er))] _
  cases aW : s.fin
  ·rw [show fc (.c9 s) = (0,0,false) by unfold fc; simp only [aW]; rfl]
   unfold bJ zm zh;delta ab aR aa aA a6
   have ad := And.intro @fa @aW
   refine ae fun bz aK b6 cb => ai fun b7 aG => ?_;refine an ad ?_;refine aG _ (aK (some ([0],none)) _ (ae fun b8 aQ bt b5 => ae fun b9 bG c7 dF => ai fun cD bZ => ?_));refine an ad ?_;refine bZ _ (bG (some ([7],none)) _ (cx fun cv bp lW cY dk => ae fun cC cp ek ft => ai fun dy c0 => ?_));refine aL 1 ad ?_;refine Or.inl ⟨_,yD Tryz.underlying98 rfl,?_⟩;refine an ad ?_;refine c0 _ (cp (some ([7,9,10],none)) _ (bY (ae fun bo cN hM gR => ai fun ey cF => ?_)));refine aU ad ?_;refine cF _ (cN (some ([5],none)) _ (cx fun fB ct qj hL gU => ae fun fN eW qi j7 => ai fun gG ed => ?_));refine ag 2 ad ?_;refine an ad ?_;refine ed _ (eW (some ([5,13],none)) _ (bY ?_))
   refine ct _ (bp _ (aQ (some ([],none)) _ (ae fun gZ fQ qY mF => ai fun iK eB => ?_)));refine an ad ?_;refine eB _ (fQ (some ([2,3,4],none)) _ ?_)
   exact cO ad
  ·by_cases he : s.err = 0
   ·have d : (s.err != 0) = false := by simpa using he
    rw [show fc (.c9 s) = (s.block,0,true) by unfold fc; simp only [aW,he]; rfl]
    unfold bJ zm zh;delta ab aR aa aA a6
    have ad := And.intro @fa (And.intro @aW @d)
    refine ae fun bz aK b6 cb => ai fun b7 aG => ?_;refine an ad ?_;refine aG _ (aK (some ([0],none)) _ (ae fun b8 aQ bt b5 => ae fun b9 bG c7 dF => ai fun cD bZ => ?_));refine an ad ?_;refine bZ _ (bG (some ([7],none)) _ (cx fun cv bp lW cY dk => ae fun cC cp ek ft => ai fun dy c0 => ?_));refine aL 1 ad ?_;refine Or.inl ⟨_,yD Tryz.underlying98 rfl,?_⟩;refine an ad ?_;refine c0 _ (cp (some ([7,9,10],none)) _ (bY (ae fun bo cN hM gR => ai fun ey cF => ?_)));refine aU ad ?_;refine cF _ (cN (some ([5],none)) _ (cx fun fB ct qj hL gU => ae fun fN eW qi j7 => ai fun gG ed => ?_));refine ag 2 ad ?_;refine an ad ?_;refine ed _ (eW (some ([5,13],none)) _ (bB ?_))
    refine ae fun gZ fQ qY mF => ai fun iK eB => ?_;refine ag 2 ad ?_;refine ag 1 ad ?_;refine an ad ?_;refine eB _ (fQ (some ([5,17],none)) _ (bB (ae fun j3 fy sX qV => ai fun nk eV => ?_)));refine ag 2 ad ?_;refine an ad ?_;refine eV _ (fy (some ([2,3,4],none)) _ (hL _ (cY _ (bt _ ?_))))
    exact cO ad
   ·have d : (s.err != 0) = true := by simpa using he
    rw [show fc (.c9 s) = (0,s.err,true) by unfold fc; simp only [aW,if_true]; rw [if_pos he]]
    unfold bJ zm zh;delta ab aR aa aA a6
    have ad := And.intro @fa (And.intro @aW @d)
    refine ae fun bz aK b6 cb => ai fun b7 aG => ?_;refine an ad ?_;refine aG _ (aK (some ([0],none)) _ (ae fun b8 aQ bt b5 => ae fun b9 bG c7 dF => ai fun cD bZ => ?_));refine an ad ?_;refine bZ _ (bG (some ([7],none)) _ (cx fun cv bp lW cY dk => ae fun cC cp ek ft => ai fun dy c0 => ?_));refine aL 1 ad ?_;refine Or.inl ⟨_,yD Tryz.underlying98 rfl,?_⟩;refine an ad ?_;refine c0 _ (cp (some ([7,9,10],none)) _ (bY (ae fun bo cN hM gR => ai fun ey cF => ?_)));refine aU ad ?_;refine cF _ (cN (some ([5],none)) _ (cx fun fB ct qj hL gU => ae fun fN eW qi j7 => ai fun gG ed => ?_));refine ag 2 ad ?_;refine an ad ?_;refine ed _ (eW (some ([5,13],none)) _ (bB ?_))
    refine ae fun gZ fQ qY mF => ai fun iK eB => ?_;refine ag 2 ad ?_;refine ag 1 ad ?_;refine an ad ?_;refine eB _ (fQ (some ([5,17],none)) _ (bY (ae fun j3 fy sX qV => ?_)));refine hy [] (n := 3) fun nk eV => ?_;refine hv ?_;refine cR 2 ad ?_;refine lJ ad ?_;refine eV _ ?_;refine hx ?_;refine an ad ?_;refine fy (some ([2,3,4],none)) _ (hL _ (cY _ (bt _ ?_)))
    exact cO ad
 | ec s =>
  show bJ _ _ [.dr 104 (.agg (qI s L.er))] _
  cases aW : s.fin
  ·rw [show fc (.ec s) = (0,0,false) by unfold fc; simp only [aW]; rfl]
   unfold bJ zm zh;delta ab aR aa aA a6
   have ad := And.intro @fa @aW
   refine ae fun bz aK b6 cb => ai fun b7 aG => ?_;refine an ad ?_;refine aG _ (aK (some ([0],none)) _ (ae fun b8 aQ bt b5 => ae fun b9 bG c7 dF => ai fun cD bZ => ?_));refine an ad ?_;refine bZ _ (bG (some ([7],none)) _ (cx fun cv bp lW cY dk => ae fun cC cp ek ft => ai fun dy c0 => ?_));refine aL 1 ad ?_;refine Or.inl ⟨_,Oj Tryz.underlying98 rfl (by decide) UI UH,?_⟩;refine an ad ?_;refine c0 _ (cp (some ([7,9,10],none)) _ (bB (ae fun bo cN hM gR => ai fun ey cF => ?_)));refine aL 1 ad ?_;refine Or.inl ⟨_,yD Tryz.underlying104 rfl,?_⟩;refine an ad ?_;refine cF _ (cN (some ([24,25],none)) _ (bY (ae fun fB ct hL gU => ai fun fN cG => ?_)));refine aU ad ?_;refine cG _ ?_
   refine ct (some ([6],none)) _ (ae fun gG dJ mN kW => ai fun gZ dt => ?_);refine aU ad ?_;refine dt _ (dJ (some ([6,27],none)) _ (bB (bp _ (aQ (some ([],none)) _ (ae fun iK gK By lP => ai fun j3 gq => ?_)))));refine an ad ?_;refine gq _ (gK (some ([2,3,4],none)) _ ?_)
   exact cO ad
  ·rw [show fc (.ec s) = ((s.block : Int),s.err,true) by unfold fc; simp only [aW]; rfl]
   unfold bJ zm zh;delta ab aR aa aA a6
   have ad := And.intro @fa @aW
   refine ae fun bz aK b6 cb => ai fun b7 aG => ?_;refine an ad ?_;refine aG _ (aK (some ([0],none)) _ (ae fun b8 aQ bt b5 => ae fun b9 bG c7 dF => ai fun cD bZ => ?_));refine an ad ?_;refine bZ _ (bG (some ([7],none)) _ (cx fun cv bp lW cY dk => ae fun cC cp ek ft => ai fun dy c0 => ?_));refine aL 1 ad ?_;refine Or.inl ⟨_,Oj Tryz.underlying98 rfl (by decide) UI UH,?_⟩;refine an ad ?_;refine c0 _ (cp (some ([7,9,10],none)) _ (bB (ae fun bo cN hM gR => ai fun ey cF => ?_)));refine aL 1 ad ?_;refine Or.inl ⟨_,yD Tryz.underlying104 rfl,?_⟩;refine an ad ?_;refine cF _ (cN (some ([24,25],none)) _ (bY (ae fun fB ct hL gU => ai fun fN cG => ?_)));refine aU ad ?_;refine cG _ ?_
   refine ct (some ([6],none)) _ (ae fun gG dJ mN kW => ai fun gZ dt => ?_);refine aU ad ?_;refine dt _ (dJ (some ([6,27],none)) _ (bY (ae fun iK gK By lP => ?_)));refine hy [] (n := 5) fun j3 gq => ?_;refine hv ?_;refine cR 2 ad ?_;refine cR 2 ad ?_;refine lJ ad ?_;refine gq _ ?_;refine hx ?_;refine an ad ?_;refine gK (some ([2,3,4],none)) _ (cY _ (bt _ ?_))
   exact cO ad
end Go.Proofs.YtkmbcjnaaokilaaGreatDoor
namespace Go.Proofs.YtkmbcjnaaokilaaGreatDoor
open Go.RowKit

def Tf : bU := (.seq (.ops [ab 4 (.cm 25 [.int .i64,.int .i64,.int .i64])]) (.seq (.ops [ab 5 (.ah (aa 0)),ab 6 (.bin .rem (aa 5) (.const (.int .u8 4))),ab 7 (.lE .i64 (aa 6)),ab 8 (.bin .add (aA 1) (aa 7)),ab 9 (.ah (aa 1)),ab 10 (.bin .rem (aa 9) (.const (.int .u8 64))),ab 11 (.lE .i64 (aa 10)),ab 12 (.bin .add (aA 1) (aa 11)),ab 13 (.dE [.int .i64,.int .i64,.int .i64] [(0,(1,(aa 8))),(1,(1,(aA 8))),(2,(1,(aa 12)))]),aR (.st 3 (aa 4) (aa 13))]) .ret))
def R8 : List b3 := [(.eh 4 (some 3))]
theorem ajS : cJ Tryz.prog rfl Tryz.f9 = some (Tf,R8) := by kernel_rfl
def Te : bU := (.seq (.ops [ab 3 (.box 25 (aa 0)),ab 6 (.ah (.const (.slice none 0 0))),ab 7 (.ah (aA 0)),ab 8 (.ah (aA 0)),ab 9 (.ah (a6 false))]) (.seq (.ops [ab 20 (.ah (aa 1)),ab 21 (.call 42 [(aA 1),.tmp 20]),ab 19 (.ah (aa 21)),ab 22 (.ext (aa 19) 0),ab 23 (.ext (aa 19) 1),ab 10 (.cm 59 [.au 1,.au 1,.au 3,.au 2,.mp 3,.au 1,.int .i64]),aR (.st 7 (aa 10) (aa 22)),ab 11 (.ah (aa 23))]) (.seq (.ops [ab 25 (.aC (aa 10) (some 7)),ab 26 (.ah (aa 2)),ab 27 (.g2 1 [.tmp 26]),ab 28 (.call 43 [.tmp 25,.tmp 27]),ab 24 (.ah (aa 28)),ab 29 (.ext (aa 24) 0),ab 30 (.ext (aa 24) 1),ab 12 (.cm 63 [.au 1,.au 1,.au 3,.au 2,.mp 3,.au 1,.int .i64,.au 11,.au 1]),aR (.st 9 (aa 12) (aa 29)),ab 13 (.ah (aa 30))]) (.seq (.ops [ab 32 (.aC (aa 12) (some 9)),ab 33 (.call 26 [.tmp 32,(aA 1),(aA 100)]),ab 31 (.ah (aa 33)),ab 34 (.ext (aa 31) 0),ab 35 (.ext (aa 31) 1),ab 14 (.cm 63 [.au 1,.au 1,.au 3,.au 2,.mp 3,.au 1,.int .i64,.au 11,.au 1]),aR (.st 9 (aa 14) (aa 34)),ab 15 (.ah (aa 35))]) (.seq (.seq (.ops [ab 36 (.ah (aa 11)),ab 37 (.bin .neq (aa 36) (aA 0)),ab 38 (.ah (aa 37)),a9 39 38 false (.ah (aa 13)),a9 40 38 false (.bin .neq (aa 39) (aA 0)),ab 41 (.pick (aa 38) (a6 true) (aa 40)),ab 42 (.ah (aa 41)),a9 43 42 false (.ah (aa 15)),a9 44 42 false (.not (aa 43)),ab 45 (.pick (aa 42) (a6 true) (aa 44)),ab 46 (.ah (aa 45)),a9 47 46 false (.a3 (aa 14) 7),a9 48 46 false (.aC (aa 47) none),a9 49 46 false (.len (aa 48)),a9 50 46 false (.bin .neq (aa 49) (aA 1)),ab 51 (.pick (aa 46) (a6 true) (aa 50))]) (.cond (aa 51) (.seq (.ops [ab 52 (.ah (aa 1)),ab 6 (.ah (aa 52)),ab 7 (.ah (aA 0)),ab 8 (.ah (aA 0)),ab 9 (.ah (a6 false))]) .ret) .skip)) (.seq (.ops [ab 54 (.a3 (aa 14) 7),ab 55 (.aC (aa 54) none),ab 56 (.dU (aa 55) (aA 0) 11),ab 57 (.aC (aa 56) (some 11)),ab 58 (.call 45 [.tmp 57]),ab 59 (.call 44 [.tmp 58]),ab 53 (.ah (aa 59)),ab 60 (.ext (aa 53) 0),ab 61 (.ext (aa 53) 1),ab 62 (.ext (aa 53) 2),ab 16 (.ah (aa 60)),ab 17 (.ah (aa 61)),ab 18 (.ah (aa 62))]) (.seq (.ops [ab 63 (.a3 (aa 14) 0),ab 64 (.aC (aa 63) (some 7)),ab 65 (.call 23 [.tmp 64]),ab 66 (.ah (aa 16)),ab 67 (.ah (aa 17)),ab 68 (.ah (aa 18)),ab 6 (.ah (aa 65)),ab 7 (.ah (aa 66)),ab 8 (.ah (aa 67)),ab 9 (.ah (aa 68))]) .ret)))))))
def R7 : List b3 := [.tmp 6,.tmp 7,.tmp 8,.tmp 9]
theorem ajR : cJ Tryz.prog rfl Tryz.f17 = some (Te,R7) := by kernel_rfl
def TI : bU := (.seq (.ops [ab 4 (.ah (.const (.slice none 0 0)))]) (.seq (.ops [ab 5 (.ah (.const (.slice none 0 0)))]) (.seq (.ops [ab 6 (.ah (a6 false))]) (.seq (.seq (.ops [ab 7 (.ah (aA 0))]) (.block 0 (.loop (.seq (.seq (.ops [ab 8 (.ah (aa 7)),ab 9 (.ah (aa 0)),ab 10 (.len (aa 9)),ab 11 (.bin .lss (aa 8) (aa 10))]) (.cond (aa 11) .skip (.exit 0))) (.seq (.block 1 (.seq (.seq (.ops [ab 14 (.ah (aa 6)),ab 15 (.not (aa 14)),ab 16 (.ah (aa 15)),a9 17 16 true (.ah (aa 0)),a9 18 16 true (.ah (aa 7)),a9 19 16 true (.dU (aa 17) (aa 18) 1),a9 20 16 true (.aC (aa 19) none),a9 21 16 true (.ah (aa 1)),a9 22 16 true (.bin .gtr (aa 20) (aa 21)),ab 23 (.pick (aa 16) (aa 22) (a6 false))]) (.cond (aa 23) (.seq (.ops [ab 24 (.ah (aa 5)),ab 25 (.ah (aa 1)),ab 26 (.g2 1 [.tmp 25]),ab 27 (.app (aa 24) (aa 26) 3 1 8),ab 5 (.ah (aa 27))]) (.ops [ab 6 (.ah (a6 true))])) .skip)) (.seq (.seq (.ops [ab 28 (.ah (aa 0)),ab 29 (.ah (aa 7)),ab 30 (.dU (aa 28) (aa 29) 1),ab 31 (.aC (aa 30) none),ab 32 (.ah (aa 1)),ab 33 (.bin .eql (aa 31) (aa 32))]) (.cond (aa 33) (.ops [ab 6 (.ah (a6 true))]) .skip)) (.ops [ab 34 (.ah (aa 5)),ab 35 (.ah (aa 0)),ab 36 (.ah (aa 7)),ab 37 (.dU (aa 35) (aa 36) 1),ab 38 (.aC (aa 37) none),ab 39 (.g2 1 [.tmp 38]),ab 40 (.app (aa 34) (aa 39) 3 1 8),ab 5 (.ah (aa 40))])))) (.ops [ab 12 (.ah (aa 7)),ab 13 (.bin .add (aa 12) (aA 1)),ab 7 (.ah (aa 13))])))))) (.seq (.seq (.ops [ab 41 (.ah (aa 6)),ab 42 (.not (aa 41))]) (.cond (aa 42) (.ops [ab 43 (.ah (aa 5)),ab 44 (.ah (aa 1)),ab 45 (.g2 1 [.tmp 44]),ab 46 (.app (aa 43) (aa 45) 3 1 8),ab 5 (.ah (aa 46))]) .skip)) (.seq (.ops [ab 47 (.ah (aa 5)),ab 4 (.ah (aa 47))]) .ret))))))
def SA : List b3 := [.tmp 4]
theorem aky : cJ Tryz.prog rfl Tryz.f16 = some (TI,SA) := by kernel_rfl
def TJ : bU := (.seq (.ops [ab 4 (.ah (.const (.slice none 0 0)))]) (.seq (.ops [ab 5 (.ah (.const (.slice none 0 0)))]) (.seq (.seq (.ops [ab 6 (.ah (aA 0))]) (.block 0 (.loop (.seq (.seq (.ops [ab 7 (.ah (aa 6)),ab 8 (.ah (aa 0)),ab 9 (.len (aa 8)),ab 10 (.bin .lss (aa 7) (aa 9))]) (.cond (aa 10) .skip (.exit 0))) (.seq (.block 1 (.seq (.ops [ab 13 (.ah (aa 0)),ab 14 (.ah (aa 6)),ab 15 (.dU (aa 13) (aa 14) 1),ab 16 (.aC (aa 15) none),ab 17 (.ah (aa 1)),ab 18 (.bin .neq (aa 16) (aa 17))]) (.cond (aa 18) (.ops [ab 19 (.ah (aa 5)),ab 20 (.ah (aa 0)),ab 21 (.ah (aa 6)),ab 22 (.dU (aa 20) (aa 21) 1),ab 23 (.aC (aa 22) none),ab 24 (.g2 1 [.tmp 23]),ab 25 (.app (aa 19) (aa 24) 3 1 8),ab 5 (.ah (aa 25))]) .skip))) (.ops [ab 11 (.ah (aa 6)),ab 12 (.bin .add (aa 11) (aA 1)),ab 6 (.ah (aa 12))])))))) (.seq (.ops [ab 26 (.ah (aa 5)),ab 4 (.ah (aa 26))]) .ret))))
def SB : List b3 := [.tmp 4]
theorem akz : cJ Tryz.prog rfl Tryz.f15 = some (TJ,SB) := by kernel_rfl
def LD : bU := (.seq (.ops [ab 4 (.ah (a6 false))]) (.seq (.seq (.ops [ab 6 (.ah (aa 0)),ab 7 (.len (aa 6)),ab 8 (.ah (aa 1)),ab 9 (.len (aa 8)),ab 10 (.bin .neq (aa 7) (aa 9))]) (.cond (aa 10) (.seq (.ops [ab 4 (.ah (a6 false))]) .ret) .skip)) (.seq (.seq (.ops [ab 5 (.ah (aA 0))]) (.block 0 (.loop (.seq (.seq (.ops [ab 11 (.ah (aa 5)),ab 12 (.ah (aa 0)),ab 13 (.len (aa 12)),ab 14 (.bin .lss (aa 11) (aa 13))]) (.cond (aa 14) .skip (.exit 0))) (.seq (.block 1 (.seq (.hc 8 [ab 17 (.ah (aa 0)),ab 18 (.ah (aa 5)),ab 19 (.dU (aa 17) (aa 18) 1),ab 20 (.aC (aa 19) none),ab 21 (.ah (aa 1)),ab 22 (.ah (aa 5)),ab 23 (.dU (aa 21) (aa 22) 1),ab 24 (.aC (aa 23) none),ab 25 (.bin .neq (aa 20) (aa 24))]) (.cond (aa 25) (.seq (.ops [ab 4 (.ah (a6 false))]) .ret) .skip))) (.ops [ab 15 (.ah (aa 5)),ab 16 (.bin .add (aa 15) (aA 1)),ab 5 (.ah (aa 16))])))))) (.seq (.ops [ab 4 (.ah (a6 true))]) .ret))))
def La : List b3 := [.tmp 4]
theorem akx : cJ Tryz.prog rfl Tryz.f18 = some (LD,La) := by kernel_rfl
end Go.Proofs.YtkmbcjnaaokilaaGreatDoor
