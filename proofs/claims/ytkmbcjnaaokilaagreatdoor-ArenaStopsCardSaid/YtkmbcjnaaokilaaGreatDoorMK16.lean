/-
  Layer 12 by shadows: the reference's Take; the law's rest.
-/
import Derived.Test.YtkmbcjnaaokilaaGreatDoorK12q
import Derived.Test.YtkmbcjnaaokilaaGreatDoorMC
import Derived.Test.YtkmbcjnaaokilaaGreatDoorK12o
import Derived.Test.YtkmbcjnaaokilaaGreatDoorMK18
import Derived.Test.YtkmbcjnaaokilaaGreatDoorMK14
namespace Go.Proofs.YtkmbcjnaaokilaaGreatDoor
set_option linter.unusedSimpArgs false
set_option linter.unusedVariables false
open Go.RowKit Go.Maps
def T9 (U : Nat → Bool) (B f : Nat) : Int := match re U B f with
 | some b => (b : Int)
 | none => -1
structure alj (l : cc) (a b : List bq) : Prop where
 len : a.length = b.length
 w : ∀ (i : Nat) x y,a[i]? = some x → b[i]? = some y → y.eZ = x.eZ ∧ y.ref = x.ref ∧ (y.val = x.val ∨ (bA l 0 ≤ (i : Int) ∧ (i : Int) ≤ bA l (l.blocks.toNat - 1)))
end Go.Proofs.YtkmbcjnaaokilaaGreatDoor
namespace Go.Proofs.YtkmbcjnaaokilaaGreatDoor
open Go.RowKit

end Go.Proofs.YtkmbcjnaaokilaaGreatDoor
namespace Go.Proofs.YtkmbcjnaaokilaaGreatDoor
set_option linter.unusedSimpArgs false
set_option linter.unusedVariables false
open Go.RowKit Go.Maps
theorem aaL (U : Nat → Bool) {B c : Nat} (h : c < B) : ((List.range B).filter U).contains c = U c := by
 rw [Bool.eq_iff_iff,List.contains_iff_mem,List.mem_filter]
 exact ⟨fun h => h.2,fun aj => ⟨List.mem_range.2 h,aj⟩⟩
inductive ak5 (l : cc) (ws : List bq) (g : Bool) (m : Nat) : Prop
 | anH (h : g = false) (af : T9 (dZ l (dw ws)) l.blocks.toNat m = -1) (X : nU) (cU : jd 100 (nO (.c9 (fJ l m)) (dw ws)) = X) (tQ : X.live = false) (qT : fc X.s = (0,9,true) ∧ X.f = dw ws)
 | cB (h : g = false) (b : Nat) (aJ : b < l.blocks.toNat) (af : T9 (dZ l (dw ws)) l.blocks.toNat m = (b : Int)) (X : nU) (cU : jd 100 (nO (.c9 (fJ l m)) (dw ws)) = X) (tQ : X.live = false) (qT : fc X.s = ((b : Int),0,true) ∧ X.f = lZ l (dw ws) b)
 | amH (h : g = true) (af : dZ l (dw ws) m = true) (X : nU) (cU : jd 100 (nO (.ec (h2 l m)) (dw ws)) = X) (tQ : X.live = false) (qT : fc X.s = ((m : Int),0,true) ∧ X.f = nr l (dw ws) m)
 | amE (h : g = true) (af : dZ l (dw ws) m = false) (X : nU) (cU : jd 100 (nO (.ec (h2 l m)) (dw ws)) = X) (tQ : X.live = false) (qT : fc X.s = ((m : Int),13,true) ∧ X.f = dw ws)
theorem aat : Enters 144 := nn Tryz.func144 rfl rfl
theorem afi : rr 72 "Next" 144 := by intro v w; kernel_rfl
theorem Nj {a b : da × fF} (h : (a.1,lA) = (b.1,lA)) : a.1 = b.1 := (Prod.mk.inj h).1
def hG : h8 fR where
 ids p := nq p.1 p.2
 own p O n := Hh p.1 p.2 O n
 fL p := (p.1,lA)
 lt {s O n} h e he := by
  unfold nq at he
  cases ao : s.1.now with
  | none => rw [ao] at he; cases he
  | some a =>
   rw [ao] at he
   have br := h a ao
   simp only [List.mem_cons,List.not_mem_nil,or_false] at he
   rcases he with rfl | rfl
   ·exact br.i
   ·exact br.g
 to {s O n O' bI} h a7 cX := fun a aZ => by
  have aY : nq s.1 s.2 = [s.2.i,s.2.g] := by unfold nq; rw [aZ]
  rw [aY] at cX
  exact (h a aZ).to a7 (cX _ (by simp)) (cX _ (by simp))
 HY {a b n} h aH := by
  have : a.1 = b.1 := Nj h
  show ju n b.1 ∧ 0 < b.1.l.blocks
  rw [← this]; exact aH
 oh {a b} g h := by
  have : a.1 = b.1 := Nj h
  show ((dN a.1 g).1,lA) = ((dN b.1 g).1,lA) ∧ (dN a.1 g).2 = (dN b.1 g).2
  rw [this]; exact ⟨rfl,rfl⟩
 step {n s} g aH a7 := by
  refine ⟨72,.agg (pT s.1 (tH s.1.now s.2)),_,rfl,afi,aat,fun O n ay => (afA s.1 aH.1 a7 aH.2 g O n ay).mono ?_⟩
  rintro J r O' bI ⟨du,af,aj,aw⟩
  exact ⟨((dN s.1 g).1,du),rfl,af,aj,aw⟩
theorem ag9 (a : Option e5) (L : fF) : Plain (tH a L) := by
 cases a with
 | none => exact Kq _
 | some a => exact jq a L
theorem aeI (s : da) {x : av} (ar : x.one = true) : Di (.bR [.agg (pT s x),dH true]) (.bR [.agg (pT s .any),dH true]) := fun H v ax => by
 cases ax with
 | bR aF =>
  cases aF with
  | cons af aj =>
   refine .bR (.cons ?_ aj)
   cases af with
   | agg aw aV =>
    cases aw with
    | cons a0 aw =>
     cases aw with
     | cons bE aw =>
      cases aw with
      | cons bP aw =>
       cases aw with
       | cons cK aw =>
        cases aw with
        | cons a4 aw => exact .agg (.cons a0 (.cons bE (.cons bP (.cons cK (.cons (.any (a4.Fk ar)) aw))))) rfl
set_option maxHeartbeats 2000000 in
theorem agd (y : ds fR) {s : da} {L : fF} (az : y.code = some (s,L)) : cu 27 [.agg (gS y)] (.bR [.agg (pT s .any),dH true]) := by
 refine Q3 Tryz.func27 ajP rfl ?_
 have fU := oY fR
 have ar := ag9 s.now L
 have fa := gO ar
 have b2 : cu 45 [.agg (gS y)] (.dr 72 (.agg (pT s (tH s.now L)))) := by have := QQ y; rw [az] at this; exact this
 generalize tH s.now L = x at ar fa b2
 unfold DM Tc R5;delta ab aR aa a6
 have ad := And.intro @fU @fa
 refine ae fun _ aK _ _ => ai fun _ aG => ?_;refine an ad ?_;refine aG _ (aK (some ([1,2],none)) _ (ae fun _ aQ _ _ => ai fun _ bh => ?_));refine ag 1 ad ?_;refine aL 1 ad ?_;refine Or.inl (Or.inl ⟨_,b2,?_⟩);refine aL 1 ad ?_;refine Or.inl ⟨_,yD Tryz.underlying72 rfl,?_⟩;refine ag 5 ad ?_;refine an ad ?_;refine bh _ (aQ (some ([2,4,5],none)) _ (ae fun _ bT _ _ => ai fun _ de => ?_));refine ag 1 ad ?_;refine ag 2 ad ?_;refine an ad ?_;refine de _ (bT (some ([2,3],none)) _ ?_);refine jc ad ?_
 exact aeI s ar.one
def rF (rows : List (List fi)) (m : Nat) : Bool := (rows.take 5).any (fun r => decide (30 < r.length)) || (decide (4 < rows.length) || decide (250 < m))
def Vh (g bQ : Nat) (rows : List (List fi)) (ps : List kO) (k : Nat) (S : ak) : Prop :=
 ∃ i : Nat,i ≤ rows.length ∧ i ≤ 5 ∧ k = 5 - i ∧ (∀ (j : Nat) (r : List fi),j < i → rows[j]? = some r → r.length ≤ 30) ∧ S = ⟨[(0,.au 1 g (rows.map nZ)),(1,.au 3 bQ (ps.map sN)),(5,aI i)],[],0⟩
theorem H2 {rows : List (List fi)} {m i : Nat} (bF : i = rows.length ∨ i = 5) (aM : ∀ (j : Nat) (r : List fi),j < i → rows[j]? = some r → r.length ≤ 30) : rF rows m = (decide (4 < rows.length) || decide (250 < m)) := by
 unfold rF
 have : (rows.take 5).any (fun r => decide (30 < r.length)) = false := by
  rw [List.any_eq_false]
  intro r ax
  obtain ⟨j,kB,he⟩ := List.getElem_of_mem ax
  rw [List.getElem_take] at he
  simp only [List.length_take] at kB
  have := aM j r (by omega) (by rw [← he]; exact List.getElem?_eq_getElem _)
  simp; omega
 rw [this,Bool.false_or]
set_option maxHeartbeats 2000000 in
theorem age (g bQ : Nat) (rows : List (List fi)) (ps : List kO) : cu 21 [.au 1 g (rows.map nZ),.au 3 bQ (ps.map sN)] (dH (rF rows ps.length)) := by
 refine df Tryz.func21 ajQ rfl ?_
 have Fv : decide ((250 : Int) < (ps.length : Int)) = decide (250 < ps.length) := by rw [decide_eq_decide]; omega
 unfold bJ Td R6;delta ab a9 aa aA a6
 refine ae fun _ aK _ _ => ai fun _ aG => ?_;refine cz ?_;refine aG _ (aK (some ([0,1],none)) _ (ae fun _ aQ bt _ => ae fun _ bG _ _ => ai fun _ bZ => ?_));refine cz ?_;refine bZ _ (bG (some ([0,1,5],none)) _ (cx fun _ _ lW cY _ => ?_));refine jS (Vh g bQ rows ps) (5) (some ([0,1,5],none)) ([]) ?_ ?_
 ·try refine eC ?_
  exact ⟨0,by omega,by omega,rfl,fun j r h => absurd h (by omega),by rfl⟩
 ·intro k b0 aY
  obtain ⟨i,aq,am3,rfl,aM,rfl⟩ := aY
  have eF : (i = rows.length ∧ 4 < rows.length) ∨ (i = rows.length ∧ rows.length ≤ 4) ∨ (i < rows.length ∧ i = 5) ∨ (∃ r,i < rows.length ∧ i < 5 ∧ rows[i]? = some r ∧ 30 < r.length) ∨ (∃ r,i < rows.length ∧ i < 5 ∧ rows[i]? = some r ∧ r.length ≤ 30) := by
   rcases Nat.lt_or_ge i rows.length with h | h
   ·by_cases bF : i = 5
    ·exact .inr (.inr (.inl ⟨h,bF⟩))
    ·have af := List.getElem?_eq_getElem h
     by_cases aj : 30 < rows[i].length
     ·exact .inr (.inr (.inr (.inl ⟨_,h,by omega,af,aj⟩)))
     ·exact .inr (.inr (.inr (.inr ⟨_,h,by omega,af,by omega⟩)))
   ·by_cases aV : 4 < rows.length
    ·exact .inl ⟨by omega,aV⟩
    ·exact .inr (.inl ⟨by omega,by omega⟩)
  intro _ cp ek ft
  rcases eF with ⟨dT,aV⟩ | ⟨dT,aV⟩ | ⟨dT,Ea⟩ | ⟨r,dT,Ea,ax,IX⟩ | ⟨r,dT,Ea,ax,IX⟩
  ·skip
   have cE : ¬ (i : Int) < (rows.length : Int) := by omega
   have ba : rF rows ps.length = true := by rw [H2 (.inl dT) aM]; simp [aV]
   have gm : (4 : Int) < (rows.length : Int) := by omega
   have ad := And.intro @cE (And.intro @gm @ba)
   refine ae fun _ _ _ gA => ae fun _ cN _ _ => ai fun _ cF => ?_;refine ag 4 ad ?_;refine ag 3 ad ?_;refine an ad ?_;refine cF _ (cN (some ([0,1,5,13],none)) _ (bB (gA 0 _ (ft 0 _ (lW _ (aQ (some ([0,1],none)) _ (ae fun _ ct _ _ => ai fun _ cG => ?_)))))));refine ag 3 ad ?_;refine ag 4 ad ?_;refine an ad ?_;refine cG _ (ct (some ([4],none)) _ ?_)
   exact cO ad
  ·skip
   have cE : ¬ (i : Int) < (rows.length : Int) := by omega
   have ba : rF rows ps.length = decide (250 < ps.length) := by rw [H2 (.inl dT) aM]; simp; omega
   have gm : ¬ (4 : Int) < (rows.length : Int) := by omega
   have aD := And.intro @cE (And.intro @gm (And.intro @ba @Fv))
   refine ae fun _ _ _ kW => ae fun _ fQ _ _ => ai fun _ eB => ?_;refine ag 4 aD ?_;refine ag 3 aD ?_;refine an aD ?_;refine eB _ (fQ (some ([0,1,5,13],none)) _ (bB (kW 0 _ (ft 0 _ (lW _ (aQ (some ([0,1],none)) _ (ae fun _ fy _ _ => ai fun _ eV => ?_)))))));refine ag 3 aD ?_;refine ag 4 aD ?_;refine an aD ?_;refine eV _ (fy (some ([4],none)) _ ?_)
   exact cO aD
  ·skip
   have cE : (i : Int) < (rows.length : Int) := by omega
   have ba : rF rows ps.length = true := by rw [H2 (.inr Ea) aM]; simp; omega
   have gm : (4 : Int) < (rows.length : Int) := by omega
   have hO : ¬ (i : Int) < 5 := by omega
   have bm := And.intro @cE (And.intro @gm (And.intro @hO @ba))
   refine ae fun _ _ _ tV => ae fun _ h4 _ _ => ai fun _ hJ => ?_;refine ag 4 bm ?_;refine ag 3 bm ?_;refine an bm ?_;refine hJ _ (h4 (some ([0,1,5,13],none)) _ (bB (tV 0 _ (ft 0 _ (lW _ (aQ (some ([0,1],none)) _ (ae fun _ h5 _ _ => ai fun _ gr => ?_)))))));refine ag 3 bm ?_;refine ag 4 bm ?_;refine an bm ?_;refine gr _ (h5 (some ([4],none)) _ ?_)
   exact cO bm
  ·skip
   have cE : (i : Int) < (rows.length : Int) := by omega
   have hO : (i : Int) < 5 := by omega
   have ba : rF rows ps.length = true := by
    unfold rF
    have : (rows.take 5).any (fun r => decide (30 < r.length)) = true := by
     rw [List.any_eq_true]
     refine ⟨r,List.mem_of_getElem? (i := i) ?_,by simpa using IX⟩
     rw [List.getElem?_take,if_pos Ea]; exact ax
    rw [this,Bool.true_or]
   have gm : (30 : Int) < (r.length : Int) := by omega
   have bx := And.intro @cE (And.intro @gm (And.intro @hO (And.intro @ba @ax)))
   refine ae fun _ ke _ _ => ae fun _ iX _ _ => ai fun _ gu => ?_;refine ag 4 bx ?_;refine ag 3 bx ?_;refine an bx ?_;refine gu _ (iX (some ([0,1,5,13],none)) _ (bY (ke (some ([0,1,5],none)) _ (ae fun _ _ adF _ => cx fun _ _ _ adG _ => ae fun _ mL _ _ => ai fun _ iW => ?_))));refine ag 3 bx ?_;refine ag 1 bx ?_;refine aU bx ?_;refine iW _ (mL (some ([0,1,5,21],none)) _ (bY (ae fun _ qe _ _ => ai fun _ lQ => ?_)));refine an bx ?_;refine lQ _ (qe (some ([4],none)) _ (adG _ (adF _ (ek _ (cY _ (bt _ ?_))))))
   exact cO bx
  ·skip
   have cE : (i : Int) < (rows.length : Int) := by omega
   have hO : (i : Int) < 5 := by omega
   have gm : ¬ (30 : Int) < (r.length : Int) := by omega
   have dQ : IntKind.i64.wrap ((i : Int) + 1) = ((i + 1 : Nat) : Int) := by rw [IntKind.wrap_i64]; omega
   have bS := And.intro @cE (And.intro @dQ (And.intro @gm (And.intro @hO @ax)))
   refine ae fun _ oL _ _ => ae fun _ kZ _ _ => ai fun _ lR => ?_;refine ag 4 bS ?_;refine ag 3 bS ?_;refine an bS ?_;refine lR _ (kZ (some ([0,1,5,13],none)) _ (bY (oL (some ([0,1,5],none)) _ (ae fun _ qf _ _ => cx fun _ oM _ _ _ => ae fun _ rX _ _ => ai fun _ oJ => ?_))));refine ag 3 bS ?_;refine ag 1 bS ?_;refine aU bS ?_;refine oJ _ (rX (some ([0,1,5,21],none)) _ (bB (oM _ (qf (some ([0,1,5],none)) _ (ai fun _ jE => ?_)))));refine ag 2 bS ?_;refine an bS ?_;refine jE _ ?_;refine cp (5 - (i + 1)) (some ([0,1,5],none)) _ ?_ ?_
   all_goals try refine eC ?_
   ·omega
   ·refine ⟨i + 1,by omega,by omega,rfl,fun j hV h dh => ?_,rfl⟩
    by_cases e : j = i
    ·subst e; rw [ax] at dh; cases dh; exact IX
    ·exact aM j hV (by omega) dh
def agZ (S : List da) (i : Nat) (c : Nat) : Prop := ∃ (j : Nat) (s : da),j < i ∧ S[j]? = some s ∧ c ∈ s.has
def qy (B : Nat) (P : Nat → Prop) (all : List Nat) : Prop := ∃ U : Nat → Bool,all = (List.range B).filter U ∧ ∀ c,c < B → (U c = true ↔ P c)
theorem qy.nil {B : Nat} {P : Nat → Prop} (h : ∀ c,¬ P c) : qy B P [] := ⟨fun _ => false,(List.filter_eq_nil_iff.2 fun _ _ => by simp).symm,fun c _ => ⟨fun h => (by cases h),fun hp => absurd hp (h c)⟩⟩
theorem qy.put {B b : Nat} {P Q : Nat → Prop} {all : List Nat} (h : qy B P all) (aJ : b < B) (jB : ∀ c,Q c ↔ P c ∨ c = b) : qy B Q (gM all b false) := by
 obtain ⟨U,rfl,kA⟩ := h
 refine ⟨_,Me U aJ,fun c az => ?_⟩
 rw [Bool.or_eq_true,decide_eq_true_eq,kA c az,jB]
 constructor
 ·rintro (h | h)
  ·exact .inl h
  ·exact .inr h.symm
 ·rintro (h | h)
  ·exact .inl h
  ·exact .inr h.symm
theorem qy.imp {B : Nat} {P Q : Nat → Prop} {all : List Nat} (h : qy B P all) (jB : ∀ c,Q c ↔ P c) : qy B Q all := by
 obtain ⟨U,af,aj⟩ := h
 exact ⟨U,af,fun c az => by rw [aj c az,jB]⟩
theorem qy.len {B : Nat} {P : Nat → Prop} {all : List Nat} (h : qy B P all) : all.length ≤ B := by
 obtain ⟨U,rfl,_⟩ := h
 exact Nat.le_trans (List.length_filter_le _ _) (by simp)
theorem qy.no {B b : Nat} {P : Nat → Prop} {all : List Nat} (h : qy B P all) (aJ : b < B) (hp : ¬ P b) : all.contains b = false := by
 obtain ⟨U,rfl,aj⟩ := h
 rw [aaL U aJ]
 cases kA : U b
 ·rfl
 ·exact absurd ((aj b aJ).1 kA) hp
def agX (S : List da) (i : Nat) (s : da) (m : Nat) (c : Nat) : Prop := agZ S i c ∨ ∃ k,k < m ∧ s.has[k]? = some c
structure ak6 (l : cc) (w : cM fR) (S : List da) (N : Nat) : Prop where
 len : w.tasks.length = S.length
 pd : w.tasks.length ≤ 8
 get : ∀ (i : Nat) (y : ds fR),w.tasks[i]? = some y → ∃ s L,S[i]? = some s ∧ y.code = some (s,L) ∧ s.l = l ∧ nj l s.has ∧ (∀ (m b : Nat),s.has[m]? = some b → ¬ agX S i s m b ∧ dZ l (eg w.m) b = true)
 words : pE w.m = ou N (eg w.m)
end Go.Proofs.YtkmbcjnaaokilaaGreatDoor
namespace Go.Proofs.YtkmbcjnaaokilaaGreatDoor
open Go.RowKit

def SW : bU := (.seq (.ops [ab 4 (.ah (a6 false))]) (.seq (.ops [ab 5 (.ah (aa 0)),ab 6 (.ah (aa 1)),ab 7 (.call 76 [.tmp 5,.tmp 6]),ab 8 (.bin .geq (aa 7) (aA 0)),ab 4 (.ah (aa 8))]) .ret))
def RQ : List b3 := [.tmp 4]
theorem ajs : cJ Tryz.prog rfl Tryz.f56 = some (SW,RQ) := by kernel_rfl
def S2 : bU := (.seq (.ops [ab 4 (.ah (aA 0))]) (.seq (.seq (.ops [ab 6 (.ah (aa 0)),ab 7 (.len (aa 6)),ab 8 (.ah (aA 0))]) (.block 0 (.loop (.seq (.ops [ab 9 (.bin .lss (aa 8) (aa 7))]) (.seq (.cond (aa 9) .skip (.exit 0)) (.seq (.block 1 (.seq (.ops [ab 10 (.ah (aa 8)),ab 5 (.ah (aa 10))]) (.seq (.ops [ab 11 (.ah (aa 1)),ab 12 (.ah (aa 0)),ab 13 (.ah (aa 5)),ab 14 (.dU (aa 12) (aa 13) 1),ab 15 (.aC (aa 14) none),ab 16 (.kt (aa 11) [.tmp 15])]) (.cond (aa 16) (.seq (.ops [ab 17 (.ah (aa 5)),ab 4 (.ah (aa 17))]) .ret) .skip)))) (.ops [ab 18 (.bin .add (aa 8) (aA 1)),ab 8 (.ah (aa 18))]))))))) (.seq (.ops [ab 4 (.ah (aA (-1)))]) .ret)))
def RV : List b3 := [.tmp 4]
theorem ajz : cJ Tryz.prog rfl Tryz.f76 = some (S2,RV) := by kernel_rfl
end Go.Proofs.YtkmbcjnaaokilaaGreatDoor
