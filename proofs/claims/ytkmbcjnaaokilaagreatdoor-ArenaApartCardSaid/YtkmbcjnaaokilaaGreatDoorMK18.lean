/-
  The shadow code of functions, written by a program; each is what the translator makes of the function.
-/
import Derived.Test.YtkmbcjnaaokilaaGreatDoorMC
import Derived.Test.YtkmbcjnaaokilaaGreatDoorMK8
namespace Go.Proofs.YtkmbcjnaaokilaaGreatDoor
open Go.RowKit

def Wa : bZ := (.seq (.ops [ab 4 (.ah (a3 false))]) (.seq (.ops [ab 5 (.ah (aa 0)),ab 6 (.ah (aa 1)),ab 7 (.call 76 [.tmp 5,.tmp 6]),ab 8 (.bin .geq (aa 7) (ay 0)),ab 4 (.ah (aa 8))]) .ret))
def U2 : List b6 := [.tmp 4]
theorem am5 : cP Tryz.prog rfl Tryz.f56 = some (Wa,U2) := by kernel_rfl
def Wf : bZ := (.seq (.ops [ab 4 (.ah (ay 0))]) (.seq (.seq (.ops [ab 6 (.ah (aa 0)),ab 7 (.len (aa 6)),ab 8 (.ah (ay 0))]) (.block 0 (.loop (.seq (.ops [ab 9 (.bin .lss (aa 8) (aa 7))]) (.seq (.cond (aa 9) .skip (.exit 0)) (.seq (.block 1 (.seq (.ops [ab 10 (.ah (aa 8)),ab 5 (.ah (aa 10))]) (.seq (.ops [ab 11 (.ah (aa 1)),ab 12 (.ah (aa 0)),ab 13 (.ah (aa 5)),ab 14 (.dD (aa 12) (aa 13) 1),ab 15 (.aC (aa 14) none),ab 16 (.kP (aa 11) [.tmp 15])]) (.cond (aa 16) (.seq (.ops [ab 17 (.ah (aa 5)),ab 4 (.ah (aa 17))]) .ret) .skip)))) (.ops [ab 18 (.bin .add (aa 8) (ay 1)),ab 8 (.ah (aa 18))]))))))) (.seq (.ops [ab 4 (.ah (ay (-1)))]) .ret)))
def U7 : List b6 := [.tmp 4]
theorem anc : cP Tryz.prog rfl Tryz.f76 = some (Wf,U7) := by kernel_rfl
end Go.Proofs.YtkmbcjnaaokilaaGreatDoor
namespace Go.Proofs.YtkmbcjnaaokilaaGreatDoor
set_option linter.unusedSimpArgs false
set_option linter.unusedVariables false
open Go.RowKit Go.Maps
def setW (ws : List bm) (p : Nat) (v : Int) : List bm := ws.set p ⟨v,(du ws p).eV,(du ws p).ref⟩
theorem W9 (ws : List bm) (p : Nat) (v : Int) : (setW ws p v).length = ws.length := by unfold setW; rw [List.length_set]
theorem XR {ws : List bm} {p : Nat} (h : p < ws.length) (x : bm) (q : Nat) : du (ws.set p x) (q : Int) = if p = q then x else du ws (q : Int) := by
 unfold du
 rw [Int.toNat_natCast,List.getElem?_set]
 split
 ·rename_i e; subst e; first | rfl | (rw [if_pos h]; rfl)
 ·rfl
theorem Xa {ws : List bm} {p : Nat} {w : bm} (h : ws[p]? = some w) (v : Int) : (setW ws p v).map c6 = (ws.map c6).set p [aG v,gk w.eV,gk w.ref] := by
 have e : du ws (p : Int) = w := by unfold du; rw [Int.toNat_natCast,h]; rfl
 unfold setW
 rw [e,List.map_set]
def m9 (l : b1) (ws : List bm) : Nat → List bm
 | 0 => ws
 | i + 1 => setW (m9 l ws i) (bw l i).toNat 0
theorem z6 (l : b1) (ws : List bm) : ∀ i,(m9 l ws i).length = ws.length
 | 0 => rfl
 | i + 1 => by unfold m9; rw [W9,z6 l ws i]
def qz (l : b1) (ws : List bm) (u : Nat) : List bm := setW ws (bw l u).toNat (gV .or .i64 (du ws (bw l u)).val (fX u))
def y9 (l : b1) (ws : List bm) (us : List Nat) : List bm := us.foldl (qz l) (m9 l ws l.blocks.toNat)
theorem Ub (l : b1) (ws : List bm) (u : Nat) : (qz l ws u).length = ws.length := W9 _ _ _
theorem JV (l : b1) : ∀ (us : List Nat) (ws : List bm),(us.foldl (qz l) ws).length = ws.length
 | [],_ => rfl
 | u :: us,ws => by rw [List.foldl_cons,JV l us,Ub]
theorem S8 (l : b1) (ws : List bm) (us : List Nat) : (y9 l ws us).length = ws.length := by unfold y9; rw [JV,z6]
theorem aom {l : b1} (aE : e4 l = 0) {ws : List bm} (hw : dm l 7 ≤ (ws.length : Int)) {u : Nat} (hu : u < l.blocks.toNat) (c : Nat) : eg l (du (qz l ws u)) c = (eg l (du ws) c || decide (u = c)) := by
 have aJ := rM aE c
 have CD := rM aE u
 have bQ := uT aE (i := u) (by omega)
 rw [← OP]
 unfold eg
 congr 2
 obtain ⟨q,aT⟩ := Int.eq_ofNat_of_zero_le aJ
 obtain ⟨p,hp⟩ := Int.eq_ofNat_of_zero_le CD
 unfold qz setW mE
 rw [aT,hp,Int.toNat_natCast,XR (by omega)]
 by_cases e : p = q
 ·subst e; rw [if_pos rfl,if_pos rfl]
 ·rw [if_neg e,if_neg (by omega)]
theorem XD {l : b1} (aE : e4 l = 0) {ws : List bm} (hw : dm l 7 ≤ (ws.length : Int)) {c : Nat} : ∀ i,i ≤ l.blocks.toNat → c < i → eg l (du (m9 l ws i)) c = false
 | 0,_,h => absurd h (by omega)
 | i + 1,aq,h => by
  have aJ := rM aE c
  have CD := rM aE i
  have bQ := uT aE (i := i) (by omega)
  obtain ⟨q,aT⟩ := Int.eq_ofNat_of_zero_le aJ
  obtain ⟨p,hp⟩ := Int.eq_ofNat_of_zero_le CD
  have bR : ∀ k,l7 0 k = false := fun k => by rw [A9]; unfold uS; simp
  unfold eg
  unfold m9 setW
  rw [aT,hp,Int.toNat_natCast,XR (by rw [z6]; omega)]
  by_cases e : p = q
  ·subst e; rw [if_pos rfl]; exact bR c
  ·rw [if_neg e,← aT]
   by_cases a7 : c = i
   ·subst a7; rw [aT] at hp; omega
   ·exact XD aE hw i (by omega) (by omega)
theorem XF {l : b1} (aE : e4 l = 0) {c : Nat} : ∀ (us : List Nat) (ws : List bm),dm l 7 ≤ (ws.length : Int) → (∀ u ∈ us,u < l.blocks.toNat) → eg l (du (us.foldl (qz l) ws)) c = (eg l (du ws) c || us.contains c)
 | [],_,_,_ => by simp
 | u :: us,ws,hw,hu => by
  rw [List.foldl_cons,XF aE us _ (by rw [Ub]; exact hw) (fun x ar => hu x (by simp [ar])),aom aE hw (hu u (by simp))]
  rw [List.contains_cons,Bool.or_assoc]
  congr 2
  rw [Bool.eq_iff_iff]; simp; exact eq_comm
theorem aol {l : b1} (aE : e4 l = 0) {ws : List bm} (hw : dm l 7 ≤ (ws.length : Int)) {us : List Nat} (hu : ∀ u ∈ us,u < l.blocks.toNat) {c : Nat} (aB : c < l.blocks.toNat) : eg l (du (y9 l ws us)) c = us.contains c := by
 unfold y9
 rw [XF aE us _ (by rw [z6]; exact hw) hu,XD aE hw _ (Nat.le_refl _) aB,Bool.false_or]
theorem ajm (l : b1) (x : Int) : cq 57 [aG x,.di (fu l) 0] (eA (decide (x < 0) || decide (l.blocks ≤ x))) := by
 refine df Tryz.func57 amG rfl ?_
 by_cases h : x < 0
 ·rw [decide_eq_true h,Bool.true_or]
  unfold bK NX Nt;delta ab a8 aa ay a3
  have ad := @h
  refine ae fun bD aK b9 ck => ai fun ca aH => ?_;refine al ad ?_;refine aH _ (aK (some ([0,1],none)) _ (ae fun cg aP bx b8 => ai fun ch bk => ?_));refine ag 2 ad ?_;refine ag 4 ad ?_;refine ag 1 ad ?_;refine al ad ?_;refine bk _ (aP (some ([3],none)) _ ?_)
  exact cQ ad
 ·rw [decide_eq_false h,Bool.false_or]
  unfold bK NX Nt;delta ab a8 aa ay a3
  have ad := @h
  refine ae fun bD aK b9 ck => ai fun ca aH => ?_;refine al ad ?_;refine aH _ (aK (some ([0,1],none)) _ (ae fun cg aP bx b8 => ai fun ch bk => ?_));refine ag 2 ad ?_;refine ag 4 ad ?_;refine ag 1 ad ?_;refine al ad ?_;refine bk _ (aP (some ([3],none)) _ ?_)
  exact cQ ad
abbrev FF (x : Int) : List aw := [aG x]
def wT (a : List Int) (bad : Int → Bool) : Int := match a.findIdx? bad with
 | some i => (i : Int)
 | none => -1
def YJ (g : Nat) (f : FuncId) (cap : List aw) (a : List Int) (bad : Int → Bool) (k : Nat) (S : ak) : Prop :=
 ∃ i : Nat,i ≤ a.length ∧ k = a.length - i ∧ (∀ j x,j < i → a[j]? = some x → bad x = false) ∧ S = ⟨[(0,.au 1 g (a.map FF)),(1,.fn (.func f) [] cap),(7,aG a.length),(8,aG i)],[],0⟩
set_option maxHeartbeats 2000000 in
theorem ajF (g : Nat) (f : FuncId) (cap : List aw) (a : List Int) (bad : Int → Bool) (a9 : a.length ≤ 1000000) (bL : Enters f) (aZ : ∀ x,cq f (aG x :: cap) (eA (bad x))) : cq 76 [.au 1 g (a.map FF),.fn (.func f) [] cap] (aG (wT a bad)) := by
 refine df Tryz.func76 anc rfl ?_
 unfold bK Wf U7;delta ab aa ay
 refine ae fun _ aK _ _ => ai fun _ aH => ?_;refine cE ?_;refine aH _ (aK (some ([0,1],none)) _ (ae fun _ aP bx _ => ae fun _ bI _ _ => ai fun _ b0 => ?_));refine cE ?_;refine b0 _ (bI (some ([0,1,7,8],none)) _ (cj fun _ _ lA c5 _ => ?_));refine ie (YJ g f cap a bad) (a.length) (some ([0,1,7,8],none)) ([]) ?_ ?_
 ·try refine dR ?_
  exact ⟨0,by omega,by omega,fun j x aN => absurd aN (by omega),by rfl⟩
 ·intro k bT aW
  obtain ⟨i,aq,rfl,aN,rfl⟩ := aW
  have dZ : i = a.length ∨ (∃ x,a[i]? = some x ∧ bad x = true) ∨ (∃ x,a[i]? = some x ∧ bad x = false) := by
   rcases Nat.lt_or_ge i a.length with h | h
   ·have af := List.getElem?_eq_getElem h
    cases aI : bad a[i]
    ·exact .inr (.inr ⟨_,af,aI⟩)
    ·exact .inr (.inl ⟨_,af,aI⟩)
   ·exact .inl (by omega)
  intro _ cz ey fp
  rcases dZ with ea | ⟨x,e7,aI⟩ | ⟨x,e7,aI⟩
  ·skip
   have cn : ¬ (i : Int) < (a.length : Int) := by omega
   have a1 : wT a bad = -1 := by
    unfold wT
    have : a.findIdx? bad = none := by
     rw [List.findIdx?_eq_none_iff]
     intro x ar
     obtain ⟨j,yC,rfl⟩ := List.getElem_of_mem ar
     exact aN j _ (by omega) (List.getElem?_eq_getElem yC)
    rw [this]
   have ad := And.intro @cn @a1
   refine ae fun _ cv _ _ => ai fun _ aR => ?_;refine aS ad ?_;refine aR _ (cv (some ([0,1,7,8,9],none)) _ (ae fun _ _ _ jb => bs (jb 0 _ (fp 0 _ (lA _ (aP (some ([],none)) _ (ae fun _ cr _ _ => ai fun _ cD => ?_)))))));refine al ad ?_;refine cD _ (cr (some ([4],none)) _ ?_)
   exact cQ ad
  ·skip
   have bQ := (List.getElem?_eq_some_iff.1 e7).1
   have cn : (i : Int) < (a.length : Int) := by omega
   have fq := aZ x
   rw [aI] at fq
   have a1 : wT a bad = (i : Int) := by
    unfold wT
    have : a.findIdx? bad = some i := by
     rw [List.findIdx?_eq_some_iff_getElem]
     refine ⟨bQ,by rw [(List.getElem?_eq_some_iff.1 e7).2]; exact aI,fun j pJ => ?_⟩
     rw [aN j _ pJ (List.getElem?_eq_getElem (by omega))]; decide
    rw [this]
   have aD := And.intro @cn (And.intro @e7 @a1)
   refine ae fun _ dF _ _ => ai fun _ dq => ?_;refine aS aD ?_;refine dq _ (dF (some ([0,1,7,8,9],none)) _ (ae fun _ gl _ _ => bU (gl (some ([0,1,7,8],none)) _ (ae fun _ _ r4 _ => cj fun _ _ _ yW _ => ae fun _ hM _ _ => ai fun _ hr => ?_))));refine al aD ?_;refine hr _ (hM (some ([0,1,5,7,8],none)) _ (ae fun _ hZ _ _ => ai fun _ hh => ?_));refine ag 4 aD ?_;refine ag 1 aD ?_;refine al aD ?_;refine Or.inl ⟨bL,_,fq,?_⟩;refine hh _ (hZ (some ([0,1,5,7,8,16],none)) _ (bU (ae fun _ lu _ _ => ai fun _ im => ?_)));refine al aD ?_;refine im _ (lu (some ([4],none)) _ (yW _ (r4 _ (ey _ (c5 _ (bx _ ?_))))))
   exact cQ aD
  ·skip
   have bQ := (List.getElem?_eq_some_iff.1 e7).1
   have cn : (i : Int) < (a.length : Int) := by omega
   have dM : IntKind.i64.wrap ((i : Int) + 1) = ((i + 1 : Nat) : Int) := by rw [IntKind.wrap_i64]; omega
   have fq := aZ x
   rw [aI] at fq
   have bc := And.intro @cn (And.intro @dM @e7)
   refine ae fun _ iP _ _ => ai fun _ gD => ?_;refine aS bc ?_;refine gD _ (iP (some ([0,1,7,8,9],none)) _ (ae fun _ lv _ _ => bU (lv (some ([0,1,7,8],none)) _ (ae fun _ iQ _ _ => cj fun _ mv _ _ _ => ae fun _ s0 _ _ => ai fun _ jU => ?_))));refine al bc ?_;refine jU _ (s0 (some ([0,1,5,7,8],none)) _ (ae fun _ mw _ _ => ai fun _ mu => ?_));refine ag 4 bc ?_;refine ag 1 bc ?_;refine al bc ?_;refine Or.inl ⟨bL,_,fq,?_⟩;refine mu _ (mw (some ([0,1,5,7,8,16],none)) _ (bs (mv _ (iQ (some ([0,1,7,8],none)) _ (ai fun _ vf => ?_)))));refine ag 1 bc ?_;refine al bc ?_;refine vf _ ?_;refine cz (a.length - (i + 1)) (some ([0,1,7,8],none)) _ ?_ ?_
   all_goals try refine dR ?_
   ·omega
   ·refine ⟨i + 1,by omega,rfl,fun j y kA aV => ?_,rfl⟩
    rcases Nat.lt_or_ge j i with h | h
    ·exact aN j y h aV
    ·obtain rfl : j = i := by omega
     rw [e7] at aV; cases aV; exact aI
theorem aee (a : List Int) (bad : Int → Bool) : decide (wT a bad ≥ 0) = a.any bad := by
 unfold wT
 cases h : a.findIdx? bad with
 | none =>
  have af := List.findIdx?_eq_none_iff.1 h
  rw [show a.any bad = false from List.any_eq_false.2 fun x ar => by rw [af x ar]; decide]
  rfl
 | some i =>
  obtain ⟨af,aj,_⟩ := List.findIdx?_eq_some_iff_getElem.1 h
  rw [show a.any bad = true from List.any_eq_true.2 ⟨_,List.getElem_mem af,aj⟩]
  exact decide_eq_true (show (i : Int) ≥ 0 by omega)
theorem ajB (g : Nat) (f : FuncId) (cap : List aw) (a : List Int) (bad : Int → Bool) (a9 : a.length ≤ 1000000) (bL : Enters f) (aZ : ∀ x,cq f (aG x :: cap) (eA (bad x))) : cq 56 [.au 1 g (a.map FF),.fn (.func f) [] cap] (eA (a.any bad)) := by
 refine df Tryz.func56 am5 rfl ?_
 have bX := ajF g f cap a bad a9 bL aZ
 have a1 := aee a bad
 generalize a.any bad = R at a1
 generalize wT a bad = z at a1 bX
 unfold bK Wa U2;delta ab aa ay a3
 have ad := @a1
 refine ae fun _ aK _ _ => ai fun _ aH => ?_;refine al ad ?_;refine aH _ (aK (some ([0,1],none)) _ (ae fun _ aP _ _ => ai fun _ bk => ?_));refine aM 2 ad ?_;refine aM 1 ad ?_;refine Or.inl (Or.inl ⟨_,bX,?_⟩);refine ag 1 ad ?_;refine al ad ?_;refine bk _ (aP (some ([4],none)) _ ?_)
 exact cQ ad
theorem adR : Enters 57 := n8 Tryz.func57 rfl rfl
def Jk (l : b1) (x : Int) : Bool := decide (x < 0) || decide (l.blocks ≤ x)
def ZJ (l : b1) (bW : Nat) (ws : List bm) (us : List Nat) (k : Nat) (S : ak) : Prop :=
 ∃ i : Nat,i ≤ l.blocks.toNat ∧ k = l.blocks.toNat - i ∧ S = ⟨[(2,.au 1 bW (us.map hq)),(3,.ptr 0 0 0),(8,.own 1),(30,aG l.blocks),(31,aG i)],[(0,.gi (.di (fu l) 0)),(1,.row 79 3 ((m9 l ws i).map c6))],2⟩
def ZK (l : b1) (bW : Nat) (ws : List bm) (us : List Nat) (k : Nat) (S : ak) : Prop :=
 ∃ i : Nat,i ≤ us.length ∧ k = us.length - i ∧ S = ⟨[(3,.ptr 0 0 0),(8,.own 1),(45,.au 1 bW (us.map hq)),(46,aG us.length),(47,aG i)],[(0,.gi (.di (fu l) 0)),(1,.row 79 3 (((us.take i).foldl (qz l) (m9 l ws l.blocks.toNat)).map c6))],2⟩
set_option maxHeartbeats 8000000 in
theorem ajl {l : b1} (aE : e4 l = 0) (g bW : Nat) (ws : List bm) (us : List Nat) (hw : dm l 7 ≤ (ws.length : Int)) (GQ : ws.length ≤ 1000000) (a9 : us.length ≤ 1000000) (hu : ∀ u ∈ us,u < l.blocks.toNat) : cq 28 [.agg (fu l),.au 3 g (ws.map c6),.au 1 bW (us.map hq)] (.bY [.au 3 0 ((y9 l ws us).map c6),aG 0]) := by
 refine df Tryz.func28 amF rfl ?_
 have bX := TL l g ws
 rw [decide_eq_true ⟨aE,hw⟩] at bX
 have o0 : us.map hq = (us.map (fun u : Nat => (u : Int))).map FF := by rw [List.map_map]; rfl
 have cL := ajB bW 57 [.di (fu l) 0] (us.map (fun u : Nat => (u : Int))) (Jk l) (by simp; omega) adR (fun x => ajm l x)
 rw [← o0,show (us.map (fun u : Nat => (u : Int))).any (Jk l) = false from List.any_eq_false.2 fun x ar => by
  obtain ⟨u,af,rfl⟩ := List.mem_map.1 ar
  have := hu u af
  unfold Jk
  simp; omega] at cL
 have aI := (kb aE).1.2.2
 have mC := fun i aq => xz aE i aq
 have Ct : ∀ i : Nat,(i : Int) < l.blocks → ∃ b : Nat,bw l i = (b : Int) ∧ b < ws.length := fun i aq => by
  have af := rM aE i
  have aj := uT aE aq
  exact ⟨(bw l i).toNat,by omega,by omega⟩
 unfold y9
 unfold bK VX UO;delta ab aQ aa ay
 refine ae fun _ aK _ _ => ai fun _ aH => ?_;refine cE ?_;refine aH _ (aK (some ([1,2,3],none)) _ (ae fun _ aP _ _ => cj fun _ bI _ _ _ => ae fun _ bV _ _ => ai fun _ dk => ?_));refine c4 1 ?_;refine eH 1 ?_;refine eH 1 ?_;refine Or.inl (Or.inl ⟨_,bX,?_⟩);refine cE ?_;refine dk _ (bV (some ([1,2,3,16],none)) _ (bs (ae fun _ cz _ _ => ai fun _ c7 => ?_)));refine eH 2 ?_;refine eH 1 ?_;refine Or.inl (Or.inl ⟨_,cL,?_⟩);refine cE ?_;refine c7 _ (cz (some ([1,2,3,22],none)) _ (bs (bI _ (aP (some ([1,2,3],none)) _ (ae fun _ cR _ _ => ai fun _ cK => ?_)))));refine eH 1 ?_;refine eH 1 ?_;refine Or.inl (Or.inr (Or.inl ⟨_,_,_,Nj g _ (by simp; omega),?_⟩));refine cE ?_;refine cK _ (cR (some ([2,3,8],none)) _ ?_)
 refine ae fun _ cr _ _ => ae fun _ ff _ _ => ai fun _ ew => ?_;refine c4 2 ?_;refine cE ?_;refine ew _ (ff (some ([2,3,8,30,31],none)) _ (cj fun _ _ y3 _ _ => ?_));refine ie (ZJ l bW ws us) (l.blocks.toNat) (some ([2,3,8,30,31],some ([0,1],2))) ([]) ?_ ?_
 ·try refine dR ?_
  exact ⟨0,by omega,by omega,by rfl⟩
 ·intro k bT aW
  obtain ⟨i,aq,rfl,rfl⟩ := aW
  have dZ : (i : Int) = l.blocks ∨ (i : Int) < l.blocks := by omega
  intro _ gl _ lo
  rcases dZ with ea | ea
  ·skip
   obtain rfl : i = l.blocks.toNat := by omega
   have cn : ¬ (l.blocks.toNat : Int) < l.blocks := by omega
   have ad := @cn
   refine ae fun _ fF _ _ => ai fun _ eF => ?_;refine aS ad ?_;refine eF _ (fF (some ([2,3,8,30,31,32],none)) _ (ae fun _ _ _ vd => bs (vd 1 _ (lo 1 _ (y3 _ (cr (some ([2,3,8],none)) _ (ae fun _ hJ _ _ => ae fun _ hZ _ _ => ai fun _ hh => ?_)))))));refine al ad ?_;refine hh _ (hZ (some ([3,8,45,46,47],none)) _ (cj fun _ _ ahs _ _ => ?_));refine ie (ZK l bW ws us) (us.length) (some ([3,8,45,46,47],some ([0,1],2))) ([]) ?_ ?_
   ·try refine dR ?_
    exact ⟨0,by omega,by omega,by rfl⟩
   ·intro k bT aW
    obtain ⟨i,aq,rfl,rfl⟩ := aW
    have dZ : i = us.length ∨ ∃ u,us[i]? = some u ∧ i < us.length := by
     rcases Nat.lt_or_ge i us.length with h | h
     ·exact .inr ⟨_,List.getElem?_eq_getElem h,h⟩
     ·exact .inl (by omega)
    intro _ iu _ Cv
    rcases dZ with ea | ⟨u,Dh,ea⟩
    ·skip
     have cn : ¬ (i : Int) < (us.length : Int) := by omega
     have a1 : us.take i = us := by rw [ea,List.take_length]
     have aD := And.intro ad (And.intro @cn @a1)
     refine ae fun _ iP _ _ => ai fun _ gD => ?_;refine aS aD ?_;refine gD _ (iP (some ([3,8,45,46,47,48],none)) _ (ae fun _ _ _ afM => bs (afM 3 _ (Cv 3 _ (ahs _ (hJ (some ([8],none)) _ (ae fun _ iQ _ _ => ai fun _ iO => ?_)))))));refine al aD ?_;refine iO _ (iQ (some ([6,7],none)) _ ?_)
     exact cQ aD
    ·skip
     have dM : IntKind.i64.wrap ((i : Int) + 1) = ((i + 1 : Nat) : Int) := by rw [IntKind.wrap_i64]; omega
     have cn : (i : Int) < (us.length : Int) := by omega
     have aqS := hu u (List.mem_of_getElem? Dh)
     have s9 := mC u (by omega)
     obtain ⟨p,Ax,Sj⟩ := Ct u (by omega)
     rw [Ax] at s9
     have gP : ((us.take i).foldl (qz l) (m9 l ws l.blocks.toNat)).length = ws.length := by rw [JV,z6]
     have mU : (us.take (i + 1)).foldl (qz l) (m9 l ws l.blocks.toNat) = qz l ((us.take i).foldl (qz l) (m9 l ws l.blocks.toNat)) u := by rw [List.take_add_one,Dh,List.foldl_append]; rfl
     generalize (us.take i).foldl (qz l) (m9 l ws l.blocks.toNat) = W at gP mU
     obtain ⟨w,vC⟩ : ∃ w,W[p]? = some w := ⟨_,List.getElem?_eq_getElem (by omega)⟩
     have ao : ((us.take (i + 1)).foldl (qz l) (m9 l ws l.blocks.toNat)).map c6 = (W.map c6).set p [aG (gV .or .i64 w.val (fX u)),gk w.eV,gk w.ref] := by
      rw [mU,← Xa vC]; unfold qz; rw [Ax,Int.toNat_natCast,show du W (p : Int) = w by unfold du; rw [Int.toNat_natCast,vC]; rfl]
     have km : (p : Int) < (W.length : Int) := by omega
     have tx : p < W.length := by omega
     have bc := And.intro ad (And.intro @cn (And.intro @dM (And.intro @Dh (And.intro @vC (And.intro @km @tx)))))
     refine ae fun _ s0 _ _ => ai fun _ jU => ?_;refine aS bc ?_;refine jU _ (s0 (some ([3,8,45,46,47,48],none)) _ (ae fun _ mw _ _ => bU (mw (some ([3,8,45,46,47],none)) _ (ae fun _ pP _ _ => cj fun _ kD _ _ _ => ae fun _ rh _ _ => ai fun _ nj => ?_))));refine ag 1 bc ?_;refine ag 1 bc ?_;refine al bc ?_;refine nj _ (rh (some ([3,8,13,45,46,47],none)) _ (ae fun _ ox _ _ => ai fun _ nk => ?_));refine ag 1 bc ?_;refine aM 1 bc ?_;refine aM 1 bc ?_;refine Or.inl (Or.inl ⟨_,s9,?_⟩);refine al bc ?_;refine nk _ (ox (some ([3,8,14,15,45,46,47],none)) _ (ai fun _ pL => ?_));refine ag 3 bc ?_;refine ag 2 bc ?_;refine aM 1 bc ?_;refine aM 1 bc ?_;refine Or.inl ⟨_,u5 (.inr (.inl rfl)),?_⟩;refine ag 1 bc ?_;refine aS bc ?_
     refine pL _ (kD _ (pP (some ([3,8,45,46,47],none)) _ (ai fun _ jV => ?_)));refine ag 1 bc ?_;refine al bc ?_;refine jV _ ?_;refine iu (us.length - (i + 1)) (some ([3,8,45,46,47],some ([0,1],2))) _ ?_ ?_
     all_goals try refine dR ?_
     ·omega
     ·exact ⟨i + 1,by omega,by omega,by rw [ao]⟩
  ·skip
   have dM : IntKind.i64.wrap ((i : Int) + 1) = ((i + 1 : Nat) : Int) := by rw [IntKind.wrap_i64]; omega
   have s9 := mC i ea
   obtain ⟨p,Ax,Sj⟩ := Ct i ea
   rw [Ax] at s9
   have gP := z6 l ws i
   obtain ⟨w,vC⟩ : ∃ w,(m9 l ws i)[p]? = some w := ⟨_,List.getElem?_eq_getElem (by omega)⟩
   have ao : (m9 l ws (i + 1)).map c6 = ((m9 l ws i).map c6).set p [aG 0,gk w.eV,gk w.ref] := by
    have := Xa vC 0
    rw [← this]; unfold m9; rw [Ax,Int.toNat_natCast]; cases i <;> rfl
   have km : (p : Int) < ((m9 l ws i).length : Int) := by omega
   have tx : p < (m9 l ws i).length := by omega
   have bt := And.intro @ea (And.intro @dM (And.intro @vC (And.intro @km @tx)))
   refine ae fun _ ri _ _ => ai fun _ nn => ?_;refine aS bt ?_;refine nn _ (ri (some ([2,3,8,30,31,32],none)) _ (ae fun _ vo _ _ => bU (vo (some ([2,3,8,30,31],none)) _ (ae fun _ r2 _ _ => cj fun _ yL _ _ _ => ae fun _ vp _ _ => ai fun _ pM => ?_))));refine al bt ?_;refine pM _ (vp (some ([2,3,8,9,30,31],none)) _ (ae fun _ yM _ _ => ai fun _ q9 => ?_));refine ag 1 bt ?_;refine aM 1 bt ?_;refine aM 1 bt ?_;refine Or.inl (Or.inl ⟨_,s9,?_⟩);refine al bt ?_;refine q9 _ (yM (some ([2,3,8,10,30,31],none)) _ (ai fun _ vg => ?_));refine ag 3 bt ?_;refine aS bt ?_;refine vg _ (yL _ (r2 (some ([2,3,8,30,31],none)) _ (ai fun _ ra => ?_)));refine ag 1 bt ?_;refine al bt ?_;refine ra _ ?_;refine gl (l.blocks.toNat - (i + 1)) (some ([2,3,8,30,31],some ([0,1],2))) _ ?_ ?_
   all_goals try refine dR ?_
   ·omega
   ·exact ⟨i + 1,by omega,by omega,by rw [ao]⟩
end Go.Proofs.YtkmbcjnaaokilaaGreatDoor
