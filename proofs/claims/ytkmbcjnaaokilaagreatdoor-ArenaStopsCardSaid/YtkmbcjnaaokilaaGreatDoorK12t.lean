/-
  Layer 12 by shadows: Mark.
-/
import Derived.Test.YtkmbcjnaaokilaaGreatDoorMK16
namespace Go.Proofs.YtkmbcjnaaokilaaGreatDoor
set_option linter.unusedSimpArgs false
set_option linter.unusedVariables false
open Go.RowKit Go.Maps
def setW (ws : List bq) (p : Nat) (v : Int) : List bq := ws.set p ⟨v,(dw ws p).eZ,(dw ws p).ref⟩
theorem TR (ws : List bq) (p : Nat) (v : Int) : (setW ws p v).length = ws.length := by unfold setW; rw [List.length_set]
theorem UB {ws : List bq} {p : Nat} (h : p < ws.length) (x : bq) (q : Nat) : dw (ws.set p x) (q : Int) = if p = q then x else dw ws (q : Int) := by
 unfold dw
 rw [Int.toNat_natCast,List.getElem?_set]
 split
 ·rename_i e; subst e; first | rfl | (rw [if_pos h]; rfl)
 ·rfl
theorem TS {ws : List bq} {p : Nat} {w : bq} (h : ws[p]? = some w) (v : Int) : (setW ws p v).map dj = (ws.map dj).set p [aI v,fX w.eZ,fX w.ref] := by
 have e : dw ws (p : Int) = w := by unfold dw; rw [Int.toNat_natCast,h]; rfl
 unfold setW
 rw [e,List.map_set]
def mz (l : cc) (ws : List bq) : Nat → List bq
 | 0 => ws
 | i + 1 => setW (mz l ws i) (bA l i).toNat 0
theorem yp (l : cc) (ws : List bq) : ∀ i,(mz l ws i).length = ws.length
 | 0 => rfl
 | i + 1 => by unfold mz; rw [TR,yp l ws i]
def pA (l : cc) (ws : List bq) (u : Nat) : List bq := setW ws (bA l u).toNat (gN .or .i64 (dw ws (bA l u)).val (fP u))
def xy (l : cc) (ws : List bq) (us : List Nat) : List bq := us.foldl (pA l) (mz l ws l.blocks.toNat)
theorem Q6 (l : cc) (ws : List bq) (u : Nat) : (pA l ws u).length = ws.length := TR _ _ _
theorem HG (l : cc) : ∀ (us : List Nat) (ws : List bq),(us.foldl (pA l) ws).length = ws.length
 | [],_ => rfl
 | u :: us,ws => by rw [List.foldl_cons,HG l us,Q6]
theorem Qc (l : cc) (ws : List bq) (us : List Nat) : (xy l ws us).length = ws.length := by unfold xy; rw [HG,yp]
theorem akE {l : cc} (aF : fj l = 0) {ws : List bq} (hw : dp l 7 ≤ (ws.length : Int)) {u : Nat} (hu : u < l.blocks.toNat) (c : Nat) : dZ l (dw (pA l ws u)) c = (dZ l (dw ws) c || decide (u = c)) := by
 have aH := qG aF c
 have AW := qG aF u
 have bN := tB aF (i := u) (by omega)
 rw [← L7]
 unfold dZ
 congr 2
 obtain ⟨q,aS⟩ := Int.eq_ofNat_of_zero_le aH
 obtain ⟨p,hp⟩ := Int.eq_ofNat_of_zero_le AW
 unfold pA setW lZ
 rw [aS,hp,Int.toNat_natCast,UB (by omega)]
 by_cases e : p = q
 ·subst e; rw [if_pos rfl,if_pos rfl]
 ·rw [if_neg e,if_neg (by omega)]
theorem Un {l : cc} (aF : fj l = 0) {ws : List bq} (hw : dp l 7 ≤ (ws.length : Int)) {c : Nat} : ∀ i,i ≤ l.blocks.toNat → c < i → dZ l (dw (mz l ws i)) c = false
 | 0,_,h => absurd h (by omega)
 | i + 1,aq,h => by
  have aH := qG aF c
  have AW := qG aF i
  have bN := tB aF (i := i) (by omega)
  obtain ⟨q,aS⟩ := Int.eq_ofNat_of_zero_le aH
  obtain ⟨p,hp⟩ := Int.eq_ofNat_of_zero_le AW
  have bO : ∀ k,ly 0 k = false := fun k => by rw [zv]; unfold tA; simp
  unfold dZ
  unfold mz setW
  rw [aS,hp,Int.toNat_natCast,UB (by rw [yp]; omega)]
  by_cases e : p = q
  ·subst e; rw [if_pos rfl]; exact bO c
  ·rw [if_neg e,← aS]
   by_cases a8 : c = i
   ·subst a8; rw [aS] at hp; omega
   ·exact Un aF hw i (by omega) (by omega)
theorem Up {l : cc} (aF : fj l = 0) {c : Nat} : ∀ (us : List Nat) (ws : List bq),dp l 7 ≤ (ws.length : Int) → (∀ u ∈ us,u < l.blocks.toNat) → dZ l (dw (us.foldl (pA l) ws)) c = (dZ l (dw ws) c || us.contains c)
 | [],_,_,_ => by simp
 | u :: us,ws,hw,hu => by
  rw [List.foldl_cons,Up aF us _ (by rw [Q6]; exact hw) (fun x ar => hu x (by simp [ar])),akE aF hw (hu u (by simp))]
  rw [List.contains_cons,Bool.or_assoc]
  congr 2
  rw [Bool.eq_iff_iff]; simp; exact eq_comm
theorem akD {l : cc} (aF : fj l = 0) {ws : List bq} (hw : dp l 7 ≤ (ws.length : Int)) {us : List Nat} (hu : ∀ u ∈ us,u < l.blocks.toNat) {c : Nat} (az : c < l.blocks.toNat) : dZ l (dw (xy l ws us)) c = us.contains c := by
 unfold xy
 rw [Up aF us _ (by rw [yp]; exact hw) hu,Un aF hw _ (Nat.le_refl _) az,Bool.false_or]
theorem afN (l : cc) (x : Int) : cu 57 [aI x,.dc (fe l) 0] (dH (decide (x < 0) || decide (l.blocks ≤ x))) := by
 refine df Tryz.func57 ai3 rfl ?_
 by_cases h : x < 0
 ·rw [decide_eq_true h,Bool.true_or]
  unfold bJ Lj KR;delta ab a9 aa aA a6
  have ad := @h
  refine ae fun bz aK b6 cb => ai fun b7 aG => ?_;refine an ad ?_;refine aG _ (aK (some ([0,1],none)) _ (ae fun b8 aQ bt b5 => ai fun b9 bh => ?_));refine ag 2 ad ?_;refine ag 4 ad ?_;refine ag 1 ad ?_;refine an ad ?_;refine bh _ (aQ (some ([3],none)) _ ?_)
  exact cO ad
 ·rw [decide_eq_false h,Bool.false_or]
  unfold bJ Lj KR;delta ab a9 aa aA a6
  have ad := @h
  refine ae fun bz aK b6 cb => ai fun b7 aG => ?_;refine an ad ?_;refine aG _ (aK (some ([0,1],none)) _ (ae fun b8 aQ bt b5 => ai fun b9 bh => ?_));refine ag 2 ad ?_;refine ag 4 ad ?_;refine ag 1 ad ?_;refine an ad ?_;refine bh _ (aQ (some ([3],none)) _ ?_)
  exact cO ad
abbrev DH (x : Int) : List av := [aI x]
def ve (a : List Int) (bad : Int → Bool) : Int := match a.findIdx? bad with
 | some i => (i : Int)
 | none => -1
def U6 (g : Nat) (f : FuncId) (cap : List av) (a : List Int) (bad : Int → Bool) (k : Nat) (S : ak) : Prop :=
 ∃ i : Nat,i ≤ a.length ∧ k = a.length - i ∧ (∀ j x,j < i → a[j]? = some x → bad x = false) ∧ S = ⟨[(0,.au 1 g (a.map DH)),(1,.fn (.func f) [] cap),(7,aI a.length),(8,aI i)],[],0⟩
set_option maxHeartbeats 2000000 in
theorem af8 (g : Nat) (f : FuncId) (cap : List av) (a : List Int) (bad : Int → Bool) (a7 : a.length ≤ 1000000) (bK : Enters f) (aW : ∀ x,cu f (aI x :: cap) (dH (bad x))) : cu 76 [.au 1 g (a.map DH),.fn (.func f) [] cap] (aI (ve a bad)) := by
 refine df Tryz.func76 ajz rfl ?_
 unfold bJ S2 RV;delta ab aa aA
 refine ae fun _ aK _ _ => ai fun _ aG => ?_;refine cz ?_;refine aG _ (aK (some ([0,1],none)) _ (ae fun _ aQ bt _ => ae fun _ bG _ _ => ai fun _ bZ => ?_));refine cz ?_;refine bZ _ (bG (some ([0,1,7,8],none)) _ (cx fun _ _ lW cY _ => ?_));refine jS (U6 g f cap a bad) (a.length) (some ([0,1,7,8],none)) ([]) ?_ ?_
 ·try refine eC ?_
  exact ⟨0,by omega,by omega,fun j x aM => absurd aM (by omega),by rfl⟩
 ·intro k b0 aY
  obtain ⟨i,aq,rfl,aM,rfl⟩ := aY
  have eF : i = a.length ∨ (∃ x,a[i]? = some x ∧ bad x = true) ∨ (∃ x,a[i]? = some x ∧ bad x = false) := by
   rcases Nat.lt_or_ge i a.length with h | h
   ·have af := List.getElem?_eq_getElem h
    cases aJ : bad a[i]
    ·exact .inr (.inr ⟨_,af,aJ⟩)
    ·exact .inr (.inl ⟨_,af,aJ⟩)
   ·exact .inl (by omega)
  intro _ cp ek ft
  rcases eF with dT | ⟨x,gB,aJ⟩ | ⟨x,gB,aJ⟩
  ·skip
   have cE : ¬ (i : Int) < (a.length : Int) := by omega
   have a2 : ve a bad = -1 := by
    unfold ve
    have : a.findIdx? bad = none := by
     rw [List.findIdx?_eq_none_iff]
     intro x ar
     obtain ⟨j,A2,rfl⟩ := List.getElem_of_mem ar
     exact aM j _ (by omega) (List.getElem?_eq_getElem A2)
    rw [this]
   have ad := And.intro @cE @a2
   refine ae fun _ ck _ _ => ai fun _ aP => ?_;refine aU ad ?_;refine aP _ (ck (some ([0,1,7,8,9],none)) _ (ae fun _ _ _ jm => bB (jm 0 _ (ft 0 _ (lW _ (aQ (some ([],none)) _ (ae fun _ ct _ _ => ai fun _ cG => ?_)))))));refine an ad ?_;refine cG _ (ct (some ([4],none)) _ ?_)
   exact cO ad
  ·skip
   have bN := (List.getElem?_eq_some_iff.1 gB).1
   have cE : (i : Int) < (a.length : Int) := by omega
   have fk := aW x
   rw [aJ] at fk
   have a2 : ve a bad = (i : Int) := by
    unfold ve
    have : a.findIdx? bad = some i := by
     rw [List.findIdx?_eq_some_iff_getElem]
     refine ⟨bN,by rw [(List.getElem?_eq_some_iff.1 gB).2]; exact aJ,fun j m9 => ?_⟩
     rw [aM j _ m9 (List.getElem?_eq_getElem (by omega))]; decide
    rw [this]
   have aD := And.intro @cE (And.intro @gB @a2)
   refine ae fun _ dJ _ _ => ai fun _ dt => ?_;refine aU aD ?_;refine dt _ (dJ (some ([0,1,7,8,9],none)) _ (ae fun _ gK _ _ => bY (gK (some ([0,1,7,8],none)) _ (ae fun _ _ sX _ => cx fun _ _ _ Bz _ => ae fun _ ic _ _ => ai fun _ hz => ?_))));refine an aD ?_;refine hz _ (ic (some ([0,1,5,7,8],none)) _ (ae fun _ ix _ _ => ai fun _ ht => ?_));refine ag 4 aD ?_;refine ag 1 aD ?_;refine an aD ?_;refine Or.inl ⟨bK,_,fk,?_⟩;refine ht _ (ix (some ([0,1,5,7,8,16],none)) _ (bY (ae fun _ lS _ _ => ai fun _ hK => ?_)));refine an aD ?_;refine hK _ (lS (some ([4],none)) _ (Bz _ (sX _ (ek _ (cY _ (bt _ ?_))))))
   exact cO aD
  ·skip
   have bN := (List.getElem?_eq_some_iff.1 gB).1
   have cE : (i : Int) < (a.length : Int) := by omega
   have dQ : IntKind.i64.wrap ((i : Int) + 1) = ((i + 1 : Nat) : Int) := by rw [IntKind.wrap_i64]; omega
   have fk := aW x
   rw [aJ] at fk
   have bm := And.intro @cE (And.intro @dQ @gB)
   refine ae fun _ iX _ _ => ai fun _ gu => ?_;refine aU bm ?_;refine gu _ (iX (some ([0,1,7,8,9],none)) _ (ae fun _ kY _ _ => bY (kY (some ([0,1,7,8],none)) _ (ae fun _ kf _ _ => cx fun _ mL _ _ _ => ae fun _ rV _ _ => ai fun _ kb => ?_))));refine an bm ?_;refine kb _ (rV (some ([0,1,5,7,8],none)) _ (ae fun _ nC _ _ => ai fun _ ny => ?_));refine ag 4 bm ?_;refine ag 1 bm ?_;refine an bm ?_;refine Or.inl ⟨bK,_,fk,?_⟩;refine ny _ (nC (some ([0,1,5,7,8,16],none)) _ (bB (mL _ (kf (some ([0,1,7,8],none)) _ (ai fun _ tX => ?_)))));refine ag 1 bm ?_;refine an bm ?_;refine tX _ ?_;refine cp (a.length - (i + 1)) (some ([0,1,7,8],none)) _ ?_ ?_
   all_goals try refine eC ?_
   ·omega
   ·refine ⟨i + 1,by omega,rfl,fun j y kB a1 => ?_,rfl⟩
    rcases Nat.lt_or_ge j i with h | h
    ·exact aM j y h a1
    ·obtain rfl : j = i := by omega
     rw [gB] at a1; cases a1; exact aJ
theorem aaO (a : List Int) (bad : Int → Bool) : decide (ve a bad ≥ 0) = a.any bad := by
 unfold ve
 cases h : a.findIdx? bad with
 | none =>
  have af := List.findIdx?_eq_none_iff.1 h
  rw [show a.any bad = false from List.any_eq_false.2 fun x ar => by rw [af x ar]; decide]
  rfl
 | some i =>
  obtain ⟨af,aj,_⟩ := List.findIdx?_eq_some_iff_getElem.1 h
  rw [show a.any bad = true from List.any_eq_true.2 ⟨_,List.getElem_mem af,aj⟩]
  exact decide_eq_true (show (i : Int) ≥ 0 by omega)
theorem af4 (g : Nat) (f : FuncId) (cap : List av) (a : List Int) (bad : Int → Bool) (a7 : a.length ≤ 1000000) (bK : Enters f) (aW : ∀ x,cu f (aI x :: cap) (dH (bad x))) : cu 56 [.au 1 g (a.map DH),.fn (.func f) [] cap] (dH (a.any bad)) := by
 refine df Tryz.func56 ajs rfl ?_
 have b2 := af8 g f cap a bad a7 bK aW
 have a2 := aaO a bad
 generalize a.any bad = R at a2
 generalize ve a bad = z at a2 b2
 unfold bJ SW RQ;delta ab aa aA a6
 have ad := @a2
 refine ae fun _ aK _ _ => ai fun _ aG => ?_;refine an ad ?_;refine aG _ (aK (some ([0,1],none)) _ (ae fun _ aQ _ _ => ai fun _ bh => ?_));refine aL 2 ad ?_;refine aL 1 ad ?_;refine Or.inl (Or.inl ⟨_,b2,?_⟩);refine ag 1 ad ?_;refine an ad ?_;refine bh _ (aQ (some ([4],none)) _ ?_)
 exact cO ad
theorem aaq : Enters 57 := nn Tryz.func57 rfl rfl
def G8 (l : cc) (x : Int) : Bool := decide (x < 0) || decide (l.blocks ≤ x)
def V5 (l : cc) (bQ : Nat) (ws : List bq) (us : List Nat) (k : Nat) (S : ak) : Prop :=
 ∃ i : Nat,i ≤ l.blocks.toNat ∧ k = l.blocks.toNat - i ∧ S = ⟨[(2,.au 1 bQ (us.map iu)),(3,.ptr 0 0 0),(8,.own 1),(30,aI l.blocks),(31,aI i)],[(0,.fS (.dc (fe l) 0)),(1,.row 79 3 ((mz l ws i).map dj))],2⟩
def V6 (l : cc) (bQ : Nat) (ws : List bq) (us : List Nat) (k : Nat) (S : ak) : Prop :=
 ∃ i : Nat,i ≤ us.length ∧ k = us.length - i ∧ S = ⟨[(3,.ptr 0 0 0),(8,.own 1),(45,.au 1 bQ (us.map iu)),(46,aI us.length),(47,aI i)],[(0,.fS (.dc (fe l) 0)),(1,.row 79 3 (((us.take i).foldl (pA l) (mz l ws l.blocks.toNat)).map dj))],2⟩
set_option maxHeartbeats 8000000 in
theorem afM {l : cc} (aF : fj l = 0) (g bQ : Nat) (ws : List bq) (us : List Nat) (hw : dp l 7 ≤ (ws.length : Int)) (EI : ws.length ≤ 1000000) (a7 : us.length ≤ 1000000) (hu : ∀ u ∈ us,u < l.blocks.toNat) : cu 28 [.agg (fe l),.au 3 g (ws.map dj),.au 1 bQ (us.map iu)] (.bR [.au 3 0 ((xy l ws us).map dj),aI 0]) := by
 refine df Tryz.func28 ai2 rfl ?_
 have b2 := QL l g ws
 rw [decide_eq_true ⟨aF,hw⟩] at b2
 have n8 : us.map iu = (us.map (fun u : Nat => (u : Int))).map DH := by rw [List.map_map]; rfl
 have cy := af4 bQ 57 [.dc (fe l) 0] (us.map (fun u : Nat => (u : Int))) (G8 l) (by simp; omega) aaq (fun x => afN l x)
 rw [← n8,show (us.map (fun u : Nat => (u : Int))).any (G8 l) = false from List.any_eq_false.2 fun x ar => by
  obtain ⟨u,af,rfl⟩ := List.mem_map.1 ar
  have := hu u af
  unfold G8
  simp; omega] at cy
 have aJ := (ku aF).1.2.2
 have nF := fun i aq => y2 aF i aq
 have AL : ∀ i : Nat,(i : Int) < l.blocks → ∃ b : Nat,bA l i = (b : Int) ∧ b < ws.length := fun i aq => by
  have af := qG aF i
  have aj := tB aF aq
  exact ⟨(bA l i).toNat,by omega,by omega⟩
 unfold xy
 unfold bJ SI RD;delta ab aR aa aA
 refine ae fun _ aK _ _ => ai fun _ aG => ?_;refine cz ?_;refine aG _ (aK (some ([1,2,3],none)) _ (ae fun _ aQ _ _ => cx fun _ bG _ _ _ => ae fun _ bT _ _ => ai fun _ de => ?_));refine cV 1 ?_;refine eu 1 ?_;refine eu 1 ?_;refine Or.inl (Or.inl ⟨_,b2,?_⟩);refine cz ?_;refine de _ (bT (some ([1,2,3,16],none)) _ (bB (ae fun _ cp _ _ => ai fun _ c0 => ?_)));refine eu 2 ?_;refine eu 1 ?_;refine Or.inl (Or.inl ⟨_,cy,?_⟩);refine cz ?_;refine c0 _ (cp (some ([1,2,3,22],none)) _ (bB (bG _ (aQ (some ([1,2,3],none)) _ (ae fun _ cN _ _ => ai fun _ cF => ?_)))));refine eu 1 ?_;refine eu 1 ?_;refine Or.inl (Or.inr (Or.inl ⟨_,_,_,KI g _ (by simp; omega),?_⟩));refine cz ?_;refine cF _ (cN (some ([2,3,8],none)) _ ?_)
 refine ae fun _ ct _ _ => ae fun _ eW _ _ => ai fun _ ed => ?_;refine cV 2 ?_;refine cz ?_;refine ed _ (eW (some ([2,3,8,30,31],none)) _ (cx fun _ _ xp _ _ => ?_));refine jS (V5 l bQ ws us) (l.blocks.toNat) (some ([2,3,8,30,31],some ([0,1],2))) ([]) ?_ ?_
 ·try refine eC ?_
  exact ⟨0,by omega,by omega,by rfl⟩
 ·intro k b0 aY
  obtain ⟨i,aq,rfl,rfl⟩ := aY
  have eF : (i : Int) = l.blocks ∨ (i : Int) < l.blocks := by omega
  intro _ gK _ lP
  rcases eF with dT | dT
  ·skip
   obtain rfl : i = l.blocks.toNat := by omega
   have cE : ¬ (l.blocks.toNat : Int) < l.blocks := by omega
   have ad := @cE
   refine ae fun _ fy _ _ => ai fun _ eV => ?_;refine aU ad ?_;refine eV _ (fy (some ([2,3,8,30,31,32],none)) _ (ae fun _ _ _ tV => bB (tV 1 _ (lP 1 _ (xp _ (ct (some ([2,3,8],none)) _ (ae fun _ h4 _ _ => ae fun _ ix _ _ => ai fun _ ht => ?_)))))));refine an ad ?_;refine ht _ (ix (some ([3,8,45,46,47],none)) _ (cx fun _ _ ad5 _ _ => ?_));refine jS (V6 l bQ ws us) (us.length) (some ([3,8,45,46,47],some ([0,1],2))) ([]) ?_ ?_
   ·try refine eC ?_
    exact ⟨0,by omega,by omega,by rfl⟩
   ·intro k b0 aY
    obtain ⟨i,aq,rfl,rfl⟩ := aY
    have eF : i = us.length ∨ ∃ u,us[i]? = some u ∧ i < us.length := by
     rcases Nat.lt_or_ge i us.length with h | h
     ·exact .inr ⟨_,List.getElem?_eq_getElem h,h⟩
     ·exact .inl (by omega)
    intro _ ke _ AO
    rcases eF with dT | ⟨u,BE,dT⟩
    ·skip
     have cE : ¬ (i : Int) < (us.length : Int) := by omega
     have a2 : us.take i = us := by rw [dT,List.take_length]
     have aD := And.intro ad (And.intro @cE @a2)
     refine ae fun _ iX _ _ => ai fun _ gu => ?_;refine aU aD ?_;refine gu _ (iX (some ([3,8,45,46,47,48],none)) _ (ae fun _ _ _ acg => bB (acg 3 _ (AO 3 _ (ad5 _ (h4 (some ([8],none)) _ (ae fun _ kf _ _ => ai fun _ iV => ?_)))))));refine an aD ?_;refine iV _ (kf (some ([6,7],none)) _ ?_)
     exact cO aD
    ·skip
     have dQ : IntKind.i64.wrap ((i : Int) + 1) = ((i + 1 : Nat) : Int) := by rw [IntKind.wrap_i64]; omega
     have cE : (i : Int) < (us.length : Int) := by omega
     have anm := hu u (List.mem_of_getElem? BE)
     have r5 := nF u (by omega)
     obtain ⟨p,yR,Px⟩ := AL u (by omega)
     rw [yR] at r5
     have gz : ((us.take i).foldl (pA l) (mz l ws l.blocks.toNat)).length = ws.length := by rw [HG,yp]
     have mh : (us.take (i + 1)).foldl (pA l) (mz l ws l.blocks.toNat) = pA l ((us.take i).foldl (pA l) (mz l ws l.blocks.toNat)) u := by rw [List.take_add_one,BE,List.foldl_append]; rfl
     generalize (us.take i).foldl (pA l) (mz l ws l.blocks.toNat) = W at gz mh
     obtain ⟨w,uk⟩ : ∃ w,W[p]? = some w := ⟨_,List.getElem?_eq_getElem (by omega)⟩
     have ao : ((us.take (i + 1)).foldl (pA l) (mz l ws l.blocks.toNat)).map dj = (W.map dj).set p [aI (gN .or .i64 w.val (fP u)),fX w.eZ,fX w.ref] := by
      rw [mh,← TS uk]; unfold pA; rw [yR,Int.toNat_natCast,show dw W (p : Int) = w by unfold dw; rw [Int.toNat_natCast,uk]; rfl]
     have jt : (p : Int) < (W.length : Int) := by omega
     have qw : p < W.length := by omega
     have bm := And.intro ad (And.intro @cE (And.intro @dQ (And.intro @BE (And.intro @uk (And.intro @jt @qw)))))
     refine ae fun _ rV _ _ => ai fun _ kb => ?_;refine aU bm ?_;refine kb _ (rV (some ([3,8,45,46,47,48],none)) _ (ae fun _ nC _ _ => bY (nC (some ([3,8,45,46,47],none)) _ (ae fun _ oL _ _ => cx fun _ kZ _ _ _ => ae fun _ rW _ _ => ai fun _ oH => ?_))));refine ag 1 bm ?_;refine ag 1 bm ?_;refine an bm ?_;refine oH _ (rW (some ([3,8,13,45,46,47],none)) _ (ae fun _ oM _ _ => ai fun _ mH => ?_));refine ag 1 bm ?_;refine aL 1 bm ?_;refine aL 1 bm ?_;refine Or.inl (Or.inl ⟨_,r5,?_⟩);refine an bm ?_;refine mH _ (oM (some ([3,8,14,15,45,46,47],none)) _ (ai fun _ oJ => ?_));refine ag 3 bm ?_;refine ag 2 bm ?_;refine aL 1 bm ?_;refine aL 1 bm ?_;refine Or.inl ⟨_,tM (.inr (.inl rfl)),?_⟩;refine ag 1 bm ?_;refine aU bm ?_
     refine oJ _ (kZ _ (oL (some ([3,8,45,46,47],none)) _ (ai fun _ jE => ?_)));refine ag 1 bm ?_;refine an bm ?_;refine jE _ ?_;refine ke (us.length - (i + 1)) (some ([3,8,45,46,47],some ([0,1],2))) _ ?_ ?_
     all_goals try refine eC ?_
     ·omega
     ·exact ⟨i + 1,by omega,by omega,by rw [ao]⟩
  ·skip
   have dQ : IntKind.i64.wrap ((i : Int) + 1) = ((i + 1 : Nat) : Int) := by rw [IntKind.wrap_i64]; omega
   have r5 := nF i dT
   obtain ⟨p,yR,Px⟩ := AL i dT
   rw [yR] at r5
   have gz := yp l ws i
   obtain ⟨w,uk⟩ : ∃ w,(mz l ws i)[p]? = some w := ⟨_,List.getElem?_eq_getElem (by omega)⟩
   have ao : (mz l ws (i + 1)).map dj = ((mz l ws i).map dj).set p [aI 0,fX w.eZ,fX w.ref] := by
    have := TS uk 0
    rw [← this]; unfold mz; rw [yR,Int.toNat_natCast]; cases i <;> rfl
   have jt : (p : Int) < ((mz l ws i).length : Int) := by omega
   have qw : p < (mz l ws i).length := by omega
   have bx := And.intro @dT (And.intro @dQ (And.intro @uk (And.intro @jt @qw)))
   refine ae fun _ rY _ _ => ai fun _ mI => ?_;refine aU bx ?_;refine mI _ (rY (some ([2,3,8,30,31,32],none)) _ (ae fun _ w9 _ _ => bY (w9 (some ([2,3,8,30,31],none)) _ (ae fun _ sW _ _ => cx fun _ xa _ _ _ => ae fun _ Bi _ _ => ai fun _ rN => ?_))));refine an bx ?_;refine rN _ (Bi (some ([2,3,8,9,30,31],none)) _ (ae fun _ xb _ _ => ai fun _ p7 => ?_));refine ag 1 bx ?_;refine aL 1 bx ?_;refine aL 1 bx ?_;refine Or.inl (Or.inl ⟨_,r5,?_⟩);refine an bx ?_;refine p7 _ (xb (some ([2,3,8,10,30,31],none)) _ (ai fun _ rP => ?_));refine ag 3 bx ?_;refine aU bx ?_;refine rP _ (xa _ (sW (some ([2,3,8,30,31],none)) _ (ai fun _ rQ => ?_)));refine ag 1 bx ?_;refine an bx ?_;refine rQ _ ?_;refine gK (l.blocks.toNat - (i + 1)) (some ([2,3,8,30,31],some ([0,1],2))) _ ?_ ?_
   all_goals try refine eC ?_
   ·omega
   ·exact ⟨i + 1,by omega,by omega,by rw [ao]⟩
end Go.Proofs.YtkmbcjnaaokilaaGreatDoor
