/-
  Layer 12 by shadows: the words of a layout, the used blocks; the reference's helper.
-/
import Derived.Test.YtkmbcjnaaokilaaGreatDoorK12m
import Derived.Test.YtkmbcjnaaokilaaGreatDoorK13b
namespace Go.Proofs.YtkmbcjnaaokilaaGreatDoor
set_option linter.unusedSimpArgs false
set_option linter.unusedVariables false
open Go.RowKit Go.Maps
theorem Rc {ws : List bq} {k q : Nat} (v : Int) (h : k ≠ q) : (oW ws k v)[q]? = ws[q]? := by unfold oW; rw [List.getElem?_set_ne h]
theorem LP {l : cc} {p : Nat} {ws : List bq} {q : Nat} : ∀ n : Nat,(∀ i : Nat,i < n → (g9 l p i 0).toNat ≠ q) → (k7 l p ws n)[q]? = ws[q]?
 | 0,_ => rfl
 | n + 1,h => by
  show (oW (k7 l p ws n) (g9 l p n 0).toNat 2)[q]? = _
  rw [Rc _ (h n (Nat.lt_succ_self n)),LP n fun i aq => h i (by omega)]
theorem yA (l : cc) : (firstM l).length = (dp l 7).toNat := by
 unfold firstM
 rw [zs,zs,Ks,List.length_replicate]
theorem aaP {l : cc} (aF : fj l = 0) {i : Nat} (aq : (i : Int) < l.blocks) : (firstM l)[(bA l i).toNat]? = some ⟨0,0,0⟩ := by
 have bN := tB aF aq
 have am2 := qG aF i
 obtain ⟨ax,_⟩ := ku aF
 have aJ := ax.2.2
 have lH : dp l 6 = dp l 5 + e2 l 5 := rfl
 have h9 : dp l 5 = dp l 4 + e2 l 4 := rfl
 have a2 : dp l 1 = 8 := rfl
 have bF : e2 l 5 = 8 := by
  unfold e2
  rw [if_pos ⟨rfl,by show 0 < l.blocks; omega⟩]; rfl
 have rH := HJ ax 1 4
 have fD : dp l 5 ≤ bA l i ∧ bA l i < dp l 6 := by unfold bA; omega
 have aV : l.threads * 104 ≤ e2 l 4 := by
  have bb : e2 l 4 = (l.threads * 104 + 7) / 8 * 8 := by
   unfold e2
   rw [if_neg (by show ¬ ((104 : Int) = 0 ∧ _); omega)]; rfl
  omega
 have rH : dp l 1 ≤ dp l 5 := rH
 have br : ∀ j : Nat,j < l.threads.toNat → (g9 l 4 j 0).toNat ≠ (bA l i).toNat := fun j aM => by
  have IJ : (j : Int) < l.threads := by omega
  have e : g9 l 4 j 0 = dp l 4 + (j : Int) * 104 + 0 := by
   unfold g9
   rw [if_pos ⟨aF,by omega,IJ⟩]; rfl
  have bb := (tK ax 4).1
  have af : dp l 4 + (j : Int) * 104 + 104 ≤ dp l 5 := by rw [h9]; omega
  rw [e]
  intro h
  clear e
  omega
 have hC : ∀ j : Nat,j < l.blocks.toNat → (g9 l 6 j 0).toNat ≠ (bA l i).toNat := fun j aM => by
  have IJ : (j : Int) < l.blocks := by omega
  have e : g9 l 6 j 0 = dp l 6 + (j : Int) * 32 + 0 := by
   unfold g9
   rw [if_pos ⟨aF,by omega,IJ⟩]; rfl
  rw [e]
  intro h
  clear e
  omega
 have iG : (g9 l 0 0 1).toNat ≠ (bA l i).toNat := by
  have e : g9 l 0 0 1 = 1 := by
   unfold g9
   rw [if_pos ⟨aF,by omega,by show (0 : Int) < 1; omega⟩]; rfl
  rw [e]
  intro h
  clear e
  omega
 unfold firstM
 rw [LP _ hC,LP _ br,Rc _ iG,List.getElem?_replicate,if_pos (by omega)]
theorem aaS {l : cc} (aF : fj l = 0) {i : Nat} (aq : (i : Int) < l.blocks) : dZ l (dw (firstM l)) i = false := by
 unfold dZ dw
 rw [aaP aF aq,zv]
 show (BitVec.ofInt 64 0).getLsbD _ = false
 simp
abbrev iu (i : Nat) : List av := [aI i]
def L6 (l : cc) (f : Int → bq) : List Nat := (List.range l.blocks.toNat).filter (dZ l f)
theorem QL (l : cc) (g : Nat) (ws : List bq) : cu 46 [.agg (fe l),.au 3 g (ws.map dj)] (dH (decide (fj l = 0 ∧ dp l 7 ≤ (ws.length : Int)))) := by
 refine df Tryz.func46 ai5 rfl ?_
 have b2 := Kc l
 have cy := Kf l
 by_cases h : fj l = 0
 ·rw [h] at b2
  unfold zq at cy
  rw [if_pos h] at cy
  have e : decide (fj l = 0 ∧ dp l 7 ≤ (ws.length : Int)) = decide (dp l 7 ≤ (ws.length : Int)) := by simp [h]
  rw [e]
  unfold bJ Lk KS;delta ab a9 aa aA a6
  refine ae fun bz aK b6 cb => ai fun b7 aG => ?_;refine cz ?_;refine aG _ (aK (some ([1,2],none)) _ (ae fun b8 aQ bt b5 => ai fun b9 bh => ?_));refine cV 1 ?_;refine eu 1 ?_;refine Or.inl (Or.inl ⟨_,b2,?_⟩);refine cV 1 ?_;refine cV 4 ?_;refine eu 1 ?_;refine Or.inl (Or.inl ⟨_,cy,?_⟩);refine cV 1 ?_;refine cz ?_;refine bh _ (aQ (some ([4],none)) _ ?_)
  exact jb
 ·rw [show decide (fj l = 0 ∧ dp l 7 ≤ (ws.length : Int)) = false from decide_eq_false (fun dh => h dh.1)]
  have d : (fj l == 0) = false := by simpa using h
  unfold bJ Lk KS;delta ab a9 aa aA a6
  have ad := @d
  refine ae fun bz aK b6 cb => ai fun b7 aG => ?_;refine an ad ?_;refine aG _ (aK (some ([1,2],none)) _ (ae fun b8 aQ bt b5 => ai fun b9 bh => ?_));refine ag 1 ad ?_;refine aL 1 ad ?_;refine Or.inl (Or.inl ⟨_,b2,?_⟩);refine ag 1 ad ?_;refine ag 4 ad ?_;refine aL 1 ad ?_
  skip
  refine ag 1 ad ?_;refine an ad ?_;refine bh _ (aQ (some ([4],none)) _ ?_)
  exact cO ad
def WN (l : cc) (g : Nat) (ws : List bq) (k : Nat) (S : ak) : Prop :=
 ∃ i : Nat,(i : Int) ≤ l.blocks ∧ k = l.blocks.toNat - i ∧ S = ⟨[(1,.au 3 g (ws.map dj)),(2,.ptr 0 0 0),(5,.own 1),(14,aI l.blocks),(15,aI i)],[(0,.box 25 (fe l)),(1,.row 3 1 (((List.range i).filter (dZ l (dw ws))).map iu))],2⟩
set_option maxHeartbeats 4000000 in
theorem afR {l : cc} (aF : fj l = 0) (g : Nat) (ws : List bq) (hw : dp l 7 ≤ (ws.length : Int)) : cu 19 [.agg (fe l),.au 3 g (ws.map dj)] (.au 1 0 ((L6 l (dw ws)).map iu)) := by
 refine df Tryz.func19 ajb rfl ?_
 have b2 := QL l g ws
 rw [decide_eq_true ⟨aF,hw⟩] at b2
 have aJ := (ku aF).1.2.2
 have nF := fun i aq => y2 aF i aq
 have AL : ∀ i : Nat,(i : Int) < l.blocks → ∃ b : Nat,bA l i = (b : Int) ∧ b < ws.length := fun i aq => by
  have af := qG aF i
  have aj := tB aF aq
  exact ⟨(bA l i).toNat,by omega,by omega⟩
 unfold L6
 unfold bJ SN RI;delta ab aa aA
 refine ae fun _ aK _ _ => ai fun _ aG => ?_;refine cz ?_;refine aG _ (aK (some ([1,2],none)) _ (ae fun _ aQ _ _ => ae fun _ bG _ _ => ai fun _ bZ => ?_));refine cV 1 ?_;refine eu 1 ?_;refine eu 1 ?_;refine Or.inl (Or.inl ⟨_,b2,?_⟩);refine cz ?_;refine bZ _ (bG (some ([1,2,12],none)) _ (bB (aQ (some ([1,2],none)) _ (ae fun _ bp _ _ => ai fun _ bD => ?_))));refine cz ?_;refine bD _ (bp (some ([1,2,5],none)) _ (ae fun _ ck _ _ => ae fun _ cN _ _ => ai fun _ cF => ?_));refine cV 2 ?_;refine cz ?_;refine cF _ (cN (some ([1,2,5,14,15],none)) _ (cx fun _ _ qj _ _ => ?_));refine jS (WN l g ws) (l.blocks.toNat) (some ([1,2,5,14,15],some ([0,1],2))) ([.slot 5 (some 3) 1]) ?_ ?_
 ·try refine eC ?_
  exact ⟨0,by omega,by omega,by rfl⟩
 ·intro k b0 aY
  obtain ⟨i,aq,rfl,rfl⟩ := aY
  have eF : (i : Int) = l.blocks ∨ ((i : Int) < l.blocks ∧ dZ l (dw ws) i = true) ∨ ((i : Int) < l.blocks ∧ dZ l (dw ws) i = false) := by
   rcases Int.lt_or_le i l.blocks with h | h
   ·cases hu : dZ l (dw ws) i
    ·exact .inr (.inr ⟨h,rfl⟩)
    ·exact .inr (.inl ⟨h,rfl⟩)
   ·exact .inl (by omega)
  intro _ eW _ j7
  rcases eF with dT | ⟨dT,hu⟩ | ⟨dT,hu⟩
  ·skip
   obtain rfl : i = l.blocks.toNat := by omega
   have cE : ¬ (l.blocks.toNat : Int) < l.blocks := by omega
   have ad := @cE
   refine ae fun _ dJ _ _ => ai fun _ dt => ?_;refine aU ad ?_;refine dt _ (dJ (some ([1,2,5,14,15,16],none)) _ (ae fun _ _ _ lP => bB (lP 0 _ (j7 0 _ (qj _ (ck (some ([5],none)) _ (ae fun _ fy _ _ => ai fun _ eV => ?_)))))));refine an ad ?_;refine eV _ (fy (some ([4],none)) _ ?_)
   exact cO ad
  ·skip
   have dQ : IntKind.i64.wrap ((i : Int) + 1) = ((i + 1 : Nat) : Int) := by rw [IntKind.wrap_i64]; omega
   have r5 := nF i dT
   obtain ⟨b,ib,iH⟩ := AL i dT
   obtain ⟨w,BH⟩ : ∃ w,ws[b]? = some w := ⟨_,List.getElem?_eq_getElem iH⟩
   have s3 : (gN .and .i64 w.val (fP i) != 0) = true := by
    have : ly (dw ws (bA l i)).val i = true := hu
    rwa [ib,show dw ws (b : Int) = w by unfold dw; rw [Int.toNat_natCast,BH]; rfl] at this
   rw [ib] at r5
   have ao : ((List.range (i + 1)).filter (dZ l (dw ws))).map iu = ((List.range i).filter (dZ l (dw ws))).map iu ++ [[aI i]] := by
    rw [List.range_succ,List.filter_append,List.map_append]; simp [hu]
   have gm : ((List.range i).filter (dZ l (dw ws))).length ≤ 64 := Nat.le_trans (List.length_filter_le _ _) (by simp; omega)
   have hO : ((List.range i).filter (dZ l (dw ws))).length + 1 ≤ 140737488355328 := by omega
   have l7 : (((List.range i).filter (dZ l (dw ws))).length + 1) * 8 ≤ 140737488355328 := by omega
   have jt : (b : Int) < (ws.length : Int) := by omega
   have aD := And.intro @dT (And.intro @dQ (And.intro @s3 (And.intro @BH (And.intro @hO (And.intro @l7 (And.intro @iH @jt))))))
   refine ae fun _ ic _ _ => ai fun _ hz => ?_;refine aU aD ?_;refine hz _ (ic (some ([1,2,5,14,15,16],none)) _ (ae fun _ ix _ _ => bY (ix (some ([1,2,5,14,15],none)) _ (ae fun _ h5 _ _ => cx fun _ lS _ _ _ => ae fun _ ke _ _ => ai fun _ iS => ?_))));refine an aD ?_;refine iS _ (ke (some ([1,2,5,6,14,15],none)) _ (ae fun _ qd _ _ => ai fun _ iT => ?_));refine ag 1 aD ?_;refine aL 1 aD ?_;refine aL 1 aD ?_;refine Or.inl (Or.inl ⟨_,r5,?_⟩);refine an aD ?_;refine iT _ (qd (some ([1,2,5,6,7,8,14,15],none)) _ (ae fun _ kf _ _ => ai fun _ iV => ?_));refine ag 3 aD ?_;refine ag 2 aD ?_;refine aL 1 aD ?_;refine aL 1 aD ?_;refine Or.inl ⟨_,tM (.inl rfl),?_⟩;refine aU aD ?_;refine iV _ (kf (some ([1,2,5,6,14,15,31],none)) _ ?_)
   refine bY (ai fun _ iW => ?_);refine ag 3 aD ?_;refine ag 1 aD ?_;refine an aD ?_;refine iW _ (lS _ (h5 (some ([1,2,5,14,15],none)) _ (ai fun _ kb => ?_)));refine ag 1 aD ?_;refine an aD ?_;refine kb _ ?_;refine eW (l.blocks.toNat - (i + 1)) (some ([1,2,5,14,15],some ([0,2],2))) _ ?_ ?_
   all_goals try refine eC ?_
   ·omega
   ·exact ⟨i + 1,by omega,by omega,by rw [ao]⟩
  ·skip
   have dQ : IntKind.i64.wrap ((i : Int) + 1) = ((i + 1 : Nat) : Int) := by rw [IntKind.wrap_i64]; omega
   have r5 := nF i dT
   obtain ⟨b,ib,iH⟩ := AL i dT
   obtain ⟨w,BH⟩ : ∃ w,ws[b]? = some w := ⟨_,List.getElem?_eq_getElem iH⟩
   have s3 : (gN .and .i64 w.val (fP i) != 0) = false := by
    have : ly (dw ws (bA l i)).val i = false := hu
    rwa [ib,show dw ws (b : Int) = w by unfold dw; rw [Int.toNat_natCast,BH]; rfl] at this
   rw [ib] at r5
   have ao : ((List.range (i + 1)).filter (dZ l (dw ws))).map iu = ((List.range i).filter (dZ l (dw ws))).map iu := by
    rw [List.range_succ,List.filter_append,List.map_append]; simp [hu]
   have jt : (b : Int) < (ws.length : Int) := by omega
   have bm := And.intro @dT (And.intro @dQ (And.intro @s3 (And.intro @BH (And.intro @iH @jt))))
   refine ae fun _ nC _ _ => ai fun _ ny => ?_;refine aU bm ?_;refine ny _ (nC (some ([1,2,5,14,15,16],none)) _ (ae fun _ kZ _ _ => bY (kZ (some ([1,2,5,14,15],none)) _ (ae fun _ rW _ _ => cx fun _ qf _ _ _ => ae fun _ oM _ _ => ai fun _ mH => ?_))));refine an bm ?_;refine mH _ (oM (some ([1,2,5,6,14,15],none)) _ (ae fun _ oN _ _ => ai fun _ jE => ?_));refine ag 1 bm ?_;refine aL 1 bm ?_;refine aL 1 bm ?_;refine Or.inl (Or.inl ⟨_,r5,?_⟩);refine an bm ?_;refine jE _ (oN (some ([1,2,5,6,7,8,14,15],none)) _ (ae fun _ rY _ _ => ai fun _ mI => ?_));refine ag 3 bm ?_;refine ag 2 bm ?_;refine aL 1 bm ?_;refine aL 1 bm ?_;refine Or.inl ⟨_,tM (.inl rfl),?_⟩;refine aU bm ?_;refine mI _ (rY (some ([1,2,5,6,14,15,31],none)) _ ?_)
   refine bB (qf _ (rW (some ([1,2,5,14,15],none)) _ (ai fun _ nA => ?_)));refine ag 1 bm ?_;refine an bm ?_;refine nA _ ?_;refine eW (l.blocks.toNat - (i + 1)) (some ([1,2,5,14,15],some ([0,1],2))) _ ?_ ?_
   all_goals try refine eC ?_
   ·omega
   ·exact ⟨i + 1,by omega,by omega,by rw [ao]⟩
def WJ (g bQ : Nat) (a b : List Nat) (k : Nat) (S : ak) : Prop :=
 ∃ i : Nat,i ≤ a.length ∧ k = a.length - i ∧ (∀ j,j < i → a[j]? = b[j]?) ∧ S = ⟨[(0,.au 1 g (a.map iu)),(1,.au 1 bQ (b.map iu)),(5,aI i)],[],0⟩
set_option maxHeartbeats 2000000 in
theorem agG (g bQ : Nat) (a b : List Nat) (a7 : a.length ≤ 1000000) (aJ : b.length ≤ 1000000) : cu 18 [.au 1 g (a.map iu),.au 1 bQ (b.map iu)] (dH (decide (a = b))) := by
 refine df Tryz.func18 akx rfl ?_
 by_cases aF : a.length = b.length
 case neg =>
  have d : ((a.length : Int) != (b.length : Int)) = true := by rw [bne_iff_ne]; omega
  rw [show decide (a = b) = false from decide_eq_false (fun e => aF (by rw [e]))]
  unfold bJ LD La;delta ab aa aA a6
  have ad := @d
  refine ae fun bz aK b6 cb => ai fun b7 aG => ?_;refine an ad ?_;refine aG _ (aK (some ([0,1],none)) _ (ae fun b8 aQ bt b5 => ae fun b9 bG c7 dF => ai fun cD bZ => ?_));refine aU ad ?_;refine bZ _ (bG (some ([0,1,10],none)) _ (bY (ae fun cv bp cY dk => ai fun cC bD => ?_)));refine an ad ?_;refine bD _ (bp (some ([4],none)) _ (bt _ ?_))
  exact cO ad
 have d : ((a.length : Int) != (b.length : Int)) = false := by rw [aF]; simp
 unfold bJ LD La;delta ab aa aA a6
 have ad := @d
 refine ae fun bz aK b6 cb => ai fun b7 aG => ?_;refine an ad ?_;refine aG _ (aK (some ([0,1],none)) _ (ae fun b8 aQ bt b5 => ae fun b9 bG c7 dF => ai fun cD bZ => ?_));refine aU ad ?_;refine bZ _ (bG (some ([0,1,10],none)) _ (bB (aQ (some ([0,1],none)) _ (ae fun cv bp cY dk => ae fun cC cp _ _ => ai fun _ c0 => ?_))));refine an ad ?_;refine c0 _ (cp (some ([0,1,5],none)) _ (cx fun _ _ vC hM _ => ?_));refine jS (WJ g bQ a b) (a.length) (some ([0,1,5],none)) ([]) ?_ ?_
 ·try refine eC ?_
  exact ⟨0,by omega,by omega,fun j aM => absurd aM (by omega),by rfl⟩
 ·intro k b0 aY
  obtain ⟨i,aq,rfl,aM,rfl⟩ := aY
  have eF : i = a.length ∨ (∃ x y,a[i]? = some x ∧ b[i]? = some y ∧ x ≠ y) ∨ (∃ x,a[i]? = some x ∧ b[i]? = some x) := by
   rcases Nat.lt_or_ge i a.length with h | h
   ·have af := List.getElem?_eq_getElem h
    have aj := List.getElem?_eq_getElem (l := b) (i := i) (by omega)
    by_cases e : a[i] = b[i]
    ·exact .inr (.inr ⟨_,af,by rw [aj,e]⟩)
    ·exact .inr (.inl ⟨_,_,af,aj,e⟩)
   ·exact .inl (by omega)
  intro _ ee mg jm
  rcases eF with dT | ⟨x,y,gB,um,dd⟩ | ⟨x,gB,um⟩
  ·skip
   have cE : ¬ (i : Int) < (a.length : Int) := by omega
   have a2 : decide (a = b) = true := by
    refine decide_eq_true (List.ext_getElem? fun j => ?_)
    rcases Nat.lt_or_ge j i with h | h
    ·exact aM j h
    ·rw [List.getElem?_eq_none (by omega),List.getElem?_eq_none (by omega)]
   have aD := And.intro ad (And.intro @cE @a2)
   refine ae fun _ _ _ gU => ae fun _ eW _ _ => ai fun _ ed => ?_;refine aU aD ?_;refine ed _ (eW (some ([0,1,5,14],none)) _ (bB (gU 0 _ (jm 0 _ (vC _ (bp (some ([],none)) _ (ae fun _ fQ _ _ => ai fun _ eB => ?_)))))));refine an aD ?_;refine eB _ (fQ (some ([4],none)) _ ?_)
   exact cO aD
  ·skip
   have bN := (List.getElem?_eq_some_iff.1 gB).1
   have cE : (i : Int) < (a.length : Int) := by omega
   have dQ : ((x : Int) != (y : Int)) = true := by rw [bne_iff_ne]; omega
   have a2 : decide (a = b) = false := decide_eq_false (fun e => by rw [e,um] at gB; cases gB; exact dd rfl)
   have gm : (i : Int) < (b.length : Int) := by omega
   have bm := And.intro ad (And.intro @cE (And.intro @dQ (And.intro @gm (And.intro @gB (And.intro @um @a2)))))
   refine ae fun _ fy _ _ => ae fun _ kd _ _ => ai fun _ hs => ?_;refine aU bm ?_;refine hs _ (kd (some ([0,1,5,14],none)) _ (bY (fy (some ([0,1,5],none)) _ (ae fun _ _ Ew _ => cx fun _ _ _ adD _ => ae fun _ h5 _ _ => ?_))));refine hy [] (n := 8) fun _ gr => ?_;refine hv ?_;refine cR 3 bm ?_;refine cR 1 bm ?_;refine cR 3 bm ?_;refine pc bm ?_;refine gr _ ?_;refine hx ?_;refine aU bm ?_;refine h5 (some ([0,1,5,25],none)) _ (bY (ae fun _ iX _ _ => ai fun _ gu => ?_));refine an bm ?_;refine gu _ (iX (some ([4],none)) _ (adD _ (Ew _ (mg _ (hM _ (cY _ ?_))))))
   exact cO bm
  ·skip
   have bN := (List.getElem?_eq_some_iff.1 gB).1
   have cE : (i : Int) < (a.length : Int) := by omega
   have dQ : IntKind.i64.wrap ((i : Int) + 1) = ((i + 1 : Nat) : Int) := by rw [IntKind.wrap_i64]; omega
   have gm : (i : Int) < (b.length : Int) := by omega
   have bx := And.intro ad (And.intro @cE (And.intro @dQ (And.intro @gm (And.intro @gB @um))))
   refine ae fun _ kY _ _ => ae fun _ kf _ _ => ai fun _ iV => ?_;refine aU bx ?_;refine iV _ (kf (some ([0,1,5,14],none)) _ (bY (kY (some ([0,1,5],none)) _ (ae fun _ rV _ _ => cx fun _ qe _ _ _ => ae fun _ nC _ _ => ?_))));refine hy [] (n := 8) fun _ ny => ?_;refine hv ?_;refine cR 3 bx ?_;refine cR 1 bx ?_;refine cR 3 bx ?_;refine pc bx ?_;refine ny _ ?_;refine hx ?_;refine aU bx ?_;refine nC (some ([0,1,5,25],none)) _ (bB (qe _ (rV (some ([0,1,5],none)) _ (ai fun _ lR => ?_))));refine ag 2 bx ?_;refine an bx ?_;refine lR _ ?_;refine ee (a.length - (i + 1)) (some ([0,1,5],none)) _ ?_ ?_
   all_goals try refine eC ?_
   ·omega
   ·refine ⟨i + 1,by omega,by omega,fun j h => ?_,rfl⟩
    by_cases e : j = i
    ·subst e; rw [gB,um]
    ·exact aM j (by omega)
end Go.Proofs.YtkmbcjnaaokilaaGreatDoor
