/-
  Layer 12 by shadows: the words of a layout, the used blocks; the reference's helper.
-/
import Derived.Test.YtkmbcjnaaokilaaGreatDoorK12m
import Derived.Test.YtkmbcjnaaokilaaGreatDoorK13b
namespace Go.Proofs.YtkmbcjnaaokilaaGreatDoor
set_option linter.unusedSimpArgs false
set_option linter.unusedVariables false
open Go.RowKit Go.Maps
theorem Uk {ws : List bm} {k q : Nat} (v : Int) (h : k ≠ q) : (pY ws k v)[q]? = ws[q]? := by unfold pY; rw [List.getElem?_set_ne h]
theorem Ou {l : b1} {p : Nat} {ws : List bm} {q : Nat} : ∀ n : Nat,(∀ i : Nat,i < n → (ho l p i 0).toNat ≠ q) → (lE l p ws n)[q]? = ws[q]?
 | 0,_ => rfl
 | n + 1,h => by
  show (pY (lE l p ws n) (ho l p n 0).toNat 2)[q]? = _
  rw [Uk _ (h n (Nat.lt_succ_self n)),Ou n fun i aq => h i (by omega)]
theorem Ai (l : b1) : (firstM l).length = (dm l 7).toNat := by
 unfold firstM
 rw [A5,A5,M1,List.length_replicate]
theorem aef {l : b1} (aE : e4 l = 0) {i : Nat} (aq : (i : Int) < l.blocks) : (firstM l)[(bw l i).toNat]? = some ⟨0,0,0⟩ := by
 have bQ := uT aE aq
 have aqy := rM aE i
 obtain ⟨aA,_⟩ := kb aE
 have aI := aA.2.2
 have mi : dm l 6 = dm l 5 + e8 l 5 := rfl
 have iA : dm l 5 = dm l 4 + e8 l 4 := rfl
 have a1 : dm l 1 = 8 := rfl
 have bM : e8 l 5 = 8 := by
  unfold e8
  rw [if_pos ⟨rfl,by show 0 < l.blocks; omega⟩]; rfl
 have RE := JY aA 1 4
 have fw : dm l 5 ≤ bw l i ∧ bw l i < dm l 6 := by unfold bw; omega
 have aY : l.threads * 104 ≤ e8 l 4 := by
  have ba : e8 l 4 = (l.threads * 104 + 7) / 8 * 8 := by
   unfold e8
   rw [if_neg (by show ¬ ((104 : Int) = 0 ∧ _); omega)]; rfl
  omega
 have RE : dm l 1 ≤ dm l 5 := RE
 have br : ∀ j : Nat,j < l.threads.toNat → (ho l 4 j 0).toNat ≠ (bw l i).toNat := fun j aN => by
  have KZ : (j : Int) < l.threads := by omega
  have e : ho l 4 j 0 = dm l 4 + (j : Int) * 104 + 0 := by
   unfold ho
   rw [if_pos ⟨aE,by omega,KZ⟩]; rfl
  have ba := (u3 aA 4).1
  have af : dm l 4 + (j : Int) * 104 + 104 ≤ dm l 5 := by rw [iA]; omega
  rw [e]
  intro h
  clear e
  omega
 have hC : ∀ j : Nat,j < l.blocks.toNat → (ho l 6 j 0).toNat ≠ (bw l i).toNat := fun j aN => by
  have KZ : (j : Int) < l.blocks := by omega
  have e : ho l 6 j 0 = dm l 6 + (j : Int) * 32 + 0 := by
   unfold ho
   rw [if_pos ⟨aE,by omega,KZ⟩]; rfl
  rw [e]
  intro h
  clear e
  omega
 have ja : (ho l 0 0 1).toNat ≠ (bw l i).toNat := by
  have e : ho l 0 0 1 = 1 := by
   unfold ho
   rw [if_pos ⟨aE,by omega,by show (0 : Int) < 1; omega⟩]; rfl
  rw [e]
  intro h
  clear e
  omega
 unfold firstM
 rw [Ou _ hC,Ou _ br,Uk _ ja,List.getElem?_replicate,if_pos (by omega)]
theorem aei {l : b1} (aE : e4 l = 0) {i : Nat} (aq : (i : Int) < l.blocks) : eg l (du (firstM l)) i = false := by
 unfold eg du
 rw [aef aE aq,A9]
 show (BitVec.ofInt 64 0).getLsbD _ = false
 simp
abbrev hq (i : Nat) : List aw := [aG i]
def p3 (l : b1) (f : Int → bm) : List Nat := (List.range l.blocks.toNat).filter (eg l f)
theorem TL (l : b1) (g : Nat) (ws : List bm) : cq 46 [.agg (fu l),.au 3 g (ws.map c6)] (eA (decide (e4 l = 0 ∧ dm l 7 ≤ (ws.length : Int)))) := by
 refine df Tryz.func46 amI rfl ?_
 have bX := MI l
 have cL := ML l
 by_cases h : e4 l = 0
 ·rw [h] at bX
  unfold A3 at cL
  rw [if_pos h] at cL
  have e : decide (e4 l = 0 ∧ dm l 7 ≤ (ws.length : Int)) = decide (dm l 7 ≤ (ws.length : Int)) := by simp [h]
  rw [e]
  unfold bK NY Nu;delta ab a8 aa ay a3
  refine ae fun bD aK b9 ck => ai fun ca aH => ?_;refine cE ?_;refine aH _ (aK (some ([1,2],none)) _ (ae fun cg aP bx b8 => ai fun ch bk => ?_));refine c4 1 ?_;refine eH 1 ?_;refine Or.inl (Or.inl ⟨_,bX,?_⟩);refine c4 1 ?_;refine c4 4 ?_;refine eH 1 ?_;refine Or.inl (Or.inl ⟨_,cL,?_⟩);refine c4 1 ?_;refine cE ?_;refine bk _ (aP (some ([4],none)) _ ?_)
  exact jq
 ·rw [show decide (e4 l = 0 ∧ dm l 7 ≤ (ws.length : Int)) = false from decide_eq_false (fun e6 => h e6.1)]
  have d : (e4 l == 0) = false := by simpa using h
  unfold bK NY Nu;delta ab a8 aa ay a3
  have ad := @d
  refine ae fun bD aK b9 ck => ai fun ca aH => ?_;refine al ad ?_;refine aH _ (aK (some ([1,2],none)) _ (ae fun cg aP bx b8 => ai fun ch bk => ?_));refine ag 1 ad ?_;refine aM 1 ad ?_;refine Or.inl (Or.inl ⟨_,bX,?_⟩);refine ag 1 ad ?_;refine ag 4 ad ?_;refine aM 1 ad ?_
  skip
  refine ag 1 ad ?_;refine al ad ?_;refine bk _ (aP (some ([4],none)) _ ?_)
  exact cQ ad
def aas (l : b1) (g : Nat) (ws : List bm) (k : Nat) (S : ak) : Prop :=
 ∃ i : Nat,(i : Int) ≤ l.blocks ∧ k = l.blocks.toNat - i ∧ S = ⟨[(1,.au 3 g (ws.map c6)),(2,.ptr 0 0 0),(5,.own 1),(14,aG l.blocks),(15,aG i)],[(0,.box 25 (fu l)),(1,.row 3 1 (((List.range i).filter (eg l (du ws))).map hq))],2⟩
set_option maxHeartbeats 4000000 in
theorem MF {l : b1} (aE : e4 l = 0) (g : Nat) (ws : List bm) (hw : dm l 7 ≤ (ws.length : Int)) : cq 19 [.agg (fu l),.au 3 g (ws.map c6)] (.au 1 0 ((p3 l (du ws)).map hq)) := by
 refine df Tryz.func19 amO rfl ?_
 have bX := TL l g ws
 rw [decide_eq_true ⟨aE,hw⟩] at bX
 have aI := (kb aE).1.2.2
 have mC := fun i aq => xz aE i aq
 have Ct : ∀ i : Nat,(i : Int) < l.blocks → ∃ b : Nat,bw l i = (b : Int) ∧ b < ws.length := fun i aq => by
  have af := rM aE i
  have aj := uT aE aq
  exact ⟨(bw l i).toNat,by omega,by omega⟩
 unfold p3
 unfold bK V2 UT;delta ab aa ay
 refine ae fun _ aK _ _ => ai fun _ aH => ?_;refine cE ?_;refine aH _ (aK (some ([1,2],none)) _ (ae fun _ aP _ _ => ae fun _ bI _ _ => ai fun _ b0 => ?_));refine c4 1 ?_;refine eH 1 ?_;refine eH 1 ?_;refine Or.inl (Or.inl ⟨_,bX,?_⟩);refine cE ?_;refine b0 _ (bI (some ([1,2,12],none)) _ (bs (aP (some ([1,2],none)) _ (ae fun _ bp _ _ => ai fun _ bE => ?_))));refine cE ?_;refine bE _ (bp (some ([1,2,5],none)) _ (ae fun _ cv _ _ => ae fun _ cR _ _ => ai fun _ cK => ?_));refine c4 2 ?_;refine cE ?_;refine cK _ (cR (some ([1,2,5,14,15],none)) _ (cj fun _ _ rl _ _ => ?_));refine ie (aas l g ws) (l.blocks.toNat) (some ([1,2,5,14,15],some ([0,1],2))) ([.slot 5 (some 3) 1]) ?_ ?_
 ·try refine dR ?_
  exact ⟨0,by omega,by omega,by rfl⟩
 ·intro k bT aW
  obtain ⟨i,aq,rfl,rfl⟩ := aW
  have dZ : (i : Int) = l.blocks ∨ ((i : Int) < l.blocks ∧ eg l (du ws) i = true) ∨ ((i : Int) < l.blocks ∧ eg l (du ws) i = false) := by
   rcases Int.lt_or_le i l.blocks with h | h
   ·cases hu : eg l (du ws) i
    ·exact .inr (.inr ⟨h,rfl⟩)
    ·exact .inr (.inl ⟨h,rfl⟩)
   ·exact .inl (by omega)
  intro _ ff _ kx
  rcases dZ with ea | ⟨ea,hu⟩ | ⟨ea,hu⟩
  ·skip
   obtain rfl : i = l.blocks.toNat := by omega
   have cn : ¬ (l.blocks.toNat : Int) < l.blocks := by omega
   have ad := @cn
   refine ae fun _ dF _ _ => ai fun _ dq => ?_;refine aS ad ?_;refine dq _ (dF (some ([1,2,5,14,15,16],none)) _ (ae fun _ _ _ lo => bs (lo 0 _ (kx 0 _ (rl _ (cv (some ([5],none)) _ (ae fun _ fF _ _ => ai fun _ eF => ?_)))))));refine al ad ?_;refine eF _ (fF (some ([4],none)) _ ?_)
   exact cQ ad
  ·skip
   have dM : IntKind.i64.wrap ((i : Int) + 1) = ((i + 1 : Nat) : Int) := by rw [IntKind.wrap_i64]; omega
   have s9 := mC i ea
   obtain ⟨b,il,iL⟩ := Ct i ea
   obtain ⟨w,Dk⟩ : ∃ w,ws[b]? = some w := ⟨_,List.getElem?_eq_getElem iL⟩
   have uf : (gV .and .i64 w.val (fX i) != 0) = true := by
    have : l7 (du ws (bw l i)).val i = true := hu
    rwa [il,show du ws (b : Int) = w by unfold du; rw [Int.toNat_natCast,Dk]; rfl] at this
   rw [il] at s9
   have ao : ((List.range (i + 1)).filter (eg l (du ws))).map hq = ((List.range i).filter (eg l (du ws))).map hq ++ [[aG i]] := by
    rw [List.range_succ,List.filter_append,List.map_append]; simp [hu]
   have fH : ((List.range i).filter (eg l (du ws))).length ≤ 64 := Nat.le_trans (List.length_filter_le _ _) (by simp; omega)
   have iw : ((List.range i).filter (eg l (du ws))).length + 1 ≤ 140737488355328 := by omega
   have nG : (((List.range i).filter (eg l (du ws))).length + 1) * 8 ≤ 140737488355328 := by omega
   have km : (b : Int) < (ws.length : Int) := by omega
   have aD := And.intro @ea (And.intro @dM (And.intro @uf (And.intro @Dk (And.intro @iw (And.intro @nG (And.intro @iL @km))))))
   refine ae fun _ hM _ _ => ai fun _ hr => ?_;refine aS aD ?_;refine hr _ (hM (some ([1,2,5,14,15,16],none)) _ (ae fun _ hZ _ _ => bU (hZ (some ([1,2,5,14,15],none)) _ (ae fun _ hK _ _ => cj fun _ lu _ _ _ => ae fun _ iu _ _ => ai fun _ iq => ?_))));refine al aD ?_;refine iq _ (iu (some ([1,2,5,6,14,15],none)) _ (ae fun _ ns _ _ => ai fun _ ir => ?_));refine ag 1 aD ?_;refine aM 1 aD ?_;refine aM 1 aD ?_;refine Or.inl (Or.inl ⟨_,s9,?_⟩);refine al aD ?_;refine ir _ (ns (some ([1,2,5,6,7,8,14,15],none)) _ (ae fun _ iQ _ _ => ai fun _ iO => ?_));refine ag 3 aD ?_;refine ag 2 aD ?_;refine aM 1 aD ?_;refine aM 1 aD ?_;refine Or.inl ⟨_,u5 (.inl rfl),?_⟩;refine aS aD ?_;refine iO _ (iQ (some ([1,2,5,6,14,15,31],none)) _ ?_)
   refine bU (ai fun _ hY => ?_);refine ag 3 aD ?_;refine ag 1 aD ?_;refine al aD ?_;refine hY _ (lu _ (hK (some ([1,2,5,14,15],none)) _ (ai fun _ jU => ?_)));refine ag 1 aD ?_;refine al aD ?_;refine jU _ ?_;refine ff (l.blocks.toNat - (i + 1)) (some ([1,2,5,14,15],some ([0,2],2))) _ ?_ ?_
   all_goals try refine dR ?_
   ·omega
   ·exact ⟨i + 1,by omega,by omega,by rw [ao]⟩
  ·skip
   have dM : IntKind.i64.wrap ((i : Int) + 1) = ((i + 1 : Nat) : Int) := by rw [IntKind.wrap_i64]; omega
   have s9 := mC i ea
   obtain ⟨b,il,iL⟩ := Ct i ea
   obtain ⟨w,Dk⟩ : ∃ w,ws[b]? = some w := ⟨_,List.getElem?_eq_getElem iL⟩
   have uf : (gV .and .i64 w.val (fX i) != 0) = false := by
    have : l7 (du ws (bw l i)).val i = false := hu
    rwa [il,show du ws (b : Int) = w by unfold du; rw [Int.toNat_natCast,Dk]; rfl] at this
   rw [il] at s9
   have ao : ((List.range (i + 1)).filter (eg l (du ws))).map hq = ((List.range i).filter (eg l (du ws))).map hq := by
    rw [List.range_succ,List.filter_append,List.map_append]; simp [hu]
   have km : (b : Int) < (ws.length : Int) := by omega
   have bc := And.intro @ea (And.intro @dM (And.intro @uf (And.intro @Dk (And.intro @iL @km))))
   refine ae fun _ mw _ _ => ai fun _ mu => ?_;refine aS bc ?_;refine mu _ (mw (some ([1,2,5,14,15,16],none)) _ (ae fun _ kD _ _ => bU (kD (some ([1,2,5,14,15],none)) _ (ae fun _ rh _ _ => cj fun _ pQ _ _ _ => ae fun _ ox _ _ => ai fun _ nk => ?_))));refine al bc ?_;refine nk _ (ox (some ([1,2,5,6,14,15],none)) _ (ae fun _ oy _ _ => ai fun _ jV => ?_));refine ag 1 bc ?_;refine aM 1 bc ?_;refine aM 1 bc ?_;refine Or.inl (Or.inl ⟨_,s9,?_⟩);refine al bc ?_;refine jV _ (oy (some ([1,2,5,6,7,8,14,15],none)) _ (ae fun _ ri _ _ => ai fun _ nn => ?_));refine ag 3 bc ?_;refine ag 2 bc ?_;refine aM 1 bc ?_;refine aM 1 bc ?_;refine Or.inl ⟨_,u5 (.inl rfl),?_⟩;refine aS bc ?_;refine nn _ (ri (some ([1,2,5,6,14,15,31],none)) _ ?_)
   refine bs (pQ _ (rh (some ([1,2,5,14,15],none)) _ (ai fun _ np => ?_)));refine ag 1 bc ?_;refine al bc ?_;refine np _ ?_;refine ff (l.blocks.toNat - (i + 1)) (some ([1,2,5,14,15],some ([0,1],2))) _ ?_ ?_
   all_goals try refine dR ?_
   ·omega
   ·exact ⟨i + 1,by omega,by omega,by rw [ao]⟩
def Z4 (g bW : Nat) (a b : List Nat) (k : Nat) (S : ak) : Prop :=
 ∃ i : Nat,i ≤ a.length ∧ k = a.length - i ∧ (∀ j,j < i → a[j]? = b[j]?) ∧ S = ⟨[(0,.au 1 g (a.map hq)),(1,.au 1 bW (b.map hq)),(5,aG i)],[],0⟩
set_option maxHeartbeats 2000000 in
theorem T8 (g bW : Nat) (a b : List Nat) (a9 : a.length ≤ 1000000) (aI : b.length ≤ 1000000) : cq 18 [.au 1 g (a.map hq),.au 1 bW (b.map hq)] (eA (decide (a = b))) := by
 refine df Tryz.func18 aof rfl ?_
 by_cases aE : a.length = b.length
 case neg =>
  have d : ((a.length : Int) != (b.length : Int)) = true := by rw [bne_iff_ne]; omega
  rw [show decide (a = b) = false from decide_eq_false (fun e => aE (by rw [e]))]
  unfold bK Og NN;delta ab aa ay a3
  have ad := @d
  refine ae fun bD aK b9 ck => ai fun ca aH => ?_;refine al ad ?_;refine aH _ (aK (some ([0,1],none)) _ (ae fun cg aP bx b8 => ae fun ch bI dd dU => ai fun cM b0 => ?_));refine aS ad ?_;refine b0 _ (bI (some ([0,1,10],none)) _ (bU (ae fun cG bp c5 dn => ai fun cI bE => ?_)));refine al ad ?_;refine bE _ (bp (some ([4],none)) _ (bx _ ?_))
  exact cQ ad
 have d : ((a.length : Int) != (b.length : Int)) = false := by rw [aE]; simp
 unfold bK Og NN;delta ab aa ay a3
 have ad := @d
 refine ae fun bD aK b9 ck => ai fun ca aH => ?_;refine al ad ?_;refine aH _ (aK (some ([0,1],none)) _ (ae fun cg aP bx b8 => ae fun ch bI dd dU => ai fun cM b0 => ?_));refine aS ad ?_;refine b0 _ (bI (some ([0,1,10],none)) _ (bs (aP (some ([0,1],none)) _ (ae fun cG bp c5 dn => ae fun cI cz _ _ => ai fun _ c7 => ?_))));refine al ad ?_;refine c7 _ (cz (some ([0,1,5],none)) _ (cj fun _ _ xg h1 _ => ?_));refine ie (Z4 g bW a b) (a.length) (some ([0,1,5],none)) ([]) ?_ ?_
 ·try refine dR ?_
  exact ⟨0,by omega,by omega,fun j aN => absurd aN (by omega),by rfl⟩
 ·intro k bT aW
  obtain ⟨i,aq,rfl,aN,rfl⟩ := aW
  have dZ : i = a.length ∨ (∃ x y,a[i]? = some x ∧ b[i]? = some y ∧ x ≠ y) ∨ (∃ x,a[i]? = some x ∧ b[i]? = some x) := by
   rcases Nat.lt_or_ge i a.length with h | h
   ·have af := List.getElem?_eq_getElem h
    have aj := List.getElem?_eq_getElem (l := b) (i := i) (by omega)
    by_cases e : a[i] = b[i]
    ·exact .inr (.inr ⟨_,af,by rw [aj,e]⟩)
    ·exact .inr (.inl ⟨_,_,af,aj,e⟩)
   ·exact .inl (by omega)
  intro _ eo mT jb
  rcases dZ with ea | ⟨x,y,e7,rm,dj⟩ | ⟨x,e7,rm⟩
  ·skip
   have cn : ¬ (i : Int) < (a.length : Int) := by omega
   have a1 : decide (a = b) = true := by
    refine decide_eq_true (List.ext_getElem? fun j => ?_)
    rcases Nat.lt_or_ge j i with h | h
    ·exact aN j h
    ·rw [List.getElem?_eq_none (by omega),List.getElem?_eq_none (by omega)]
   have aD := And.intro ad (And.intro @cn @a1)
   refine ae fun _ _ _ g6 => ae fun _ ff _ _ => ai fun _ ew => ?_;refine aS aD ?_;refine ew _ (ff (some ([0,1,5,14],none)) _ (bs (g6 0 _ (jb 0 _ (xg _ (bp (some ([],none)) _ (ae fun _ fx _ _ => ai fun _ eJ => ?_)))))));refine al aD ?_;refine eJ _ (fx (some ([4],none)) _ ?_)
   exact cQ aD
  ·skip
   have bQ := (List.getElem?_eq_some_iff.1 e7).1
   have cn : (i : Int) < (a.length : Int) := by omega
   have dM : ((x : Int) != (y : Int)) = true := by rw [bne_iff_ne]; omega
   have a1 : decide (a = b) = false := decide_eq_false (fun e => by rw [e,rm] at e7; cases e7; exact dj rfl)
   have fH : (i : Int) < (b.length : Int) := by omega
   have bc := And.intro ad (And.intro @cn (And.intro @dM (And.intro @fH (And.intro @e7 (And.intro @rm @a1)))))
   refine ae fun _ fF _ _ => ae fun _ kC _ _ => ai fun _ hI => ?_;refine aS bc ?_;refine hI _ (kC (some ([0,1,5,14],none)) _ (bU (fF (some ([0,1,5],none)) _ (ae fun _ _ GD _ => cj fun _ _ _ ag0 _ => ae fun _ hK _ _ => ?_))));refine gh [] (n := 8) fun _ gf => ?_;refine gY ?_;refine cF 3 bc ?_;refine cF 1 bc ?_;refine cF 3 bc ?_;refine og bc ?_;refine gf _ ?_;refine gZ ?_;refine aS bc ?_;refine hK (some ([0,1,5,25],none)) _ (bU (ae fun _ iP _ _ => ai fun _ gD => ?_));refine al bc ?_;refine gD _ (iP (some ([4],none)) _ (ag0 _ (GD _ (mT _ (h1 _ (c5 _ ?_))))))
   exact cQ bc
  ·skip
   have bQ := (List.getElem?_eq_some_iff.1 e7).1
   have cn : (i : Int) < (a.length : Int) := by omega
   have dM : IntKind.i64.wrap ((i : Int) + 1) = ((i + 1 : Nat) : Int) := by rw [IntKind.wrap_i64]; omega
   have fH : (i : Int) < (b.length : Int) := by omega
   have bt := And.intro ad (And.intro @cn (And.intro @dM (And.intro @fH (And.intro @e7 @rm))))
   refine ae fun _ lv _ _ => ae fun _ iQ _ _ => ai fun _ iO => ?_;refine aS bt ?_;refine iO _ (iQ (some ([0,1,5,14],none)) _ (bU (lv (some ([0,1,5],none)) _ (ae fun _ s0 _ _ => cj fun _ rf _ _ _ => ae fun _ mw _ _ => ?_))));refine gh [] (n := 8) fun _ mu => ?_;refine gY ?_;refine cF 3 bt ?_;refine cF 1 bt ?_;refine cF 3 bt ?_;refine og bt ?_;refine mu _ ?_;refine gZ ?_;refine aS bt ?_;refine mw (some ([0,1,5,25],none)) _ (bs (rf _ (s0 (some ([0,1,5],none)) _ (ai fun _ lq => ?_))));refine ag 2 bt ?_;refine al bt ?_;refine lq _ ?_;refine eo (a.length - (i + 1)) (some ([0,1,5],none)) _ ?_ ?_
   all_goals try refine dR ?_
   ·omega
   ·refine ⟨i + 1,by omega,by omega,fun j h => ?_,rfl⟩
    by_cases e : j = i
    ·subst e; rw [e7,rm]
    ·exact aN j (by omega)
end Go.Proofs.YtkmbcjnaaokilaaGreatDoor
