/-
  Layer 12 by shadows: the codes of the arena; the box that a code's closure names is a part of one's own.
-/
import Derived.Test.YtkmbcjnaaokilaaGreatDoorK12a
import Derived.Test.YtkmbcjnaaokilaaGreatDoorK8a
import Derived.Test.YtkmbcjnaaokilaaGreatDoorMK17
namespace Go.Proofs.YtkmbcjnaaokilaaGreatDoor
set_option linter.unusedSimpArgs false
set_option linter.unusedVariables false
open Go.RowKit Go.Maps
structure hl where
 l : b1
 parts : List (Nat × Nat)
 g : Nat
 block : Int
 err : Int
 fin : Bool
 k : Nat
structure ko where
 l : b1
 block : Nat
 err : Int
 fin : Bool
 k : Nat
inductive fa where
 | dp (s : hl)
 | ev (s : ko)
structure fO where
 i : Nat
 g : Nat
 b : Nat
 eG : aw
abbrev tn (b : Nat) : aw := .v (.pointer (some ⟨b,0,none⟩))
def H6 : Nat → FuncId
 | 0 => 36
 | 1 => 62
 | _ => 80
def F9 : Nat → FuncId
 | 0 => 39
 | 1 => 40
 | _ => 64
def Kg (s : ko) (b : Nat) : List aw := if s.k = 0 then [tn b,.di [aG (bw s.l s.block)] 0] else [tn b]
def ai2 : fa → Nat → aw
 | .dp s,b => .fn (.func (H6 s.k)) [] [tn b]
 | .ev s,b => .fn (.func (F9 s.k)) [] (Kg s b)
def Ag : fa → Bool
 | .dp s => s.fin
 | .ev s => s.fin
abbrev qV (s : hl) (eG : aw) : List aw := [aG s.l.threads,aG s.l.cells,aG s.l.blocks,.au 2 s.g (s.parts.map wP),aG s.block,aG s.err,eA s.fin,eG]
abbrev rN (s : ko) (eG : aw) : List aw := [aG s.l.threads,aG s.l.cells,aG s.l.blocks,aG s.block,aG s.err,eA s.fin,eG]
def Jr : fa → aw → List aw
 | .dp s,eG => qV s eG
 | .ev s,eG => rN s eG
def ON : fa → TypeId
 | .dp _ => 98
 | .ev _ => 104
def jz (s : fa) (L : fO) : aw := .ds (ON s) (.agg (Jr s L.eG))
structure kJ (s : fa) (L : fO) (O : List (Nat × bo)) (n : Nat) : Prop where
 i : L.i < n
 g : L.g < n
 ne : L.i ≠ L.g
 pl : Plain L.eG
 own : Ag s = false → L.eG = ai2 s L.b ∧ an O L.i = some (.box (ON s) (Jr s L.eG)) ∧ an O L.g = some (.cB (o4 L.i L.b))
structure qH (x : Option Nat) (O : List (Nat × bo)) (n : Nat) (O' : List (Nat × bo)) (bO : Nat) : Prop where
 le : n ≤ bO
 old : ∀ e,e < n → x ≠ some e → an O' e = an O e
def oM (L0 : Option fO) (O : List (Nat × bo)) (n : Nat) (R : fa × dJ × Bool) (_ : bl → Env → Prop) (r : aw) (O' : List (Nat × bo)) (bO : Nat) : Prop :=
 ∃ dw,r = .bY [jz R.1 dw,.agg (qf R.2.1),eA R.2.2] ∧ kJ R.1 dw O' bO ∧ qH (L0.map fO.i) O n O' bO ∧ ((n < dw.i ∧ n < dw.g) ∨ ∃ L,L0 = some L ∧ dw.i = L.i ∧ dw.g = L.g)
theorem qH.at {x : Option Nat} {O O' : List (Nat × bo)} {n bO e : Nat} {X : bo} (h : qH x O n O' bO) (he : e < n) (ar : x ≠ some e) (cC : an O e = some X) : an O' e = some X := by
 rw [h.old e he ar]; exact cC
theorem yn {p : Prop} (h : p := by intro e he ar; simp only [an,bq]; repeat rw [if_neg (by omega)]) : p := h
def iv (s : hl) : hl × dJ × Bool := match s.parts with
 | [] => ({ s with fin := true,err := 9 },hx,true)
 | p :: _ => ({ s with k := 1 },⟨5,bw s.l p.1,gE,gE⟩,false)
def l7 (v : Int) (i : Nat) : Bool := gV .and .i64 v (fX i) != 0
def sO (v : Int) (a : Nat) : Nat → Option Nat
 | 0 => none
 | m + 1 => if l7 v a = true then sO v (a + 1) m else some a
def g5 (s : hl) (w : bm) : hl × dJ × Bool := match s.parts with
 | [] => (s,hx,true)
 | p :: ps => match sO w.val p.1 (p.2 - p.1) with
  | some i => ({ s with block := i,k := 2 },⟨6,bw s.l i,w,⟨gV .or .i64 w.val (fX i),w.eV,w.ref⟩⟩,false)
  | none => iv { s with parts := ps,g := 2 }
def h6 (s : hl) (g : ei) : hl × dJ × Bool :=
 if s.fin = true then (s,hx,true) else match s.k with
  | 0 => iv s
  | 1 => g5 s g.word
  | _ => if g.ok = true then ({ s with fin := true },hx,true) else g5 s g.word
def ih (s : ko) (w : bm) : ko × dJ × Bool :=
 if l7 w.val s.block = true then ({ s with k := 2 },⟨6,bw s.l s.block,w,⟨gV .andNot .i64 w.val (fX s.block),w.eV,w.ref⟩⟩,false)
 else ({ s with fin := true,err := 13 },hx,true)
def kY (s : ko) (g : ei) : ko × dJ × Bool :=
 if s.fin = true then (s,hx,true) else match s.k with
  | 0 => ({ s with k := 1 },⟨5,bw s.l s.block,gE,gE⟩,false)
  | 1 => ih s g.word
  | _ => if g.ok = true then ({ s with fin := true },hx,true) else ih s g.word
def ic (R : hl × dJ × Bool) : fa × dJ × Bool := (.dp R.1,R.2)
def lO (R : ko × dJ × Bool) : fa × dJ × Bool := (.ev R.1,R.2)
def cU (s : fa) (g : ei) : fa × dJ × Bool := match s with
 | .dp s => ic (h6 s g)
 | .ev s => lO (kY s g)
structure p9 (s : hl) : Prop where
 lay : e4 s.l = 0
 g : s.g ≠ 1
 kl : ∀ p ∈ s.parts,p.1 < p.2 ∧ (p.2 : Int) ≤ s.l.blocks
structure qL (s : ko) : Prop where
 lay : e4 s.l = 0
 uU : (s.block : Int) < s.l.blocks
def E3 (s : hl) : Prop := s.fin = false → s.k ≠ 0 → s.parts ≠ []
def pW : fa → Prop
 | .dp s => p9 s ∧ E3 s
 | .ev s => qL s
set_option maxHeartbeats 4000000 in
theorem TK (s : hl) (ao : p9 s) {eG : aw} (hp : Plain eG) (O : List (Nat × bo)) (n : Nat) : gg 37 [.agg (qV s eG)] O n (oM none O n (ic (iv s))) := by
 refine oF Tryz.func37 amD rfl fun J => ?_
 have hid := fG n
 have fg := gX hp
 obtain ⟨l,parts,g,block,err,fin,k⟩ := s
 cases parts with
 | nil =>
  unfold NW Ns;delta ab aQ aa ay a3
  have ad := And.intro @hid @fg
  refine ae fun bD aK b9 ck => ai fun ca aH => ?_;refine al ad ?_;refine aH _ (aK (some ([1,3],none)) _ (ae fun cg aP bx b8 => ae fun ch bI dd dU => ai fun cM b0 => ?_));refine ag 2 ad ?_;refine aS ad ?_;refine b0 _ (bI (some ([1,3,10],none)) _ (bU (ae fun cG bp c5 dn => ai fun cI bE => ?_)));refine ag 2 ad ?_;refine aS ad ?_;refine bE _ (bp (some ([1,3],none)) _ (ae fun _ cv _ _ => ai fun bz aR => ?_));refine ag 1 ad ?_;refine ag 4 ad ?_;refine al ad ?_;refine aR _ (cv (some ([2,3,4],none)) _ (bx _ ?_))
  first | refine gv (aF ad) (aF ad) (aF ad) ?_ | refine gu (aF ad) (aF ad) (aF ad) ?_
  try dsimp only
  refine ⟨⟨n + 1,n + 2,0,eG⟩,rfl,⟨by show n + 1 < _; omega,by show n + 2 < _; omega,by show n + 1 ≠ n + 2; omega,hp,fun h => nomatch h⟩,⟨by omega,yn⟩,.inl ⟨by show n < n + 1; omega,by show n < n + 2; omega⟩⟩
 | cons p ps =>
  have aA := ao.kl p (List.mem_cons_self ..)
  have bX := xz ao.lay p.1 (by have := aA; simp only at *; omega)
  simp only at bX
  unfold NW Ns;delta ab aQ aa ay a3
  have ad := And.intro @hid @fg
  refine ae fun bD aK b9 ck => ai fun ca aH => ?_;refine al ad ?_;refine aH _ (aK (some ([1,3],none)) _ (ae fun cg aP bx b8 => ae fun ch bI dd dU => ai fun cM b0 => ?_));refine ag 2 ad ?_;refine aS ad ?_;refine b0 _ (bI (some ([1,3,10],none)) _ (bs (aP (some ([1,3],none)) _ (ae fun cG bp c5 dn => ?_))));refine gh [] (n := 11) fun cI bE => ?_;refine gY ?_;refine cF 2 ad ?_;refine cF 2 ad ?_;refine cF 1 ad ?_;refine cF 2 ad ?_;refine gd 1 ad ?_;refine ⟨_,bX,?_⟩;refine lh ad ?_;refine bE _ ?_;refine gZ ?_;refine al ad ?_;refine bp (some ([1,3,5],none)) _ (ae fun bz cR _ _ => ?_);refine qZ [(0,[.xH (n + 1),.xQ 1 (n + 3)]),(1,[.raw 1 (n + 3)])] ([]) fun _ cK => ?_;refine rR ?_;refine B2 (aF ad) fun b => ?_;refine B3 (i := n + 1) (b := b) (off := 0) (aF ad) (aF ad) ?_
  refine nT ?_;refine qh fun _ fe => ?_;refine al ad ?_;refine fe _ ?_;refine q1 (i := n + 1) (b := b) (off := 0) (aF ad) (aF ad) ?_;refine nT ?_;refine q0 ?_;refine aS ad ?_;refine cK _ (cR (some ([1,3,5],none)) _ (ae fun _ ff _ _ => ai fun _ ew => ?_));refine ag 1 ad ?_;refine ag 5 ad ?_;refine al ad ?_;refine ew _ (ff (some ([2,3,4],none)) _ ?_)
  first | refine gv (aF ad) (aF ad) (aF ad) ?_ | refine gu (aF ad) (aF ad) (aF ad) ?_
  try dsimp only
  refine ⟨⟨n + 1,n + 3,b,_⟩,rfl,⟨by show n + 1 < _; omega,by show n + 3 < _; omega,by show n + 1 ≠ n + 3; omega,plain_fn _ _ _,fun _ => ⟨rfl,?_,?_⟩⟩,⟨by omega,yn⟩,.inl ⟨by show n < n + 1; omega,by show n < n + 3; omega⟩⟩
  ·exact aF ad
  ·exact aF ad
theorem kJ.to {s : fa} {L : fO} {O O' : List (Nat × bo)} {n bO : Nat} (h : kJ s L O n) (a9 : n ≤ bO) (af : an O' L.i = an O L.i) (aj : an O' L.g = an O L.g) : kJ s L O' bO :=
 ⟨Nat.lt_of_lt_of_le h.i a9,Nat.lt_of_lt_of_le h.g a9,h.ne,h.pl,fun aZ => by rw [af,aj]; exact h.own aZ⟩
theorem jF (s : fa) (L : fO) : Plain (jz s L) := Hr _ _
abbrev n0 : List aw := [aG 0,aG 0,aG 0,gk 0,gk 0,aG 0,gk 0,gk 0]
theorem Q0 {v : Int} {a b : Nat} (h : a < b) : sO v a (b - a) = if l7 v a = true then sO v (a + 1) (b - (a + 1)) else some a := by
 obtain ⟨m,hm⟩ : ∃ m,b - a = m + 1 := ⟨b - a - 1,by omega⟩
 rw [hm,show b - (a + 1) = m by omega]; rfl
def Z8 (s : hl) (eG : aw) (w : bm) (J : bl → Env → Prop) (O : List (Nat × bo)) (n : Nat) (p : Nat × Nat) (k : Nat) (S : ak) : Prop :=
 ∃ i : Nat,p.1 ≤ i ∧ i ≤ p.2 ∧ k = p.2 - i ∧ sO w.val p.1 (p.2 - p.1) = sO w.val i (p.2 - i) ∧
  S = ⟨[(2,.ptr (n + 1) 0 0),(3,.ptr (n + 2) 0 0),(5,.ptr (n + 3) 0 0),(7,aG i)],(n + 3,.box 81 n0) :: (n + 2,.box 79 (c6 w)) :: (n + 1,.box 98 (qV s eG)) :: (n,.cB J) :: O,n + 4⟩
set_option maxHeartbeats 8000000 in
theorem TM (s : hl) (ao : p9 s) (dj : s.parts ≠ []) (w : bm) {eG : aw} (hp : Plain eG) (O : List (Nat × bo)) (n : Nat) : gg 63 [.agg (qV s eG),.agg (c6 w)] O n (oM none O n (ic (g5 s w))) := by
 refine oF Tryz.func63 amJ rfl fun J => ?_
 have hid := fG n
 have fg := gX hp
 obtain ⟨l,parts,g,block,err,q2,k⟩ := s
 cases parts with
 | nil => exact absurd rfl dj
 | cons p ps =>
  have aA := ao.kl p (List.mem_cons_self ..)
  have CV := (kb ao.lay).1.2.2
  simp only at aA CV
  have aJ : (g = 1) = False := eq_false ao.g
  have s4 : p9 ⟨l,ps,2,block,err,q2,k⟩ := ⟨ao.lay,by simp,fun q aT => ao.kl q (List.mem_cons_of_mem _ aT)⟩
  have bX := fun (i : Nat) (aq : i < p.2) => xz ao.lay i (by have := aA.2; simp only; omega)
  simp only at bX
  unfold VZ UQ;delta ab aQ aa ay a3
  have ad := And.intro @hid @fg
  refine ae fun _ aK _ _ => ai fun _ aH => ?_;refine al ad ?_;refine aH _ (aK (some ([2,3,5],none)) _ (ae fun _ aP bx _ => ae fun _ bI _ _ => ai fun _ b0 => ?_));refine ag 2 ad ?_;refine ag 1 ad ?_;refine ag 2 ad ?_;refine al ad ?_;refine b0 _ (bI (some ([2,3,5,7],none)) _ (cj fun _ _ lA c5 _ => ?_));refine ie (Z8 ⟨l,p :: ps,g,block,err,q2,k⟩ eG w J O n p) (p.2 - p.1) (some ([2,3,5,7],none)) ([]) ?_ ?_
  ·try refine dR ?_
   exact ⟨p.1,by omega,by omega,rfl,rfl,rfl⟩
  ·intro k bT aW
   obtain ⟨i,CG,iM,rfl,q7,rfl⟩ := aW
   have dZ : i = p.2 ∨ (i < p.2 ∧ l7 w.val i = true) ∨ (i < p.2 ∧ l7 w.val i = false) := by
    rcases Nat.lt_or_ge i p.2 with h | h
    ·cases hu : l7 w.val i
     ·exact .inr (.inr ⟨h,rfl⟩)
     ·exact .inr (.inl ⟨h,rfl⟩)
    ·exact .inl (by omega)
   intro _ cz ey fp
   rcases dZ with ea | ⟨ea,hu⟩ | ⟨ea,hu⟩
   ·skip
    have v1 : ¬ (i : Int) < (p.2 : Int) := by omega
    have bf : g5 ⟨l,p :: ps,g,block,err,q2,k⟩ w = iv ⟨l,ps,2,block,err,q2,k⟩ := by
     unfold g5
     simp only
     rw [q7,ea,Nat.sub_self]; rfl
    have aD := And.intro ad (And.intro @v1 @aJ)
    refine ae fun _ _ _ gw => ae fun _ cR _ _ => ai fun _ cK => ?_;refine ag 3 aD ?_;refine ag 1 aD ?_;refine ag 2 aD ?_;refine aS aD ?_;refine cK _ (cR (some ([2,3,5,7,21],none)) _ (bs (gw 0 _ (fp 0 _ (lA _ (aP (some ([2,5],none)) _ (ae fun _ cr _ _ => ai fun _ cD => ?_)))))));refine ag 2 aD ?_;refine ag 1 aD ?_;refine aS aD ?_;refine cD _ (cr (some ([2,5],none)) _ (ae fun _ dF _ _ => ai fun _ dq => ?_));refine ag 1 aD ?_;refine aM 1 aD ?_;refine Or.inr (iJ (TK _ s4 hp _ _) (aF aD) (fun IJ Nh EY nB yt => ?_))
    obtain ⟨dw,rfl,br,bu,aZ⟩ := yt
    dsimp only at br bu aZ
    have gA := bu.at (e := n) (X := .cB J) (by omega) (by simp) (aF aD)
    have gH := bu.at (e := n + 3) (X := .box 81 n0) (by omega) (by simp) (aF aD)
    have jW := gX (jF (ic (iv ⟨l,ps,2,block,err,q2,k⟩)).1 dw)
    have bc := And.intro aD (And.intro @gA (And.intro @gH @jW))
    refine ag 5 bc ?_;refine al bc ?_;refine dq _ (dF (some ([4,5,6],none)) _ ?_)
    first | refine gv (aF bc) (aF bc) (aF bc) ?_ | refine gu (aF bc) (aF bc) (aF bc) ?_
    try dsimp only
    rw [bf]
    refine ⟨dw,rfl,br.to (by omega) ?_ ?_,⟨by have := bu.le; omega,?_⟩,.inl ?_⟩
    ·obtain ⟨bJ,cf⟩ | ⟨_,h,_⟩ := aZ
     ·simp only [an,bq]; repeat rw [if_neg (by omega)]
     ·cases h
    ·obtain ⟨bJ,cf⟩ | ⟨_,h,_⟩ := aZ
     ·simp only [an,bq]; repeat rw [if_neg (by omega)]
     ·cases h
    ·intro e he ar
     simp only [an,bq]; repeat rw [if_neg (by omega)]
     rw [bu.old e (by omega) (by simp)]
     simp only [an,bq]; repeat rw [if_neg (by omega)]
    ·obtain ⟨bJ,cf⟩ | ⟨_,h,_⟩ := aZ
     ·exact ⟨by omega,by omega⟩
     ·cases h
   ·skip
    have v1 : (i : Int) < (p.2 : Int) := by omega
    have v2 : IntKind.i64.wrap ((i : Int) + 1) = ((i + 1 : Nat) : Int) := by rw [IntKind.wrap_i64]; omega
    have mC := bX i ea
    have oL : (gV .and .i64 w.val (fX i) != 0) = true := hu
    have bt := And.intro ad (And.intro @v1 (And.intro @v2 @oL))
    refine ae fun _ gl _ _ => ae fun _ fF _ _ => ai fun _ eF => ?_;refine ag 3 bt ?_;refine ag 1 bt ?_;refine ag 2 bt ?_;refine aS bt ?_;refine eF _ (fF (some ([2,3,5,7,21],none)) _ (bU (gl (some ([2,3,5,7],none)) _ (ae fun _ hM _ _ => cj fun _ _ ahp _ _ => ae fun _ hZ _ _ => ai fun _ hh => ?_))));refine ag 2 bt ?_;refine aM 1 bt ?_;refine aM 1 bt ?_;refine Or.inl (Or.inl ⟨_,mC,?_⟩);refine al bt ?_;refine hh _ (hZ (some ([2,3,5,7,8,9],none)) _ (ae fun _ _ _ KI => ae fun _ iu _ _ => ai fun _ iq => ?_));refine ag 2 bt ?_;refine aM 1 bt ?_;refine aM 1 bt ?_;refine Or.inl ⟨_,u5 (.inl rfl),?_⟩;refine aS bt ?_;refine iq _ (iu (some ([2,3,5,7,8,9,35],none)) _ (bU (KI 1 _ (ahp _ (hM (some ([2,3,5,7],none)) _ ?_)))))
    refine ai fun _ gD => ?_;refine ag 2 bt ?_;refine al bt ?_;refine gD _ ?_;refine cz (p.2 - (i + 1)) (some ([2,3,5,7],none)) _ ?_ ?_
    all_goals try refine dR ?_
    ·omega
    ·exact ⟨i + 1,by omega,by omega,rfl,by rw [q7,Q0 ea,if_pos hu],rfl⟩
   ·skip
    have v1 : (i : Int) < (p.2 : Int) := by omega
    have mC := bX i ea
    have oL : (gV .and .i64 w.val (fX i) != 0) = false := hu
    have bf : g5 ⟨l,p :: ps,g,block,err,q2,k⟩ w = (⟨l,p :: ps,g,(i : Int),err,q2,2⟩,⟨6,bw l i,w,⟨gV .or .i64 w.val (fX i),w.eV,w.ref⟩⟩,false) := by
     unfold g5
     simp only
     rw [q7,Q0 ea,if_neg (by rw [hu]; simp)]
    have bB := And.intro ad (And.intro @v1 @oL)
    refine ae fun _ lv _ _ => ae fun _ iQ _ _ => ai fun _ iO => ?_;refine ag 3 bB ?_;refine ag 1 bB ?_;refine ag 2 bB ?_;refine aS bB ?_;refine iO _ (iQ (some ([2,3,5,7,21],none)) _ (bU (lv (some ([2,3,5,7],none)) _ (ae fun _ _ ag4 _ => cj fun _ _ _ GF _ => ae fun _ mw _ _ => ai fun _ mu => ?_))));refine ag 2 bB ?_;refine aM 1 bB ?_;refine aM 1 bB ?_;refine Or.inl (Or.inl ⟨_,mC,?_⟩);refine al bB ?_;refine mu _ (mw (some ([2,3,5,7,8,9],none)) _ (ae fun _ kD _ _ => ae fun _ rh _ _ => ai fun _ nj => ?_));refine ag 2 bB ?_;refine aM 1 bB ?_;refine aM 1 bB ?_;refine Or.inl ⟨_,u5 (.inl rfl),?_⟩;refine aS bB ?_;refine nj _ (rh (some ([2,3,5,7,8,9,35],none)) _ (bs (kD (some ([2,3,5,7,8,9],none)) _ ?_)))
    refine ae fun _ ox _ _ => ai fun _ nk => ?_;refine aS bB ?_;refine nk _ (ox (some ([2,3,5,8,9],none)) _ (ae fun _ oy _ _ => ?_));refine qZ [(0,[.xH (n + 1),.xQ 2 (n + 4)]),(1,[.raw 2 (n + 4)])] ([]) fun _ jV => ?_;refine rR ?_;refine B2 (aF bB) fun b => ?_;refine B3 (i := n + 1) (b := b) (off := 0) (aF bB) (aF bB) ?_;refine nT ?_;refine qh fun _ nm => ?_;refine al bB ?_;refine nm _ ?_;refine q1 (i := n + 1) (b := b) (off := 0) (aF bB) (aF bB) ?_;refine nT ?_;refine q0 ?_;refine aS bB ?_;refine jV _ (oy (some ([2,3,5,8,9],none)) _ (ae fun _ s3 _ _ => ?_));refine gh [] (n := 15) fun _ np => ?_;refine gY ?_;refine cF 1 bB ?_;refine cF 3 bB ?_;refine cF 2 bB ?_;refine gd 1 bB ?_;refine gd 1 bB ?_;refine ⟨_,u5 (.inr (.inl rfl)),?_⟩;refine cF 2 bB ?_;refine cF 2 bB ?_
    refine lh bB ?_;refine np _ ?_;refine gZ ?_;refine ag 1 bB ?_;refine al bB ?_;refine s3 (some ([4,5,6],none)) _ (GF _ (ag4 _ (ey _ (c5 _ (bx _ ?_)))))
    first | refine gv (aF bB) (aF bB) (aF bB) ?_ | refine gu (aF bB) (aF bB) (aF bB) ?_
    try dsimp only
    rw [bf]
    refine ⟨⟨n + 1,n + 4,b,_⟩,rfl,⟨by show n + 1 < _; omega,by show n + 4 < _; omega,by show n + 1 ≠ n + 4; omega,plain_fn _ _ _,fun _ => ⟨rfl,?_,?_⟩⟩,⟨by omega,yn⟩,.inl ⟨by show n < n + 1; omega,by show n < n + 4; omega⟩⟩
    ·exact aF ad
    ·exact aF ad
end Go.Proofs.YtkmbcjnaaokilaaGreatDoor
