/-
  Layer 12 by shadows: the codes of the arena; the box that a code's closure names is a part of one's own.
-/
import Derived.Test.YtkmbcjnaaokilaaGreatDoorK12a
import Derived.Test.YtkmbcjnaaokilaaGreatDoorK8a
import Derived.Test.YtkmbcjnaaokilaaGreatDoorMK22
namespace Go.Proofs.YtkmbcjnaaokilaaGreatDoor
set_option linter.unusedSimpArgs false
set_option linter.unusedVariables false
open Go.RowKit Go.Maps
structure g8 where
 l : cc
 parts : List (Nat × Nat)
 g : Nat
 block : Int
 err : Int
 fin : Bool
 k : Nat
structure j2 where
 l : cc
 block : Nat
 err : Int
 fin : Bool
 k : Nat
inductive e5 where
 | c9 (s : g8)
 | ec (s : j2)
structure fF where
 i : Nat
 g : Nat
 b : Nat
 er : av
abbrev si (b : Nat) : av := .v (.pointer (some ⟨b,0,none⟩))
def F7 : Nat → FuncId
 | 0 => 36
 | 1 => 62
 | _ => 80
def D4 : Nat → FuncId
 | 0 => 39
 | 1 => 40
 | _ => 64
def H3 (s : j2) (b : Nat) : List av := if s.k = 0 then [si b,.dc [aI (bA s.l s.block)] 0] else [si b]
def afo : e5 → Nat → av
 | .c9 s,b => .fn (.func (F7 s.k)) [] [si b]
 | .ec s,b => .fn (.func (D4 s.k)) [] (H3 s b)
def yz : e5 → Bool
 | .c9 s => s.fin
 | .ec s => s.fin
abbrev pU (s : g8) (er : av) : List av := [aI s.l.threads,aI s.l.cells,aI s.l.blocks,.au 2 s.g (s.parts.map va),aI s.block,aI s.err,dH s.fin,er]
abbrev qI (s : j2) (er : av) : List av := [aI s.l.threads,aI s.l.cells,aI s.l.blocks,aI s.block,aI s.err,dH s.fin,er]
def He : e5 → av → List av
 | .c9 s,er => pU s er
 | .ec s,er => qI s er
def L5 : e5 → TypeId
 | .c9 _ => 98
 | .ec _ => 104
def jk (s : e5) (L : fF) : av := .dr (L5 s) (.agg (He s L.er))
structure ko (s : e5) (L : fF) (O : List (Nat × bl)) (n : Nat) : Prop where
 i : L.i < n
 g : L.g < n
 ne : L.i ≠ L.g
 pl : Plain L.er
 own : yz s = false → L.er = afo s L.b ∧ al O L.i = some (.box (L5 s) (He s L.er)) ∧ al O L.g = some (.cq (od L.i L.b))
structure pH (x : Option Nat) (O : List (Nat × bl)) (n : Nat) (O' : List (Nat × bl)) (bI : Nat) : Prop where
 le : n ≤ bI
 old : ∀ e,e < n → x ≠ some e → al O' e = al O e
def nS (L0 : Option fF) (O : List (Nat × bl)) (n : Nat) (R : e5 × dB × Bool) (_ : bg → Env → Prop) (r : av) (O' : List (Nat × bl)) (bI : Nat) : Prop :=
 ∃ du,r = .bR [jk R.1 du,.agg (pa R.2.1),dH R.2.2] ∧ ko R.1 du O' bI ∧ pH (L0.map fF.i) O n O' bI ∧ ((n < du.i ∧ n < du.g) ∨ ∃ L,L0 = some L ∧ du.i = L.i ∧ du.g = L.g)
theorem pH.at {x : Option Nat} {O O' : List (Nat × bl)} {n bI e : Nat} {X : bl} (h : pH x O n O' bI) (he : e < n) (ar : x ≠ some e) (cU : al O e = some X) : al O' e = some X := by
 rw [h.old e he ar]; exact cU
theorem wL {p : Prop} (h : p := by intro e he ar; simp only [al,bn]; repeat rw [if_neg (by omega)]) : p := h
def h6 (s : g8) : g8 × dB × Bool := match s.parts with
 | [] => ({ s with fin := true,err := 9 },hi,true)
 | p :: _ => ({ s with k := 1 },⟨5,bA s.l p.1,gv,gv⟩,false)
def ly (v : Int) (i : Nat) : Bool := gN .and .i64 v (fP i) != 0
def rC (v : Int) (a : Nat) : Nat → Option Nat
 | 0 => none
 | m + 1 => if ly v a = true then rC v (a + 1) m else some a
def gT (s : g8) (w : bq) : g8 × dB × Bool := match s.parts with
 | [] => (s,hi,true)
 | p :: ps => match rC w.val p.1 (p.2 - p.1) with
  | some i => ({ s with block := i,k := 2 },⟨6,bA s.l i,w,⟨gN .or .i64 w.val (fP i),w.eZ,w.ref⟩⟩,false)
  | none => h6 { s with parts := ps,g := 2 }
def hU (s : g8) (g : dW) : g8 × dB × Bool :=
 if s.fin = true then (s,hi,true) else match s.k with
  | 0 => h6 s
  | 1 => gT s g.word
  | _ => if g.ok = true then ({ s with fin := true },hi,true) else gT s g.word
def h1 (s : j2) (w : bq) : j2 × dB × Bool :=
 if ly w.val s.block = true then ({ s with k := 2 },⟨6,bA s.l s.block,w,⟨gN .andNot .i64 w.val (fP s.block),w.eZ,w.ref⟩⟩,false)
 else ({ s with fin := true,err := 13 },hi,true)
def kI (s : j2) (g : dW) : j2 × dB × Bool :=
 if s.fin = true then (s,hi,true) else match s.k with
  | 0 => ({ s with k := 1 },⟨5,bA s.l s.block,gv,gv⟩,false)
  | 1 => h1 s g.word
  | _ => if g.ok = true then ({ s with fin := true },hi,true) else h1 s g.word
def hZ (R : g8 × dB × Bool) : e5 × dB × Bool := (.c9 R.1,R.2)
def lf (R : j2 × dB × Bool) : e5 × dB × Bool := (.ec R.1,R.2)
def cI (s : e5) (g : dW) : e5 × dB × Bool := match s with
 | .c9 s => hZ (hU s g)
 | .ec s => lf (kI s g)
structure o7 (s : g8) : Prop where
 lay : fj s.l = 0
 g : s.g ≠ 1
 jZ : ∀ p ∈ s.parts,p.1 < p.2 ∧ (p.2 : Int) ≤ s.l.blocks
structure pJ (s : j2) : Prop where
 lay : fj s.l = 0
 tC : (s.block : Int) < s.l.blocks
def Dm (s : g8) : Prop := s.fin = false → s.k ≠ 0 → s.parts ≠ []
def oT : e5 → Prop
 | .c9 s => o7 s ∧ Dm s
 | .ec s => pJ s
set_option maxHeartbeats 4000000 in
theorem QK (s : g8) (ao : o7 s) {er : av} (hp : Plain er) (O : List (Nat × bl)) (n : Nat) : fv 37 [.agg (pU s er)] O n (nS none O n (hZ (h6 s))) := by
 refine nJ Tryz.func37 ai0 rfl fun J => ?_
 have hid := fE n
 have fa := gO hp
 obtain ⟨l,parts,g,block,err,fin,k⟩ := s
 cases parts with
 | nil =>
  unfold Li KQ;delta ab aR aa aA a6
  have ad := And.intro @hid @fa
  refine ae fun bz aK b6 cb => ai fun b7 aG => ?_;refine an ad ?_;refine aG _ (aK (some ([1,3],none)) _ (ae fun b8 aQ bt b5 => ae fun b9 bG c7 dF => ai fun cD bZ => ?_));refine ag 2 ad ?_;refine aU ad ?_;refine bZ _ (bG (some ([1,3,10],none)) _ (bY (ae fun cv bp cY dk => ai fun cC bD => ?_)));refine ag 2 ad ?_;refine aU ad ?_;refine bD _ (bp (some ([1,3],none)) _ (ae fun _ ck _ _ => ai fun bo aP => ?_));refine ag 1 ad ?_;refine ag 4 ad ?_;refine an ad ?_;refine aP _ (ck (some ([2,3,4],none)) _ (bt _ ?_))
  first | refine gd (aE ad) (aE ad) (aE ad) ?_ | refine gb (aE ad) (aE ad) (aE ad) ?_
  try dsimp only
  refine ⟨⟨n + 1,n + 2,0,er⟩,rfl,⟨by show n + 1 < _; omega,by show n + 2 < _; omega,by show n + 1 ≠ n + 2; omega,hp,fun h => nomatch h⟩,⟨by omega,wL⟩,.inl ⟨by show n < n + 1; omega,by show n < n + 2; omega⟩⟩
 | cons p ps =>
  have ax := ao.jZ p (List.mem_cons_self ..)
  have b2 := y2 ao.lay p.1 (by have := ax; simp only at *; omega)
  simp only at b2
  unfold Li KQ;delta ab aR aa aA a6
  have ad := And.intro @hid @fa
  refine ae fun bz aK b6 cb => ai fun b7 aG => ?_;refine an ad ?_;refine aG _ (aK (some ([1,3],none)) _ (ae fun b8 aQ bt b5 => ae fun b9 bG c7 dF => ai fun cD bZ => ?_));refine ag 2 ad ?_;refine aU ad ?_;refine bZ _ (bG (some ([1,3,10],none)) _ (bB (aQ (some ([1,3],none)) _ (ae fun cv bp cY dk => ?_))));refine hy [] (n := 11) fun cC bD => ?_;refine hv ?_;refine cR 2 ad ?_;refine cR 2 ad ?_;refine cR 1 ad ?_;refine cR 2 ad ?_;refine gj 1 ad ?_;refine ⟨_,b2,?_⟩;refine lJ ad ?_;refine bD _ ?_;refine hx ?_;refine an ad ?_;refine bp (some ([1,3,5],none)) _ (ae fun bo cN _ _ => ?_);refine pW [(0,[.vV (n + 1),.wa 1 (n + 3)]),(1,[.raw 1 (n + 3)])] ([]) fun _ cF => ?_;refine qL ?_;refine As (aE ad) fun b => ?_;refine At (i := n + 1) (b := b) (off := 0) (aE ad) (aE ad) ?_
  refine m7 ?_;refine yu fun _ eU => ?_;refine an ad ?_;refine eU _ ?_;refine pY (i := n + 1) (b := b) (off := 0) (aE ad) (aE ad) ?_;refine m7 ?_;refine pX ?_;refine aU ad ?_;refine cF _ (cN (some ([1,3,5],none)) _ (ae fun _ eW _ _ => ai fun _ ed => ?_));refine ag 1 ad ?_;refine ag 5 ad ?_;refine an ad ?_;refine ed _ (eW (some ([2,3,4],none)) _ ?_)
  first | refine gd (aE ad) (aE ad) (aE ad) ?_ | refine gb (aE ad) (aE ad) (aE ad) ?_
  try dsimp only
  refine ⟨⟨n + 1,n + 3,b,_⟩,rfl,⟨by show n + 1 < _; omega,by show n + 3 < _; omega,by show n + 1 ≠ n + 3; omega,plain_fn _ _ _,fun _ => ⟨rfl,?_,?_⟩⟩,⟨by omega,wL⟩,.inl ⟨by show n < n + 1; omega,by show n < n + 3; omega⟩⟩
  ·exact aE ad
  ·exact aE ad
theorem ko.to {s : e5} {L : fF} {O O' : List (Nat × bl)} {n bI : Nat} (h : ko s L O n) (a7 : n ≤ bI) (af : al O' L.i = al O L.i) (aj : al O' L.g = al O L.g) : ko s L O' bI :=
 ⟨Nat.lt_of_lt_of_le h.i a7,Nat.lt_of_lt_of_le h.g a7,h.ne,h.pl,fun aW => by rw [af,aj]; exact h.own aW⟩
theorem jq (s : e5) (L : fF) : Plain (jk s L) := Fp _ _
abbrev nh : List av := [aI 0,aI 0,aI 0,fX 0,fX 0,aI 0,fX 0,fX 0]
theorem Oa {v : Int} {a b : Nat} (h : a < b) : rC v a (b - a) = if ly v a = true then rC v (a + 1) (b - (a + 1)) else some a := by
 obtain ⟨m,hm⟩ : ∃ m,b - a = m + 1 := ⟨b - a - 1,by omega⟩
 rw [hm,show b - (a + 1) = m by omega]; rfl
def WM (s : g8) (er : av) (w : bq) (J : bg → Env → Prop) (O : List (Nat × bl)) (n : Nat) (p : Nat × Nat) (k : Nat) (S : ak) : Prop :=
 ∃ i : Nat,p.1 ≤ i ∧ i ≤ p.2 ∧ k = p.2 - i ∧ rC w.val p.1 (p.2 - p.1) = rC w.val i (p.2 - i) ∧
  S = ⟨[(2,.ptr (n + 1) 0 0),(3,.ptr (n + 2) 0 0),(5,.ptr (n + 3) 0 0),(7,aI i)],(n + 3,.box 81 nh) :: (n + 2,.box 79 (dj w)) :: (n + 1,.box 98 (pU s er)) :: (n,.cq J) :: O,n + 4⟩
set_option maxHeartbeats 8000000 in
theorem QM (s : g8) (ao : o7 s) (dd : s.parts ≠ []) (w : bq) {er : av} (hp : Plain er) (O : List (Nat × bl)) (n : Nat) : fv 63 [.agg (pU s er),.agg (dj w)] O n (nS none O n (hZ (gT s w))) := by
 refine nJ Tryz.func63 ai6 rfl fun J => ?_
 have hid := fE n
 have fa := gO hp
 obtain ⟨l,parts,g,block,err,pZ,k⟩ := s
 cases parts with
 | nil => exact absurd rfl dd
 | cons p ps =>
  have ax := ao.jZ p (List.mem_cons_self ..)
  have Ej := (ku ao.lay).1.2.2
  simp only at ax Ej
  have aH : (g = 1) = False := eq_false ao.g
  have rZ : o7 ⟨l,ps,2,block,err,pZ,k⟩ := ⟨ao.lay,by simp,fun q aS => ao.jZ q (List.mem_cons_of_mem _ aS)⟩
  have b2 := fun (i : Nat) (aq : i < p.2) => y2 ao.lay i (by have := ax.2; simp only; omega)
  simp only at b2
  unfold SK RF;delta ab aR aa aA a6
  have ad := And.intro @hid @fa
  refine ae fun _ aK _ _ => ai fun _ aG => ?_;refine an ad ?_;refine aG _ (aK (some ([2,3,5],none)) _ (ae fun _ aQ bt _ => ae fun _ bG _ _ => ai fun _ bZ => ?_));refine ag 2 ad ?_;refine ag 1 ad ?_;refine ag 2 ad ?_;refine an ad ?_;refine bZ _ (bG (some ([2,3,5,7],none)) _ (cx fun _ _ lW cY _ => ?_));refine jS (WM ⟨l,p :: ps,g,block,err,pZ,k⟩ er w J O n p) (p.2 - p.1) (some ([2,3,5,7],none)) ([]) ?_ ?_
  ·try refine eC ?_
   exact ⟨p.1,by omega,by omega,rfl,rfl,rfl⟩
  ·intro k b0 aY
   obtain ⟨i,AY,iI,rfl,p4,rfl⟩ := aY
   have eF : i = p.2 ∨ (i < p.2 ∧ ly w.val i = true) ∨ (i < p.2 ∧ ly w.val i = false) := by
    rcases Nat.lt_or_ge i p.2 with h | h
    ·cases hu : ly w.val i
     ·exact .inr (.inr ⟨h,rfl⟩)
     ·exact .inr (.inl ⟨h,rfl⟩)
    ·exact .inl (by omega)
   intro _ cp ek ft
   rcases eF with dT | ⟨dT,hu⟩ | ⟨dT,hu⟩
   ·skip
    have v1 : ¬ (i : Int) < (p.2 : Int) := by omega
    have ba : gT ⟨l,p :: ps,g,block,err,pZ,k⟩ w = h6 ⟨l,ps,2,block,err,pZ,k⟩ := by
     unfold gT
     simp only
     rw [p4,dT,Nat.sub_self]; rfl
    have aD := And.intro ad (And.intro @v1 @aH)
    refine ae fun _ _ _ gA => ae fun _ cN _ _ => ai fun _ cF => ?_;refine ag 3 aD ?_;refine ag 1 aD ?_;refine ag 2 aD ?_;refine aU aD ?_;refine cF _ (cN (some ([2,3,5,7,21],none)) _ (bB (gA 0 _ (ft 0 _ (lW _ (aQ (some ([2,5],none)) _ (ae fun _ ct _ _ => ai fun _ cG => ?_)))))));refine ag 2 aD ?_;refine ag 1 aD ?_;refine aU aD ?_;refine cG _ (ct (some ([2,5],none)) _ (ae fun _ dJ _ _ => ai fun _ dt => ?_));refine ag 1 aD ?_;refine aL 1 aD ?_;refine Or.inr (ia (QK _ rZ hp _ _) (aE aD) (fun GB KG Dh mS wQ => ?_))
    obtain ⟨du,rfl,br,bs,aW⟩ := wQ
    dsimp only at br bs aW
    have fC := bs.at (e := n) (X := .cq J) (by omega) (by simp) (aE aD)
    have gy := bs.at (e := n + 3) (X := .box 81 nh) (by omega) (by simp) (aE aD)
    have jG := gO (jq (hZ (h6 ⟨l,ps,2,block,err,pZ,k⟩)).1 du)
    have bm := And.intro aD (And.intro @fC (And.intro @gy @jG))
    refine ag 5 bm ?_;refine an bm ?_;refine dt _ (dJ (some ([4,5,6],none)) _ ?_)
    first | refine gd (aE bm) (aE bm) (aE bm) ?_ | refine gb (aE bm) (aE bm) (aE bm) ?_
    try dsimp only
    rw [ba]
    refine ⟨du,rfl,br.to (by omega) ?_ ?_,⟨by have := bs.le; omega,?_⟩,.inl ?_⟩
    ·obtain ⟨bL,cd⟩ | ⟨_,h,_⟩ := aW
     ·simp only [al,bn]; repeat rw [if_neg (by omega)]
     ·cases h
    ·obtain ⟨bL,cd⟩ | ⟨_,h,_⟩ := aW
     ·simp only [al,bn]; repeat rw [if_neg (by omega)]
     ·cases h
    ·intro e he ar
     simp only [al,bn]; repeat rw [if_neg (by omega)]
     rw [bs.old e (by omega) (by simp)]
     simp only [al,bn]; repeat rw [if_neg (by omega)]
    ·obtain ⟨bL,cd⟩ | ⟨_,h,_⟩ := aW
     ·exact ⟨by omega,by omega⟩
     ·cases h
   ·skip
    have v1 : (i : Int) < (p.2 : Int) := by omega
    have v2 : IntKind.i64.wrap ((i : Int) + 1) = ((i + 1 : Nat) : Int) := by rw [IntKind.wrap_i64]; omega
    have nF := b2 i dT
    have qv : (gN .and .i64 w.val (fP i) != 0) = true := hu
    have bx := And.intro ad (And.intro @v1 (And.intro @v2 @qv))
    refine ae fun _ gK _ _ => ae fun _ fy _ _ => ai fun _ eV => ?_;refine ag 3 bx ?_;refine ag 1 bx ?_;refine ag 2 bx ?_;refine aU bx ?_;refine eV _ (fy (some ([2,3,5,7,21],none)) _ (bY (gK (some ([2,3,5,7],none)) _ (ae fun _ ic _ _ => cx fun _ _ ad2 _ _ => ae fun _ ix _ _ => ai fun _ ht => ?_))));refine ag 2 bx ?_;refine aL 1 bx ?_;refine aL 1 bx ?_;refine Or.inl (Or.inl ⟨_,nF,?_⟩);refine an bx ?_;refine ht _ (ix (some ([2,3,5,7,8,9],none)) _ (ae fun _ _ _ Is => ae fun _ ke _ _ => ai fun _ iS => ?_));refine ag 2 bx ?_;refine aL 1 bx ?_;refine aL 1 bx ?_;refine Or.inl ⟨_,tM (.inl rfl),?_⟩;refine aU bx ?_;refine iS _ (ke (some ([2,3,5,7,8,9,35],none)) _ (bY (Is 1 _ (ad2 _ (ic (some ([2,3,5,7],none)) _ ?_)))))
    refine ai fun _ gu => ?_;refine ag 2 bx ?_;refine an bx ?_;refine gu _ ?_;refine cp (p.2 - (i + 1)) (some ([2,3,5,7],none)) _ ?_ ?_
    all_goals try refine eC ?_
    ·omega
    ·exact ⟨i + 1,by omega,by omega,rfl,by rw [p4,Oa dT,if_pos hu],rfl⟩
   ·skip
    have v1 : (i : Int) < (p.2 : Int) := by omega
    have nF := b2 i dT
    have qv : (gN .and .i64 w.val (fP i) != 0) = false := hu
    have ba : gT ⟨l,p :: ps,g,block,err,pZ,k⟩ w = (⟨l,p :: ps,g,(i : Int),err,pZ,2⟩,⟨6,bA l i,w,⟨gN .or .i64 w.val (fP i),w.eZ,w.ref⟩⟩,false) := by
     unfold gT
     simp only
     rw [p4,Oa dT,if_neg (by rw [hu]; simp)]
    have bS := And.intro ad (And.intro @v1 @qv)
    refine ae fun _ kY _ _ => ae fun _ kf _ _ => ai fun _ iV => ?_;refine ag 3 bS ?_;refine ag 1 bS ?_;refine ag 2 bS ?_;refine aU bS ?_;refine iV _ (kf (some ([2,3,5,7,21],none)) _ (bY (kY (some ([2,3,5,7],none)) _ (ae fun _ _ adH _ => cx fun _ _ _ Ex _ => ae fun _ nC _ _ => ai fun _ ny => ?_))));refine ag 2 bS ?_;refine aL 1 bS ?_;refine aL 1 bS ?_;refine Or.inl (Or.inl ⟨_,nF,?_⟩);refine an bS ?_;refine ny _ (nC (some ([2,3,5,7,8,9],none)) _ (ae fun _ kZ _ _ => ae fun _ rW _ _ => ai fun _ oH => ?_));refine ag 2 bS ?_;refine aL 1 bS ?_;refine aL 1 bS ?_;refine Or.inl ⟨_,tM (.inl rfl),?_⟩;refine aU bS ?_;refine oH _ (rW (some ([2,3,5,7,8,9,35],none)) _ (bB (kZ (some ([2,3,5,7,8,9],none)) _ ?_)))
    refine ae fun _ oM _ _ => ai fun _ mH => ?_;refine aU bS ?_;refine mH _ (oM (some ([2,3,5,8,9],none)) _ (ae fun _ oN _ _ => ?_));refine pW [(0,[.vV (n + 1),.wa 2 (n + 4)]),(1,[.raw 2 (n + 4)])] ([]) fun _ jE => ?_;refine qL ?_;refine As (aE bS) fun b => ?_;refine At (i := n + 1) (b := b) (off := 0) (aE bS) (aE bS) ?_;refine m7 ?_;refine yu fun _ nz => ?_;refine an bS ?_;refine nz _ ?_;refine pY (i := n + 1) (b := b) (off := 0) (aE bS) (aE bS) ?_;refine m7 ?_;refine pX ?_;refine aU bS ?_;refine jE _ (oN (some ([2,3,5,8,9],none)) _ (ae fun _ w8 _ _ => ?_));refine hy [] (n := 15) fun _ nA => ?_;refine hv ?_;refine cR 1 bS ?_;refine cR 3 bS ?_;refine cR 2 bS ?_;refine gj 1 bS ?_;refine gj 1 bS ?_;refine ⟨_,tM (.inr (.inl rfl)),?_⟩;refine cR 2 bS ?_;refine cR 2 bS ?_
    refine lJ bS ?_;refine nA _ ?_;refine hx ?_;refine ag 1 bS ?_;refine an bS ?_;refine w8 (some ([4,5,6],none)) _ (Ex _ (adH _ (ek _ (cY _ (bt _ ?_)))))
    first | refine gd (aE bS) (aE bS) (aE bS) ?_ | refine gb (aE bS) (aE bS) (aE bS) ?_
    try dsimp only
    rw [ba]
    refine ⟨⟨n + 1,n + 4,b,_⟩,rfl,⟨by show n + 1 < _; omega,by show n + 4 < _; omega,by show n + 1 ≠ n + 4; omega,plain_fn _ _ _,fun _ => ⟨rfl,?_,?_⟩⟩,⟨by omega,wL⟩,.inl ⟨by show n < n + 1; omega,by show n < n + 4; omega⟩⟩
    ·exact aE ad
    ·exact aE ad
end Go.Proofs.YtkmbcjnaaokilaaGreatDoor
