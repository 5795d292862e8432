/-
  Layer 12 by shadows: chains as codes with parts of their own; a task's chain, the law's bounds, who owns what.
-/
import Derived.Test.YtkmbcjnaaokilaaGreatDoorMK10
import Derived.Test.YtkmbcjnaaokilaaGreatDoorMK8
namespace Go.Proofs.YtkmbcjnaaokilaaGreatDoor
set_option linter.unusedSimpArgs false
set_option linter.unusedVariables false
open Go.RowKit Go.Maps
theorem adU : Enters 144 := n8 Tryz.func144 rfl rfl
theorem aiU : sy 72 "Next" 144 := by intro v w; kernel_rfl
theorem P7 {a b : cO × fO} (h : (a.1,ma) = (b.1,ma)) : a.1 = b.1 := (Prod.mk.inj h).1
def ka : iz ft where
 ids p := n9 p.1 p.2
 own p O n := Ju p.1 p.2 O n
 fY p := (p.1,ma)
 lt {s O n} h e he := by
  unfold n9 at he
  cases ao : s.1.now with
  | none => rw [ao] at he; cases he
  | some a =>
   rw [ao] at he
   have br := h a ao
   simp only [List.mem_cons,List.not_mem_nil,or_false] at he
   rcases he with rfl | rfl
   ·exact br.i
   ·exact br.g
 to {s O n O' bO} h a9 dX := fun a a5 => by
  have aW : n9 s.1 s.2 = [s.2.i,s.2.g] := by unfold n9; rw [a5]
  rw [aW] at dX
  exact (h a a5).to a9 (dX _ (by simp)) (dX _ (by simp))
 Kd {a b n} h aJ := by
  have : a.1 = b.1 := P7 h
  show jI n b.1 ∧ 0 < b.1.l.blocks
  rw [← this]; exact aJ
 o7 {a b} g h := by
  have : a.1 = b.1 := P7 h
  show ((eb a.1 g).1,ma) = ((eb b.1 g).1,ma) ∧ (eb a.1 g).2 = (eb b.1 g).2
  rw [this]; exact ⟨rfl,rfl⟩
 step {n s} g aJ a9 := by
  refine ⟨72,.agg (pr s.1 (u1 s.1.now s.2)),_,rfl,aiU,adU,fun O n ax => (aja s.1 aJ.1 a9 aJ.2 g O n ax).mono ?_⟩
  rintro J r O' bO ⟨dw,af,aj,av⟩
  exact ⟨((eb s.1 g).1,dw),rfl,af,aj,av⟩
theorem akG (a : Option fa) (L : fO) : Plain (u1 a L) := by
 cases a with
 | none => exact MZ _
 | some a => exact jF a L
theorem aih (s : cO) {x : aw} (ar : x.one = true) : EZ (.bY [.agg (pr s x),eA true]) (.bY [.agg (pr s .any),eA true]) := fun H v aA => by
 cases aA with
 | bY aE =>
  cases aE with
  | cons af aj =>
   refine .bY (.cons ?_ aj)
   cases af with
   | agg av aY =>
    cases av with
    | cons a0 av =>
     cases av with
     | cons bS av =>
      cases av with
      | cons bH av =>
       cases av with
       | cons bP av =>
        cases av with
        | cons a4 av => exact .agg (.cons a0 (.cons bS (.cons bH (.cons bP (.cons (.any (a4.Hm ar)) av))))) rfl
set_option maxHeartbeats 2000000 in
theorem TV (y : dt ft) {s : cO} {L : fO} (aB : y.code = some (s,L)) : cq 27 [.agg (g3 y)] (.bY [.agg (pr s .any),eA true]) := by
 refine T6 Tryz.func27 anu rfl ?_
 have fo := pa ft
 have ar := akG s.now L
 have fg := gX ar
 have bX : cq 45 [.agg (g3 y)] (.ds 72 (.agg (pr s (u1 s.now L)))) := by have := TQ y; rw [aB] at this; exact this
 generalize u1 s.now L = x at ar fg bX
 unfold FM Wq Vi;delta ab aQ aa a3
 have ad := And.intro @fo @fg
 refine ae fun _ aK _ _ => ai fun _ aH => ?_;refine al ad ?_;refine aH _ (aK (some ([1,2],none)) _ (ae fun _ aP _ _ => ai fun _ bk => ?_));refine ag 1 ad ?_;refine aM 1 ad ?_;refine Or.inl (Or.inl ⟨_,bX,?_⟩);refine aM 1 ad ?_;refine Or.inl ⟨_,Al Tryz.underlying72 rfl,?_⟩;refine ag 5 ad ?_;refine al ad ?_;refine bk _ (aP (some ([2,4,5],none)) _ (ae fun _ bV _ _ => ai fun _ dk => ?_));refine ag 1 ad ?_;refine ag 2 ad ?_;refine al ad ?_;refine dk _ (bV (some ([2,3],none)) _ ?_);refine jr ad ?_
 exact aih s ar.one
def sQ (rows : List (List gq)) (m : Nat) : Bool := (rows.take 5).any (fun r => decide (30 < r.length)) || (decide (4 < rows.length) || decide (250 < m))
def YN (g bW : Nat) (rows : List (List gq)) (ps : List lI) (k : Nat) (S : ak) : Prop :=
 ∃ i : Nat,i ≤ rows.length ∧ i ≤ 5 ∧ k = 5 - i ∧ (∀ (j : Nat) (r : List gq),j < i → rows[j]? = some r → r.length ≤ 30) ∧ S = ⟨[(0,.au 1 g (rows.map wO)),(1,.au 3 bW (ps.map wQ)),(5,aG i)],[],0⟩
theorem Kf {rows : List (List gq)} {m i : Nat} (bM : i = rows.length ∨ i = 5) (aN : ∀ (j : Nat) (r : List gq),j < i → rows[j]? = some r → r.length ≤ 30) : sQ rows m = (decide (4 < rows.length) || decide (250 < m)) := by
 unfold sQ
 have : (rows.take 5).any (fun r => decide (30 < r.length)) = false := by
  rw [List.any_eq_false]
  intro r aA
  obtain ⟨j,kA,he⟩ := List.getElem_of_mem aA
  rw [List.getElem_take] at he
  simp only [List.length_take] at kA
  have := aN j r (by omega) (by rw [← he]; exact List.getElem?_eq_getElem _)
  simp; omega
 rw [this,Bool.false_or]
set_option maxHeartbeats 2000000 in
theorem ajK (g bW : Nat) (rows : List (List gq)) (ps : List lI) : cq 21 [.au 1 g (rows.map wO),.au 3 bW (ps.map wQ)] (eA (sQ rows ps.length)) := by
 refine df Tryz.func21 anv rfl ?_
 have Uo : decide ((250 : Int) < (ps.length : Int)) = decide (250 < ps.length) := by rw [decide_eq_decide]; omega
 unfold bK Wr Vj;delta ab a8 aa ay a3
 refine ae fun _ aK _ _ => ai fun _ aH => ?_;refine cE ?_;refine aH _ (aK (some ([0,1],none)) _ (ae fun _ aP bx _ => ae fun _ bI _ _ => ai fun _ b0 => ?_));refine cE ?_;refine b0 _ (bI (some ([0,1,5],none)) _ (cj fun _ _ lA c5 _ => ?_));refine ie (YN g bW rows ps) (5) (some ([0,1,5],none)) ([]) ?_ ?_
 ·try refine dR ?_
  exact ⟨0,by omega,by omega,rfl,fun j r h => absurd h (by omega),by rfl⟩
 ·intro k bT aW
  obtain ⟨i,aq,aqz,rfl,aN,rfl⟩ := aW
  have dZ : (i = rows.length ∧ 4 < rows.length) ∨ (i = rows.length ∧ rows.length ≤ 4) ∨ (i < rows.length ∧ i = 5) ∨ (∃ r,i < rows.length ∧ i < 5 ∧ rows[i]? = some r ∧ 30 < r.length) ∨ (∃ r,i < rows.length ∧ i < 5 ∧ rows[i]? = some r ∧ r.length ≤ 30) := by
   rcases Nat.lt_or_ge i rows.length with h | h
   ·by_cases bM : i = 5
    ·exact .inr (.inr (.inl ⟨h,bM⟩))
    ·have af := List.getElem?_eq_getElem h
     by_cases aj : 30 < rows[i].length
     ·exact .inr (.inr (.inr (.inl ⟨_,h,by omega,af,aj⟩)))
     ·exact .inr (.inr (.inr (.inr ⟨_,h,by omega,af,by omega⟩)))
   ·by_cases aY : 4 < rows.length
    ·exact .inl ⟨by omega,aY⟩
    ·exact .inr (.inl ⟨by omega,by omega⟩)
  intro _ cz ey fp
  rcases dZ with ⟨ea,aY⟩ | ⟨ea,aY⟩ | ⟨ea,Gh⟩ | ⟨r,ea,Gh,aA,Lf⟩ | ⟨r,ea,Gh,aA,Lf⟩
  ·skip
   have cn : ¬ (i : Int) < (rows.length : Int) := by omega
   have bf : sQ rows ps.length = true := by rw [Kf (.inl ea) aN]; simp [aY]
   have fH : (4 : Int) < (rows.length : Int) := by omega
   have ad := And.intro @cn (And.intro @fH @bf)
   refine ae fun _ _ _ gw => ae fun _ cR _ _ => ai fun _ cK => ?_;refine ag 4 ad ?_;refine ag 3 ad ?_;refine al ad ?_;refine cK _ (cR (some ([0,1,5,13],none)) _ (bs (gw 0 _ (fp 0 _ (lA _ (aP (some ([0,1],none)) _ (ae fun _ cr _ _ => ai fun _ cD => ?_)))))));refine ag 3 ad ?_;refine ag 4 ad ?_;refine al ad ?_;refine cD _ (cr (some ([4],none)) _ ?_)
   exact cQ ad
  ·skip
   have cn : ¬ (i : Int) < (rows.length : Int) := by omega
   have bf : sQ rows ps.length = decide (250 < ps.length) := by rw [Kf (.inl ea) aN]; simp; omega
   have fH : ¬ (4 : Int) < (rows.length : Int) := by omega
   have aD := And.intro @cn (And.intro @fH (And.intro @bf @Uo))
   refine ae fun _ _ _ ln => ae fun _ fx _ _ => ai fun _ eJ => ?_;refine ag 4 aD ?_;refine ag 3 aD ?_;refine al aD ?_;refine eJ _ (fx (some ([0,1,5,13],none)) _ (bs (ln 0 _ (fp 0 _ (lA _ (aP (some ([0,1],none)) _ (ae fun _ fF _ _ => ai fun _ eF => ?_)))))));refine ag 3 aD ?_;refine ag 4 aD ?_;refine al aD ?_;refine eF _ (fF (some ([4],none)) _ ?_)
   exact cQ aD
  ·skip
   have cn : (i : Int) < (rows.length : Int) := by omega
   have bf : sQ rows ps.length = true := by rw [Kf (.inr Gh) aN]; simp; omega
   have fH : (4 : Int) < (rows.length : Int) := by omega
   have iw : ¬ (i : Int) < 5 := by omega
   have bc := And.intro @cn (And.intro @fH (And.intro @iw @bf))
   refine ae fun _ _ _ vd => ae fun _ hJ _ _ => ai fun _ hX => ?_;refine ag 4 bc ?_;refine ag 3 bc ?_;refine al bc ?_;refine hX _ (hJ (some ([0,1,5,13],none)) _ (bs (vd 0 _ (fp 0 _ (lA _ (aP (some ([0,1],none)) _ (ae fun _ hK _ _ => ai fun _ gf => ?_)))))));refine ag 3 bc ?_;refine ag 4 bc ?_;refine al bc ?_;refine gf _ (hK (some ([4],none)) _ ?_)
   exact cQ bc
  ·skip
   have cn : (i : Int) < (rows.length : Int) := by omega
   have iw : (i : Int) < 5 := by omega
   have bf : sQ rows ps.length = true := by
    unfold sQ
    have : (rows.take 5).any (fun r => decide (30 < r.length)) = true := by
     rw [List.any_eq_true]
     refine ⟨r,List.mem_of_getElem? (i := i) ?_,by simpa using Lf⟩
     rw [List.getElem?_take,if_pos Gh]; exact aA
    rw [this,Bool.true_or]
   have fH : (30 : Int) < (r.length : Int) := by omega
   have bt := And.intro @cn (And.intro @fH (And.intro @iw (And.intro @bf @aA)))
   refine ae fun _ iu _ _ => ae fun _ iP _ _ => ai fun _ gD => ?_;refine ag 4 bt ?_;refine ag 3 bt ?_;refine al bt ?_;refine gD _ (iP (some ([0,1,5,13],none)) _ (bU (iu (some ([0,1,5],none)) _ (ae fun _ _ ag2 _ => cj fun _ _ _ ag3 _ => ae fun _ mv _ _ => ai fun _ hY => ?_))));refine ag 3 bt ?_;refine ag 1 bt ?_;refine aS bt ?_;refine hY _ (mv (some ([0,1,5,21],none)) _ (bU (ae fun _ rf _ _ => ai fun _ mr => ?_)));refine al bt ?_;refine mr _ (rf (some ([4],none)) _ (ag3 _ (ag2 _ (ey _ (c5 _ (bx _ ?_))))))
   exact cQ bt
  ·skip
   have cn : (i : Int) < (rows.length : Int) := by omega
   have iw : (i : Int) < 5 := by omega
   have fH : ¬ (30 : Int) < (r.length : Int) := by omega
   have dM : IntKind.i64.wrap ((i : Int) + 1) = ((i + 1 : Nat) : Int) := by rw [IntKind.wrap_i64]; omega
   have bB := And.intro @cn (And.intro @dM (And.intro @fH (And.intro @iw @aA)))
   refine ae fun _ pP _ _ => ae fun _ kD _ _ => ai fun _ lq => ?_;refine ag 4 bB ?_;refine ag 3 bB ?_;refine al bB ?_;refine lq _ (kD (some ([0,1,5,13],none)) _ (bU (pP (some ([0,1,5],none)) _ (ae fun _ pQ _ _ => cj fun _ ox _ _ _ => ae fun _ pR _ _ => ai fun _ pL => ?_))));refine ag 3 bB ?_;refine ag 1 bB ?_;refine aS bB ?_;refine pL _ (pR (some ([0,1,5,21],none)) _ (bs (ox _ (pQ (some ([0,1,5],none)) _ (ai fun _ jV => ?_)))));refine ag 2 bB ?_;refine al bB ?_;refine jV _ ?_;refine cz (5 - (i + 1)) (some ([0,1,5],none)) _ ?_ ?_
   all_goals try refine dR ?_
   ·omega
   ·refine ⟨i + 1,by omega,by omega,rfl,fun j h7 h e6 => ?_,rfl⟩
    by_cases e : j = i
    ·subst e; rw [aA] at e6; cases e6; exact Lf
    ·exact aN j h7 (by omega) e6
def zj (S : List cO) (i : Nat) (c : Nat) : Prop := ∃ (j : Nat) (s : cO),j < i ∧ S[j]? = some s ∧ c ∈ s.has
def n1 (B : Nat) (P : Nat → Prop) (all : List Nat) : Prop := ∃ U : Nat → Bool,all = (List.range B).filter U ∧ ∀ c,c < B → (U c = true ↔ P c)
theorem n1.nil {B : Nat} {P : Nat → Prop} (h : ∀ c,¬ P c) : n1 B P [] := ⟨fun _ => false,(List.filter_eq_nil_iff.2 fun _ _ => by simp).symm,fun c _ => ⟨fun h => (by cases h),fun hp => absurd hp (h c)⟩⟩
theorem n1.put {B b : Nat} {P Q : Nat → Prop} {all : List Nat} (h : n1 B P all) (aI : b < B) (kv : ∀ c,Q c ↔ P c ∨ c = b) : n1 B Q (gT all b false) := by
 obtain ⟨U,rfl,kf⟩ := h
 refine ⟨_,O1 U aI,fun c aB => ?_⟩
 rw [Bool.or_eq_true,decide_eq_true_eq,kf c aB,kv]
 constructor
 ·rintro (h | h)
  ·exact .inl h
  ·exact .inr h.symm
 ·rintro (h | h)
  ·exact .inl h
  ·exact .inr h.symm
theorem n1.imp {B : Nat} {P Q : Nat → Prop} {all : List Nat} (h : n1 B P all) (kv : ∀ c,Q c ↔ P c) : n1 B Q all := by
 obtain ⟨U,af,aj⟩ := h
 exact ⟨U,af,fun c aB => by rw [aj c aB,kv]⟩
theorem n1.len {B : Nat} {P : Nat → Prop} {all : List Nat} (h : n1 B P all) : all.length ≤ B := by
 obtain ⟨U,rfl,_⟩ := h
 exact Nat.le_trans (List.length_filter_le _ _) (by simp)
theorem n1.no {B b : Nat} {P : Nat → Prop} {all : List Nat} (h : n1 B P all) (aI : b < B) (hp : ¬ P b) : all.contains b = false := by
 obtain ⟨U,rfl,aj⟩ := h
 rw [QK U aI]
 cases kf : U b
 ·rfl
 ·exact absurd ((aj b aI).1 kf) hp
theorem m4.ak1 {l : b1} {has : List Nat} (h : m4 l has) : has.Pairwise (· < ·) := by
 obtain ⟨U,rfl⟩ := h
 exact List.Pairwise.filter _ List.pairwise_lt_range
def tm (S : List cO) (i : Nat) (s : cO) (m : Nat) (c : Nat) : Prop := zj S i c ∨ ∃ k,k < m ∧ s.has[k]? = some c
theorem Ue {S : List cO} {i : Nat} {s : cO} (c : Nat) : tm S i s 0 c ↔ zj S i c := by
 unfold tm
 constructor
 ·rintro (h | ⟨k,az,_⟩)
  ·exact h
  ·omega
 ·exact .inl
theorem Ud {S : List cO} {i m b : Nat} {s : cO} (aI : s.has[m]? = some b) (c : Nat) : tm S i s (m + 1) c ↔ tm S i s m c ∨ c = b := by
 unfold tm
 constructor
 ·rintro (h | ⟨k,az,he⟩)
  ·exact .inl (.inl h)
  ·by_cases e : k = m
   ·subst e; rw [aI] at he; exact .inr (Option.some.inj he).symm
   ·exact .inl (.inr ⟨k,by omega,he⟩)
 ·rintro ((h | ⟨k,az,he⟩) | h)
  ·exact .inl h
  ·exact .inr ⟨k,by omega,he⟩
  ·subst h; exact .inr ⟨m,by omega,aI⟩
theorem Uc {S : List cO} {i : Nat} {s : cO} (ao : S[i]? = some s) (c : Nat) : zj S (i + 1) c ↔ tm S i s s.has.length c := by
 unfold tm zj
 constructor
 ·rintro ⟨j,t,aN,aL,aB⟩
  by_cases e : j = i
  ·subst e; rw [ao] at aL; cases aL
   obtain ⟨k,az,he⟩ := List.getElem_of_mem aB
   exact .inr ⟨k,az,by rw [List.getElem?_eq_getElem az,he]⟩
  ·exact .inl ⟨j,t,by omega,aL,aB⟩
 ·rintro (⟨j,t,aN,aL,aB⟩ | ⟨k,_,he⟩)
  ·exact ⟨j,t,by omega,aL,aB⟩
  ·exact ⟨i,s,by omega,ao,List.mem_of_getElem? he⟩
theorem akr {N : Nat} {l : b1} {f0 : Int → bm} {w : cN ft} {S : List cO} (h : mJ N l f0 w S) {i m b : Nat} {s : cO} (ao : S[i]? = some s) (At : s.has.Pairwise (· < ·)) (aI : s.has[m]? = some b) : ¬ tm S i s m b := by
 rintro (⟨j,t,aN,aL,aB⟩ | ⟨k,az,he⟩)
 ·exact h.apart j i t s (by omega) aL ao b (.inl aB) (.inl (List.mem_of_getElem? aI))
 ·obtain ⟨af,aj⟩ := List.getElem?_eq_some_iff.1 he
  obtain ⟨av,aY⟩ := List.getElem?_eq_some_iff.1 aI
  have := List.pairwise_iff_getElem.1 At k m af av az
  omega
structure Pb (l : b1) (w : cN ft) (S : List cO) (N : Nat) : Prop where
 len : w.tasks.length = S.length
 oT : w.tasks.length ≤ 8
 get : ∀ (i : Nat) (y : dt ft),w.tasks[i]? = some y → ∃ s L,S[i]? = some s ∧ y.code = some (s,L) ∧ s.l = l ∧ m4 l s.has ∧ (∀ (m b : Nat),s.has[m]? = some b → ¬ tm S i s m b ∧ eg l (dx w.m) b = true)
 words : p5 w.m = iy N (dx w.m)
theorem mJ.E6 {N n : Nat} {l : b1} {f0 : Int → bm} {w : cN ft} {S : List cO} (h : mJ N l f0 w S) (a9 : iW w n) : Pb l w S N := by
 refine ⟨h.len,Eo a9,fun i y aV => ?_,?_⟩
 ·obtain ⟨s,ao,eE⟩ := h.get aV
  obtain ⟨L,aB⟩ := eE.code
  have az := h.jB a9 aV eE
  have cy := az.has
  rw [eE.lay] at cy
  refine ⟨s,L,ao,aB,eE.lay,cy,fun m b aI => ⟨akr h ao cy.ak1 aI,?_⟩⟩
  have := cy.lt (List.mem_of_getElem? aI)
  exact (h.used b (by omega)).2 ⟨i,s,ao,.inl (List.mem_of_getElem? aI)⟩
 ·unfold p5 iy
  rw [h.pl]
def Yn (B : Nat) (w : cN ft) (S : List cO) (k : Nat) (I1 : ak) : Prop :=
 ∃ (i : Nat) (all : List Nat),i ≤ w.tasks.length ∧ k = w.tasks.length - i ∧ n1 B (zj S i) all ∧ I1 = ⟨[(1,.ptr 0 0 0),(3,.au 1 0 (all.map hq)),(4,aG i)],[(0,.box 63 (tL w))],1⟩
def Yp (B : Nat) (w : cN ft) (S : List cO) (i : Nat) (s : cO) (us : List Nat) (k : Nat) (I1 : ak) : Prop :=
 ∃ (m : Nat) (all : List Nat),m ≤ s.has.length ∧ k = s.has.length - m ∧ n1 B (tm S i s m) all ∧ I1 = ⟨[(1,.ptr 0 0 0),(3,.au 1 0 (all.map hq)),(4,aG i),(5,.ptr 1 0 0),(7,.au 1 0 (us.map hq)),(8,aG m)],[(0,.box 63 (tL w)),(1,.box 72 (pr s .any))],2⟩
set_option maxHeartbeats 8000000 in
set_option maxRecDepth 20000 in
theorem TT {l : b1} (aE : e4 l = 0) {w : cN ft} {S : List cO} {N n : Nat} (br : Pb l w S N) (dy : dm l 7 ≤ (N : Int)) (Kr : N ≤ 4096) (a9 : iW w n) (cR : n ≤ 900) : cq 25 [od w] (eA true) := by
 refine df Tryz.func25 ans rfl ?_
 have fo := pa ft
 have CV := (kb aE).1.2.2
 have Dv : cq 23 [lS w.m] (.au 3 0 ((iy N (dx w.m)).map c6)) := by
  rw [← br.words]
  refine Hh _ a9.pU.mem ?_
  omega
 have xo := MF aE 0 (iy N (dx w.m)) (by rw [v3]; exact dy)
 rw [XC aE dy] at xo
 have aqv := br.oT
 unfold bK Wo Vg;delta ab aQ a8 aa ay a3
 have ad := @fo
 refine ae fun _ aK _ _ => ai fun _ aH => ?_;refine al ad ?_;refine aH _ (aK (some ([1],none)) _ (ae fun _ aP _ _ => ai fun _ bk => ?_));refine al ad ?_;refine bk _ (aP (some ([1,3],none)) _ (ae fun _ bV _ _ => ae fun _ bp _ _ => ai fun _ bE => ?_));refine al ad ?_;refine bE _ (bp (some ([1,3,4],none)) _ (cj fun _ _ vD _ _ => ?_));refine ie (Yn l.blocks.toNat w S) (w.tasks.length) (some ([1,3,4],some ([0],1))) ([.slot 3 none 1]) ?_ ?_
 ·try refine dR ?_
  exact ⟨0,[],by omega,by omega,.nil fun c ⟨j,_,aN,_⟩ => absurd aN (by omega),by rfl⟩
 ·intro k bT aW
  obtain ⟨i,all,aq,rfl,ec,rfl⟩ := aW
  have dZ : i = w.tasks.length ∨ ∃ y,i < w.tasks.length ∧ w.tasks[i]? = some y := by
   rcases Nat.lt_or_ge i w.tasks.length with h | h
   ·exact .inr ⟨_,h,List.getElem?_eq_getElem h⟩
   ·exact .inl (by omega)
  intro _ cR _ gQ
  rcases dZ with ea | ⟨y,ea,aV⟩
  ·skip
   have cn : ¬ (i : Int) < (w.tasks.length : Int) := by omega
   have aD := And.intro ad @cn
   refine ae fun _ _ _ jb => ae fun _ cr _ _ => ai fun _ cD => ?_;refine ag 3 aD ?_;refine aS aD ?_;refine cD _ (cr (some ([1,3,4,13],none)) _ (bs (jb 0 _ (gQ 0 _ (vD _ (bV (some ([],none)) _ (ae fun _ dF _ _ => ai fun _ dq => ?_)))))));refine al aD ?_;refine dq _ (dF (some ([2],none)) _ ?_)
   exact cQ aD
  ·skip
   have cn : (i : Int) < (w.tasks.length : Int) := by omega
   have dM : IntKind.i64.wrap ((i : Int) + 1) = ((i + 1 : Nat) : Int) := by rw [IntKind.wrap_i64]; omega
   obtain ⟨s,L,ao,aB,lz,cy,jc⟩ := br.get i y aV
   have Du := TV y aB
   have SK := xo
   rw [← lz] at SK
   have bc := And.intro ad (And.intro @cn (And.intro @dM (And.intro @ea @aV)))
   refine ae fun _ gl _ _ => ae fun _ fF _ _ => ai fun _ eF => ?_;refine ag 3 bc ?_;refine aS bc ?_;refine eF _ (fF (some ([1,3,4,13],none)) _ (bU (gl (some ([1,3,4],none)) _ (ae fun _ hM _ _ => cj fun _ hJ _ _ _ => ae fun _ hZ _ _ => ai fun _ hh => ?_))));refine ag 2 bc ?_;refine ag 2 bc ?_;refine ag 1 bc ?_;refine aM 1 bc ?_;refine Or.inl (Or.inl ⟨_,Du,?_⟩);refine ag 5 bc ?_;refine al bc ?_;refine hh _ (hZ (some ([1,3,4,5,6],none)) _ (ae fun _ lu _ _ => ae fun _ iu _ _ => ai fun _ iq => ?_));refine al bc ?_;refine iq _ (iu (some ([1,3,4,5,26],none)) _ (bs (lu (some ([1,3,4,5],none)) _ (ae fun _ ns _ _ => ?_))));refine gh [] (n := 5) fun _ ir => ?_;refine gY ?_;refine cF 2 bc ?_;refine cF 2 bc ?_
   refine lh bc ?_;refine ⟨_,Dv,?_⟩;refine ir _ ?_;refine gZ ?_;refine aM 1 bc ?_;refine Or.inl (Or.inl ⟨_,SK,?_⟩);refine al bc ?_;refine ns (some ([1,3,4,5,7],none)) _ (ae fun _ mv _ _ => ai fun _ hY => ?_);refine al bc ?_;refine hY _ (mv (some ([1,3,4,5,7,8],none)) _ (cj fun _ _ ahu _ _ => ?_));refine ie (Yp l.blocks.toNat w S i s (p3 l (dx w.m))) (s.has.length) (some ([1,3,4,5,7,8],some ([0,1],2))) ([]) ?_ ?_
   ·try refine dR ?_
    exact ⟨0,all,by omega,by omega,ec.imp Ue,by rw [← lz]; rfl⟩
   ·intro k bT aW
    obtain ⟨m,zY,hm,rfl,wZ,rfl⟩ := aW
    have CF := cy.len
    have dZ : m = s.has.length ∨ ∃ b,m < s.has.length ∧ s.has[m]? = some b := by
     rcases Nat.lt_or_ge m s.has.length with h | h
     ·exact .inr ⟨_,h,List.getElem?_eq_getElem h⟩
     ·exact .inl (by omega)
    intro _ mw _ afP
    rcases dZ with pI | ⟨b,pI,aI⟩
    ·skip
     have v2 : ¬ (m : Int) < (s.has.length : Int) := by omega
     have bt := And.intro bc @v2
     refine ae fun _ _ _ KK => ae fun _ kD _ _ => ai fun _ lq => ?_;refine ag 3 bt ?_;refine aS bt ?_;refine lq _ (kD (some ([1,3,4,5,7,8,37],none)) _ (bs (KK 2 _ (afP 2 _ (ahu _ (hJ _ (hM (some ([1,3,4],none)) _ (ai fun _ nj => ?_))))))));refine ag 2 bt ?_;refine al bt ?_;refine nj _ ?_;refine cR (w.tasks.length - (i + 1)) (some ([1,3,4],some ([0],1))) _ ?_ ?_
     all_goals try refine dR ?_
     ·omega
     ·exact ⟨i + 1,zY,by omega,rfl,wZ.imp (by rw [pI]; exact Uc ao),rfl⟩
    ·skip
     have v2 : (m : Int) < (s.has.length : Int) := by omega
     have oL : IntKind.i64.wrap ((m : Int) + 1) = ((m + 1 : Nat) : Int) := by rw [IntKind.wrap_i64]; omega
     have r0 := cy.lt (List.mem_of_getElem? aI)
     obtain ⟨kh,ahl⟩ := jc m b aI
     have Ku := wZ.len
     have SH := T7 0 zY b (by omega)
     rw [wZ.no r0 kh] at SH
     have SI := T7 0 (p3 l (dx w.m)) b (by have := XB l (dx w.m); omega)
     rw [aok _ r0,ahl] at SI
     have L8 := MN 0 zY b (by omega)
     have bB := And.intro bc (And.intro @v2 (And.intro @oL (And.intro @pI @aI)))
     refine ae fun _ ox _ _ => ae fun _ pR _ _ => ai fun _ pL => ?_;refine ag 3 bB ?_;refine aS bB ?_;refine pL _ (pR (some ([1,3,4,5,7,8,37],none)) _ (bU (ox (some ([1,3,4,5,7,8],none)) _ (ae fun _ yK _ _ => cj fun _ ri _ _ _ => ae fun _ s3 _ _ => ae fun _ vo _ _ => ai fun _ sW => ?_))));refine ag 3 bB ?_;refine ag 2 bB ?_;refine ag 1 bB ?_;refine aM 1 bB ?_;refine Or.inl (Or.inl ⟨_,SH,?_⟩);refine ag 4 bB ?_;refine ag 2 bB ?_;refine ag 1 bB ?_;refine aM 1 bB ?_;refine Or.inl (Or.inl ⟨_,SI,?_⟩);refine al bB ?_;refine sW _ (vo (some ([1,3,4,5,7,8,56],none)) _ (bs (s3 (some ([1,3,4,5,7,8],none)) _ (ai fun _ oY => ?_))));refine ag 3 bB ?_;refine ag 2 bB ?_;refine ag 1 bB ?_;refine aM 1 bB ?_;refine Or.inl (Or.inl ⟨_,L8,?_⟩)
     refine al bB ?_;refine oY _ (ri _ (yK (some ([1,3,4,5,7,8],none)) _ (ai fun _ q8 => ?_)));refine ag 2 bB ?_;refine al bB ?_;refine q8 _ ?_;refine mw (s.has.length - (m + 1)) (some ([1,3,4,5,7,8],some ([0,1],2))) _ ?_ ?_
     all_goals try refine dR ?_
     ·omega
     ·exact ⟨m + 1,_,by omega,rfl,wZ.put r0 (Ud aI),rfl⟩
end Go.Proofs.YtkmbcjnaaokilaaGreatDoor
