/-
  Layer 2 by shadows: views.
-/
import Derived.Test.YtkmbcjnaaokilaaGreatDoorSc4
import Derived.Test.YtkmbcjnaaokilaaGreatDoorMC
import Derived.Test.YtkmbcjnaaokilaaGreatDoorMA
namespace Go.Proofs.YtkmbcjnaaokilaaGreatDoor
set_option linter.unusedSimpArgs false
set_option linter.unusedVariables false
open Go.RowKit Go.Maps
abbrev hS := Int → Option Int
abbrev DG (f : hS) : av := .mp 76 fun k => (f k).map aI
abbrev sO (f : hS) : av := .agg [DG f]
def gl (f : hS) (k : Int) : Int := (f k).getD 0
structure mw (f : hS) : Prop where
 key : ∀ k,f k ≠ none → 0 ≤ k ∧ k < 4096
 pos : ∀ k n,f k = some n → 0 < n
def Db (k : Int) : Prop := -9223372036854775808 ≤ k ∧ k ≤ 9223372036854775807
def l5 (f : hS) (l n : Int) : hS := if l < 0 ∨ 4096 ≤ l ∨ n ≤ gl f l then f else fun k => if k = l then some n else f k
open Classical in
noncomputable def tj (a b : hS) : hS := if ∀ i,b i = none then a else fun k => match a k with | some n => some (max (gl b k) n) | none => b k
theorem zw (f : hS) (l n k : Int) (bb : 0 ≤ l) (af : l < 4096) : gl (l5 f l n) k = if k = l then max (gl f l) n else gl f k := by
 unfold l5
 by_cases a7 : n ≤ gl f l
 ·rw [if_pos (.inr (.inr a7))]
  split
  ·rename_i e; subst e; omega
  ·rfl
 ·rw [if_neg (by omega)]
  unfold gl at a7 ⊢
  by_cases e : k = l
  ·subst e; simp; omega
  ·simp [e]
theorem L8 {f : hS} (h : mw f) (k : Int) : 0 ≤ gl f k := by
 unfold gl
 cases e : f k with
 | none => simp
 | some n => have := h.pos k n e; simp; omega
theorem akH {a b : hS} (aZ : mw a) (aJ : mw b) (k : Int) : gl (tj a b) k = max (gl a k) (gl b k) := by
 unfold tj
 split
 ·rename_i h
  have bb := L8 aZ k
  have : gl b k = 0 := by simp [gl,h k]
  omega
 ·have bb := L8 aJ k
  cases e : a k with
  | none => simp [gl,e] at bb ⊢; omega
  | some n => simp [gl,e]; omega
theorem wb : mw fun _ => none := ⟨fun k h => absurd rfl h,fun k n h => by cases h⟩
theorem x0 {f : hS} (h : mw f) (l n : Int) : mw (l5 f l n) := by
 unfold l5
 split
 ·exact h
 ·rename_i az
  have bb := L8 h l
  refine ⟨fun k aB => ?_,fun k m hm => ?_⟩
  ·by_cases e : k = l
   ·omega
   ·simp only [if_neg e] at aB; exact h.key k aB
  ·by_cases e : k = l
   ·simp only [if_pos e,Option.some.injEq] at hm; omega
   ·simp only [if_neg e] at hm; exact h.pos k m hm
theorem akI {a b : hS} (aZ : mw a) (aJ : mw b) : mw (tj a b) := by
 unfold tj
 split
 ·exact aZ
 ·refine ⟨fun k aB => ?_,fun k m hm => ?_⟩
  ·cases e : a k with
   | none => simp only [e] at aB; exact aJ.key k aB
   | some n => exact aZ.key k (by rw [e]; simp)
  ·cases e : a k with
   | none => simp only [e] at hm; exact aJ.pos k m hm
   | some n =>
    simp only [e,Option.some.injEq] at hm
    have := aZ.pos k n e
    omega
theorem Qb (f : Int → Option av) (aW : ∀ k,f k ≠ none → 0 ≤ k ∧ k < 4096) : zY 123 [.mp 76 f] 76 4096 f := by
 intro w H vs ao bj
 cases bj with
 | cons ar aO =>
  cases aO
  cases ar with
  | mR bb =>
   refine Calls.mono (ZZ w) ?_
   rintro fw w' ⟨rfl,rfl⟩
   exact ⟨_,rfl,Grow.refl ao,.inl ⟨rfl,bb⟩⟩
  | @mp _ _ _ b o M F aJ hm dS aq ax =>
   obtain ⟨D,⟨es,clock,rfl,_⟩,_⟩ := hm
   refine Calls.mono (Z0 b es clock w (ao b _ aJ)) ?_
   rintro fw w' ⟨rfl,rfl⟩
   refine ⟨_,rfl,(Grow.refl ao).alloc _,.inr ⟨w.heap.size,_,F,rfl,Nat.le_refl _,heap_alloc_new w _,hR.tight (n := M) ⟨D,⟨es,clock,rfl,‹_›⟩,‹_›⟩ Tryz.underlying76 4096 (fun k aB => aW k (fun e => by rw [(aq k).1 e] at aB; cases aB)),by omega,aq,ax⟩⟩
theorem DI {t k e : TypeId} (h : Tryz.prog.underlying t = some (.map k e)) : sA t (.v (.map none)) (.v (.map none)) true := by
 intro H E w l4 iD eX eI ao af aj
 cases af; cases aj
 have aS := run_eql_map_nil_sl (P := Tryz.prog) w t k e none h
 refine ⟨by simpa [eqGuard] using aS,?_⟩
 simp only [binOp,Sem.run_bind] at aS
 cases ax : Sem.run Tryz.prog (Op.equal t (.map none) (.map none)) w with
 | ok v fh =>
  rw [ax] at aS
  simp at aS
  obtain ⟨rfl,rfl⟩ := aS
  simp [eqGuard,binOp,ax]
 | halt x fh => rw [ax] at aS; simp at aS
theorem Uq {f : hS} (aW : mw f) : ∀ k,(f k).map aI ≠ none → 0 ≤ k ∧ k < 4096 := fun k aB => aW.key k (fun e => aB (by rw [e]; rfl))
theorem agJ (f : hS) (k : Int) (aB : Db k) : cu 121 [sO f,aI k] (aI (gl f k)) := by
 obtain ⟨cy,k2⟩ := aB
 refine df Tryz.func121 akA rfl ?_
 unfold bJ TL SC;delta ab aa aA
 have ad := And.intro @EZ (And.intro @cy @k2)
 refine ae fun _ aK _ _ => ai fun _ aG => ?_;refine an ad ?_;refine aG _ (aK (some ([1,2],none)) _ (ae fun _ aQ _ _ => ai fun _ bh => ?_));refine ag 2 ad ?_;refine ag 2 ad ?_;refine an ad ?_;refine bh _ (aQ (some ([4],none)) _ ?_);refine jc ad ?_
 rfl
theorem Uy (f : hS) (l n : Int) (A : Int → Option av) (h : ∀ k,A k = (f k).map aI) (az : ¬ (l < 0 ∨ 4096 ≤ l ∨ n ≤ gl f l)) :
  av.agg [.mp 76 fun j => if j = l then some (.v (.int .i64 n)) else A j] = sO (l5 f l n) := by
 obtain rfl : A = fun k => (f k).map aI := funext h
 unfold l5
 rw [if_neg az]
 simp only [sO,DG]
 congr 3
 funext k
 by_cases e : k = l <;> simp [e]
theorem Kh (f : hS) (l n : Int) (aW : mw f) (aF : Db l) : cu 115 [sO f,aI l,aI n] (sO (l5 f l n)) := by
 obtain ⟨cy,k2⟩ := aF
 have ao := Uq aW
 by_cases af : l < 0
 ·have e : l5 f l n = f := if_pos (.inl af)
  rw [e]
  refine df Tryz.func115 Ga rfl ?_
  unfold bJ Cr Ck;delta ab aR a9 aa aA a6
  have ad := @af
  refine ae fun bz aK b6 cb => ai fun b7 aG => ?_;refine an ad ?_;refine aG _ (aK (some ([1,2,3,6],none)) _ (ae fun b8 aQ bt b5 => ae fun b9 bG c7 dF => ai fun cD bZ => ?_));refine ag 2 ad ?_;refine ag 3 ad ?_;refine ag 5 ad ?_;refine ag 2 ad ?_;refine ag 1 ad ?_;refine an ad ?_;refine bZ _ (bG (some ([1,2,3,6,21],none)) _ (bY (ae fun cv bp cY dk => ai fun cC bD => ?_)));refine ag 1 ad ?_;refine aU ad ?_;refine bD _ (bp (some ([6],none)) _ (bt _ ?_))
  exact cO ad
 by_cases aj : 4096 ≤ l
 ·have e : l5 f l n = f := if_pos (.inr (.inl aj))
  rw [e]
  refine df Tryz.func115 Ga rfl ?_
  unfold bJ Cr Ck;delta ab aR a9 aa aA a6
  have ad := And.intro @af @aj
  refine ae fun bz aK b6 cb => ai fun b7 aG => ?_;refine an ad ?_;refine aG _ (aK (some ([1,2,3,6],none)) _ (ae fun b8 aQ bt b5 => ae fun b9 bG c7 dF => ai fun cD bZ => ?_));refine ag 2 ad ?_;refine ag 3 ad ?_;refine ag 5 ad ?_;refine ag 2 ad ?_;refine ag 1 ad ?_;refine an ad ?_;refine bZ _ (bG (some ([1,2,3,6,21],none)) _ (bY (ae fun cv bp cY dk => ai fun cC bD => ?_)));refine ag 1 ad ?_;refine aU ad ?_;refine bD _ (bp (some ([6],none)) _ (bt _ ?_))
  exact cO ad
 by_cases aw : n ≤ (f l).getD 0
 ·have e : l5 f l n = f := if_pos (.inr (.inr aw))
  rw [e]
  refine df Tryz.func115 Ga rfl ?_
  unfold bJ Cr Ck;delta ab aR a9 aa aA a6
  have ad := And.intro @af (And.intro @aj (And.intro @EZ (And.intro @cy (And.intro @k2 @aw))))
  refine ae fun bz aK b6 cb => ai fun b7 aG => ?_;refine an ad ?_;refine aG _ (aK (some ([1,2,3,6],none)) _ (ae fun b8 aQ bt b5 => ae fun b9 bG c7 dF => ai fun cD bZ => ?_));refine ag 2 ad ?_;refine ag 3 ad ?_;refine ag 5 ad ?_;refine ag 2 ad ?_;refine ag 1 ad ?_;refine an ad ?_;refine bZ _ (bG (some ([1,2,3,6,21],none)) _ (bY (ae fun cv bp cY dk => ai fun cC bD => ?_)));refine ag 1 ad ?_;refine aU ad ?_;refine bD _ (bp (some ([6],none)) _ (bt _ ?_))
  exact cO ad
 have az : ¬ (l < 0 ∨ 4096 ≤ l ∨ n ≤ gl f l) := by unfold gl; omega
 refine df Tryz.func115 Ga rfl ?_
 unfold bJ Cr Ck;delta ab aR a9 aa aA a6
 have ad := And.intro @af (And.intro @aj (And.intro @EZ (And.intro @cy (And.intro @k2 @aw))))
 refine ae fun bz aK b6 cb => ai fun b7 aG => ?_;refine an ad ?_;refine aG _ (aK (some ([1,2,3,6],none)) _ (ae fun b8 aQ bt b5 => ae fun b9 bG c7 dF => ai fun cD bZ => ?_));refine ag 2 ad ?_;refine ag 3 ad ?_;refine ag 5 ad ?_;refine ag 2 ad ?_;refine ag 1 ad ?_;refine an ad ?_;refine bZ _ (bG (some ([1,2,3,6,21],none)) _ (bB (aQ (some ([1,2,3,6],none)) _ (ae fun cv bp cY dk => ai fun cC bD => ?_))));refine ag 2 ad ?_;refine aL 1 ad ?_;refine Or.inl (Or.inr (Or.inr ⟨_,_,_,Qb _ ao,?_,fun Ep => ?_⟩))
 ·skip
  refine an ad ?_;refine bD _ (bp (some ([1,2,6,7],none)) _ (ae fun _ ck _ _ => ae fun _ cN _ _ => ai fun _ cF => ?_));refine aL 1 ad ?_;refine an ad ?_;refine Or.inr ⟨⟨_,_,Tryz.underlying155⟩,?_⟩;refine cF _ (cN (some ([1,2,6,7,27],none)) _ ?_);refine mb rfl (fun ar => absurd ar (by cases ar)) (fun mE => ?_)
  clear mE
  refine ck (some ([1,2,6,7],none)) _ (ae fun _ ct _ _ => ai fun _ cG => ?_);refine aU ad ?_;refine Or.inl ?_;refine cG _ (ct (some ([6,7],none)) _ (ae fun _ dJ _ _ => ai fun _ dt => ?_));refine aU ad ?_;refine dt _ (dJ (some ([6],none)) _ ?_);refine jc ad ?_
  exact Uy f l n _ (fun k => by first | rfl | exact (Ep k).symm) az
 ·skip
  refine an ad ?_;refine bD _ (bp (some ([1,2,6,7],none)) _ (ae fun _ gK _ _ => ae fun _ fy _ _ => ai fun _ eV => ?_));refine aL 1 ad ?_;refine an ad ?_;refine Or.inl ⟨_,DI Tryz.underlying155,?_⟩;refine eV _ (fy (some ([1,2,6,7,27],none)) _ ?_);refine mb rfl (fun mE => ?_) (fun ar => absurd ar (by cases ar))
  clear mE
  refine ai fun _ hs => ?_;refine an ad ?_;refine hs _ (gK (some ([1,2,6,7],none)) _ (ae fun _ h4 _ _ => ai fun _ hJ => ?_));refine aU ad ?_;refine Or.inl ?_;refine hJ _ (h4 (some ([6,7],none)) _ (ae fun _ h5 _ _ => ai fun _ gr => ?_));refine aU ad ?_;refine gr _ (h5 (some ([6],none)) _ ?_);refine jc ad ?_
  exact Uy f l n _ (fun k => by first | rfl | exact (Ep k).symm) az
def pq (a b : hS) (left : Int → Bool) : hS := fun k => if left k = true then b k else match a k with | some n => some (max (gl b k) n) | none => b k
def Vs (a b : hS) (k : Nat) (S : ak) : Prop :=
 ∃ left cur,(∀ j,left j = true → (a j).isSome = true) ∧ S = ⟨[(4,.ptr 0 0 0),(5,.own 1),(18,.own 2)],
  [(0,.box 157 [.mp 76 fun _ => none]),(1,.map 76 4096 fun k => (pq a b left k).map aI),(2,.iter (fun k => (a k).map aI) left k cur)],3⟩
theorem aeq {a b : hS} {left : Int → Bool} {j n : Int} (aM : left j = true) (aZ : a j = some n) : (fun k => (pq a b (fun z => left z && z != j) k).map aI) = fun k => if k = j then some (.v (.int .i64 (max ((b j).getD 0) n))) else (pq a b left k).map aI := by
 funext k
 by_cases e : k = j
 ·subst e; simp [pq,aZ,gl]
 ·simp [pq,e]
set_option maxHeartbeats 2000000 in
theorem agK (a b : hS) (aZ : mw a) (aJ : mw b) : cu 125 [sO a,sO b] (sO (tj a b)) := by
 by_cases bb : ∀ i,b i = none
 ·have e : tj a b = a := if_pos bb
  rw [e]
  refine df Tryz.func125 Ul rfl ?_
  have bO : ∀ i,(b i).map aI = none := fun i => by rw [bb i]; rfl
  unfold bJ LG Lb;delta ab aR aa aA
  refine ae fun bz aK b6 cb => ai fun b7 aG => ?_;refine cz ?_;refine aG _ (aK (some ([2,3,4],none)) _ (ae fun b8 aQ bt b5 => ae fun b9 bG c7 dF => ai fun cD bZ => ?_));refine cV 2 ?_;refine eu 1 ?_;refine ⟨fun w5 => ?_,fun afk Es w5 => absurd w5 (by intro ⟨i,aq⟩; exact aq (bO i))⟩;refine mW ?_;refine bZ _ (bG (some ([2,3,4,11],none)) _ (bY (ae fun cv bp cY dk => ai fun cC bD => ?_)));refine cV 1 ?_;refine mW ?_;refine bD _ (bp (some ([4],none)) _ (bt _ ?_))
  exact jb
 have e : tj a b = fun k => match a k with | some n => some (max (gl b k) n) | none => b k := if_neg bb
 have dd : ¬ ∀ i,(b i).map aI = none := fun h => bb fun i => by have := h i; cases e : b i with | none => rfl | some v => rw [e] at this; cases this
 rw [e]
 refine df Tryz.func125 Ul rfl ?_
 have ao := Uq aJ
 unfold bJ LG Lb;delta ab aR aa aA
 refine ae fun bz aK b6 cb => ai fun b7 aG => ?_;refine cz ?_;refine aG _ (aK (some ([2,3,4],none)) _ (ae fun b8 aQ bt b5 => ae fun b9 bG c7 dF => ai fun cD bZ => ?_));refine cV 2 ?_;refine eu 1 ?_;refine ⟨fun w5 => absurd w5 (by exact dd),fun afk Es w5 => ?_⟩;refine mW ?_;refine bZ _ (bG (some ([2,3,4,11],none)) _ ?_);refine mb rfl (fun ar => absurd ar (by simp; omega)) (fun oG => ?_)
 clear oG
 refine aQ (some ([2,3,4],none)) _ (ae fun cv bp cY dk => ai fun cC bD => ?_);refine cV 2 ?_;refine eu 1 ?_;refine Or.inl (Or.inr (Or.inr ⟨_,_,_,Qb _ ao,?_,fun Ep => ?_⟩))
 ·skip
  refine cz ?_;refine bD _ (bp (some ([2,4,5],none)) _ (ae fun _ ck _ _ => ae fun _ cN _ _ => ai fun _ cF => ?_));refine cV 2 ?_;refine cz ?_
  first | refine ⟨rfl,fun Af => ?_⟩ | intro Af
  refine cF _ (cN (some ([4,5,18],none)) _ (cx fun _ _ qj _ _ => ?_));refine jS (Vs a b) (Af) (some ([4,5,18],some ([2,3,4],3))) ([]) ?_ ?_
  ·try refine eC ?_
   refine ⟨fun i => (Option.map aI (a i)).isSome,none,fun j h => by simpa using h,?_⟩
   have a2 : (fun k => (pq a b (fun i => (Option.map aI (a i)).isSome) k).map aI) = fun k => (b k).map aI := by
    funext k
    cases h : a k <;> simp [pq,h]
   rw [a2]
  ·intro k b0 aY
   obtain ⟨left,cur,IW,rfl⟩ := aY
   intro _ eW _ j7
   refine ae fun _ dJ _ _ => ai fun _ dt => ?_;refine eu 1 ?_;refine ⟨fun kD => ?_,fun r3 ahT Ad qW kB acD acE II => ?_⟩
   ·skip
    refine cz ?_;refine dt _ (dJ (some ([4,5,18,20],none)) _ (ae fun _ _ _ lP => ?_));refine mb rfl (fun ar => absurd ar (by cases ar)) (fun mE => ?_)
    clear mE
    refine lP 0 _ (j7 0 _ (qj _ (ck (some ([4,5],none)) _ (ae fun _ fy _ _ => ai fun _ eV => ?_))));refine mW ?_;refine eV _ (fy (some ([4],none)) _ ?_);refine Ct ?_
    have a8 : pq a b left = fun k => match a k with | some n => some (max (gl b k) n) | none => b k := by
     funext k
     simp [pq,kD k]
    rw [a8]
   ·skip
    obtain ⟨m,hm,rfl⟩ := Option.map_eq_some_iff.1 kB
    have gp : pq a b left r3 = b r3 := by simp [pq,qW]
    have ab7 : ∀ (v : av) (q : Int),(if q = r3 then some v else (pq a b left q).map aI) ≠ none → 0 ≤ q ∧ q < ((4096 : Nat) : Int) := fun v q aS => by
     by_cases eq : q = r3
     ·have := aZ.key r3 (by rw [hm]; simp); subst eq; omega
     ·rw [if_neg eq] at aS
      have af : pq a b left q ≠ none := fun h => aS (by rw [h]; rfl)
      unfold pq at af
      have aj : b q ≠ none ∨ a q ≠ none := by
       cases aw : a q with
       | some v => exact .inr (by simp)
       | none => left; intro aV; simp [aw,aV] at af
      rcases aj with aj | aj
      ·have := aJ.key q aj; omega
      ·have := aZ.key q aj; omega
    have ad := And.intro @gp @EZ
    refine an ad ?_;refine dt _ (dJ (some ([4,5,18,20],none)) _ (ae fun _ ic _ _ => ?_));refine mb rfl (fun mE => ?_) (fun ar => absurd ar (by cases ar))
    clear mE
    refine ic (some ([4,5,18],none)) _ (cx fun _ h4 _ _ _ => ae fun _ ix _ _ => ai fun _ ht => ?_);refine an ad ?_;refine ht _ (ix (some ([4,5,6,7,18],none)) _ (ai fun _ gr => ?_));refine ag 5 ad ?_;refine aU ad ?_;refine Or.inr ⟨4096,⟨by decide,ab7 _⟩,?_⟩
    refine gr _ (h4 _ ?_);refine eW (Ad) (some ([4,5,18],some ([0,1,2],3))) _ ?_ ?_
    all_goals try refine eC ?_
    ·exact II
    ·refine ⟨fun z => left z && z != r3,some (r3,aI m),fun j h => IW j (by simp only [Bool.and_eq_true] at h; exact h.1),?_⟩
     rw [aeq qW hm]
 ·skip
  exact absurd Ep dd
end Go.Proofs.YtkmbcjnaaokilaaGreatDoor
