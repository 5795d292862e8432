/-
  Layer 2 by shadows: views.
-/
import Derived.Test.YtkmbcjnaaokilaaGreatDoorSc4
import Derived.Test.YtkmbcjnaaokilaaGreatDoorMC
import Derived.Test.YtkmbcjnaaokilaaGreatDoorMA
namespace Go.Proofs.YtkmbcjnaaokilaaGreatDoor
set_option linter.unusedSimpArgs false
set_option linter.unusedVariables false
open Go.RowKit Go.Maps
abbrev h5 := Int → Option Int
abbrev FE (f : h5) : aw := .mp 76 fun k => (f k).map aG
abbrev tR (f : h5) : aw := .agg [FE f]
def gy (f : h5) (k : Int) : Int := (f k).getD 0
structure m6 (f : h5) : Prop where
 key : ∀ k,f k ≠ none → 0 ≤ k ∧ k < 4096
 pos : ∀ k n,f k = some n → 0 < n
def ET (k : Int) : Prop := -9223372036854775808 ≤ k ∧ k ≤ 9223372036854775807
def mH (f : h5) (l n : Int) : h5 := if l < 0 ∨ 4096 ≤ l ∨ n ≤ gy f l then f else fun k => if k = l then some n else f k
open Classical in
noncomputable def uA (a b : h5) : h5 := if ∀ i,b i = none then a else fun k => match a k with | some n => some (max (gy b k) n) | none => b k
theorem Ba (f : h5) (l n k : Int) (ba : 0 ≤ l) (af : l < 4096) : gy (mH f l n) k = if k = l then max (gy f l) n else gy f k := by
 unfold mH
 by_cases a9 : n ≤ gy f l
 ·rw [if_pos (.inr (.inr a9))]
  split
  ·rename_i e; subst e; omega
  ·rfl
 ·rw [if_neg (by omega)]
  unfold gy at a9 ⊢
  by_cases e : k = l
  ·subst e; simp; omega
  ·simp [e]
theorem OQ {f : h5} (h : m6 f) (k : Int) : 0 ≤ gy f k := by
 unfold gy
 cases e : f k with
 | none => simp
 | some n => have := h.pos k n e; simp; omega
theorem aop {a b : h5} (a5 : m6 a) (aI : m6 b) (k : Int) : gy (uA a b) k = max (gy a k) (gy b k) := by
 unfold uA
 split
 ·rename_i h
  have ba := OQ a5 k
  have : gy b k = 0 := by simp [gy,h k]
  omega
 ·have ba := OQ aI k
  cases e : a k with
  | none => simp [gy,e] at ba ⊢; omega
  | some n => simp [gy,e]; omega
theorem xR : m6 fun _ => none := ⟨fun k h => absurd rfl h,fun k n h => by cases h⟩
theorem zK {f : h5} (h : m6 f) (l n : Int) : m6 (mH f l n) := by
 unfold mH
 split
 ·exact h
 ·rename_i aB
  have ba := OQ h l
  refine ⟨fun k az => ?_,fun k m hm => ?_⟩
  ·by_cases e : k = l
   ·omega
   ·simp only [if_neg e] at az; exact h.key k az
  ·by_cases e : k = l
   ·simp only [if_pos e,Option.some.injEq] at hm; omega
   ·simp only [if_neg e] at hm; exact h.pos k m hm
theorem aoq {a b : h5} (a5 : m6 a) (aI : m6 b) : m6 (uA a b) := by
 unfold uA
 split
 ·exact a5
 ·refine ⟨fun k az => ?_,fun k m hm => ?_⟩
  ·cases e : a k with
   | none => simp only [e] at az; exact aI.key k az
   | some n => exact a5.key k (by rw [e]; simp)
  ·cases e : a k with
   | none => simp only [e] at hm; exact aI.pos k m hm
   | some n =>
    simp only [e,Option.some.injEq] at hm
    have := a5.pos k n e
    omega
theorem S7 (f : Int → Option aw) (aZ : ∀ k,f k ≠ none → 0 ≤ k ∧ k < 4096) : Br 123 [.mp 76 f] 76 4096 f := by
 intro w H vs ao bj
 cases bj with
 | cons ar aL =>
  cases aL
  cases ar with
  | nA ba =>
   refine Calls.mono (adl w) ?_
   rintro fI w' ⟨rfl,rfl⟩
   exact ⟨_,rfl,Grow.refl ao,.inl ⟨rfl,ba⟩⟩
  | @mp _ _ _ b o M F aI hm dy aq aA =>
   obtain ⟨D,⟨es,clock,rfl,_⟩,_⟩ := hm
   refine Calls.mono (adm b es clock w (ao b _ aI)) ?_
   rintro fI w' ⟨rfl,rfl⟩
   refine ⟨_,rfl,(Grow.refl ao).alloc _,.inr ⟨w.heap.size,_,F,rfl,Nat.le_refl _,heap_alloc_new w _,h4.tight (n := M) ⟨D,⟨es,clock,rfl,‹_›⟩,‹_›⟩ Tryz.underlying76 4096 (fun k az => aZ k (fun e => by rw [(aq k).1 e] at az; cases az)),by omega,aq,aA⟩⟩
theorem FI {t k e : TypeId} (h : Tryz.prog.underlying t = some (.map k e)) : sr t (.v (.map none)) (.v (.map none)) true := by
 intro H E w mG ha e2 eQ ao af aj
 cases af; cases aj
 have aT := run_eql_map_nil_sl (P := Tryz.prog) w t k e none h
 refine ⟨by simpa [eqGuard] using aT,?_⟩
 simp only [binOp,Sem.run_bind] at aT
 cases aA : Sem.run Tryz.prog (Op.equal t (.map none) (.map none)) w with
 | ok v fB =>
  rw [aA] at aT
  simp at aT
  obtain ⟨rfl,rfl⟩ := aT
  simp [eqGuard,binOp,aA]
 | halt x fB => rw [aA] at aT; simp at aT
theorem XJ {f : h5} (aZ : m6 f) : ∀ k,(f k).map aG ≠ none → 0 ≤ k ∧ k < 4096 := fun k az => aZ.key k (fun e => az (by rw [e]; rfl))
theorem akd (f : h5) (k : Int) (az : ET k) : cq 121 [tR f,aG k] (aG (gy f k)) := by
 obtain ⟨cL,k2⟩ := az
 refine df Tryz.func121 aoi rfl ?_
 unfold bK W3 VR;delta ab aa ay
 have ad := And.intro @G5 (And.intro @cL @k2)
 refine ae fun _ aK _ _ => ai fun _ aH => ?_;refine al ad ?_;refine aH _ (aK (some ([1,2],none)) _ (ae fun _ aP _ _ => ai fun _ bk => ?_));refine ag 2 ad ?_;refine ag 2 ad ?_;refine al ad ?_;refine bk _ (aP (some ([4],none)) _ ?_);refine jr ad ?_
 rfl
theorem XP (f : h5) (l n : Int) (A : Int → Option aw) (h : ∀ k,A k = (f k).map aG) (aB : ¬ (l < 0 ∨ 4096 ≤ l ∨ n ≤ gy f l)) :
  aw.agg [.mp 76 fun j => if j = l then some (.v (.int .i64 n)) else A j] = tR (mH f l n) := by
 obtain rfl : A = fun k => (f k).map aG := funext h
 unfold mH
 rw [if_neg aB]
 simp only [tR,FE]
 congr 3
 funext k
 by_cases e : k = l <;> simp [e]
theorem MO (f : h5) (l n : Int) (aZ : m6 f) (aE : ET l) : cq 115 [tR f,aG l,aG n] (tR (mH f l n)) := by
 obtain ⟨cL,k2⟩ := aE
 have ao := XJ aZ
 by_cases af : l < 0
 ·have e : mH f l n = f := if_pos (.inl af)
  rw [e]
  refine df Tryz.func115 H9 rfl ?_
  unfold bK D9 D5;delta ab aQ a8 aa ay a3
  have ad := @af
  refine ae fun bD aK b9 ck => ai fun ca aH => ?_;refine al ad ?_;refine aH _ (aK (some ([1,2,3,6],none)) _ (ae fun cg aP bx b8 => ae fun ch bI dd dU => ai fun cM b0 => ?_));refine ag 2 ad ?_;refine ag 3 ad ?_;refine ag 5 ad ?_;refine ag 2 ad ?_;refine ag 1 ad ?_;refine al ad ?_;refine b0 _ (bI (some ([1,2,3,6,21],none)) _ (bU (ae fun cG bp c5 dn => ai fun cI bE => ?_)));refine ag 1 ad ?_;refine aS ad ?_;refine bE _ (bp (some ([6],none)) _ (bx _ ?_))
  exact cQ ad
 by_cases aj : 4096 ≤ l
 ·have e : mH f l n = f := if_pos (.inr (.inl aj))
  rw [e]
  refine df Tryz.func115 H9 rfl ?_
  unfold bK D9 D5;delta ab aQ a8 aa ay a3
  have ad := And.intro @af @aj
  refine ae fun bD aK b9 ck => ai fun ca aH => ?_;refine al ad ?_;refine aH _ (aK (some ([1,2,3,6],none)) _ (ae fun cg aP bx b8 => ae fun ch bI dd dU => ai fun cM b0 => ?_));refine ag 2 ad ?_;refine ag 3 ad ?_;refine ag 5 ad ?_;refine ag 2 ad ?_;refine ag 1 ad ?_;refine al ad ?_;refine b0 _ (bI (some ([1,2,3,6,21],none)) _ (bU (ae fun cG bp c5 dn => ai fun cI bE => ?_)));refine ag 1 ad ?_;refine aS ad ?_;refine bE _ (bp (some ([6],none)) _ (bx _ ?_))
  exact cQ ad
 by_cases av : n ≤ (f l).getD 0
 ·have e : mH f l n = f := if_pos (.inr (.inr av))
  rw [e]
  refine df Tryz.func115 H9 rfl ?_
  unfold bK D9 D5;delta ab aQ a8 aa ay a3
  have ad := And.intro @af (And.intro @aj (And.intro @G5 (And.intro @cL (And.intro @k2 @av))))
  refine ae fun bD aK b9 ck => ai fun ca aH => ?_;refine al ad ?_;refine aH _ (aK (some ([1,2,3,6],none)) _ (ae fun cg aP bx b8 => ae fun ch bI dd dU => ai fun cM b0 => ?_));refine ag 2 ad ?_;refine ag 3 ad ?_;refine ag 5 ad ?_;refine ag 2 ad ?_;refine ag 1 ad ?_;refine al ad ?_;refine b0 _ (bI (some ([1,2,3,6,21],none)) _ (bU (ae fun cG bp c5 dn => ai fun cI bE => ?_)));refine ag 1 ad ?_;refine aS ad ?_;refine bE _ (bp (some ([6],none)) _ (bx _ ?_))
  exact cQ ad
 have aB : ¬ (l < 0 ∨ 4096 ≤ l ∨ n ≤ gy f l) := by unfold gy; omega
 refine df Tryz.func115 H9 rfl ?_
 unfold bK D9 D5;delta ab aQ a8 aa ay a3
 have ad := And.intro @af (And.intro @aj (And.intro @G5 (And.intro @cL (And.intro @k2 @av))))
 refine ae fun bD aK b9 ck => ai fun ca aH => ?_;refine al ad ?_;refine aH _ (aK (some ([1,2,3,6],none)) _ (ae fun cg aP bx b8 => ae fun ch bI dd dU => ai fun cM b0 => ?_));refine ag 2 ad ?_;refine ag 3 ad ?_;refine ag 5 ad ?_;refine ag 2 ad ?_;refine ag 1 ad ?_;refine al ad ?_;refine b0 _ (bI (some ([1,2,3,6,21],none)) _ (bs (aP (some ([1,2,3,6],none)) _ (ae fun cG bp c5 dn => ai fun cI bE => ?_))));refine ag 2 ad ?_;refine aM 1 ad ?_;refine Or.inl (Or.inr (Or.inr ⟨_,_,_,S7 _ ao,?_,fun Gx => ?_⟩))
 ·skip
  refine al ad ?_;refine bE _ (bp (some ([1,2,6,7],none)) _ (ae fun _ cv _ _ => ae fun _ cR _ _ => ai fun _ cK => ?_));refine aM 1 ad ?_;refine al ad ?_;refine Or.inr ⟨⟨_,_,Tryz.underlying155⟩,?_⟩;refine cK _ (cR (some ([1,2,6,7,27],none)) _ ?_);refine mP rfl (fun ar => absurd ar (by cases ar)) (fun nh => ?_)
  clear nh
  refine cv (some ([1,2,6,7],none)) _ (ae fun _ cr _ _ => ai fun _ cD => ?_);refine aS ad ?_;refine Or.inl ?_;refine cD _ (cr (some ([6,7],none)) _ (ae fun _ dF _ _ => ai fun _ dq => ?_));refine aS ad ?_;refine dq _ (dF (some ([6],none)) _ ?_);refine jr ad ?_
  exact XP f l n _ (fun k => by first | rfl | exact (Gx k).symm) aB
 ·skip
  refine al ad ?_;refine bE _ (bp (some ([1,2,6,7],none)) _ (ae fun _ gl _ _ => ae fun _ fF _ _ => ai fun _ eF => ?_));refine aM 1 ad ?_;refine al ad ?_;refine Or.inl ⟨_,FI Tryz.underlying155,?_⟩;refine eF _ (fF (some ([1,2,6,7,27],none)) _ ?_);refine mP rfl (fun nh => ?_) (fun ar => absurd ar (by cases ar))
  clear nh
  refine ai fun _ hI => ?_;refine al ad ?_;refine hI _ (gl (some ([1,2,6,7],none)) _ (ae fun _ hJ _ _ => ai fun _ hX => ?_));refine aS ad ?_;refine Or.inl ?_;refine hX _ (hJ (some ([6,7],none)) _ (ae fun _ hK _ _ => ai fun _ gf => ?_));refine aS ad ?_;refine gf _ (hK (some ([6],none)) _ ?_);refine jr ad ?_
  exact XP f l n _ (fun k => by first | rfl | exact (Gx k).symm) aB
def qs (a b : h5) (left : Int → Bool) : h5 := fun k => if left k = true then b k else match a k with | some n => some (max (gy b k) n) | none => b k
def Y8 (a b : h5) (k : Nat) (S : ak) : Prop :=
 ∃ left cur,(∀ j,left j = true → (a j).isSome = true) ∧ S = ⟨[(4,.ptr 0 0 0),(5,.own 1),(18,.own 2)],
  [(0,.box 157 [.mp 76 fun _ => none]),(1,.map 76 4096 fun k => (qs a b left k).map aG),(2,.iter (fun k => (a k).map aG) left k cur)],3⟩
theorem ahU {a b : h5} {left : Int → Bool} {j n : Int} (aN : left j = true) (a5 : a j = some n) : (fun k => (qs a b (fun z => left z && z != j) k).map aG) = fun k => if k = j then some (.v (.int .i64 (max ((b j).getD 0) n))) else (qs a b left k).map aG := by
 funext k
 by_cases e : k = j
 ·subst e; simp [qs,a5,gy]
 ·simp [qs,e]
set_option maxHeartbeats 2000000 in
theorem ake (a b : h5) (a5 : m6 a) (aI : m6 b) : cq 125 [tR a,tR b] (tR (uA a b)) := by
 by_cases ba : ∀ i,b i = none
 ·have e : uA a b = a := if_pos ba
  rw [e]
  refine df Tryz.func125 Xz rfl ?_
  have bR : ∀ i,(b i).map aG = none := fun i => by rw [ba i]; rfl
  unfold bK Oi NO;delta ab aQ aa ay
  refine ae fun bD aK b9 ck => ai fun ca aH => ?_;refine cE ?_;refine aH _ (aK (some ([2,3,4],none)) _ (ae fun cg aP bx b8 => ae fun ch bI dd dU => ai fun cM b0 => ?_));refine c4 2 ?_;refine eH 1 ?_;refine ⟨fun yH => ?_,fun aiW Gz yH => absurd yH (by intro ⟨i,aq⟩; exact aq (bR i))⟩;refine nF ?_;refine b0 _ (bI (some ([2,3,4,11],none)) _ (bU (ae fun cG bp c5 dn => ai fun cI bE => ?_)));refine c4 1 ?_;refine nF ?_;refine bE _ (bp (some ([4],none)) _ (bx _ ?_))
  exact jq
 have e : uA a b = fun k => match a k with | some n => some (max (gy b k) n) | none => b k := if_neg ba
 have dj : ¬ ∀ i,(b i).map aG = none := fun h => ba fun i => by have := h i; cases e : b i with | none => rfl | some v => rw [e] at this; cases this
 rw [e]
 refine df Tryz.func125 Xz rfl ?_
 have ao := XJ aI
 unfold bK Oi NO;delta ab aQ aa ay
 refine ae fun bD aK b9 ck => ai fun ca aH => ?_;refine cE ?_;refine aH _ (aK (some ([2,3,4],none)) _ (ae fun cg aP bx b8 => ae fun ch bI dd dU => ai fun cM b0 => ?_));refine c4 2 ?_;refine eH 1 ?_;refine ⟨fun yH => absurd yH (by exact dj),fun aiW Gz yH => ?_⟩;refine nF ?_;refine b0 _ (bI (some ([2,3,4,11],none)) _ ?_);refine mP rfl (fun ar => absurd ar (by simp; omega)) (fun pH => ?_)
 clear pH
 refine aP (some ([2,3,4],none)) _ (ae fun cG bp c5 dn => ai fun cI bE => ?_);refine c4 2 ?_;refine eH 1 ?_;refine Or.inl (Or.inr (Or.inr ⟨_,_,_,S7 _ ao,?_,fun Gx => ?_⟩))
 ·skip
  refine cE ?_;refine bE _ (bp (some ([2,4,5],none)) _ (ae fun _ cv _ _ => ae fun _ cR _ _ => ai fun _ cK => ?_));refine c4 2 ?_;refine cE ?_
  first | refine ⟨rfl,fun BL => ?_⟩ | intro BL
  refine cK _ (cR (some ([4,5,18],none)) _ (cj fun _ _ rl _ _ => ?_));refine ie (Y8 a b) (BL) (some ([4,5,18],some ([2,3,4],3))) ([]) ?_ ?_
  ·try refine dR ?_
   refine ⟨fun i => (Option.map aG (a i)).isSome,none,fun j h => by simpa using h,?_⟩
   have a1 : (fun k => (qs a b (fun i => (Option.map aG (a i)).isSome) k).map aG) = fun k => (b k).map aG := by
    funext k
    cases h : a k <;> simp [qs,h]
   rw [a1]
  ·intro k bT aW
   obtain ⟨left,cur,Ld,rfl⟩ := aW
   intro _ ff _ kx
   refine ae fun _ dF _ _ => ai fun _ dq => ?_;refine eH 1 ?_;refine ⟨fun kh => ?_,fun r7 alw qX r1 kA agb agc KY => ?_⟩
   ·skip
    refine cE ?_;refine dq _ (dF (some ([4,5,18,20],none)) _ (ae fun _ _ _ lo => ?_));refine mP rfl (fun ar => absurd ar (by cases ar)) (fun nh => ?_)
    clear nh
    refine lo 0 _ (kx 0 _ (rl _ (cv (some ([4,5],none)) _ (ae fun _ fF _ _ => ai fun _ eF => ?_))));refine nF ?_;refine eF _ (fF (some ([4],none)) _ ?_);refine Eb ?_
    have a7 : qs a b left = fun k => match a k with | some n => some (max (gy b k) n) | none => b k := by
     funext k
     simp [qs,kh k]
    rw [a7]
   ·skip
    obtain ⟨m,hm,rfl⟩ := Option.map_eq_some_iff.1 kA
    have gB : qs a b left r7 = b r7 := by simp [qs,r1]
    have afC : ∀ (v : aw) (q : Int),(if q = r7 then some v else (qs a b left q).map aG) ≠ none → 0 ≤ q ∧ q < ((4096 : Nat) : Int) := fun v q aT => by
     by_cases eq : q = r7
     ·have := a5.key r7 (by rw [hm]; simp); subst eq; omega
     ·rw [if_neg eq] at aT
      have af : qs a b left q ≠ none := fun h => aT (by rw [h]; rfl)
      unfold qs at af
      have aj : b q ≠ none ∨ a q ≠ none := by
       cases av : a q with
       | some v => exact .inr (by simp)
       | none => left; intro aY; simp [av,aY] at af
      rcases aj with aj | aj
      ·have := aI.key q aj; omega
      ·have := a5.key q aj; omega
    have ad := And.intro @gB @G5
    refine al ad ?_;refine dq _ (dF (some ([4,5,18,20],none)) _ (ae fun _ hM _ _ => ?_));refine mP rfl (fun nh => ?_) (fun ar => absurd ar (by cases ar))
    clear nh
    refine hM (some ([4,5,18],none)) _ (cj fun _ hJ _ _ _ => ae fun _ hZ _ _ => ai fun _ hh => ?_);refine al ad ?_;refine hh _ (hZ (some ([4,5,6,7,18],none)) _ (ai fun _ gf => ?_));refine ag 5 ad ?_;refine aS ad ?_;refine Or.inr ⟨4096,⟨by decide,afC _⟩,?_⟩
    refine gf _ (hJ _ ?_);refine ff (qX) (some ([4,5,18],some ([0,1,2],3))) _ ?_ ?_
    all_goals try refine dR ?_
    ·exact KY
    ·refine ⟨fun z => left z && z != r7,some (r7,aG m),fun j h => Ld j (by simp only [Bool.and_eq_true] at h; exact h.1),?_⟩
     rw [ahU r1 hm]
 ·skip
  exact absurd Gx dj
end Go.Proofs.YtkmbcjnaaokilaaGreatDoor
