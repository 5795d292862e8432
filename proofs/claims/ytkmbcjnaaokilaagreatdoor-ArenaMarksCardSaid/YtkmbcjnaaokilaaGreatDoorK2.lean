/-
  Layer 2 by shadows: views.
-/
import Derived.Test.YtkmbcjnaaokilaaGreatDoorSc4
import Derived.Test.YtkmbcjnaaokilaaGreatDoorMC
import Derived.Test.YtkmbcjnaaokilaaGreatDoorMA
namespace Go.Proofs.YtkmbcjnaaokilaaGreatDoor
set_option linter.unusedSimpArgs false
set_option linter.unusedVariables false
open Go.RowKit Go.Maps
abbrev ViewV := Int → Option Int
abbrev eVm (f : ViewV) : Sh := .mp 76 fun k => (f k).map sI
abbrev eView (f : ViewV) : Sh := .agg [eVm f]
def vGet (f : ViewV) (k : Int) : Int := (f k).getD 0
structure ViewOk (f : ViewV) : Prop where
 key : ∀ k,f k ≠ none → 0 ≤ k ∧ k < 4096
 pos : ∀ k n,f k = some n → 0 < n
def InLoc (k : Int) : Prop := -9223372036854775808 ≤ k ∧ k ≤ 9223372036854775807
def vWith (f : ViewV) (l n : Int) : ViewV := if l < 0 ∨ 4096 ≤ l ∨ n ≤ vGet f l then f else fun k => if k = l then some n else f k
open Classical in
noncomputable def vJoin (a b : ViewV) : ViewV := if ∀ i,b i = none then a else fun k => match a k with | some n => some (max (vGet b k) n) | none => b k
theorem vGet_with (f : ViewV) (l n k : Int) (h0 : 0 ≤ l) (h1 : l < 4096) : vGet (vWith f l n) k = if k = l then max (vGet f l) n else vGet f k := by
 unfold vWith
 by_cases hn : n ≤ vGet f l
 ·rw [if_pos (.inr (.inr hn))]
  split
  ·rename_i e; subst e; omega
  ·rfl
 ·rw [if_neg (by omega)]
  unfold vGet at hn ⊢
  by_cases e : k = l
  ·subst e; simp; omega
  ·simp [e]
theorem vGet_nonneg {f : ViewV} (h : ViewOk f) (k : Int) : 0 ≤ vGet f k := by
 unfold vGet
 cases e : f k with
 | none => simp
 | some n => have := h.pos k n e; simp; omega
theorem vGet_join {a b : ViewV} (ha : ViewOk a) (hb : ViewOk b) (k : Int) : vGet (vJoin a b) k = max (vGet a k) (vGet b k) := by
 unfold vJoin
 split
 ·rename_i h
  have h0 := vGet_nonneg ha k
  have : vGet b k = 0 := by simp [vGet,h k]
  omega
 ·have h0 := vGet_nonneg hb k
  cases e : a k with
  | none => simp [vGet,e] at h0 ⊢; omega
  | some n => simp [vGet,e]; omega
theorem viewOk_none : ViewOk fun _ => none := ⟨fun k h => absurd rfl h,fun k n h => by cases h⟩
theorem viewOk_with {f : ViewV} (h : ViewOk f) (l n : Int) : ViewOk (vWith f l n) := by
 unfold vWith
 split
 ·exact h
 ·rename_i hc
  have h0 := vGet_nonneg h l
  refine ⟨fun k hk => ?_,fun k m hm => ?_⟩
  ·by_cases e : k = l
   ·omega
   ·simp only [if_neg e] at hk; exact h.key k hk
  ·by_cases e : k = l
   ·simp only [if_pos e,Option.some.injEq] at hm; omega
   ·simp only [if_neg e] at hm; exact h.pos k m hm
theorem viewOk_join {a b : ViewV} (ha : ViewOk a) (hb : ViewOk b) : ViewOk (vJoin a b) := by
 unfold vJoin
 split
 ·exact ha
 ·refine ⟨fun k hk => ?_,fun k m hm => ?_⟩
  ·cases e : a k with
   | none => simp only [e] at hk; exact hb.key k hk
   | some n => exact ha.key k (by rw [e]; simp)
  ·cases e : a k with
   | none => simp only [e] at hm; exact hb.pos k m hm
   | some n =>
    simp only [e,Option.some.injEq] at hm
    have := ha.pos k n e
    omega
theorem map_cloneLoc (f : Int → Option Sh) (hf : ∀ k,f k ≠ none → 0 ≤ k ∧ k < 4096) : OkMap 123 [.mp 76 f] 76 4096 f := by
 intro w H vs hs hv
 cases hv with
 | cons hx ht =>
  cases ht
  cases hx with
  | mpn h0 =>
   refine Calls.mono (cloneLoc_none w) ?_
   rintro en w' ⟨rfl,rfl⟩
   exact ⟨_,rfl,Grow.refl hs,.inl ⟨rfl,h0⟩⟩
  | @mp _ _ _ b o M F hb hm hN hi hr =>
   obtain ⟨D,⟨es,clock,rfl,_⟩,_⟩ := hm
   refine Calls.mono (cloneLoc_some b es clock w (hs b _ hb)) ?_
   rintro en w' ⟨rfl,rfl⟩
   refine ⟨_,rfl,(Grow.refl hs).alloc _,.inr ⟨w.heap.size,_,F,rfl,Nat.le_refl _,heap_alloc_new w _,MapOf.tight (n := M) ⟨D,⟨es,clock,rfl,‹_›⟩,‹_›⟩ Tryz.underlying76 4096 (fun k hk => hf k (fun e => by rw [(hi k).1 e] at hk; cases hk)),by omega,hi,hr⟩⟩
theorem eqsh_nil {t k e : TypeId} (h : Tryz.prog.underlying t = some (.map k e)) : EqSh t (.v (.map none)) (.v (.map none)) true := by
 intro H E w u1 u2 o1 o2 hs h1 h2
 cases h1; cases h2
 have hq := run_eql_map_nil_sl (P := Tryz.prog) w t k e none h
 refine ⟨by simpa [eqGuard] using hq,?_⟩
 simp only [binOp,Sem.run_bind] at hq
 cases hr : Sem.run Tryz.prog (Op.equal t (.map none) (.map none)) w with
 | ok v w1 =>
  rw [hr] at hq
  simp at hq
  obtain ⟨rfl,rfl⟩ := hq
  simp [eqGuard,binOp,hr]
 | halt x w1 => rw [hr] at hq; simp at hq
theorem view_none {f : ViewV} (hf : ViewOk f) : ∀ k,(f k).map sI ≠ none → 0 ≤ k ∧ k < 4096 := fun k hk => hf.key k (fun e => hk (by rw [e]; rfl))
theorem ok_vAt (f : ViewV) (k : Int) (hk : InLoc k) : Ok 121 [eView f,sI k] (sI (vGet f k)) := by
 obtain ⟨k1,k2⟩ := hk
 refine ok_of_tr Tryz.func121 tr_vAt rfl ?_
 unfold evFn sc_vAt rv_vAt
 have F1 := And.intro @lk_int (And.intro @k1 @k2)
 refine eS fun _ hn1 _ _ => ?_;refine eO fun _ hk2 => ?_;refine tL F1 ?_;refine hk2 _ ?_;refine hn1 (some ([1,2],none)) _ ?_;refine eS fun _ hn3 _ _ => ?_;refine eO fun _ hk4 => ?_;refine tC 2 F1 ?_;refine tC 2 F1 ?_;refine tL F1 ?_;refine hk4 _ ?_;refine hn3 (some ([4],none)) _ ?_;refine sg1 F1 ?_
 rfl
theorem with_fin (f : ViewV) (l n : Int) (A : Int → Option Sh) (h : ∀ k,A k = (f k).map sI) (hc : ¬ (l < 0 ∨ 4096 ≤ l ∨ n ≤ vGet f l)) :
  Sh.agg [.mp 76 fun j => if j = l then some (.v (.int .i64 n)) else A j] = eView (vWith f l n) := by
 obtain rfl : A = fun k => (f k).map sI := funext h
 unfold vWith
 rw [if_neg hc]
 simp only [eView,eVm]
 congr 3
 funext k
 by_cases e : k = l <;> simp [e]
theorem ok_vWith (f : ViewV) (l n : Int) (hf : ViewOk f) (hl : InLoc l) : Ok 115 [eView f,sI l,sI n] (eView (vWith f l n)) := by
 obtain ⟨k1,k2⟩ := hl
 have hs := view_none hf
 by_cases h1 : l < 0
 ·have e : vWith f l n = f := if_pos (.inl h1)
  rw [e]
  refine ok_of_tr Tryz.func115 tr_vWith rfl ?_
  unfold evFn sc_vWith rv_vWith
  have F1 := @h1
  refine eS fun K1 hn1 hr1 he1 => ?_;refine eO fun K2 hk2 => ?_;refine tL F1 ?_;refine hk2 _ ?_;refine hn1 (some ([1,2,3,6],none)) _ ?_;refine eS fun K3 hn3 hr3 he3 => ?_;refine eS fun K4 hn4 hr4 he4 => ?_;refine eO fun K5 hk5 => ?_;refine tC 2 F1 ?_;refine tC 3 F1 ?_;refine tC 5 F1 ?_;refine tC 2 F1 ?_;refine tC 1 F1 ?_;refine tL F1 ?_;refine hk5 _ ?_;refine hn4 (some ([1,2,3,6,21],none)) _ ?_;refine eCt ?_;refine eS fun K6 hn6 hr6 he6 => ?_;refine eO fun K7 hk7 => ?_;refine tC 1 F1 ?_;refine tZ F1 ?_;refine hk7 _ ?_;refine hn6 (some ([6],none)) _ ?_;refine hr3 _ ?_
  exact sf1 F1
 by_cases h2 : 4096 ≤ l
 ·have e : vWith f l n = f := if_pos (.inr (.inl h2))
  rw [e]
  refine ok_of_tr Tryz.func115 tr_vWith rfl ?_
  unfold evFn sc_vWith rv_vWith
  have F1 := And.intro @h1 @h2
  refine eS fun K1 hn1 hr1 he1 => ?_;refine eO fun K2 hk2 => ?_;refine tL F1 ?_;refine hk2 _ ?_;refine hn1 (some ([1,2,3,6],none)) _ ?_;refine eS fun K3 hn3 hr3 he3 => ?_;refine eS fun K4 hn4 hr4 he4 => ?_;refine eO fun K5 hk5 => ?_;refine tC 2 F1 ?_;refine tC 3 F1 ?_;refine tC 5 F1 ?_;refine tC 2 F1 ?_;refine tC 1 F1 ?_;refine tL F1 ?_;refine hk5 _ ?_;refine hn4 (some ([1,2,3,6,21],none)) _ ?_;refine eCt ?_;refine eS fun K6 hn6 hr6 he6 => ?_;refine eO fun K7 hk7 => ?_;refine tC 1 F1 ?_;refine tZ F1 ?_;refine hk7 _ ?_;refine hn6 (some ([6],none)) _ ?_;refine hr3 _ ?_
  exact sf1 F1
 by_cases h3 : n ≤ (f l).getD 0
 ·have e : vWith f l n = f := if_pos (.inr (.inr h3))
  rw [e]
  refine ok_of_tr Tryz.func115 tr_vWith rfl ?_
  unfold evFn sc_vWith rv_vWith
  have F1 := And.intro @h1 (And.intro @h2 (And.intro @lk_int (And.intro @k1 (And.intro @k2 @h3))))
  refine eS fun K1 hn1 hr1 he1 => ?_;refine eO fun K2 hk2 => ?_;refine tL F1 ?_;refine hk2 _ ?_;refine hn1 (some ([1,2,3,6],none)) _ ?_;refine eS fun K3 hn3 hr3 he3 => ?_;refine eS fun K4 hn4 hr4 he4 => ?_;refine eO fun K5 hk5 => ?_;refine tC 2 F1 ?_;refine tC 3 F1 ?_;refine tC 5 F1 ?_;refine tC 2 F1 ?_;refine tC 1 F1 ?_;refine tL F1 ?_;refine hk5 _ ?_;refine hn4 (some ([1,2,3,6,21],none)) _ ?_;refine eCt ?_;refine eS fun K6 hn6 hr6 he6 => ?_;refine eO fun K7 hk7 => ?_;refine tC 1 F1 ?_;refine tZ F1 ?_;refine hk7 _ ?_;refine hn6 (some ([6],none)) _ ?_;refine hr3 _ ?_
  exact sf1 F1
 have hc : ¬ (l < 0 ∨ 4096 ≤ l ∨ n ≤ vGet f l) := by unfold vGet; omega
 refine ok_of_tr Tryz.func115 tr_vWith rfl ?_
 unfold evFn sc_vWith rv_vWith
 have F1 := And.intro @h1 (And.intro @h2 (And.intro @lk_int (And.intro @k1 (And.intro @k2 @h3))))
 refine eS fun K1 hn1 hr1 he1 => ?_;refine eO fun K2 hk2 => ?_;refine tL F1 ?_;refine hk2 _ ?_;refine hn1 (some ([1,2,3,6],none)) _ ?_;refine eS fun K3 hn3 hr3 he3 => ?_;refine eS fun K4 hn4 hr4 he4 => ?_;refine eO fun K5 hk5 => ?_;refine tC 2 F1 ?_;refine tC 3 F1 ?_;refine tC 5 F1 ?_;refine tC 2 F1 ?_;refine tC 1 F1 ?_;refine tL F1 ?_;refine hk5 _ ?_;refine hn4 (some ([1,2,3,6,21],none)) _ ?_;refine eCf ?_;refine hn3 (some ([1,2,3,6],none)) _ ?_;refine eS fun K6 hn6 hr6 he6 => ?_;refine eO fun K7 hk7 => ?_;refine tC 2 F1 ?_;refine tS 1 F1 ?_;refine Or.inl (Or.inr (Or.inr ⟨_,_,_,map_cloneLoc _ hs,?_,fun hnil0 => ?_⟩))
 ·skip
  refine tL F1 ?_;refine hk7 _ ?_;refine hn6 (some ([1,2,6,7],none)) _ ?_;refine eS fun _ hn8 _ _ => ?_;refine eS fun _ hn9 _ _ => ?_;refine eO fun _ hk10 => ?_;refine tS 1 F1 ?_;refine tL F1 ?_;refine Or.inr ⟨⟨_,_,Tryz.underlying155⟩,?_⟩;refine hk10 _ ?_;refine hn9 (some ([1,2,6,7,27],none)) _ ?_;refine eC rfl (fun hx => absurd hx (by cases hx)) (fun hc1 => ?_)
  clear hc1
  refine hn8 (some ([1,2,6,7],none)) _ ?_;refine eS fun _ hn11 _ _ => ?_;refine eO fun _ hk12 => ?_;refine tZ F1 ?_;refine Or.inl ?_;refine hk12 _ ?_;refine hn11 (some ([6,7],none)) _ ?_;refine eS fun _ hn13 _ _ => ?_;refine eO fun _ hk14 => ?_;refine tZ F1 ?_;refine hk14 _ ?_;refine hn13 (some ([6],none)) _ ?_;refine sg1 F1 ?_
  exact with_fin f l n _ (fun k => by first | rfl | exact (hnil0 k).symm) hc
 ·skip
  refine tL F1 ?_;refine hk7 _ ?_;refine hn6 (some ([1,2,6,7],none)) _ ?_;refine eS fun _ hn15 _ _ => ?_;refine eS fun _ hn16 _ _ => ?_;refine eO fun _ hk17 => ?_;refine tS 1 F1 ?_;refine tL F1 ?_;refine Or.inl ⟨_,eqsh_nil Tryz.underlying155,?_⟩;refine hk17 _ ?_;refine hn16 (some ([1,2,6,7,27],none)) _ ?_;refine eC rfl (fun hc1 => ?_) (fun hx => absurd hx (by cases hx))
  clear hc1
  refine eO fun _ hk18 => ?_;refine tL F1 ?_;refine hk18 _ ?_;refine hn15 (some ([1,2,6,7],none)) _ ?_;refine eS fun _ hn19 _ _ => ?_;refine eO fun _ hk20 => ?_;refine tZ F1 ?_;refine Or.inl ?_;refine hk20 _ ?_;refine hn19 (some ([6,7],none)) _ ?_;refine eS fun _ hn21 _ _ => ?_;refine eO fun _ hk22 => ?_;refine tZ F1 ?_;refine hk22 _ ?_;refine hn21 (some ([6],none)) _ ?_;refine sg1 F1 ?_
  exact with_fin f l n _ (fun k => by first | rfl | exact (hnil0 k).symm) hc
def joinP (a b : ViewV) (left : Int → Bool) : ViewV := fun k => if left k = true then b k else match a k with | some n => some (max (vGet b k) n) | none => b k
def JInv (a b : ViewV) (k : Nat) (S : St) : Prop :=
 ∃ left cur,(∀ j,left j = true → (a j).isSome = true) ∧ S = ⟨[(4,.ptr 0 0 0),(5,.own 1),(18,.own 2)],
  [(0,.box 157 [.mp 76 fun _ => none]),(1,.map 76 4096 fun k => (joinP a b left k).map sI),(2,.iter (fun k => (a k).map sI) left k cur)],3⟩
theorem join_step {a b : ViewV} {left : Int → Bool} {j n : Int} (hj : left j = true) (ha : a j = some n) : (fun k => (joinP a b (fun z => left z && z != j) k).map sI) = fun k => if k = j then some (.v (.int .i64 (max ((b j).getD 0) n))) else (joinP a b left k).map sI := by
 funext k
 by_cases e : k = j
 ·subst e; simp [joinP,ha,vGet]
 ·simp [joinP,e]
set_option maxHeartbeats 2000000 in
theorem ok_vJoin (a b : ViewV) (ha : ViewOk a) (hb : ViewOk b) : Ok 125 [eView a,eView b] (eView (vJoin a b)) := by
 by_cases h0 : ∀ i,b i = none
 ·have e : vJoin a b = a := if_pos h0
  rw [e]
  refine ok_of_tr Tryz.func125 tr_vJoin rfl ?_
  have hz : ∀ i,(b i).map sI = none := fun i => by rw [h0 i]; rfl
  unfold evFn sc_vJoin rv_vJoin
  refine eS fun K1 hn1 hr1 he1 => ?_;refine eO fun K2 hk2 => ?_;refine tL0 ?_;refine hk2 _ ?_;refine hn1 (some ([2,3,4],none)) _ ?_;refine eS fun K3 hn3 hr3 he3 => ?_;refine eS fun K4 hn4 hr4 he4 => ?_;refine eO fun K5 hk5 => ?_;refine tC0 2 ?_;refine tS0 1 ?_;refine ⟨fun hl0 => ?_,fun nl0 hp0 hl0 => absurd hl0 (by intro ⟨i,hi⟩; exact hi (hz i))⟩;refine tZ0 ?_;refine hk5 _ ?_;refine hn4 (some ([2,3,4,11],none)) _ ?_;refine eCt ?_;refine eS fun K6 hn6 hr6 he6 => ?_;refine eO fun K7 hk7 => ?_;refine tC0 1 ?_;refine tZ0 ?_;refine hk7 _ ?_;refine hn6 (some ([4],none)) _ ?_;refine hr3 _ ?_
  exact sf0
 have e : vJoin a b = fun k => match a k with | some n => some (max (vGet b k) n) | none => b k := if_neg h0
 have hne : ¬ ∀ i,(b i).map sI = none := fun h => h0 fun i => by have := h i; cases e : b i with | none => rfl | some v => rw [e] at this; cases this
 rw [e]
 refine ok_of_tr Tryz.func125 tr_vJoin rfl ?_
 have hs := view_none hb
 unfold evFn sc_vJoin rv_vJoin
 refine eS fun K1 hn1 hr1 he1 => ?_;refine eO fun K2 hk2 => ?_;refine tL0 ?_;refine hk2 _ ?_;refine hn1 (some ([2,3,4],none)) _ ?_;refine eS fun K3 hn3 hr3 he3 => ?_;refine eS fun K4 hn4 hr4 he4 => ?_;refine eO fun K5 hk5 => ?_;refine tC0 2 ?_;refine tS0 1 ?_;refine ⟨fun hl0 => absurd hl0 (by exact hne),fun nl0 hp0 hl0 => ?_⟩;refine tZ0 ?_;refine hk5 _ ?_;refine hn4 (some ([2,3,4,11],none)) _ ?_;refine eC rfl (fun hx => absurd hx (by simp; omega)) (fun hc0 => ?_)
 clear hc0
 refine hn3 (some ([2,3,4],none)) _ ?_;refine eS fun K6 hn6 hr6 he6 => ?_;refine eO fun K7 hk7 => ?_;refine tC0 2 ?_;refine tS0 1 ?_;refine Or.inl (Or.inr (Or.inr ⟨_,_,_,map_cloneLoc _ hs,?_,fun hnil0 => ?_⟩))
 ·skip
  refine tL0 ?_;refine hk7 _ ?_;refine hn6 (some ([2,4,5],none)) _ ?_;refine eS fun _ hn8 _ _ => ?_;refine eS fun _ hn9 _ _ => ?_;refine eO fun _ hk10 => ?_;refine tC0 2 ?_;refine tL0 ?_
  first | refine ⟨rfl,fun cnt0 => ?_⟩ | intro cnt0
  refine hk10 _ ?_;refine hn9 (some ([4,5,18],none)) _ ?_;refine eB fun _ _ hx11 _ _ => ?_;refine eW (JInv a b) (cnt0) (some ([4,5,18],some ([2,3,4],3))) ([]) ?_ ?_
  ·try refine lp0 ?_
   refine ⟨fun i => (Option.map sI (a i)).isSome,none,fun j h => by simpa using h,?_⟩
   have e1 : (fun k => (joinP a b (fun i => (Option.map sI (a i)).isSome) k).map sI) = fun k => (b k).map sI := by
    funext k
    cases h : a k <;> simp [joinP,h]
   rw [e1]
  ·intro k S1 hI
   obtain ⟨left,cur,hleft,rfl⟩ := hI
   intro _ hn12 _ he12
   refine eS fun _ hn13 _ _ => ?_;refine eO fun _ hk14 => ?_;refine tS0 1 ?_;refine ⟨fun hno => ?_,fun jj sj cj hj1 hj2 hj3 hj4 hj5 => ?_⟩
   ·skip
    refine tL0 ?_;refine hk14 _ ?_;refine hn13 (some ([4,5,18,20],none)) _ ?_;refine eS fun _ _ _ he15 => ?_;refine eC rfl (fun hx => absurd hx (by cases hx)) (fun hc1 => ?_)
    clear hc1
    refine he15 0 _ ?_;refine he12 0 _ ?_;refine hx11 _ ?_;refine hn8 (some ([4,5],none)) _ ?_;refine eS fun _ hn16 _ _ => ?_;refine eO fun _ hk17 => ?_;refine tZ0 ?_;refine hk17 _ ?_;refine hn16 (some ([4],none)) _ ?_;refine sg0 ?_
    have e2 : joinP a b left = fun k => match a k with | some n => some (max (vGet b k) n) | none => b k := by
     funext k
     simp [joinP,hno k]
    rw [e2]
   ·skip
    obtain ⟨m,hm,rfl⟩ := Option.map_eq_some_iff.1 hj2
    have hget : joinP a b left jj = b jj := by simp [joinP,hj1]
    have hbd : ∀ (v : Sh) (q : Int),(if q = jj then some v else (joinP a b left q).map sI) ≠ none → 0 ≤ q ∧ q < ((4096 : Nat) : Int) := fun v q hq => by
     by_cases eq : q = jj
     ·have := ha.key jj (by rw [hm]; simp); subst eq; omega
     ·rw [if_neg eq] at hq
      have h1 : joinP a b left q ≠ none := fun h => hq (by rw [h]; rfl)
      unfold joinP at h1
      have h2 : b q ≠ none ∨ a q ≠ none := by
       cases h3 : a q with
       | some v => exact .inr (by simp)
       | none => left; intro h4; simp [h3,h4] at h1
      rcases h2 with h2 | h2
      ·have := hb.key q h2; omega
      ·have := ha.key q h2; omega
    have F1 := And.intro @hget @lk_int
    refine tL F1 ?_;refine hk14 _ ?_;refine hn13 (some ([4,5,18,20],none)) _ ?_;refine eS fun _ hn18 _ _ => ?_;refine eC rfl (fun hc1 => ?_) (fun hx => absurd hx (by cases hx))
    clear hc1
    refine hn18 (some ([4,5,18],none)) _ ?_;refine eB fun _ hn19 _ _ _ => ?_;refine eS fun _ hn20 _ _ => ?_;refine eO fun _ hk21 => ?_;refine tL F1 ?_;refine hk21 _ ?_;refine hn20 (some ([4,5,6,7,18],none)) _ ?_;refine eO fun _ hk22 => ?_;refine tC 5 F1 ?_;refine tZ F1 ?_;refine Or.inr ⟨4096,⟨by decide,hbd _⟩,?_⟩
    refine hk22 _ ?_;refine hn19 _ ?_;refine hn12 (cj) (some ([4,5,18],some ([0,1,2],3))) _ ?_ ?_
    all_goals try refine lp0 ?_
    ·exact hj5
    ·refine ⟨fun z => left z && z != jj,some (jj,sI m),fun j h => hleft j (by simp only [Bool.and_eq_true] at h; exact h.1),?_⟩
     rw [join_step hj1 hm]
 ·skip
  exact absurd hnil0 hne
end Go.Proofs.YtkmbcjnaaokilaaGreatDoor
