/-
  Layer 12 by shadows: the reference's Take; the law's rest.
  The shadow code of functions, written by a program; each is what the translator makes of the function.
-/
import Derived.Test.YtkmbcjnaaokilaaGreatDoorK12q
import Derived.Test.YtkmbcjnaaokilaaGreatDoorMC
namespace Go.Proofs.YtkmbcjnaaokilaaGreatDoor
set_option linter.unusedSimpArgs false
set_option linter.unusedVariables false
open Go.RowKit Go.Maps
def takeI (U : Nat → Bool) (B f : Nat) : Int := match takeU U B f with
 | some b => (b : Int)
 | none => -1
structure RestA (l : LayV) (a b : List WordV) : Prop where
 len : a.length = b.length
 w : ∀ (i : Nat) x y,a[i]? = some x → b[i]? = some y → y.ver = x.ver ∧ y.ref = x.ref ∧ (y.val = x.val ∨ (bitP l 0 ≤ (i : Int) ∧ (i : Int) ≤ bitP l (l.blocks.toNat - 1)))
def ReInv (l : LayV) (g g2 : Nat) (a b : List WordV) (k : Nat) (S : St) : Prop :=
 ∃ i : Nat,i ≤ a.length ∧ k = a.length - i ∧ S = ⟨[(1,.sl 3 g (a.map eWord)),(2,.sl 3 g2 (b.map eWord)),(7,sI (bitP l 0)),(9,sI (bitP l (l.blocks.toNat - 1))),(11,sI i)],[(0,.box 25 (eLay l))],1⟩
set_option maxHeartbeats 4000000 in
theorem ok_l12rest {l : LayV} (hl : checkL l = 0) (h1 : 1 ≤ l.blocks) (g g2 : Nat) (a b : List WordV) (hn : a.length ≤ 1000000) (h : RestA l a b) : Ok 20 [.agg (eLay l),.sl 3 g (a.map eWord),.sl 3 g2 (b.map eWord)] (sB true) := by
 refine ok_of_tr Tryz.func20 tr_l12rest rfl ?_
 have hb := (checkL_zero hl).1.2.2
 have d : ((a.length : Int) != (b.length : Int)) = false := by rw [h.len]; simp
 have k0 : Ok 38 [.agg (eLay l),sI 0] (.tup [sI (bitP l 0),sI (bitV 0)]) := ok_layBits hl 0 (by omega)
 have k1 := ok_layBits hl (l.blocks.toNat - 1) (by omega)
 have w0 : IntKind.i64.wrap (l.blocks - 1) = ((l.blocks.toNat - 1 : Nat) : Int) := by rw [IntKind.wrap_i64]; omega
 unfold evFn sc_l12rest rv_l12rest
 have F1 := And.intro @d @w0
 refine eS fun _ hn1 _ _ => ?_;refine eO fun _ hk2 => ?_;refine tL F1 ?_;refine hk2 _ ?_;refine hn1 (some ([1,2,3],none)) _ ?_;refine eS fun _ hn3 _ _ => ?_;refine eS fun _ hn4 _ _ => ?_;refine eO fun _ hk5 => ?_;refine tZ F1 ?_;refine hk5 _ ?_;refine hn4 (some ([1,2,3,17],none)) _ ?_;refine eCf ?_;refine hn3 (some ([1,2,3],none)) _ ?_;refine eS fun _ hn6 _ _ => ?_;refine eO fun _ hk7 => ?_;refine tC 1 F1 ?_;refine tS 1 F1 ?_;refine Or.inl (Or.inl ⟨_,k0,?_⟩);refine tL F1 ?_;refine hk7 _ ?_;refine hn6 (some ([1,2,3,7],none)) _ ?_;refine eS fun _ hn8 _ _ => ?_;refine eO fun _ hk9 => ?_;refine tC 1 F1 ?_;refine tC 2 F1 ?_;refine tC 1 F1 ?_;refine tS 1 F1 ?_;refine Or.inl (Or.inl ⟨_,k1,?_⟩);refine tL F1 ?_;refine hk9 _ ?_;refine hn8 (some ([1,2,7,9],none)) _ ?_;refine eS fun _ hn10 _ _ => ?_;refine eS fun _ hn11 _ _ => ?_;refine eO fun _ hk12 => ?_;refine tL F1 ?_;refine hk12 _ ?_;refine hn11 (some ([1,2,7,9,11],none)) _ ?_
 refine eB fun _ _ hx13 _ _ => ?_;refine eW (ReInv l g g2 a b) (a.length) (some ([1,2,7,9,11],some ([0],1))) ([]) ?_ ?_
 ·try refine lp0 ?_
  exact ⟨0,by omega,by omega,by rfl⟩
 ·intro k S1 hI
  obtain ⟨i,hi,rfl,rfl⟩ := hI
  have w3 : IntKind.i64.wrap ((i : Int) + 1) = ((i + 1 : Nat) : Int) := by rw [IntKind.wrap_i64]; omega
  have hcase : i = a.length ∨ ∃ x y,a[i]? = some x ∧ b[i]? = some y ∧ y.ver = x.ver ∧ y.ref = x.ref ∧ ((bitP l 0 ≤ (i : Int) ∧ (i : Int) ≤ bitP l (l.blocks.toNat - 1)) ∨ (y.val = x.val ∧ (i : Int) < bitP l 0) ∨ (y.val = x.val ∧ bitP l 0 ≤ (i : Int) ∧ bitP l (l.blocks.toNat - 1) < (i : Int))) := by
   rcases Nat.lt_or_ge i a.length with hc | hc
   ·have h1 := List.getElem?_eq_getElem hc
    have h2 := List.getElem?_eq_getElem (l := b) (i := i) (by have := h.len; omega)
    obtain ⟨q1,q2,q3⟩ := h.w i _ _ h1 h2
    refine .inr ⟨_,_,h1,h2,q1,q2,?_⟩
    rcases Int.lt_or_le (i : Int) (bitP l 0) with c | c
    ·rcases q3 with q3 | q3
     ·exact .inr (.inl ⟨q3,c⟩)
     ·omega
    ·rcases Int.lt_or_le (bitP l (l.blocks.toNat - 1)) (i : Int) with c2 | c2
     ·rcases q3 with q3 | q3
      ·exact .inr (.inr ⟨q3,c,c2⟩)
      ·omega
     ·exact .inl ⟨c,c2⟩
   ·exact .inl (by omega)
  intro _ hn14 _ he14
  rcases hcase with hcc | ⟨x,⟨y1,y2,y3⟩,hx1,hy1,hv,hr,⟨c1,c2⟩ | ⟨hz,c1⟩ | ⟨hz,c1,c2⟩⟩
  ·skip
   have w2 : ¬ (i : Int) < (a.length : Int) := by omega
   have F2 := And.intro F1 @w2
   refine eS fun _ _ _ he15 => ?_;refine eS fun _ hn16 _ _ => ?_;refine eO fun _ hk17 => ?_;refine tZ F2 ?_;refine hk17 _ ?_;refine hn16 (some ([1,2,7,9,11,34],none)) _ ?_;refine eCf ?_;refine he15 0 _ ?_;refine he14 0 _ ?_;refine hx13 _ ?_;refine hn10 (some ([],none)) _ ?_;refine eS fun _ hn18 _ _ => ?_;refine eO fun _ hk19 => ?_;refine tL F2 ?_;refine hk19 _ ?_;refine hn18 (some ([6],none)) _ ?_
   exact sf1 F2
  ·skip
   have hlt := (List.getElem?_eq_some_iff.1 hx1).1
   have w2 : (i : Int) < (a.length : Int) := by omega
   have w4 : (i : Int) < (b.length : Int) := by have := h.len; omega
   dsimp only at hv hr
   subst hv hr
   have F3 := And.intro F1 (And.intro @w2 (And.intro @w3 (And.intro @w4 (And.intro @hx1 (And.intro @hy1 (And.intro @c1 @c2))))))
   refine eS fun _ hn20 _ _ => ?_;refine eS fun _ hn21 _ _ => ?_;refine eO fun _ hk22 => ?_;refine tZ F3 ?_;refine hk22 _ ?_;refine hn21 (some ([1,2,7,9,11,34],none)) _ ?_;refine eCt ?_;refine hn20 (some ([1,2,7,9,11],none)) _ ?_;refine eS fun _ hn23 _ _ => ?_;refine eB fun _ hn24 _ _ _ => ?_;refine eS fun _ hn25 _ _ => ?_;refine eO fun _ hk26 => ?_;refine tC 3 F3 ?_;refine tC 1 F3 ?_;refine tZ F3 ?_;refine hk26 _ ?_;refine hn25 (some ([1,2,7,9,11,12],none)) _ ?_;refine eS fun _ hn27 _ _ => ?_;refine eS fun _ hn28 _ _ => ?_;refine eO fun _ hk29 => ?_;refine tC 3 F3 ?_;refine tC 4 F3 ?_;refine tL F3 ?_;refine hk29 _ ?_;refine hn28 (some ([1,2,7,9,11,12,48],none)) _ ?_;refine eCt ?_;refine eO fun _ hk30 => ?_;refine tC 3 F3 ?_;refine tC 2 F3 ?_;refine tZ F3 ?_;refine hk30 _ ?_;refine hn27 (some ([1,2,7,9,11,12],none)) _ ?_;refine eS fun _ hn31 _ _ => ?_;refine eD [] (n := 5) fun _ hk32 => ?_
   refine sq0 ?_;refine fC 1 F3 ?_;refine fC 3 F3 ?_;refine fZ F3 ?_;refine hk32 _ ?_;refine sr0 ?_;refine tL F3 ?_;refine Or.inl ⟨_,eqsh_word_refl x,?_⟩;refine hn31 (some ([1,2,7,9,11,60],none)) _ ?_;refine eCf ?_;refine hn24 _ ?_;refine hn23 (some ([1,2,7,9,11],none)) _ ?_;refine eO fun _ hk34 => ?_;refine tC 2 F3 ?_;refine tL F3 ?_;refine hk34 _ ?_;refine hn14 (a.length - (i + 1)) (some ([1,2,7,9,11],some ([0],1))) _ ?_ ?_
   all_goals try refine lp0 ?_
   ·omega
   ·exact ⟨i + 1,by omega,rfl,rfl⟩
  ·skip
   have hlt := (List.getElem?_eq_some_iff.1 hx1).1
   have w2 : (i : Int) < (a.length : Int) := by omega
   have w4 : (i : Int) < (b.length : Int) := by have := h.len; omega
   dsimp only at hv hr hz
   subst hv hr hz
   have c3 : ¬ bitP l 0 ≤ (i : Int) := by omega
   have F4 := And.intro F1 (And.intro @w2 (And.intro @w3 (And.intro @w4 (And.intro @hx1 (And.intro @hy1 @c3)))))
   refine eS fun _ hn35 _ _ => ?_;refine eS fun _ hn36 _ _ => ?_;refine eO fun _ hk37 => ?_;refine tZ F4 ?_;refine hk37 _ ?_;refine hn36 (some ([1,2,7,9,11,34],none)) _ ?_;refine eCt ?_;refine hn35 (some ([1,2,7,9,11],none)) _ ?_;refine eS fun _ hn38 _ _ => ?_;refine eB fun _ hn39 _ _ _ => ?_;refine eS fun _ hn40 _ _ => ?_;refine eO fun _ hk41 => ?_;refine tC 3 F4 ?_;refine tC 1 F4 ?_;refine tZ F4 ?_;refine hk41 _ ?_;refine hn40 (some ([1,2,7,9,11,12],none)) _ ?_;refine eS fun _ hn42 _ _ => ?_;refine eS fun _ hn43 _ _ => ?_;refine eO fun _ hk44 => ?_;refine tC 3 F4 ?_;refine tC 4 F4 ?_;refine tL F4 ?_;refine hk44 _ ?_;refine hn43 (some ([1,2,7,9,11,12,48],none)) _ ?_;refine eCf ?_;refine hn42 (some ([1,2,7,9,11,12],none)) _ ?_;refine eS fun _ hn45 _ _ => ?_;refine eD [] (n := 5) fun _ hk46 => ?_;refine sq0 ?_;refine fC 1 F4 ?_;refine fC 3 F4 ?_;refine fZ F4 ?_;refine hk46 _ ?_;refine sr0 ?_
   refine tL F4 ?_;refine Or.inl ⟨_,eqsh_word_refl x,?_⟩;refine hn45 (some ([1,2,7,9,11,60],none)) _ ?_;refine eCf ?_;refine hn39 _ ?_;refine hn38 (some ([1,2,7,9,11],none)) _ ?_;refine eO fun _ hk48 => ?_;refine tC 2 F4 ?_;refine tL F4 ?_;refine hk48 _ ?_;refine hn14 (a.length - (i + 1)) (some ([1,2,7,9,11],some ([0],1))) _ ?_ ?_
   all_goals try refine lp0 ?_
   ·omega
   ·exact ⟨i + 1,by omega,rfl,rfl⟩
  ·skip
   have hlt := (List.getElem?_eq_some_iff.1 hx1).1
   have w2 : (i : Int) < (a.length : Int) := by omega
   have w4 : (i : Int) < (b.length : Int) := by have := h.len; omega
   dsimp only at hv hr hz
   subst hv hr hz
   have c3 : ¬ (i : Int) ≤ bitP l (l.blocks.toNat - 1) := by omega
   have F5 := And.intro F1 (And.intro @w2 (And.intro @w3 (And.intro @w4 (And.intro @hx1 (And.intro @hy1 (And.intro @c1 @c3))))))
   refine eS fun _ hn49 _ _ => ?_;refine eS fun _ hn50 _ _ => ?_;refine eO fun _ hk51 => ?_;refine tZ F5 ?_;refine hk51 _ ?_;refine hn50 (some ([1,2,7,9,11,34],none)) _ ?_;refine eCt ?_;refine hn49 (some ([1,2,7,9,11],none)) _ ?_;refine eS fun _ hn52 _ _ => ?_;refine eB fun _ hn53 _ _ _ => ?_;refine eS fun _ hn54 _ _ => ?_;refine eO fun _ hk55 => ?_;refine tC 3 F5 ?_;refine tC 1 F5 ?_;refine tZ F5 ?_;refine hk55 _ ?_;refine hn54 (some ([1,2,7,9,11,12],none)) _ ?_;refine eS fun _ hn56 _ _ => ?_;refine eS fun _ hn57 _ _ => ?_;refine eO fun _ hk58 => ?_;refine tC 3 F5 ?_;refine tC 4 F5 ?_;refine tL F5 ?_;refine hk58 _ ?_;refine hn57 (some ([1,2,7,9,11,12,48],none)) _ ?_;refine eCf ?_;refine hn56 (some ([1,2,7,9,11,12],none)) _ ?_;refine eS fun _ hn59 _ _ => ?_;refine eD [] (n := 5) fun _ hk60 => ?_;refine sq0 ?_;refine fC 1 F5 ?_;refine fC 3 F5 ?_;refine fZ F5 ?_;refine hk60 _ ?_;refine sr0 ?_
   refine tL F5 ?_;refine Or.inl ⟨_,eqsh_word_refl x,?_⟩;refine hn59 (some ([1,2,7,9,11,60],none)) _ ?_;refine eCf ?_;refine hn53 _ ?_;refine hn52 (some ([1,2,7,9,11],none)) _ ?_;refine eO fun _ hk62 => ?_;refine tC 2 F5 ?_;refine tL F5 ?_;refine hk62 _ ?_;refine hn14 (a.length - (i + 1)) (some ([1,2,7,9,11],some ([0],1))) _ ?_ ?_
   all_goals try refine lp0 ?_
   ·omega
   ·exact ⟨i + 1,by omega,rfl,rfl⟩
end Go.Proofs.YtkmbcjnaaokilaaGreatDoor
namespace Go.Proofs.YtkmbcjnaaokilaaGreatDoor
open Go.RowKit

end Go.Proofs.YtkmbcjnaaokilaaGreatDoor
