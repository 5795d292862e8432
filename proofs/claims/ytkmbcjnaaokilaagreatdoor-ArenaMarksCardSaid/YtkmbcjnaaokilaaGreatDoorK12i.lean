/-
  Layer 8 once more, for codes that have a part of one's own memory: Alone.
-/
import Derived.Test.YtkmbcjnaaokilaaGreatDoorK12h
namespace Go.Proofs.YtkmbcjnaaokilaaGreatDoor
set_option linter.unusedSimpArgs false
set_option linter.unusedVariables false
open Go.RowKit Go.Maps
section
variable {C : Coder} {W : Owner C}
def APost (w : WorldM C) (O : List (Nat × Ob)) (n : Nat) (W : Owner C) (R : WorldM C × Bool) (_ : Hp → Env → Prop) (r : Sh) (O' : List (Nat × Ob)) (n' : Nat) : Prop :=
 ∃ w',fgtW W w' = fgtW W R.1 ∧ r = .tup [eWorld w',sB R.2] ∧ WOwn W w' O' n' ∧ OFr (wIds W w) (wIds W w') O n O' n'
structure AnI (W : Owner C) (w : WorldM C) (t : Int) (J : Hp → Env → Prop) (O : List (Nat × Ob)) (n i : Nat) (w' : WorldM C) (O1 : List (Nat × Ob)) (n1 : Nat) : Prop where
 fgt : fgtW W w' = fgtW W (goesM w t i)
 own : WOwn W w' O1 n1
 fr : OFr (wIds W w) (wIds W w') O n O1 n1
 le : n + 3 ≤ n1
 far : ∀ e ∈ wIds W w',e < n ∨ n + 3 ≤ e
 g1 : getA O1 (n + 1) = some (boxW w')
 g2 : getA O1 (n + 2) = some (.box 63 zCells)
 g0 : getA O1 n = some (.gh J)
def AoInv (W : Owner C) (w : WorldM C) (t : Int) (N K : Nat) (J : Hp → Env → Prop) (O : List (Nat × Ob)) (n : Nat) (k : Nat) (S : St) : Prop :=
 ∃ (i : Nat) (w' : WorldM C) (O1 : List (Nat × Ob)) (n1 : Nat),i ≤ N ∧ i ≤ K ∧ k = N - i ∧ S = ⟨[(1,sI t),(3,.ptr (n + 1) 0 0),(6,.ptr (n + 2) 0 0),(27,sI N),(28,sI i)],O1,n1⟩ ∧ AnI W w t J O n i w' O1 n1
set_option maxHeartbeats 8000000 in
theorem okO_kAlone (w : WorldM C) (m : Nat) (most : Int) {k : Nat} (h : WorldOk w k) (K : Nat) (hK0 : most.toNat ≤ K ∨ (stepM (goesM w ((m : Int) + 1) K) ⟨0,(m : Int) + 1,0⟩).2 = false) (hn : k + K ≤ 900) (hml : m < w.tasks.length) (hst : stoppedM w m = false)
  (O : List (Nat × Ob)) (n : Nat) (ho : WOwn W w O n) : OkO 26 [eWorld w,sI ((m : Int) + 1),sI most] O n (APost w O n W (goesM w ((m : Int) + 1) most.toNat,!(liveAt (goesM w ((m : Int) + 1) most.toNat) m))) := by
 refine okO_of_trS Tryz.func26 tr_kAlone rfl fun J => ?_
 have hid := oid n
 have hK := shK C
 have h8 := worldOk_eight h
 have hlt : ∀ e ∈ wIds W w,e < n := fun e he => wOwn_lt ho he
 have h1 : ¬ ((m : Int) + 1) < 1 := by omega
 have h2 : ¬ (w.tasks.length : Int) < (m : Int) + 1 := by omega
 have q1 : IntKind.i64.wrap ((m : Int) + 1 - 1) = (m : Int) := by rw [IntKind.wrap_i64]; omega
 have k0 := ok_kStopped w m (by omega)
 rw [hst] at k0
 obtain ⟨t,ht⟩ : ∃ t : Int,t = (m : Int) + 1 := ⟨_,rfl⟩
 rw [← ht] at hK0 h1 h2 q1 ⊢
 have HT := Lib.hid ht
 clear ht
 obtain ⟨N,hN⟩ : ∃ N,N = most.toNat := ⟨_,rfl⟩
 have q2 : max most 0 = (N : Int) := by omega
 rw [← hN] at hK0 ⊢
 have HN := Lib.hid hN
 clear hN
 unfold sc_kAlone rv_kAlone
 have F1 := And.intro @hid (And.intro @h1 (And.intro @h2 (And.intro @q1 (And.intro @q2 @hK))))
 refine eS fun _ hn1 _ _ => ?_;refine eO fun _ hk2 => ?_;refine tL F1 ?_;refine hk2 _ ?_;refine hn1 (some ([1,2,3,6],none)) _ ?_;refine eS fun _ hn3 _ _ => ?_;refine eS fun _ hn4 _ _ => ?_;refine eO fun _ hk5 => ?_;refine tC 2 F1 ?_;refine tC 4 F1 ?_;refine tC 2 F1 ?_;refine tC 3 F1 ?_;refine tC 2 F1 ?_;refine tS 1 F1 ?_;refine Or.inl (Or.inl ⟨_,k0,?_⟩);refine tL F1 ?_;refine hk5 _ ?_;refine hn4 (some ([1,2,3,6,24],none)) _ ?_;refine eCf ?_;refine hn3 (some ([1,2,3,6],none)) _ ?_;refine eS fun _ hn6 _ _ => ?_;refine eS fun _ hn7 _ _ => ?_;refine eO fun _ hk8 => ?_;refine tL F1 ?_;refine hk8 _ ?_;refine hn7 (some ([1,3,6,27,28],none)) _ ?_;refine eB fun _ _ hx9 _ _ => ?_;refine eW (AoInv W w t N K J O n) (N) (some ([1,3,6,27,28],none)) ([]) ?_ ?_
 ·try refine lp0 ?_
  refine ⟨0,w,_,_,by omega,by omega,by omega,rfl,⟨rfl,wOwn_to ho (by omega) fun e he => ?_,⟨by omega,fun e he hx => ?_,fun e he => .inl he⟩,by omega,fun e he => .inl (hlt e he),?_,?_,?_⟩⟩
  ·have := hlt e he
   simp only [getA,getA_delO]; repeat rw [if_neg (by omega)]
  ·simp only [getA,getA_delO]; repeat rw [if_neg (by omega)]
  ·simp [getA]
  ·simp [getA]
  ·simp [getA]
 ·intro k S1 hI
  obtain ⟨i,w',O1,n1,hi,hiK,rfl,rfl,hA⟩ := hI
  have hid1 := oid n1
  have hle1 := hA.le
  have d0 := odl (n := n1) (d := n) (by omega)
  have d1 := odl (n := n1) (d := n + 1) (by omega)
  have d2 := odl (n := n1) (d := n + 2) (by omega)
  have a0 := hA.g0
  have a1 := hA.g1
  have a2 := hA.g2
  have hW := worldOk_fgt hA.fgt.symm (goesOk t i h)
  have hlen : w'.tasks.length = w.tasks.length := (fgtW_len hA.fgt).trans (goes_len t i w)
  have hst' := step_fgt hA.fgt ⟨0,t,0⟩
  obtain ⟨y,hy⟩ : ∃ y,w'.tasks[m]? = some y := ⟨_,List.getElem?_eq_getElem (by omega)⟩
  have e1 : liveAt w' m = y.live := by unfold liveAt; rw [hy]; rfl
  have q3 : m < w'.tasks.length := by omega
  have q4 : (0 : Int) ≤ (m : Int) := by omega
  have q5 : (m : Int) < (w'.tasks.length : Int) := by omega
  have k2 := ok_kDone y
  have hlt1 : ∀ e ∈ wIds W w',e < n1 := fun e he => wOwn_lt hA.own he
  have hcase : i = N ∨ (i < N ∧ (stepM (goesM w t i) ⟨0,t,0⟩).2 = false) ∨ (i < N ∧ i < K ∧ (stepM (goesM w t i) ⟨0,t,0⟩).2 = true) := by
   rcases Nat.lt_or_ge i N with h | h
   ·cases hs : (stepM (goesM w t i) ⟨0,t,0⟩).2
    ·exact .inr (.inl ⟨h,rfl⟩)
    ·refine .inr (.inr ⟨h,?_,rfl⟩)
     rcases hK0 with h9 | h9
     ·omega
     ·rcases Nat.lt_or_ge i K with h3 | h3
      ·exact h3
      ·obtain rfl : i = K := by omega
       rw [hs] at h9; cases h9
   ·exact .inl (by omega)
  intro _ hn10 _ he10
  rcases hcase with hcc | ⟨hcc,hs⟩ | ⟨hcc,hcK,hs⟩
  ·skip
   have w2 : ¬ (i : Int) < (N : Int) := by omega
   subst hcc
   have hlv : liveAt (goesM w t i) m = y.live := by rw [← live_fgt hA.fgt,e1]
   have F2 := And.intro F1 (And.intro @hid1 (And.intro @d0 (And.intro @d1 (And.intro @d2 (And.intro @a0 (And.intro @a1 (And.intro @a2 (And.intro @w2 (And.intro @hy (And.intro @q3 (And.intro @q4 @q5)))))))))))
   refine eS fun _ hn11 _ _ => ?_;refine eO fun _ hk12 => ?_;refine tZ F2 ?_;refine hk12 _ ?_;refine hn11 (some ([1,3,6,27,28,29],none)) _ ?_;refine eS fun _ _ _ he13 => ?_;refine eCf ?_;refine he13 0 _ ?_;refine he10 0 _ ?_;refine hx9 _ ?_;refine hn6 (some ([1,3,6],none)) _ ?_;refine eS fun _ hn14 _ _ => ?_;refine eD [] (n := 8) fun _ hk15 => ?_;refine sq0 ?_;refine fC 1 F2 ?_;refine fC 2 F2 ?_;refine fC 2 F2 ?_;refine fC 1 F2 ?_;refine fC 1 F2 ?_;refine fL F2 ?_;refine ⟨_,k2,?_⟩;refine hk15 _ ?_;refine sr0 ?_;refine tC 1 F2 ?_;refine tL F2 ?_;refine hn14 (some ([6,7],none)) _ ?_
   first | refine finO_ret (sgE1 F2) (sgE1 F2) (sgE1 F2) ?_ | refine finO_next (sgE1 F2) (sgE1 F2) (sgE1 F2) ?_
   try dsimp only
   refine ⟨w',hA.fgt,by rw [hlv]; rfl,wOwn_to hA.own (by omega) fun e he => ?_,⟨by omega,fun e he hx => ?_,hA.fr.new⟩⟩
   ·rcases hA.far e he with h9 | h9
    ·simp only [getA,getA_delO]; repeat rw [if_neg (by omega)]
    ·simp only [getA,getA_delO]; repeat rw [if_neg (by omega)]
   ·simp only [getA,getA_delO]; repeat rw [if_neg (by omega)]
    exact hA.fr.old e he hx
  ·skip
   have w2 : (i : Int) < (N : Int) := by omega
   have k1 := okO_kStep w' ⟨0,t,0⟩ hW (by omega) O1 n1 hA.own
   have hst2 : goesM w t N = goesM w t i := by
    rw [show N = i + (N - i) by omega,goes_add,goes_stuck hs]
   have hlv : liveAt (goesM w t N) m = y.live := by rw [hst2,← live_fgt hA.fgt,e1]
   rw [← hst'.2] at hs
   have F3 := And.intro F1 (And.intro @hid1 (And.intro @d0 (And.intro @d1 (And.intro @d2 (And.intro @a0 (And.intro @a1 (And.intro @a2 (And.intro @w2 (And.intro @hy (And.intro @q3 (And.intro @q4 @q5)))))))))))
   refine eS fun _ hn17 _ _ => ?_;refine eO fun _ hk18 => ?_;refine tZ F3 ?_;refine hk18 _ ?_;refine hn17 (some ([1,3,6,27,28,29],none)) _ ?_;refine eS fun _ hn19 _ _ => ?_;refine eCt ?_;refine hn19 (some ([1,3,6,27,28],none)) _ ?_;refine eS fun _ _ _ he20 => ?_;refine eB fun _ _ _ _ he21 => ?_;refine eS fun _ hn22 _ _ => ?_;refine eO fun _ hk23 => ?_;refine tC 1 F3 ?_;refine tS 2 F3 ?_;refine tS 1 F3 ?_;refine Or.inr (evCallO_mk (k1) (sgE1 F3) (fun Jo1 ro1 Oo1 no1 hPo1 => ?_))
   obtain ⟨w9,hw9,rfl,hO9,hF9,hE9⟩ := hPo1
   rw [hs] at hE9
   rw [hs]
   have hE9 := hE9 rfl
   subst hE9
   have hle9 := hF9.le
   have g0 := hF9.at (e := n) (X := .gh J) (by omega) (fun hm => by rcases hA.far _ hm with h | h <;> omega) a0
   have g1 := hF9.at (e := n + 1) (X := boxW w9) (by omega) (fun hm => by rcases hA.far _ hm with h | h <;> omega) a1
   have g2 := hF9.at (e := n + 2) (X := .box 63 zCells) (by omega) (fun hm => by rcases hA.far _ hm with h | h <;> omega) a2
   have hid2 := oid no1
   have c0 := odl (n := no1) (d := n) (by omega)
   have c1 := odl (n := no1) (d := n + 1) (by omega)
   have c2 := odl (n := no1) (d := n + 2) (by omega)
   have F4 := And.intro F3 (And.intro @hid2 (And.intro @c0 (And.intro @c1 (And.intro @c2 (And.intro @g0 (And.intro @g1 @g2))))))
   refine tC 5 F4 ?_;refine tL F4 ?_;refine hk23 _ ?_;refine hn22 (some ([1,3,6,8,9,27,28],none)) _ ?_;refine eS fun _ _ _ he24 => ?_;refine eS fun _ hn25 _ _ => ?_;refine eO fun _ hk26 => ?_;refine tL F4 ?_;refine hk26 _ ?_;refine hn25 (some ([1,3,6,8,27,28,38],none)) _ ?_;refine eCt ?_;refine he24 0 _ ?_;refine he21 0 _ (by decide) ?_;refine he20 0 _ ?_;refine he10 0 _ ?_;refine hx9 _ ?_;refine hn6 (some ([1,3,6],none)) _ ?_;refine eS fun _ hn27 _ _ => ?_;refine eD [] (n := 8) fun _ hk28 => ?_;refine sq0 ?_;refine fC 1 F4 ?_;refine fC 2 F4 ?_;refine fC 2 F4 ?_;refine fC 1 F4 ?_;refine fC 1 F4 ?_;refine fL F4 ?_;refine ⟨_,k2,?_⟩;refine hk28 _ ?_;refine sr0 ?_;refine tC 1 F4 ?_;refine tL F4 ?_;refine hn27 (some ([6,7],none)) _ ?_
   first | refine finO_ret (sgE1 F4) (sgE1 F4) (sgE1 F4) ?_ | refine finO_next (sgE1 F4) (sgE1 F4) (sgE1 F4) ?_
   try dsimp only
   refine ⟨w9,by rw [hst2]; exact hA.fgt,by rw [hlv]; rfl,wOwn_to hO9 (by omega) fun e he => ?_,⟨by omega,fun e he hx => ?_,hA.fr.new⟩⟩
   ·have h8 := hlt1 e he
    rcases hA.far e he with h9 | h9
    ·simp only [getA,getA_delO]; repeat rw [if_neg (by omega)]
    ·simp only [getA,getA_delO]; repeat rw [if_neg (by omega)]
   ·have hx9 : e ∉ wIds W w9 := fun hm => by
     rcases hA.fr.new e hm with h8 | h8
     ·exact hx h8
     ·omega
    simp only [getA,getA_delO]; repeat rw [if_neg (by omega)]
    rw [hF9.old e (by omega) hx9]
    exact hA.fr.old e he hx
  ·skip
   have w2 : (i : Int) < (N : Int) := by omega
   have w3 : IntKind.i64.wrap ((i : Int) + 1) = ((i + 1 : Nat) : Int) := by rw [IntKind.wrap_i64]; omega
   have k1 := okO_kStep w' ⟨0,t,0⟩ hW (by omega) O1 n1 hA.own
   have hst2 : goesM w t (i + 1) = (stepM (goesM w t i) ⟨0,t,0⟩).1 := by rw [goes_succ,if_pos hs]
   rw [← hst'.2] at hs
   have F5 := And.intro F1 (And.intro @hid1 (And.intro @d0 (And.intro @d1 (And.intro @d2 (And.intro @a0 (And.intro @a1 (And.intro @a2 (And.intro @w2 @w3))))))))
   refine eS fun _ hn30 _ _ => ?_;refine eO fun _ hk31 => ?_;refine tZ F5 ?_;refine hk31 _ ?_;refine hn30 (some ([1,3,6,27,28,29],none)) _ ?_;refine eS fun _ hn32 _ _ => ?_;refine eCt ?_;refine hn32 (some ([1,3,6,27,28],none)) _ ?_;refine eS fun _ hn33 _ _ => ?_;refine eB fun _ hn34 _ _ _ => ?_;refine eS fun _ hn35 _ _ => ?_;refine eO fun _ hk36 => ?_;refine tC 1 F5 ?_;refine tS 2 F5 ?_;refine tS 1 F5 ?_;refine Or.inr (evCallO_mk (k1) (sgE1 F5) (fun Jo1 ro1 Oo1 no1 hPo1 => ?_))
   obtain ⟨w9,hw9,rfl,hO9,hF9,_⟩ := hPo1
   rw [hs]
   have hle9 := hF9.le
   have g0 := hF9.at (e := n) (X := .gh J) (by omega) (fun hm => by rcases hA.far _ hm with h | h <;> omega) a0
   have g1 := hF9.at (e := n + 1) (X := boxW w') (by omega) (fun hm => by rcases hA.far _ hm with h | h <;> omega) a1
   have g2 := hF9.at (e := n + 2) (X := .box 63 zCells) (by omega) (fun hm => by rcases hA.far _ hm with h | h <;> omega) a2
   have hid2 := oid no1
   have c0 := odl (n := no1) (d := n) (by omega)
   have c1 := odl (n := no1) (d := n + 1) (by omega)
   have c2 := odl (n := no1) (d := n + 2) (by omega)
   have F6 := And.intro F5 (And.intro @hid2 (And.intro @c0 (And.intro @c1 (And.intro @c2 (And.intro @g0 (And.intro @g1 @g2))))))
   refine tC 5 F6 ?_;refine tL F6 ?_;refine hk36 _ ?_;refine hn35 (some ([1,3,6,8,9,27,28],none)) _ ?_;refine eS fun _ hn37 _ _ => ?_;refine eS fun _ hn38 _ _ => ?_;refine eO fun _ hk39 => ?_;refine tL F6 ?_;refine hk39 _ ?_;refine hn38 (some ([1,3,6,8,27,28,38],none)) _ ?_;refine eCf ?_;refine hn37 (some ([1,3,6,8,27,28],none)) _ ?_;refine eO fun _ hk40 => ?_;refine tC 1 F6 ?_;refine tZ F6 ?_;refine hk40 _ ?_;refine hn34 _ ?_;refine hn33 (some ([1,3,6,27,28],none)) _ ?_;refine eO fun _ hk41 => ?_;refine tC 1 F6 ?_;refine tL F6 ?_;refine hk41 _ ?_;refine hn10 (N - (i + 1)) (some ([1,3,6,27,28],none)) _ ?_ ?_
   all_goals try refine lp0 ?_
   ·omega
   ·have hlt9 : ∀ e ∈ wIds W w9,e < no1 := fun e he => wOwn_lt hO9 he
    have hfar : ∀ e ∈ wIds W w9,(e < n ∨ n + 3 ≤ e) ∧ e ≠ n1 := fun e he => by
     rcases hF9.new e he with h9 | h9
     ·have := hA.far e h9
      have := hlt1 e h9
      exact ⟨by assumption,by omega⟩
     ·exact ⟨.inr (by omega),by omega⟩
    refine ⟨i + 1,w9,_,_,by omega,by omega,by omega,rfl,⟨by rw [hst2,hw9]; exact hst'.1,wOwn_to hO9 (by omega) fun e he => ?_,⟨by omega,fun e he hx => ?_,fun e he => ?_⟩,by omega,fun e he => (hfar e he).1,?_,?_,?_⟩⟩
    ·have h7 := hlt9 e he
     obtain ⟨h9 | h9,h8⟩ := hfar e he
     ·simp only [getA,getA_delO]; repeat rw [if_neg (by omega)]
     ·simp only [getA,getA_delO]; repeat rw [if_neg (by omega)]
    ·have hx9 : e ∉ wIds W w' := fun hm => by
      rcases hA.fr.new e hm with h8 | h8
      ·exact hx h8
      ·omega
     simp only [getA,getA_delO]; repeat rw [if_neg (by omega)]
     rw [hF9.old e (by omega) hx9]
     exact hA.fr.old e he hx
    ·rcases hF9.new e he with h9 | h9
     ·exact hA.fr.new e h9
     ·exact .inr (by omega)
    ·simp only [getA,getA_delO,reduceIte]; first | rfl | (repeat rw [if_neg (by omega)])
    ·simp only [getA,getA_delO]; repeat rw [if_neg (by omega)]
     exact g2
    ·simp only [getA,getA_delO]; repeat rw [if_neg (by omega)]
     exact g0
end
end Go.Proofs.YtkmbcjnaaokilaaGreatDoor
