/-
  Layer 8 by shadows: a thread alone.
-/
import Derived.Test.YtenbagffdlljdaaK8c
import Derived.Test.YtenbagffdlljdaaMC
namespace Go.Proofs.Ytenbagffdlljdaa
set_option linter.unusedSimpArgs false
set_option linter.unusedVariables false
open Go.RowKit Go.Maps
theorem step_len {C : Coder} (w : WorldM C) (t : Int) : (stepM w ⟨0, t, 0⟩).1.tasks.length = w.tasks.length := by
  unfold stepM
  split
  · rfl
  · rw [if_neg (by simp)]
    split
    · rfl
    · rw [if_pos rfl]
      unfold goM
      split
      · simp [setTask]
      · rfl
theorem goes_len {C : Coder} (t : Int) : ∀ (k : Nat) (w : WorldM C), (goesM w t k).tasks.length = w.tasks.length
  | 0, _ => rfl
  | k + 1, w => by
    unfold goesM
    split
    · rw [goes_len t k, step_len]
    · rfl
theorem goes_stuck {C : Coder} {w : WorldM C} {t : Int} (h : (stepM w ⟨0, t, 0⟩).2 = false) : ∀ k, goesM w t k = w
  | 0 => rfl
  | k + 1 => by unfold goesM; rw [if_neg (by rw [h]; simp)]
theorem goes_add {C : Coder} (t : Int) : ∀ (i k : Nat) (w : WorldM C), goesM w t (i + k) = goesM (goesM w t i) t k
  | 0, k, w => by rw [Nat.zero_add]; rfl
  | i + 1, k, w => by
    rw [show i + 1 + k = (i + k) + 1 by omega]
    by_cases h : (stepM w ⟨0, t, 0⟩).2 = true
    · rw [goesM, if_pos h, goesM, if_pos h]
      exact goes_add t i k _
    · rw [goesM, if_neg h, goesM, if_neg h]
      exact (goes_stuck (by simpa using h) k).symm
def AnInv {C : Coder} (w : WorldM C) (t : Int) (N : Nat) (k : Nat) (S : St) : Prop :=
  ∃ i : Nat, i ≤ N ∧ k = N - i ∧ S = ⟨[(1, sI t), (3, .ptr 0 0 0), (6, .ptr 1 0 0), (27, sI N), (28, sI i)], [(0, boxW (goesM w t i)), (1, .box 85 zCells)], 2⟩
set_option maxHeartbeats 4000000 in
theorem ok_kAlone {C : Coder} [CoRuns C] (w : WorldM C) (t most : Int) {n : Nat} (h : WorldOk w n) (hn : n + most.toNat ≤ 900) : Ok 65 [eWorld w, sI t, sI most] (.tup [eWorld (aloneM w t most).1, sB (aloneM w t most).2]) := by
  refine ok_of_tr Try.func65 tr_kAlone rfl ?_
  have hK := shK C
  have h8 := worldOk_eight h
  unfold aloneM
  by_cases h1 : t < 1
  · rw [if_pos (.inl h1)]
    unfold evFn sc_kAlone rv_kAlone
    have F1 := @h1
    refine eS fun K1 hn1 hr1 he1 => ?_;refine eO fun K2 hk2 => ?_;refine tL F1 ?_;refine hk2 _ ?_;refine hn1 (some ([1,2,3,6], none)) _ ?_;refine eS fun K3 hn3 hr3 he3 => ?_;refine eS fun K4 hn4 hr4 he4 => ?_;refine eO fun K5 hk5 => ?_;refine tC 2 F1 ?_;refine tC 4 F1 ?_;refine tC 2 F1 ?_;refine tC 3 F1 ?_;refine tC 2 F1 ?_;refine tS 1 F1 ?_
    skip
    refine tL F1 ?_;refine hk5 _ ?_;refine hn4 (some ([1,2,3,6,24], none)) _ ?_;refine eCt ?_;refine eS fun K6 hn6 hr6 he6 => ?_;refine eO fun K7 hk7 => ?_;refine tC 1 F1 ?_;refine tC 1 F1 ?_;refine tL F1 ?_;refine hk7 _ ?_;refine hn6 (some ([6,7], none)) _ ?_;refine hr3 _ ?_
    exact sf1 F1
  by_cases h2 : (w.tasks.length : Int) < t
  · rw [if_pos (.inr (.inl h2))]
    unfold evFn sc_kAlone rv_kAlone
    have F1 := And.intro @h1 @h2
    refine eS fun K1 hn1 hr1 he1 => ?_;refine eO fun K2 hk2 => ?_;refine tL F1 ?_;refine hk2 _ ?_;refine hn1 (some ([1,2,3,6], none)) _ ?_;refine eS fun K3 hn3 hr3 he3 => ?_;refine eS fun K4 hn4 hr4 he4 => ?_;refine eO fun K5 hk5 => ?_;refine tC 2 F1 ?_;refine tC 4 F1 ?_;refine tC 2 F1 ?_;refine tC 3 F1 ?_;refine tC 2 F1 ?_;refine tS 1 F1 ?_
    skip
    refine tL F1 ?_;refine hk5 _ ?_;refine hn4 (some ([1,2,3,6,24], none)) _ ?_;refine eCt ?_;refine eS fun K6 hn6 hr6 he6 => ?_;refine eO fun K7 hk7 => ?_;refine tC 1 F1 ?_;refine tC 1 F1 ?_;refine tL F1 ?_;refine hk7 _ ?_;refine hn6 (some ([6,7], none)) _ ?_;refine hr3 _ ?_
    exact sf1 F1
  obtain ⟨m, hm⟩ := Int.eq_ofNat_of_zero_le (show 0 ≤ t - 1 by omega)
  have q1 : IntKind.i64.wrap (t - 1) = (m : Int) := by rw [IntKind.wrap_i64]; omega
  have k0 := ok_kStopped w m (by omega)
  rw [hm, Int.toNat_natCast]
  cases hb : stoppedM w m
  case true =>
    rw [hb] at k0
    rw [if_pos (.inr (.inr rfl))]
    unfold evFn sc_kAlone rv_kAlone
    have F1 := And.intro @h1 (And.intro @h2 @q1)
    refine eS fun K1 hn1 hr1 he1 => ?_;refine eO fun K2 hk2 => ?_;refine tL F1 ?_;refine hk2 _ ?_;refine hn1 (some ([1,2,3,6], none)) _ ?_;refine eS fun K3 hn3 hr3 he3 => ?_;refine eS fun K4 hn4 hr4 he4 => ?_;refine eO fun K5 hk5 => ?_;refine tC 2 F1 ?_;refine tC 4 F1 ?_;refine tC 2 F1 ?_;refine tC 3 F1 ?_;refine tC 2 F1 ?_;refine tS 1 F1 ?_;refine Or.inl (Or.inl ⟨_, k0, ?_⟩);refine tL F1 ?_;refine hk5 _ ?_;refine hn4 (some ([1,2,3,6,24], none)) _ ?_;refine eCt ?_;refine eS fun K6 hn6 hr6 he6 => ?_;refine eO fun K7 hk7 => ?_;refine tC 1 F1 ?_;refine tC 1 F1 ?_;refine tL F1 ?_;refine hk7 _ ?_;refine hn6 (some ([6,7], none)) _ ?_;refine hr3 _ ?_
    exact sf1 F1
  rw [hb] at k0
  rw [if_neg (by rintro (a | a | a) <;> first | omega | cases a)]
  obtain ⟨N, hN⟩ : ∃ N, N = most.toNat := ⟨_, rfl⟩
  have q2 : max most 0 = (N : Int) := by omega
  rw [← hN] at hn ⊢
  have HN := Lib.hid hN
  clear hN
  unfold evFn sc_kAlone rv_kAlone
  have F1 := And.intro @h1 (And.intro @h2 (And.intro @q1 @q2))
  refine eS fun K1 hn1 hr1 he1 => ?_;refine eO fun K2 hk2 => ?_;refine tL F1 ?_;refine hk2 _ ?_;refine hn1 (some ([1,2,3,6], none)) _ ?_;refine eS fun K3 hn3 hr3 he3 => ?_;refine eS fun K4 hn4 hr4 he4 => ?_;refine eO fun K5 hk5 => ?_;refine tC 2 F1 ?_;refine tC 4 F1 ?_;refine tC 2 F1 ?_;refine tC 3 F1 ?_;refine tC 2 F1 ?_;refine tS 1 F1 ?_;refine Or.inl (Or.inl ⟨_, k0, ?_⟩);refine tL F1 ?_;refine hk5 _ ?_;refine hn4 (some ([1,2,3,6,24], none)) _ ?_;refine eCf ?_;refine hn3 (some ([1,2,3,6], none)) _ ?_;refine eS fun K6 hn6 hr6 he6 => ?_;refine eS fun K7 hn7 _ _ => ?_;refine eO fun _ hk8 => ?_;refine tL F1 ?_;refine hk8 _ ?_;refine hn7 (some ([1,3,6,27,28], none)) _ ?_;refine eB fun _ _ hx9 _ _ => ?_;refine eW (AnInv w t N) (N) (some ([1,3,6,27,28], some ([0,1], 2))) ([]) ?_ ?_
  · try refine lp0 ?_
    exact ⟨0, by omega, by omega, by rfl⟩
  · intro k S1 hI
    obtain ⟨i, hi, rfl, rfl⟩ := hI
    have hcase : i = N ∨ (i < N ∧ (stepM (goesM w t i) ⟨0, t, 0⟩).2 = false) ∨ (i < N ∧ (stepM (goesM w t i) ⟨0, t, 0⟩).2 = true) := by
      rcases Nat.lt_or_ge i N with h | h
      · cases hs : (stepM (goesM w t i) ⟨0, t, 0⟩).2
        · exact .inr (.inl ⟨h, rfl⟩)
        · exact .inr (.inr ⟨h, rfl⟩)
      · exact .inl (by omega)
    have hW := goesOk t i h
    have hlen := goes_len t i w
    obtain ⟨y, hy⟩ : ∃ y, (goesM w t i).tasks[m]? = some y := ⟨_, List.getElem?_eq_getElem (by omega)⟩
    have e1 : liveAt (goesM w t i) m = y.live := by unfold liveAt; rw [hy]; rfl
    have k2 := ok_kDone y
    have q3 : m < (goesM w t i).tasks.length := by omega
    have k1 := ok_kStep (goesM w t i) ⟨0, t, 0⟩ hW (by omega)
    intro _ hn10 _ he10
    rcases hcase with hcc | ⟨hcc, hs⟩ | ⟨hcc, hs⟩
    · skip
      have w2 : ¬ (i : Int) < (N : Int) := by omega
      subst hcc
      have F2 := And.intro F1 (And.intro @w2 (And.intro @hy (And.intro @hK (And.intro @q3 @e1))))
      refine eS fun _ hn11 _ _ => ?_;refine eO fun _ hk12 => ?_;refine tZ F2 ?_;refine hk12 _ ?_;refine hn11 (some ([1,3,6,27,28,29], none)) _ ?_;refine eS fun _ _ _ he13 => ?_;refine eCf ?_;refine he13 0 _ ?_;refine he10 0 _ ?_;refine hx9 _ ?_;refine hn6 (some ([1,3,6], none)) _ ?_;refine eS fun _ hn14 _ _ => ?_;refine eD [] (n := 8) fun _ hk15 => ?_;refine sq0 ?_;refine fC 1 F2 ?_;refine fC 2 F2 ?_;refine fC 2 F2 ?_;refine fC 1 F2 ?_;refine fC 1 F2 ?_;refine fL F2 ?_;refine ⟨_, k2, ?_⟩;refine hk15 _ ?_;refine sr0 ?_;refine tC 1 F2 ?_;refine tL F2 ?_;refine hn14 (some ([6,7], none)) _ ?_
      exact sf1 F2
    · skip
      have w2 : (i : Int) < (N : Int) := by omega
      have hst : goesM w t N = goesM w t i := by
        rw [show N = i + (N - i) by omega, goes_add, goes_stuck hs]
      rw [hs] at k1
      generalize (stepM (goesM w t i) ⟨0, t, 0⟩).1 = Q at k1
      have F3 := And.intro F1 (And.intro @w2 (And.intro @hy (And.intro @hK (And.intro @q3 (And.intro @e1 @hst)))))
      refine eS fun _ hn17 _ _ => ?_;refine eO fun _ hk18 => ?_;refine tZ F3 ?_;refine hk18 _ ?_;refine hn17 (some ([1,3,6,27,28,29], none)) _ ?_;refine eS fun _ hn19 _ _ => ?_;refine eCt ?_;refine hn19 (some ([1,3,6,27,28], none)) _ ?_;refine eS fun _ _ _ he20 => ?_;refine eB fun _ _ _ _ he21 => ?_;refine eS fun _ hn22 _ _ => ?_;refine eO fun _ hk23 => ?_;refine tC 1 F3 ?_;refine tS 2 F3 ?_;refine tS 1 F3 ?_;refine Or.inl (Or.inl ⟨_, k1, ?_⟩);refine tC 5 F3 ?_;refine tL F3 ?_;refine hk23 _ ?_;refine hn22 (some ([1,3,6,8,9,27,28], none)) _ ?_;refine eS fun _ _ _ he24 => ?_;refine eS fun _ hn25 _ _ => ?_;refine eO fun _ hk26 => ?_;refine tL F3 ?_;refine hk26 _ ?_;refine hn25 (some ([1,3,6,8,27,28,38], none)) _ ?_;refine eCt ?_;refine he24 0 _ ?_;refine he21 0 _ (by decide) ?_;refine he20 0 _ ?_;refine he10 0 _ ?_;refine hx9 _ ?_;refine hn6 (some ([1,3,6], none)) _ ?_;refine eS fun _ hn27 _ _ => ?_
      refine eD [] (n := 8) fun _ hk28 => ?_;refine sq0 ?_;refine fC 1 F3 ?_;refine fC 2 F3 ?_;refine fC 2 F3 ?_;refine fC 1 F3 ?_;refine fC 1 F3 ?_;refine fL F3 ?_;refine ⟨_, k2, ?_⟩;refine hk28 _ ?_;refine sr0 ?_;refine tC 1 F3 ?_;refine tL F3 ?_;refine hn27 (some ([6,7], none)) _ ?_
      exact sf1 F3
    · skip
      have w2 : (i : Int) < (N : Int) := by omega
      have w3 : IntKind.i64.wrap ((i : Int) + 1) = ((i + 1 : Nat) : Int) := by rw [IntKind.wrap_i64]; omega
      have hst : goesM w t (i + 1) = (stepM (goesM w t i) ⟨0, t, 0⟩).1 := by rw [goes_succ, if_pos hs]
      rw [hs, ← hst] at k1
      obtain ⟨Q, hQ⟩ : ∃ Q, Q = goesM w t (i + 1) := ⟨_, rfl⟩
      rw [← hQ] at k1
      have F4 := And.intro F1 (And.intro @w2 @w3)
      refine eS fun _ hn30 _ _ => ?_;refine eO fun _ hk31 => ?_;refine tZ F4 ?_;refine hk31 _ ?_;refine hn30 (some ([1,3,6,27,28,29], none)) _ ?_;refine eS fun _ hn32 _ _ => ?_;refine eCt ?_;refine hn32 (some ([1,3,6,27,28], none)) _ ?_;refine eS fun _ hn33 _ _ => ?_;refine eB fun _ hn34 _ _ _ => ?_;refine eS fun _ hn35 _ _ => ?_;refine eO fun _ hk36 => ?_;refine tC 1 F4 ?_;refine tS 2 F4 ?_;refine tS 1 F4 ?_;refine Or.inl (Or.inl ⟨_, k1, ?_⟩);refine tC 5 F4 ?_;refine tL F4 ?_;refine hk36 _ ?_;refine hn35 (some ([1,3,6,8,9,27,28], none)) _ ?_;refine eS fun _ hn37 _ _ => ?_;refine eS fun _ hn38 _ _ => ?_;refine eO fun _ hk39 => ?_;refine tL F4 ?_;refine hk39 _ ?_;refine hn38 (some ([1,3,6,8,27,28,38], none)) _ ?_;refine eCf ?_;refine hn37 (some ([1,3,6,8,27,28], none)) _ ?_;refine eO fun _ hk40 => ?_;refine tC 1 F4 ?_;refine tZ F4 ?_;refine hk40 _ ?_;refine hn34 _ ?_;refine hn33 (some ([1,3,6,27,28], none)) _ ?_
      refine eO fun _ hk41 => ?_;refine tC 1 F4 ?_;refine tL F4 ?_;refine hk41 _ ?_;refine hn10 (N - (i + 1)) (some ([1,3,6,27,28], some ([0,1], 2))) _ ?_ ?_
      all_goals try refine lp0 ?_
      · omega
      · exact ⟨i + 1, by omega, by omega, by rw [hQ]⟩
end Go.Proofs.Ytenbagffdlljdaa
