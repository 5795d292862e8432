/-
  EraSafe by shadows.
-/
import Derived.Test.YtkkoeejhglbaeaaGreatDoorK13f
import Derived.Test.YtkkoeejhglbaeaaGreatDoorScEraSafe
import Derived.Test.YtkkoeejhglbaeaaGreatDoorMC
namespace Go.Proofs.YtkkoeejhglbaeaaGreatDoor
set_option linter.unusedSimpArgs false
set_option linter.unusedVariables false
open Go.RowKit Go.Maps

theorem eqshB_refl (a : Bool) : EqSh 4 (sB a) (sB a) true := by simpa using eqsh_bool a a
theorem unsafe_iff {a b : Int} {es : List Int} : safeE a b es = false ↔ ∃ n ∈ es, n ≠ 0 ∧ a ≤ n ∧ n ≤ b := by
  unfold safeE
  rw [Bool.not_eq_false', List.any_eq_true]
  constructor
  · rintro ⟨n, hn, h⟩
    exact ⟨n, hn, by simpa [badE] using h⟩
  · rintro ⟨n, hn, h⟩
    exact ⟨n, hn, by simpa [badE] using h⟩
set_option maxHeartbeats 4000000 in
theorem ok_EraSafe (b r : Int) (g : Nat) (es : List Int) : Ok 6 [sI b, sI r, .sl 1 g (es.map eN1)] (sB true) := by
  refine ok_of_tr Tryz.func6 tr_EraSafe rfl ?_
  have ka := ok_l13awake
  by_cases hg : 50 < (es.length : Int)
  · skip
    unfold evFn sc_EraSafe rv_EraSafe
    have F1 := @hg
    refine eS fun K1 hn1 hr1 he1 => ?_
    refine eO fun K2 hk2 => ?_
    refine tL F1 ?_
    refine hk2 _ ?_
    refine hn1 (some ([0, 1, 2], none)) _ ?_
    refine eS fun K3 hn3 hr3 he3 => ?_
    refine eS fun K4 hn4 hr4 he4 => ?_
    refine eO fun K5 hk5 => ?_
    refine tS 1 F1 ?_
    refine Or.inl (Or.inl ⟨_, ka, ?_⟩)
    refine tL F1 ?_
    refine hk5 _ ?_
    refine hn4 (some ([0, 1, 2, 9], none)) _ ?_
    refine eCf ?_
    refine hn3 (some ([0, 1, 2], none)) _ ?_
    refine eS fun K6 hn6 hr6 he6 => ?_
    refine eS fun K7 hn7 hr7 he7 => ?_
    refine eO fun K8 hk8 => ?_
    refine tZ F1 ?_
    refine hk8 _ ?_
    refine hn7 (some ([0, 1, 2, 12], none)) _ ?_
    refine eCt ?_
    refine eS fun K9 hn9 hr9 he9 => ?_
    refine eO fun K10 hk10 => ?_
    refine tL F1 ?_
    refine hk10 _ ?_
    refine hn9 (some ([6], none)) _ ?_
    refine hr6 _ ?_
    exact sf1 F1
  have k1 := ok_eraSafe b r g es (by omega)
  have k2 := ok_r13Safe b r g es (by omega)
  have kz := fun g => ok_eraSafe b r g (es ++ [5]) (by rw [List.length_append]; show es.length + 1 ≤ _; omega)
  have k4 := ok_eraSafe (b - 1) (r + 1) g es (by omega)
  cases hx : safeE b r es with
  | true =>
    rw [hx] at k1 k2
    unfold evFn sc_EraSafe rv_EraSafe
    have F1 := @hg
    refine eS fun K1 hn1 hr1 he1 => ?_
    refine eO fun K2 hk2 => ?_
    refine tL F1 ?_
    refine hk2 _ ?_
    refine hn1 (some ([0, 1, 2], none)) _ ?_
    refine eS fun K3 hn3 hr3 he3 => ?_
    refine eS fun K4 hn4 hr4 he4 => ?_
    refine eO fun K5 hk5 => ?_
    refine tS 1 F1 ?_
    refine Or.inl (Or.inl ⟨_, ka, ?_⟩)
    refine tL F1 ?_
    refine hk5 _ ?_
    refine hn4 (some ([0, 1, 2, 9], none)) _ ?_
    refine eCf ?_
    refine hn3 (some ([0, 1, 2], none)) _ ?_
    refine eS fun K6 hn6 hr6 he6 => ?_
    refine eS fun K7 hn7 hr7 he7 => ?_
    refine eO fun K8 hk8 => ?_
    refine tZ F1 ?_
    refine hk8 _ ?_
    refine hn7 (some ([0, 1, 2, 12], none)) _ ?_
    refine eCf ?_
    refine hn6 (some ([0, 1, 2], none)) _ ?_
    refine eS fun K9 hn9 hr9 he9 => ?_
    refine eO fun K10 hk10 => ?_
    refine tS 3 F1 ?_
    refine tS 1 F1 ?_
    refine Or.inl (Or.inl ⟨_, k1, ?_⟩)
    refine tL F1 ?_
    refine hk10 _ ?_
    refine hn9 (some ([0, 1, 2, 7], none)) _ ?_
    refine eS fun K11 hn11 hr11 he11 => ?_
    refine eS fun K12 hn12 hr12 he12 => ?_
    refine eO fun K13 hk13 => ?_
    refine tS 4 F1 ?_
    refine tS 1 F1 ?_
    refine Or.inl (Or.inl ⟨_, k2, ?_⟩)
    refine tL F1 ?_
    refine Or.inl ⟨_, eqshB_refl true, ?_⟩
    refine hk13 _ ?_
    refine hn12 (some ([0, 1, 2, 7, 22], none)) _ ?_
    refine eCf ?_
    refine hn11 (some ([0, 1, 2, 7], none)) _ ?_
    refine eS fun K14 hn14 hr14 he14 => ?_
    refine eS fun K15 hn15 hr15 he15 => ?_
    refine eO fun K16 hk16 => ?_
    refine tC 5 F1 ?_
    refine tL F1 ?_
    refine hk16 _ ?_
    refine hn15 (some ([0, 1, 2, 28], none)) _ ?_
    refine eCt ?_
    refine eS fun K17 hn17 hr17 he17 => ?_
    refine eO fun K18 hk18 => ?_
    refine tL F1 ?_
    refine hk18 _ ?_
    refine hn17 (some ([6], none)) _ ?_
    refine hr14 _ ?_
    exact sf1 F1
  | false =>
    rw [hx] at k1 k2
    by_cases hr : r < b
    · skip
      unfold evFn sc_EraSafe rv_EraSafe
      have F1 := And.intro @hg @hr
      refine eS fun K1 hn1 hr1 he1 => ?_
      refine eO fun K2 hk2 => ?_
      refine tL F1 ?_
      refine hk2 _ ?_
      refine hn1 (some ([0, 1, 2], none)) _ ?_
      refine eS fun K3 hn3 hr3 he3 => ?_
      refine eS fun K4 hn4 hr4 he4 => ?_
      refine eO fun K5 hk5 => ?_
      refine tS 1 F1 ?_
      refine Or.inl (Or.inl ⟨_, ka, ?_⟩)
      refine tL F1 ?_
      refine hk5 _ ?_
      refine hn4 (some ([0, 1, 2, 9], none)) _ ?_
      refine eCf ?_
      refine hn3 (some ([0, 1, 2], none)) _ ?_
      refine eS fun K6 hn6 hr6 he6 => ?_
      refine eS fun K7 hn7 hr7 he7 => ?_
      refine eO fun K8 hk8 => ?_
      refine tZ F1 ?_
      refine hk8 _ ?_
      refine hn7 (some ([0, 1, 2, 12], none)) _ ?_
      refine eCf ?_
      refine hn6 (some ([0, 1, 2], none)) _ ?_
      refine eS fun K9 hn9 hr9 he9 => ?_
      refine eO fun K10 hk10 => ?_
      refine tS 3 F1 ?_
      refine tS 1 F1 ?_
      refine Or.inl (Or.inl ⟨_, k1, ?_⟩)
      refine tL F1 ?_
      refine hk10 _ ?_
      refine hn9 (some ([0, 1, 2, 7], none)) _ ?_
      refine eS fun K11 hn11 hr11 he11 => ?_
      refine eS fun K12 hn12 hr12 he12 => ?_
      refine eO fun K13 hk13 => ?_
      refine tS 4 F1 ?_
      refine tS 1 F1 ?_
      refine Or.inl (Or.inl ⟨_, k2, ?_⟩)
      refine tL F1 ?_
      refine Or.inl ⟨_, eqshB_refl false, ?_⟩
      refine hk13 _ ?_
      refine hn12 (some ([0, 1, 2, 7, 22], none)) _ ?_
      refine eCf ?_
      refine hn11 (some ([0, 1, 2, 7], none)) _ ?_
      refine eS fun K14 hn14 hr14 he14 => ?_
      refine eS fun K15 hn15 hr15 he15 => ?_
      refine eO fun K16 hk16 => ?_
      refine tC 5 F1 ?_
      refine tL F1 ?_
      refine hk16 _ ?_
      refine hn15 (some ([0, 1, 2, 28], none)) _ ?_
      refine eCt ?_
      refine eS fun K17 hn17 hr17 he17 => ?_
      refine eO fun K18 hk18 => ?_
      refine tL F1 ?_
      refine hk18 _ ?_
      refine hn17 (some ([6], none)) _ ?_
      refine hr14 _ ?_
      exact sf1 F1
    obtain ⟨n, hn, hz, h1, h2⟩ := unsafe_iff.1 hx
    rw [unsafe_iff.2 ⟨n, List.mem_append.2 (.inl hn), hz, h1, h2⟩] at kz
    rw [unsafe_iff.2 ⟨n, hn, hz, by omega, by omega⟩] at k4
    rw [List.map_append] at kz
    have q1 : es.length ≤ 1000000 := by omega
    have q2 : (es.length + 1) * 8 ≤ 140737488355328 := by omega
    have q3 : es.length * 8 ≤ 140737488355328 := by omega
    by_cases c1 : b < -1152921504606846976
    · skip
      unfold evFn sc_EraSafe rv_EraSafe
      have F1 := And.intro @hg (And.intro @hr (And.intro @c1 (And.intro @q1 (And.intro @q2 @q3))))
      refine eS fun K1 hn1 hr1 he1 => ?_
      refine eO fun K2 hk2 => ?_
      refine tL F1 ?_
      refine hk2 _ ?_
      refine hn1 (some ([0, 1, 2], none)) _ ?_
      refine eS fun K3 hn3 hr3 he3 => ?_
      refine eS fun K4 hn4 hr4 he4 => ?_
      refine eO fun K5 hk5 => ?_
      refine tS 1 F1 ?_
      refine Or.inl (Or.inl ⟨_, ka, ?_⟩)
      refine tL F1 ?_
      refine hk5 _ ?_
      refine hn4 (some ([0, 1, 2, 9], none)) _ ?_
      refine eCf ?_
      refine hn3 (some ([0, 1, 2], none)) _ ?_
      refine eS fun K6 hn6 hr6 he6 => ?_
      refine eS fun K7 hn7 hr7 he7 => ?_
      refine eO fun K8 hk8 => ?_
      refine tZ F1 ?_
      refine hk8 _ ?_
      refine hn7 (some ([0, 1, 2, 12], none)) _ ?_
      refine eCf ?_
      refine hn6 (some ([0, 1, 2], none)) _ ?_
      refine eS fun K9 hn9 hr9 he9 => ?_
      refine eO fun K10 hk10 => ?_
      refine tS 3 F1 ?_
      refine tS 1 F1 ?_
      refine Or.inl (Or.inl ⟨_, k1, ?_⟩)
      refine tL F1 ?_
      refine hk10 _ ?_
      refine hn9 (some ([0, 1, 2, 7], none)) _ ?_
      refine eS fun K11 hn11 hr11 he11 => ?_
      refine eS fun K12 hn12 hr12 he12 => ?_
      refine eO fun K13 hk13 => ?_
      refine tS 4 F1 ?_
      refine tS 1 F1 ?_
      refine Or.inl (Or.inl ⟨_, k2, ?_⟩)
      refine tL F1 ?_
      refine Or.inl ⟨_, eqshB_refl false, ?_⟩
      refine hk13 _ ?_
      refine hn12 (some ([0, 1, 2, 7, 22], none)) _ ?_
      refine eCf ?_
      refine hn11 (some ([0, 1, 2, 7], none)) _ ?_
      refine eS fun K14 hn14 hr14 he14 => ?_
      refine eS fun K15 hn15 hr15 he15 => ?_
      refine eO fun K16 hk16 => ?_
      refine tC 5 F1 ?_
      refine tL F1 ?_
      refine hk16 _ ?_
      refine hn15 (some ([0, 1, 2, 28], none)) _ ?_
      refine eCf ?_
      refine hn14 (some ([0, 1, 2], none)) _ ?_
      refine eS fun K17 hn17 hr17 he17 => ?_
      refine eO fun K18 hk18 => ?_
      refine tC 3 F1 ?_
      refine tC 2 F1 ?_
      refine tC 1 F1 ?_
      refine tC 1 F1 ?_
      refine tS 1 F1 ?_
      refine Or.inl (Or.inl ⟨_, kz _, ?_⟩)
      refine tC 4 F1 ?_
      refine tC 3 F1 ?_
      refine tC 4 F1 ?_
      refine tC 2 F1 ?_
      refine tS 1 F1 ?_
      refine tS 1 F1 ?_
      skip
      refine tL F1 ?_
      refine hk18 _ ?_
      refine hn17 (some ([6], none)) _ ?_
      exact sf1 F1
    by_cases c2 : 1152921504606846976 < r
    · skip
      unfold evFn sc_EraSafe rv_EraSafe
      have F1 := And.intro @hg (And.intro @hr (And.intro @c1 (And.intro @c2 (And.intro @q1 (And.intro @q2 @q3)))))
      refine eS fun K1 hn1 hr1 he1 => ?_
      refine eO fun K2 hk2 => ?_
      refine tL F1 ?_
      refine hk2 _ ?_
      refine hn1 (some ([0, 1, 2], none)) _ ?_
      refine eS fun K3 hn3 hr3 he3 => ?_
      refine eS fun K4 hn4 hr4 he4 => ?_
      refine eO fun K5 hk5 => ?_
      refine tS 1 F1 ?_
      refine Or.inl (Or.inl ⟨_, ka, ?_⟩)
      refine tL F1 ?_
      refine hk5 _ ?_
      refine hn4 (some ([0, 1, 2, 9], none)) _ ?_
      refine eCf ?_
      refine hn3 (some ([0, 1, 2], none)) _ ?_
      refine eS fun K6 hn6 hr6 he6 => ?_
      refine eS fun K7 hn7 hr7 he7 => ?_
      refine eO fun K8 hk8 => ?_
      refine tZ F1 ?_
      refine hk8 _ ?_
      refine hn7 (some ([0, 1, 2, 12], none)) _ ?_
      refine eCf ?_
      refine hn6 (some ([0, 1, 2], none)) _ ?_
      refine eS fun K9 hn9 hr9 he9 => ?_
      refine eO fun K10 hk10 => ?_
      refine tS 3 F1 ?_
      refine tS 1 F1 ?_
      refine Or.inl (Or.inl ⟨_, k1, ?_⟩)
      refine tL F1 ?_
      refine hk10 _ ?_
      refine hn9 (some ([0, 1, 2, 7], none)) _ ?_
      refine eS fun K11 hn11 hr11 he11 => ?_
      refine eS fun K12 hn12 hr12 he12 => ?_
      refine eO fun K13 hk13 => ?_
      refine tS 4 F1 ?_
      refine tS 1 F1 ?_
      refine Or.inl (Or.inl ⟨_, k2, ?_⟩)
      refine tL F1 ?_
      refine Or.inl ⟨_, eqshB_refl false, ?_⟩
      refine hk13 _ ?_
      refine hn12 (some ([0, 1, 2, 7, 22], none)) _ ?_
      refine eCf ?_
      refine hn11 (some ([0, 1, 2, 7], none)) _ ?_
      refine eS fun K14 hn14 hr14 he14 => ?_
      refine eS fun K15 hn15 hr15 he15 => ?_
      refine eO fun K16 hk16 => ?_
      refine tC 5 F1 ?_
      refine tL F1 ?_
      refine hk16 _ ?_
      refine hn15 (some ([0, 1, 2, 28], none)) _ ?_
      refine eCf ?_
      refine hn14 (some ([0, 1, 2], none)) _ ?_
      refine eS fun K17 hn17 hr17 he17 => ?_
      refine eO fun K18 hk18 => ?_
      refine tC 3 F1 ?_
      refine tC 2 F1 ?_
      refine tC 1 F1 ?_
      refine tC 1 F1 ?_
      refine tS 1 F1 ?_
      refine Or.inl (Or.inl ⟨_, kz _, ?_⟩)
      refine tC 4 F1 ?_
      refine tC 3 F1 ?_
      refine tC 4 F1 ?_
      refine tC 2 F1 ?_
      refine tS 1 F1 ?_
      refine tS 1 F1 ?_
      skip
      refine tL F1 ?_
      refine hk18 _ ?_
      refine hn17 (some ([6], none)) _ ?_
      exact sf1 F1
    have w1 : IntKind.i64.wrap (b - 1) = b - 1 := by rw [IntKind.wrap_i64]; omega
    have w2 : IntKind.i64.wrap (r + 1) = r + 1 := by rw [IntKind.wrap_i64]; omega
    unfold evFn sc_EraSafe rv_EraSafe
    have F1 := And.intro @hg (And.intro @hr (And.intro @c1 (And.intro @c2 (And.intro @q1 (And.intro @q2 (And.intro @q3 (And.intro @w1 @w2)))))))
    refine eS fun K1 hn1 hr1 he1 => ?_
    refine eO fun K2 hk2 => ?_
    refine tL F1 ?_
    refine hk2 _ ?_
    refine hn1 (some ([0, 1, 2], none)) _ ?_
    refine eS fun K3 hn3 hr3 he3 => ?_
    refine eS fun K4 hn4 hr4 he4 => ?_
    refine eO fun K5 hk5 => ?_
    refine tS 1 F1 ?_
    refine Or.inl (Or.inl ⟨_, ka, ?_⟩)
    refine tL F1 ?_
    refine hk5 _ ?_
    refine hn4 (some ([0, 1, 2, 9], none)) _ ?_
    refine eCf ?_
    refine hn3 (some ([0, 1, 2], none)) _ ?_
    refine eS fun K6 hn6 hr6 he6 => ?_
    refine eS fun K7 hn7 hr7 he7 => ?_
    refine eO fun K8 hk8 => ?_
    refine tZ F1 ?_
    refine hk8 _ ?_
    refine hn7 (some ([0, 1, 2, 12], none)) _ ?_
    refine eCf ?_
    refine hn6 (some ([0, 1, 2], none)) _ ?_
    refine eS fun K9 hn9 hr9 he9 => ?_
    refine eO fun K10 hk10 => ?_
    refine tS 3 F1 ?_
    refine tS 1 F1 ?_
    refine Or.inl (Or.inl ⟨_, k1, ?_⟩)
    refine tL F1 ?_
    refine hk10 _ ?_
    refine hn9 (some ([0, 1, 2, 7], none)) _ ?_
    refine eS fun K11 hn11 hr11 he11 => ?_
    refine eS fun K12 hn12 hr12 he12 => ?_
    refine eO fun K13 hk13 => ?_
    refine tS 4 F1 ?_
    refine tS 1 F1 ?_
    refine Or.inl (Or.inl ⟨_, k2, ?_⟩)
    refine tL F1 ?_
    refine Or.inl ⟨_, eqshB_refl false, ?_⟩
    refine hk13 _ ?_
    refine hn12 (some ([0, 1, 2, 7, 22], none)) _ ?_
    refine eCf ?_
    refine hn11 (some ([0, 1, 2, 7], none)) _ ?_
    refine eS fun K14 hn14 hr14 he14 => ?_
    refine eS fun K15 hn15 hr15 he15 => ?_
    refine eO fun K16 hk16 => ?_
    refine tC 5 F1 ?_
    refine tL F1 ?_
    refine hk16 _ ?_
    refine hn15 (some ([0, 1, 2, 28], none)) _ ?_
    refine eCf ?_
    refine hn14 (some ([0, 1, 2], none)) _ ?_
    refine eS fun K17 hn17 hr17 he17 => ?_
    refine eO fun K18 hk18 => ?_
    refine tC 3 F1 ?_
    refine tC 2 F1 ?_
    refine tC 1 F1 ?_
    refine tC 1 F1 ?_
    refine tS 1 F1 ?_
    refine Or.inl (Or.inl ⟨_, kz _, ?_⟩)
    refine tC 4 F1 ?_
    refine tC 3 F1 ?_
    refine tC 4 F1 ?_
    refine tC 2 F1 ?_
    refine tS 1 F1 ?_
    refine tS 1 F1 ?_
    refine Or.inl (Or.inl ⟨_, k4, ?_⟩)
    refine tL F1 ?_
    refine hk18 _ ?_
    refine hn17 (some ([6], none)) _ ?_
    exact sf1 F1
end Go.Proofs.YtkkoeejhglbaeaaGreatDoor
