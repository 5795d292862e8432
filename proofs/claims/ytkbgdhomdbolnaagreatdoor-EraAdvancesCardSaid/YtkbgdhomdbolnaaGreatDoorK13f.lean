/-
  Layer 13 by shadows: every law's first line, the example of the chapter.
-/
import Derived.Test.YtkbgdhomdbolnaaGreatDoorK13e
import Derived.Test.YtkbgdhomdbolnaaGreatDoorMC
namespace Go.Proofs.YtkbgdhomdbolnaaGreatDoor
set_option linter.unusedSimpArgs false
set_option linter.unusedVariables false
open Go.RowKit Go.Maps

attribute [local irreducible] worldE machE firstM codesE planL wA wB tE sE
set_option maxHeartbeats 8000000 in
theorem ok_l13awake : Ok 37 [] (sB true) := by
  refine ok_of_tr Tryz.func37 tr_l13awake rfl ?_
  have hK := shK era
  have hW := (world_ok 0 2 1).1
  have k0 : Ok 46 [.agg [s8 0, s8 2, s8 1]] (.tup [eWorld (worldE 0 2 1), sB true]) := ok_l13world 0 2 1 (by decide) (by decide) (by decide)
  have k1 : ∀ g, Ok 72 [eWorld (worldE 0 2 1), .sl 3 g [[sI 0, sI 1, sI 0], [sI 0, sI 2, sI 0], [sI 0, sI 2, sI 0]]] (eWorld wA) := fun g => by
    unfold wA
    exact ok_kRun (worldE 0 2 1) g [⟨0, 1, 0⟩, ⟨0, 2, 0⟩, ⟨0, 2, 0⟩] hW (by decide)
  have hA : WorldOk wA 5 := by
    unfold wA
    exact runOk [⟨0, 1, 0⟩, ⟨0, 2, 0⟩, ⟨0, 2, 0⟩] hW
  have k2 := ok_kAlone wA 1 9 hA (by decide)
  rw [show aloneM wA 1 9 = wB by unfold wB; rfl] at k2
  have hB : WorldOk wB.1 14 := by
    unfold wB
    unfold aloneM
    split
    · exact worldOk_up hA (by omega)
    · exact goesOk 1 9 hA
  rw [aw_done] at k2
  have k3 := ok_kCode (tE 0)
  rw [aw_c0] at k3
  change Ok _ _ (.ifc 148 (.agg (cEra (sE 0)))) at k3
  have k4 := ok_eraEra (sE 0)
  rw [if_pos aw_s0.1, aw_s0.1, aw_s0.2] at k4
  have k5 := ok_kCode (tE 1)
  rw [aw_c1] at k5
  change Ok _ _ (.ifc 148 (.agg (cEra (sE 1)))) at k5
  have k6 := ok_eraEra (sE 1)
  rw [if_pos aw_s1.1, aw_s1.1, aw_s1.2] at k6
  have k7 := ok_l13plan
  have k8 := ok_cWords wB.1.m hB.mach.mem (by decide)
  have hc : checkL planL = 0 := by unfold planL; decide
  have hf : fromL planL 7 ≤ ((wordsM wB.1.m).length : Int) := by rw [aw_words]; unfold planL; decide
  have k9 := fun g => ok_eraAnnounced planL g (wordsM wB.1.m) hc hf
  rw [aw_ann] at k9
  have ks := fun g => ok_eraSafe 1 1 g [0, 2] (by decide)
  rw [show safeE 1 1 [0, 2] = true by decide] at ks
  have kt := fun g => ok_eraSafe 1 2 g [0, 2] (by decide)
  rw [show safeE 1 2 [0, 2] = false by decide] at kt
  have y4 := aw_t0
  have y5 := aw_t1
  have y6 := aw_len
  generalize wB.1 = B at k2 k8 k9 y4 y5 y6
  generalize tE 0 = T0 at k3 y4
  generalize tE 1 = T1 at k5 y5
  generalize sE 0 = S0 at k3 k4
  generalize sE 1 = S1 at k5 k6
  generalize wA = A at k1 k2
  generalize worldE 0 2 1 = W0 at k0 k1
  generalize planL = L at k7 k9
  have y7 : (B.tasks.length : Int) = 3 := by omega
  have y8 : 0 < B.tasks.length := by omega
  have y9 : 1 < B.tasks.length := by omega
  have z3 : (((3 : Nat) : Int) == 3) = true := by decide
  have z4 : (0 : Int) < ((3 : Nat) : Int) := by decide
  have z5 : (1 : Int) < ((3 : Nat) : Int) := by decide
  unfold evFn sc_l13awake rv_l13awake
  have F1 := And.intro @z3 (And.intro @z4 (And.intro @z5 (And.intro @hK (And.intro @y4 (And.intro @y5 (And.intro @y7 (And.intro @y8 @y9)))))))
  refine eS fun K1 hn1 hr1 he1 => ?_
  refine eO fun K2 hk2 => ?_
  refine tL F1 ?_
  refine hk2 _ ?_
  refine hn1 (some ([], none)) _ ?_
  refine eS fun K3 hn3 hr3 he3 => ?_
  refine eO fun K4 hk4 => ?_
  refine tS 1 F1 ?_
  refine tS 1 F1 ?_
  refine Or.inl (Or.inl ⟨_, k0, ?_⟩)
  refine tC 5 F1 ?_
  refine tL F1 ?_
  refine hk4 _ ?_
  refine hn3 (some ([1, 2], none)) _ ?_
  refine eS fun K5 hn5 hr5 he5 => ?_
  refine eO fun K6 hk6 => ?_
  refine tC 1 F1 ?_
  refine tC 4 F1 ?_
  refine tS 1 F1 ?_
  refine Or.inl (Or.inl ⟨_, k1 _, ?_⟩)
  refine tZ F1 ?_
  refine hk6 _ ?_
  refine hn5 (some ([1, 2], none)) _ ?_
  refine eS fun K7 hn7 hr7 he7 => ?_
  refine eO fun K8 hk8 => ?_
  refine tC 1 F1 ?_
  refine tS 1 F1 ?_
  refine Or.inl (Or.inl ⟨_, k2, ?_⟩)
  refine tC 4 F1 ?_
  refine tL F1 ?_
  refine hk8 _ ?_
  refine hn7 (some ([1, 2, 3], none)) _ ?_
  refine eS fun K9 hn9 hr9 he9 => ?_
  refine eS fun K10 hn10 hr10 he10 => ?_
  refine eO fun K11 hk11 => ?_
  refine tC 9 F1 ?_
  refine tC 2 F1 ?_
  refine tL F1 ?_
  refine hk11 _ ?_
  refine hn10 (some ([1, 36], none)) _ ?_
  refine eCf ?_
  refine hn9 (some ([1], none)) _ ?_
  refine eS fun K12 hn12 hr12 he12 => ?_
  refine eO fun K13 hk13 => ?_
  refine tC 2 F1 ?_
  refine tC 1 F1 ?_
  refine tC 1 F1 ?_
  refine tS 1 F1 ?_
  refine Or.inl (Or.inl ⟨_, k3, ?_⟩)
  refine tS 1 F1 ?_
  refine Or.inl (Or.inl ⟨_, k4, ?_⟩)
  refine tL F1 ?_
  refine hk13 _ ?_
  refine hn12 (some ([1, 4, 5], none)) _ ?_
  refine eS fun K14 hn14 hr14 he14 => ?_
  refine eO fun K15 hk15 => ?_
  refine tC 2 F1 ?_
  refine tC 1 F1 ?_
  refine tC 1 F1 ?_
  refine tS 1 F1 ?_
  refine Or.inl (Or.inl ⟨_, k5, ?_⟩)
  refine tS 1 F1 ?_
  refine Or.inl (Or.inl ⟨_, k6, ?_⟩)
  refine tL F1 ?_
  refine hk15 _ ?_
  refine hn14 (some ([1, 4, 5, 6, 7], none)) _ ?_
  refine eS fun K16 hn16 hr16 he16 => ?_
  refine eD [] (n := 3) fun K17 hk17 => ?_
  refine sq0 ?_
  refine fS 1 F1 ?_
  refine ⟨_, k7, ?_⟩
  refine fZ F1 ?_
  refine hk17 _ ?_
  refine sr0 ?_
  refine tS 1 F1 ?_
  refine Or.inl (Or.inl ⟨_, k8, ?_⟩)
  refine tS 1 F1 ?_
  refine Or.inl (Or.inl ⟨_, k9 _, ?_⟩)
  refine tL F1 ?_
  refine hn16 (some ([4, 5, 6, 7, 8], none)) _ ?_
  refine eS fun K19 hn19 hr19 he19 => ?_
  refine eO fun K20 hk20 => ?_
  refine tC 7 F1 ?_
  refine tC 4 F1 ?_
  refine tC 5 F1 ?_
  refine tC 4 F1 ?_
  refine tC 1 F1 ?_
  refine tC 1 F1 ?_
  refine tC 4 F1 ?_
  refine tC 1 F1 ?_
  refine tC 1 F1 ?_
  refine tC 3 F1 ?_
  refine tS 1 F1 ?_
  refine Or.inl (Or.inl ⟨_, ks _, ?_⟩)
  refine tC 3 F1 ?_
  refine tS 1 F1 ?_
  refine Or.inl (Or.inl ⟨_, kt _, ?_⟩)
  refine tL F1 ?_
  refine hk20 _ ?_
  refine hn19 (some ([0], none)) _ ?_
  exact sf1 F1
end Go.Proofs.YtkbgdhomdbolnaaGreatDoor
