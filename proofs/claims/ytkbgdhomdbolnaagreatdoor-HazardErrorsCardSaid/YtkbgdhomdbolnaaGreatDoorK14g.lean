/-
  HazardErrors by shadows.
-/
import Derived.Test.YtkbgdhomdbolnaaGreatDoorK14f
import Derived.Test.YtkbgdhomdbolnaaGreatDoorScHazardErrors
import Derived.Test.YtkbgdhomdbolnaaGreatDoorMC
namespace Go.Proofs.YtkbgdhomdbolnaaGreatDoor
set_option linter.unusedSimpArgs false
set_option linter.unusedVariables false
open Go.RowKit Go.Maps

set_option maxHeartbeats 8000000 in
theorem ok_HazardErrors (l : LayV) (t at' : Int) (ht : -9223372036854775808 ≤ t ∧ t ≤ 9223372036854775807) (ha : -9223372036854775808 ≤ at' ∧ at' ≤ 9223372036854775807) : Ok 3 [.agg (eLay l), sI t, sI at'] (sB true) := by
  refine ok_of_tr Tryz.func3 tr_HazardErrors rfl ?_
  have hK := shK hz
  have ka := ok_l14awake
  have k0 := ok_layCheck l
  have k1 := ok_laySize l
  have k2 := ok_hzProtect l t at'
  have k3 := ok_hzClear l t
  have k4 := ok_hzScan l
  have k5 := fun r n s => ok_r14Check r n s t at' true
  have k6 := fun r n s => ok_r14Check r n s t 0 false
  unfold eMadeH at k2
  unfold eMadeH at k3 k4
  have wa : IntKind.i64.wrap at' = at' := by rw [IntKind.wrap_i64]; omega
  change Ok _ _ (.tup [if _ then eCode hz (some (.prot ⟨at', hazT l t, zWord, false, .begin⟩)) else _, _]) at k2
  change Ok _ _ (.tup [if _ then eCode hz (some (.clr ⟨hazT l t, 0⟩)) else _, _]) at k3
  change Ok _ _ (.tup [if _ then eCode hz (some (.scan ⟨l, 0, [], false⟩)) else _, _]) at k4
  by_cases h : checkL l = 0
  case neg =>
    have hw : wrongH l t = 1 := by unfold wrongH; rw [if_neg h]
    have he : protE l t at' = 1 := by unfold protE; rw [hw, if_neg (by decide)]
    rw [he, if_neg (by decide)] at k2
    rw [hw, if_neg (by decide)] at k3
    rw [if_neg h, if_neg (by decide)] at k4
    have d : (checkL l == 0) = false := by simpa using h
    generalize checkL l = e at k0 d
    have k5' := k5 false 0 0
    have k6' := k6 false 0 0
    rw [if_neg (by decide)] at k5' k6'
    unfold evFn sc_HazardErrors rv_HazardErrors
    have F1 := And.intro @d (And.intro @wa @hK)
    refine eS fun K1 hn1 hr1 he1 => ?_
    refine eO fun K2 hk2 => ?_
    refine tL F1 ?_
    refine hk2 _ ?_
    refine hn1 (some ([1, 2, 3], none)) _ ?_
    refine eS fun K3 hn3 hr3 he3 => ?_
    refine eO fun K4 hk4 => ?_
    refine tC 1 F1 ?_
    refine tS 1 F1 ?_
    refine Or.inl (Or.inl ⟨_, k0, ?_⟩)
    refine tC 1 F1 ?_
    refine tL F1 ?_
    refine hk4 _ ?_
    refine hn3 (some ([1, 2, 3, 7], none)) _ ?_
    refine eS fun K5 hn5 hr5 he5 => ?_
    refine eO fun K6 hk6 => ?_
    refine tL F1 ?_
    refine hk6 _ ?_
    refine hn5 (some ([1, 2, 3, 7, 8, 9], none)) _ ?_
    refine eS fun K7 hn7 hr7 he7 => ?_
    refine eS fun K8 hn8 hr8 he8 => ?_
    refine eO fun K9 hk9 => ?_
    refine tL F1 ?_
    refine hk9 _ ?_
    refine hn8 (some ([1, 2, 3, 7, 8, 9, 19], none)) _ ?_
    refine eCf ?_
    refine hn7 (some ([1, 2, 3, 7, 8, 9], none)) _ ?_
    refine eS fun K10 hn10 hr10 he10 => ?_
    refine eO fun K11 hk11 => ?_
    refine tC 1 F1 ?_
    refine tS 2 F1 ?_
    refine tS 1 F1 ?_
    refine Or.inl (Or.inl ⟨_, k2, ?_⟩)
    refine tL F1 ?_
    refine hk11 _ ?_
    refine hn10 (some ([1, 2, 3, 7, 8, 9, 10, 11], none)) _ ?_
    refine eS fun K12 hn12 hr12 he12 => ?_
    refine eO fun K13 hk13 => ?_
    refine tC 1 F1 ?_
    refine tS 1 F1 ?_
    refine tS 1 F1 ?_
    refine Or.inl (Or.inl ⟨_, k3, ?_⟩)
    refine tL F1 ?_
    refine hk13 _ ?_
    refine hn12 (some ([1, 2, 3, 7, 8, 9, 10, 11, 12, 13], none)) _ ?_
    refine eS fun K14 hn14 hr14 he14 => ?_
    refine eO fun K15 hk15 => ?_
    refine tC 1 F1 ?_
    refine tS 1 F1 ?_
    refine Or.inl (Or.inl ⟨_, k4, ?_⟩)
    refine tL F1 ?_
    refine hk15 _ ?_
    refine hn14 (some ([1, 2, 7, 8, 9, 10, 11, 12, 13, 14, 15], none)) _ ?_
    refine eS fun K16 hn16 hr16 he16 => ?_
    refine eS fun K17 hn17 hr17 he17 => ?_
    refine eO fun K18 hk18 => ?_
    refine tS 1 F1 ?_
    refine tS 1 F1 ?_
    refine ⟨_, gen_nil_eq codeIface, ?_⟩
    refine tC 2 F1 ?_
    refine tS 1 F1 ?_
    refine Or.inl ⟨_, eqsh_bool _ _, ?_⟩
    refine tS 2 F1 ?_
    refine tS 1 F1 ?_
    refine ⟨_, gen_nil_eq codeIface, ?_⟩
    refine tC 2 F1 ?_
    refine tS 1 F1 ?_
    refine Or.inl ⟨_, eqsh_bool _ _, ?_⟩
    refine tS 3 F1 ?_
    refine tS 1 F1 ?_
    refine ⟨_, gen_nil_eq codeIface, ?_⟩
    refine tC 2 F1 ?_
    refine tS 1 F1 ?_
    refine Or.inl ⟨_, eqsh_bool _ _, ?_⟩
    refine tL F1 ?_
    refine hk18 _ ?_
    refine hn17 (some ([1, 2, 7, 8, 9, 11, 13, 15, 60], none)) _ ?_
    refine eCf ?_
    refine hn16 (some ([1, 2, 7, 8, 9, 11, 13, 15], none)) _ ?_
    refine eS fun K19 hn19 hr19 he19 => ?_
    refine eO fun K20 hk20 => ?_
    refine tS 6 F1 ?_
    refine tS 1 F1 ?_
    refine Or.inl (Or.inl ⟨_, k5', ?_⟩)
    refine tC 1 F1 ?_
    refine tS 6 F1 ?_
    refine tS 1 F1 ?_
    refine Or.inl (Or.inl ⟨_, k6', ?_⟩)
    refine tC 1 F1 ?_
    refine tC 4 F1 ?_
    refine tS 1 F1 ?_
    refine tS 1 F1 ?_
    refine Or.inl ⟨_, eqsh_bool _ _, ?_⟩
    refine tC 6 F1 ?_
    refine tS 3 F1 ?_
    refine tS 1 F1 ?_
    refine Or.inl (Or.inl ⟨_, ka, ?_⟩)
    refine tL F1 ?_
    refine hk20 _ ?_
    refine hn19 (some ([6], none)) _ ?_
    exact sf1 F1
  rw [if_pos h, if_pos rfl] at k4
  rw [h] at k0
  have k5' := k5 true l.threads (sizeofL l)
  have k6' := k6 true l.threads (sizeofL l)
  rw [if_pos rfl] at k5' k6'
  by_cases g1 : t < 1 ∨ l.threads < t
  · have hw : wrongH l t = 3 := by unfold wrongH; rw [if_pos h, if_pos g1]
    have he : protE l t at' = 3 := by unfold protE; rw [hw, if_neg (by decide)]
    rw [he, if_neg (by decide)] at k2
    rw [hw, if_neg (by decide)] at k3
    rw [if_pos g1] at k5' k6'
    unfold evFn sc_HazardErrors rv_HazardErrors
    have F1 := And.intro @wa @hK
    refine eS fun K1 hn1 hr1 he1 => ?_
    refine eO fun K2 hk2 => ?_
    refine tL F1 ?_
    refine hk2 _ ?_
    refine hn1 (some ([1, 2, 3], none)) _ ?_
    refine eS fun K3 hn3 hr3 he3 => ?_
    refine eO fun K4 hk4 => ?_
    refine tC 1 F1 ?_
    refine tS 1 F1 ?_
    refine Or.inl (Or.inl ⟨_, k0, ?_⟩)
    refine tC 1 F1 ?_
    refine tL F1 ?_
    refine hk4 _ ?_
    refine hn3 (some ([1, 2, 3, 7], none)) _ ?_
    refine eS fun K5 hn5 hr5 he5 => ?_
    refine eO fun K6 hk6 => ?_
    refine tL F1 ?_
    refine hk6 _ ?_
    refine hn5 (some ([1, 2, 3, 7, 8, 9], none)) _ ?_
    refine eS fun K7 hn7 hr7 he7 => ?_
    refine eS fun K8 hn8 hr8 he8 => ?_
    refine eO fun K9 hk9 => ?_
    refine tL F1 ?_
    refine hk9 _ ?_
    refine hn8 (some ([1, 2, 3, 7, 8, 9, 19], none)) _ ?_
    refine eCt ?_
    refine eD [] (n := 4) fun K10 hk10 => ?_
    refine sq0 ?_
    refine fC 2 F1 ?_
    refine fC 1 F1 ?_
    refine fL F1 ?_
    refine ⟨_, k1, ?_⟩
    refine hk10 _ ?_
    refine sr0 ?_
    refine tL F1 ?_
    refine hn7 (some ([1, 2, 3, 7, 8, 9], none)) _ ?_
    refine eS fun K12 hn12 hr12 he12 => ?_
    refine eO fun K13 hk13 => ?_
    refine tC 1 F1 ?_
    refine tS 2 F1 ?_
    refine tS 1 F1 ?_
    refine Or.inl (Or.inl ⟨_, k2, ?_⟩)
    refine tL F1 ?_
    refine hk13 _ ?_
    refine hn12 (some ([1, 2, 3, 7, 8, 9, 10, 11], none)) _ ?_
    refine eS fun K14 hn14 hr14 he14 => ?_
    refine eO fun K15 hk15 => ?_
    refine tC 1 F1 ?_
    refine tS 1 F1 ?_
    refine tS 1 F1 ?_
    refine Or.inl (Or.inl ⟨_, k3, ?_⟩)
    refine tL F1 ?_
    refine hk15 _ ?_
    refine hn14 (some ([1, 2, 3, 7, 8, 9, 10, 11, 12, 13], none)) _ ?_
    refine eS fun K16 hn16 hr16 he16 => ?_
    refine eO fun K17 hk17 => ?_
    refine tC 1 F1 ?_
    refine tS 1 F1 ?_
    refine Or.inl (Or.inl ⟨_, k4, ?_⟩)
    refine tL F1 ?_
    refine hk17 _ ?_
    refine hn16 (some ([1, 2, 7, 8, 9, 10, 11, 12, 13, 14, 15], none)) _ ?_
    refine eS fun K18 hn18 hr18 he18 => ?_
    refine eS fun K19 hn19 hr19 he19 => ?_
    refine eO fun K20 hk20 => ?_
    refine tS 1 F1 ?_
    refine tS 1 F1 ?_
    refine ⟨_, gen_nil_eq codeIface, ?_⟩
    refine tC 2 F1 ?_
    refine tS 1 F1 ?_
    refine Or.inl ⟨_, eqsh_bool _ _, ?_⟩
    refine tS 2 F1 ?_
    refine tS 1 F1 ?_
    refine ⟨_, gen_nil_eq codeIface, ?_⟩
    refine tC 2 F1 ?_
    refine tS 1 F1 ?_
    refine Or.inl ⟨_, eqsh_bool _ _, ?_⟩
    refine tS 3 F1 ?_
    refine tS 1 F1 ?_
    refine ⟨_, gen_some_eq codeIface, ?_⟩
    refine tC 2 F1 ?_
    refine tS 1 F1 ?_
    refine Or.inl ⟨_, eqsh_bool _ _, ?_⟩
    refine tL F1 ?_
    refine hk20 _ ?_
    refine hn19 (some ([1, 2, 7, 8, 9, 11, 13, 15, 60], none)) _ ?_
    refine eCf ?_
    refine hn18 (some ([1, 2, 7, 8, 9, 11, 13, 15], none)) _ ?_
    refine eS fun K21 hn21 hr21 he21 => ?_
    refine eO fun K22 hk22 => ?_
    refine tS 6 F1 ?_
    refine tS 1 F1 ?_
    refine Or.inl (Or.inl ⟨_, k5', ?_⟩)
    refine tC 1 F1 ?_
    refine tS 6 F1 ?_
    refine tS 1 F1 ?_
    refine Or.inl (Or.inl ⟨_, k6', ?_⟩)
    refine tC 1 F1 ?_
    refine tC 4 F1 ?_
    refine tS 1 F1 ?_
    refine tS 1 F1 ?_
    refine Or.inl ⟨_, eqsh_bool _ _, ?_⟩
    refine tC 6 F1 ?_
    refine tS 3 F1 ?_
    refine tS 1 F1 ?_
    refine Or.inl (Or.inl ⟨_, ka, ?_⟩)
    refine tL F1 ?_
    refine hk22 _ ?_
    refine hn21 (some ([6], none)) _ ?_
    exact sf1 F1
  have hw : wrongH l t = 0 := by unfold wrongH; rw [if_pos h, if_neg g1]
  rw [hw, if_pos rfl] at k3
  rw [if_neg g1] at k5' k6'
  rw [if_neg (fun h => nomatch h.1)] at k6'
  by_cases g2 : at' < 0 ∨ sizeofL l ≤ at'
  · have he : protE l t at' = 3 := by unfold protE; rw [hw, if_pos rfl, if_pos g2]
    rw [he, if_neg (by decide)] at k2
    rw [if_pos ⟨rfl, g2⟩] at k5'
    unfold evFn sc_HazardErrors rv_HazardErrors
    have F1 := And.intro @wa @hK
    refine eS fun K1 hn1 hr1 he1 => ?_
    refine eO fun K2 hk2 => ?_
    refine tL F1 ?_
    refine hk2 _ ?_
    refine hn1 (some ([1, 2, 3], none)) _ ?_
    refine eS fun K3 hn3 hr3 he3 => ?_
    refine eO fun K4 hk4 => ?_
    refine tC 1 F1 ?_
    refine tS 1 F1 ?_
    refine Or.inl (Or.inl ⟨_, k0, ?_⟩)
    refine tC 1 F1 ?_
    refine tL F1 ?_
    refine hk4 _ ?_
    refine hn3 (some ([1, 2, 3, 7], none)) _ ?_
    refine eS fun K5 hn5 hr5 he5 => ?_
    refine eO fun K6 hk6 => ?_
    refine tL F1 ?_
    refine hk6 _ ?_
    refine hn5 (some ([1, 2, 3, 7, 8, 9], none)) _ ?_
    refine eS fun K7 hn7 hr7 he7 => ?_
    refine eS fun K8 hn8 hr8 he8 => ?_
    refine eO fun K9 hk9 => ?_
    refine tL F1 ?_
    refine hk9 _ ?_
    refine hn8 (some ([1, 2, 3, 7, 8, 9, 19], none)) _ ?_
    refine eCt ?_
    refine eD [] (n := 4) fun K10 hk10 => ?_
    refine sq0 ?_
    refine fC 2 F1 ?_
    refine fC 1 F1 ?_
    refine fL F1 ?_
    refine ⟨_, k1, ?_⟩
    refine hk10 _ ?_
    refine sr0 ?_
    refine tL F1 ?_
    refine hn7 (some ([1, 2, 3, 7, 8, 9], none)) _ ?_
    refine eS fun K12 hn12 hr12 he12 => ?_
    refine eO fun K13 hk13 => ?_
    refine tC 1 F1 ?_
    refine tS 2 F1 ?_
    refine tS 1 F1 ?_
    refine Or.inl (Or.inl ⟨_, k2, ?_⟩)
    refine tL F1 ?_
    refine hk13 _ ?_
    refine hn12 (some ([1, 2, 3, 7, 8, 9, 10, 11], none)) _ ?_
    refine eS fun K14 hn14 hr14 he14 => ?_
    refine eO fun K15 hk15 => ?_
    refine tC 1 F1 ?_
    refine tS 1 F1 ?_
    refine tS 1 F1 ?_
    refine Or.inl (Or.inl ⟨_, k3, ?_⟩)
    refine tL F1 ?_
    refine hk15 _ ?_
    refine hn14 (some ([1, 2, 3, 7, 8, 9, 10, 11, 12, 13], none)) _ ?_
    refine eS fun K16 hn16 hr16 he16 => ?_
    refine eO fun K17 hk17 => ?_
    refine tC 1 F1 ?_
    refine tS 1 F1 ?_
    refine Or.inl (Or.inl ⟨_, k4, ?_⟩)
    refine tL F1 ?_
    refine hk17 _ ?_
    refine hn16 (some ([1, 2, 7, 8, 9, 10, 11, 12, 13, 14, 15], none)) _ ?_
    refine eS fun K18 hn18 hr18 he18 => ?_
    refine eS fun K19 hn19 hr19 he19 => ?_
    refine eO fun K20 hk20 => ?_
    refine tS 1 F1 ?_
    refine tS 1 F1 ?_
    refine ⟨_, gen_nil_eq codeIface, ?_⟩
    refine tC 2 F1 ?_
    refine tS 1 F1 ?_
    refine Or.inl ⟨_, eqsh_bool _ _, ?_⟩
    refine tS 2 F1 ?_
    refine tS 1 F1 ?_
    refine ⟨_, gen_some_eq codeIface, ?_⟩
    refine tC 2 F1 ?_
    refine tS 1 F1 ?_
    refine Or.inl ⟨_, eqsh_bool _ _, ?_⟩
    refine tS 3 F1 ?_
    refine tS 1 F1 ?_
    refine ⟨_, gen_some_eq codeIface, ?_⟩
    refine tC 2 F1 ?_
    refine tS 1 F1 ?_
    refine Or.inl ⟨_, eqsh_bool _ _, ?_⟩
    refine tL F1 ?_
    refine hk20 _ ?_
    refine hn19 (some ([1, 2, 7, 8, 9, 11, 13, 15, 60], none)) _ ?_
    refine eCf ?_
    refine hn18 (some ([1, 2, 7, 8, 9, 11, 13, 15], none)) _ ?_
    refine eS fun K21 hn21 hr21 he21 => ?_
    refine eO fun K22 hk22 => ?_
    refine tS 6 F1 ?_
    refine tS 1 F1 ?_
    refine Or.inl (Or.inl ⟨_, k5', ?_⟩)
    refine tC 1 F1 ?_
    refine tS 6 F1 ?_
    refine tS 1 F1 ?_
    refine Or.inl (Or.inl ⟨_, k6', ?_⟩)
    refine tC 1 F1 ?_
    refine tC 4 F1 ?_
    refine tS 1 F1 ?_
    refine tS 1 F1 ?_
    refine Or.inl ⟨_, eqsh_bool _ _, ?_⟩
    refine tC 6 F1 ?_
    refine tS 3 F1 ?_
    refine tS 1 F1 ?_
    refine Or.inl (Or.inl ⟨_, ka, ?_⟩)
    refine tL F1 ?_
    refine hk22 _ ?_
    refine hn21 (some ([6], none)) _ ?_
    exact sf1 F1
  · have he : protE l t at' = 0 := by unfold protE; rw [hw, if_pos rfl, if_neg g2]
    rw [he, if_pos rfl] at k2
    rw [if_neg (fun h => g2 h.2)] at k5'
    unfold evFn sc_HazardErrors rv_HazardErrors
    have F1 := And.intro @wa @hK
    refine eS fun K1 hn1 hr1 he1 => ?_
    refine eO fun K2 hk2 => ?_
    refine tL F1 ?_
    refine hk2 _ ?_
    refine hn1 (some ([1, 2, 3], none)) _ ?_
    refine eS fun K3 hn3 hr3 he3 => ?_
    refine eO fun K4 hk4 => ?_
    refine tC 1 F1 ?_
    refine tS 1 F1 ?_
    refine Or.inl (Or.inl ⟨_, k0, ?_⟩)
    refine tC 1 F1 ?_
    refine tL F1 ?_
    refine hk4 _ ?_
    refine hn3 (some ([1, 2, 3, 7], none)) _ ?_
    refine eS fun K5 hn5 hr5 he5 => ?_
    refine eO fun K6 hk6 => ?_
    refine tL F1 ?_
    refine hk6 _ ?_
    refine hn5 (some ([1, 2, 3, 7, 8, 9], none)) _ ?_
    refine eS fun K7 hn7 hr7 he7 => ?_
    refine eS fun K8 hn8 hr8 he8 => ?_
    refine eO fun K9 hk9 => ?_
    refine tL F1 ?_
    refine hk9 _ ?_
    refine hn8 (some ([1, 2, 3, 7, 8, 9, 19], none)) _ ?_
    refine eCt ?_
    refine eD [] (n := 4) fun K10 hk10 => ?_
    refine sq0 ?_
    refine fC 2 F1 ?_
    refine fC 1 F1 ?_
    refine fL F1 ?_
    refine ⟨_, k1, ?_⟩
    refine hk10 _ ?_
    refine sr0 ?_
    refine tL F1 ?_
    refine hn7 (some ([1, 2, 3, 7, 8, 9], none)) _ ?_
    refine eS fun K12 hn12 hr12 he12 => ?_
    refine eO fun K13 hk13 => ?_
    refine tC 1 F1 ?_
    refine tS 2 F1 ?_
    refine tS 1 F1 ?_
    refine Or.inl (Or.inl ⟨_, k2, ?_⟩)
    refine tL F1 ?_
    refine hk13 _ ?_
    refine hn12 (some ([1, 2, 3, 7, 8, 9, 10, 11], none)) _ ?_
    refine eS fun K14 hn14 hr14 he14 => ?_
    refine eO fun K15 hk15 => ?_
    refine tC 1 F1 ?_
    refine tS 1 F1 ?_
    refine tS 1 F1 ?_
    refine Or.inl (Or.inl ⟨_, k3, ?_⟩)
    refine tL F1 ?_
    refine hk15 _ ?_
    refine hn14 (some ([1, 2, 3, 7, 8, 9, 10, 11, 12, 13], none)) _ ?_
    refine eS fun K16 hn16 hr16 he16 => ?_
    refine eO fun K17 hk17 => ?_
    refine tC 1 F1 ?_
    refine tS 1 F1 ?_
    refine Or.inl (Or.inl ⟨_, k4, ?_⟩)
    refine tL F1 ?_
    refine hk17 _ ?_
    refine hn16 (some ([1, 2, 7, 8, 9, 10, 11, 12, 13, 14, 15], none)) _ ?_
    refine eS fun K18 hn18 hr18 he18 => ?_
    refine eS fun K19 hn19 hr19 he19 => ?_
    refine eO fun K20 hk20 => ?_
    refine tS 1 F1 ?_
    refine tS 1 F1 ?_
    refine ⟨_, gen_some_eq codeIface, ?_⟩
    refine tC 2 F1 ?_
    refine tS 1 F1 ?_
    refine Or.inl ⟨_, eqsh_bool _ _, ?_⟩
    refine tS 2 F1 ?_
    refine tS 1 F1 ?_
    refine ⟨_, gen_some_eq codeIface, ?_⟩
    refine tC 2 F1 ?_
    refine tS 1 F1 ?_
    refine Or.inl ⟨_, eqsh_bool _ _, ?_⟩
    refine tS 3 F1 ?_
    refine tS 1 F1 ?_
    refine ⟨_, gen_some_eq codeIface, ?_⟩
    refine tC 2 F1 ?_
    refine tS 1 F1 ?_
    refine Or.inl ⟨_, eqsh_bool _ _, ?_⟩
    refine tL F1 ?_
    refine hk20 _ ?_
    refine hn19 (some ([1, 2, 7, 8, 9, 11, 13, 15, 60], none)) _ ?_
    refine eCf ?_
    refine hn18 (some ([1, 2, 7, 8, 9, 11, 13, 15], none)) _ ?_
    refine eS fun K21 hn21 hr21 he21 => ?_
    refine eO fun K22 hk22 => ?_
    refine tS 6 F1 ?_
    refine tS 1 F1 ?_
    refine Or.inl (Or.inl ⟨_, k5', ?_⟩)
    refine tC 1 F1 ?_
    refine tS 6 F1 ?_
    refine tS 1 F1 ?_
    refine Or.inl (Or.inl ⟨_, k6', ?_⟩)
    refine tC 1 F1 ?_
    refine tC 4 F1 ?_
    refine tS 1 F1 ?_
    refine tS 1 F1 ?_
    refine Or.inl ⟨_, eqsh_bool _ _, ?_⟩
    refine tC 6 F1 ?_
    refine tS 3 F1 ?_
    refine tS 1 F1 ?_
    refine Or.inl (Or.inl ⟨_, ka, ?_⟩)
    refine tL F1 ?_
    refine hk22 _ ?_
    refine hn21 (some ([6], none)) _ ?_
    exact sf1 F1
end Go.Proofs.YtkbgdhomdbolnaaGreatDoor
