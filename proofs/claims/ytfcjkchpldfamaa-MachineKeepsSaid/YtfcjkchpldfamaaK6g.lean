/-
  MachineChanges, MachineNew: the walks.
-/
import Derived.Test.YtfcjkchpldfamaaK6e
import Derived.Test.YtfcjkchpldfamaaScMachineChanges
import Derived.Test.YtfcjkchpldfamaaScMachineNew
import Derived.Test.YtfcjkchpldfamaaMC
namespace Go.Proofs.Ytfcjkchpldfamaa
set_option linter.unusedSimpArgs false
set_option linter.unusedVariables false
open Go.RowKit Go.Maps

theorem machOk_zero : MachOk zMach 1 := machOk_new 0 []
theorem crash_zero (c : Int) : crashM zMach c = zMach := if_pos (.inl rfl)
theorem do_zero (a : ActM) (c : Int) : doM zMach 1 a c = (zMach, zGot, 3) := rfl
set_option maxHeartbeats 4000000 in
theorem ok_MachineChanges (a : ActM) : Ok 10 [.agg (eAct4 a)] (sB true) := by
  refine ok_of_tr Try.func10 tr_MachineChanges rfl ?_
  have c0 := ok_cDo zMach 1 a 0 machOk_zero (by omega)
  rw [do_zero] at c0
  have c1 := ok_cCrash zMach 3 machOk_zero (by omega)
  rw [crash_zero] at c1
  have c4 : Ok 42 [eMach zMach] (sI 0) := ok_cCrashes zMach
  have c5 : Ok 43 [eMach zMach] (.sl 3 0 []) := ok_cWords zMach machOk_zero.mem (by omega)
  have c3 := ok_cChanges a
  unfold changesB at c3
  obtain ⟨op, p, o, w⟩ := a
  have hcase : op = 3 ∨ (op ≠ 3 ∧ op = 4) ∨ (op ≠ 3 ∧ op ≠ 4 ∧ op = 6) ∨ (op ≠ 3 ∧ op ≠ 4 ∧ op ≠ 6) := by omega
  rcases hcase with h | ⟨h1, h⟩ | ⟨h1, h2, h⟩ | ⟨h1, h2, h3⟩
  · subst h
    unfold evFn sc_MachineChanges rv_MachineChanges
    refine ev_seq_k fun K1 hn1 hr1 he1 => ?_
    refine ev_ops_k fun K2 hk2 => ?_
    refine sh0 ?_
    refine hk2 _ ?_
    refine hn1 (some ([1], none)) _ ?_
    refine ev_seq_k fun K3 hn3 hr3 he3 => ?_
    refine ev_ops_k fun K4 hk4 => ?_
    refine sh0 ?_
    refine hk4 _ ?_
    refine hn3 (some ([1, 3], none)) _ ?_
    refine ev_seq_k fun K5 hn5 hr5 he5 => ?_
    refine ev_ops_k fun K6 hk6 => ?_
    refine evL_take 1 fun K7 hk7 => ?_
    refine sh0 ?_
    refine sd ?_
    refine hk7 _ ?_
    refine evL_take 1 fun K8 hk8 => ?_
    refine sh0 ?_
    refine sd ?_
    refine hk8 _ ?_
    refine evL_take 1 fun K9 hk9 => ?_
    refine sh0 ?_
    refine Or.inl (Or.inl ⟨_, c0, ?_⟩)
    refine hk9 _ ?_
    refine evL_take 7 fun K10 hk10 => ?_
    refine sh0 ?_
    refine sd ?_
    refine hk10 _ ?_
    refine evL_take 1 fun K11 hk11 => ?_
    refine sh0 ?_
    refine sd ?_
    refine hk11 _ ?_
    refine sh0 ?_
    refine hk6 _ ?_
    refine hn5 (some ([1, 3, 6], none)) _ ?_
    refine ev_seq_k fun K12 hn12 hr12 he12 => ?_
    refine ev_ops_k fun K13 hk13 => ?_
    refine evL_take 1 fun K14 hk14 => ?_
    refine sh0 ?_
    refine sd ?_
    refine hk14 _ ?_
    refine evL_take 1 fun K15 hk15 => ?_
    refine sh0 ?_
    refine Or.inl (Or.inl ⟨_, c1, ?_⟩)
    refine hk15 _ ?_
    refine sh0 ?_
    refine sd ?_
    refine hk13 _ ?_
    refine hn12 (some ([1, 6, 7], none)) _ ?_
    refine ev_seq_k fun K16 hn16 hr16 he16 => ?_
    refine ev_drw_k [] (n := 7) fun K17 hk17 => ?_
    refine sq0 ?_
    refine evF_take 1 fun K19 hk19 => ?_
    refine sh0 ?_
    refine ⟨_, ok_l6awake, ?_⟩
    refine hk19 _ _ _ ?_
    refine evF_take 2 fun K20 hk20 => ?_
    refine sh0 ?_
    refine sd ?_
    refine hk20 _ _ _ ?_
    refine evF_take 1 fun K21 hk21 => ?_
    refine sh0 ?_
    refine ⟨_, c3, ?_⟩
    refine hk21 _ _ _ ?_
    refine evF_take 2 fun K22 hk22 => ?_
    refine sh0 ?_
    refine sd ?_
    refine hk22 _ _ _ ?_
    refine sh0 ?_
    refine sd ?_
    refine hk17 _ ?_
    refine sr0 ?_
    refine evL_take 3 fun K23 hk23 => ?_
    refine sh0 ?_
    refine sd ?_
    refine hk23 _ ?_
    refine evL_take 1 fun K24 hk24 => ?_
    refine sh0 ?_
    refine sd ?_
    refine hk24 _ ?_
    refine evL_take 4 fun K25 hk25 => ?_
    refine sh0 ?_
    refine sd ?_
    refine hk25 _ ?_
    refine evL_take 1 fun K26 hk26 => ?_
    refine sh0 ?_
    refine sd ?_
    refine hk26 _ ?_
    refine evL_take 1 fun K27 hk27 => ?_
    refine sh0 ?_
    refine hk27 _ ?_
    refine evL_take 1 fun K28 hk28 => ?_
    refine sh0 ?_
    refine Or.inl ⟨_, eqsh_bool true true, ?_⟩
    refine hk28 _ ?_
    refine evL_take 4 fun K29 hk29 => ?_
    refine sh0 ?_
    refine sd ?_
    refine hk29 _ ?_
    refine evL_take 3 fun K30 hk30 => ?_
    refine sh0 ?_
    refine sd ?_
    refine hk30 _ ?_
    refine evL_take 1 fun K31 hk31 => ?_
    refine sh0 ?_
    refine Or.inl (Or.inl ⟨_, c4, ?_⟩)
    refine hk31 _ ?_
    refine evL_take 1 fun K32 hk32 => ?_
    refine sh0 ?_
    refine sd ?_
    refine hk32 _ ?_
    refine evL_take 3 fun K33 hk33 => ?_
    refine sh0 ?_
    refine sd ?_
    refine hk33 _ ?_
    refine evL_take 1 fun K34 hk34 => ?_
    refine sh0 ?_
    refine Or.inl (Or.inl ⟨_, c5, ?_⟩)
    refine hk34 _ ?_
    refine evL_take 2 fun K35 hk35 => ?_
    refine sh0 ?_
    refine sd ?_
    refine hk35 _ ?_
    refine sh0 ?_
    refine hn16 (some ([2], none)) _ ?_
    exact sf0
  · subst h
    unfold evFn sc_MachineChanges rv_MachineChanges
    refine ev_seq_k fun K1 hn1 hr1 he1 => ?_
    refine ev_ops_k fun K2 hk2 => ?_
    refine sh0 ?_
    refine hk2 _ ?_
    refine hn1 (some ([1], none)) _ ?_
    refine ev_seq_k fun K3 hn3 hr3 he3 => ?_
    refine ev_ops_k fun K4 hk4 => ?_
    refine sh0 ?_
    refine hk4 _ ?_
    refine hn3 (some ([1, 3], none)) _ ?_
    refine ev_seq_k fun K5 hn5 hr5 he5 => ?_
    refine ev_ops_k fun K6 hk6 => ?_
    refine evL_take 1 fun K7 hk7 => ?_
    refine sh0 ?_
    refine sd ?_
    refine hk7 _ ?_
    refine evL_take 1 fun K8 hk8 => ?_
    refine sh0 ?_
    refine sd ?_
    refine hk8 _ ?_
    refine evL_take 1 fun K9 hk9 => ?_
    refine sh0 ?_
    refine Or.inl (Or.inl ⟨_, c0, ?_⟩)
    refine hk9 _ ?_
    refine evL_take 7 fun K10 hk10 => ?_
    refine sh0 ?_
    refine sd ?_
    refine hk10 _ ?_
    refine evL_take 1 fun K11 hk11 => ?_
    refine sh0 ?_
    refine sd ?_
    refine hk11 _ ?_
    refine sh0 ?_
    refine hk6 _ ?_
    refine hn5 (some ([1, 3, 6], none)) _ ?_
    refine ev_seq_k fun K12 hn12 hr12 he12 => ?_
    refine ev_ops_k fun K13 hk13 => ?_
    refine evL_take 1 fun K14 hk14 => ?_
    refine sh0 ?_
    refine sd ?_
    refine hk14 _ ?_
    refine evL_take 1 fun K15 hk15 => ?_
    refine sh0 ?_
    refine Or.inl (Or.inl ⟨_, c1, ?_⟩)
    refine hk15 _ ?_
    refine sh0 ?_
    refine sd ?_
    refine hk13 _ ?_
    refine hn12 (some ([1, 6, 7], none)) _ ?_
    refine ev_seq_k fun K16 hn16 hr16 he16 => ?_
    refine ev_drw_k [] (n := 7) fun K17 hk17 => ?_
    refine sq0 ?_
    refine evF_take 1 fun K19 hk19 => ?_
    refine sh0 ?_
    refine ⟨_, ok_l6awake, ?_⟩
    refine hk19 _ _ _ ?_
    refine evF_take 2 fun K20 hk20 => ?_
    refine sh0 ?_
    refine sd ?_
    refine hk20 _ _ _ ?_
    refine evF_take 1 fun K21 hk21 => ?_
    refine sh0 ?_
    refine ⟨_, c3, ?_⟩
    refine hk21 _ _ _ ?_
    refine evF_take 2 fun K22 hk22 => ?_
    refine sh0 ?_
    refine sd ?_
    refine hk22 _ _ _ ?_
    refine sh0 ?_
    refine sd ?_
    refine hk17 _ ?_
    refine sr0 ?_
    refine evL_take 3 fun K23 hk23 => ?_
    refine sh0 ?_
    refine sd ?_
    refine hk23 _ ?_
    refine evL_take 1 fun K24 hk24 => ?_
    refine sh0 ?_
    refine sd ?_
    refine hk24 _ ?_
    refine evL_take 4 fun K25 hk25 => ?_
    refine sh0 ?_
    refine sd ?_
    refine hk25 _ ?_
    refine evL_take 1 fun K26 hk26 => ?_
    refine sh0 ?_
    refine sd ?_
    refine hk26 _ ?_
    refine evL_take 1 fun K27 hk27 => ?_
    refine sh0 ?_
    refine hk27 _ ?_
    refine evL_take 1 fun K28 hk28 => ?_
    refine sh0 ?_
    refine Or.inl ⟨_, eqsh_bool true true, ?_⟩
    refine hk28 _ ?_
    refine evL_take 4 fun K29 hk29 => ?_
    refine sh0 ?_
    refine sd ?_
    refine hk29 _ ?_
    refine evL_take 3 fun K30 hk30 => ?_
    refine sh0 ?_
    refine sd ?_
    refine hk30 _ ?_
    refine evL_take 1 fun K31 hk31 => ?_
    refine sh0 ?_
    refine Or.inl (Or.inl ⟨_, c4, ?_⟩)
    refine hk31 _ ?_
    refine evL_take 1 fun K32 hk32 => ?_
    refine sh0 ?_
    refine sd ?_
    refine hk32 _ ?_
    refine evL_take 3 fun K33 hk33 => ?_
    refine sh0 ?_
    refine sd ?_
    refine hk33 _ ?_
    refine evL_take 1 fun K34 hk34 => ?_
    refine sh0 ?_
    refine Or.inl (Or.inl ⟨_, c5, ?_⟩)
    refine hk34 _ ?_
    refine evL_take 2 fun K35 hk35 => ?_
    refine sh0 ?_
    refine sd ?_
    refine hk35 _ ?_
    refine sh0 ?_
    refine hn16 (some ([2], none)) _ ?_
    exact sf0
  · subst h
    unfold evFn sc_MachineChanges rv_MachineChanges
    refine ev_seq_k fun K1 hn1 hr1 he1 => ?_
    refine ev_ops_k fun K2 hk2 => ?_
    refine sh0 ?_
    refine hk2 _ ?_
    refine hn1 (some ([1], none)) _ ?_
    refine ev_seq_k fun K3 hn3 hr3 he3 => ?_
    refine ev_ops_k fun K4 hk4 => ?_
    refine sh0 ?_
    refine hk4 _ ?_
    refine hn3 (some ([1, 3], none)) _ ?_
    refine ev_seq_k fun K5 hn5 hr5 he5 => ?_
    refine ev_ops_k fun K6 hk6 => ?_
    refine evL_take 1 fun K7 hk7 => ?_
    refine sh0 ?_
    refine sd ?_
    refine hk7 _ ?_
    refine evL_take 1 fun K8 hk8 => ?_
    refine sh0 ?_
    refine sd ?_
    refine hk8 _ ?_
    refine evL_take 1 fun K9 hk9 => ?_
    refine sh0 ?_
    refine Or.inl (Or.inl ⟨_, c0, ?_⟩)
    refine hk9 _ ?_
    refine evL_take 7 fun K10 hk10 => ?_
    refine sh0 ?_
    refine sd ?_
    refine hk10 _ ?_
    refine evL_take 1 fun K11 hk11 => ?_
    refine sh0 ?_
    refine sd ?_
    refine hk11 _ ?_
    refine sh0 ?_
    refine hk6 _ ?_
    refine hn5 (some ([1, 3, 6], none)) _ ?_
    refine ev_seq_k fun K12 hn12 hr12 he12 => ?_
    refine ev_ops_k fun K13 hk13 => ?_
    refine evL_take 1 fun K14 hk14 => ?_
    refine sh0 ?_
    refine sd ?_
    refine hk14 _ ?_
    refine evL_take 1 fun K15 hk15 => ?_
    refine sh0 ?_
    refine Or.inl (Or.inl ⟨_, c1, ?_⟩)
    refine hk15 _ ?_
    refine sh0 ?_
    refine sd ?_
    refine hk13 _ ?_
    refine hn12 (some ([1, 6, 7], none)) _ ?_
    refine ev_seq_k fun K16 hn16 hr16 he16 => ?_
    refine ev_drw_k [] (n := 7) fun K17 hk17 => ?_
    refine sq0 ?_
    refine evF_take 1 fun K19 hk19 => ?_
    refine sh0 ?_
    refine ⟨_, ok_l6awake, ?_⟩
    refine hk19 _ _ _ ?_
    refine evF_take 2 fun K20 hk20 => ?_
    refine sh0 ?_
    refine sd ?_
    refine hk20 _ _ _ ?_
    refine evF_take 1 fun K21 hk21 => ?_
    refine sh0 ?_
    refine ⟨_, c3, ?_⟩
    refine hk21 _ _ _ ?_
    refine evF_take 2 fun K22 hk22 => ?_
    refine sh0 ?_
    refine sd ?_
    refine hk22 _ _ _ ?_
    refine sh0 ?_
    refine sd ?_
    refine hk17 _ ?_
    refine sr0 ?_
    refine evL_take 3 fun K23 hk23 => ?_
    refine sh0 ?_
    refine sd ?_
    refine hk23 _ ?_
    refine evL_take 1 fun K24 hk24 => ?_
    refine sh0 ?_
    refine sd ?_
    refine hk24 _ ?_
    refine evL_take 4 fun K25 hk25 => ?_
    refine sh0 ?_
    refine sd ?_
    refine hk25 _ ?_
    refine evL_take 1 fun K26 hk26 => ?_
    refine sh0 ?_
    refine sd ?_
    refine hk26 _ ?_
    refine evL_take 1 fun K27 hk27 => ?_
    refine sh0 ?_
    refine hk27 _ ?_
    refine evL_take 1 fun K28 hk28 => ?_
    refine sh0 ?_
    refine Or.inl ⟨_, eqsh_bool true true, ?_⟩
    refine hk28 _ ?_
    refine evL_take 4 fun K29 hk29 => ?_
    refine sh0 ?_
    refine sd ?_
    refine hk29 _ ?_
    refine evL_take 3 fun K30 hk30 => ?_
    refine sh0 ?_
    refine sd ?_
    refine hk30 _ ?_
    refine evL_take 1 fun K31 hk31 => ?_
    refine sh0 ?_
    refine Or.inl (Or.inl ⟨_, c4, ?_⟩)
    refine hk31 _ ?_
    refine evL_take 1 fun K32 hk32 => ?_
    refine sh0 ?_
    refine sd ?_
    refine hk32 _ ?_
    refine evL_take 3 fun K33 hk33 => ?_
    refine sh0 ?_
    refine sd ?_
    refine hk33 _ ?_
    refine evL_take 1 fun K34 hk34 => ?_
    refine sh0 ?_
    refine Or.inl (Or.inl ⟨_, c5, ?_⟩)
    refine hk34 _ ?_
    refine evL_take 2 fun K35 hk35 => ?_
    refine sh0 ?_
    refine sd ?_
    refine hk35 _ ?_
    refine sh0 ?_
    refine hn16 (some ([2], none)) _ ?_
    exact sf0
  · have e1 : (op == 3) = false := by simpa using h1
    have e2 : (op == 4) = false := by simpa using h2
    have e3 : (op == 6) = false := by simpa using h3
    simp only [e1, e2, e3, Bool.or_false] at c3
    unfold evFn sc_MachineChanges rv_MachineChanges
    have F1 := And.intro @e1 (And.intro @e2 @e3)
    refine ev_seq_k fun K1 hn1 hr1 he1 => ?_
    refine ev_ops_k fun K2 hk2 => ?_
    refine sh1 F1 ?_
    refine hk2 _ ?_
    refine hn1 (some ([1], none)) _ ?_
    refine ev_seq_k fun K3 hn3 hr3 he3 => ?_
    refine ev_ops_k fun K4 hk4 => ?_
    refine sh1 F1 ?_
    refine hk4 _ ?_
    refine hn3 (some ([1, 3], none)) _ ?_
    refine ev_seq_k fun K5 hn5 hr5 he5 => ?_
    refine ev_ops_k fun K6 hk6 => ?_
    refine evL_take 1 fun K7 hk7 => ?_
    refine sh1 F1 ?_
    refine sd ?_
    refine hk7 _ ?_
    refine evL_take 1 fun K8 hk8 => ?_
    refine sh1 F1 ?_
    refine sd ?_
    refine hk8 _ ?_
    refine evL_take 1 fun K9 hk9 => ?_
    refine sh1 F1 ?_
    refine Or.inl (Or.inl ⟨_, c0, ?_⟩)
    refine hk9 _ ?_
    refine evL_take 7 fun K10 hk10 => ?_
    refine sh1 F1 ?_
    refine sd ?_
    refine hk10 _ ?_
    refine evL_take 1 fun K11 hk11 => ?_
    refine sh1 F1 ?_
    refine sd ?_
    refine hk11 _ ?_
    refine sh1 F1 ?_
    refine hk6 _ ?_
    refine hn5 (some ([1, 3, 6], none)) _ ?_
    refine ev_seq_k fun K12 hn12 hr12 he12 => ?_
    refine ev_ops_k fun K13 hk13 => ?_
    refine evL_take 1 fun K14 hk14 => ?_
    refine sh1 F1 ?_
    refine sd ?_
    refine hk14 _ ?_
    refine evL_take 1 fun K15 hk15 => ?_
    refine sh1 F1 ?_
    refine Or.inl (Or.inl ⟨_, c1, ?_⟩)
    refine hk15 _ ?_
    refine sh1 F1 ?_
    refine sd ?_
    refine hk13 _ ?_
    refine hn12 (some ([1, 6, 7], none)) _ ?_
    refine ev_seq_k fun K16 hn16 hr16 he16 => ?_
    refine ev_drw_k [] (n := 7) fun K17 hk17 => ?_
    refine sq0 ?_
    refine evF_take 1 fun K19 hk19 => ?_
    refine sh1 F1 ?_
    refine ⟨_, ok_l6awake, ?_⟩
    refine hk19 _ _ _ ?_
    refine evF_take 2 fun K20 hk20 => ?_
    refine sh1 F1 ?_
    refine sd ?_
    refine hk20 _ _ _ ?_
    refine evF_take 1 fun K21 hk21 => ?_
    refine sh1 F1 ?_
    refine ⟨_, c3, ?_⟩
    refine hk21 _ _ _ ?_
    refine evF_take 2 fun K22 hk22 => ?_
    refine sh1 F1 ?_
    refine sd ?_
    refine hk22 _ _ _ ?_
    refine sh1 F1 ?_
    refine sd ?_
    refine hk17 _ ?_
    refine sr0 ?_
    refine evL_take 3 fun K23 hk23 => ?_
    refine sh1 F1 ?_
    refine sd ?_
    refine hk23 _ ?_
    refine evL_take 1 fun K24 hk24 => ?_
    refine sh1 F1 ?_
    refine sd ?_
    refine hk24 _ ?_
    refine evL_take 4 fun K25 hk25 => ?_
    refine sh1 F1 ?_
    refine sd ?_
    refine hk25 _ ?_
    refine evL_take 1 fun K26 hk26 => ?_
    refine sh1 F1 ?_
    refine sd ?_
    refine hk26 _ ?_
    refine evL_take 1 fun K27 hk27 => ?_
    refine sh1 F1 ?_
    refine hk27 _ ?_
    refine evL_take 1 fun K28 hk28 => ?_
    refine sh1 F1 ?_
    refine Or.inl ⟨_, eqsh_bool false false, ?_⟩
    refine hk28 _ ?_
    refine evL_take 4 fun K29 hk29 => ?_
    refine sh1 F1 ?_
    refine sd ?_
    refine hk29 _ ?_
    refine evL_take 3 fun K30 hk30 => ?_
    refine sh1 F1 ?_
    refine sd ?_
    refine hk30 _ ?_
    refine evL_take 1 fun K31 hk31 => ?_
    refine sh1 F1 ?_
    refine Or.inl (Or.inl ⟨_, c4, ?_⟩)
    refine hk31 _ ?_
    refine evL_take 1 fun K32 hk32 => ?_
    refine sh1 F1 ?_
    refine sd ?_
    refine hk32 _ ?_
    refine evL_take 3 fun K33 hk33 => ?_
    refine sh1 F1 ?_
    refine sd ?_
    refine hk33 _ ?_
    refine evL_take 1 fun K34 hk34 => ?_
    refine sh1 F1 ?_
    refine Or.inl (Or.inl ⟨_, c5, ?_⟩)
    refine hk34 _ ?_
    refine evL_take 2 fun K35 hk35 => ?_
    refine sh1 F1 ?_
    refine sd ?_
    refine hk35 _ ?_
    refine sh1 F1 ?_
    refine hn16 (some ([2], none)) _ ?_
    exact sf1 F1

theorem words_new {k : Int} {ws : List WordV} (h : (mnewM k ws).2 = 0) : wordsM (cnewM k ws).1 = ws := by
  obtain ⟨_, _, _, _, e⟩ := mnew_ok h
  have e2 : (cnewM k ws).1.mem = ⟨ws.map newP, List.replicate k.toNat fun _ => none⟩ := by unfold cnewM; rw [if_pos h]; exact e
  unfold wordsM
  rw [e2]
  refine List.ext_getElem? fun i => ?_
  rw [List.getElem?_map]
  by_cases hi : i < ws.length
  · rw [List.getElem?_range (by simpa using hi), List.getElem?_eq_getElem hi]
    simp only [Option.map_some]
    unfold lastWM histM
    simp [hi, newP, lastM, atM]
  · rw [List.getElem?_eq_none (by simp; omega), List.getElem?_eq_none (by omega)]; rfl
theorem lefN_new (ws : List WordV) (more : Int → Int → Int) : ∀ n, lefN (newM ws) more n = ws
  | 0 => rfl
  | n + 1 => by
    unfold lefN
    split
    · rename_i y hy
      have : y = ⟨[], 0⟩ := by
        have := List.mem_of_getElem? hy
        simp only [newM, List.mem_replicate] at this; exact this.2
      rw [this]
      simp [lefN_new ws more n]
    · exact lefN_new ws more n
theorem left_new (ws : List WordV) (more : Int → Int → Int) : leftM (newM ws) more = ws := lefN_new ws more _
set_option maxHeartbeats 4000000 in
theorem ok_MachineNew (k : Int) (g : Nat) (ws : List WordV) (hd : ws.length ≤ 9223372036854775807) : Ok 11 [sI k, .sl 3 g (ws.map eWord)] (sB true) := by
  refine ok_of_tr Try.func11 tr_MachineNew rfl ?_
  by_cases h40 : (40 : Int) < (ws.length : Int)
  · skip
    unfold evFn sc_MachineNew rv_MachineNew
    have F1 := @h40
    refine ev_seq_k fun K1 hn1 hr1 he1 => ?_
    refine ev_ops_k fun K2 hk2 => ?_
    refine sh1 F1 ?_
    refine hk2 _ ?_
    refine hn1 (some ([0, 1], none)) _ ?_
    refine ev_seq_k fun K3 hn3 hr3 he3 => ?_
    refine ev_seq_k fun K4 hn4 hr4 he4 => ?_
    refine ev_ops_k fun K5 hk5 => ?_
    refine sh1 F1 ?_
    refine sd ?_
    refine hk5 _ ?_
    refine hn4 (some ([0, 1, 15], none)) _ ?_
    refine ev_cond_k rfl (fun hc0 => ?_) (fun hx => absurd hx (by simp at hx))
    clear hc0
    refine ev_seq_k fun K6 hn6 hr6 he6 => ?_
    refine ev_ops_k fun K7 hk7 => ?_
    refine evL_take 1 fun K8 hk8 => ?_
    refine sh1 F1 ?_
    refine Or.inl (Or.inl ⟨_, ok_l6awake, ?_⟩)
    refine hk8 _ ?_
    refine sh1 F1 ?_
    refine hk7 _ ?_
    refine hn6 (some ([4], none)) _ ?_
    refine hr3 _ ?_
    exact sf1 F1
  have c1 := ok_cNew k g ws
  have c2 := ok_mNew k g ws
  have c3 := ok_lineNew g ws (by omega)
  have hM := machOk_new k ws
  by_cases h : (mnewM k ws).2 = 0
  · obtain ⟨h1, h2, h3, h4, e⟩ := mnew_ok h
    have w1 := words_new h
    have e1 : (cnewM k ws).2 = 0 := by unfold cnewM; rw [if_pos h]
    have e2 : (cnewM k ws).1.mem.views.length = k.toNat ∧ (cnewM k ws).1.mem.places.length = ws.length ∧ (cnewM k ws).1.crashes = 0 ∧ (cnewM k ws).1.lines = newM ws := by
      unfold cnewM; rw [if_pos h]; simp [e]
    rw [e1] at c1
    rw [h] at c2
    obtain ⟨s1, s2, s3, s4⟩ := e2
    generalize (cnewM k ws).1 = M at c1 hM w1 s1 s2 s3 s4
    generalize (mnewM k ws).1 = Q at c2
    have c4 := ok_cSize M
    have c8 := ok_cWords M hM.mem (by omega)
    have c10 := ok_cLeast M hM.lines (by omega)
    have c12 := ok_cCrashes M
    rw [w1] at c8
    rw [s4, left_new] at c10
    rw [s3] at c12
    rw [s1, s2, show ((k.toNat : Nat) : Int) = k by omega] at c4
    unfold evFn sc_MachineNew rv_MachineNew
    have F1 := @h40
    refine ev_seq_k fun K1 hn1 hr1 he1 => ?_
    refine ev_ops_k fun K2 hk2 => ?_
    refine sh1 F1 ?_
    refine hk2 _ ?_
    refine hn1 (some ([0, 1], none)) _ ?_
    refine ev_seq_k fun K3 hn3 hr3 he3 => ?_
    refine ev_seq_k fun K4 hn4 hr4 he4 => ?_
    refine ev_ops_k fun K5 hk5 => ?_
    refine sh1 F1 ?_
    refine sd ?_
    refine hk5 _ ?_
    refine hn4 (some ([0, 1, 15], none)) _ ?_
    refine ev_cond_k rfl (fun hx => absurd hx (by simp at hx)) (fun hc0 => ?_)
    clear hc0
    refine hn3 (some ([0, 1], none)) _ ?_
    refine ev_seq_k fun K6 hn6 hr6 he6 => ?_
    refine ev_ops_k fun K7 hk7 => ?_
    refine evL_take 2 fun K8 hk8 => ?_
    refine sh1 F1 ?_
    refine hk8 _ ?_
    refine evL_take 1 fun K9 hk9 => ?_
    refine sh1 F1 ?_
    refine Or.inl (Or.inl ⟨_, c1, ?_⟩)
    refine hk9 _ ?_
    refine evL_take 5 fun K10 hk10 => ?_
    refine sh1 F1 ?_
    refine sd ?_
    refine hk10 _ ?_
    refine sh1 F1 ?_
    refine hk7 _ ?_
    refine hn6 (some ([0, 1, 5, 6], none)) _ ?_
    refine ev_seq_k fun K11 hn11 hr11 he11 => ?_
    refine ev_ops_k fun K12 hk12 => ?_
    refine evL_take 2 fun K13 hk13 => ?_
    refine sh1 F1 ?_
    refine hk13 _ ?_
    refine evL_take 1 fun K14 hk14 => ?_
    refine sh1 F1 ?_
    refine Or.inl (Or.inl ⟨_, c2, ?_⟩)
    refine hk14 _ ?_
    refine evL_take 5 fun K15 hk15 => ?_
    refine sh1 F1 ?_
    refine sd ?_
    refine hk15 _ ?_
    refine sh1 F1 ?_
    refine hk12 _ ?_
    refine hn11 (some ([0, 1, 5, 6, 8], none)) _ ?_
    refine ev_seq_k fun K16 hn16 hr16 he16 => ?_
    refine ev_ops_k fun K17 hk17 => ?_
    refine evL_take 1 fun K18 hk18 => ?_
    refine sh1 F1 ?_
    refine hk18 _ ?_
    refine evL_take 1 fun K19 hk19 => ?_
    refine sh1 F1 ?_
    refine Or.inl (Or.inl ⟨_, c3, ?_⟩)
    refine hk19 _ ?_
    refine evL_take 5 fun K20 hk20 => ?_
    refine sh1 F1 ?_
    refine sd ?_
    refine hk20 _ ?_
    refine sh1 F1 ?_
    refine hk17 _ ?_
    refine hn16 (some ([0, 1, 5, 6, 8, 10], none)) _ ?_
    refine ev_seq_k fun K21 hn21 hr21 he21 => ?_
    refine ev_seq_k fun K22 hn22 hr22 he22 => ?_
    refine ev_ops_k fun K23 hk23 => ?_
    refine sh1 F1 ?_
    refine sd ?_
    refine hk23 _ ?_
    refine hn22 (some ([0, 1, 5, 6, 8, 10, 35], none)) _ ?_
    refine ev_cond_k rfl (fun hc1 => ?_) (fun hx => absurd hx (by simp at hx))
    clear hc1
    refine ev_ops_k fun K24 hk24 => ?_
    refine sh1 F1 ?_
    refine hk24 _ ?_
    refine hn21 (some ([0, 1, 5, 6, 8], none)) _ ?_
    refine ev_seq_k fun K25 hn25 hr25 he25 => ?_
    refine ev_ops_k fun K26 hk26 => ?_
    refine evL_take 1 fun K27 hk27 => ?_
    refine sh1 F1 ?_
    refine sd ?_
    refine hk27 _ ?_
    refine evL_take 1 fun K28 hk28 => ?_
    refine sh1 F1 ?_
    refine Or.inl (Or.inl ⟨_, c4, ?_⟩)
    refine hk28 _ ?_
    refine sh1 F1 ?_
    refine hk26 _ ?_
    refine hn25 (some ([0, 1, 5, 6, 8, 11, 12], none)) _ ?_
    refine ev_seq_k fun K29 hn29 hr29 he29 => ?_
    refine ev_seq_k fun K30 hn30 hr30 he30 => ?_
    refine ev_ops_k fun K31 hk31 => ?_
    refine sh1 F1 ?_
    refine sd ?_
    refine hk31 _ ?_
    refine hn30 (some ([0, 1, 5, 6, 8, 11, 12, 43], none)) _ ?_
    refine ev_cond_k rfl (fun hx => absurd hx (by simp at hx)) (fun hc2 => ?_)
    clear hc2
    refine hn29 (some ([0, 1, 5, 6, 11, 12], none)) _ ?_
    refine ev_seq_k fun K32 hn32 hr32 he32 => ?_
    refine ev_ops_k fun K33 hk33 => ?_
    refine evL_take 1 fun K34 hk34 => ?_
    refine sh1 F1 ?_
    refine Or.inl (Or.inl ⟨_, ok_l6awake, ?_⟩)
    refine hk34 _ ?_
    refine evL_take 3 fun K35 hk35 => ?_
    refine sh1 F1 ?_
    refine sd ?_
    refine hk35 _ ?_
    refine evL_take 5 fun K36 hk36 => ?_
    refine sh1 F1 ?_
    refine sd ?_
    refine hk36 _ ?_
    refine evL_take 6 fun K37 hk37 => ?_
    refine sh1 F1 ?_
    refine sd ?_
    refine hk37 _ ?_
    refine evL_take 3 fun K38 hk38 => ?_
    refine sh1 F1 ?_
    refine sd ?_
    refine hk38 _ ?_
    refine evL_take 1 fun K39 hk39 => ?_
    refine sh1 F1 ?_
    refine Or.inl (Or.inl ⟨_, c8, ?_⟩)
    refine hk39 _ ?_
    refine evL_take 1 fun K40 hk40 => ?_
    refine sh1 F1 ?_
    refine hk40 _ ?_
    refine evL_take 1 fun K41 hk41 => ?_
    refine sh1 F1 ?_
    refine Or.inl (Or.inl ⟨_, ok_l6alike _ _ ws hd, ?_⟩)
    refine hk41 _ ?_
    refine evL_take 3 fun K42 hk42 => ?_
    refine sh1 F1 ?_
    refine sd ?_
    refine hk42 _ ?_
    refine evL_take 1 fun K43 hk43 => ?_
    refine sh1 F1 ?_
    refine Or.inl (Or.inl ⟨_, c10, ?_⟩)
    refine hk43 _ ?_
    refine evL_take 1 fun K44 hk44 => ?_
    refine sh1 F1 ?_
    refine hk44 _ ?_
    refine evL_take 1 fun K45 hk45 => ?_
    refine sh1 F1 ?_
    refine Or.inl (Or.inl ⟨_, ok_l6alike _ _ ws hd, ?_⟩)
    refine hk45 _ ?_
    refine evL_take 3 fun K46 hk46 => ?_
    refine sh1 F1 ?_
    refine sd ?_
    refine hk46 _ ?_
    refine evL_take 1 fun K47 hk47 => ?_
    refine sh1 F1 ?_
    refine Or.inl (Or.inl ⟨_, c12, ?_⟩)
    refine hk47 _ ?_
    refine evL_take 1 fun K48 hk48 => ?_
    refine sh1 F1 ?_
    refine sd ?_
    refine hk48 _ ?_
    refine sh1 F1 ?_
    refine hk33 _ ?_
    refine hn32 (some ([4], none)) _ ?_
    exact sf1 F1
  · have e1 : cnewM k ws = (zMach, (mnewM k ws).2) := by unfold cnewM; rw [if_neg h]
    rw [e1] at c1
    generalize mnewM k ws = R at c1 c2 h
    have d1 : (R.2 == 0) = false := by simpa using h
    have d2 : (R.2 != 0) = true := by simpa using h
    have c4 : Ok 46 [eMach zMach] (.tup [sI 0, sI 0]) := ok_cSize zMach
    have c6 : Ok 43 [eMach zMach] (.sl 3 0 []) := ok_cWords zMach machOk_zero.mem (by omega)
    unfold evFn sc_MachineNew rv_MachineNew
    have F1 := And.intro @h40 (And.intro @d1 @d2)
    refine ev_seq_k fun K1 hn1 hr1 he1 => ?_
    refine ev_ops_k fun K2 hk2 => ?_
    refine sh1 F1 ?_
    refine hk2 _ ?_
    refine hn1 (some ([0, 1], none)) _ ?_
    refine ev_seq_k fun K3 hn3 hr3 he3 => ?_
    refine ev_seq_k fun K4 hn4 hr4 he4 => ?_
    refine ev_ops_k fun K5 hk5 => ?_
    refine sh1 F1 ?_
    refine sd ?_
    refine hk5 _ ?_
    refine hn4 (some ([0, 1, 15], none)) _ ?_
    refine ev_cond_k rfl (fun hx => absurd hx (by simp at hx)) (fun hc0 => ?_)
    clear hc0
    refine hn3 (some ([0, 1], none)) _ ?_
    refine ev_seq_k fun K6 hn6 hr6 he6 => ?_
    refine ev_ops_k fun K7 hk7 => ?_
    refine evL_take 2 fun K8 hk8 => ?_
    refine sh1 F1 ?_
    refine hk8 _ ?_
    refine evL_take 1 fun K9 hk9 => ?_
    refine sh1 F1 ?_
    refine Or.inl (Or.inl ⟨_, c1, ?_⟩)
    refine hk9 _ ?_
    refine evL_take 5 fun K10 hk10 => ?_
    refine sh1 F1 ?_
    refine sd ?_
    refine hk10 _ ?_
    refine sh1 F1 ?_
    refine hk7 _ ?_
    refine hn6 (some ([0, 1, 5, 6], none)) _ ?_
    refine ev_seq_k fun K11 hn11 hr11 he11 => ?_
    refine ev_ops_k fun K12 hk12 => ?_
    refine evL_take 2 fun K13 hk13 => ?_
    refine sh1 F1 ?_
    refine hk13 _ ?_
    refine evL_take 1 fun K14 hk14 => ?_
    refine sh1 F1 ?_
    refine Or.inl (Or.inl ⟨_, c2, ?_⟩)
    refine hk14 _ ?_
    refine evL_take 5 fun K15 hk15 => ?_
    refine sh1 F1 ?_
    refine sd ?_
    refine hk15 _ ?_
    refine sh1 F1 ?_
    refine hk12 _ ?_
    refine hn11 (some ([0, 1, 5, 6, 8], none)) _ ?_
    refine ev_seq_k fun K16 hn16 hr16 he16 => ?_
    refine ev_ops_k fun K17 hk17 => ?_
    refine evL_take 1 fun K18 hk18 => ?_
    refine sh1 F1 ?_
    refine hk18 _ ?_
    refine evL_take 1 fun K19 hk19 => ?_
    refine sh1 F1 ?_
    refine Or.inl (Or.inl ⟨_, c3, ?_⟩)
    refine hk19 _ ?_
    refine evL_take 5 fun K20 hk20 => ?_
    refine sh1 F1 ?_
    refine sd ?_
    refine hk20 _ ?_
    refine sh1 F1 ?_
    refine hk17 _ ?_
    refine hn16 (some ([0, 1, 5, 6, 8, 10], none)) _ ?_
    refine ev_seq_k fun K21 hn21 hr21 he21 => ?_
    refine ev_seq_k fun K22 hn22 hr22 he22 => ?_
    refine ev_ops_k fun K23 hk23 => ?_
    refine sh1 F1 ?_
    refine sd ?_
    refine hk23 _ ?_
    refine hn22 (some ([0, 1, 5, 6, 8, 10, 35], none)) _ ?_
    refine ev_cond_k rfl (fun hx => absurd hx (by simp at hx)) (fun hc1 => ?_)
    clear hc1
    refine hn21 (some ([0, 1, 5, 6, 8], none)) _ ?_
    refine ev_seq_k fun K24 hn24 hr24 he24 => ?_
    refine ev_ops_k fun K25 hk25 => ?_
    refine evL_take 1 fun K26 hk26 => ?_
    refine sh1 F1 ?_
    refine sd ?_
    refine hk26 _ ?_
    refine evL_take 1 fun K27 hk27 => ?_
    refine sh1 F1 ?_
    refine Or.inl (Or.inl ⟨_, c4, ?_⟩)
    refine hk27 _ ?_
    refine sh1 F1 ?_
    refine hk25 _ ?_
    refine hn24 (some ([0, 1, 5, 6, 8, 11, 12], none)) _ ?_
    refine ev_seq_k fun K28 hn28 hr28 he28 => ?_
    refine ev_seq_k fun K29 hn29 hr29 he29 => ?_
    refine ev_ops_k fun K30 hk30 => ?_
    refine sh1 F1 ?_
    refine sd ?_
    refine hk30 _ ?_
    refine hn29 (some ([0, 1, 5, 6, 8, 11, 12, 43], none)) _ ?_
    refine ev_cond_k rfl (fun hc2 => ?_) (fun hx => absurd hx (by simp at hx))
    clear hc2
    refine ev_seq_k fun K31 hn31 hr31 he31 => ?_
    refine ev_ops_k fun K32 hk32 => ?_
    refine evL_take 1 fun K33 hk33 => ?_
    refine sh1 F1 ?_
    refine Or.inl (Or.inl ⟨_, ok_l6awake, ?_⟩)
    refine hk33 _ ?_
    refine evL_take 4 fun K34 hk34 => ?_
    refine sh1 F1 ?_
    refine sd ?_
    refine hk34 _ ?_
    refine evL_take 4 fun K35 hk35 => ?_
    refine sh1 F1 ?_
    refine sd ?_
    refine hk35 _ ?_
    refine evL_take 4 fun K36 hk36 => ?_
    refine sh1 F1 ?_
    refine sd ?_
    refine hk36 _ ?_
    refine evL_take 3 fun K37 hk37 => ?_
    refine sh1 F1 ?_
    refine sd ?_
    refine hk37 _ ?_
    refine evL_take 1 fun K38 hk38 => ?_
    refine sh1 F1 ?_
    refine Or.inl (Or.inl ⟨_, c6, ?_⟩)
    refine hk38 _ ?_
    refine evL_take 2 fun K39 hk39 => ?_
    refine sh1 F1 ?_
    refine sd ?_
    refine hk39 _ ?_
    refine sh1 F1 ?_
    refine hk32 _ ?_
    refine hn31 (some ([4], none)) _ ?_
    refine hr28 _ ?_
    exact sf1 F1
end Go.Proofs.Ytfcjkchpldfamaa
