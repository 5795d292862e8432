/-
  The reference of layer 4 by shadows: add.
-/
import Derived.Test.YtfcjkchpldfamaaK4u
namespace Go.Proofs.Ytfcjkchpldfamaa
set_option linter.unusedSimpArgs false
set_option linter.unusedVariables false
open Go.RowKit Go.Maps

theorem ok_r4add (R : RefM4) (p : Nat) (m : RMsg4) {h : List RMsg4} (hh : R.msgs[p]? = some h) (hl : h.length ≤ 10000) (hn : R.msgs.length ≤ 4096) : Ok 84 [eRef4 R, sI p, .agg (eRM m)] (eRef4 ⟨R.views, R.msgs.set p (h ++ [m])⟩) := by
  refine ok_of_tr Try.func84 tr_r4add rfl ?_
  have e1 : (R.msgs.map eRP).set p [.sl 4 0 ((h ++ [m]).map eRM)] = (R.msgs.set p (h ++ [m])).map eRP := by rw [List.map_set]
  have hp := (List.getElem?_eq_some_iff.1 hh).1
  have q1 : (p : Int) < (R.msgs.length : Int) := by omega
  have q4 : R.msgs.length ≤ 1000000 := by omega
  have q3 : R.msgs.length * 24 ≤ 140737488355328 := by omega
  have q5 : h.length ≤ 1000000 := by omega
  have q6 : h.length * 40 ≤ 140737488355328 := by omega
  unfold evFn sc_r4add rv_r4add
  have F1 := And.intro @hp (And.intro @q1 (And.intro @q4 (And.intro @q3 (And.intro @q5 (And.intro @q6 @hh)))))
  refine ev_seq_k fun K1 hn1 hr1 he1 => ?_
  refine ev_ops_k fun K2 hk2 => ?_
  refine sh1 F1 ?_
  refine hk2 _ ?_
  refine hn1 (some ([1, 3, 5, 6], none)) _ ?_
  refine ev_seq_k fun K3 hn3 hr3 he3 => ?_
  refine ev_ops_k fun K4 hk4 => ?_
  refine evL_take 1 fun K5 hk5 => ?_
  refine sh1 F1 ?_
  refine sd ?_
  refine hk5 _ ?_
  refine evL_take 2 fun K6 hk6 => ?_
  refine sh1 F1 ?_
  refine sd ?_
  refine hk6 _ ?_
  refine evL_take 1 fun K7 hk7 => ?_
  refine sh1 F1 ?_
  refine sd ?_
  refine hk7 _ ?_
  refine sh1 F1 ?_
  refine hk4 _ ?_
  refine hn3 (some ([1, 3, 5, 6, 7], none)) _ ?_
  refine ev_seq_k fun K8 hn8 hr8 he8 => ?_
  refine ev_drw_k [] (n := 10) fun K9 hk9 => ?_
  refine sq0 ?_
  refine evF_take 3 fun K11 hk11 => ?_
  refine sh1 F1 ?_
  refine sd ?_
  refine hk11 _ _ _ ?_
  refine evF_take 3 fun K12 hk12 => ?_
  refine sh1 F1 ?_
  refine sd ?_
  refine hk12 _ _ _ ?_
  refine evF_take 1 fun K13 hk13 => ?_
  refine sh1 F1 ?_
  refine sd ?_
  refine hk13 _ _ _ ?_
  refine evF_take 1 fun K14 hk14 => ?_
  refine sh1 F1 ?_
  refine Or.inr ?_
  refine sd ?_
  refine hk14 _ _ _ ?_
  refine evF_take 1 fun K15 hk15 => ?_
  refine sh1 F1 ?_
  refine sd ?_
  refine hk15 _ _ _ ?_
  refine sh1 F1 ?_
  refine sd ?_
  refine hk9 _ ?_
  refine sr0 ?_
  refine evL_take 1 fun K16 hk16 => ?_
  refine sh1 F1 ?_
  refine sd ?_
  refine hk16 _ ?_
  refine evL_take 1 fun K17 hk17 => ?_
  refine sh1 F1 ?_
  refine sd ?_
  refine hk17 _ ?_
  refine sh1 F1 ?_
  refine sd ?_
  refine hn8 (some ([3, 6, 7], none)) _ ?_
  refine ev_seq_k fun K18 hn18 hr18 he18 => ?_
  refine ev_ops_k fun K19 hk19 => ?_
  refine evL_take 2 fun K20 hk20 => ?_
  refine sh1 F1 ?_
  refine sd ?_
  refine hk20 _ ?_
  refine sh1 F1 ?_
  refine sd ?_
  refine hk19 _ ?_
  refine hn18 (some ([6], none)) _ ?_
  refine sg1 F1 ?_
  simp [← e1]
end Go.Proofs.Ytfcjkchpldfamaa
