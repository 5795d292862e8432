/-
  The reference of layer 5 by shadows: New, Store, Flush, Sync, Crash.
-/
import Derived.Test.YtlbhfpcbbembgaaK5r
namespace Go.Proofs.Ytlbhfpcbbembgaa
set_option linter.unusedSimpArgs false
set_option linter.unusedVariables false
open Go.RowKit Go.Maps

theorem ok_r5Store_bad (g : Nat) (R : RefM) (a : Int) (v : WordV) (h : ¬ (0 ≤ a ∧ a < (R.first.length : Int))) : Ok 57 [eRef g R, sI a, .agg (eWord v)] (.tup [eRef g R, sI 1]) := by
  refine ok_of_tr Try.func57 tr_r5Store rfl ?_
  unfold evFn sc_r5Store
  refine ev_seq_k fun K1 hn1 hr1 he1 => ?_
  refine ev_ops_k fun K2 hk2 => ?_
  simp only [shA, if_true, if_false, ite_true, ite_false, forall_const, ite_self, eq_self, reduceIte, reduceCtorEq, Nat.reduceEqDiff, Nat.reduceAdd, Nat.reduceLeDiff, Nat.reduceSub, Int.reduceToNat, Nat.reduceBEq, Nat.reduceMul, Nat.reduceLT, Int.reduceLE, Int.reduceLT, Nat.reduceMod]
  refine hk2 _ ?_
  refine hn1 (some ([1, 3, 5, 6], none)) _ ?_
  refine ev_seq_k fun K3 hn3 hr3 he3 => ?_
  refine ev_seq_k fun K4 hn4 hr4 he4 => ?_
  refine ev_ops_k fun K5 hk5 => ?_
  refine evL_take 1 fun K6 hk6 => ?_
  simp only [shA, if_true, if_false, ite_true, ite_false, forall_const, ite_self, eq_self, reduceIte, reduceCtorEq, Nat.reduceEqDiff, Nat.reduceAdd, Nat.reduceLeDiff, Nat.reduceSub, Int.reduceToNat, Nat.reduceBEq, Nat.reduceMul, Nat.reduceLT, Int.reduceLE, Int.reduceLT, Nat.reduceMod]
  repeat (refine ⟨by first | assumption | omega | decide | (simp; done) | (simp_all; done) | (simp; omega), ?_⟩)
  refine hk6 _ ?_
  refine evL_take 1 fun K7 hk7 => ?_
  simp only [shA, if_true, if_false, ite_true, ite_false, forall_const, ite_self, eq_self, reduceIte, reduceCtorEq, Nat.reduceEqDiff, Nat.reduceAdd, Nat.reduceLeDiff, Nat.reduceSub, Int.reduceToNat, Nat.reduceBEq, Nat.reduceMul, Nat.reduceLT, Int.reduceLE, Int.reduceLT, Nat.reduceMod]
  refine hk7 _ ?_
  refine evL_take 1 fun K8 hk8 => ?_
  simp only [shA, if_true, if_false, ite_true, ite_false, forall_const, ite_self, eq_self, reduceIte, reduceCtorEq, Nat.reduceEqDiff, Nat.reduceAdd, Nat.reduceLeDiff, Nat.reduceSub, Int.reduceToNat, Nat.reduceBEq, Nat.reduceMul, Nat.reduceLT, Int.reduceLE, Int.reduceLT, Nat.reduceMod]
  refine Or.inl (Or.inl ⟨_, ok_r5Is g R a, ?_⟩)
  refine hk8 _ ?_
  simp only [shA, if_true, if_false, ite_true, ite_false, forall_const, ite_self, eq_self, reduceIte, reduceCtorEq, Nat.reduceEqDiff, Nat.reduceAdd, Nat.reduceLeDiff, Nat.reduceSub, Int.reduceToNat, Nat.reduceBEq, Nat.reduceMul, Nat.reduceLT, Int.reduceLE, Int.reduceLT, Nat.reduceMod]
  refine hk5 _ ?_
  refine hn4 (some ([1, 3, 5, 6, 12], none)) _ ?_
  refine ev_cond_k rfl (fun hc0 => ?_) (fun hx => absurd hx (by simp [h] at hx))
  clear hc0
  refine ev_seq_k fun K9 hn9 hr9 he9 => ?_
  refine ev_ops_k fun K10 hk10 => ?_
  refine evL_take 1 fun K11 hk11 => ?_
  simp only [shA, if_true, if_false, ite_true, ite_false, forall_const, ite_self, eq_self, reduceIte, reduceCtorEq, Nat.reduceEqDiff, Nat.reduceAdd, Nat.reduceLeDiff, Nat.reduceSub, Int.reduceToNat, Nat.reduceBEq, Nat.reduceMul, Nat.reduceLT, Int.reduceLE, Int.reduceLT, Nat.reduceMod]
  repeat (refine ⟨by first | assumption | omega | decide | (simp; done) | (simp_all; done) | (simp; omega), ?_⟩)
  refine hk11 _ ?_
  refine evL_take 1 fun K12 hk12 => ?_
  simp only [shA, if_true, if_false, ite_true, ite_false, forall_const, ite_self, eq_self, reduceIte, reduceCtorEq, Nat.reduceEqDiff, Nat.reduceAdd, Nat.reduceLeDiff, Nat.reduceSub, Int.reduceToNat, Nat.reduceBEq, Nat.reduceMul, Nat.reduceLT, Int.reduceLE, Int.reduceLT, Nat.reduceMod]
  repeat (refine ⟨by first | assumption | omega | decide | (simp; done) | (simp_all; done) | (simp; omega), ?_⟩)
  refine hk12 _ ?_
  simp only [shA, if_true, if_false, ite_true, ite_false, forall_const, ite_self, eq_self, reduceIte, reduceCtorEq, Nat.reduceEqDiff, Nat.reduceAdd, Nat.reduceLeDiff, Nat.reduceSub, Int.reduceToNat, Nat.reduceBEq, Nat.reduceMul, Nat.reduceLT, Int.reduceLE, Int.reduceLT, Nat.reduceMod]
  refine hk10 _ ?_
  refine hn9 (some ([6, 7], none)) _ ?_
  refine hr3 _ ?_
  simp only [shA, if_true, if_false, ite_true, ite_false, forall_const, ite_self, eq_self, reduceIte, reduceCtorEq, Nat.reduceEqDiff, Nat.reduceAdd, Nat.reduceLeDiff, Nat.reduceSub, Int.reduceToNat, Nat.reduceBEq, Nat.reduceMul, Nat.reduceLT, Int.reduceLE, Int.reduceLT, Nat.reduceMod, ev, fin, rv_r5Store]
theorem ok_r5Store (g : Nat) (R : RefM) (a : Int) (v : WordV) (h : 0 ≤ a ∧ a < (R.first.length : Int)) (hn : R.puts.length ≤ 1000) : Ok 57 [eRef g R, sI a, .agg (eWord v)] (.tup [eRef g (r5storeM R a v), sI 0]) := by
  refine ok_of_tr Try.func57 tr_r5Store rfl ?_
  unfold evFn sc_r5Store
  refine ev_seq_k fun K1 hn1 hr1 he1 => ?_
  refine ev_ops_k fun K2 hk2 => ?_
  simp only [shA, if_true, if_false, ite_true, ite_false, forall_const, ite_self, eq_self, reduceIte, reduceCtorEq, Nat.reduceEqDiff, Nat.reduceAdd, Nat.reduceLeDiff, Nat.reduceSub, Int.reduceToNat, Nat.reduceBEq, Nat.reduceMul, Nat.reduceLT, Int.reduceLE, Int.reduceLT, Nat.reduceMod, List.length_map]
  refine hk2 _ ?_
  refine hn1 (some ([1, 3, 5, 6], none)) _ ?_
  refine ev_seq_k fun K3 hn3 hr3 he3 => ?_
  refine ev_seq_k fun K4 hn4 hr4 he4 => ?_
  refine ev_ops_k fun K5 hk5 => ?_
  refine evL_take 1 fun K6 hk6 => ?_
  simp only [shA, if_true, if_false, ite_true, ite_false, forall_const, ite_self, eq_self, reduceIte, reduceCtorEq, Nat.reduceEqDiff, Nat.reduceAdd, Nat.reduceLeDiff, Nat.reduceSub, Int.reduceToNat, Nat.reduceBEq, Nat.reduceMul, Nat.reduceLT, Int.reduceLE, Int.reduceLT, Nat.reduceMod, List.length_map]
  repeat (refine ⟨by first | assumption | omega | decide | (simp; done) | (simp_all; done) | (simp; omega), ?_⟩)
  refine hk6 _ ?_
  refine evL_take 1 fun K7 hk7 => ?_
  simp only [shA, if_true, if_false, ite_true, ite_false, forall_const, ite_self, eq_self, reduceIte, reduceCtorEq, Nat.reduceEqDiff, Nat.reduceAdd, Nat.reduceLeDiff, Nat.reduceSub, Int.reduceToNat, Nat.reduceBEq, Nat.reduceMul, Nat.reduceLT, Int.reduceLE, Int.reduceLT, Nat.reduceMod, List.length_map]
  refine hk7 _ ?_
  refine evL_take 1 fun K8 hk8 => ?_
  simp only [shA, if_true, if_false, ite_true, ite_false, forall_const, ite_self, eq_self, reduceIte, reduceCtorEq, Nat.reduceEqDiff, Nat.reduceAdd, Nat.reduceLeDiff, Nat.reduceSub, Int.reduceToNat, Nat.reduceBEq, Nat.reduceMul, Nat.reduceLT, Int.reduceLE, Int.reduceLT, Nat.reduceMod, List.length_map]
  refine Or.inl (Or.inl ⟨_, ok_r5Is g R a, ?_⟩)
  refine hk8 _ ?_
  simp only [shA, if_true, if_false, ite_true, ite_false, forall_const, ite_self, eq_self, reduceIte, reduceCtorEq, Nat.reduceEqDiff, Nat.reduceAdd, Nat.reduceLeDiff, Nat.reduceSub, Int.reduceToNat, Nat.reduceBEq, Nat.reduceMul, Nat.reduceLT, Int.reduceLE, Int.reduceLT, Nat.reduceMod, List.length_map]
  refine hk5 _ ?_
  refine hn4 (some ([1, 3, 5, 6, 12], none)) _ ?_
  refine ev_cond_k rfl (fun hx => absurd hx (by simp [h] at hx)) (fun hc0 => ?_)
  clear hc0
  refine hn3 (some ([1, 3, 5, 6], none)) _ ?_
  refine ev_seq_k fun K9 hn9 hr9 he9 => ?_
  refine ev_ops_k fun K10 hk10 => ?_
  refine evL_take 1 fun K11 hk11 => ?_
  simp only [shA, if_true, if_false, ite_true, ite_false, forall_const, ite_self, eq_self, reduceIte, reduceCtorEq, Nat.reduceEqDiff, Nat.reduceAdd, Nat.reduceLeDiff, Nat.reduceSub, Int.reduceToNat, Nat.reduceBEq, Nat.reduceMul, Nat.reduceLT, Int.reduceLE, Int.reduceLT, Nat.reduceMod, List.length_map]
  repeat (refine ⟨by first | assumption | omega | decide | (simp; done) | (simp_all; done) | (simp; omega), ?_⟩)
  refine hk11 _ ?_
  simp only [shA, if_true, if_false, ite_true, ite_false, forall_const, ite_self, eq_self, reduceIte, reduceCtorEq, Nat.reduceEqDiff, Nat.reduceAdd, Nat.reduceLeDiff, Nat.reduceSub, Int.reduceToNat, Nat.reduceBEq, Nat.reduceMul, Nat.reduceLT, Int.reduceLE, Int.reduceLT, Nat.reduceMod, List.length_map]
  repeat (refine ⟨by first | assumption | omega | decide | (simp; done) | (simp_all; done) | (simp; omega), ?_⟩)
  refine hk10 _ ?_
  refine hn9 (some ([1, 3, 5, 6, 8], none)) _ ?_
  refine ev_seq_k fun K12 hn12 hr12 he12 => ?_
  refine ev_drw_k [] (n := 8) fun K13 hk13 => ?_
  simp only [List.take_succ_cons, List.take_zero, St.frzAll, St.frzSh, St.frzRow, St.frzBox, St.frzCells, St.argL, St.arg1, St.res, Sh.pure, St.setO, getA, delA, keepT, St.keep, reduceIte, Nat.reduceEqDiff, reduceCtorEq, Option.bind_some, Option.map_some, List.contains_cons, List.contains_nil, Nat.reduceBEq, Bool.or_false, Bool.or_true, Bool.false_or, beq_self_eq_true, Bool.false_eq_true]
  refine evF_take 1 fun K15 hk15 => ?_
  simp only [shA, if_true, if_false, ite_true, ite_false, forall_const, ite_self, eq_self, reduceIte, reduceCtorEq, Nat.reduceEqDiff, Nat.reduceAdd, Nat.reduceLeDiff, Nat.reduceSub, Int.reduceToNat, Nat.reduceBEq, Nat.reduceMul, Nat.reduceLT, Int.reduceLE, Int.reduceLT, Nat.reduceMod, List.length_map]
  repeat (refine ⟨by first | assumption | omega | decide | (simp; done) | (simp_all; done) | (simp; omega), ?_⟩)
  refine hk15 _ _ _ ?_
  refine evF_take 2 fun K16 hk16 => ?_
  simp only [shA, if_true, if_false, ite_true, ite_false, forall_const, ite_self, eq_self, reduceIte, reduceCtorEq, Nat.reduceEqDiff, Nat.reduceAdd, Nat.reduceLeDiff, Nat.reduceSub, Int.reduceToNat, Nat.reduceBEq, Nat.reduceMul, Nat.reduceLT, Int.reduceLE, Int.reduceLT, Nat.reduceMod, List.length_map]
  repeat (refine ⟨by first | assumption | omega | decide | (simp; done) | (simp_all; done) | (simp; omega), ?_⟩)
  refine hk16 _ _ _ ?_
  refine evF_take 1 fun K17 hk17 => ?_
  simp only [shA, if_true, if_false, ite_true, ite_false, forall_const, ite_self, eq_self, reduceIte, reduceCtorEq, Nat.reduceEqDiff, Nat.reduceAdd, Nat.reduceLeDiff, Nat.reduceSub, Int.reduceToNat, Nat.reduceBEq, Nat.reduceMul, Nat.reduceLT, Int.reduceLE, Int.reduceLT, Nat.reduceMod, List.length_map]
  refine Or.inr ?_
  repeat (refine ⟨by first | assumption | omega | decide | (simp; done) | (simp_all; done) | (simp; omega), ?_⟩)
  refine hk17 _ _ _ ?_
  refine evF_take 2 fun K18 hk18 => ?_
  simp only [shA, if_true, if_false, ite_true, ite_false, forall_const, ite_self, eq_self, reduceIte, reduceCtorEq, Nat.reduceEqDiff, Nat.reduceAdd, Nat.reduceLeDiff, Nat.reduceSub, Int.reduceToNat, Nat.reduceBEq, Nat.reduceMul, Nat.reduceLT, Int.reduceLE, Int.reduceLT, Nat.reduceMod, List.length_map]
  repeat (refine ⟨by first | assumption | omega | decide | (simp; done) | (simp_all; done) | (simp; omega), ?_⟩)
  refine hk18 _ _ _ ?_
  simp only [shA, if_true, if_false, ite_true, ite_false, forall_const, ite_self, eq_self, reduceIte, reduceCtorEq, Nat.reduceEqDiff, Nat.reduceAdd, Nat.reduceLeDiff, Nat.reduceSub, Int.reduceToNat, Nat.reduceBEq, Nat.reduceMul, Nat.reduceLT, Int.reduceLE, Int.reduceLT, Nat.reduceMod, List.length_map]
  repeat (refine ⟨by first | assumption | omega | decide | (simp; done) | (simp_all; done) | (simp; omega), ?_⟩)
  refine hk13 _ ?_
  simp only [List.drop_succ_cons, List.drop_zero]
  refine evL_take 1 fun K19 hk19 => ?_
  simp only [shA, if_true, if_false, ite_true, ite_false, forall_const, ite_self, eq_self, reduceIte, reduceCtorEq, Nat.reduceEqDiff, Nat.reduceAdd, Nat.reduceLeDiff, Nat.reduceSub, Int.reduceToNat, Nat.reduceBEq, Nat.reduceMul, Nat.reduceLT, Int.reduceLE, Int.reduceLT, Nat.reduceMod, List.length_map]
  repeat (refine ⟨by first | assumption | omega | decide | (simp; done) | (simp_all; done) | (simp; omega), ?_⟩)
  refine hk19 _ ?_
  simp only [shA, if_true, if_false, ite_true, ite_false, forall_const, ite_self, eq_self, reduceIte, reduceCtorEq, Nat.reduceEqDiff, Nat.reduceAdd, Nat.reduceLeDiff, Nat.reduceSub, Int.reduceToNat, Nat.reduceBEq, Nat.reduceMul, Nat.reduceLT, Int.reduceLE, Int.reduceLT, Nat.reduceMod, List.length_map]
  repeat (refine ⟨by first | assumption | omega | decide | (simp; done) | (simp_all; done) | (simp; omega), ?_⟩)
  refine hn12 (some ([6, 8], none)) _ ?_
  refine ev_seq_k fun K20 hn20 hr20 he20 => ?_
  refine ev_ops_k fun K21 hk21 => ?_
  refine evL_take 1 fun K22 hk22 => ?_
  simp only [shA, if_true, if_false, ite_true, ite_false, forall_const, ite_self, eq_self, reduceIte, reduceCtorEq, Nat.reduceEqDiff, Nat.reduceAdd, Nat.reduceLeDiff, Nat.reduceSub, Int.reduceToNat, Nat.reduceBEq, Nat.reduceMul, Nat.reduceLT, Int.reduceLE, Int.reduceLT, Nat.reduceMod, List.length_map]
  repeat (refine ⟨by first | assumption | omega | decide | (simp; done) | (simp_all; done) | (simp; omega), ?_⟩)
  refine hk22 _ ?_
  refine evL_take 1 fun K23 hk23 => ?_
  simp only [shA, if_true, if_false, ite_true, ite_false, forall_const, ite_self, eq_self, reduceIte, reduceCtorEq, Nat.reduceEqDiff, Nat.reduceAdd, Nat.reduceLeDiff, Nat.reduceSub, Int.reduceToNat, Nat.reduceBEq, Nat.reduceMul, Nat.reduceLT, Int.reduceLE, Int.reduceLT, Nat.reduceMod, List.length_map]
  repeat (refine ⟨by first | assumption | omega | decide | (simp; done) | (simp_all; done) | (simp; omega), ?_⟩)
  refine hk23 _ ?_
  simp only [shA, if_true, if_false, ite_true, ite_false, forall_const, ite_self, eq_self, reduceIte, reduceCtorEq, Nat.reduceEqDiff, Nat.reduceAdd, Nat.reduceLeDiff, Nat.reduceSub, Int.reduceToNat, Nat.reduceBEq, Nat.reduceMul, Nat.reduceLT, Int.reduceLE, Int.reduceLT, Nat.reduceMod, List.length_map]
  refine hk21 _ ?_
  refine hn20 (some ([6, 7], none)) _ ?_
  simp only [shA, if_true, if_false, ite_true, ite_false, forall_const, ite_self, eq_self, reduceIte, reduceCtorEq, Nat.reduceEqDiff, Nat.reduceAdd, Nat.reduceLeDiff, Nat.reduceSub, Int.reduceToNat, Nat.reduceBEq, Nat.reduceMul, Nat.reduceLT, Int.reduceLE, Int.reduceLT, Nat.reduceMod, ev, fin, rv_r5Store, List.length_map]
  simp [r5storeM]
theorem ok_r5Flush_thread (g : Nat) (R : RefM) (t a : Int) (h : ¬ (1 ≤ t ∧ t ≤ 8)) : Ok 58 [eRef g R, sI t, sI a] (.tup [eRef g R, sI 3]) := by
  refine ok_of_tr Try.func58 tr_r5Flush rfl ?_
  by_cases h1 : t < 1
  · skip
    unfold evFn sc_r5Flush
    refine ev_seq_k fun K1 hn1 hr1 he1 => ?_
    refine ev_ops_k fun K2 hk2 => ?_
    simp only [shA, if_true, if_false, ite_true, ite_false, forall_const, ite_self, eq_self, reduceIte, reduceCtorEq, Nat.reduceEqDiff, Nat.reduceAdd, Nat.reduceLeDiff, Nat.reduceSub, Int.reduceToNat, Nat.reduceBEq, Nat.reduceMul, Nat.reduceLT, Int.reduceLE, Int.reduceLT, Nat.reduceMod, h1]
    refine hk2 _ ?_
    refine hn1 (some ([1, 2, 3, 6, 12, 13], none)) _ ?_
    refine ev_seq_k fun K3 hn3 hr3 he3 => ?_
    refine ev_seq_k fun K4 hn4 hr4 he4 => ?_
    refine ev_ops_k fun K5 hk5 => ?_
    refine evL_take 2 fun K6 hk6 => ?_
    simp only [shA, if_true, if_false, ite_true, ite_false, forall_const, ite_self, eq_self, reduceIte, reduceCtorEq, Nat.reduceEqDiff, Nat.reduceAdd, Nat.reduceLeDiff, Nat.reduceSub, Int.reduceToNat, Nat.reduceBEq, Nat.reduceMul, Nat.reduceLT, Int.reduceLE, Int.reduceLT, Nat.reduceMod, h1]
    repeat (refine ⟨by first | assumption | omega | decide | (simp; done) | (simp_all; done) | (simp; omega), ?_⟩)
    refine hk6 _ ?_
    refine evL_take 3 fun K7 hk7 => ?_
    simp only [shA, if_true, if_false, ite_true, ite_false, forall_const, ite_self, eq_self, reduceIte, reduceCtorEq, Nat.reduceEqDiff, Nat.reduceAdd, Nat.reduceLeDiff, Nat.reduceSub, Int.reduceToNat, Nat.reduceBEq, Nat.reduceMul, Nat.reduceLT, Int.reduceLE, Int.reduceLT, Nat.reduceMod, h1]
    repeat (refine ⟨by first | assumption | omega | decide | (simp; done) | (simp_all; done) | (simp; omega), ?_⟩)
    refine hk7 _ ?_
    simp only [shA, if_true, if_false, ite_true, ite_false, forall_const, ite_self, eq_self, reduceIte, reduceCtorEq, Nat.reduceEqDiff, Nat.reduceAdd, Nat.reduceLeDiff, Nat.reduceSub, Int.reduceToNat, Nat.reduceBEq, Nat.reduceMul, Nat.reduceLT, Int.reduceLE, Int.reduceLT, Nat.reduceMod, h1]
    refine hk5 _ ?_
    refine hn4 (some ([1, 2, 3, 6, 14], none)) _ ?_
    refine ev_cond_k rfl (fun hc0 => ?_) (fun hx => absurd hx (by simp at hx))
    clear hc0
    refine ev_seq_k fun K8 hn8 hr8 he8 => ?_
    refine ev_ops_k fun K9 hk9 => ?_
    refine evL_take 1 fun K10 hk10 => ?_
    simp only [shA, if_true, if_false, ite_true, ite_false, forall_const, ite_self, eq_self, reduceIte, reduceCtorEq, Nat.reduceEqDiff, Nat.reduceAdd, Nat.reduceLeDiff, Nat.reduceSub, Int.reduceToNat, Nat.reduceBEq, Nat.reduceMul, Nat.reduceLT, Int.reduceLE, Int.reduceLT, Nat.reduceMod, h1]
    repeat (refine ⟨by first | assumption | omega | decide | (simp; done) | (simp_all; done) | (simp; omega), ?_⟩)
    refine hk10 _ ?_
    refine evL_take 1 fun K11 hk11 => ?_
    simp only [shA, if_true, if_false, ite_true, ite_false, forall_const, ite_self, eq_self, reduceIte, reduceCtorEq, Nat.reduceEqDiff, Nat.reduceAdd, Nat.reduceLeDiff, Nat.reduceSub, Int.reduceToNat, Nat.reduceBEq, Nat.reduceMul, Nat.reduceLT, Int.reduceLE, Int.reduceLT, Nat.reduceMod, h1]
    repeat (refine ⟨by first | assumption | omega | decide | (simp; done) | (simp_all; done) | (simp; omega), ?_⟩)
    refine hk11 _ ?_
    simp only [shA, if_true, if_false, ite_true, ite_false, forall_const, ite_self, eq_self, reduceIte, reduceCtorEq, Nat.reduceEqDiff, Nat.reduceAdd, Nat.reduceLeDiff, Nat.reduceSub, Int.reduceToNat, Nat.reduceBEq, Nat.reduceMul, Nat.reduceLT, Int.reduceLE, Int.reduceLT, Nat.reduceMod, h1]
    refine hk9 _ ?_
    refine hn8 (some ([6, 7], none)) _ ?_
    refine hr3 _ ?_
    simp only [shA, if_true, if_false, ite_true, ite_false, forall_const, ite_self, eq_self, reduceIte, reduceCtorEq, Nat.reduceEqDiff, Nat.reduceAdd, Nat.reduceLeDiff, Nat.reduceSub, Int.reduceToNat, Nat.reduceBEq, Nat.reduceMul, Nat.reduceLT, Int.reduceLE, Int.reduceLT, Nat.reduceMod, ev, fin, rv_r5Flush, h1]
  · have h2 : 8 < t := by omega
    unfold evFn sc_r5Flush
    refine ev_seq_k fun K1 hn1 hr1 he1 => ?_
    refine ev_ops_k fun K2 hk2 => ?_
    simp only [shA, if_true, if_false, ite_true, ite_false, forall_const, ite_self, eq_self, reduceIte, reduceCtorEq, Nat.reduceEqDiff, Nat.reduceAdd, Nat.reduceLeDiff, Nat.reduceSub, Int.reduceToNat, Nat.reduceBEq, Nat.reduceMul, Nat.reduceLT, Int.reduceLE, Int.reduceLT, Nat.reduceMod, h1, h2]
    refine hk2 _ ?_
    refine hn1 (some ([1, 2, 3, 6, 12, 13], none)) _ ?_
    refine ev_seq_k fun K3 hn3 hr3 he3 => ?_
    refine ev_seq_k fun K4 hn4 hr4 he4 => ?_
    refine ev_ops_k fun K5 hk5 => ?_
    refine evL_take 2 fun K6 hk6 => ?_
    simp only [shA, if_true, if_false, ite_true, ite_false, forall_const, ite_self, eq_self, reduceIte, reduceCtorEq, Nat.reduceEqDiff, Nat.reduceAdd, Nat.reduceLeDiff, Nat.reduceSub, Int.reduceToNat, Nat.reduceBEq, Nat.reduceMul, Nat.reduceLT, Int.reduceLE, Int.reduceLT, Nat.reduceMod, h1, h2]
    repeat (refine ⟨by first | assumption | omega | decide | (simp; done) | (simp_all; done) | (simp; omega), ?_⟩)
    refine hk6 _ ?_
    refine evL_take 3 fun K7 hk7 => ?_
    simp only [shA, if_true, if_false, ite_true, ite_false, forall_const, ite_self, eq_self, reduceIte, reduceCtorEq, Nat.reduceEqDiff, Nat.reduceAdd, Nat.reduceLeDiff, Nat.reduceSub, Int.reduceToNat, Nat.reduceBEq, Nat.reduceMul, Nat.reduceLT, Int.reduceLE, Int.reduceLT, Nat.reduceMod, h1, h2]
    repeat (refine ⟨by first | assumption | omega | decide | (simp; done) | (simp_all; done) | (simp; omega), ?_⟩)
    refine hk7 _ ?_
    simp only [shA, if_true, if_false, ite_true, ite_false, forall_const, ite_self, eq_self, reduceIte, reduceCtorEq, Nat.reduceEqDiff, Nat.reduceAdd, Nat.reduceLeDiff, Nat.reduceSub, Int.reduceToNat, Nat.reduceBEq, Nat.reduceMul, Nat.reduceLT, Int.reduceLE, Int.reduceLT, Nat.reduceMod, h1, h2]
    refine hk5 _ ?_
    refine hn4 (some ([1, 2, 3, 6, 14], none)) _ ?_
    refine ev_cond_k rfl (fun hc0 => ?_) (fun hx => absurd hx (by simp at hx))
    clear hc0
    refine ev_seq_k fun K8 hn8 hr8 he8 => ?_
    refine ev_ops_k fun K9 hk9 => ?_
    refine evL_take 1 fun K10 hk10 => ?_
    simp only [shA, if_true, if_false, ite_true, ite_false, forall_const, ite_self, eq_self, reduceIte, reduceCtorEq, Nat.reduceEqDiff, Nat.reduceAdd, Nat.reduceLeDiff, Nat.reduceSub, Int.reduceToNat, Nat.reduceBEq, Nat.reduceMul, Nat.reduceLT, Int.reduceLE, Int.reduceLT, Nat.reduceMod, h1, h2]
    repeat (refine ⟨by first | assumption | omega | decide | (simp; done) | (simp_all; done) | (simp; omega), ?_⟩)
    refine hk10 _ ?_
    refine evL_take 1 fun K11 hk11 => ?_
    simp only [shA, if_true, if_false, ite_true, ite_false, forall_const, ite_self, eq_self, reduceIte, reduceCtorEq, Nat.reduceEqDiff, Nat.reduceAdd, Nat.reduceLeDiff, Nat.reduceSub, Int.reduceToNat, Nat.reduceBEq, Nat.reduceMul, Nat.reduceLT, Int.reduceLE, Int.reduceLT, Nat.reduceMod, h1, h2]
    repeat (refine ⟨by first | assumption | omega | decide | (simp; done) | (simp_all; done) | (simp; omega), ?_⟩)
    refine hk11 _ ?_
    simp only [shA, if_true, if_false, ite_true, ite_false, forall_const, ite_self, eq_self, reduceIte, reduceCtorEq, Nat.reduceEqDiff, Nat.reduceAdd, Nat.reduceLeDiff, Nat.reduceSub, Int.reduceToNat, Nat.reduceBEq, Nat.reduceMul, Nat.reduceLT, Int.reduceLE, Int.reduceLT, Nat.reduceMod, h1, h2]
    refine hk9 _ ?_
    refine hn8 (some ([6, 7], none)) _ ?_
    refine hr3 _ ?_
    simp only [shA, if_true, if_false, ite_true, ite_false, forall_const, ite_self, eq_self, reduceIte, reduceCtorEq, Nat.reduceEqDiff, Nat.reduceAdd, Nat.reduceLeDiff, Nat.reduceSub, Int.reduceToNat, Nat.reduceBEq, Nat.reduceMul, Nat.reduceLT, Int.reduceLE, Int.reduceLT, Nat.reduceMod, ev, fin, rv_r5Flush, h1, h2]
theorem ok_r5Flush_place (g : Nat) (R : RefM) (t a : Int) (ht : 1 ≤ t ∧ t ≤ 8) (h : ¬ (0 ≤ a ∧ a < (R.first.length : Int))) : Ok 58 [eRef g R, sI t, sI a] (.tup [eRef g R, sI 1]) := by
  refine ok_of_tr Try.func58 tr_r5Flush rfl ?_
  have h1 : ¬ t < 1 := by omega
  have h2 : ¬ 8 < t := by omega
  unfold evFn sc_r5Flush
  refine ev_seq_k fun K1 hn1 hr1 he1 => ?_
  refine ev_ops_k fun K2 hk2 => ?_
  simp only [shA, if_true, if_false, ite_true, ite_false, forall_const, ite_self, eq_self, reduceIte, reduceCtorEq, Nat.reduceEqDiff, Nat.reduceAdd, Nat.reduceLeDiff, Nat.reduceSub, Int.reduceToNat, Nat.reduceBEq, Nat.reduceMul, Nat.reduceLT, Int.reduceLE, Int.reduceLT, Nat.reduceMod, h1, h2]
  refine hk2 _ ?_
  refine hn1 (some ([1, 2, 3, 6, 12, 13], none)) _ ?_
  refine ev_seq_k fun K3 hn3 hr3 he3 => ?_
  refine ev_seq_k fun K4 hn4 hr4 he4 => ?_
  refine ev_ops_k fun K5 hk5 => ?_
  refine evL_take 2 fun K6 hk6 => ?_
  simp only [shA, if_true, if_false, ite_true, ite_false, forall_const, ite_self, eq_self, reduceIte, reduceCtorEq, Nat.reduceEqDiff, Nat.reduceAdd, Nat.reduceLeDiff, Nat.reduceSub, Int.reduceToNat, Nat.reduceBEq, Nat.reduceMul, Nat.reduceLT, Int.reduceLE, Int.reduceLT, Nat.reduceMod, h1, h2]
  repeat (refine ⟨by first | assumption | omega | decide | (simp; done) | (simp_all; done) | (simp; omega), ?_⟩)
  refine hk6 _ ?_
  refine evL_take 3 fun K7 hk7 => ?_
  simp only [shA, if_true, if_false, ite_true, ite_false, forall_const, ite_self, eq_self, reduceIte, reduceCtorEq, Nat.reduceEqDiff, Nat.reduceAdd, Nat.reduceLeDiff, Nat.reduceSub, Int.reduceToNat, Nat.reduceBEq, Nat.reduceMul, Nat.reduceLT, Int.reduceLE, Int.reduceLT, Nat.reduceMod, h1, h2]
  repeat (refine ⟨by first | assumption | omega | decide | (simp; done) | (simp_all; done) | (simp; omega), ?_⟩)
  refine hk7 _ ?_
  simp only [shA, if_true, if_false, ite_true, ite_false, forall_const, ite_self, eq_self, reduceIte, reduceCtorEq, Nat.reduceEqDiff, Nat.reduceAdd, Nat.reduceLeDiff, Nat.reduceSub, Int.reduceToNat, Nat.reduceBEq, Nat.reduceMul, Nat.reduceLT, Int.reduceLE, Int.reduceLT, Nat.reduceMod, h1, h2]
  refine hk5 _ ?_
  refine hn4 (some ([1, 2, 3, 6, 14], none)) _ ?_
  refine ev_cond_k rfl (fun hx => absurd hx (by simp at hx)) (fun hc0 => ?_)
  clear hc0
  refine hn3 (some ([1, 2, 3, 6], none)) _ ?_
  refine ev_seq_k fun K8 hn8 hr8 he8 => ?_
  refine ev_seq_k fun K9 hn9 hr9 he9 => ?_
  refine ev_ops_k fun K10 hk10 => ?_
  refine evL_take 1 fun K11 hk11 => ?_
  simp only [shA, if_true, if_false, ite_true, ite_false, forall_const, ite_self, eq_self, reduceIte, reduceCtorEq, Nat.reduceEqDiff, Nat.reduceAdd, Nat.reduceLeDiff, Nat.reduceSub, Int.reduceToNat, Nat.reduceBEq, Nat.reduceMul, Nat.reduceLT, Int.reduceLE, Int.reduceLT, Nat.reduceMod, h1, h2]
  repeat (refine ⟨by first | assumption | omega | decide | (simp; done) | (simp_all; done) | (simp; omega), ?_⟩)
  refine hk11 _ ?_
  refine evL_take 1 fun K12 hk12 => ?_
  simp only [shA, if_true, if_false, ite_true, ite_false, forall_const, ite_self, eq_self, reduceIte, reduceCtorEq, Nat.reduceEqDiff, Nat.reduceAdd, Nat.reduceLeDiff, Nat.reduceSub, Int.reduceToNat, Nat.reduceBEq, Nat.reduceMul, Nat.reduceLT, Int.reduceLE, Int.reduceLT, Nat.reduceMod, h1, h2]
  refine hk12 _ ?_
  refine evL_take 1 fun K13 hk13 => ?_
  simp only [shA, if_true, if_false, ite_true, ite_false, forall_const, ite_self, eq_self, reduceIte, reduceCtorEq, Nat.reduceEqDiff, Nat.reduceAdd, Nat.reduceLeDiff, Nat.reduceSub, Int.reduceToNat, Nat.reduceBEq, Nat.reduceMul, Nat.reduceLT, Int.reduceLE, Int.reduceLT, Nat.reduceMod, h1, h2]
  refine Or.inl (Or.inl ⟨_, ok_r5Is g R a, ?_⟩)
  refine hk13 _ ?_
  simp only [shA, if_true, if_false, ite_true, ite_false, forall_const, ite_self, eq_self, reduceIte, reduceCtorEq, Nat.reduceEqDiff, Nat.reduceAdd, Nat.reduceLeDiff, Nat.reduceSub, Int.reduceToNat, Nat.reduceBEq, Nat.reduceMul, Nat.reduceLT, Int.reduceLE, Int.reduceLT, Nat.reduceMod, h1, h2]
  refine hk10 _ ?_
  refine hn9 (some ([1, 2, 3, 6, 19], none)) _ ?_
  refine ev_cond_k rfl (fun hc1 => ?_) (fun hx => absurd hx (by simp [h] at hx))
  clear hc1
  refine ev_seq_k fun K14 hn14 hr14 he14 => ?_
  refine ev_ops_k fun K15 hk15 => ?_
  refine evL_take 1 fun K16 hk16 => ?_
  simp only [shA, if_true, if_false, ite_true, ite_false, forall_const, ite_self, eq_self, reduceIte, reduceCtorEq, Nat.reduceEqDiff, Nat.reduceAdd, Nat.reduceLeDiff, Nat.reduceSub, Int.reduceToNat, Nat.reduceBEq, Nat.reduceMul, Nat.reduceLT, Int.reduceLE, Int.reduceLT, Nat.reduceMod, h1, h2]
  repeat (refine ⟨by first | assumption | omega | decide | (simp; done) | (simp_all; done) | (simp; omega), ?_⟩)
  refine hk16 _ ?_
  refine evL_take 1 fun K17 hk17 => ?_
  simp only [shA, if_true, if_false, ite_true, ite_false, forall_const, ite_self, eq_self, reduceIte, reduceCtorEq, Nat.reduceEqDiff, Nat.reduceAdd, Nat.reduceLeDiff, Nat.reduceSub, Int.reduceToNat, Nat.reduceBEq, Nat.reduceMul, Nat.reduceLT, Int.reduceLE, Int.reduceLT, Nat.reduceMod, h1, h2]
  repeat (refine ⟨by first | assumption | omega | decide | (simp; done) | (simp_all; done) | (simp; omega), ?_⟩)
  refine hk17 _ ?_
  simp only [shA, if_true, if_false, ite_true, ite_false, forall_const, ite_self, eq_self, reduceIte, reduceCtorEq, Nat.reduceEqDiff, Nat.reduceAdd, Nat.reduceLeDiff, Nat.reduceSub, Int.reduceToNat, Nat.reduceBEq, Nat.reduceMul, Nat.reduceLT, Int.reduceLE, Int.reduceLT, Nat.reduceMod, h1, h2]
  refine hk15 _ ?_
  refine hn14 (some ([6, 7], none)) _ ?_
  refine hr8 _ ?_
  simp only [shA, if_true, if_false, ite_true, ite_false, forall_const, ite_self, eq_self, reduceIte, reduceCtorEq, Nat.reduceEqDiff, Nat.reduceAdd, Nat.reduceLeDiff, Nat.reduceSub, Int.reduceToNat, Nat.reduceBEq, Nat.reduceMul, Nat.reduceLT, Int.reduceLE, Int.reduceLT, Nat.reduceMod, ev, fin, rv_r5Flush, h1, h2]
theorem ok_r5Flush (g : Nat) (R : RefM) (t a : Int) (ht : 1 ≤ t ∧ t ≤ 8) (h : 0 ≤ a ∧ a < (R.first.length : Int)) (hf : R.first.length ≤ 4096) (hp : ∀ p ∈ R.puts, 0 ≤ p.loc ∧ p.loc ≤ 4096) (hn : R.puts.length ≤ 1000) (hn2 : R.asks.length ≤ 1000) :
    Ok 58 [eRef g R, sI t, sI a] (.tup [eRef g (r5flushM R t a), sI 0]) := by
  refine ok_of_tr Try.func58 tr_r5Flush rfl ?_
  have h1 : ¬ t < 1 := by omega
  have h2 : ¬ 8 < t := by omega
  have q1 : IntKind.i64.wrap (a.tdiv 8) = a.tdiv 8 := by rw [IntKind.wrap_i64, Int.tdiv_eq_ediv_of_nonneg h.1]; omega
  unfold evFn sc_r5Flush
  refine ev_seq_k fun K1 hn1 hr1 he1 => ?_
  refine ev_ops_k fun K2 hk2 => ?_
  simp only [shA, if_true, if_false, ite_true, ite_false, forall_const, ite_self, eq_self, reduceIte, reduceCtorEq, Nat.reduceEqDiff, Nat.reduceAdd, Nat.reduceLeDiff, Nat.reduceSub, Int.reduceToNat, Nat.reduceBEq, Nat.reduceMul, Nat.reduceLT, Int.reduceLE, Int.reduceLT, Nat.reduceMod, h1, h2, q1, List.length_map]
  refine hk2 _ ?_
  refine hn1 (some ([1, 2, 3, 6, 12, 13], none)) _ ?_
  refine ev_seq_k fun K3 hn3 hr3 he3 => ?_
  refine ev_seq_k fun K4 hn4 hr4 he4 => ?_
  refine ev_ops_k fun K5 hk5 => ?_
  refine evL_take 2 fun K6 hk6 => ?_
  simp only [shA, if_true, if_false, ite_true, ite_false, forall_const, ite_self, eq_self, reduceIte, reduceCtorEq, Nat.reduceEqDiff, Nat.reduceAdd, Nat.reduceLeDiff, Nat.reduceSub, Int.reduceToNat, Nat.reduceBEq, Nat.reduceMul, Nat.reduceLT, Int.reduceLE, Int.reduceLT, Nat.reduceMod, h1, h2, q1, List.length_map]
  repeat (refine ⟨by first | assumption | omega | decide | (simp; done) | (simp_all; done) | (simp; omega), ?_⟩)
  refine hk6 _ ?_
  refine evL_take 3 fun K7 hk7 => ?_
  simp only [shA, if_true, if_false, ite_true, ite_false, forall_const, ite_self, eq_self, reduceIte, reduceCtorEq, Nat.reduceEqDiff, Nat.reduceAdd, Nat.reduceLeDiff, Nat.reduceSub, Int.reduceToNat, Nat.reduceBEq, Nat.reduceMul, Nat.reduceLT, Int.reduceLE, Int.reduceLT, Nat.reduceMod, h1, h2, q1, List.length_map]
  repeat (refine ⟨by first | assumption | omega | decide | (simp; done) | (simp_all; done) | (simp; omega), ?_⟩)
  refine hk7 _ ?_
  simp only [shA, if_true, if_false, ite_true, ite_false, forall_const, ite_self, eq_self, reduceIte, reduceCtorEq, Nat.reduceEqDiff, Nat.reduceAdd, Nat.reduceLeDiff, Nat.reduceSub, Int.reduceToNat, Nat.reduceBEq, Nat.reduceMul, Nat.reduceLT, Int.reduceLE, Int.reduceLT, Nat.reduceMod, h1, h2, q1, List.length_map]
  refine hk5 _ ?_
  refine hn4 (some ([1, 2, 3, 6, 14], none)) _ ?_
  refine ev_cond_k rfl (fun hx => absurd hx (by simp at hx)) (fun hc0 => ?_)
  clear hc0
  refine hn3 (some ([1, 2, 3, 6], none)) _ ?_
  refine ev_seq_k fun K8 hn8 hr8 he8 => ?_
  refine ev_seq_k fun K9 hn9 hr9 he9 => ?_
  refine ev_ops_k fun K10 hk10 => ?_
  refine evL_take 1 fun K11 hk11 => ?_
  simp only [shA, if_true, if_false, ite_true, ite_false, forall_const, ite_self, eq_self, reduceIte, reduceCtorEq, Nat.reduceEqDiff, Nat.reduceAdd, Nat.reduceLeDiff, Nat.reduceSub, Int.reduceToNat, Nat.reduceBEq, Nat.reduceMul, Nat.reduceLT, Int.reduceLE, Int.reduceLT, Nat.reduceMod, h1, h2, q1, List.length_map]
  repeat (refine ⟨by first | assumption | omega | decide | (simp; done) | (simp_all; done) | (simp; omega), ?_⟩)
  refine hk11 _ ?_
  refine evL_take 1 fun K12 hk12 => ?_
  simp only [shA, if_true, if_false, ite_true, ite_false, forall_const, ite_self, eq_self, reduceIte, reduceCtorEq, Nat.reduceEqDiff, Nat.reduceAdd, Nat.reduceLeDiff, Nat.reduceSub, Int.reduceToNat, Nat.reduceBEq, Nat.reduceMul, Nat.reduceLT, Int.reduceLE, Int.reduceLT, Nat.reduceMod, h1, h2, q1, List.length_map]
  refine hk12 _ ?_
  refine evL_take 1 fun K13 hk13 => ?_
  simp only [shA, if_true, if_false, ite_true, ite_false, forall_const, ite_self, eq_self, reduceIte, reduceCtorEq, Nat.reduceEqDiff, Nat.reduceAdd, Nat.reduceLeDiff, Nat.reduceSub, Int.reduceToNat, Nat.reduceBEq, Nat.reduceMul, Nat.reduceLT, Int.reduceLE, Int.reduceLT, Nat.reduceMod, h1, h2, q1, List.length_map]
  refine Or.inl (Or.inl ⟨_, ok_r5Is g R a, ?_⟩)
  refine hk13 _ ?_
  simp only [shA, if_true, if_false, ite_true, ite_false, forall_const, ite_self, eq_self, reduceIte, reduceCtorEq, Nat.reduceEqDiff, Nat.reduceAdd, Nat.reduceLeDiff, Nat.reduceSub, Int.reduceToNat, Nat.reduceBEq, Nat.reduceMul, Nat.reduceLT, Int.reduceLE, Int.reduceLT, Nat.reduceMod, h1, h2, q1, List.length_map]
  refine hk10 _ ?_
  refine hn9 (some ([1, 2, 3, 6, 19], none)) _ ?_
  refine ev_cond_k rfl (fun hx => absurd hx (by simp [h] at hx)) (fun hc1 => ?_)
  clear hc1
  refine hn8 (some ([1, 2, 3, 6], none)) _ ?_
  refine ev_seq_k fun K14 hn14 hr14 he14 => ?_
  refine ev_ops_k fun K15 hk15 => ?_
  refine evL_take 1 fun K16 hk16 => ?_
  simp only [shA, if_true, if_false, ite_true, ite_false, forall_const, ite_self, eq_self, reduceIte, reduceCtorEq, Nat.reduceEqDiff, Nat.reduceAdd, Nat.reduceLeDiff, Nat.reduceSub, Int.reduceToNat, Nat.reduceBEq, Nat.reduceMul, Nat.reduceLT, Int.reduceLE, Int.reduceLT, Nat.reduceMod, h1, h2, q1, List.length_map]
  repeat (refine ⟨by first | assumption | omega | decide | (simp; done) | (simp_all; done) | (simp; omega), ?_⟩)
  refine hk16 _ ?_
  simp only [shA, if_true, if_false, ite_true, ite_false, forall_const, ite_self, eq_self, reduceIte, reduceCtorEq, Nat.reduceEqDiff, Nat.reduceAdd, Nat.reduceLeDiff, Nat.reduceSub, Int.reduceToNat, Nat.reduceBEq, Nat.reduceMul, Nat.reduceLT, Int.reduceLE, Int.reduceLT, Nat.reduceMod, h1, h2, q1, List.length_map]
  repeat (refine ⟨by first | assumption | omega | decide | (simp; done) | (simp_all; done) | (simp; omega), ?_⟩)
  refine hk15 _ ?_
  refine hn14 (some ([1, 2, 3, 6, 8], none)) _ ?_
  refine ev_seq_k fun K17 hn17 hr17 he17 => ?_
  refine ev_drw_k [] (n := 11) fun K18 hk18 => ?_
  simp only [List.take_succ_cons, List.take_zero, St.frzAll, St.frzSh, St.frzRow, St.frzBox, St.frzCells, St.argL, St.arg1, St.res, Sh.pure, St.setO, getA, delA, keepT, St.keep, reduceIte, Nat.reduceEqDiff, reduceCtorEq, Option.bind_some, Option.map_some, List.contains_cons, List.contains_nil, Nat.reduceBEq, Bool.or_false, Bool.or_true, Bool.false_or, beq_self_eq_true, Bool.false_eq_true]
  refine evF_take 1 fun K20 hk20 => ?_
  simp only [shA, if_true, if_false, ite_true, ite_false, forall_const, ite_self, eq_self, reduceIte, reduceCtorEq, Nat.reduceEqDiff, Nat.reduceAdd, Nat.reduceLeDiff, Nat.reduceSub, Int.reduceToNat, Nat.reduceBEq, Nat.reduceMul, Nat.reduceLT, Int.reduceLE, Int.reduceLT, Nat.reduceMod, h1, h2, q1, List.length_map]
  repeat (refine ⟨by first | assumption | omega | decide | (simp; done) | (simp_all; done) | (simp; omega), ?_⟩)
  refine hk20 _ _ _ ?_
  refine evF_take 2 fun K21 hk21 => ?_
  simp only [shA, if_true, if_false, ite_true, ite_false, forall_const, ite_self, eq_self, reduceIte, reduceCtorEq, Nat.reduceEqDiff, Nat.reduceAdd, Nat.reduceLeDiff, Nat.reduceSub, Int.reduceToNat, Nat.reduceBEq, Nat.reduceMul, Nat.reduceLT, Int.reduceLE, Int.reduceLT, Nat.reduceMod, h1, h2, q1, List.length_map]
  repeat (refine ⟨by first | assumption | omega | decide | (simp; done) | (simp_all; done) | (simp; omega), ?_⟩)
  refine hk21 _ _ _ ?_
  refine evF_take 1 fun K22 hk22 => ?_
  simp only [shA, if_true, if_false, ite_true, ite_false, forall_const, ite_self, eq_self, reduceIte, reduceCtorEq, Nat.reduceEqDiff, Nat.reduceAdd, Nat.reduceLeDiff, Nat.reduceSub, Int.reduceToNat, Nat.reduceBEq, Nat.reduceMul, Nat.reduceLT, Int.reduceLE, Int.reduceLT, Nat.reduceMod, h1, h2, q1, List.length_map]
  refine Or.inr ?_
  repeat (refine ⟨by first | assumption | omega | decide | (simp; done) | (simp_all; done) | (simp; omega), ?_⟩)
  refine hk22 _ _ _ ?_
  refine evF_take 3 fun K23 hk23 => ?_
  simp only [shA, if_true, if_false, ite_true, ite_false, forall_const, ite_self, eq_self, reduceIte, reduceCtorEq, Nat.reduceEqDiff, Nat.reduceAdd, Nat.reduceLeDiff, Nat.reduceSub, Int.reduceToNat, Nat.reduceBEq, Nat.reduceMul, Nat.reduceLT, Int.reduceLE, Int.reduceLT, Nat.reduceMod, h1, h2, q1, List.length_map]
  repeat (refine ⟨by first | assumption | omega | decide | (simp; done) | (simp_all; done) | (simp; omega), ?_⟩)
  refine hk23 _ _ _ ?_
  refine evF_take 1 fun K24 hk24 => ?_
  simp only [shA, if_true, if_false, ite_true, ite_false, forall_const, ite_self, eq_self, reduceIte, reduceCtorEq, Nat.reduceEqDiff, Nat.reduceAdd, Nat.reduceLeDiff, Nat.reduceSub, Int.reduceToNat, Nat.reduceBEq, Nat.reduceMul, Nat.reduceLT, Int.reduceLE, Int.reduceLT, Nat.reduceMod, h1, h2, q1, List.length_map]
  repeat (refine ⟨by first | assumption | omega | decide | (simp; done) | (simp_all; done) | (simp; omega), ?_⟩)
  refine hk24 _ _ _ ?_
  refine evF_take 2 fun K25 hk25 => ?_
  simp only [shA, if_true, if_false, ite_true, ite_false, forall_const, ite_self, eq_self, reduceIte, reduceCtorEq, Nat.reduceEqDiff, Nat.reduceAdd, Nat.reduceLeDiff, Nat.reduceSub, Int.reduceToNat, Nat.reduceBEq, Nat.reduceMul, Nat.reduceLT, Int.reduceLE, Int.reduceLT, Nat.reduceMod, h1, h2, q1, List.length_map]
  repeat (refine ⟨by first | assumption | omega | decide | (simp; done) | (simp_all; done) | (simp; omega), ?_⟩)
  refine hk25 _ _ _ ?_
  simp only [shA, if_true, if_false, ite_true, ite_false, forall_const, ite_self, eq_self, reduceIte, reduceCtorEq, Nat.reduceEqDiff, Nat.reduceAdd, Nat.reduceLeDiff, Nat.reduceSub, Int.reduceToNat, Nat.reduceBEq, Nat.reduceMul, Nat.reduceLT, Int.reduceLE, Int.reduceLT, Nat.reduceMod, h1, h2, q1, List.length_map]
  refine ⟨_, ok_r5Log g R (a.tdiv 8) hp hn, ?_⟩
  refine hk18 _ ?_
  simp only [List.drop_succ_cons, List.drop_zero]
  refine evL_take 2 fun K26 hk26 => ?_
  simp only [shA, if_true, if_false, ite_true, ite_false, forall_const, ite_self, eq_self, reduceIte, reduceCtorEq, Nat.reduceEqDiff, Nat.reduceAdd, Nat.reduceLeDiff, Nat.reduceSub, Int.reduceToNat, Nat.reduceBEq, Nat.reduceMul, Nat.reduceLT, Int.reduceLE, Int.reduceLT, Nat.reduceMod, h1, h2, q1, List.length_map]
  repeat (refine ⟨by first | assumption | omega | decide | (simp; done) | (simp_all; done) | (simp; omega), ?_⟩)
  refine hk26 _ ?_
  refine evL_take 1 fun K27 hk27 => ?_
  simp only [shA, if_true, if_false, ite_true, ite_false, forall_const, ite_self, eq_self, reduceIte, reduceCtorEq, Nat.reduceEqDiff, Nat.reduceAdd, Nat.reduceLeDiff, Nat.reduceSub, Int.reduceToNat, Nat.reduceBEq, Nat.reduceMul, Nat.reduceLT, Int.reduceLE, Int.reduceLT, Nat.reduceMod, h1, h2, q1, List.length_map]
  repeat (refine ⟨by first | assumption | omega | decide | (simp; done) | (simp_all; done) | (simp; omega), ?_⟩)
  refine hk27 _ ?_
  simp only [shA, if_true, if_false, ite_true, ite_false, forall_const, ite_self, eq_self, reduceIte, reduceCtorEq, Nat.reduceEqDiff, Nat.reduceAdd, Nat.reduceLeDiff, Nat.reduceSub, Int.reduceToNat, Nat.reduceBEq, Nat.reduceMul, Nat.reduceLT, Int.reduceLE, Int.reduceLT, Nat.reduceMod, h1, h2, q1, List.length_map]
  repeat (refine ⟨by first | assumption | omega | decide | (simp; done) | (simp_all; done) | (simp; omega), ?_⟩)
  refine hn17 (some ([6, 8], none)) _ ?_
  refine ev_seq_k fun K28 hn28 hr28 he28 => ?_
  refine ev_ops_k fun K29 hk29 => ?_
  refine evL_take 1 fun K30 hk30 => ?_
  simp only [shA, if_true, if_false, ite_true, ite_false, forall_const, ite_self, eq_self, reduceIte, reduceCtorEq, Nat.reduceEqDiff, Nat.reduceAdd, Nat.reduceLeDiff, Nat.reduceSub, Int.reduceToNat, Nat.reduceBEq, Nat.reduceMul, Nat.reduceLT, Int.reduceLE, Int.reduceLT, Nat.reduceMod, h1, h2, q1, List.length_map]
  repeat (refine ⟨by first | assumption | omega | decide | (simp; done) | (simp_all; done) | (simp; omega), ?_⟩)
  refine hk30 _ ?_
  refine evL_take 1 fun K31 hk31 => ?_
  simp only [shA, if_true, if_false, ite_true, ite_false, forall_const, ite_self, eq_self, reduceIte, reduceCtorEq, Nat.reduceEqDiff, Nat.reduceAdd, Nat.reduceLeDiff, Nat.reduceSub, Int.reduceToNat, Nat.reduceBEq, Nat.reduceMul, Nat.reduceLT, Int.reduceLE, Int.reduceLT, Nat.reduceMod, h1, h2, q1, List.length_map]
  repeat (refine ⟨by first | assumption | omega | decide | (simp; done) | (simp_all; done) | (simp; omega), ?_⟩)
  refine hk31 _ ?_
  simp only [shA, if_true, if_false, ite_true, ite_false, forall_const, ite_self, eq_self, reduceIte, reduceCtorEq, Nat.reduceEqDiff, Nat.reduceAdd, Nat.reduceLeDiff, Nat.reduceSub, Int.reduceToNat, Nat.reduceBEq, Nat.reduceMul, Nat.reduceLT, Int.reduceLE, Int.reduceLT, Nat.reduceMod, h1, h2, q1, List.length_map]
  refine hk29 _ ?_
  refine hn28 (some ([6, 7], none)) _ ?_
  simp only [shA, if_true, if_false, ite_true, ite_false, forall_const, ite_self, eq_self, reduceIte, reduceCtorEq, Nat.reduceEqDiff, Nat.reduceAdd, Nat.reduceLeDiff, Nat.reduceSub, Int.reduceToNat, Nat.reduceBEq, Nat.reduceMul, Nat.reduceLT, Int.reduceLE, Int.reduceLT, Nat.reduceMod, ev, fin, rv_r5Flush, h1, h2, q1, List.length_map]
  simp [r5flushM]

theorem askStep_take (t : Int) (l : List AskV) (ks : List Int) {k : Nat} {a : AskV} (h : l[k]? = some a) : (l.take (k + 1)).foldl (askStep t) ks = askStep t ((l.take k).foldl (askStep t) ks) a := by
  rw [take_succ_of h, List.foldl_append]; rfl
theorem filter_take {α : Type} (p : α → Bool) (l : List α) {k : Nat} {a : α} (h : l[k]? = some a) : (l.take (k + 1)).filter p = if p a = true then (l.take k).filter p ++ [a] else (l.take k).filter p := by
  rw [take_succ_of h, List.filter_append]
  by_cases e : p a = true <;> simp [e]
theorem askStep_at {t : Int} {ks : List Int} {a : AskV} {n : Nat} {kv : Int} (hn : a.line = (n : Int)) (hk : ks[n]? = some kv) : askStep t ks a = if a.thread = t then (if kv < a.upto then ks.set n a.upto else ks) else ks := by
  unfold askStep; rw [hn, Int.toNat_natCast, hk]
abbrev zR : Ob := .box 81 [.sl 3 0 [], .sl 4 0 [], .sl 1 0 [], .sl 3 0 []]
def SyncInv (g : Nat) (R : RefM) (t : Int) (m : Nat) (S : St) : Prop :=
  ∃ k, k ≤ R.asks.length ∧ m = R.asks.length - k ∧ S = ⟨[(1, sI t), (2, .ptr 0 0 0), (4, .ptr 1 0 0), (6, .ptr 2 0 0), (7, sI k)],
    [(0, boxR g R), (1, zR), (2, .box 81 [.sl 3 g (R.first.map eWord), .sl 4 0 (R.puts.map eStore), .own 3, .own 4]), (3, .row 3 1 (((R.asks.take k).foldl (askStep t) R.kept).map eI)), (4, .row 122 3 (((R.asks.take k).filter fun a => decide (¬ a.thread = t)).map eAsk))], 5⟩
theorem ok_r5Sync_thread (g : Nat) (R : RefM) (t : Int) (h : ¬ (1 ≤ t ∧ t ≤ 8)) : Ok 59 [eRef g R, sI t] (.tup [eRef g R, sI 3]) := by
  refine ok_of_tr Try.func59 tr_r5Sync rfl ?_
  by_cases h1 : t < 1
  · skip
    unfold evFn sc_r5Sync
    refine ev_seq_k fun K1 hn1 hr1 he1 => ?_
    refine ev_ops_k fun K2 hk2 => ?_
    simp only [shA, if_true, if_false, ite_true, ite_false, forall_const, ite_self, eq_self, reduceIte, reduceCtorEq, Nat.reduceEqDiff, Nat.reduceAdd, Nat.reduceLeDiff, Nat.reduceSub, Int.reduceToNat, Nat.reduceBEq, Nat.reduceMul, Nat.reduceLT, Int.reduceLE, Int.reduceLT, Nat.reduceMod, h1]
    refine hk2 _ ?_
    refine hn1 (some ([1, 2, 4, 12, 13], none)) _ ?_
    refine ev_seq_k fun K3 hn3 hr3 he3 => ?_
    refine ev_seq_k fun K4 hn4 hr4 he4 => ?_
    refine ev_ops_k fun K5 hk5 => ?_
    refine evL_take 2 fun K6 hk6 => ?_
    simp only [shA, if_true, if_false, ite_true, ite_false, forall_const, ite_self, eq_self, reduceIte, reduceCtorEq, Nat.reduceEqDiff, Nat.reduceAdd, Nat.reduceLeDiff, Nat.reduceSub, Int.reduceToNat, Nat.reduceBEq, Nat.reduceMul, Nat.reduceLT, Int.reduceLE, Int.reduceLT, Nat.reduceMod, h1]
    repeat (refine ⟨by first | assumption | omega | decide | (simp; done) | (simp_all; done) | (simp; omega), ?_⟩)
    refine hk6 _ ?_
    refine evL_take 3 fun K7 hk7 => ?_
    simp only [shA, if_true, if_false, ite_true, ite_false, forall_const, ite_self, eq_self, reduceIte, reduceCtorEq, Nat.reduceEqDiff, Nat.reduceAdd, Nat.reduceLeDiff, Nat.reduceSub, Int.reduceToNat, Nat.reduceBEq, Nat.reduceMul, Nat.reduceLT, Int.reduceLE, Int.reduceLT, Nat.reduceMod, h1]
    repeat (refine ⟨by first | assumption | omega | decide | (simp; done) | (simp_all; done) | (simp; omega), ?_⟩)
    refine hk7 _ ?_
    simp only [shA, if_true, if_false, ite_true, ite_false, forall_const, ite_self, eq_self, reduceIte, reduceCtorEq, Nat.reduceEqDiff, Nat.reduceAdd, Nat.reduceLeDiff, Nat.reduceSub, Int.reduceToNat, Nat.reduceBEq, Nat.reduceMul, Nat.reduceLT, Int.reduceLE, Int.reduceLT, Nat.reduceMod, h1]
    refine hk5 _ ?_
    refine hn4 (some ([1, 2, 4, 14], none)) _ ?_
    refine ev_cond_k rfl (fun hc0 => ?_) (fun hx => absurd hx (by simp at hx))
    clear hc0
    refine ev_seq_k fun K8 hn8 hr8 he8 => ?_
    refine ev_ops_k fun K9 hk9 => ?_
    refine evL_take 1 fun K10 hk10 => ?_
    simp only [shA, if_true, if_false, ite_true, ite_false, forall_const, ite_self, eq_self, reduceIte, reduceCtorEq, Nat.reduceEqDiff, Nat.reduceAdd, Nat.reduceLeDiff, Nat.reduceSub, Int.reduceToNat, Nat.reduceBEq, Nat.reduceMul, Nat.reduceLT, Int.reduceLE, Int.reduceLT, Nat.reduceMod, h1]
    repeat (refine ⟨by first | assumption | omega | decide | (simp; done) | (simp_all; done) | (simp; omega), ?_⟩)
    refine hk10 _ ?_
    refine evL_take 1 fun K11 hk11 => ?_
    simp only [shA, if_true, if_false, ite_true, ite_false, forall_const, ite_self, eq_self, reduceIte, reduceCtorEq, Nat.reduceEqDiff, Nat.reduceAdd, Nat.reduceLeDiff, Nat.reduceSub, Int.reduceToNat, Nat.reduceBEq, Nat.reduceMul, Nat.reduceLT, Int.reduceLE, Int.reduceLT, Nat.reduceMod, h1]
    repeat (refine ⟨by first | assumption | omega | decide | (simp; done) | (simp_all; done) | (simp; omega), ?_⟩)
    refine hk11 _ ?_
    simp only [shA, if_true, if_false, ite_true, ite_false, forall_const, ite_self, eq_self, reduceIte, reduceCtorEq, Nat.reduceEqDiff, Nat.reduceAdd, Nat.reduceLeDiff, Nat.reduceSub, Int.reduceToNat, Nat.reduceBEq, Nat.reduceMul, Nat.reduceLT, Int.reduceLE, Int.reduceLT, Nat.reduceMod, h1]
    refine hk9 _ ?_
    refine hn8 (some ([4, 5], none)) _ ?_
    refine hr3 _ ?_
    simp only [shA, if_true, if_false, ite_true, ite_false, forall_const, ite_self, eq_self, reduceIte, reduceCtorEq, Nat.reduceEqDiff, Nat.reduceAdd, Nat.reduceLeDiff, Nat.reduceSub, Int.reduceToNat, Nat.reduceBEq, Nat.reduceMul, Nat.reduceLT, Int.reduceLE, Int.reduceLT, Nat.reduceMod, ev, fin, rv_r5Sync, h1]
  · have h2 : 8 < t := by omega
    unfold evFn sc_r5Sync
    refine ev_seq_k fun K1 hn1 hr1 he1 => ?_
    refine ev_ops_k fun K2 hk2 => ?_
    simp only [shA, if_true, if_false, ite_true, ite_false, forall_const, ite_self, eq_self, reduceIte, reduceCtorEq, Nat.reduceEqDiff, Nat.reduceAdd, Nat.reduceLeDiff, Nat.reduceSub, Int.reduceToNat, Nat.reduceBEq, Nat.reduceMul, Nat.reduceLT, Int.reduceLE, Int.reduceLT, Nat.reduceMod, h1, h2]
    refine hk2 _ ?_
    refine hn1 (some ([1, 2, 4, 12, 13], none)) _ ?_
    refine ev_seq_k fun K3 hn3 hr3 he3 => ?_
    refine ev_seq_k fun K4 hn4 hr4 he4 => ?_
    refine ev_ops_k fun K5 hk5 => ?_
    refine evL_take 2 fun K6 hk6 => ?_
    simp only [shA, if_true, if_false, ite_true, ite_false, forall_const, ite_self, eq_self, reduceIte, reduceCtorEq, Nat.reduceEqDiff, Nat.reduceAdd, Nat.reduceLeDiff, Nat.reduceSub, Int.reduceToNat, Nat.reduceBEq, Nat.reduceMul, Nat.reduceLT, Int.reduceLE, Int.reduceLT, Nat.reduceMod, h1, h2]
    repeat (refine ⟨by first | assumption | omega | decide | (simp; done) | (simp_all; done) | (simp; omega), ?_⟩)
    refine hk6 _ ?_
    refine evL_take 3 fun K7 hk7 => ?_
    simp only [shA, if_true, if_false, ite_true, ite_false, forall_const, ite_self, eq_self, reduceIte, reduceCtorEq, Nat.reduceEqDiff, Nat.reduceAdd, Nat.reduceLeDiff, Nat.reduceSub, Int.reduceToNat, Nat.reduceBEq, Nat.reduceMul, Nat.reduceLT, Int.reduceLE, Int.reduceLT, Nat.reduceMod, h1, h2]
    repeat (refine ⟨by first | assumption | omega | decide | (simp; done) | (simp_all; done) | (simp; omega), ?_⟩)
    refine hk7 _ ?_
    simp only [shA, if_true, if_false, ite_true, ite_false, forall_const, ite_self, eq_self, reduceIte, reduceCtorEq, Nat.reduceEqDiff, Nat.reduceAdd, Nat.reduceLeDiff, Nat.reduceSub, Int.reduceToNat, Nat.reduceBEq, Nat.reduceMul, Nat.reduceLT, Int.reduceLE, Int.reduceLT, Nat.reduceMod, h1, h2]
    refine hk5 _ ?_
    refine hn4 (some ([1, 2, 4, 14], none)) _ ?_
    refine ev_cond_k rfl (fun hc0 => ?_) (fun hx => absurd hx (by simp at hx))
    clear hc0
    refine ev_seq_k fun K8 hn8 hr8 he8 => ?_
    refine ev_ops_k fun K9 hk9 => ?_
    refine evL_take 1 fun K10 hk10 => ?_
    simp only [shA, if_true, if_false, ite_true, ite_false, forall_const, ite_self, eq_self, reduceIte, reduceCtorEq, Nat.reduceEqDiff, Nat.reduceAdd, Nat.reduceLeDiff, Nat.reduceSub, Int.reduceToNat, Nat.reduceBEq, Nat.reduceMul, Nat.reduceLT, Int.reduceLE, Int.reduceLT, Nat.reduceMod, h1, h2]
    repeat (refine ⟨by first | assumption | omega | decide | (simp; done) | (simp_all; done) | (simp; omega), ?_⟩)
    refine hk10 _ ?_
    refine evL_take 1 fun K11 hk11 => ?_
    simp only [shA, if_true, if_false, ite_true, ite_false, forall_const, ite_self, eq_self, reduceIte, reduceCtorEq, Nat.reduceEqDiff, Nat.reduceAdd, Nat.reduceLeDiff, Nat.reduceSub, Int.reduceToNat, Nat.reduceBEq, Nat.reduceMul, Nat.reduceLT, Int.reduceLE, Int.reduceLT, Nat.reduceMod, h1, h2]
    repeat (refine ⟨by first | assumption | omega | decide | (simp; done) | (simp_all; done) | (simp; omega), ?_⟩)
    refine hk11 _ ?_
    simp only [shA, if_true, if_false, ite_true, ite_false, forall_const, ite_self, eq_self, reduceIte, reduceCtorEq, Nat.reduceEqDiff, Nat.reduceAdd, Nat.reduceLeDiff, Nat.reduceSub, Int.reduceToNat, Nat.reduceBEq, Nat.reduceMul, Nat.reduceLT, Int.reduceLE, Int.reduceLT, Nat.reduceMod, h1, h2]
    refine hk9 _ ?_
    refine hn8 (some ([4, 5], none)) _ ?_
    refine hr3 _ ?_
    simp only [shA, if_true, if_false, ite_true, ite_false, forall_const, ite_self, eq_self, reduceIte, reduceCtorEq, Nat.reduceEqDiff, Nat.reduceAdd, Nat.reduceLeDiff, Nat.reduceSub, Int.reduceToNat, Nat.reduceBEq, Nat.reduceMul, Nat.reduceLT, Int.reduceLE, Int.reduceLT, Nat.reduceMod, ev, fin, rv_r5Sync, h1, h2]
set_option maxHeartbeats 4000000 in
theorem ok_r5Sync (g : Nat) (R : RefM) (t : Int) (ht : 1 ≤ t ∧ t ≤ 8) (hn : R.asks.length ≤ 1000) (hk : R.kept.length ≤ 1000) (hl : ∀ a ∈ R.asks, 0 ≤ a.line ∧ a.line < (R.kept.length : Int)) : Ok 59 [eRef g R, sI t] (.tup [eRef g (r5syncM R t), sI 0]) := by
  refine ok_of_tr Try.func59 tr_r5Sync rfl ?_
  have h1 : ¬ t < 1 := by omega
  have h2 : ¬ 8 < t := by omega
  unfold evFn sc_r5Sync
  refine ev_seq_k fun K1 hn1 hr1 he1 => ?_
  refine ev_ops_k fun K2 hk2 => ?_
  simp only [shA, if_true, if_false, ite_true, ite_false, forall_const, ite_self, eq_self, reduceIte, reduceCtorEq, Nat.reduceEqDiff, Nat.reduceAdd, Nat.reduceLeDiff, Nat.reduceSub, Int.reduceToNat, Nat.reduceBEq, Nat.reduceMul, Nat.reduceLT, Int.reduceLE, Int.reduceLT, Nat.reduceMod, h1, h2, List.length_map]
  refine hk2 _ ?_
  refine hn1 (some ([1, 2, 4, 12, 13], none)) _ ?_
  refine ev_seq_k fun K3 hn3 hr3 he3 => ?_
  refine ev_seq_k fun K4 hn4 hr4 he4 => ?_
  refine ev_ops_k fun K5 hk5 => ?_
  refine evL_take 2 fun K6 hk6 => ?_
  simp only [shA, if_true, if_false, ite_true, ite_false, forall_const, ite_self, eq_self, reduceIte, reduceCtorEq, Nat.reduceEqDiff, Nat.reduceAdd, Nat.reduceLeDiff, Nat.reduceSub, Int.reduceToNat, Nat.reduceBEq, Nat.reduceMul, Nat.reduceLT, Int.reduceLE, Int.reduceLT, Nat.reduceMod, h1, h2, List.length_map]
  repeat (refine ⟨by first | assumption | omega | decide | (simp; done) | (simp_all; done) | (simp; omega), ?_⟩)
  refine hk6 _ ?_
  refine evL_take 3 fun K7 hk7 => ?_
  simp only [shA, if_true, if_false, ite_true, ite_false, forall_const, ite_self, eq_self, reduceIte, reduceCtorEq, Nat.reduceEqDiff, Nat.reduceAdd, Nat.reduceLeDiff, Nat.reduceSub, Int.reduceToNat, Nat.reduceBEq, Nat.reduceMul, Nat.reduceLT, Int.reduceLE, Int.reduceLT, Nat.reduceMod, h1, h2, List.length_map]
  repeat (refine ⟨by first | assumption | omega | decide | (simp; done) | (simp_all; done) | (simp; omega), ?_⟩)
  refine hk7 _ ?_
  simp only [shA, if_true, if_false, ite_true, ite_false, forall_const, ite_self, eq_self, reduceIte, reduceCtorEq, Nat.reduceEqDiff, Nat.reduceAdd, Nat.reduceLeDiff, Nat.reduceSub, Int.reduceToNat, Nat.reduceBEq, Nat.reduceMul, Nat.reduceLT, Int.reduceLE, Int.reduceLT, Nat.reduceMod, h1, h2, List.length_map]
  refine hk5 _ ?_
  refine hn4 (some ([1, 2, 4, 14], none)) _ ?_
  refine ev_cond_k rfl (fun hx => absurd hx (by simp at hx)) (fun hc0 => ?_)
  clear hc0
  refine hn3 (some ([1, 2, 4], none)) _ ?_
  refine ev_seq_k fun K8 hn8 hr8 he8 => ?_
  refine ev_ops_k fun K9 hk9 => ?_
  refine evL_take 1 fun K10 hk10 => ?_
  simp only [shA, if_true, if_false, ite_true, ite_false, forall_const, ite_self, eq_self, reduceIte, reduceCtorEq, Nat.reduceEqDiff, Nat.reduceAdd, Nat.reduceLeDiff, Nat.reduceSub, Int.reduceToNat, Nat.reduceBEq, Nat.reduceMul, Nat.reduceLT, Int.reduceLE, Int.reduceLT, Nat.reduceMod, h1, h2, List.length_map]
  repeat (refine ⟨by first | assumption | omega | decide | (simp; done) | (simp_all; done) | (simp; omega), ?_⟩)
  refine hk10 _ ?_
  simp only [shA, if_true, if_false, ite_true, ite_false, forall_const, ite_self, eq_self, reduceIte, reduceCtorEq, Nat.reduceEqDiff, Nat.reduceAdd, Nat.reduceLeDiff, Nat.reduceSub, Int.reduceToNat, Nat.reduceBEq, Nat.reduceMul, Nat.reduceLT, Int.reduceLE, Int.reduceLT, Nat.reduceMod, h1, h2, List.length_map]
  repeat (refine ⟨by first | assumption | omega | decide | (simp; done) | (simp_all; done) | (simp; omega), ?_⟩)
  refine hk9 _ ?_
  refine hn8 (some ([1, 2, 4, 6], none)) _ ?_
  refine ev_seq_k fun K11 hn11 hr11 he11 => ?_
  refine ev_ops_k fun K12 hk12 => ?_
  refine evL_take 1 fun K13 hk13 => ?_
  simp only [shA, if_true, if_false, ite_true, ite_false, forall_const, ite_self, eq_self, reduceIte, reduceCtorEq, Nat.reduceEqDiff, Nat.reduceAdd, Nat.reduceLeDiff, Nat.reduceSub, Int.reduceToNat, Nat.reduceBEq, Nat.reduceMul, Nat.reduceLT, Int.reduceLE, Int.reduceLT, Nat.reduceMod, h1, h2, List.length_map]
  repeat (refine ⟨by first | assumption | omega | decide | (simp; done) | (simp_all; done) | (simp; omega), ?_⟩)
  refine hk13 _ ?_
  refine evL_take 2 fun K14 hk14 => ?_
  simp only [shA, if_true, if_false, ite_true, ite_false, forall_const, ite_self, eq_self, reduceIte, reduceCtorEq, Nat.reduceEqDiff, Nat.reduceAdd, Nat.reduceLeDiff, Nat.reduceSub, Int.reduceToNat, Nat.reduceBEq, Nat.reduceMul, Nat.reduceLT, Int.reduceLE, Int.reduceLT, Nat.reduceMod, h1, h2, List.length_map]
  repeat (refine ⟨by first | assumption | omega | decide | (simp; done) | (simp_all; done) | (simp; omega), ?_⟩)
  refine hk14 _ ?_
  refine evL_take 1 fun K15 hk15 => ?_
  simp only [shA, if_true, if_false, ite_true, ite_false, forall_const, ite_self, eq_self, reduceIte, reduceCtorEq, Nat.reduceEqDiff, Nat.reduceAdd, Nat.reduceLeDiff, Nat.reduceSub, Int.reduceToNat, Nat.reduceBEq, Nat.reduceMul, Nat.reduceLT, Int.reduceLE, Int.reduceLT, Nat.reduceMod, h1, h2, List.length_map]
  repeat (refine ⟨by first | assumption | omega | decide | (simp; done) | (simp_all; done) | (simp; omega), ?_⟩)
  refine hk15 _ ?_
  simp only [shA, if_true, if_false, ite_true, ite_false, forall_const, ite_self, eq_self, reduceIte, reduceCtorEq, Nat.reduceEqDiff, Nat.reduceAdd, Nat.reduceLeDiff, Nat.reduceSub, Int.reduceToNat, Nat.reduceBEq, Nat.reduceMul, Nat.reduceLT, Int.reduceLE, Int.reduceLT, Nat.reduceMod, h1, h2, List.length_map]
  repeat (refine ⟨by first | assumption | omega | decide | (simp; done) | (simp_all; done) | (simp; omega), ?_⟩)
  refine hk12 _ ?_
  refine hn11 (some ([1, 2, 4, 6], none)) _ ?_
  refine ev_seq_k fun K16 hn16 hr16 he16 => ?_
  refine ev_ops_k fun K17 hk17 => ?_
  simp only [shA, if_true, if_false, ite_true, ite_false, forall_const, ite_self, eq_self, reduceIte, reduceCtorEq, Nat.reduceEqDiff, Nat.reduceAdd, Nat.reduceLeDiff, Nat.reduceSub, Int.reduceToNat, Nat.reduceBEq, Nat.reduceMul, Nat.reduceLT, Int.reduceLE, Int.reduceLT, Nat.reduceMod, h1, h2, List.length_map]
  repeat (refine ⟨by first | assumption | omega | decide | (simp; done) | (simp_all; done) | (simp; omega), ?_⟩)
  refine hk17 _ ?_
  refine hn16 (some ([1, 2, 4, 6], none)) _ ?_
  refine ev_seq_k fun K18 hn18 hr18 he18 => ?_
  refine ev_seq_k fun K19 hn19 hr19 he19 => ?_
  refine ev_ops_k fun K20 hk20 => ?_
  simp only [shA, if_true, if_false, ite_true, ite_false, forall_const, ite_self, eq_self, reduceIte, reduceCtorEq, Nat.reduceEqDiff, Nat.reduceAdd, Nat.reduceLeDiff, Nat.reduceSub, Int.reduceToNat, Nat.reduceBEq, Nat.reduceMul, Nat.reduceLT, Int.reduceLE, Int.reduceLT, Nat.reduceMod, h1, h2, List.length_map]
  refine hk20 _ ?_
  refine hn19 (some ([1, 2, 4, 6, 7], none)) _ ?_
  refine ev_block_k fun K21 hn21 hx21 hr21 he21 => ?_
  refine ev_loop_k (SyncInv g R t) (R.asks.length) (some ([1, 2, 4, 6, 7], some ([0, 1, 2, 3, 4], 5))) ([.cell 2 3 (some 122) 3]) ?_ ?_
  · try simp only [St.casts, St.cast, nilS, St.put, St.newO, St.setO, delA, List.getElem?_cons_zero, List.getElem?_cons_succ, List.set_cons_zero, List.set_cons_succ, getA, Nat.reduceEqDiff, reduceCtorEq, keepT, renT, renSh, renC, renO, renOb, idxN, List.map_cons, List.map_nil, List.length_cons, List.length_nil, Nat.reduceAdd, Nat.zero_add, decide_true, St.keep, refsT, refsO, refsL, refsC, refsOk, decide_eq_true_eq, List.contains_cons, List.contains_nil, Bool.or_false, Bool.or_true, Bool.true_or, Bool.false_or, Bool.and_true, Bool.true_and, beq_self_eq_true, Nat.reduceBEq, reduceIte, Nat.blt_eq, Nat.reduceLT, decide_true, Nat.reduceLeDiff, Bool.false_eq_true, Bool.and_eq_true, and_self, true_and, and_true]
    exact ⟨0, by omega, by omega, rfl⟩
  · intro k S1 hI
    obtain ⟨k, hk, rfl, rfl⟩ := hI
    intro K22 hn22 hr22 he22
    refine ev_seq_k fun K23 hn23 hr23 he23 => ?_
    refine ev_seq_k fun K24 hn24 hr24 he24 => ?_
    refine ev_ops_k fun K25 hk25 => ?_
    refine evL_take 3 fun K26 hk26 => ?_
    simp only [shA, if_true, if_false, ite_true, ite_false, forall_const, ite_self, eq_self, reduceIte, reduceCtorEq, Nat.reduceEqDiff, Nat.reduceAdd, Nat.reduceLeDiff, Nat.reduceSub, Int.reduceToNat, Nat.reduceBEq, Nat.reduceMul, Nat.reduceLT, Int.reduceLE, Int.reduceLT, Nat.reduceMod, h1, h2, List.length_map]
    repeat (refine ⟨by first | assumption | omega | decide | (simp; done) | (simp_all; done) | (simp; omega), ?_⟩)
    refine hk26 _ ?_
    simp only [shA, if_true, if_false, ite_true, ite_false, forall_const, ite_self, eq_self, reduceIte, reduceCtorEq, Nat.reduceEqDiff, Nat.reduceAdd, Nat.reduceLeDiff, Nat.reduceSub, Int.reduceToNat, Nat.reduceBEq, Nat.reduceMul, Nat.reduceLT, Int.reduceLE, Int.reduceLT, Nat.reduceMod, h1, h2, List.length_map]
    repeat (refine ⟨by first | assumption | omega | decide | (simp; done) | (simp_all; done) | (simp; omega), ?_⟩)
    refine hk25 _ ?_
    refine hn24 (some ([1, 2, 4, 6, 7, 27], none)) _ ?_
    refine ev_cond_k rfl (fun hc1 => ?_) (fun hc1 => ?_)
    · try simp only [decide_eq_true_eq, decide_eq_false_iff_not, Bool.not_eq_true', Bool.not_eq_false', Bool.not_eq_eq_eq_not, Bool.not_true, Bool.not_false, beq_iff_eq, bne_iff_ne, beq_eq_false_iff_ne, bne_eq_false_iff_eq, ne_eq, Int.not_le, Int.not_lt] at hc1
      obtain ⟨a, ha⟩ : ∃ a, R.asks[k]? = some a := ⟨_, List.getElem?_eq_getElem (by omega)⟩
      obtain ⟨l0, l1⟩ := hl a (List.mem_of_getElem? ha)
      obtain ⟨n, hnn⟩ := Int.eq_ofNat_of_zero_le l0
      have hnl : n < ((R.asks.take k).foldl (askStep t) R.kept).length := by rw [foldl_askStep_len]; omega
      obtain ⟨kv, hkv⟩ : ∃ kv, ((R.asks.take k).foldl (askStep t) R.kept)[n]? = some kv := ⟨_, List.getElem?_eq_getElem hnl⟩
      have q2 : IntKind.i64.wrap ((k : Int) + 1) = ((k + 1 : Nat) : Int) := by rw [IntKind.wrap_i64]; omega
      have hfl : ((R.asks.take k).filter fun a => decide (¬ a.thread = t)).length ≤ 1000 := by have := List.length_filter_le (fun a : AskV => decide (¬ a.thread = t)) (R.asks.take k); rw [List.length_take] at this; omega
      have e1 := askStep_take t R.asks R.kept ha
      have e2 := filter_take (fun a => decide (¬ a.thread = t)) R.asks ha
      refine hn23 (some ([1, 2, 4, 6, 7], none)) _ ?_
      refine ev_seq_k fun K27 hn27 hr27 he27 => ?_
      refine ev_block_k fun K28 hn28 hx28 hr28 he28 => ?_
      refine ev_seq_k fun K29 hn29 hr29 he29 => ?_
      refine ev_ops_k fun K30 hk30 => ?_
      refine evL_take 2 fun K31 hk31 => ?_
      simp only [shA, if_true, if_false, ite_true, ite_false, forall_const, ite_self, eq_self, reduceIte, reduceCtorEq, Nat.reduceEqDiff, Nat.reduceAdd, Nat.reduceLeDiff, Nat.reduceSub, Int.reduceToNat, Nat.reduceBEq, Nat.reduceMul, Nat.reduceLT, Int.reduceLE, Int.reduceLT, Nat.reduceMod, h1, h2, List.length_map, List.getElem?_map, Int.toNat_natCast, ha, hnn, hkv, q2]
      repeat (refine ⟨by first | assumption | omega | decide | (simp; done) | (simp_all; done) | (simp; omega), ?_⟩)
      refine hk31 _ ?_
      refine evL_take 2 fun K32 hk32 => ?_
      simp only [shA, if_true, if_false, ite_true, ite_false, forall_const, ite_self, eq_self, reduceIte, reduceCtorEq, Nat.reduceEqDiff, Nat.reduceAdd, Nat.reduceLeDiff, Nat.reduceSub, Int.reduceToNat, Nat.reduceBEq, Nat.reduceMul, Nat.reduceLT, Int.reduceLE, Int.reduceLT, Nat.reduceMod, h1, h2, List.length_map, List.getElem?_map, Int.toNat_natCast, ha, hnn, hkv, q2]
      repeat (refine ⟨by first | assumption | omega | decide | (simp; done) | (simp_all; done) | (simp; omega), ?_⟩)
      refine hk32 _ ?_
      refine evL_take 1 fun K33 hk33 => ?_
      simp only [shA, if_true, if_false, ite_true, ite_false, forall_const, ite_self, eq_self, reduceIte, reduceCtorEq, Nat.reduceEqDiff, Nat.reduceAdd, Nat.reduceLeDiff, Nat.reduceSub, Int.reduceToNat, Nat.reduceBEq, Nat.reduceMul, Nat.reduceLT, Int.reduceLE, Int.reduceLT, Nat.reduceMod, h1, h2, List.length_map, List.getElem?_map, Int.toNat_natCast, ha, hnn, hkv, q2]
      repeat (refine ⟨by first | assumption | omega | decide | (simp; done) | (simp_all; done) | (simp; omega), ?_⟩)
      refine hk33 _ ?_
      simp only [shA, if_true, if_false, ite_true, ite_false, forall_const, ite_self, eq_self, reduceIte, reduceCtorEq, Nat.reduceEqDiff, Nat.reduceAdd, Nat.reduceLeDiff, Nat.reduceSub, Int.reduceToNat, Nat.reduceBEq, Nat.reduceMul, Nat.reduceLT, Int.reduceLE, Int.reduceLT, Nat.reduceMod, h1, h2, List.length_map, List.getElem?_map, Int.toNat_natCast, ha, hnn, hkv, q2]
      repeat (refine ⟨by first | assumption | omega | decide | (simp; done) | (simp_all; done) | (simp; omega), ?_⟩)
      refine hk30 _ ?_
      refine hn29 (some ([1, 2, 4, 6, 7, 8], none)) _ ?_
      refine ev_seq_k fun K34 hn34 hr34 he34 => ?_
      refine ev_ops_k fun K35 hk35 => ?_
      refine evL_take 2 fun K36 hk36 => ?_
      simp only [shA, if_true, if_false, ite_true, ite_false, forall_const, ite_self, eq_self, reduceIte, reduceCtorEq, Nat.reduceEqDiff, Nat.reduceAdd, Nat.reduceLeDiff, Nat.reduceSub, Int.reduceToNat, Nat.reduceBEq, Nat.reduceMul, Nat.reduceLT, Int.reduceLE, Int.reduceLT, Nat.reduceMod, h1, h2, List.length_map, List.getElem?_map, Int.toNat_natCast, ha, hnn, hkv, q2]
      repeat (refine ⟨by first | assumption | omega | decide | (simp; done) | (simp_all; done) | (simp; omega), ?_⟩)
      refine hk36 _ ?_
      simp only [shA, if_true, if_false, ite_true, ite_false, forall_const, ite_self, eq_self, reduceIte, reduceCtorEq, Nat.reduceEqDiff, Nat.reduceAdd, Nat.reduceLeDiff, Nat.reduceSub, Int.reduceToNat, Nat.reduceBEq, Nat.reduceMul, Nat.reduceLT, Int.reduceLE, Int.reduceLT, Nat.reduceMod, h1, h2, List.length_map, List.getElem?_map, Int.toNat_natCast, ha, hnn, hkv, q2]
      repeat (refine ⟨by first | assumption | omega | decide | (simp; done) | (simp_all; done) | (simp; omega), ?_⟩)
      refine hk35 _ ?_
      refine hn34 (some ([1, 2, 4, 6, 7, 8, 38], none)) _ ?_
      refine ev_cond_k rfl (fun hc2 => ?_) (fun hc2 => ?_)
      · try simp only [decide_eq_true_eq, decide_eq_false_iff_not, Bool.not_eq_true', Bool.not_eq_false', Bool.not_eq_eq_eq_not, Bool.not_true, Bool.not_false, beq_iff_eq, bne_iff_ne, beq_eq_false_iff_ne, bne_eq_false_iff_eq, ne_eq, Int.not_le, Int.not_lt] at hc2
        refine ev_ops_k fun K37 hk37 => ?_
        refine evL_take 2 fun K38 hk38 => ?_
        simp only [shA, if_true, if_false, ite_true, ite_false, forall_const, ite_self, eq_self, reduceIte, reduceCtorEq, Nat.reduceEqDiff, Nat.reduceAdd, Nat.reduceLeDiff, Nat.reduceSub, Int.reduceToNat, Nat.reduceBEq, Nat.reduceMul, Nat.reduceLT, Int.reduceLE, Int.reduceLT, Nat.reduceMod, h1, h2, List.length_map, List.getElem?_map, Int.toNat_natCast, ha, hnn, hkv, q2]
        repeat (refine ⟨by first | assumption | omega | decide | (simp; done) | (simp_all; done) | (simp; omega), ?_⟩)
        refine hk38 _ ?_
        refine evL_take 1 fun K39 hk39 => ?_
        simp only [shA, if_true, if_false, ite_true, ite_false, forall_const, ite_self, eq_self, reduceIte, reduceCtorEq, Nat.reduceEqDiff, Nat.reduceAdd, Nat.reduceLeDiff, Nat.reduceSub, Int.reduceToNat, Nat.reduceBEq, Nat.reduceMul, Nat.reduceLT, Int.reduceLE, Int.reduceLT, Nat.reduceMod, h1, h2, List.length_map, List.getElem?_map, Int.toNat_natCast, ha, hnn, hkv, q2]
        repeat (refine ⟨by first | assumption | omega | decide | (simp; done) | (simp_all; done) | (simp; omega), ?_⟩)
        refine hk39 _ ?_
        refine evL_take 1 fun K40 hk40 => ?_
        simp only [shA, if_true, if_false, ite_true, ite_false, forall_const, ite_self, eq_self, reduceIte, reduceCtorEq, Nat.reduceEqDiff, Nat.reduceAdd, Nat.reduceLeDiff, Nat.reduceSub, Int.reduceToNat, Nat.reduceBEq, Nat.reduceMul, Nat.reduceLT, Int.reduceLE, Int.reduceLT, Nat.reduceMod, h1, h2, List.length_map, List.getElem?_map, Int.toNat_natCast, ha, hnn, hkv, q2]
        repeat (refine ⟨by first | assumption | omega | decide | (simp; done) | (simp_all; done) | (simp; omega), ?_⟩)
        refine hk40 _ ?_
        refine evL_take 1 fun K41 hk41 => ?_
        simp only [shA, if_true, if_false, ite_true, ite_false, forall_const, ite_self, eq_self, reduceIte, reduceCtorEq, Nat.reduceEqDiff, Nat.reduceAdd, Nat.reduceLeDiff, Nat.reduceSub, Int.reduceToNat, Nat.reduceBEq, Nat.reduceMul, Nat.reduceLT, Int.reduceLE, Int.reduceLT, Nat.reduceMod, h1, h2, List.length_map, List.getElem?_map, Int.toNat_natCast, ha, hnn, hkv, q2]
        repeat (refine ⟨by first | assumption | omega | decide | (simp; done) | (simp_all; done) | (simp; omega), ?_⟩)
        refine hk41 _ ?_
        simp only [shA, if_true, if_false, ite_true, ite_false, forall_const, ite_self, eq_self, reduceIte, reduceCtorEq, Nat.reduceEqDiff, Nat.reduceAdd, Nat.reduceLeDiff, Nat.reduceSub, Int.reduceToNat, Nat.reduceBEq, Nat.reduceMul, Nat.reduceLT, Int.reduceLE, Int.reduceLT, Nat.reduceMod, h1, h2, List.length_map, List.getElem?_map, Int.toNat_natCast, ha, hnn, hkv, q2]
        repeat (refine ⟨by first | assumption | omega | decide | (simp; done) | (simp_all; done) | (simp; omega), ?_⟩)
        refine hk37 _ ?_
        refine hn28 _ ?_
        refine hn27 (some ([1, 2, 4, 6, 7], none)) _ ?_
        refine ev_ops_k fun K42 hk42 => ?_
        refine evL_take 2 fun K43 hk43 => ?_
        simp only [shA, if_true, if_false, ite_true, ite_false, forall_const, ite_self, eq_self, reduceIte, reduceCtorEq, Nat.reduceEqDiff, Nat.reduceAdd, Nat.reduceLeDiff, Nat.reduceSub, Int.reduceToNat, Nat.reduceBEq, Nat.reduceMul, Nat.reduceLT, Int.reduceLE, Int.reduceLT, Nat.reduceMod, h1, h2, List.length_map, List.getElem?_map, Int.toNat_natCast, ha, hnn, hkv, q2]
        repeat (refine ⟨by first | assumption | omega | decide | (simp; done) | (simp_all; done) | (simp; omega), ?_⟩)
        refine hk43 _ ?_
        simp only [shA, if_true, if_false, ite_true, ite_false, forall_const, ite_self, eq_self, reduceIte, reduceCtorEq, Nat.reduceEqDiff, Nat.reduceAdd, Nat.reduceLeDiff, Nat.reduceSub, Int.reduceToNat, Nat.reduceBEq, Nat.reduceMul, Nat.reduceLT, Int.reduceLE, Int.reduceLT, Nat.reduceMod, h1, h2, List.length_map, List.getElem?_map, Int.toNat_natCast, ha, hnn, hkv, q2]
        refine hk42 _ ?_
        refine hn22 (R.asks.length - (k + 1)) (some ([1, 2, 4, 6, 7], some ([0, 1, 2, 3, 6], 5))) _ ?_ ?_
        all_goals try simp only [St.casts, St.cast, nilS, St.put, St.newO, St.setO, delA, List.getElem?_cons_zero, List.getElem?_cons_succ, List.set_cons_zero, List.set_cons_succ, getA, Nat.reduceEqDiff, reduceCtorEq, keepT, renT, renSh, renC, renO, renOb, idxN, List.map_cons, List.map_nil, List.length_cons, List.length_nil, Nat.reduceAdd, Nat.zero_add, decide_true, St.keep, refsT, refsO, refsL, refsC, refsOk, decide_eq_true_eq, List.contains_cons, List.contains_nil, Bool.or_false, Bool.or_true, Bool.true_or, Bool.false_or, Bool.and_true, Bool.true_and, beq_self_eq_true, Nat.reduceBEq, reduceIte, Nat.blt_eq, Nat.reduceLT, decide_true, Nat.reduceLeDiff, Bool.false_eq_true, Bool.and_eq_true, and_self, true_and, and_true]
        · omega
        · refine ⟨k + 1, by omega, by omega, ?_⟩
          rw [e1, e2, askStep_at hnn hkv]
          first
          | (rw [if_neg hc2, if_pos (by simpa using hc2), List.map_append]; simp [hnn]; done)
          | (rw [if_pos hc2, if_pos hc3, if_neg (by simpa using hc2), List.map_set])
          | (rw [if_pos hc2, if_neg (by omega), if_neg (by simpa using hc2)])
      · try simp only [decide_eq_true_eq, decide_eq_false_iff_not, Bool.not_eq_true', Bool.not_eq_false', Bool.not_eq_eq_eq_not, Bool.not_true, Bool.not_false, beq_iff_eq, bne_iff_ne, beq_eq_false_iff_ne, bne_eq_false_iff_eq, ne_eq, Int.not_le, Int.not_lt] at hc2
        refine ev_seq_k fun K44 hn44 hr44 he44 => ?_
        refine ev_drw_k [] (n := 8) fun K45 hk45 => ?_
        simp only [List.take_succ_cons, List.take_zero, St.frzAll, St.frzSh, St.frzRow, St.frzBox, St.frzCells, St.argL, St.arg1, St.res, Sh.pure, St.setO, getA, delA, keepT, St.keep, reduceIte, Nat.reduceEqDiff, reduceCtorEq, Option.bind_some, Option.map_some, List.contains_cons, List.contains_nil, Nat.reduceBEq, Bool.or_false, Bool.or_true, Bool.false_or, beq_self_eq_true, Bool.false_eq_true]
        refine evF_take 2 fun K47 hk47 => ?_
        simp only [shA, if_true, if_false, ite_true, ite_false, forall_const, ite_self, eq_self, reduceIte, reduceCtorEq, Nat.reduceEqDiff, Nat.reduceAdd, Nat.reduceLeDiff, Nat.reduceSub, Int.reduceToNat, Nat.reduceBEq, Nat.reduceMul, Nat.reduceLT, Int.reduceLE, Int.reduceLT, Nat.reduceMod, h1, h2, List.length_map, List.getElem?_map, Int.toNat_natCast, ha, hnn, hkv, q2]
        repeat (refine ⟨by first | assumption | omega | decide | (simp; done) | (simp_all; done) | (simp; omega), ?_⟩)
        refine hk47 _ _ _ ?_
        refine evF_take 2 fun K48 hk48 => ?_
        simp only [shA, if_true, if_false, ite_true, ite_false, forall_const, ite_self, eq_self, reduceIte, reduceCtorEq, Nat.reduceEqDiff, Nat.reduceAdd, Nat.reduceLeDiff, Nat.reduceSub, Int.reduceToNat, Nat.reduceBEq, Nat.reduceMul, Nat.reduceLT, Int.reduceLE, Int.reduceLT, Nat.reduceMod, h1, h2, List.length_map, List.getElem?_map, Int.toNat_natCast, ha, hnn, hkv, q2]
        repeat (refine ⟨by first | assumption | omega | decide | (simp; done) | (simp_all; done) | (simp; omega), ?_⟩)
        refine hk48 _ _ _ ?_
        refine evF_take 2 fun K49 hk49 => ?_
        simp only [shA, if_true, if_false, ite_true, ite_false, forall_const, ite_self, eq_self, reduceIte, reduceCtorEq, Nat.reduceEqDiff, Nat.reduceAdd, Nat.reduceLeDiff, Nat.reduceSub, Int.reduceToNat, Nat.reduceBEq, Nat.reduceMul, Nat.reduceLT, Int.reduceLE, Int.reduceLT, Nat.reduceMod, h1, h2, List.length_map, List.getElem?_map, Int.toNat_natCast, ha, hnn, hkv, q2]
        repeat (refine ⟨by first | assumption | omega | decide | (simp; done) | (simp_all; done) | (simp; omega), ?_⟩)
        refine hk49 _ _ _ ?_
        refine evF_take 1 fun K50 hk50 => ?_
        simp only [shA, if_true, if_false, ite_true, ite_false, forall_const, ite_self, eq_self, reduceIte, reduceCtorEq, Nat.reduceEqDiff, Nat.reduceAdd, Nat.reduceLeDiff, Nat.reduceSub, Int.reduceToNat, Nat.reduceBEq, Nat.reduceMul, Nat.reduceLT, Int.reduceLE, Int.reduceLT, Nat.reduceMod, h1, h2, List.length_map, List.getElem?_map, Int.toNat_natCast, ha, hnn, hkv, q2]
        repeat (refine ⟨by first | assumption | omega | decide | (simp; done) | (simp_all; done) | (simp; omega), ?_⟩)
        refine hk50 _ _ _ ?_
        simp only [shA, if_true, if_false, ite_true, ite_false, forall_const, ite_self, eq_self, reduceIte, reduceCtorEq, Nat.reduceEqDiff, Nat.reduceAdd, Nat.reduceLeDiff, Nat.reduceSub, Int.reduceToNat, Nat.reduceBEq, Nat.reduceMul, Nat.reduceLT, Int.reduceLE, Int.reduceLT, Nat.reduceMod, h1, h2, List.length_map, List.getElem?_map, Int.toNat_natCast, ha, hnn, hkv, q2]
        repeat (refine ⟨by first | assumption | omega | decide | (simp; done) | (simp_all; done) | (simp; omega), ?_⟩)
        refine hk45 _ ?_
        simp only [List.drop_succ_cons, List.drop_zero]
        simp only [shA, if_true, if_false, ite_true, ite_false, forall_const, ite_self, eq_self, reduceIte, reduceCtorEq, Nat.reduceEqDiff, Nat.reduceAdd, Nat.reduceLeDiff, Nat.reduceSub, Int.reduceToNat, Nat.reduceBEq, Nat.reduceMul, Nat.reduceLT, Int.reduceLE, Int.reduceLT, Nat.reduceMod, h1, h2, List.length_map, List.getElem?_map, Int.toNat_natCast, ha, hnn, hkv, q2]
        repeat (refine ⟨by first | assumption | omega | decide | (simp; done) | (simp_all; done) | (simp; omega), ?_⟩)
        refine hn44 (some ([1, 2, 4, 6, 7, 8, 53], none)) _ ?_
        refine ev_cond_k rfl (fun hc3 => ?_) (fun hc3 => ?_)
        · try simp only [decide_eq_true_eq, decide_eq_false_iff_not, Bool.not_eq_true', Bool.not_eq_false', Bool.not_eq_eq_eq_not, Bool.not_true, Bool.not_false, beq_iff_eq, bne_iff_ne, beq_eq_false_iff_ne, bne_eq_false_iff_eq, ne_eq, Int.not_le, Int.not_lt] at hc3
          refine ev_ops_k fun K51 hk51 => ?_
          refine evL_take 2 fun K52 hk52 => ?_
          simp only [shA, if_true, if_false, ite_true, ite_false, forall_const, ite_self, eq_self, reduceIte, reduceCtorEq, Nat.reduceEqDiff, Nat.reduceAdd, Nat.reduceLeDiff, Nat.reduceSub, Int.reduceToNat, Nat.reduceBEq, Nat.reduceMul, Nat.reduceLT, Int.reduceLE, Int.reduceLT, Nat.reduceMod, h1, h2, List.length_map, List.getElem?_map, Int.toNat_natCast, ha, hnn, hkv, q2]
          repeat (refine ⟨by first | assumption | omega | decide | (simp; done) | (simp_all; done) | (simp; omega), ?_⟩)
          refine hk52 _ ?_
          refine evL_take 2 fun K53 hk53 => ?_
          simp only [shA, if_true, if_false, ite_true, ite_false, forall_const, ite_self, eq_self, reduceIte, reduceCtorEq, Nat.reduceEqDiff, Nat.reduceAdd, Nat.reduceLeDiff, Nat.reduceSub, Int.reduceToNat, Nat.reduceBEq, Nat.reduceMul, Nat.reduceLT, Int.reduceLE, Int.reduceLT, Nat.reduceMod, h1, h2, List.length_map, List.getElem?_map, Int.toNat_natCast, ha, hnn, hkv, q2]
          repeat (refine ⟨by first | assumption | omega | decide | (simp; done) | (simp_all; done) | (simp; omega), ?_⟩)
          refine hk53 _ ?_
          refine evL_take 2 fun K54 hk54 => ?_
          simp only [shA, if_true, if_false, ite_true, ite_false, forall_const, ite_self, eq_self, reduceIte, reduceCtorEq, Nat.reduceEqDiff, Nat.reduceAdd, Nat.reduceLeDiff, Nat.reduceSub, Int.reduceToNat, Nat.reduceBEq, Nat.reduceMul, Nat.reduceLT, Int.reduceLE, Int.reduceLT, Nat.reduceMod, h1, h2, List.length_map, List.getElem?_map, Int.toNat_natCast, ha, hnn, hkv, q2]
          repeat (refine ⟨by first | assumption | omega | decide | (simp; done) | (simp_all; done) | (simp; omega), ?_⟩)
          refine hk54 _ ?_
          refine evL_take 1 fun K55 hk55 => ?_
          simp only [shA, if_true, if_false, ite_true, ite_false, forall_const, ite_self, eq_self, reduceIte, reduceCtorEq, Nat.reduceEqDiff, Nat.reduceAdd, Nat.reduceLeDiff, Nat.reduceSub, Int.reduceToNat, Nat.reduceBEq, Nat.reduceMul, Nat.reduceLT, Int.reduceLE, Int.reduceLT, Nat.reduceMod, h1, h2, List.length_map, List.getElem?_map, Int.toNat_natCast, ha, hnn, hkv, q2]
          repeat (refine ⟨by first | assumption | omega | decide | (simp; done) | (simp_all; done) | (simp; omega), ?_⟩)
          refine hk55 _ ?_
          simp only [shA, if_true, if_false, ite_true, ite_false, forall_const, ite_self, eq_self, reduceIte, reduceCtorEq, Nat.reduceEqDiff, Nat.reduceAdd, Nat.reduceLeDiff, Nat.reduceSub, Int.reduceToNat, Nat.reduceBEq, Nat.reduceMul, Nat.reduceLT, Int.reduceLE, Int.reduceLT, Nat.reduceMod, h1, h2, List.length_map, List.getElem?_map, Int.toNat_natCast, ha, hnn, hkv, q2]
          repeat (refine ⟨by first | assumption | omega | decide | (simp; done) | (simp_all; done) | (simp; omega), ?_⟩)
          refine hk51 _ ?_
          refine hn28 _ ?_
          refine hn27 (some ([1, 2, 4, 6, 7], none)) _ ?_
          refine ev_ops_k fun K56 hk56 => ?_
          refine evL_take 2 fun K57 hk57 => ?_
          simp only [shA, if_true, if_false, ite_true, ite_false, forall_const, ite_self, eq_self, reduceIte, reduceCtorEq, Nat.reduceEqDiff, Nat.reduceAdd, Nat.reduceLeDiff, Nat.reduceSub, Int.reduceToNat, Nat.reduceBEq, Nat.reduceMul, Nat.reduceLT, Int.reduceLE, Int.reduceLT, Nat.reduceMod, h1, h2, List.length_map, List.getElem?_map, Int.toNat_natCast, ha, hnn, hkv, q2]
          repeat (refine ⟨by first | assumption | omega | decide | (simp; done) | (simp_all; done) | (simp; omega), ?_⟩)
          refine hk57 _ ?_
          simp only [shA, if_true, if_false, ite_true, ite_false, forall_const, ite_self, eq_self, reduceIte, reduceCtorEq, Nat.reduceEqDiff, Nat.reduceAdd, Nat.reduceLeDiff, Nat.reduceSub, Int.reduceToNat, Nat.reduceBEq, Nat.reduceMul, Nat.reduceLT, Int.reduceLE, Int.reduceLT, Nat.reduceMod, h1, h2, List.length_map, List.getElem?_map, Int.toNat_natCast, ha, hnn, hkv, q2]
          refine hk56 _ ?_
          refine hn22 (R.asks.length - (k + 1)) (some ([1, 2, 4, 6, 7], some ([0, 1, 2, 3, 4], 5))) _ ?_ ?_
          all_goals try simp only [St.casts, St.cast, nilS, St.put, St.newO, St.setO, delA, List.getElem?_cons_zero, List.getElem?_cons_succ, List.set_cons_zero, List.set_cons_succ, getA, Nat.reduceEqDiff, reduceCtorEq, keepT, renT, renSh, renC, renO, renOb, idxN, List.map_cons, List.map_nil, List.length_cons, List.length_nil, Nat.reduceAdd, Nat.zero_add, decide_true, St.keep, refsT, refsO, refsL, refsC, refsOk, decide_eq_true_eq, List.contains_cons, List.contains_nil, Bool.or_false, Bool.or_true, Bool.true_or, Bool.false_or, Bool.and_true, Bool.true_and, beq_self_eq_true, Nat.reduceBEq, reduceIte, Nat.blt_eq, Nat.reduceLT, decide_true, Nat.reduceLeDiff, Bool.false_eq_true, Bool.and_eq_true, and_self, true_and, and_true]
          · omega
          · refine ⟨k + 1, by omega, by omega, ?_⟩
            rw [e1, e2, askStep_at hnn hkv]
            first
            | (rw [if_neg hc2, if_pos (by simpa using hc2), List.map_append]; simp [hnn]; done)
            | (rw [if_pos hc2, if_pos hc3, if_neg (by simpa using hc2), List.map_set])
            | (rw [if_pos hc2, if_neg (by omega), if_neg (by simpa using hc2)])
        · try simp only [decide_eq_true_eq, decide_eq_false_iff_not, Bool.not_eq_true', Bool.not_eq_false', Bool.not_eq_eq_eq_not, Bool.not_true, Bool.not_false, beq_iff_eq, bne_iff_ne, beq_eq_false_iff_ne, bne_eq_false_iff_eq, ne_eq, Int.not_le, Int.not_lt] at hc3
          refine hn28 _ ?_
          refine hn27 (some ([1, 2, 4, 6, 7], none)) _ ?_
          refine ev_ops_k fun K58 hk58 => ?_
          refine evL_take 2 fun K59 hk59 => ?_
          simp only [shA, if_true, if_false, ite_true, ite_false, forall_const, ite_self, eq_self, reduceIte, reduceCtorEq, Nat.reduceEqDiff, Nat.reduceAdd, Nat.reduceLeDiff, Nat.reduceSub, Int.reduceToNat, Nat.reduceBEq, Nat.reduceMul, Nat.reduceLT, Int.reduceLE, Int.reduceLT, Nat.reduceMod, h1, h2, List.length_map, List.getElem?_map, Int.toNat_natCast, ha, hnn, hkv, q2]
          repeat (refine ⟨by first | assumption | omega | decide | (simp; done) | (simp_all; done) | (simp; omega), ?_⟩)
          refine hk59 _ ?_
          simp only [shA, if_true, if_false, ite_true, ite_false, forall_const, ite_self, eq_self, reduceIte, reduceCtorEq, Nat.reduceEqDiff, Nat.reduceAdd, Nat.reduceLeDiff, Nat.reduceSub, Int.reduceToNat, Nat.reduceBEq, Nat.reduceMul, Nat.reduceLT, Int.reduceLE, Int.reduceLT, Nat.reduceMod, h1, h2, List.length_map, List.getElem?_map, Int.toNat_natCast, ha, hnn, hkv, q2]
          refine hk58 _ ?_
          refine hn22 (R.asks.length - (k + 1)) (some ([1, 2, 4, 6, 7], some ([0, 1, 2, 3, 4], 5))) _ ?_ ?_
          all_goals try simp only [St.casts, St.cast, nilS, St.put, St.newO, St.setO, delA, List.getElem?_cons_zero, List.getElem?_cons_succ, List.set_cons_zero, List.set_cons_succ, getA, Nat.reduceEqDiff, reduceCtorEq, keepT, renT, renSh, renC, renO, renOb, idxN, List.map_cons, List.map_nil, List.length_cons, List.length_nil, Nat.reduceAdd, Nat.zero_add, decide_true, St.keep, refsT, refsO, refsL, refsC, refsOk, decide_eq_true_eq, List.contains_cons, List.contains_nil, Bool.or_false, Bool.or_true, Bool.true_or, Bool.false_or, Bool.and_true, Bool.true_and, beq_self_eq_true, Nat.reduceBEq, reduceIte, Nat.blt_eq, Nat.reduceLT, decide_true, Nat.reduceLeDiff, Bool.false_eq_true, Bool.and_eq_true, and_self, true_and, and_true]
          · omega
          · refine ⟨k + 1, by omega, by omega, ?_⟩
            rw [e1, e2, askStep_at hnn hkv]
            first
            | (rw [if_neg hc2, if_pos (by simpa using hc2), List.map_append]; simp [hnn]; done)
            | (rw [if_pos hc2, if_pos hc3, if_neg (by simpa using hc2), List.map_set])
            | (rw [if_pos hc2, if_neg (by omega), if_neg (by simpa using hc2)])
    · try simp only [decide_eq_true_eq, decide_eq_false_iff_not, Bool.not_eq_true', Bool.not_eq_false', Bool.not_eq_eq_eq_not, Bool.not_true, Bool.not_false, beq_iff_eq, bne_iff_ne, beq_eq_false_iff_ne, bne_eq_false_iff_eq, ne_eq, Int.not_le, Int.not_lt] at hc1
      obtain rfl : k = R.asks.length := by omega
      refine he23 0 _ ?_
      refine he22 0 _ ?_
      refine hx21 _ ?_
      refine hn18 (some ([4, 6], none)) _ ?_
      refine ev_seq_k fun K60 hn60 hr60 he60 => ?_
      refine ev_ops_k fun K61 hk61 => ?_
      refine evL_take 1 fun K62 hk62 => ?_
      simp only [shA, if_true, if_false, ite_true, ite_false, forall_const, ite_self, eq_self, reduceIte, reduceCtorEq, Nat.reduceEqDiff, Nat.reduceAdd, Nat.reduceLeDiff, Nat.reduceSub, Int.reduceToNat, Nat.reduceBEq, Nat.reduceMul, Nat.reduceLT, Int.reduceLE, Int.reduceLT, Nat.reduceMod, h1, h2, List.length_map]
      repeat (refine ⟨by first | assumption | omega | decide | (simp; done) | (simp_all; done) | (simp; omega), ?_⟩)
      refine hk62 _ ?_
      refine evL_take 1 fun K63 hk63 => ?_
      simp only [shA, if_true, if_false, ite_true, ite_false, forall_const, ite_self, eq_self, reduceIte, reduceCtorEq, Nat.reduceEqDiff, Nat.reduceAdd, Nat.reduceLeDiff, Nat.reduceSub, Int.reduceToNat, Nat.reduceBEq, Nat.reduceMul, Nat.reduceLT, Int.reduceLE, Int.reduceLT, Nat.reduceMod, h1, h2, List.length_map]
      repeat (refine ⟨by first | assumption | omega | decide | (simp; done) | (simp_all; done) | (simp; omega), ?_⟩)
      refine hk63 _ ?_
      simp only [shA, if_true, if_false, ite_true, ite_false, forall_const, ite_self, eq_self, reduceIte, reduceCtorEq, Nat.reduceEqDiff, Nat.reduceAdd, Nat.reduceLeDiff, Nat.reduceSub, Int.reduceToNat, Nat.reduceBEq, Nat.reduceMul, Nat.reduceLT, Int.reduceLE, Int.reduceLT, Nat.reduceMod, h1, h2, List.length_map]
      refine hk61 _ ?_
      refine hn60 (some ([4, 5], none)) _ ?_
      simp only [shA, if_true, if_false, ite_true, ite_false, forall_const, ite_self, eq_self, reduceIte, reduceCtorEq, Nat.reduceEqDiff, Nat.reduceAdd, Nat.reduceLeDiff, Nat.reduceSub, Int.reduceToNat, Nat.reduceBEq, Nat.reduceMul, Nat.reduceLT, Int.reduceLE, Int.reduceLT, Nat.reduceMod, ev, fin, rv_r5Sync, h1, h2, List.length_map]
      simp [r5syncM]

def crK (R : RefM) (c : Int) (i : Nat) : List Int := R.kept.mapIdx fun j k => if j < i then k + mixF c j (cntR R.puts j R.puts.length - k) else k
theorem crK_len (R : RefM) (c : Int) (i : Nat) : (crK R c i).length = R.kept.length := by simp [crK]
theorem crK_at (R : RefM) (c : Int) (i : Nat) {k : Int} (h : R.kept[i]? = some k) : (crK R c i)[i]? = some k := by simp [crK, List.getElem?_mapIdx, h]
theorem crK_set (R : RefM) (c : Int) (i : Nat) {k : Int} (h : R.kept[i]? = some k) : crK R c (i + 1) = (crK R c i).set i (k + mixF c i (cntR R.puts i R.puts.length - k)) := by
  obtain ⟨hi, hki⟩ := List.getElem?_eq_some_iff.1 h
  refine List.ext_getElem? fun j => ?_
  rw [List.getElem?_set]
  simp only [crK, List.getElem?_mapIdx, List.length_mapIdx]
  by_cases e : i = j
  · subst e; simp [hki, hi]
  · rw [if_neg e]
    cases R.kept[j]? with
    | none => rfl
    | some v =>
      simp only [Option.map_some, Option.some.injEq]
      by_cases h1 : j < i
      · rw [if_pos h1, if_pos (by omega)]
      · rw [if_neg h1, if_neg (by omega)]
theorem crK_zero (R : RefM) (c : Int) : crK R c 0 = R.kept := by
  refine List.ext_getElem? fun j => ?_
  simp only [crK, List.getElem?_mapIdx]
  cases R.kept[j]? <;> simp
theorem crK_all (R : RefM) (c : Int) : crK R c R.kept.length = crashK R c := by
  refine List.ext_getElem? fun j => ?_
  simp only [crK, crashK, List.getElem?_mapIdx]
  cases h : R.kept[j]? with
  | none => rfl
  | some v => simp [(List.getElem?_eq_some_iff.1 h).1]
def CrashInv (g : Nat) (R : RefM) (c : Int) (m : Nat) (S : St) : Prop :=
  ∃ i, i ≤ R.kept.length ∧ m = R.kept.length - i ∧ S = ⟨[(1, sI c), (2, .ptr 0 0 0), (5, .own 1), (6, sI i)], [(0, boxR g R), (1, .row 3 1 ((crK R c i).map eI))], 2⟩
set_option maxHeartbeats 4000000 in
theorem ok_r5Crash (g : Nat) (R : RefM) (c : Int) (hf : R.first.length ≤ 4096) (hp : ∀ p ∈ R.puts, 0 ≤ p.loc ∧ p.loc < (R.first.length : Int)) (hn : R.puts.length ≤ 1000) (hk : R.kept.length ≤ 1000) (hb : ∀ (i : Nat) k, R.kept[i]? = some k → 0 ≤ k ∧ k ≤ cntR R.puts i R.puts.length) :
    Ok 56 [eRef g R, sI c] (.sl 3 0 ((outR R (crashK R c) (crashK R c).length).map eWord)) := by
  have hc := ok_r5Left g 0 R (crashK R c) hf hp hn (by simp [crashK]; exact hk)
  generalize outR R (crashK R c) (crashK R c).length = W at hc
  refine ok_of_tr Try.func56 tr_r5Crash rfl ?_
  unfold evFn sc_r5Crash
  refine ev_seq_k fun K1 hn1 hr1 he1 => ?_
  refine ev_ops_k fun K2 hk2 => ?_
  simp only [shA, if_true, if_false, ite_true, ite_false, forall_const, ite_self, eq_self, reduceIte, reduceCtorEq, Nat.reduceEqDiff, Nat.reduceAdd, Nat.reduceLeDiff, Nat.reduceSub, Int.reduceToNat, Nat.reduceBEq, Nat.reduceMul, Nat.reduceLT, Int.reduceLE, Int.reduceLT, Nat.reduceMod, List.length_map, crK_len]
  refine hk2 _ ?_
  refine hn1 (some ([1, 2], none)) _ ?_
  refine ev_seq_k fun K3 hn3 hr3 he3 => ?_
  refine ev_ops_k fun K4 hk4 => ?_
  refine evL_take 1 fun K5 hk5 => ?_
  simp only [shA, if_true, if_false, ite_true, ite_false, forall_const, ite_self, eq_self, reduceIte, reduceCtorEq, Nat.reduceEqDiff, Nat.reduceAdd, Nat.reduceLeDiff, Nat.reduceSub, Int.reduceToNat, Nat.reduceBEq, Nat.reduceMul, Nat.reduceLT, Int.reduceLE, Int.reduceLT, Nat.reduceMod, List.length_map, crK_len]
  repeat (refine ⟨by first | assumption | omega | decide | (simp; done) | (simp_all; done) | (simp; omega), ?_⟩)
  refine hk5 _ ?_
  refine evL_take 2 fun K6 hk6 => ?_
  simp only [shA, if_true, if_false, ite_true, ite_false, forall_const, ite_self, eq_self, reduceIte, reduceCtorEq, Nat.reduceEqDiff, Nat.reduceAdd, Nat.reduceLeDiff, Nat.reduceSub, Int.reduceToNat, Nat.reduceBEq, Nat.reduceMul, Nat.reduceLT, Int.reduceLE, Int.reduceLT, Nat.reduceMod, List.length_map, crK_len]
  repeat (refine ⟨by first | assumption | omega | decide | (simp; done) | (simp_all; done) | (simp; omega), ?_⟩)
  refine hk6 _ ?_
  refine evL_take 1 fun K7 hk7 => ?_
  simp only [shA, if_true, if_false, ite_true, ite_false, forall_const, ite_self, eq_self, reduceIte, reduceCtorEq, Nat.reduceEqDiff, Nat.reduceAdd, Nat.reduceLeDiff, Nat.reduceSub, Int.reduceToNat, Nat.reduceBEq, Nat.reduceMul, Nat.reduceLT, Int.reduceLE, Int.reduceLT, Nat.reduceMod, List.length_map, crK_len]
  repeat (refine ⟨by first | assumption | omega | decide | (simp; done) | (simp_all; done) | (simp; omega), ?_⟩)
  refine hk7 _ ?_
  simp only [shA, if_true, if_false, ite_true, ite_false, forall_const, ite_self, eq_self, reduceIte, reduceCtorEq, Nat.reduceEqDiff, Nat.reduceAdd, Nat.reduceLeDiff, Nat.reduceSub, Int.reduceToNat, Nat.reduceBEq, Nat.reduceMul, Nat.reduceLT, Int.reduceLE, Int.reduceLT, Nat.reduceMod, List.length_map, crK_len]
  refine hk4 _ ?_
  refine hn3 (some ([1, 2, 5], none)) _ ?_
  refine ev_seq_k fun K8 hn8 hr8 he8 => ?_
  refine ev_seq_k fun K9 hn9 hr9 he9 => ?_
  refine ev_ops_k fun K10 hk10 => ?_
  simp only [shA, if_true, if_false, ite_true, ite_false, forall_const, ite_self, eq_self, reduceIte, reduceCtorEq, Nat.reduceEqDiff, Nat.reduceAdd, Nat.reduceLeDiff, Nat.reduceSub, Int.reduceToNat, Nat.reduceBEq, Nat.reduceMul, Nat.reduceLT, Int.reduceLE, Int.reduceLT, Nat.reduceMod, List.length_map, crK_len]
  refine hk10 _ ?_
  refine hn9 (some ([1, 2, 5, 6], none)) _ ?_
  refine ev_block_k fun K11 hn11 hx11 hr11 he11 => ?_
  refine ev_loop_k (CrashInv g R c) (R.kept.length) (some ([1, 2, 5, 6], some ([0, 1], 2))) ([]) ?_ ?_
  · try simp only [St.casts, St.cast, nilS, St.put, St.newO, St.setO, delA, List.getElem?_cons_zero, List.getElem?_cons_succ, List.set_cons_zero, List.set_cons_succ, getA, Nat.reduceEqDiff, reduceCtorEq, keepT, renT, renSh, renC, renO, renOb, idxN, List.map_cons, List.map_nil, List.length_cons, List.length_nil, Nat.reduceAdd, Nat.zero_add, decide_true, St.keep, refsT, refsO, refsL, refsC, refsOk, decide_eq_true_eq, List.contains_cons, List.contains_nil, Bool.or_false, Bool.or_true, Bool.true_or, Bool.false_or, Bool.and_true, Bool.true_and, beq_self_eq_true, Nat.reduceBEq, reduceIte, Nat.blt_eq, Nat.reduceLT, decide_true, Nat.reduceLeDiff, Bool.false_eq_true, Bool.and_eq_true, and_self, true_and, and_true]
    refine ⟨0, by omega, by omega, ?_⟩
    rw [crK_zero]
    rfl
  · intro k S1 hI
    obtain ⟨i, hi, rfl, rfl⟩ := hI
    intro K12 hn12 hr12 he12
    refine ev_seq_k fun K13 hn13 hr13 he13 => ?_
    refine ev_seq_k fun K14 hn14 hr14 he14 => ?_
    refine ev_ops_k fun K15 hk15 => ?_
    simp only [shA, if_true, if_false, ite_true, ite_false, forall_const, ite_self, eq_self, reduceIte, reduceCtorEq, Nat.reduceEqDiff, Nat.reduceAdd, Nat.reduceLeDiff, Nat.reduceSub, Int.reduceToNat, Nat.reduceBEq, Nat.reduceMul, Nat.reduceLT, Int.reduceLE, Int.reduceLT, Nat.reduceMod, List.length_map, crK_len]
    repeat (refine ⟨by first | assumption | omega | decide | (simp; done) | (simp_all; done) | (simp; omega), ?_⟩)
    refine hk15 _ ?_
    refine hn14 (some ([1, 2, 5, 6, 14], none)) _ ?_
    refine ev_cond_k rfl (fun hc0 => ?_) (fun hc0 => ?_)
    · try simp only [decide_eq_true_eq, decide_eq_false_iff_not, Bool.not_eq_true', Bool.not_eq_false', Bool.not_eq_eq_eq_not, Bool.not_true, Bool.not_false, beq_iff_eq, bne_iff_ne, beq_eq_false_iff_ne, bne_eq_false_iff_eq, ne_eq, Int.not_le, Int.not_lt] at hc0
      obtain ⟨k, hki⟩ : ∃ k, R.kept[i]? = some k := ⟨_, List.getElem?_eq_getElem (by omega)⟩
      have hci := crK_at R c i hki
      obtain ⟨b0, b1⟩ := hb i k hki
      have b2 := cntR_le R.puts i R.puts.length
      have b3 := mixF_le c i (cntR R.puts i R.puts.length - k)
      have q1 : IntKind.i64.wrap (cntR R.puts i R.puts.length - k) = cntR R.puts i R.puts.length - k := by rw [IntKind.wrap_i64]; omega
      have q2 : IntKind.i64.wrap (k + mixF c i (cntR R.puts i R.puts.length - k)) = k + mixF c i (cntR R.puts i R.puts.length - k) := by rw [IntKind.wrap_i64]; omega
      have q3 : IntKind.i64.wrap ((i : Int) + 1) = ((i + 1 : Nat) : Int) := by rw [IntKind.wrap_i64]; omega
      refine hn13 (some ([1, 2, 5, 6], none)) _ ?_
      refine ev_seq_k fun K16 hn16 hr16 he16 => ?_
      refine ev_block_k fun K17 hn17 hx17 hr17 he17 => ?_
      refine ev_drw_k [] (n := 17) fun K18 hk18 => ?_
      simp only [List.take_succ_cons, List.take_zero, St.frzAll, St.frzSh, St.frzRow, St.frzBox, St.frzCells, St.argL, St.arg1, St.res, Sh.pure, St.setO, getA, delA, keepT, St.keep, reduceIte, Nat.reduceEqDiff, reduceCtorEq, Option.bind_some, Option.map_some, List.contains_cons, List.contains_nil, Nat.reduceBEq, Bool.or_false, Bool.or_true, Bool.false_or, beq_self_eq_true, Bool.false_eq_true]
      refine evF_take 5 fun K20 hk20 => ?_
      simp only [shA, if_true, if_false, ite_true, ite_false, forall_const, ite_self, eq_self, reduceIte, reduceCtorEq, Nat.reduceEqDiff, Nat.reduceAdd, Nat.reduceLeDiff, Nat.reduceSub, Int.reduceToNat, Nat.reduceBEq, Nat.reduceMul, Nat.reduceLT, Int.reduceLE, Int.reduceLT, Nat.reduceMod, List.length_map, crK_len, List.getElem?_map, Int.toNat_natCast, hci, q1, q2, q3]
      repeat (refine ⟨by first | assumption | omega | decide | (simp; done) | (simp_all; done) | (simp; omega), ?_⟩)
      refine hk20 _ _ _ ?_
      refine evF_take 1 fun K21 hk21 => ?_
      simp only [shA, if_true, if_false, ite_true, ite_false, forall_const, ite_self, eq_self, reduceIte, reduceCtorEq, Nat.reduceEqDiff, Nat.reduceAdd, Nat.reduceLeDiff, Nat.reduceSub, Int.reduceToNat, Nat.reduceBEq, Nat.reduceMul, Nat.reduceLT, Int.reduceLE, Int.reduceLT, Nat.reduceMod, List.length_map, crK_len, List.getElem?_map, Int.toNat_natCast, hci, q1, q2, q3]
      repeat (refine ⟨by first | assumption | omega | decide | (simp; done) | (simp_all; done) | (simp; omega), ?_⟩)
      refine hk21 _ _ _ ?_
      refine evF_take 3 fun K22 hk22 => ?_
      simp only [shA, if_true, if_false, ite_true, ite_false, forall_const, ite_self, eq_self, reduceIte, reduceCtorEq, Nat.reduceEqDiff, Nat.reduceAdd, Nat.reduceLeDiff, Nat.reduceSub, Int.reduceToNat, Nat.reduceBEq, Nat.reduceMul, Nat.reduceLT, Int.reduceLE, Int.reduceLT, Nat.reduceMod, List.length_map, crK_len, List.getElem?_map, Int.toNat_natCast, hci, q1, q2, q3]
      repeat (refine ⟨by first | assumption | omega | decide | (simp; done) | (simp_all; done) | (simp; omega), ?_⟩)
      refine hk22 _ _ _ ?_
      refine evF_take 1 fun K23 hk23 => ?_
      simp only [shA, if_true, if_false, ite_true, ite_false, forall_const, ite_self, eq_self, reduceIte, reduceCtorEq, Nat.reduceEqDiff, Nat.reduceAdd, Nat.reduceLeDiff, Nat.reduceSub, Int.reduceToNat, Nat.reduceBEq, Nat.reduceMul, Nat.reduceLT, Int.reduceLE, Int.reduceLT, Nat.reduceMod, List.length_map, crK_len, List.getElem?_map, Int.toNat_natCast, hci, q1, q2, q3]
      refine hk23 _ _ _ ?_
      refine evF_take 1 fun K24 hk24 => ?_
      simp only [shA, if_true, if_false, ite_true, ite_false, forall_const, ite_self, eq_self, reduceIte, reduceCtorEq, Nat.reduceEqDiff, Nat.reduceAdd, Nat.reduceLeDiff, Nat.reduceSub, Int.reduceToNat, Nat.reduceBEq, Nat.reduceMul, Nat.reduceLT, Int.reduceLE, Int.reduceLT, Nat.reduceMod, List.length_map, crK_len, List.getElem?_map, Int.toNat_natCast, hci, q1, q2, q3]
      refine ⟨_, ok_r5Log g R i (fun p h => by have := hp p h; omega) hn, ?_⟩
      refine hk24 _ _ _ ?_
      refine evF_take 3 fun K25 hk25 => ?_
      simp only [shA, if_true, if_false, ite_true, ite_false, forall_const, ite_self, eq_self, reduceIte, reduceCtorEq, Nat.reduceEqDiff, Nat.reduceAdd, Nat.reduceLeDiff, Nat.reduceSub, Int.reduceToNat, Nat.reduceBEq, Nat.reduceMul, Nat.reduceLT, Int.reduceLE, Int.reduceLT, Nat.reduceMod, List.length_map, crK_len, List.getElem?_map, Int.toNat_natCast, hci, q1, q2, q3]
      repeat (refine ⟨by first | assumption | omega | decide | (simp; done) | (simp_all; done) | (simp; omega), ?_⟩)
      refine hk25 _ _ _ ?_
      refine evF_take 1 fun K26 hk26 => ?_
      simp only [shA, if_true, if_false, ite_true, ite_false, forall_const, ite_self, eq_self, reduceIte, reduceCtorEq, Nat.reduceEqDiff, Nat.reduceAdd, Nat.reduceLeDiff, Nat.reduceSub, Int.reduceToNat, Nat.reduceBEq, Nat.reduceMul, Nat.reduceLT, Int.reduceLE, Int.reduceLT, Nat.reduceMod, List.length_map, crK_len, List.getElem?_map, Int.toNat_natCast, hci, q1, q2, q3]
      repeat (refine ⟨by first | assumption | omega | decide | (simp; done) | (simp_all; done) | (simp; omega), ?_⟩)
      refine hk26 _ _ _ ?_
      refine evF_take 1 fun K27 hk27 => ?_
      simp only [shA, if_true, if_false, ite_true, ite_false, forall_const, ite_self, eq_self, reduceIte, reduceCtorEq, Nat.reduceEqDiff, Nat.reduceAdd, Nat.reduceLeDiff, Nat.reduceSub, Int.reduceToNat, Nat.reduceBEq, Nat.reduceMul, Nat.reduceLT, Int.reduceLE, Int.reduceLT, Nat.reduceMod, List.length_map, crK_len, List.getElem?_map, Int.toNat_natCast, hci, q1, q2, q3]
      repeat (refine ⟨by first | assumption | omega | decide | (simp; done) | (simp_all; done) | (simp; omega), ?_⟩)
      refine hk27 _ _ _ ?_
      simp only [shA, if_true, if_false, ite_true, ite_false, forall_const, ite_self, eq_self, reduceIte, reduceCtorEq, Nat.reduceEqDiff, Nat.reduceAdd, Nat.reduceLeDiff, Nat.reduceSub, Int.reduceToNat, Nat.reduceBEq, Nat.reduceMul, Nat.reduceLT, Int.reduceLE, Int.reduceLT, Nat.reduceMod, List.length_map, crK_len, List.getElem?_map, Int.toNat_natCast, hci, q1, q2, q3]
      refine ⟨_, ok_r5Mix c i _ (by omega), ?_⟩
      refine hk18 _ ?_
      simp only [List.drop_succ_cons, List.drop_zero]
      refine evL_take 1 fun K28 hk28 => ?_
      simp only [shA, if_true, if_false, ite_true, ite_false, forall_const, ite_self, eq_self, reduceIte, reduceCtorEq, Nat.reduceEqDiff, Nat.reduceAdd, Nat.reduceLeDiff, Nat.reduceSub, Int.reduceToNat, Nat.reduceBEq, Nat.reduceMul, Nat.reduceLT, Int.reduceLE, Int.reduceLT, Nat.reduceMod, List.length_map, crK_len, List.getElem?_map, Int.toNat_natCast, hci, q1, q2, q3]
      repeat (refine ⟨by first | assumption | omega | decide | (simp; done) | (simp_all; done) | (simp; omega), ?_⟩)
      refine hk28 _ ?_
      refine evL_take 1 fun K29 hk29 => ?_
      simp only [shA, if_true, if_false, ite_true, ite_false, forall_const, ite_self, eq_self, reduceIte, reduceCtorEq, Nat.reduceEqDiff, Nat.reduceAdd, Nat.reduceLeDiff, Nat.reduceSub, Int.reduceToNat, Nat.reduceBEq, Nat.reduceMul, Nat.reduceLT, Int.reduceLE, Int.reduceLT, Nat.reduceMod, List.length_map, crK_len, List.getElem?_map, Int.toNat_natCast, hci, q1, q2, q3]
      repeat (refine ⟨by first | assumption | omega | decide | (simp; done) | (simp_all; done) | (simp; omega), ?_⟩)
      refine hk29 _ ?_
      simp only [shA, if_true, if_false, ite_true, ite_false, forall_const, ite_self, eq_self, reduceIte, reduceCtorEq, Nat.reduceEqDiff, Nat.reduceAdd, Nat.reduceLeDiff, Nat.reduceSub, Int.reduceToNat, Nat.reduceBEq, Nat.reduceMul, Nat.reduceLT, Int.reduceLE, Int.reduceLT, Nat.reduceMod, List.length_map, crK_len, List.getElem?_map, Int.toNat_natCast, hci, q1, q2, q3]
      repeat (refine ⟨by first | assumption | omega | decide | (simp; done) | (simp_all; done) | (simp; omega), ?_⟩)
      refine hn17 _ ?_
      refine hn16 (some ([1, 2, 5, 6], none)) _ ?_
      refine ev_ops_k fun K30 hk30 => ?_
      refine evL_take 2 fun K31 hk31 => ?_
      simp only [shA, if_true, if_false, ite_true, ite_false, forall_const, ite_self, eq_self, reduceIte, reduceCtorEq, Nat.reduceEqDiff, Nat.reduceAdd, Nat.reduceLeDiff, Nat.reduceSub, Int.reduceToNat, Nat.reduceBEq, Nat.reduceMul, Nat.reduceLT, Int.reduceLE, Int.reduceLT, Nat.reduceMod, List.length_map, crK_len, List.getElem?_map, Int.toNat_natCast, hci, q1, q2, q3]
      repeat (refine ⟨by first | assumption | omega | decide | (simp; done) | (simp_all; done) | (simp; omega), ?_⟩)
      refine hk31 _ ?_
      simp only [shA, if_true, if_false, ite_true, ite_false, forall_const, ite_self, eq_self, reduceIte, reduceCtorEq, Nat.reduceEqDiff, Nat.reduceAdd, Nat.reduceLeDiff, Nat.reduceSub, Int.reduceToNat, Nat.reduceBEq, Nat.reduceMul, Nat.reduceLT, Int.reduceLE, Int.reduceLT, Nat.reduceMod, List.length_map, crK_len, List.getElem?_map, Int.toNat_natCast, hci, q1, q2, q3]
      refine hk30 _ ?_
      refine hn12 (R.kept.length - (i + 1)) (some ([1, 2, 5, 6], some ([0, 1], 2))) _ ?_ ?_
      all_goals try simp only [St.casts, St.cast, nilS, St.put, St.newO, St.setO, delA, List.getElem?_cons_zero, List.getElem?_cons_succ, List.set_cons_zero, List.set_cons_succ, getA, Nat.reduceEqDiff, reduceCtorEq, keepT, renT, renSh, renC, renO, renOb, idxN, List.map_cons, List.map_nil, List.length_cons, List.length_nil, Nat.reduceAdd, Nat.zero_add, decide_true, St.keep, refsT, refsO, refsL, refsC, refsOk, decide_eq_true_eq, List.contains_cons, List.contains_nil, Bool.or_false, Bool.or_true, Bool.true_or, Bool.false_or, Bool.and_true, Bool.true_and, beq_self_eq_true, Nat.reduceBEq, reduceIte, Nat.blt_eq, Nat.reduceLT, decide_true, Nat.reduceLeDiff, Bool.false_eq_true, Bool.and_eq_true, and_self, true_and, and_true]
      · omega
      · refine ⟨i + 1, by omega, by omega, ?_⟩
        rw [crK_set R c i hki, List.map_set]
    · try simp only [decide_eq_true_eq, decide_eq_false_iff_not, Bool.not_eq_true', Bool.not_eq_false', Bool.not_eq_eq_eq_not, Bool.not_true, Bool.not_false, beq_iff_eq, bne_iff_ne, beq_eq_false_iff_ne, bne_eq_false_iff_eq, ne_eq, Int.not_le, Int.not_lt] at hc0
      obtain rfl : i = R.kept.length := by omega
      refine he13 0 _ ?_
      refine he12 0 _ ?_
      refine hx11 _ ?_
      refine hn8 (some ([2, 5], none)) _ ?_
      refine ev_seq_k fun K32 hn32 hr32 he32 => ?_
      refine ev_ops_k fun K33 hk33 => ?_
      refine evL_take 1 fun K34 hk34 => ?_
      simp only [shA, if_true, if_false, ite_true, ite_false, forall_const, ite_self, eq_self, reduceIte, reduceCtorEq, Nat.reduceEqDiff, Nat.reduceAdd, Nat.reduceLeDiff, Nat.reduceSub, Int.reduceToNat, Nat.reduceBEq, Nat.reduceMul, Nat.reduceLT, Int.reduceLE, Int.reduceLT, Nat.reduceMod, List.length_map, crK_len]
      repeat (refine ⟨by first | assumption | omega | decide | (simp; done) | (simp_all; done) | (simp; omega), ?_⟩)
      refine hk34 _ ?_
      refine evL_take 1 fun K35 hk35 => ?_
      simp only [shA, if_true, if_false, ite_true, ite_false, forall_const, ite_self, eq_self, reduceIte, reduceCtorEq, Nat.reduceEqDiff, Nat.reduceAdd, Nat.reduceLeDiff, Nat.reduceSub, Int.reduceToNat, Nat.reduceBEq, Nat.reduceMul, Nat.reduceLT, Int.reduceLE, Int.reduceLT, Nat.reduceMod, List.length_map, crK_len]
      refine hk35 _ ?_
      refine evL_take 1 fun K36 hk36 => ?_
      simp only [shA, if_true, if_false, ite_true, ite_false, forall_const, ite_self, eq_self, reduceIte, reduceCtorEq, Nat.reduceEqDiff, Nat.reduceAdd, Nat.reduceLeDiff, Nat.reduceSub, Int.reduceToNat, Nat.reduceBEq, Nat.reduceMul, Nat.reduceLT, Int.reduceLE, Int.reduceLT, Nat.reduceMod, List.length_map, crK_len]
      rw [crK_all]
      refine Or.inl (Or.inl ⟨_, hc, ?_⟩)
      refine hk36 _ ?_
      simp only [shA, if_true, if_false, ite_true, ite_false, forall_const, ite_self, eq_self, reduceIte, reduceCtorEq, Nat.reduceEqDiff, Nat.reduceAdd, Nat.reduceLeDiff, Nat.reduceSub, Int.reduceToNat, Nat.reduceBEq, Nat.reduceMul, Nat.reduceLT, Int.reduceLE, Int.reduceLT, Nat.reduceMod, List.length_map, crK_len]
      refine hk33 _ ?_
      refine hn32 (some ([4], none)) _ ?_
      simp only [shA, if_true, if_false, ite_true, ite_false, forall_const, ite_self, eq_self, reduceIte, reduceCtorEq, Nat.reduceEqDiff, Nat.reduceAdd, Nat.reduceLeDiff, Nat.reduceSub, Int.reduceToNat, Nat.reduceBEq, Nat.reduceMul, Nat.reduceLT, Int.reduceLE, Int.reduceLT, Nat.reduceMod, ev, fin, rv_r5Crash, List.length_map, crK_len]
end Go.Proofs.Ytlbhfpcbbembgaa
