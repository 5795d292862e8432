/-
  Layer 5 by shadows: Crash, Least.
-/
import Derived.Test.YtlbhfpcbbembgaaK5c
namespace Go.Proofs.Ytlbhfpcbbembgaa
set_option linter.unusedSimpArgs false
set_option linter.unusedVariables false
open Go.RowKit Go.Maps

theorem ok_lCrashF (c n m : Int) (hm : m ≤ 1099511627776) : Ok 50 [sI n, sI m, .fp [sI c] 0] (sI (mixF c n m)) := by
  refine ok_of_tr Try.func50 tr_lCrashF rfl ?_
  unfold evFn sc_lCrashF
  refine ev_seq_k fun K1 hn1 hr1 he1 => ?_
  refine ev_ops_k fun K2 hk2 => ?_
  simp only [shA, if_true, if_false, ite_true, ite_false, forall_const, ite_self, eq_self, reduceIte, reduceCtorEq, Nat.reduceEqDiff, Nat.reduceAdd, Nat.reduceLeDiff, Nat.reduceSub, Int.reduceToNat, Nat.reduceBEq, Nat.reduceMul, Nat.reduceLT, Int.reduceLE, Int.reduceLT, Nat.reduceMod]
  refine hk2 _ ?_
  refine hn1 (some ([0, 1, 2], none)) _ ?_
  refine ev_seq_k fun K3 hn3 hr3 he3 => ?_
  refine ev_ops_k fun K4 hk4 => ?_
  refine evL_take 1 fun K5 hk5 => ?_
  simp only [shA, if_true, if_false, ite_true, ite_false, forall_const, ite_self, eq_self, reduceIte, reduceCtorEq, Nat.reduceEqDiff, Nat.reduceAdd, Nat.reduceLeDiff, Nat.reduceSub, Int.reduceToNat, Nat.reduceBEq, Nat.reduceMul, Nat.reduceLT, Int.reduceLE, Int.reduceLT, Nat.reduceMod]
  repeat (refine ⟨by first | assumption | omega | decide | (simp; done) | (simp_all; done) | (simp; omega), ?_⟩)
  refine hk5 _ ?_
  refine evL_take 2 fun K6 hk6 => ?_
  simp only [shA, if_true, if_false, ite_true, ite_false, forall_const, ite_self, eq_self, reduceIte, reduceCtorEq, Nat.reduceEqDiff, Nat.reduceAdd, Nat.reduceLeDiff, Nat.reduceSub, Int.reduceToNat, Nat.reduceBEq, Nat.reduceMul, Nat.reduceLT, Int.reduceLE, Int.reduceLT, Nat.reduceMod]
  refine hk6 _ ?_
  refine evL_take 1 fun K7 hk7 => ?_
  simp only [shA, if_true, if_false, ite_true, ite_false, forall_const, ite_self, eq_self, reduceIte, reduceCtorEq, Nat.reduceEqDiff, Nat.reduceAdd, Nat.reduceLeDiff, Nat.reduceSub, Int.reduceToNat, Nat.reduceBEq, Nat.reduceMul, Nat.reduceLT, Int.reduceLE, Int.reduceLT, Nat.reduceMod]
  refine Or.inl (Or.inl ⟨_, ok_lMix _ _ _ hm, ?_⟩)
  refine hk7 _ ?_
  simp only [shA, if_true, if_false, ite_true, ite_false, forall_const, ite_self, eq_self, reduceIte, reduceCtorEq, Nat.reduceEqDiff, Nat.reduceAdd, Nat.reduceLeDiff, Nat.reduceSub, Int.reduceToNat, Nat.reduceBEq, Nat.reduceMul, Nat.reduceLT, Int.reduceLE, Int.reduceLT, Nat.reduceMod]
  refine hk4 _ ?_
  refine hn3 (some ([5], none)) _ ?_
  simp only [shA, if_true, if_false, ite_true, ite_false, forall_const, ite_self, eq_self, reduceIte, reduceCtorEq, Nat.reduceEqDiff, Nat.reduceAdd, Nat.reduceLeDiff, Nat.reduceSub, Int.reduceToNat, Nat.reduceBEq, Nat.reduceMul, Nat.reduceLT, Int.reduceLE, Int.reduceLT, Nat.reduceMod, ev, fin, rv_lCrashF]
theorem ok_lLeastF (n m : Int) : Ok 62 [sI n, sI m] (sI 0) := by
  refine ok_of_tr Try.func62 tr_lLeastF rfl ?_
  unfold evFn sc_lLeastF
  refine ev_seq_k fun K1 hn1 hr1 he1 => ?_
  refine ev_ops_k fun K2 hk2 => ?_
  simp only [shA, if_true, if_false, ite_true, ite_false, forall_const, ite_self, eq_self, reduceIte, reduceCtorEq, Nat.reduceEqDiff, Nat.reduceAdd, Nat.reduceLeDiff, Nat.reduceSub, Int.reduceToNat, Nat.reduceBEq, Nat.reduceMul, Nat.reduceLT, Int.reduceLE, Int.reduceLT, Nat.reduceMod]
  refine hk2 _ ?_
  refine hn1 (some ([], none)) _ ?_
  refine ev_seq_k fun K3 hn3 hr3 he3 => ?_
  refine ev_ops_k fun K4 hk4 => ?_
  simp only [shA, if_true, if_false, ite_true, ite_false, forall_const, ite_self, eq_self, reduceIte, reduceCtorEq, Nat.reduceEqDiff, Nat.reduceAdd, Nat.reduceLeDiff, Nat.reduceSub, Int.reduceToNat, Nat.reduceBEq, Nat.reduceMul, Nat.reduceLT, Int.reduceLE, Int.reduceLT, Nat.reduceMod]
  refine hk4 _ ?_
  refine hn3 (some ([4], none)) _ ?_
  simp only [shA, if_true, if_false, ite_true, ite_false, forall_const, ite_self, eq_self, reduceIte, reduceCtorEq, Nat.reduceEqDiff, Nat.reduceAdd, Nat.reduceLeDiff, Nat.reduceSub, Int.reduceToNat, Nat.reduceBEq, Nat.reduceMul, Nat.reduceLT, Int.reduceLE, Int.reduceLT, Nat.reduceMod, ev, fin, rv_lLeastF]
theorem ok_lCrash (L : LinesM) (c : Int) (hL : LinesOk L) (hlen : ∀ y ∈ L.logs, y.stores.length ≤ 1000) : Ok 31 [eLines L, sI c] (.sl 3 0 ((leftM L (mixF c)).map eWord)) := by
  refine ok_of_tr Try.func31 tr_lCrash rfl ?_
  unfold evFn sc_lCrash
  refine ev_seq_k fun K1 hn1 hr1 he1 => ?_
  refine ev_ops_k fun K2 hk2 => ?_
  simp only [shA, if_true, if_false, ite_true, ite_false, forall_const, ite_self, eq_self, reduceIte, reduceCtorEq, Nat.reduceEqDiff, Nat.reduceAdd, Nat.reduceLeDiff, Nat.reduceSub, Int.reduceToNat, Nat.reduceBEq, Nat.reduceMul, Nat.reduceLT, Int.reduceLE, Int.reduceLT, Nat.reduceMod]
  refine hk2 _ ?_
  refine hn1 (some ([2, 3], none)) _ ?_
  refine ev_seq_k fun K3 hn3 hr3 he3 => ?_
  refine ev_ops_k fun K4 hk4 => ?_
  refine evL_take 1 fun K5 hk5 => ?_
  simp only [shA, if_true, if_false, ite_true, ite_false, forall_const, ite_self, eq_self, reduceIte, reduceCtorEq, Nat.reduceEqDiff, Nat.reduceAdd, Nat.reduceLeDiff, Nat.reduceSub, Int.reduceToNat, Nat.reduceBEq, Nat.reduceMul, Nat.reduceLT, Int.reduceLE, Int.reduceLT, Nat.reduceMod]
  repeat (refine ⟨by first | assumption | omega | decide | (simp; done) | (simp_all; done) | (simp; omega), ?_⟩)
  refine hk5 _ ?_
  refine evL_take 1 fun K6 hk6 => ?_
  simp only [shA, if_true, if_false, ite_true, ite_false, forall_const, ite_self, eq_self, reduceIte, reduceCtorEq, Nat.reduceEqDiff, Nat.reduceAdd, Nat.reduceLeDiff, Nat.reduceSub, Int.reduceToNat, Nat.reduceBEq, Nat.reduceMul, Nat.reduceLT, Int.reduceLE, Int.reduceLT, Nat.reduceMod]
  refine hk6 _ ?_
  refine evL_take 1 fun K7 hk7 => ?_
  simp only [shA, if_true, if_false, ite_true, ite_false, forall_const, ite_self, eq_self, reduceIte, reduceCtorEq, Nat.reduceEqDiff, Nat.reduceAdd, Nat.reduceLeDiff, Nat.reduceSub, Int.reduceToNat, Nat.reduceBEq, Nat.reduceMul, Nat.reduceLT, Int.reduceLE, Int.reduceLT, Nat.reduceMod]
  refine Or.inl (Or.inl ⟨_, ok_lLeft L (mixF c) 50 [.fp [sI c] 0] hL hlen (callFunc_enter Try.func50 rfl rfl) (fun n m _ _ _ _ => ok_lCrashF c n m (by omega)) (fun n m _ _ _ _ => by have := mixF_le c n m; omega), ?_⟩)
  refine hk7 _ ?_
  simp only [shA, if_true, if_false, ite_true, ite_false, forall_const, ite_self, eq_self, reduceIte, reduceCtorEq, Nat.reduceEqDiff, Nat.reduceAdd, Nat.reduceLeDiff, Nat.reduceSub, Int.reduceToNat, Nat.reduceBEq, Nat.reduceMul, Nat.reduceLT, Int.reduceLE, Int.reduceLT, Nat.reduceMod]
  refine hk4 _ ?_
  refine hn3 (some ([4], none)) _ ?_
  simp only [shA, if_true, if_false, ite_true, ite_false, forall_const, ite_self, eq_self, reduceIte, reduceCtorEq, Nat.reduceEqDiff, Nat.reduceAdd, Nat.reduceLeDiff, Nat.reduceSub, Int.reduceToNat, Nat.reduceBEq, Nat.reduceMul, Nat.reduceLT, Int.reduceLE, Int.reduceLT, Nat.reduceMod, ev, fin, rv_lCrash]
theorem ok_lLeast (L : LinesM) (hL : LinesOk L) (hlen : ∀ y ∈ L.logs, y.stores.length ≤ 1000) : Ok 54 [eLines L] (.sl 3 0 ((leftM L fun _ _ => 0).map eWord)) := by
  refine ok_of_tr Try.func54 tr_lLeast rfl ?_
  unfold evFn sc_lLeast
  refine ev_seq_k fun K1 hn1 hr1 he1 => ?_
  refine ev_ops_k fun K2 hk2 => ?_
  simp only [shA, if_true, if_false, ite_true, ite_false, forall_const, ite_self, eq_self, reduceIte, reduceCtorEq, Nat.reduceEqDiff, Nat.reduceAdd, Nat.reduceLeDiff, Nat.reduceSub, Int.reduceToNat, Nat.reduceBEq, Nat.reduceMul, Nat.reduceLT, Int.reduceLE, Int.reduceLT, Nat.reduceMod]
  refine hk2 _ ?_
  refine hn1 (some ([1], none)) _ ?_
  refine ev_seq_k fun K3 hn3 hr3 he3 => ?_
  refine ev_ops_k fun K4 hk4 => ?_
  refine evL_take 1 fun K5 hk5 => ?_
  simp only [shA, if_true, if_false, ite_true, ite_false, forall_const, ite_self, eq_self, reduceIte, reduceCtorEq, Nat.reduceEqDiff, Nat.reduceAdd, Nat.reduceLeDiff, Nat.reduceSub, Int.reduceToNat, Nat.reduceBEq, Nat.reduceMul, Nat.reduceLT, Int.reduceLE, Int.reduceLT, Nat.reduceMod]
  repeat (refine ⟨by first | assumption | omega | decide | (simp; done) | (simp_all; done) | (simp; omega), ?_⟩)
  refine hk5 _ ?_
  refine evL_take 1 fun K6 hk6 => ?_
  simp only [shA, if_true, if_false, ite_true, ite_false, forall_const, ite_self, eq_self, reduceIte, reduceCtorEq, Nat.reduceEqDiff, Nat.reduceAdd, Nat.reduceLeDiff, Nat.reduceSub, Int.reduceToNat, Nat.reduceBEq, Nat.reduceMul, Nat.reduceLT, Int.reduceLE, Int.reduceLT, Nat.reduceMod]
  refine Or.inl (Or.inl ⟨_, ok_lLeft L (fun _ _ => 0) 62 [] hL hlen (callFunc_enter Try.func62 rfl rfl) (fun n m _ _ _ _ => ok_lLeastF n m) (fun n m _ _ _ _ => by omega), ?_⟩)
  refine hk6 _ ?_
  simp only [shA, if_true, if_false, ite_true, ite_false, forall_const, ite_self, eq_self, reduceIte, reduceCtorEq, Nat.reduceEqDiff, Nat.reduceAdd, Nat.reduceLeDiff, Nat.reduceSub, Int.reduceToNat, Nat.reduceBEq, Nat.reduceMul, Nat.reduceLT, Int.reduceLE, Int.reduceLT, Nat.reduceMod]
  refine hk4 _ ?_
  refine hn3 (some ([2], none)) _ ?_
  simp only [shA, if_true, if_false, ite_true, ite_false, forall_const, ite_self, eq_self, reduceIte, reduceCtorEq, Nat.reduceEqDiff, Nat.reduceAdd, Nat.reduceLeDiff, Nat.reduceSub, Int.reduceToNat, Nat.reduceBEq, Nat.reduceMul, Nat.reduceLT, Int.reduceLE, Int.reduceLT, Nat.reduceMod, ev, fin, rv_lLeast]
end Go.Proofs.Ytlbhfpcbbembgaa
