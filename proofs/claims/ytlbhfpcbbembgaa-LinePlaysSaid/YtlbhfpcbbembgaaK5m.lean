/-
  Layer 5 by shadows: an operation of the laws.
-/
import Derived.Test.YtlbhfpcbbembgaaK5h
namespace Go.Proofs.Ytlbhfpcbbembgaa
set_option linter.unusedSimpArgs false
set_option linter.unusedVariables false
open Go.RowKit Go.Maps

structure ActV where
  kind : Int
  thread : Int
  place : Int
  word : WordV
abbrev eAct (a : ActV) : List Sh := [.v (.int .u8 a.kind), sI a.thread, sI a.place, sI a.word.val, sU a.word.ver, sU a.word.ref]
def doneM (L : LinesM) (a : ActV) : LinesM × Int :=
  if a.kind % 3 = 0 then (if 0 ≤ a.place ∧ a.place < (L.first.length : Int) then (storeM L a.place a.word, 0) else (L, 1))
  else if a.kind % 3 = 1 then (if ¬ (1 ≤ a.thread ∧ a.thread ≤ 8) then (L, 3) else if ¬ (0 ≤ a.place ∧ a.place < (L.first.length : Int)) then (L, 1) else (flushM L a.thread a.place, 0))
  else (if 1 ≤ a.thread ∧ a.thread ≤ 8 then (syncM L a.thread, 0) else (L, 3))
theorem flush_first (L : LinesM) (t a : Int) : (flushM L t a).logs = L.logs ∧ (flushM L t a).first = L.first := by
  unfold flushM; split <;> exact ⟨rfl, rfl⟩
theorem done_good {L : LinesM} {n : Nat} (h : LGood L n) (a : ActV) : LGood (doneM L a).1 (n + 1) ∧ (doneM L a).1.first = L.first := by
  have h1 : LGood L (n + 1) := ⟨h.lines, h.asks, fun y hy => by have := h.most y hy; omega⟩
  unfold doneM
  split
  · split
    · rename_i hp; exact ⟨good_store h _ _ hp.1 hp.2, rfl⟩
    · exact ⟨h1, rfl⟩
  · split
    · split
      · exact ⟨h1, rfl⟩
      · split
        · exact ⟨h1, rfl⟩
        · rename_i ht hp; exact ⟨good_flush h1 _ _ (Decidable.not_not.1 ht), (flush_first _ _ _).2⟩
    · split
      · exact ⟨good_sync h1 _, rfl⟩
      · exact ⟨h1, rfl⟩

theorem ok_l5done (L : LinesM) (n : Nat) (a : ActV) (h : LGood L n) (hn : n ≤ 1000) (hk : 0 ≤ a.kind ∧ a.kind ≤ 255) : Ok 33 [eLines L, .agg (eAct a)] (.tup [eLines (doneM L a).1, sI (doneM L a).2]) := by
  have hr : a.kind.tmod 3 = a.kind % 3 := Int.tmod_eq_emod_of_nonneg hk.1
  have k5 : ∀ y ∈ L.logs, y.stores.length ≤ 1000 := fun y hy => Nat.le_trans (h.most y hy) hn
  refine ok_of_tr Try.func33 tr_l5done rfl ?_
  unfold doneM
  by_cases h0 : a.kind % 3 = 0
  · rw [if_pos h0]
    have hc : Ok 28 [eLines L, sI a.place, .agg (eWord a.word)] (.tup [eLines (if 0 ≤ a.place ∧ a.place < (L.first.length : Int) then (storeM L a.place a.word, (0 : Int)) else (L, 1)).1, sI (if 0 ≤ a.place ∧ a.place < (L.first.length : Int) then (storeM L a.place a.word, (0 : Int)) else (L, 1)).2]) := by
      by_cases hp : 0 ≤ a.place ∧ a.place < (L.first.length : Int)
      · rw [if_pos hp]; exact ok_lStore L _ _ hp.1 hp.2 h.lines.many h.lines.most k5
      · rw [if_neg hp]; exact ok_lStore_bad L _ _ hp
    generalize (if 0 ≤ a.place ∧ a.place < (L.first.length : Int) then (storeM L a.place a.word, (0 : Int)) else (L, 1)) = R at hc
    unfold evFn sc_l5done
    refine ev_seq_k fun K1 hn1 hr1 he1 => ?_
    refine ev_ops_k fun K2 hk2 => ?_
    simp only [shA, if_true, if_false, ite_true, ite_false, forall_const, ite_self, eq_self, reduceIte, reduceCtorEq, Nat.reduceEqDiff, Nat.reduceAdd, Nat.reduceLeDiff, Nat.reduceSub, Int.reduceToNat, Nat.reduceBEq, Nat.reduceMul, Nat.reduceLT, Int.reduceLE, Int.reduceLT, Nat.reduceMod, hr, h0, beq_self_eq_true]
    refine hk2 _ ?_
    refine hn1 (some ([2, 3, 4], none)) _ ?_
    refine ev_seq_k fun K3 hn3 hr3 he3 => ?_
    refine ev_seq_k fun K4 hn4 hr4 he4 => ?_
    refine ev_ops_k fun K5 hk5 => ?_
    refine evL_take 2 fun K6 hk6 => ?_
    simp only [shA, if_true, if_false, ite_true, ite_false, forall_const, ite_self, eq_self, reduceIte, reduceCtorEq, Nat.reduceEqDiff, Nat.reduceAdd, Nat.reduceLeDiff, Nat.reduceSub, Int.reduceToNat, Nat.reduceBEq, Nat.reduceMul, Nat.reduceLT, Int.reduceLE, Int.reduceLT, Nat.reduceMod, hr, h0, beq_self_eq_true]
    repeat (refine ⟨by first | assumption | omega | decide | (simp; done) | (simp_all; done) | (simp; omega), ?_⟩)
    refine hk6 _ ?_
    simp only [shA, if_true, if_false, ite_true, ite_false, forall_const, ite_self, eq_self, reduceIte, reduceCtorEq, Nat.reduceEqDiff, Nat.reduceAdd, Nat.reduceLeDiff, Nat.reduceSub, Int.reduceToNat, Nat.reduceBEq, Nat.reduceMul, Nat.reduceLT, Int.reduceLE, Int.reduceLT, Nat.reduceMod, hr, h0, beq_self_eq_true]
    repeat (refine ⟨by first | assumption | omega | decide | (simp; done) | (simp_all; done) | (simp; omega), ?_⟩)
    refine hk5 _ ?_
    refine hn4 (some ([2, 3, 4, 8], none)) _ ?_
    refine ev_block_k fun K7 hn7 hx7 hr7 he7 => ?_
    refine ev_seq_k fun K8 hn8 hr8 he8 => ?_
    refine ev_ops_k fun K9 hk9 => ?_
    refine evL_take 1 fun K10 hk10 => ?_
    simp only [shA, if_true, if_false, ite_true, ite_false, forall_const, ite_self, eq_self, reduceIte, reduceCtorEq, Nat.reduceEqDiff, Nat.reduceAdd, Nat.reduceLeDiff, Nat.reduceSub, Int.reduceToNat, Nat.reduceBEq, Nat.reduceMul, Nat.reduceLT, Int.reduceLE, Int.reduceLT, Nat.reduceMod, hr, h0, beq_self_eq_true]
    repeat (refine ⟨by first | assumption | omega | decide | (simp; done) | (simp_all; done) | (simp; omega), ?_⟩)
    refine hk10 _ ?_
    simp only [shA, if_true, if_false, ite_true, ite_false, forall_const, ite_self, eq_self, reduceIte, reduceCtorEq, Nat.reduceEqDiff, Nat.reduceAdd, Nat.reduceLeDiff, Nat.reduceSub, Int.reduceToNat, Nat.reduceBEq, Nat.reduceMul, Nat.reduceLT, Int.reduceLE, Int.reduceLT, Nat.reduceMod, hr, h0, beq_self_eq_true]
    refine hk9 _ ?_
    refine hn8 (some ([2, 3, 4, 8, 9], none)) _ ?_
    refine ev_cond_k rfl (fun hc0 => ?_) (fun hx => absurd hx (by simp at hx))
    clear hc0
    refine ev_seq_k fun K11 hn11 hr11 he11 => ?_
    refine ev_ops_k fun K12 hk12 => ?_
    refine evL_take 1 fun K13 hk13 => ?_
    simp only [shA, if_true, if_false, ite_true, ite_false, forall_const, ite_self, eq_self, reduceIte, reduceCtorEq, Nat.reduceEqDiff, Nat.reduceAdd, Nat.reduceLeDiff, Nat.reduceSub, Int.reduceToNat, Nat.reduceBEq, Nat.reduceMul, Nat.reduceLT, Int.reduceLE, Int.reduceLT, Nat.reduceMod, hr, h0, beq_self_eq_true]
    repeat (refine ⟨by first | assumption | omega | decide | (simp; done) | (simp_all; done) | (simp; omega), ?_⟩)
    refine hk13 _ ?_
    refine evL_take 2 fun K14 hk14 => ?_
    simp only [shA, if_true, if_false, ite_true, ite_false, forall_const, ite_self, eq_self, reduceIte, reduceCtorEq, Nat.reduceEqDiff, Nat.reduceAdd, Nat.reduceLeDiff, Nat.reduceSub, Int.reduceToNat, Nat.reduceBEq, Nat.reduceMul, Nat.reduceLT, Int.reduceLE, Int.reduceLT, Nat.reduceMod, hr, h0, beq_self_eq_true]
    repeat (refine ⟨by first | assumption | omega | decide | (simp; done) | (simp_all; done) | (simp; omega), ?_⟩)
    refine hk14 _ ?_
    refine evL_take 2 fun K15 hk15 => ?_
    simp only [shA, if_true, if_false, ite_true, ite_false, forall_const, ite_self, eq_self, reduceIte, reduceCtorEq, Nat.reduceEqDiff, Nat.reduceAdd, Nat.reduceLeDiff, Nat.reduceSub, Int.reduceToNat, Nat.reduceBEq, Nat.reduceMul, Nat.reduceLT, Int.reduceLE, Int.reduceLT, Nat.reduceMod, hr, h0, beq_self_eq_true]
    repeat (refine ⟨by first | assumption | omega | decide | (simp; done) | (simp_all; done) | (simp; omega), ?_⟩)
    refine hk15 _ ?_
    refine evL_take 1 fun K16 hk16 => ?_
    simp only [shA, if_true, if_false, ite_true, ite_false, forall_const, ite_self, eq_self, reduceIte, reduceCtorEq, Nat.reduceEqDiff, Nat.reduceAdd, Nat.reduceLeDiff, Nat.reduceSub, Int.reduceToNat, Nat.reduceBEq, Nat.reduceMul, Nat.reduceLT, Int.reduceLE, Int.reduceLT, Nat.reduceMod, hr, h0, beq_self_eq_true]
    refine Or.inl (Or.inl ⟨_, hc, ?_⟩)
    refine hk16 _ ?_
    refine evL_take 3 fun K17 hk17 => ?_
    simp only [shA, if_true, if_false, ite_true, ite_false, forall_const, ite_self, eq_self, reduceIte, reduceCtorEq, Nat.reduceEqDiff, Nat.reduceAdd, Nat.reduceLeDiff, Nat.reduceSub, Int.reduceToNat, Nat.reduceBEq, Nat.reduceMul, Nat.reduceLT, Int.reduceLE, Int.reduceLT, Nat.reduceMod, hr, h0, beq_self_eq_true]
    repeat (refine ⟨by first | assumption | omega | decide | (simp; done) | (simp_all; done) | (simp; omega), ?_⟩)
    refine hk17 _ ?_
    simp only [shA, if_true, if_false, ite_true, ite_false, forall_const, ite_self, eq_self, reduceIte, reduceCtorEq, Nat.reduceEqDiff, Nat.reduceAdd, Nat.reduceLeDiff, Nat.reduceSub, Int.reduceToNat, Nat.reduceBEq, Nat.reduceMul, Nat.reduceLT, Int.reduceLE, Int.reduceLT, Nat.reduceMod, hr, h0, beq_self_eq_true]
    refine hk12 _ ?_
    refine hn11 (some ([4, 5], none)) _ ?_
    refine hr7 _ ?_
    refine hr3 _ ?_
    simp only [shA, if_true, if_false, ite_true, ite_false, forall_const, ite_self, eq_self, reduceIte, reduceCtorEq, Nat.reduceEqDiff, Nat.reduceAdd, Nat.reduceLeDiff, Nat.reduceSub, Int.reduceToNat, Nat.reduceBEq, Nat.reduceMul, Nat.reduceLT, Int.reduceLE, Int.reduceLT, Nat.reduceMod, ev, fin, rv_l5done, hr, h0, beq_self_eq_true]
  · rw [if_neg h0]
    by_cases h1 : a.kind % 3 = 1
    · rw [if_pos h1]
      have hc : Ok 29 [eLines L, sI a.thread, sI a.place] (.tup [eLines (if ¬ (1 ≤ a.thread ∧ a.thread ≤ 8) then (L, (3 : Int)) else if ¬ (0 ≤ a.place ∧ a.place < (L.first.length : Int)) then (L, 1) else (flushM L a.thread a.place, 0)).1, sI (if ¬ (1 ≤ a.thread ∧ a.thread ≤ 8) then (L, (3 : Int)) else if ¬ (0 ≤ a.place ∧ a.place < (L.first.length : Int)) then (L, 1) else (flushM L a.thread a.place, 0)).2]) := by
        by_cases ht : 1 ≤ a.thread ∧ a.thread ≤ 8
        · rw [if_neg (Decidable.not_not.2 ht)]
          by_cases hp : 0 ≤ a.place ∧ a.place < (L.first.length : Int)
          · rw [if_neg (Decidable.not_not.2 hp)]; exact ok_lFlush L _ _ h.lines h.asks ht hp
          · rw [if_pos hp]; exact ok_lFlush_place L _ _ ht hp
        · rw [if_pos ht]; exact ok_lFlush_thread L _ _ ht
      generalize (if ¬ (1 ≤ a.thread ∧ a.thread ≤ 8) then (L, (3 : Int)) else if ¬ (0 ≤ a.place ∧ a.place < (L.first.length : Int)) then (L, 1) else (flushM L a.thread a.place, 0)) = R at hc
      unfold evFn sc_l5done
      refine ev_seq_k fun K1 hn1 hr1 he1 => ?_
      refine ev_ops_k fun K2 hk2 => ?_
      simp only [shA, if_true, if_false, ite_true, ite_false, forall_const, ite_self, eq_self, reduceIte, reduceCtorEq, Nat.reduceEqDiff, Nat.reduceAdd, Nat.reduceLeDiff, Nat.reduceSub, Int.reduceToNat, Nat.reduceBEq, Nat.reduceMul, Nat.reduceLT, Int.reduceLE, Int.reduceLT, Nat.reduceMod, hr, h1, Int.reduceBEq]
      refine hk2 _ ?_
      refine hn1 (some ([2, 3, 4], none)) _ ?_
      refine ev_seq_k fun K3 hn3 hr3 he3 => ?_
      refine ev_seq_k fun K4 hn4 hr4 he4 => ?_
      refine ev_ops_k fun K5 hk5 => ?_
      refine evL_take 2 fun K6 hk6 => ?_
      simp only [shA, if_true, if_false, ite_true, ite_false, forall_const, ite_self, eq_self, reduceIte, reduceCtorEq, Nat.reduceEqDiff, Nat.reduceAdd, Nat.reduceLeDiff, Nat.reduceSub, Int.reduceToNat, Nat.reduceBEq, Nat.reduceMul, Nat.reduceLT, Int.reduceLE, Int.reduceLT, Nat.reduceMod, hr, h1, Int.reduceBEq]
      repeat (refine ⟨by first | assumption | omega | decide | (simp; done) | (simp_all; done) | (simp; omega), ?_⟩)
      refine hk6 _ ?_
      simp only [shA, if_true, if_false, ite_true, ite_false, forall_const, ite_self, eq_self, reduceIte, reduceCtorEq, Nat.reduceEqDiff, Nat.reduceAdd, Nat.reduceLeDiff, Nat.reduceSub, Int.reduceToNat, Nat.reduceBEq, Nat.reduceMul, Nat.reduceLT, Int.reduceLE, Int.reduceLT, Nat.reduceMod, hr, h1, Int.reduceBEq]
      repeat (refine ⟨by first | assumption | omega | decide | (simp; done) | (simp_all; done) | (simp; omega), ?_⟩)
      refine hk5 _ ?_
      refine hn4 (some ([2, 3, 4, 8], none)) _ ?_
      refine ev_block_k fun K7 hn7 hx7 hr7 he7 => ?_
      refine ev_seq_k fun K8 hn8 hr8 he8 => ?_
      refine ev_ops_k fun K9 hk9 => ?_
      refine evL_take 1 fun K10 hk10 => ?_
      simp only [shA, if_true, if_false, ite_true, ite_false, forall_const, ite_self, eq_self, reduceIte, reduceCtorEq, Nat.reduceEqDiff, Nat.reduceAdd, Nat.reduceLeDiff, Nat.reduceSub, Int.reduceToNat, Nat.reduceBEq, Nat.reduceMul, Nat.reduceLT, Int.reduceLE, Int.reduceLT, Nat.reduceMod, hr, h1, Int.reduceBEq]
      repeat (refine ⟨by first | assumption | omega | decide | (simp; done) | (simp_all; done) | (simp; omega), ?_⟩)
      refine hk10 _ ?_
      simp only [shA, if_true, if_false, ite_true, ite_false, forall_const, ite_self, eq_self, reduceIte, reduceCtorEq, Nat.reduceEqDiff, Nat.reduceAdd, Nat.reduceLeDiff, Nat.reduceSub, Int.reduceToNat, Nat.reduceBEq, Nat.reduceMul, Nat.reduceLT, Int.reduceLE, Int.reduceLT, Nat.reduceMod, hr, h1, Int.reduceBEq]
      refine hk9 _ ?_
      refine hn8 (some ([2, 3, 4, 8, 9], none)) _ ?_
      refine ev_cond_k rfl (fun hx => absurd hx (by simp at hx)) (fun hc0 => ?_)
      clear hc0
      refine ev_seq_k fun K11 hn11 hr11 he11 => ?_
      refine ev_ops_k fun K12 hk12 => ?_
      refine evL_take 1 fun K13 hk13 => ?_
      simp only [shA, if_true, if_false, ite_true, ite_false, forall_const, ite_self, eq_self, reduceIte, reduceCtorEq, Nat.reduceEqDiff, Nat.reduceAdd, Nat.reduceLeDiff, Nat.reduceSub, Int.reduceToNat, Nat.reduceBEq, Nat.reduceMul, Nat.reduceLT, Int.reduceLE, Int.reduceLT, Nat.reduceMod, hr, h1, Int.reduceBEq]
      repeat (refine ⟨by first | assumption | omega | decide | (simp; done) | (simp_all; done) | (simp; omega), ?_⟩)
      refine hk13 _ ?_
      simp only [shA, if_true, if_false, ite_true, ite_false, forall_const, ite_self, eq_self, reduceIte, reduceCtorEq, Nat.reduceEqDiff, Nat.reduceAdd, Nat.reduceLeDiff, Nat.reduceSub, Int.reduceToNat, Nat.reduceBEq, Nat.reduceMul, Nat.reduceLT, Int.reduceLE, Int.reduceLT, Nat.reduceMod, hr, h1, Int.reduceBEq]
      refine hk12 _ ?_
      refine hn11 (some ([2, 3, 4, 19], none)) _ ?_
      refine ev_cond_k rfl (fun hc1 => ?_) (fun hx => absurd hx (by simp at hx))
      clear hc1
      refine ev_seq_k fun K14 hn14 hr14 he14 => ?_
      refine ev_ops_k fun K15 hk15 => ?_
      refine evL_take 1 fun K16 hk16 => ?_
      simp only [shA, if_true, if_false, ite_true, ite_false, forall_const, ite_self, eq_self, reduceIte, reduceCtorEq, Nat.reduceEqDiff, Nat.reduceAdd, Nat.reduceLeDiff, Nat.reduceSub, Int.reduceToNat, Nat.reduceBEq, Nat.reduceMul, Nat.reduceLT, Int.reduceLE, Int.reduceLT, Nat.reduceMod, hr, h1, Int.reduceBEq]
      repeat (refine ⟨by first | assumption | omega | decide | (simp; done) | (simp_all; done) | (simp; omega), ?_⟩)
      refine hk16 _ ?_
      refine evL_take 2 fun K17 hk17 => ?_
      simp only [shA, if_true, if_false, ite_true, ite_false, forall_const, ite_self, eq_self, reduceIte, reduceCtorEq, Nat.reduceEqDiff, Nat.reduceAdd, Nat.reduceLeDiff, Nat.reduceSub, Int.reduceToNat, Nat.reduceBEq, Nat.reduceMul, Nat.reduceLT, Int.reduceLE, Int.reduceLT, Nat.reduceMod, hr, h1, Int.reduceBEq]
      repeat (refine ⟨by first | assumption | omega | decide | (simp; done) | (simp_all; done) | (simp; omega), ?_⟩)
      refine hk17 _ ?_
      refine evL_take 2 fun K18 hk18 => ?_
      simp only [shA, if_true, if_false, ite_true, ite_false, forall_const, ite_self, eq_self, reduceIte, reduceCtorEq, Nat.reduceEqDiff, Nat.reduceAdd, Nat.reduceLeDiff, Nat.reduceSub, Int.reduceToNat, Nat.reduceBEq, Nat.reduceMul, Nat.reduceLT, Int.reduceLE, Int.reduceLT, Nat.reduceMod, hr, h1, Int.reduceBEq]
      repeat (refine ⟨by first | assumption | omega | decide | (simp; done) | (simp_all; done) | (simp; omega), ?_⟩)
      refine hk18 _ ?_
      refine evL_take 1 fun K19 hk19 => ?_
      simp only [shA, if_true, if_false, ite_true, ite_false, forall_const, ite_self, eq_self, reduceIte, reduceCtorEq, Nat.reduceEqDiff, Nat.reduceAdd, Nat.reduceLeDiff, Nat.reduceSub, Int.reduceToNat, Nat.reduceBEq, Nat.reduceMul, Nat.reduceLT, Int.reduceLE, Int.reduceLT, Nat.reduceMod, hr, h1, Int.reduceBEq]
      refine Or.inl (Or.inl ⟨_, hc, ?_⟩)
      refine hk19 _ ?_
      refine evL_take 3 fun K20 hk20 => ?_
      simp only [shA, if_true, if_false, ite_true, ite_false, forall_const, ite_self, eq_self, reduceIte, reduceCtorEq, Nat.reduceEqDiff, Nat.reduceAdd, Nat.reduceLeDiff, Nat.reduceSub, Int.reduceToNat, Nat.reduceBEq, Nat.reduceMul, Nat.reduceLT, Int.reduceLE, Int.reduceLT, Nat.reduceMod, hr, h1, Int.reduceBEq]
      repeat (refine ⟨by first | assumption | omega | decide | (simp; done) | (simp_all; done) | (simp; omega), ?_⟩)
      refine hk20 _ ?_
      simp only [shA, if_true, if_false, ite_true, ite_false, forall_const, ite_self, eq_self, reduceIte, reduceCtorEq, Nat.reduceEqDiff, Nat.reduceAdd, Nat.reduceLeDiff, Nat.reduceSub, Int.reduceToNat, Nat.reduceBEq, Nat.reduceMul, Nat.reduceLT, Int.reduceLE, Int.reduceLT, Nat.reduceMod, hr, h1, Int.reduceBEq]
      refine hk15 _ ?_
      refine hn14 (some ([4, 5], none)) _ ?_
      refine hr7 _ ?_
      refine hr3 _ ?_
      simp only [shA, if_true, if_false, ite_true, ite_false, forall_const, ite_self, eq_self, reduceIte, reduceCtorEq, Nat.reduceEqDiff, Nat.reduceAdd, Nat.reduceLeDiff, Nat.reduceSub, Int.reduceToNat, Nat.reduceBEq, Nat.reduceMul, Nat.reduceLT, Int.reduceLE, Int.reduceLT, Nat.reduceMod, ev, fin, rv_l5done, hr, h1, Int.reduceBEq]
    · rw [if_neg h1]
      have h2 : a.kind % 3 = 2 := by omega
      have hc : Ok 30 [eLines L, sI a.thread] (.tup [eLines (if 1 ≤ a.thread ∧ a.thread ≤ 8 then (syncM L a.thread, (0 : Int)) else (L, 3)).1, sI (if 1 ≤ a.thread ∧ a.thread ≤ 8 then (syncM L a.thread, (0 : Int)) else (L, 3)).2]) := by
        by_cases ht : 1 ≤ a.thread ∧ a.thread ≤ 8
        · rw [if_pos ht]; exact ok_lSync L _ h.lines h.asks ht
        · rw [if_neg ht]; exact ok_lSync_thread L _ ht
      generalize (if 1 ≤ a.thread ∧ a.thread ≤ 8 then (syncM L a.thread, (0 : Int)) else (L, 3)) = R at hc
      unfold evFn sc_l5done
      refine ev_seq_k fun K1 hn1 hr1 he1 => ?_
      refine ev_ops_k fun K2 hk2 => ?_
      simp only [shA, if_true, if_false, ite_true, ite_false, forall_const, ite_self, eq_self, reduceIte, reduceCtorEq, Nat.reduceEqDiff, Nat.reduceAdd, Nat.reduceLeDiff, Nat.reduceSub, Int.reduceToNat, Nat.reduceBEq, Nat.reduceMul, Nat.reduceLT, Int.reduceLE, Int.reduceLT, Nat.reduceMod, hr, h2, Int.reduceBEq]
      refine hk2 _ ?_
      refine hn1 (some ([2, 3, 4], none)) _ ?_
      refine ev_seq_k fun K3 hn3 hr3 he3 => ?_
      refine ev_seq_k fun K4 hn4 hr4 he4 => ?_
      refine ev_ops_k fun K5 hk5 => ?_
      refine evL_take 2 fun K6 hk6 => ?_
      simp only [shA, if_true, if_false, ite_true, ite_false, forall_const, ite_self, eq_self, reduceIte, reduceCtorEq, Nat.reduceEqDiff, Nat.reduceAdd, Nat.reduceLeDiff, Nat.reduceSub, Int.reduceToNat, Nat.reduceBEq, Nat.reduceMul, Nat.reduceLT, Int.reduceLE, Int.reduceLT, Nat.reduceMod, hr, h2, Int.reduceBEq]
      repeat (refine ⟨by first | assumption | omega | decide | (simp; done) | (simp_all; done) | (simp; omega), ?_⟩)
      refine hk6 _ ?_
      simp only [shA, if_true, if_false, ite_true, ite_false, forall_const, ite_self, eq_self, reduceIte, reduceCtorEq, Nat.reduceEqDiff, Nat.reduceAdd, Nat.reduceLeDiff, Nat.reduceSub, Int.reduceToNat, Nat.reduceBEq, Nat.reduceMul, Nat.reduceLT, Int.reduceLE, Int.reduceLT, Nat.reduceMod, hr, h2, Int.reduceBEq]
      repeat (refine ⟨by first | assumption | omega | decide | (simp; done) | (simp_all; done) | (simp; omega), ?_⟩)
      refine hk5 _ ?_
      refine hn4 (some ([2, 3, 4, 8], none)) _ ?_
      refine ev_block_k fun K7 hn7 hx7 hr7 he7 => ?_
      refine ev_seq_k fun K8 hn8 hr8 he8 => ?_
      refine ev_ops_k fun K9 hk9 => ?_
      refine evL_take 1 fun K10 hk10 => ?_
      simp only [shA, if_true, if_false, ite_true, ite_false, forall_const, ite_self, eq_self, reduceIte, reduceCtorEq, Nat.reduceEqDiff, Nat.reduceAdd, Nat.reduceLeDiff, Nat.reduceSub, Int.reduceToNat, Nat.reduceBEq, Nat.reduceMul, Nat.reduceLT, Int.reduceLE, Int.reduceLT, Nat.reduceMod, hr, h2, Int.reduceBEq]
      repeat (refine ⟨by first | assumption | omega | decide | (simp; done) | (simp_all; done) | (simp; omega), ?_⟩)
      refine hk10 _ ?_
      simp only [shA, if_true, if_false, ite_true, ite_false, forall_const, ite_self, eq_self, reduceIte, reduceCtorEq, Nat.reduceEqDiff, Nat.reduceAdd, Nat.reduceLeDiff, Nat.reduceSub, Int.reduceToNat, Nat.reduceBEq, Nat.reduceMul, Nat.reduceLT, Int.reduceLE, Int.reduceLT, Nat.reduceMod, hr, h2, Int.reduceBEq]
      refine hk9 _ ?_
      refine hn8 (some ([2, 3, 4, 8, 9], none)) _ ?_
      refine ev_cond_k rfl (fun hx => absurd hx (by simp at hx)) (fun hc0 => ?_)
      clear hc0
      refine ev_seq_k fun K11 hn11 hr11 he11 => ?_
      refine ev_ops_k fun K12 hk12 => ?_
      refine evL_take 1 fun K13 hk13 => ?_
      simp only [shA, if_true, if_false, ite_true, ite_false, forall_const, ite_self, eq_self, reduceIte, reduceCtorEq, Nat.reduceEqDiff, Nat.reduceAdd, Nat.reduceLeDiff, Nat.reduceSub, Int.reduceToNat, Nat.reduceBEq, Nat.reduceMul, Nat.reduceLT, Int.reduceLE, Int.reduceLT, Nat.reduceMod, hr, h2, Int.reduceBEq]
      repeat (refine ⟨by first | assumption | omega | decide | (simp; done) | (simp_all; done) | (simp; omega), ?_⟩)
      refine hk13 _ ?_
      simp only [shA, if_true, if_false, ite_true, ite_false, forall_const, ite_self, eq_self, reduceIte, reduceCtorEq, Nat.reduceEqDiff, Nat.reduceAdd, Nat.reduceLeDiff, Nat.reduceSub, Int.reduceToNat, Nat.reduceBEq, Nat.reduceMul, Nat.reduceLT, Int.reduceLE, Int.reduceLT, Nat.reduceMod, hr, h2, Int.reduceBEq]
      refine hk12 _ ?_
      refine hn11 (some ([2, 3, 4, 19], none)) _ ?_
      refine ev_cond_k rfl (fun hx => absurd hx (by simp at hx)) (fun hc1 => ?_)
      clear hc1
      refine hn7 _ ?_
      refine hn3 (some ([2, 3, 4], none)) _ ?_
      refine ev_seq_k fun K14 hn14 hr14 he14 => ?_
      refine ev_ops_k fun K15 hk15 => ?_
      refine evL_take 1 fun K16 hk16 => ?_
      simp only [shA, if_true, if_false, ite_true, ite_false, forall_const, ite_self, eq_self, reduceIte, reduceCtorEq, Nat.reduceEqDiff, Nat.reduceAdd, Nat.reduceLeDiff, Nat.reduceSub, Int.reduceToNat, Nat.reduceBEq, Nat.reduceMul, Nat.reduceLT, Int.reduceLE, Int.reduceLT, Nat.reduceMod, hr, h2, Int.reduceBEq]
      repeat (refine ⟨by first | assumption | omega | decide | (simp; done) | (simp_all; done) | (simp; omega), ?_⟩)
      refine hk16 _ ?_
      refine evL_take 2 fun K17 hk17 => ?_
      simp only [shA, if_true, if_false, ite_true, ite_false, forall_const, ite_self, eq_self, reduceIte, reduceCtorEq, Nat.reduceEqDiff, Nat.reduceAdd, Nat.reduceLeDiff, Nat.reduceSub, Int.reduceToNat, Nat.reduceBEq, Nat.reduceMul, Nat.reduceLT, Int.reduceLE, Int.reduceLT, Nat.reduceMod, hr, h2, Int.reduceBEq]
      repeat (refine ⟨by first | assumption | omega | decide | (simp; done) | (simp_all; done) | (simp; omega), ?_⟩)
      refine hk17 _ ?_
      refine evL_take 1 fun K18 hk18 => ?_
      simp only [shA, if_true, if_false, ite_true, ite_false, forall_const, ite_self, eq_self, reduceIte, reduceCtorEq, Nat.reduceEqDiff, Nat.reduceAdd, Nat.reduceLeDiff, Nat.reduceSub, Int.reduceToNat, Nat.reduceBEq, Nat.reduceMul, Nat.reduceLT, Int.reduceLE, Int.reduceLT, Nat.reduceMod, hr, h2, Int.reduceBEq]
      refine Or.inl (Or.inl ⟨_, hc, ?_⟩)
      refine hk18 _ ?_
      refine evL_take 3 fun K19 hk19 => ?_
      simp only [shA, if_true, if_false, ite_true, ite_false, forall_const, ite_self, eq_self, reduceIte, reduceCtorEq, Nat.reduceEqDiff, Nat.reduceAdd, Nat.reduceLeDiff, Nat.reduceSub, Int.reduceToNat, Nat.reduceBEq, Nat.reduceMul, Nat.reduceLT, Int.reduceLE, Int.reduceLT, Nat.reduceMod, hr, h2, Int.reduceBEq]
      repeat (refine ⟨by first | assumption | omega | decide | (simp; done) | (simp_all; done) | (simp; omega), ?_⟩)
      refine hk19 _ ?_
      simp only [shA, if_true, if_false, ite_true, ite_false, forall_const, ite_self, eq_self, reduceIte, reduceCtorEq, Nat.reduceEqDiff, Nat.reduceAdd, Nat.reduceLeDiff, Nat.reduceSub, Int.reduceToNat, Nat.reduceBEq, Nat.reduceMul, Nat.reduceLT, Int.reduceLE, Int.reduceLT, Nat.reduceMod, hr, h2, Int.reduceBEq]
      refine hk15 _ ?_
      refine hn14 (some ([4, 5], none)) _ ?_
      simp only [shA, if_true, if_false, ite_true, ite_false, forall_const, ite_self, eq_self, reduceIte, reduceCtorEq, Nat.reduceEqDiff, Nat.reduceAdd, Nat.reduceLeDiff, Nat.reduceSub, Int.reduceToNat, Nat.reduceBEq, Nat.reduceMul, Nat.reduceLT, Int.reduceLE, Int.reduceLT, Nat.reduceMod, ev, fin, rv_l5done, hr, h2, Int.reduceBEq]

theorem ok_l5great (g g2 : Nat) (w : List WordV) (l : List ActV) : Ok 32 [.sl 3 g (w.map eWord), .sl 6 g2 (l.map eAct)] (sB (decide (40 < w.length ∨ 80 < l.length))) := by
  refine ok_of_tr Try.func32 tr_l5great rfl ?_
  by_cases h1 : (40 : Int) < (w.length : Int) <;> by_cases h2 : (80 : Int) < (l.length : Int)
  all_goals
    unfold evFn sc_l5great
    refine ev_seq_k fun K1 hn1 hr1 he1 => ?_
    refine ev_ops_k fun K2 hk2 => ?_
    simp only [shA, if_true, if_false, ite_true, ite_false, forall_const, ite_self, eq_self, reduceIte, reduceCtorEq, Nat.reduceEqDiff, Nat.reduceAdd, Nat.reduceLeDiff, Nat.reduceSub, Int.reduceToNat, Nat.reduceBEq, Nat.reduceMul, Nat.reduceLT, Int.reduceLE, Int.reduceLT, Nat.reduceMod, h1, h2, List.length_map]
    refine hk2 _ ?_
    refine hn1 (some ([0, 1, 9, 10, 11], none)) _ ?_
    refine ev_seq_k fun K3 hn3 hr3 he3 => ?_
    refine ev_ops_k fun K4 hk4 => ?_
    refine evL_take 3 fun K5 hk5 => ?_
    simp only [shA, if_true, if_false, ite_true, ite_false, forall_const, ite_self, eq_self, reduceIte, reduceCtorEq, Nat.reduceEqDiff, Nat.reduceAdd, Nat.reduceLeDiff, Nat.reduceSub, Int.reduceToNat, Nat.reduceBEq, Nat.reduceMul, Nat.reduceLT, Int.reduceLE, Int.reduceLT, Nat.reduceMod, h1, h2, List.length_map]
    repeat (refine ⟨by first | assumption | omega | decide | (simp; done) | (simp_all; done) | (simp; omega), ?_⟩)
    refine hk5 _ ?_
    refine evL_take 4 fun K6 hk6 => ?_
    simp only [shA, if_true, if_false, ite_true, ite_false, forall_const, ite_self, eq_self, reduceIte, reduceCtorEq, Nat.reduceEqDiff, Nat.reduceAdd, Nat.reduceLeDiff, Nat.reduceSub, Int.reduceToNat, Nat.reduceBEq, Nat.reduceMul, Nat.reduceLT, Int.reduceLE, Int.reduceLT, Nat.reduceMod, h1, h2, List.length_map]
    repeat (refine ⟨by first | assumption | omega | decide | (simp; done) | (simp_all; done) | (simp; omega), ?_⟩)
    refine hk6 _ ?_
    simp only [shA, if_true, if_false, ite_true, ite_false, forall_const, ite_self, eq_self, reduceIte, reduceCtorEq, Nat.reduceEqDiff, Nat.reduceAdd, Nat.reduceLeDiff, Nat.reduceSub, Int.reduceToNat, Nat.reduceBEq, Nat.reduceMul, Nat.reduceLT, Int.reduceLE, Int.reduceLT, Nat.reduceMod, h1, h2, List.length_map]
    refine hk4 _ ?_
    refine hn3 (some ([4], none)) _ ?_
    simp only [shA, if_true, if_false, ite_true, ite_false, forall_const, ite_self, eq_self, reduceIte, reduceCtorEq, Nat.reduceEqDiff, Nat.reduceAdd, Nat.reduceLeDiff, Nat.reduceSub, Int.reduceToNat, Nat.reduceBEq, Nat.reduceMul, Nat.reduceLT, Int.reduceLE, Int.reduceLT, Nat.reduceMod, ev, fin, rv_l5great, h1, h2, List.length_map]
    simp; omega

/-! ### Other lines -/
/-- Line 0 is the same. -/
structure Same0 (x y : LinesM) : Prop where
  first : x.first = y.first
  log : x.logs[0]? = y.logs[0]?
  ask : ∀ t, askOf x t 0 = askOf y t 0
theorem same0_store {x y : LinesM} (h : Same0 x y) (a : Int) (w : WordV) : Same0 (storeM x a w) (storeM y a w) := by
  refine ⟨h.first, ?_, h.ask⟩
  simp only [storeM, List.getElem?_modify, h.log]
theorem same0_store1 (x : LinesM) (a : Int) (w : WordV) (ha : 8 ≤ a) : Same0 (storeM x a w) x := by
  refine ⟨rfl, ?_, fun _ => rfl⟩
  have : ¬ a.toNat / 8 = 0 := by omega
  simp only [storeM, List.getElem?_modify, if_neg this]
  cases x.logs[0]? <;> rfl
theorem ask_flush (x : LinesM) (t a : Int) (s : Int) : askOf (flushM x t a) s 0 = if s = t ∧ a.toNat / 8 = 0 ∧ (x.logs[0]?).isSome then (x.logs[0]?).map (fun y => (y.stores.length : Int)) else askOf x s 0 := by
  unfold flushM
  cases e : x.logs[a.toNat / 8]? with
  | none =>
    by_cases h0 : a.toNat / 8 = 0
    · rw [h0] at e; simp [e]
    · simp [h0]
  | some y =>
    by_cases hs : s = t
    · subst hs
      by_cases h0 : a.toNat / 8 = 0
      · rw [h0] at e; simp [askOf, h0, e]
      · have : ¬ (0 : Int) = ((a.toNat / 8 : Nat) : Int) := by omega
        simp only [askOf, if_true, Option.getD_some, if_neg this, h0, false_and, and_false, if_false]
    · simp [askOf, hs]
theorem same0_flush {x y : LinesM} (h : Same0 x y) (t a : Int) : Same0 (flushM x t a) (flushM y t a) := by
  obtain ⟨p1, p2⟩ := flush_first x t a
  obtain ⟨q1, q2⟩ := flush_first y t a
  exact ⟨by rw [p2, q2]; exact h.first, by rw [p1, q1]; exact h.log, fun s => by rw [ask_flush, ask_flush, h.log, h.ask]⟩
theorem same0_flush1 (x : LinesM) (t a : Int) (ha : 8 ≤ a) : Same0 (flushM x t a) x := by
  obtain ⟨p1, p2⟩ := flush_first x t a
  have : ¬ a.toNat / 8 = 0 := by omega
  exact ⟨p2, by rw [p1], fun s => by rw [ask_flush, if_neg (by simp [this])]⟩
theorem same0_sync {x y : LinesM} (h : Same0 x y) (t : Int) : Same0 (syncM x t) (syncM y t) := by
  refine ⟨h.first, ?_, fun s => ?_⟩
  · have h0 := h.ask t
    simp only [syncM, List.getElem?_mapIdx, h.log]
    congr 1
    funext z
    simp only [syncLog]
    have e : askOf x t ((0 : Nat) : Int) = askOf y t ((0 : Nat) : Int) := h0
    rw [e]
  · have h0 := h.ask s
    unfold askOf at h0 ⊢
    by_cases e : s = t
    · simp [syncM, e]
    · simpa [syncM, e] using h0
theorem same0_trans {x y z : LinesM} (h : Same0 x y) (g : Same0 y z) : Same0 x z := ⟨h.first.trans g.first, h.log.trans g.log, fun t => (h.ask t).trans (g.ask t)⟩
theorem same0_symm {x y : LinesM} (h : Same0 x y) : Same0 y x := ⟨h.first.symm, h.log.symm, fun t => (h.ask t).symm⟩

/-- The second run of LineApart. -/
def apartM (x y : LinesM) (a : ActV) : LinesM := if (doneM x a).2 = 0 ∧ (a.kind % 3 = 2 ∨ a.place < 8) then (doneM y a).1 else y
theorem apart_same {x y : LinesM} (h : Same0 x y) (a : ActV) : Same0 (doneM x a).1 (apartM x y a) := by
  have hlen : (x.first.length : Int) = y.first.length := by rw [h.first]
  unfold apartM doneM
  by_cases h0 : a.kind % 3 = 0
  · simp only [if_pos h0, ← hlen]
    by_cases hp : 0 ≤ a.place ∧ a.place < (x.first.length : Int)
    · simp only [if_pos hp]
      by_cases h8 : a.place < 8
      · rw [if_pos ⟨trivial, .inr h8⟩]; exact same0_store h _ _
      · rw [if_neg (by omega)]; exact same0_trans (same0_store1 x _ _ (by omega)) h
    · simp only [if_neg hp]
      simpa using h
  · simp only [if_neg h0]
    by_cases h1 : a.kind % 3 = 1
    · simp only [if_pos h1, ← hlen]
      by_cases ht : 1 ≤ a.thread ∧ a.thread ≤ 8
      · simp only [if_neg (Decidable.not_not.2 ht)]
        by_cases hp : 0 ≤ a.place ∧ a.place < (x.first.length : Int)
        · simp only [if_neg (Decidable.not_not.2 hp)]
          by_cases h8 : a.place < 8
          · rw [if_pos ⟨trivial, .inr h8⟩]; exact same0_flush h _ _
          · rw [if_neg (by omega)]; exact same0_trans (same0_flush1 x _ _ (by omega)) h
        · simp only [if_pos hp]
          simpa using h
      · simp only [if_pos ht]
        simpa using h
    · simp only [if_neg h1]
      by_cases ht : 1 ≤ a.thread ∧ a.thread ≤ 8
      · simp only [if_pos ht]
        rw [if_pos ⟨trivial, .inl (by omega)⟩]; exact same0_sync h _
      · simp only [if_neg ht]
        simpa using h
/-- The words of line 0 behind a crash. -/
theorem foldl_putS_low {out : List WordV} : ∀ {l : List StoreV}, (∀ s ∈ l, 8 ≤ s.loc) → ∀ i, i < 8 → (l.foldl putS out)[i]? = out[i]?
  | [], _, _, _ => rfl
  | s :: l, h, i, hi => by
    rw [List.foldl_cons, foldl_putS_low (fun s hs => h s (List.mem_cons_of_mem _ hs)) i hi]
    have := h s List.mem_cons_self
    unfold putS
    rw [List.getElem?_set, if_neg (by omega)]
theorem lef_low (L : LinesM) (more : Int → Int → Int) (hL : LinesOk L) (i : Nat) (hi : i < 8) : ∀ n, 1 ≤ n → (lefN L more n)[i]? = (lefN L more 1)[i]?
  | 0, h => by omega
  | 1, _ => rfl
  | n + 2, _ => by
    rw [← lef_low L more hL i hi (n + 1) (by omega)]
    rw [lefN]
    cases e : L.logs[n + 1]? with
    | none => rfl
    | some y =>
      simp only
      exact foldl_putS_low (fun s hs => by
        have := hL.place (n + 1) y e s (List.mem_of_mem_take hs)
        omega) i hi
theorem apart_left {x y : LinesM} (h : Same0 x y) (hx : LinesOk x) (hy : LinesOk y) (more : Int → Int → Int) (hn : 1 ≤ x.first.length) (i : Nat) (hi : i < 8) : (leftM x more)[i]? = (leftM y more)[i]? := by
  have e1 := hx.many
  have e2 := hy.many
  have e3 := h.first
  rw [← e3] at e2
  unfold leftM
  rw [lef_low x more hx i hi _ (by omega), lef_low y more hy i hi _ (by omega)]
  simp only [lefN, h.log, h.first]
end Go.Proofs.Ytlbhfpcbbembgaa
