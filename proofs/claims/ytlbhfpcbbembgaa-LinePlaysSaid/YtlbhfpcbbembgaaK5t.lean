/-
  LinePlays: an operation with the reference; all observers.
-/
import Derived.Test.YtlbhfpcbbembgaaK5s
namespace Go.Proofs.Ytlbhfpcbbembgaa
set_option linter.unusedSimpArgs false
set_option linter.unusedVariables false
open Go.RowKit Go.Maps

/-- What holds of the reference's value behind n operations. -/
structure RGood (R : RefM) (n : Nat) : Prop where
  first : R.first.length ≤ 4096
  puts : R.puts.length ≤ n
  asks : R.asks.length ≤ n
  kept : R.kept.length ≤ 1000
  place : ∀ p ∈ R.puts, 0 ≤ p.loc ∧ p.loc < (R.first.length : Int)
  line : ∀ a ∈ R.asks, 0 ≤ a.line ∧ a.line < (R.kept.length : Int)
theorem rgood_of {L : LinesM} {R : RefM} {n k : Nat} (hG : LGood L n) (h : RelR L R) (h1 : R.puts.length ≤ k) (h2 : R.asks.length ≤ k) : RGood R k := by
  have hl : R.kept.length = L.logs.length := by rw [h.kept, List.length_map]
  have hm := hG.lines.many
  have hs := hG.lines.most
  refine ⟨by rw [h.first]; exact hs, h1, h2, by omega, h.place, fun a ha => ?_⟩
  obtain ⟨m, g1, _⟩ := h.most a ha
  obtain ⟨i, y, e, g2, _⟩ := hG.asks.line _ _ _ g1
  have := (List.getElem?_eq_some_iff.1 g2).1
  omega
theorem meant_cnt (R : RefM) (a : ActV) (k : Nat) (h1 : R.puts.length ≤ k) (h2 : R.asks.length ≤ k) : (meantM R a).1.puts.length ≤ k + 1 ∧ (meantM R a).1.asks.length ≤ k + 1 := by
  unfold meantM
  split
  · split
    · simp [r5storeM]; omega
    · simp only; omega
  · split
    · split
      · simp only; omega
      · split
        · simp only; omega
        · simp [r5flushM]; omega
    · split
      · simp only [r5syncM]
        have := List.length_filter_le (fun a_1 : AskV => decide ¬a_1.thread = a.thread) R.asks
        omega
      · simp only; omega
theorem ok_l5meant (g : Nat) (R : RefM) (n : Nat) (a : ActV) (h : RGood R n) (hn : n ≤ 1000) (hk : 0 ≤ a.kind ∧ a.kind ≤ 255) : Ok 37 [eRef g R, .agg (eAct a)] (.tup [eRef g (meantM R a).1, sI (meantM R a).2]) := by
  have hr : a.kind.tmod 3 = a.kind % 3 := Int.tmod_eq_emod_of_nonneg hk.1
  have p1 := h.puts
  have p2 := h.asks
  have p3 := h.kept
  refine ok_of_tr Try.func37 tr_l5meant rfl ?_
  unfold meantM
  by_cases h0 : a.kind % 3 = 0
  · rw [if_pos h0]
    have hc : Ok 57 [eRef g R, sI a.place, .agg (eWord a.word)] (.tup [eRef g (if 0 ≤ a.place ∧ a.place < (R.first.length : Int) then (r5storeM R a.place a.word, (0 : Int)) else (R, 1)).1, sI (if 0 ≤ a.place ∧ a.place < (R.first.length : Int) then (r5storeM R a.place a.word, (0 : Int)) else (R, 1)).2]) := by
      by_cases hp : 0 ≤ a.place ∧ a.place < (R.first.length : Int)
      · rw [if_pos hp]; exact ok_r5Store g R _ _ hp (by omega)
      · rw [if_neg hp]; exact ok_r5Store_bad g R _ _ hp
    generalize (if 0 ≤ a.place ∧ a.place < (R.first.length : Int) then (r5storeM R a.place a.word, (0 : Int)) else (R, 1)) = Q at hc
    unfold evFn sc_l5meant
    refine ev_seq_k fun K1 hn1 hr1 he1 => ?_
    refine ev_ops_k fun K2 hk2 => ?_
    simp only [shA, if_true, if_false, ite_true, ite_false, forall_const, ite_self, eq_self, reduceIte, reduceCtorEq, Nat.reduceEqDiff, Nat.reduceAdd, Nat.reduceLeDiff, Nat.reduceSub, Int.reduceToNat, Nat.reduceBEq, Nat.reduceMul, Nat.reduceLT, Int.reduceLE, Int.reduceLT, Nat.reduceMod, hr, h0, beq_self_eq_true]
    refine hk2 _ ?_
    refine hn1 (some ([2, 3, 4], none)) _ ?_
    refine ev_seq_k fun K3 hn3 hr3 he3 => ?_
    refine ev_seq_k fun K4 hn4 hr4 he4 => ?_
    refine ev_ops_k fun K5 hk5 => ?_
    refine evL_take 2 fun K6 hk6 => ?_
    simp only [shA, if_true, if_false, ite_true, ite_false, forall_const, ite_self, eq_self, reduceIte, reduceCtorEq, Nat.reduceEqDiff, Nat.reduceAdd, Nat.reduceLeDiff, Nat.reduceSub, Int.reduceToNat, Nat.reduceBEq, Nat.reduceMul, Nat.reduceLT, Int.reduceLE, Int.reduceLT, Nat.reduceMod, hr, h0, beq_self_eq_true]
    repeat (refine ⟨by first | assumption | omega | decide | (simp; done) | (simp_all; done) | (simp; omega), ?_⟩)
    refine hk6 _ ?_
    simp only [shA, if_true, if_false, ite_true, ite_false, forall_const, ite_self, eq_self, reduceIte, reduceCtorEq, Nat.reduceEqDiff, Nat.reduceAdd, Nat.reduceLeDiff, Nat.reduceSub, Int.reduceToNat, Nat.reduceBEq, Nat.reduceMul, Nat.reduceLT, Int.reduceLE, Int.reduceLT, Nat.reduceMod, hr, h0, beq_self_eq_true]
    repeat (refine ⟨by first | assumption | omega | decide | (simp; done) | (simp_all; done) | (simp; omega), ?_⟩)
    refine hk5 _ ?_
    refine hn4 (some ([2, 3, 4, 8], none)) _ ?_
    refine ev_block_k fun K7 hn7 hx7 hr7 he7 => ?_
    refine ev_seq_k fun K8 hn8 hr8 he8 => ?_
    refine ev_ops_k fun K9 hk9 => ?_
    refine evL_take 1 fun K10 hk10 => ?_
    simp only [shA, if_true, if_false, ite_true, ite_false, forall_const, ite_self, eq_self, reduceIte, reduceCtorEq, Nat.reduceEqDiff, Nat.reduceAdd, Nat.reduceLeDiff, Nat.reduceSub, Int.reduceToNat, Nat.reduceBEq, Nat.reduceMul, Nat.reduceLT, Int.reduceLE, Int.reduceLT, Nat.reduceMod, hr, h0, beq_self_eq_true]
    repeat (refine ⟨by first | assumption | omega | decide | (simp; done) | (simp_all; done) | (simp; omega), ?_⟩)
    refine hk10 _ ?_
    simp only [shA, if_true, if_false, ite_true, ite_false, forall_const, ite_self, eq_self, reduceIte, reduceCtorEq, Nat.reduceEqDiff, Nat.reduceAdd, Nat.reduceLeDiff, Nat.reduceSub, Int.reduceToNat, Nat.reduceBEq, Nat.reduceMul, Nat.reduceLT, Int.reduceLE, Int.reduceLT, Nat.reduceMod, hr, h0, beq_self_eq_true]
    refine hk9 _ ?_
    refine hn8 (some ([2, 3, 4, 8, 9], none)) _ ?_
    refine ev_cond_k rfl (fun hc0 => ?_) (fun hx => absurd hx (by simp at hx))
    clear hc0
    refine ev_seq_k fun K11 hn11 hr11 he11 => ?_
    refine ev_ops_k fun K12 hk12 => ?_
    refine evL_take 1 fun K13 hk13 => ?_
    simp only [shA, if_true, if_false, ite_true, ite_false, forall_const, ite_self, eq_self, reduceIte, reduceCtorEq, Nat.reduceEqDiff, Nat.reduceAdd, Nat.reduceLeDiff, Nat.reduceSub, Int.reduceToNat, Nat.reduceBEq, Nat.reduceMul, Nat.reduceLT, Int.reduceLE, Int.reduceLT, Nat.reduceMod, hr, h0, beq_self_eq_true]
    repeat (refine ⟨by first | assumption | omega | decide | (simp; done) | (simp_all; done) | (simp; omega), ?_⟩)
    refine hk13 _ ?_
    refine evL_take 2 fun K14 hk14 => ?_
    simp only [shA, if_true, if_false, ite_true, ite_false, forall_const, ite_self, eq_self, reduceIte, reduceCtorEq, Nat.reduceEqDiff, Nat.reduceAdd, Nat.reduceLeDiff, Nat.reduceSub, Int.reduceToNat, Nat.reduceBEq, Nat.reduceMul, Nat.reduceLT, Int.reduceLE, Int.reduceLT, Nat.reduceMod, hr, h0, beq_self_eq_true]
    repeat (refine ⟨by first | assumption | omega | decide | (simp; done) | (simp_all; done) | (simp; omega), ?_⟩)
    refine hk14 _ ?_
    refine evL_take 2 fun K15 hk15 => ?_
    simp only [shA, if_true, if_false, ite_true, ite_false, forall_const, ite_self, eq_self, reduceIte, reduceCtorEq, Nat.reduceEqDiff, Nat.reduceAdd, Nat.reduceLeDiff, Nat.reduceSub, Int.reduceToNat, Nat.reduceBEq, Nat.reduceMul, Nat.reduceLT, Int.reduceLE, Int.reduceLT, Nat.reduceMod, hr, h0, beq_self_eq_true]
    repeat (refine ⟨by first | assumption | omega | decide | (simp; done) | (simp_all; done) | (simp; omega), ?_⟩)
    refine hk15 _ ?_
    refine evL_take 1 fun K16 hk16 => ?_
    simp only [shA, if_true, if_false, ite_true, ite_false, forall_const, ite_self, eq_self, reduceIte, reduceCtorEq, Nat.reduceEqDiff, Nat.reduceAdd, Nat.reduceLeDiff, Nat.reduceSub, Int.reduceToNat, Nat.reduceBEq, Nat.reduceMul, Nat.reduceLT, Int.reduceLE, Int.reduceLT, Nat.reduceMod, hr, h0, beq_self_eq_true]
    refine Or.inl (Or.inl ⟨_, hc, ?_⟩)
    refine hk16 _ ?_
    refine evL_take 3 fun K17 hk17 => ?_
    simp only [shA, if_true, if_false, ite_true, ite_false, forall_const, ite_self, eq_self, reduceIte, reduceCtorEq, Nat.reduceEqDiff, Nat.reduceAdd, Nat.reduceLeDiff, Nat.reduceSub, Int.reduceToNat, Nat.reduceBEq, Nat.reduceMul, Nat.reduceLT, Int.reduceLE, Int.reduceLT, Nat.reduceMod, hr, h0, beq_self_eq_true]
    repeat (refine ⟨by first | assumption | omega | decide | (simp; done) | (simp_all; done) | (simp; omega), ?_⟩)
    refine hk17 _ ?_
    simp only [shA, if_true, if_false, ite_true, ite_false, forall_const, ite_self, eq_self, reduceIte, reduceCtorEq, Nat.reduceEqDiff, Nat.reduceAdd, Nat.reduceLeDiff, Nat.reduceSub, Int.reduceToNat, Nat.reduceBEq, Nat.reduceMul, Nat.reduceLT, Int.reduceLE, Int.reduceLT, Nat.reduceMod, hr, h0, beq_self_eq_true]
    refine hk12 _ ?_
    refine hn11 (some ([4, 5], none)) _ ?_
    refine hr7 _ ?_
    refine hr3 _ ?_
    simp only [shA, if_true, if_false, ite_true, ite_false, forall_const, ite_self, eq_self, reduceIte, reduceCtorEq, Nat.reduceEqDiff, Nat.reduceAdd, Nat.reduceLeDiff, Nat.reduceSub, Int.reduceToNat, Nat.reduceBEq, Nat.reduceMul, Nat.reduceLT, Int.reduceLE, Int.reduceLT, Nat.reduceMod, ev, fin, rv_l5meant, hr, h0, beq_self_eq_true]
  · rw [if_neg h0]
    by_cases h1 : a.kind % 3 = 1
    · rw [if_pos h1]
      have hc : Ok 58 [eRef g R, sI a.thread, sI a.place] (.tup [eRef g (if ¬ (1 ≤ a.thread ∧ a.thread ≤ 8) then (R, (3 : Int)) else if ¬ (0 ≤ a.place ∧ a.place < (R.first.length : Int)) then (R, 1) else (r5flushM R a.thread a.place, 0)).1, sI (if ¬ (1 ≤ a.thread ∧ a.thread ≤ 8) then (R, (3 : Int)) else if ¬ (0 ≤ a.place ∧ a.place < (R.first.length : Int)) then (R, 1) else (r5flushM R a.thread a.place, 0)).2]) := by
        by_cases ht : 1 ≤ a.thread ∧ a.thread ≤ 8
        · rw [if_neg (Decidable.not_not.2 ht)]
          by_cases hp : 0 ≤ a.place ∧ a.place < (R.first.length : Int)
          · rw [if_neg (Decidable.not_not.2 hp)]; exact ok_r5Flush g R _ _ ht hp h.first (fun p hp => by have := h.place p hp; have := h.first; omega) (by omega) (by omega)
          · rw [if_pos hp]; exact ok_r5Flush_place g R _ _ ht hp
        · rw [if_pos ht]; exact ok_r5Flush_thread g R _ _ ht
      generalize (if ¬ (1 ≤ a.thread ∧ a.thread ≤ 8) then (R, (3 : Int)) else if ¬ (0 ≤ a.place ∧ a.place < (R.first.length : Int)) then (R, 1) else (r5flushM R a.thread a.place, 0)) = Q at hc
      unfold evFn sc_l5meant
      refine ev_seq_k fun K1 hn1 hr1 he1 => ?_
      refine ev_ops_k fun K2 hk2 => ?_
      simp only [shA, if_true, if_false, ite_true, ite_false, forall_const, ite_self, eq_self, reduceIte, reduceCtorEq, Nat.reduceEqDiff, Nat.reduceAdd, Nat.reduceLeDiff, Nat.reduceSub, Int.reduceToNat, Nat.reduceBEq, Nat.reduceMul, Nat.reduceLT, Int.reduceLE, Int.reduceLT, Nat.reduceMod, hr, h1, Int.reduceBEq]
      refine hk2 _ ?_
      refine hn1 (some ([2, 3, 4], none)) _ ?_
      refine ev_seq_k fun K3 hn3 hr3 he3 => ?_
      refine ev_seq_k fun K4 hn4 hr4 he4 => ?_
      refine ev_ops_k fun K5 hk5 => ?_
      refine evL_take 2 fun K6 hk6 => ?_
      simp only [shA, if_true, if_false, ite_true, ite_false, forall_const, ite_self, eq_self, reduceIte, reduceCtorEq, Nat.reduceEqDiff, Nat.reduceAdd, Nat.reduceLeDiff, Nat.reduceSub, Int.reduceToNat, Nat.reduceBEq, Nat.reduceMul, Nat.reduceLT, Int.reduceLE, Int.reduceLT, Nat.reduceMod, hr, h1, Int.reduceBEq]
      repeat (refine ⟨by first | assumption | omega | decide | (simp; done) | (simp_all; done) | (simp; omega), ?_⟩)
      refine hk6 _ ?_
      simp only [shA, if_true, if_false, ite_true, ite_false, forall_const, ite_self, eq_self, reduceIte, reduceCtorEq, Nat.reduceEqDiff, Nat.reduceAdd, Nat.reduceLeDiff, Nat.reduceSub, Int.reduceToNat, Nat.reduceBEq, Nat.reduceMul, Nat.reduceLT, Int.reduceLE, Int.reduceLT, Nat.reduceMod, hr, h1, Int.reduceBEq]
      repeat (refine ⟨by first | assumption | omega | decide | (simp; done) | (simp_all; done) | (simp; omega), ?_⟩)
      refine hk5 _ ?_
      refine hn4 (some ([2, 3, 4, 8], none)) _ ?_
      refine ev_block_k fun K7 hn7 hx7 hr7 he7 => ?_
      refine ev_seq_k fun K8 hn8 hr8 he8 => ?_
      refine ev_ops_k fun K9 hk9 => ?_
      refine evL_take 1 fun K10 hk10 => ?_
      simp only [shA, if_true, if_false, ite_true, ite_false, forall_const, ite_self, eq_self, reduceIte, reduceCtorEq, Nat.reduceEqDiff, Nat.reduceAdd, Nat.reduceLeDiff, Nat.reduceSub, Int.reduceToNat, Nat.reduceBEq, Nat.reduceMul, Nat.reduceLT, Int.reduceLE, Int.reduceLT, Nat.reduceMod, hr, h1, Int.reduceBEq]
      repeat (refine ⟨by first | assumption | omega | decide | (simp; done) | (simp_all; done) | (simp; omega), ?_⟩)
      refine hk10 _ ?_
      simp only [shA, if_true, if_false, ite_true, ite_false, forall_const, ite_self, eq_self, reduceIte, reduceCtorEq, Nat.reduceEqDiff, Nat.reduceAdd, Nat.reduceLeDiff, Nat.reduceSub, Int.reduceToNat, Nat.reduceBEq, Nat.reduceMul, Nat.reduceLT, Int.reduceLE, Int.reduceLT, Nat.reduceMod, hr, h1, Int.reduceBEq]
      refine hk9 _ ?_
      refine hn8 (some ([2, 3, 4, 8, 9], none)) _ ?_
      refine ev_cond_k rfl (fun hx => absurd hx (by simp at hx)) (fun hc0 => ?_)
      clear hc0
      refine ev_seq_k fun K11 hn11 hr11 he11 => ?_
      refine ev_ops_k fun K12 hk12 => ?_
      refine evL_take 1 fun K13 hk13 => ?_
      simp only [shA, if_true, if_false, ite_true, ite_false, forall_const, ite_self, eq_self, reduceIte, reduceCtorEq, Nat.reduceEqDiff, Nat.reduceAdd, Nat.reduceLeDiff, Nat.reduceSub, Int.reduceToNat, Nat.reduceBEq, Nat.reduceMul, Nat.reduceLT, Int.reduceLE, Int.reduceLT, Nat.reduceMod, hr, h1, Int.reduceBEq]
      repeat (refine ⟨by first | assumption | omega | decide | (simp; done) | (simp_all; done) | (simp; omega), ?_⟩)
      refine hk13 _ ?_
      simp only [shA, if_true, if_false, ite_true, ite_false, forall_const, ite_self, eq_self, reduceIte, reduceCtorEq, Nat.reduceEqDiff, Nat.reduceAdd, Nat.reduceLeDiff, Nat.reduceSub, Int.reduceToNat, Nat.reduceBEq, Nat.reduceMul, Nat.reduceLT, Int.reduceLE, Int.reduceLT, Nat.reduceMod, hr, h1, Int.reduceBEq]
      refine hk12 _ ?_
      refine hn11 (some ([2, 3, 4, 19], none)) _ ?_
      refine ev_cond_k rfl (fun hc1 => ?_) (fun hx => absurd hx (by simp at hx))
      clear hc1
      refine ev_seq_k fun K14 hn14 hr14 he14 => ?_
      refine ev_ops_k fun K15 hk15 => ?_
      refine evL_take 1 fun K16 hk16 => ?_
      simp only [shA, if_true, if_false, ite_true, ite_false, forall_const, ite_self, eq_self, reduceIte, reduceCtorEq, Nat.reduceEqDiff, Nat.reduceAdd, Nat.reduceLeDiff, Nat.reduceSub, Int.reduceToNat, Nat.reduceBEq, Nat.reduceMul, Nat.reduceLT, Int.reduceLE, Int.reduceLT, Nat.reduceMod, hr, h1, Int.reduceBEq]
      repeat (refine ⟨by first | assumption | omega | decide | (simp; done) | (simp_all; done) | (simp; omega), ?_⟩)
      refine hk16 _ ?_
      refine evL_take 2 fun K17 hk17 => ?_
      simp only [shA, if_true, if_false, ite_true, ite_false, forall_const, ite_self, eq_self, reduceIte, reduceCtorEq, Nat.reduceEqDiff, Nat.reduceAdd, Nat.reduceLeDiff, Nat.reduceSub, Int.reduceToNat, Nat.reduceBEq, Nat.reduceMul, Nat.reduceLT, Int.reduceLE, Int.reduceLT, Nat.reduceMod, hr, h1, Int.reduceBEq]
      repeat (refine ⟨by first | assumption | omega | decide | (simp; done) | (simp_all; done) | (simp; omega), ?_⟩)
      refine hk17 _ ?_
      refine evL_take 2 fun K18 hk18 => ?_
      simp only [shA, if_true, if_false, ite_true, ite_false, forall_const, ite_self, eq_self, reduceIte, reduceCtorEq, Nat.reduceEqDiff, Nat.reduceAdd, Nat.reduceLeDiff, Nat.reduceSub, Int.reduceToNat, Nat.reduceBEq, Nat.reduceMul, Nat.reduceLT, Int.reduceLE, Int.reduceLT, Nat.reduceMod, hr, h1, Int.reduceBEq]
      repeat (refine ⟨by first | assumption | omega | decide | (simp; done) | (simp_all; done) | (simp; omega), ?_⟩)
      refine hk18 _ ?_
      refine evL_take 1 fun K19 hk19 => ?_
      simp only [shA, if_true, if_false, ite_true, ite_false, forall_const, ite_self, eq_self, reduceIte, reduceCtorEq, Nat.reduceEqDiff, Nat.reduceAdd, Nat.reduceLeDiff, Nat.reduceSub, Int.reduceToNat, Nat.reduceBEq, Nat.reduceMul, Nat.reduceLT, Int.reduceLE, Int.reduceLT, Nat.reduceMod, hr, h1, Int.reduceBEq]
      refine Or.inl (Or.inl ⟨_, hc, ?_⟩)
      refine hk19 _ ?_
      refine evL_take 3 fun K20 hk20 => ?_
      simp only [shA, if_true, if_false, ite_true, ite_false, forall_const, ite_self, eq_self, reduceIte, reduceCtorEq, Nat.reduceEqDiff, Nat.reduceAdd, Nat.reduceLeDiff, Nat.reduceSub, Int.reduceToNat, Nat.reduceBEq, Nat.reduceMul, Nat.reduceLT, Int.reduceLE, Int.reduceLT, Nat.reduceMod, hr, h1, Int.reduceBEq]
      repeat (refine ⟨by first | assumption | omega | decide | (simp; done) | (simp_all; done) | (simp; omega), ?_⟩)
      refine hk20 _ ?_
      simp only [shA, if_true, if_false, ite_true, ite_false, forall_const, ite_self, eq_self, reduceIte, reduceCtorEq, Nat.reduceEqDiff, Nat.reduceAdd, Nat.reduceLeDiff, Nat.reduceSub, Int.reduceToNat, Nat.reduceBEq, Nat.reduceMul, Nat.reduceLT, Int.reduceLE, Int.reduceLT, Nat.reduceMod, hr, h1, Int.reduceBEq]
      refine hk15 _ ?_
      refine hn14 (some ([4, 5], none)) _ ?_
      refine hr7 _ ?_
      refine hr3 _ ?_
      simp only [shA, if_true, if_false, ite_true, ite_false, forall_const, ite_self, eq_self, reduceIte, reduceCtorEq, Nat.reduceEqDiff, Nat.reduceAdd, Nat.reduceLeDiff, Nat.reduceSub, Int.reduceToNat, Nat.reduceBEq, Nat.reduceMul, Nat.reduceLT, Int.reduceLE, Int.reduceLT, Nat.reduceMod, ev, fin, rv_l5meant, hr, h1, Int.reduceBEq]
    · rw [if_neg h1]
      have h2 : a.kind % 3 = 2 := by omega
      have hc : Ok 59 [eRef g R, sI a.thread] (.tup [eRef g (if 1 ≤ a.thread ∧ a.thread ≤ 8 then (r5syncM R a.thread, (0 : Int)) else (R, 3)).1, sI (if 1 ≤ a.thread ∧ a.thread ≤ 8 then (r5syncM R a.thread, (0 : Int)) else (R, 3)).2]) := by
        by_cases ht : 1 ≤ a.thread ∧ a.thread ≤ 8
        · rw [if_pos ht]; exact ok_r5Sync g R _ ht (by omega) p3 h.line
        · rw [if_neg ht]; exact ok_r5Sync_thread g R _ ht
      generalize (if 1 ≤ a.thread ∧ a.thread ≤ 8 then (r5syncM R a.thread, (0 : Int)) else (R, 3)) = Q at hc
      unfold evFn sc_l5meant
      refine ev_seq_k fun K1 hn1 hr1 he1 => ?_
      refine ev_ops_k fun K2 hk2 => ?_
      simp only [shA, if_true, if_false, ite_true, ite_false, forall_const, ite_self, eq_self, reduceIte, reduceCtorEq, Nat.reduceEqDiff, Nat.reduceAdd, Nat.reduceLeDiff, Nat.reduceSub, Int.reduceToNat, Nat.reduceBEq, Nat.reduceMul, Nat.reduceLT, Int.reduceLE, Int.reduceLT, Nat.reduceMod, hr, h2, Int.reduceBEq]
      refine hk2 _ ?_
      refine hn1 (some ([2, 3, 4], none)) _ ?_
      refine ev_seq_k fun K3 hn3 hr3 he3 => ?_
      refine ev_seq_k fun K4 hn4 hr4 he4 => ?_
      refine ev_ops_k fun K5 hk5 => ?_
      refine evL_take 2 fun K6 hk6 => ?_
      simp only [shA, if_true, if_false, ite_true, ite_false, forall_const, ite_self, eq_self, reduceIte, reduceCtorEq, Nat.reduceEqDiff, Nat.reduceAdd, Nat.reduceLeDiff, Nat.reduceSub, Int.reduceToNat, Nat.reduceBEq, Nat.reduceMul, Nat.reduceLT, Int.reduceLE, Int.reduceLT, Nat.reduceMod, hr, h2, Int.reduceBEq]
      repeat (refine ⟨by first | assumption | omega | decide | (simp; done) | (simp_all; done) | (simp; omega), ?_⟩)
      refine hk6 _ ?_
      simp only [shA, if_true, if_false, ite_true, ite_false, forall_const, ite_self, eq_self, reduceIte, reduceCtorEq, Nat.reduceEqDiff, Nat.reduceAdd, Nat.reduceLeDiff, Nat.reduceSub, Int.reduceToNat, Nat.reduceBEq, Nat.reduceMul, Nat.reduceLT, Int.reduceLE, Int.reduceLT, Nat.reduceMod, hr, h2, Int.reduceBEq]
      repeat (refine ⟨by first | assumption | omega | decide | (simp; done) | (simp_all; done) | (simp; omega), ?_⟩)
      refine hk5 _ ?_
      refine hn4 (some ([2, 3, 4, 8], none)) _ ?_
      refine ev_block_k fun K7 hn7 hx7 hr7 he7 => ?_
      refine ev_seq_k fun K8 hn8 hr8 he8 => ?_
      refine ev_ops_k fun K9 hk9 => ?_
      refine evL_take 1 fun K10 hk10 => ?_
      simp only [shA, if_true, if_false, ite_true, ite_false, forall_const, ite_self, eq_self, reduceIte, reduceCtorEq, Nat.reduceEqDiff, Nat.reduceAdd, Nat.reduceLeDiff, Nat.reduceSub, Int.reduceToNat, Nat.reduceBEq, Nat.reduceMul, Nat.reduceLT, Int.reduceLE, Int.reduceLT, Nat.reduceMod, hr, h2, Int.reduceBEq]
      repeat (refine ⟨by first | assumption | omega | decide | (simp; done) | (simp_all; done) | (simp; omega), ?_⟩)
      refine hk10 _ ?_
      simp only [shA, if_true, if_false, ite_true, ite_false, forall_const, ite_self, eq_self, reduceIte, reduceCtorEq, Nat.reduceEqDiff, Nat.reduceAdd, Nat.reduceLeDiff, Nat.reduceSub, Int.reduceToNat, Nat.reduceBEq, Nat.reduceMul, Nat.reduceLT, Int.reduceLE, Int.reduceLT, Nat.reduceMod, hr, h2, Int.reduceBEq]
      refine hk9 _ ?_
      refine hn8 (some ([2, 3, 4, 8, 9], none)) _ ?_
      refine ev_cond_k rfl (fun hx => absurd hx (by simp at hx)) (fun hc0 => ?_)
      clear hc0
      refine ev_seq_k fun K11 hn11 hr11 he11 => ?_
      refine ev_ops_k fun K12 hk12 => ?_
      refine evL_take 1 fun K13 hk13 => ?_
      simp only [shA, if_true, if_false, ite_true, ite_false, forall_const, ite_self, eq_self, reduceIte, reduceCtorEq, Nat.reduceEqDiff, Nat.reduceAdd, Nat.reduceLeDiff, Nat.reduceSub, Int.reduceToNat, Nat.reduceBEq, Nat.reduceMul, Nat.reduceLT, Int.reduceLE, Int.reduceLT, Nat.reduceMod, hr, h2, Int.reduceBEq]
      repeat (refine ⟨by first | assumption | omega | decide | (simp; done) | (simp_all; done) | (simp; omega), ?_⟩)
      refine hk13 _ ?_
      simp only [shA, if_true, if_false, ite_true, ite_false, forall_const, ite_self, eq_self, reduceIte, reduceCtorEq, Nat.reduceEqDiff, Nat.reduceAdd, Nat.reduceLeDiff, Nat.reduceSub, Int.reduceToNat, Nat.reduceBEq, Nat.reduceMul, Nat.reduceLT, Int.reduceLE, Int.reduceLT, Nat.reduceMod, hr, h2, Int.reduceBEq]
      refine hk12 _ ?_
      refine hn11 (some ([2, 3, 4, 19], none)) _ ?_
      refine ev_cond_k rfl (fun hx => absurd hx (by simp at hx)) (fun hc1 => ?_)
      clear hc1
      refine hn7 _ ?_
      refine hn3 (some ([2, 3, 4], none)) _ ?_
      refine ev_seq_k fun K14 hn14 hr14 he14 => ?_
      refine ev_ops_k fun K15 hk15 => ?_
      refine evL_take 1 fun K16 hk16 => ?_
      simp only [shA, if_true, if_false, ite_true, ite_false, forall_const, ite_self, eq_self, reduceIte, reduceCtorEq, Nat.reduceEqDiff, Nat.reduceAdd, Nat.reduceLeDiff, Nat.reduceSub, Int.reduceToNat, Nat.reduceBEq, Nat.reduceMul, Nat.reduceLT, Int.reduceLE, Int.reduceLT, Nat.reduceMod, hr, h2, Int.reduceBEq]
      repeat (refine ⟨by first | assumption | omega | decide | (simp; done) | (simp_all; done) | (simp; omega), ?_⟩)
      refine hk16 _ ?_
      refine evL_take 2 fun K17 hk17 => ?_
      simp only [shA, if_true, if_false, ite_true, ite_false, forall_const, ite_self, eq_self, reduceIte, reduceCtorEq, Nat.reduceEqDiff, Nat.reduceAdd, Nat.reduceLeDiff, Nat.reduceSub, Int.reduceToNat, Nat.reduceBEq, Nat.reduceMul, Nat.reduceLT, Int.reduceLE, Int.reduceLT, Nat.reduceMod, hr, h2, Int.reduceBEq]
      repeat (refine ⟨by first | assumption | omega | decide | (simp; done) | (simp_all; done) | (simp; omega), ?_⟩)
      refine hk17 _ ?_
      refine evL_take 1 fun K18 hk18 => ?_
      simp only [shA, if_true, if_false, ite_true, ite_false, forall_const, ite_self, eq_self, reduceIte, reduceCtorEq, Nat.reduceEqDiff, Nat.reduceAdd, Nat.reduceLeDiff, Nat.reduceSub, Int.reduceToNat, Nat.reduceBEq, Nat.reduceMul, Nat.reduceLT, Int.reduceLE, Int.reduceLT, Nat.reduceMod, hr, h2, Int.reduceBEq]
      refine Or.inl (Or.inl ⟨_, hc, ?_⟩)
      refine hk18 _ ?_
      refine evL_take 3 fun K19 hk19 => ?_
      simp only [shA, if_true, if_false, ite_true, ite_false, forall_const, ite_self, eq_self, reduceIte, reduceCtorEq, Nat.reduceEqDiff, Nat.reduceAdd, Nat.reduceLeDiff, Nat.reduceSub, Int.reduceToNat, Nat.reduceBEq, Nat.reduceMul, Nat.reduceLT, Int.reduceLE, Int.reduceLT, Nat.reduceMod, hr, h2, Int.reduceBEq]
      repeat (refine ⟨by first | assumption | omega | decide | (simp; done) | (simp_all; done) | (simp; omega), ?_⟩)
      refine hk19 _ ?_
      simp only [shA, if_true, if_false, ite_true, ite_false, forall_const, ite_self, eq_self, reduceIte, reduceCtorEq, Nat.reduceEqDiff, Nat.reduceAdd, Nat.reduceLeDiff, Nat.reduceSub, Int.reduceToNat, Nat.reduceBEq, Nat.reduceMul, Nat.reduceLT, Int.reduceLE, Int.reduceLT, Nat.reduceMod, hr, h2, Int.reduceBEq]
      refine hk15 _ ?_
      refine hn14 (some ([4, 5], none)) _ ?_
      simp only [shA, if_true, if_false, ite_true, ite_false, forall_const, ite_self, eq_self, reduceIte, reduceCtorEq, Nat.reduceEqDiff, Nat.reduceAdd, Nat.reduceLeDiff, Nat.reduceSub, Int.reduceToNat, Nat.reduceBEq, Nat.reduceMul, Nat.reduceLT, Int.reduceLE, Int.reduceLT, Nat.reduceMod, ev, fin, rv_l5meant, hr, h2, Int.reduceBEq]

def SameInv5 (g : Nat) (L : LinesM) (R : RefM) (c : Int) (many : Nat) (m : Nat) (S : St) : Prop :=
  ∃ i : Int, -1 ≤ i ∧ i ≤ many + 1 ∧ m = (many + 1 - i).toNat ∧ S = ⟨[(2, sI c), (3, .ptr 0 0 0), (4, .ptr 1 0 0), (7, sI i)], [(0, boxL L), (1, boxR g R)], 2⟩
set_option maxHeartbeats 8000000 in
theorem ok_l5same (g : Nat) (L : LinesM) (R : RefM) (c : Int) (n : Nat) (hG : LGood L n) (h : RelR L R) (hR : RGood R n) (hn : n ≤ 1000) : Ok 36 [eLines L, eRef g R, sI c] (sB true) := by
  have p1 := hR.puts
  have hlen : ∀ y ∈ L.logs, y.stores.length ≤ 1000 := fun y hy => Nat.le_trans (hG.most y hy) hn
  have hkl : R.kept.length = L.logs.length := by rw [h.kept, List.length_map]
  have hM := ok_r5Many g R hR.first
  have hmany := hG.lines.many
  rw [h.first, ← hmany] at hM
  have hpl : ∀ p ∈ R.puts, 0 ≤ p.loc ∧ p.loc ≤ 4096 := fun p hp => by have := hR.place p hp; have := hR.first; omega
  have hb : ∀ (i : Nat) k, R.kept[i]? = some k → 0 ≤ k ∧ k ≤ cntR R.puts i R.puts.length := fun i k hk => by
    rw [h.kept, List.getElem?_map] at hk
    cases e : L.logs[i]? with
    | none => rw [e] at hk; cases hk
    | some y =>
      rw [e] at hk; cases hk
      rw [rel_log h e]
      exact hG.lines.kept y (List.mem_of_getElem? e)
  have c1 := ok_lLeast L hG.lines hlen
  have c2 := ok_r5Left g 0 R R.kept hR.first hR.place (by omega) hR.kept
  rw [rel_least h] at c2
  have c3 := ok_lCrash L c hG.lines hlen
  have c4 := ok_r5Crash g R c hR.first hR.place (by omega) hR.kept hb
  rw [rel_crash h c] at c4
  have hw1 : (leftM L fun _ _ => 0).length ≤ 100000 := by unfold leftM; rw [lefN_len]; have := hG.lines.most; omega
  have hw2 : (leftM L (mixF c)).length ≤ 100000 := by unfold leftM; rw [lefN_len]; have := hG.lines.most; omega
  have hs1 := ok_r5Same 0 0 _ hw1
  have hs2 := ok_r5Same 0 0 _ hw2
  generalize (leftM L fun _ _ => 0) = W1 at c1 c2 hs1
  generalize leftM L (mixF c) = W2 at c3 c4 hs2
  have hmm : L.logs.length ≤ 1000 := by have := hG.lines.most; omega
  refine ok_of_tr Try.func36 tr_l5same rfl ?_
  unfold evFn sc_l5same
  refine ev_seq_k fun K1 hn1 hr1 he1 => ?_
  refine ev_ops_k fun K2 hk2 => ?_
  simp only [shA, if_true, if_false, ite_true, ite_false, forall_const, ite_self, eq_self, reduceIte, reduceCtorEq, Nat.reduceEqDiff, Nat.reduceAdd, Nat.reduceLeDiff, Nat.reduceSub, Int.reduceToNat, Nat.reduceBEq, Nat.reduceMul, Nat.reduceLT, Int.reduceLE, Int.reduceLT, Nat.reduceMod, List.length_map, bne_self_eq_false]
  refine hk2 _ ?_
  refine hn1 (some ([2, 3, 4, 25, 26, 27, 28, 33, 34, 44, 45, 46, 47, 48, 58, 59, 60, 61, 62, 63, 64], none)) _ ?_
  refine ev_seq_k fun K3 hn3 hr3 he3 => ?_
  refine ev_seq_k fun K4 hn4 hr4 he4 => ?_
  refine ev_ops_k fun K5 hk5 => ?_
  simp only [shA, if_true, if_false, ite_true, ite_false, forall_const, ite_self, eq_self, reduceIte, reduceCtorEq, Nat.reduceEqDiff, Nat.reduceAdd, Nat.reduceLeDiff, Nat.reduceSub, Int.reduceToNat, Nat.reduceBEq, Nat.reduceMul, Nat.reduceLT, Int.reduceLE, Int.reduceLT, Nat.reduceMod, List.length_map, bne_self_eq_false]
  refine hk5 _ ?_
  refine hn4 (some ([2, 3, 4, 7, 25, 26, 27, 28, 33, 34, 44, 45, 46, 47, 48, 58, 59, 60, 61, 62, 63, 64], none)) _ ?_
  refine ev_block_k fun K6 hn6 hx6 hr6 he6 => ?_
  refine ev_loop_k (SameInv5 g L R c L.logs.length) ((L.logs.length + 2)) (some ([2, 3, 4, 7, 58, 59, 60, 61, 62, 63, 64], some ([0, 1], 2))) ([]) ?_ ?_
  · try simp only [St.casts, St.cast, nilS, St.put, St.newO, St.setO, delA, List.getElem?_cons_zero, List.getElem?_cons_succ, List.set_cons_zero, List.set_cons_succ, getA, Nat.reduceEqDiff, reduceCtorEq, keepT, renT, renSh, renC, renO, renOb, idxN, List.map_cons, List.map_nil, List.length_cons, List.length_nil, Nat.reduceAdd, Nat.zero_add, decide_true, St.keep, refsT, refsO, refsL, refsC, refsOk, decide_eq_true_eq, List.contains_cons, List.contains_nil, Bool.or_false, Bool.or_true, Bool.true_or, Bool.false_or, Bool.and_true, Bool.true_and, beq_self_eq_true, Nat.reduceBEq, reduceIte, Nat.blt_eq, Nat.reduceLT, decide_true, Nat.reduceLeDiff, Bool.false_eq_true, Bool.and_eq_true, and_self, true_and, and_true]
    exact ⟨-1, by omega, by omega, by omega, rfl⟩
  · intro k S1 hI
    obtain ⟨i, hi1, hi2, rfl, rfl⟩ := hI
    have hcase : i = L.logs.length + 1 ∨ i = -1 ∨ i = L.logs.length ∨ (0 ≤ i ∧ i < L.logs.length) := by omega
    intro K7 hn7 hr7 he7
    rcases hcase with hc | hc | hc | hc
    · skip
      have d1 : ¬ i ≤ (L.logs.length : Int) := by omega
      refine ev_seq_k fun K8 hn8 hr8 he8 => ?_
      refine ev_seq_k fun K9 hn9 hr9 he9 => ?_
      refine ev_ops_k fun K10 hk10 => ?_
      refine evL_take 2 fun K11 hk11 => ?_
      simp only [shA, if_true, if_false, ite_true, ite_false, forall_const, ite_self, eq_self, reduceIte, reduceCtorEq, Nat.reduceEqDiff, Nat.reduceAdd, Nat.reduceLeDiff, Nat.reduceSub, Int.reduceToNat, Nat.reduceBEq, Nat.reduceMul, Nat.reduceLT, Int.reduceLE, Int.reduceLT, Nat.reduceMod, List.length_map, bne_self_eq_false, d1]
      repeat (refine ⟨by first | assumption | omega | decide | (simp; done) | (simp_all; done) | (simp; omega), ?_⟩)
      refine hk11 _ ?_
      refine evL_take 1 fun K12 hk12 => ?_
      simp only [shA, if_true, if_false, ite_true, ite_false, forall_const, ite_self, eq_self, reduceIte, reduceCtorEq, Nat.reduceEqDiff, Nat.reduceAdd, Nat.reduceLeDiff, Nat.reduceSub, Int.reduceToNat, Nat.reduceBEq, Nat.reduceMul, Nat.reduceLT, Int.reduceLE, Int.reduceLT, Nat.reduceMod, List.length_map, bne_self_eq_false, d1]
      refine Or.inl (Or.inl ⟨_, hM, ?_⟩)
      refine hk12 _ ?_
      simp only [shA, if_true, if_false, ite_true, ite_false, forall_const, ite_self, eq_self, reduceIte, reduceCtorEq, Nat.reduceEqDiff, Nat.reduceAdd, Nat.reduceLeDiff, Nat.reduceSub, Int.reduceToNat, Nat.reduceBEq, Nat.reduceMul, Nat.reduceLT, Int.reduceLE, Int.reduceLT, Nat.reduceMod, List.length_map, bne_self_eq_false, d1]
      repeat (refine ⟨by first | assumption | omega | decide | (simp; done) | (simp_all; done) | (simp; omega), ?_⟩)
      refine hk10 _ ?_
      refine hn9 (some ([2, 3, 4, 7, 13, 25, 26, 27, 28, 33, 34, 44, 45, 46, 47, 48, 58, 59, 60, 61, 62, 63, 64], none)) _ ?_
      refine ev_cond_k rfl (fun hx => absurd hx (by simp at hx)) (fun hc0 => ?_)
      clear hc0
      refine he8 0 _ ?_
      refine he7 0 _ ?_
      refine hx6 _ ?_
      refine hn3 (some ([2, 3, 4, 58, 59, 60, 61, 62, 63, 64], none)) _ ?_
      refine ev_seq_k fun K13 hn13 hr13 he13 => ?_
      refine ev_drw_k [] (n := 13) fun K14 hk14 => ?_
      simp only [List.take_succ_cons, List.take_zero, St.frzAll, St.frzSh, St.frzRow, St.frzBox, St.frzCells, St.argL, St.arg1, St.res, Sh.pure, St.setO, getA, delA, keepT, St.keep, reduceIte, Nat.reduceEqDiff, reduceCtorEq, Option.bind_some, Option.map_some, List.contains_cons, List.contains_nil, Nat.reduceBEq, Bool.or_false, Bool.or_true, Bool.false_or, beq_self_eq_true, Bool.false_eq_true]
      refine evF_take 1 fun K16 hk16 => ?_
      simp only [shA, if_true, if_false, ite_true, ite_false, forall_const, ite_self, eq_self, reduceIte, reduceCtorEq, Nat.reduceEqDiff, Nat.reduceAdd, Nat.reduceLeDiff, Nat.reduceSub, Int.reduceToNat, Nat.reduceBEq, Nat.reduceMul, Nat.reduceLT, Int.reduceLE, Int.reduceLT, Nat.reduceMod, List.length_map, bne_self_eq_false, d1]
      repeat (refine ⟨by first | assumption | omega | decide | (simp; done) | (simp_all; done) | (simp; omega), ?_⟩)
      refine hk16 _ _ _ ?_
      refine evF_take 1 fun K17 hk17 => ?_
      simp only [shA, if_true, if_false, ite_true, ite_false, forall_const, ite_self, eq_self, reduceIte, reduceCtorEq, Nat.reduceEqDiff, Nat.reduceAdd, Nat.reduceLeDiff, Nat.reduceSub, Int.reduceToNat, Nat.reduceBEq, Nat.reduceMul, Nat.reduceLT, Int.reduceLE, Int.reduceLT, Nat.reduceMod, List.length_map, bne_self_eq_false, d1]
      refine ⟨_, c1, ?_⟩
      refine hk17 _ _ _ ?_
      refine evF_take 1 fun K18 hk18 => ?_
      simp only [shA, if_true, if_false, ite_true, ite_false, forall_const, ite_self, eq_self, reduceIte, reduceCtorEq, Nat.reduceEqDiff, Nat.reduceAdd, Nat.reduceLeDiff, Nat.reduceSub, Int.reduceToNat, Nat.reduceBEq, Nat.reduceMul, Nat.reduceLT, Int.reduceLE, Int.reduceLT, Nat.reduceMod, List.length_map, bne_self_eq_false, d1]
      repeat (refine ⟨by first | assumption | omega | decide | (simp; done) | (simp_all; done) | (simp; omega), ?_⟩)
      refine hk18 _ _ _ ?_
      refine evF_take 2 fun K19 hk19 => ?_
      simp only [shA, if_true, if_false, ite_true, ite_false, forall_const, ite_self, eq_self, reduceIte, reduceCtorEq, Nat.reduceEqDiff, Nat.reduceAdd, Nat.reduceLeDiff, Nat.reduceSub, Int.reduceToNat, Nat.reduceBEq, Nat.reduceMul, Nat.reduceLT, Int.reduceLE, Int.reduceLT, Nat.reduceMod, List.length_map, bne_self_eq_false, d1]
      repeat (refine ⟨by first | assumption | omega | decide | (simp; done) | (simp_all; done) | (simp; omega), ?_⟩)
      refine hk19 _ _ _ ?_
      refine evF_take 1 fun K20 hk20 => ?_
      simp only [shA, if_true, if_false, ite_true, ite_false, forall_const, ite_self, eq_self, reduceIte, reduceCtorEq, Nat.reduceEqDiff, Nat.reduceAdd, Nat.reduceLeDiff, Nat.reduceSub, Int.reduceToNat, Nat.reduceBEq, Nat.reduceMul, Nat.reduceLT, Int.reduceLE, Int.reduceLT, Nat.reduceMod, List.length_map, bne_self_eq_false, d1]
      refine ⟨_, c2, ?_⟩
      refine hk20 _ _ _ ?_
      refine evF_take 1 fun K21 hk21 => ?_
      simp only [shA, if_true, if_false, ite_true, ite_false, forall_const, ite_self, eq_self, reduceIte, reduceCtorEq, Nat.reduceEqDiff, Nat.reduceAdd, Nat.reduceLeDiff, Nat.reduceSub, Int.reduceToNat, Nat.reduceBEq, Nat.reduceMul, Nat.reduceLT, Int.reduceLE, Int.reduceLT, Nat.reduceMod, List.length_map, bne_self_eq_false, d1]
      refine ⟨_, hs1, ?_⟩
      refine hk21 _ _ _ ?_
      refine evF_take 2 fun K22 hk22 => ?_
      simp only [shA, if_true, if_false, ite_true, ite_false, forall_const, ite_self, eq_self, reduceIte, reduceCtorEq, Nat.reduceEqDiff, Nat.reduceAdd, Nat.reduceLeDiff, Nat.reduceSub, Int.reduceToNat, Nat.reduceBEq, Nat.reduceMul, Nat.reduceLT, Int.reduceLE, Int.reduceLT, Nat.reduceMod, List.length_map, bne_self_eq_false, d1]
      repeat (refine ⟨by first | assumption | omega | decide | (simp; done) | (simp_all; done) | (simp; omega), ?_⟩)
      refine hk22 _ _ _ ?_
      refine evF_take 1 fun K23 hk23 => ?_
      simp only [shA, if_true, if_false, ite_true, ite_false, forall_const, ite_self, eq_self, reduceIte, reduceCtorEq, Nat.reduceEqDiff, Nat.reduceAdd, Nat.reduceLeDiff, Nat.reduceSub, Int.reduceToNat, Nat.reduceBEq, Nat.reduceMul, Nat.reduceLT, Int.reduceLE, Int.reduceLT, Nat.reduceMod, List.length_map, bne_self_eq_false, d1]
      refine hk23 _ _ _ ?_
      refine evF_take 1 fun K24 hk24 => ?_
      simp only [shA, if_true, if_false, ite_true, ite_false, forall_const, ite_self, eq_self, reduceIte, reduceCtorEq, Nat.reduceEqDiff, Nat.reduceAdd, Nat.reduceLeDiff, Nat.reduceSub, Int.reduceToNat, Nat.reduceBEq, Nat.reduceMul, Nat.reduceLT, Int.reduceLE, Int.reduceLT, Nat.reduceMod, List.length_map, bne_self_eq_false, d1]
      refine ⟨_, c3, ?_⟩
      refine hk24 _ _ _ ?_
      refine evF_take 1 fun K25 hk25 => ?_
      simp only [shA, if_true, if_false, ite_true, ite_false, forall_const, ite_self, eq_self, reduceIte, reduceCtorEq, Nat.reduceEqDiff, Nat.reduceAdd, Nat.reduceLeDiff, Nat.reduceSub, Int.reduceToNat, Nat.reduceBEq, Nat.reduceMul, Nat.reduceLT, Int.reduceLE, Int.reduceLT, Nat.reduceMod, List.length_map, bne_self_eq_false, d1]
      repeat (refine ⟨by first | assumption | omega | decide | (simp; done) | (simp_all; done) | (simp; omega), ?_⟩)
      refine hk25 _ _ _ ?_
      simp only [shA, if_true, if_false, ite_true, ite_false, forall_const, ite_self, eq_self, reduceIte, reduceCtorEq, Nat.reduceEqDiff, Nat.reduceAdd, Nat.reduceLeDiff, Nat.reduceSub, Int.reduceToNat, Nat.reduceBEq, Nat.reduceMul, Nat.reduceLT, Int.reduceLE, Int.reduceLT, Nat.reduceMod, List.length_map, bne_self_eq_false, d1]
      refine hk14 _ ?_
      simp only [List.drop_succ_cons, List.drop_zero]
      refine evL_take 1 fun K26 hk26 => ?_
      simp only [shA, if_true, if_false, ite_true, ite_false, forall_const, ite_self, eq_self, reduceIte, reduceCtorEq, Nat.reduceEqDiff, Nat.reduceAdd, Nat.reduceLeDiff, Nat.reduceSub, Int.reduceToNat, Nat.reduceBEq, Nat.reduceMul, Nat.reduceLT, Int.reduceLE, Int.reduceLT, Nat.reduceMod, List.length_map, bne_self_eq_false, d1]
      refine Or.inl (Or.inl ⟨_, c4, ?_⟩)
      refine hk26 _ ?_
      refine evL_take 1 fun K27 hk27 => ?_
      simp only [shA, if_true, if_false, ite_true, ite_false, forall_const, ite_self, eq_self, reduceIte, reduceCtorEq, Nat.reduceEqDiff, Nat.reduceAdd, Nat.reduceLeDiff, Nat.reduceSub, Int.reduceToNat, Nat.reduceBEq, Nat.reduceMul, Nat.reduceLT, Int.reduceLE, Int.reduceLT, Nat.reduceMod, List.length_map, bne_self_eq_false, d1]
      refine Or.inl (Or.inl ⟨_, hs2, ?_⟩)
      refine hk27 _ ?_
      simp only [shA, if_true, if_false, ite_true, ite_false, forall_const, ite_self, eq_self, reduceIte, reduceCtorEq, Nat.reduceEqDiff, Nat.reduceAdd, Nat.reduceLeDiff, Nat.reduceSub, Int.reduceToNat, Nat.reduceBEq, Nat.reduceMul, Nat.reduceLT, Int.reduceLE, Int.reduceLT, Nat.reduceMod, List.length_map, bne_self_eq_false, d1]
      refine hn13 (some ([6], none)) _ ?_
      simp only [shA, if_true, if_false, ite_true, ite_false, forall_const, ite_self, eq_self, reduceIte, reduceCtorEq, Nat.reduceEqDiff, Nat.reduceAdd, Nat.reduceLeDiff, Nat.reduceSub, Int.reduceToNat, Nat.reduceBEq, Nat.reduceMul, Nat.reduceLT, Int.reduceLE, Int.reduceLT, Nat.reduceMod, ev, fin, rv_l5same, List.length_map, bne_self_eq_false, d1]
    · skip
      have d1 : i ≤ (L.logs.length : Int) := by omega
      have d2 : i < 0 := by omega
      have d3 : keptM L i = (0, 0) := if_pos d2
      have q1 : IntKind.i64.wrap (i + 1) = i + 1 := by rw [IntKind.wrap_i64]; omega
      refine ev_seq_k fun K28 hn28 hr28 he28 => ?_
      refine ev_seq_k fun K29 hn29 hr29 he29 => ?_
      refine ev_ops_k fun K30 hk30 => ?_
      refine evL_take 2 fun K31 hk31 => ?_
      simp only [shA, if_true, if_false, ite_true, ite_false, forall_const, ite_self, eq_self, reduceIte, reduceCtorEq, Nat.reduceEqDiff, Nat.reduceAdd, Nat.reduceLeDiff, Nat.reduceSub, Int.reduceToNat, Nat.reduceBEq, Nat.reduceMul, Nat.reduceLT, Int.reduceLE, Int.reduceLT, Nat.reduceMod, List.length_map, bne_self_eq_false, d1, d2, d3, q1]
      repeat (refine ⟨by first | assumption | omega | decide | (simp; done) | (simp_all; done) | (simp; omega), ?_⟩)
      refine hk31 _ ?_
      refine evL_take 1 fun K32 hk32 => ?_
      simp only [shA, if_true, if_false, ite_true, ite_false, forall_const, ite_self, eq_self, reduceIte, reduceCtorEq, Nat.reduceEqDiff, Nat.reduceAdd, Nat.reduceLeDiff, Nat.reduceSub, Int.reduceToNat, Nat.reduceBEq, Nat.reduceMul, Nat.reduceLT, Int.reduceLE, Int.reduceLT, Nat.reduceMod, List.length_map, bne_self_eq_false, d1, d2, d3, q1]
      refine Or.inl (Or.inl ⟨_, hM, ?_⟩)
      refine hk32 _ ?_
      simp only [shA, if_true, if_false, ite_true, ite_false, forall_const, ite_self, eq_self, reduceIte, reduceCtorEq, Nat.reduceEqDiff, Nat.reduceAdd, Nat.reduceLeDiff, Nat.reduceSub, Int.reduceToNat, Nat.reduceBEq, Nat.reduceMul, Nat.reduceLT, Int.reduceLE, Int.reduceLT, Nat.reduceMod, List.length_map, bne_self_eq_false, d1, d2, d3, q1]
      repeat (refine ⟨by first | assumption | omega | decide | (simp; done) | (simp_all; done) | (simp; omega), ?_⟩)
      refine hk30 _ ?_
      refine hn29 (some ([2, 3, 4, 7, 13, 25, 26, 27, 28, 33, 34, 44, 45, 46, 47, 48, 58, 59, 60, 61, 62, 63, 64], none)) _ ?_
      refine ev_cond_k rfl (fun hc0 => ?_) (fun hx => absurd hx (by simp at hx))
      clear hc0
      refine hn28 (some ([2, 3, 4, 7, 25, 26, 27, 28, 33, 34, 44, 45, 46, 47, 48, 58, 59, 60, 61, 62, 63, 64], none)) _ ?_
      refine ev_seq_k fun K33 hn33 hr33 he33 => ?_
      refine ev_block_k fun K34 hn34 hx34 hr34 he34 => ?_
      refine ev_seq_k fun K35 hn35 hr35 he35 => ?_
      refine ev_ops_k fun K36 hk36 => ?_
      refine evL_take 1 fun K37 hk37 => ?_
      simp only [shA, if_true, if_false, ite_true, ite_false, forall_const, ite_self, eq_self, reduceIte, reduceCtorEq, Nat.reduceEqDiff, Nat.reduceAdd, Nat.reduceLeDiff, Nat.reduceSub, Int.reduceToNat, Nat.reduceBEq, Nat.reduceMul, Nat.reduceLT, Int.reduceLE, Int.reduceLT, Nat.reduceMod, List.length_map, bne_self_eq_false, d1, d2, d3, q1]
      repeat (refine ⟨by first | assumption | omega | decide | (simp; done) | (simp_all; done) | (simp; omega), ?_⟩)
      refine hk37 _ ?_
      refine evL_take 1 fun K38 hk38 => ?_
      simp only [shA, if_true, if_false, ite_true, ite_false, forall_const, ite_self, eq_self, reduceIte, reduceCtorEq, Nat.reduceEqDiff, Nat.reduceAdd, Nat.reduceLeDiff, Nat.reduceSub, Int.reduceToNat, Nat.reduceBEq, Nat.reduceMul, Nat.reduceLT, Int.reduceLE, Int.reduceLT, Nat.reduceMod, List.length_map, bne_self_eq_false, d1, d2, d3, q1]
      refine hk38 _ ?_
      refine evL_take 1 fun K39 hk39 => ?_
      simp only [shA, if_true, if_false, ite_true, ite_false, forall_const, ite_self, eq_self, reduceIte, reduceCtorEq, Nat.reduceEqDiff, Nat.reduceAdd, Nat.reduceLeDiff, Nat.reduceSub, Int.reduceToNat, Nat.reduceBEq, Nat.reduceMul, Nat.reduceLT, Int.reduceLE, Int.reduceLT, Nat.reduceMod, List.length_map, bne_self_eq_false, d1, d2, d3, q1]
      refine Or.inl (Or.inl ⟨_, ok_lKept L _, ?_⟩)
      refine hk39 _ ?_
      simp only [shA, if_true, if_false, ite_true, ite_false, forall_const, ite_self, eq_self, reduceIte, reduceCtorEq, Nat.reduceEqDiff, Nat.reduceAdd, Nat.reduceLeDiff, Nat.reduceSub, Int.reduceToNat, Nat.reduceBEq, Nat.reduceMul, Nat.reduceLT, Int.reduceLE, Int.reduceLT, Nat.reduceMod, List.length_map, bne_self_eq_false, d1, d2, d3, q1]
      refine hk36 _ ?_
      refine hn35 (some ([2, 3, 4, 7, 8, 9, 25, 26, 27, 28, 33, 34, 44, 45, 46, 47, 48, 58, 59, 60, 61, 62, 63, 64], none)) _ ?_
      refine ev_seq_k fun K40 hn40 hr40 he40 => ?_
      refine ev_ops_k fun K41 hk41 => ?_
      refine evL_take 2 fun K42 hk42 => ?_
      simp only [shA, if_true, if_false, ite_true, ite_false, forall_const, ite_self, eq_self, reduceIte, reduceCtorEq, Nat.reduceEqDiff, Nat.reduceAdd, Nat.reduceLeDiff, Nat.reduceSub, Int.reduceToNat, Nat.reduceBEq, Nat.reduceMul, Nat.reduceLT, Int.reduceLE, Int.reduceLT, Nat.reduceMod, List.length_map, bne_self_eq_false, d1, d2, d3, q1]
      repeat (refine ⟨by first | assumption | omega | decide | (simp; done) | (simp_all; done) | (simp; omega), ?_⟩)
      refine hk42 _ ?_
      refine evL_take 3 fun K43 hk43 => ?_
      simp only [shA, if_true, if_false, ite_true, ite_false, forall_const, ite_self, eq_self, reduceIte, reduceCtorEq, Nat.reduceEqDiff, Nat.reduceAdd, Nat.reduceLeDiff, Nat.reduceSub, Int.reduceToNat, Nat.reduceBEq, Nat.reduceMul, Nat.reduceLT, Int.reduceLE, Int.reduceLT, Nat.reduceMod, List.length_map, bne_self_eq_false, d1, d2, d3, q1]
      repeat (refine ⟨by first | assumption | omega | decide | (simp; done) | (simp_all; done) | (simp; omega), ?_⟩)
      refine hk43 _ ?_
      refine evL_take 1 fun K44 hk44 => ?_
      simp only [shA, if_true, if_false, ite_true, ite_false, forall_const, ite_self, eq_self, reduceIte, reduceCtorEq, Nat.reduceEqDiff, Nat.reduceAdd, Nat.reduceLeDiff, Nat.reduceSub, Int.reduceToNat, Nat.reduceBEq, Nat.reduceMul, Nat.reduceLT, Int.reduceLE, Int.reduceLT, Nat.reduceMod, List.length_map, bne_self_eq_false, d1, d2, d3, q1]
      skip
      refine hk44 _ ?_
      refine evL_take 1 fun K45 hk45 => ?_
      simp only [shA, if_true, if_false, ite_true, ite_false, forall_const, ite_self, eq_self, reduceIte, reduceCtorEq, Nat.reduceEqDiff, Nat.reduceAdd, Nat.reduceLeDiff, Nat.reduceSub, Int.reduceToNat, Nat.reduceBEq, Nat.reduceMul, Nat.reduceLT, Int.reduceLE, Int.reduceLT, Nat.reduceMod, List.length_map, bne_self_eq_false, d1, d2, d3, q1]
      repeat (refine ⟨by first | assumption | omega | decide | (simp; done) | (simp_all; done) | (simp; omega), ?_⟩)
      refine hk45 _ ?_
      simp only [shA, if_true, if_false, ite_true, ite_false, forall_const, ite_self, eq_self, reduceIte, reduceCtorEq, Nat.reduceEqDiff, Nat.reduceAdd, Nat.reduceLeDiff, Nat.reduceSub, Int.reduceToNat, Nat.reduceBEq, Nat.reduceMul, Nat.reduceLT, Int.reduceLE, Int.reduceLT, Nat.reduceMod, List.length_map, bne_self_eq_false, d1, d2, d3, q1]
      refine hk41 _ ?_
      refine hn40 (some ([2, 3, 4, 7, 8, 9, 29, 33, 34, 44, 45, 46, 47, 48, 58, 59, 60, 61, 62, 63, 64], none)) _ ?_
      refine ev_cond_k rfl (fun hc1 => ?_) (fun hx => absurd hx (by simp at hx))
      clear hc1
      refine ev_seq_k fun K46 hn46 hr46 he46 => ?_
      refine ev_ops_k fun K47 hk47 => ?_
      refine evL_take 2 fun K48 hk48 => ?_
      simp only [shA, if_true, if_false, ite_true, ite_false, forall_const, ite_self, eq_self, reduceIte, reduceCtorEq, Nat.reduceEqDiff, Nat.reduceAdd, Nat.reduceLeDiff, Nat.reduceSub, Int.reduceToNat, Nat.reduceBEq, Nat.reduceMul, Nat.reduceLT, Int.reduceLE, Int.reduceLT, Nat.reduceMod, List.length_map, bne_self_eq_false, d1, d2, d3, q1]
      repeat (refine ⟨by first | assumption | omega | decide | (simp; done) | (simp_all; done) | (simp; omega), ?_⟩)
      refine hk48 _ ?_
      refine evL_take 3 fun K49 hk49 => ?_
      simp only [shA, if_true, if_false, ite_true, ite_false, forall_const, ite_self, eq_self, reduceIte, reduceCtorEq, Nat.reduceEqDiff, Nat.reduceAdd, Nat.reduceLeDiff, Nat.reduceSub, Int.reduceToNat, Nat.reduceBEq, Nat.reduceMul, Nat.reduceLT, Int.reduceLE, Int.reduceLT, Nat.reduceMod, List.length_map, bne_self_eq_false, d1, d2, d3, q1]
      repeat (refine ⟨by first | assumption | omega | decide | (simp; done) | (simp_all; done) | (simp; omega), ?_⟩)
      refine hk49 _ ?_
      simp only [shA, if_true, if_false, ite_true, ite_false, forall_const, ite_self, eq_self, reduceIte, reduceCtorEq, Nat.reduceEqDiff, Nat.reduceAdd, Nat.reduceLeDiff, Nat.reduceSub, Int.reduceToNat, Nat.reduceBEq, Nat.reduceMul, Nat.reduceLT, Int.reduceLE, Int.reduceLT, Nat.reduceMod, List.length_map, bne_self_eq_false, d1, d2, d3, q1]
      refine hk47 _ ?_
      refine hn46 (some ([2, 3, 4, 7, 35, 58, 59, 60, 61, 62, 63, 64], none)) _ ?_
      refine ev_cond_k rfl (fun hx => absurd hx (by simp at hx)) (fun hc2 => ?_)
      clear hc2
      refine hn34 _ ?_
      refine hn33 (some ([2, 3, 4, 7, 58, 59, 60, 61, 62, 63, 64], none)) _ ?_
      refine ev_ops_k fun K50 hk50 => ?_
      refine evL_take 2 fun K51 hk51 => ?_
      simp only [shA, if_true, if_false, ite_true, ite_false, forall_const, ite_self, eq_self, reduceIte, reduceCtorEq, Nat.reduceEqDiff, Nat.reduceAdd, Nat.reduceLeDiff, Nat.reduceSub, Int.reduceToNat, Nat.reduceBEq, Nat.reduceMul, Nat.reduceLT, Int.reduceLE, Int.reduceLT, Nat.reduceMod, List.length_map, bne_self_eq_false, d1, d2, d3, q1]
      repeat (refine ⟨by first | assumption | omega | decide | (simp; done) | (simp_all; done) | (simp; omega), ?_⟩)
      refine hk51 _ ?_
      simp only [shA, if_true, if_false, ite_true, ite_false, forall_const, ite_self, eq_self, reduceIte, reduceCtorEq, Nat.reduceEqDiff, Nat.reduceAdd, Nat.reduceLeDiff, Nat.reduceSub, Int.reduceToNat, Nat.reduceBEq, Nat.reduceMul, Nat.reduceLT, Int.reduceLE, Int.reduceLT, Nat.reduceMod, List.length_map, bne_self_eq_false, d1, d2, d3, q1]
      refine hk50 _ ?_
      refine hn7 ((L.logs.length + 1 - (i + 1)).toNat) (some ([2, 3, 4, 7, 58, 59, 60, 61, 62, 63, 64], some ([0, 1], 2))) _ ?_ ?_
      all_goals try simp only [St.casts, St.cast, nilS, St.put, St.newO, St.setO, delA, List.getElem?_cons_zero, List.getElem?_cons_succ, List.set_cons_zero, List.set_cons_succ, getA, Nat.reduceEqDiff, reduceCtorEq, keepT, renT, renSh, renC, renO, renOb, idxN, List.map_cons, List.map_nil, List.length_cons, List.length_nil, Nat.reduceAdd, Nat.zero_add, decide_true, St.keep, refsT, refsO, refsL, refsC, refsOk, decide_eq_true_eq, List.contains_cons, List.contains_nil, Bool.or_false, Bool.or_true, Bool.true_or, Bool.false_or, Bool.and_true, Bool.true_and, beq_self_eq_true, Nat.reduceBEq, reduceIte, Nat.blt_eq, Nat.reduceLT, decide_true, Nat.reduceLeDiff, Bool.false_eq_true, Bool.and_eq_true, and_self, true_and, and_true]
      · omega
      · exact ⟨i + 1, by omega, by omega, rfl, (by first | rfl | rw [hj])⟩
    · skip
      have d1 : i ≤ (L.logs.length : Int) := by omega
      have d2 : ¬ i < 0 := by omega
      have d4 : (L.logs.length : Int) ≤ i := by omega
      have d3 : keptM L i = (0, 0) := by unfold keptM; rw [if_neg d2]; simp [show L.logs[i.toNat]? = none from by simp; omega]
      have q1 : IntKind.i64.wrap (i + 1) = i + 1 := by rw [IntKind.wrap_i64]; omega
      refine ev_seq_k fun K52 hn52 hr52 he52 => ?_
      refine ev_seq_k fun K53 hn53 hr53 he53 => ?_
      refine ev_ops_k fun K54 hk54 => ?_
      refine evL_take 2 fun K55 hk55 => ?_
      simp only [shA, if_true, if_false, ite_true, ite_false, forall_const, ite_self, eq_self, reduceIte, reduceCtorEq, Nat.reduceEqDiff, Nat.reduceAdd, Nat.reduceLeDiff, Nat.reduceSub, Int.reduceToNat, Nat.reduceBEq, Nat.reduceMul, Nat.reduceLT, Int.reduceLE, Int.reduceLT, Nat.reduceMod, List.length_map, bne_self_eq_false, d1, d2, d3, d4, q1]
      repeat (refine ⟨by first | assumption | omega | decide | (simp; done) | (simp_all; done) | (simp; omega), ?_⟩)
      refine hk55 _ ?_
      refine evL_take 1 fun K56 hk56 => ?_
      simp only [shA, if_true, if_false, ite_true, ite_false, forall_const, ite_self, eq_self, reduceIte, reduceCtorEq, Nat.reduceEqDiff, Nat.reduceAdd, Nat.reduceLeDiff, Nat.reduceSub, Int.reduceToNat, Nat.reduceBEq, Nat.reduceMul, Nat.reduceLT, Int.reduceLE, Int.reduceLT, Nat.reduceMod, List.length_map, bne_self_eq_false, d1, d2, d3, d4, q1]
      refine Or.inl (Or.inl ⟨_, hM, ?_⟩)
      refine hk56 _ ?_
      simp only [shA, if_true, if_false, ite_true, ite_false, forall_const, ite_self, eq_self, reduceIte, reduceCtorEq, Nat.reduceEqDiff, Nat.reduceAdd, Nat.reduceLeDiff, Nat.reduceSub, Int.reduceToNat, Nat.reduceBEq, Nat.reduceMul, Nat.reduceLT, Int.reduceLE, Int.reduceLT, Nat.reduceMod, List.length_map, bne_self_eq_false, d1, d2, d3, d4, q1]
      repeat (refine ⟨by first | assumption | omega | decide | (simp; done) | (simp_all; done) | (simp; omega), ?_⟩)
      refine hk54 _ ?_
      refine hn53 (some ([2, 3, 4, 7, 13, 25, 26, 27, 28, 33, 34, 44, 45, 46, 47, 48, 58, 59, 60, 61, 62, 63, 64], none)) _ ?_
      refine ev_cond_k rfl (fun hc0 => ?_) (fun hx => absurd hx (by simp at hx))
      clear hc0
      refine hn52 (some ([2, 3, 4, 7, 25, 26, 27, 28, 33, 34, 44, 45, 46, 47, 48, 58, 59, 60, 61, 62, 63, 64], none)) _ ?_
      refine ev_seq_k fun K57 hn57 hr57 he57 => ?_
      refine ev_block_k fun K58 hn58 hx58 hr58 he58 => ?_
      refine ev_seq_k fun K59 hn59 hr59 he59 => ?_
      refine ev_ops_k fun K60 hk60 => ?_
      refine evL_take 1 fun K61 hk61 => ?_
      simp only [shA, if_true, if_false, ite_true, ite_false, forall_const, ite_self, eq_self, reduceIte, reduceCtorEq, Nat.reduceEqDiff, Nat.reduceAdd, Nat.reduceLeDiff, Nat.reduceSub, Int.reduceToNat, Nat.reduceBEq, Nat.reduceMul, Nat.reduceLT, Int.reduceLE, Int.reduceLT, Nat.reduceMod, List.length_map, bne_self_eq_false, d1, d2, d3, d4, q1]
      repeat (refine ⟨by first | assumption | omega | decide | (simp; done) | (simp_all; done) | (simp; omega), ?_⟩)
      refine hk61 _ ?_
      refine evL_take 1 fun K62 hk62 => ?_
      simp only [shA, if_true, if_false, ite_true, ite_false, forall_const, ite_self, eq_self, reduceIte, reduceCtorEq, Nat.reduceEqDiff, Nat.reduceAdd, Nat.reduceLeDiff, Nat.reduceSub, Int.reduceToNat, Nat.reduceBEq, Nat.reduceMul, Nat.reduceLT, Int.reduceLE, Int.reduceLT, Nat.reduceMod, List.length_map, bne_self_eq_false, d1, d2, d3, d4, q1]
      refine hk62 _ ?_
      refine evL_take 1 fun K63 hk63 => ?_
      simp only [shA, if_true, if_false, ite_true, ite_false, forall_const, ite_self, eq_self, reduceIte, reduceCtorEq, Nat.reduceEqDiff, Nat.reduceAdd, Nat.reduceLeDiff, Nat.reduceSub, Int.reduceToNat, Nat.reduceBEq, Nat.reduceMul, Nat.reduceLT, Int.reduceLE, Int.reduceLT, Nat.reduceMod, List.length_map, bne_self_eq_false, d1, d2, d3, d4, q1]
      refine Or.inl (Or.inl ⟨_, ok_lKept L _, ?_⟩)
      refine hk63 _ ?_
      simp only [shA, if_true, if_false, ite_true, ite_false, forall_const, ite_self, eq_self, reduceIte, reduceCtorEq, Nat.reduceEqDiff, Nat.reduceAdd, Nat.reduceLeDiff, Nat.reduceSub, Int.reduceToNat, Nat.reduceBEq, Nat.reduceMul, Nat.reduceLT, Int.reduceLE, Int.reduceLT, Nat.reduceMod, List.length_map, bne_self_eq_false, d1, d2, d3, d4, q1]
      refine hk60 _ ?_
      refine hn59 (some ([2, 3, 4, 7, 8, 9, 25, 26, 27, 28, 33, 34, 44, 45, 46, 47, 48, 58, 59, 60, 61, 62, 63, 64], none)) _ ?_
      refine ev_seq_k fun K64 hn64 hr64 he64 => ?_
      refine ev_ops_k fun K65 hk65 => ?_
      refine evL_take 2 fun K66 hk66 => ?_
      simp only [shA, if_true, if_false, ite_true, ite_false, forall_const, ite_self, eq_self, reduceIte, reduceCtorEq, Nat.reduceEqDiff, Nat.reduceAdd, Nat.reduceLeDiff, Nat.reduceSub, Int.reduceToNat, Nat.reduceBEq, Nat.reduceMul, Nat.reduceLT, Int.reduceLE, Int.reduceLT, Nat.reduceMod, List.length_map, bne_self_eq_false, d1, d2, d3, d4, q1]
      repeat (refine ⟨by first | assumption | omega | decide | (simp; done) | (simp_all; done) | (simp; omega), ?_⟩)
      refine hk66 _ ?_
      refine evL_take 3 fun K67 hk67 => ?_
      simp only [shA, if_true, if_false, ite_true, ite_false, forall_const, ite_self, eq_self, reduceIte, reduceCtorEq, Nat.reduceEqDiff, Nat.reduceAdd, Nat.reduceLeDiff, Nat.reduceSub, Int.reduceToNat, Nat.reduceBEq, Nat.reduceMul, Nat.reduceLT, Int.reduceLE, Int.reduceLT, Nat.reduceMod, List.length_map, bne_self_eq_false, d1, d2, d3, d4, q1]
      repeat (refine ⟨by first | assumption | omega | decide | (simp; done) | (simp_all; done) | (simp; omega), ?_⟩)
      refine hk67 _ ?_
      refine evL_take 1 fun K68 hk68 => ?_
      simp only [shA, if_true, if_false, ite_true, ite_false, forall_const, ite_self, eq_self, reduceIte, reduceCtorEq, Nat.reduceEqDiff, Nat.reduceAdd, Nat.reduceLeDiff, Nat.reduceSub, Int.reduceToNat, Nat.reduceBEq, Nat.reduceMul, Nat.reduceLT, Int.reduceLE, Int.reduceLT, Nat.reduceMod, List.length_map, bne_self_eq_false, d1, d2, d3, d4, q1]
      refine Or.inl (Or.inl ⟨_, hM, ?_⟩)
      refine hk68 _ ?_
      refine evL_take 1 fun K69 hk69 => ?_
      simp only [shA, if_true, if_false, ite_true, ite_false, forall_const, ite_self, eq_self, reduceIte, reduceCtorEq, Nat.reduceEqDiff, Nat.reduceAdd, Nat.reduceLeDiff, Nat.reduceSub, Int.reduceToNat, Nat.reduceBEq, Nat.reduceMul, Nat.reduceLT, Int.reduceLE, Int.reduceLT, Nat.reduceMod, List.length_map, bne_self_eq_false, d1, d2, d3, d4, q1]
      repeat (refine ⟨by first | assumption | omega | decide | (simp; done) | (simp_all; done) | (simp; omega), ?_⟩)
      refine hk69 _ ?_
      simp only [shA, if_true, if_false, ite_true, ite_false, forall_const, ite_self, eq_self, reduceIte, reduceCtorEq, Nat.reduceEqDiff, Nat.reduceAdd, Nat.reduceLeDiff, Nat.reduceSub, Int.reduceToNat, Nat.reduceBEq, Nat.reduceMul, Nat.reduceLT, Int.reduceLE, Int.reduceLT, Nat.reduceMod, List.length_map, bne_self_eq_false, d1, d2, d3, d4, q1]
      refine hk65 _ ?_
      refine hn64 (some ([2, 3, 4, 7, 8, 9, 29, 33, 34, 44, 45, 46, 47, 48, 58, 59, 60, 61, 62, 63, 64], none)) _ ?_
      refine ev_cond_k rfl (fun hc1 => ?_) (fun hx => absurd hx (by simp at hx))
      clear hc1
      refine ev_seq_k fun K70 hn70 hr70 he70 => ?_
      refine ev_ops_k fun K71 hk71 => ?_
      refine evL_take 2 fun K72 hk72 => ?_
      simp only [shA, if_true, if_false, ite_true, ite_false, forall_const, ite_self, eq_self, reduceIte, reduceCtorEq, Nat.reduceEqDiff, Nat.reduceAdd, Nat.reduceLeDiff, Nat.reduceSub, Int.reduceToNat, Nat.reduceBEq, Nat.reduceMul, Nat.reduceLT, Int.reduceLE, Int.reduceLT, Nat.reduceMod, List.length_map, bne_self_eq_false, d1, d2, d3, d4, q1]
      repeat (refine ⟨by first | assumption | omega | decide | (simp; done) | (simp_all; done) | (simp; omega), ?_⟩)
      refine hk72 _ ?_
      refine evL_take 3 fun K73 hk73 => ?_
      simp only [shA, if_true, if_false, ite_true, ite_false, forall_const, ite_self, eq_self, reduceIte, reduceCtorEq, Nat.reduceEqDiff, Nat.reduceAdd, Nat.reduceLeDiff, Nat.reduceSub, Int.reduceToNat, Nat.reduceBEq, Nat.reduceMul, Nat.reduceLT, Int.reduceLE, Int.reduceLT, Nat.reduceMod, List.length_map, bne_self_eq_false, d1, d2, d3, d4, q1]
      repeat (refine ⟨by first | assumption | omega | decide | (simp; done) | (simp_all; done) | (simp; omega), ?_⟩)
      refine hk73 _ ?_
      simp only [shA, if_true, if_false, ite_true, ite_false, forall_const, ite_self, eq_self, reduceIte, reduceCtorEq, Nat.reduceEqDiff, Nat.reduceAdd, Nat.reduceLeDiff, Nat.reduceSub, Int.reduceToNat, Nat.reduceBEq, Nat.reduceMul, Nat.reduceLT, Int.reduceLE, Int.reduceLT, Nat.reduceMod, List.length_map, bne_self_eq_false, d1, d2, d3, d4, q1]
      refine hk71 _ ?_
      refine hn70 (some ([2, 3, 4, 7, 35, 58, 59, 60, 61, 62, 63, 64], none)) _ ?_
      refine ev_cond_k rfl (fun hx => absurd hx (by simp at hx)) (fun hc2 => ?_)
      clear hc2
      refine hn58 _ ?_
      refine hn57 (some ([2, 3, 4, 7, 58, 59, 60, 61, 62, 63, 64], none)) _ ?_
      refine ev_ops_k fun K74 hk74 => ?_
      refine evL_take 2 fun K75 hk75 => ?_
      simp only [shA, if_true, if_false, ite_true, ite_false, forall_const, ite_self, eq_self, reduceIte, reduceCtorEq, Nat.reduceEqDiff, Nat.reduceAdd, Nat.reduceLeDiff, Nat.reduceSub, Int.reduceToNat, Nat.reduceBEq, Nat.reduceMul, Nat.reduceLT, Int.reduceLE, Int.reduceLT, Nat.reduceMod, List.length_map, bne_self_eq_false, d1, d2, d3, d4, q1]
      repeat (refine ⟨by first | assumption | omega | decide | (simp; done) | (simp_all; done) | (simp; omega), ?_⟩)
      refine hk75 _ ?_
      simp only [shA, if_true, if_false, ite_true, ite_false, forall_const, ite_self, eq_self, reduceIte, reduceCtorEq, Nat.reduceEqDiff, Nat.reduceAdd, Nat.reduceLeDiff, Nat.reduceSub, Int.reduceToNat, Nat.reduceBEq, Nat.reduceMul, Nat.reduceLT, Int.reduceLE, Int.reduceLT, Nat.reduceMod, List.length_map, bne_self_eq_false, d1, d2, d3, d4, q1]
      refine hk74 _ ?_
      refine hn7 ((L.logs.length + 1 - (i + 1)).toNat) (some ([2, 3, 4, 7, 58, 59, 60, 61, 62, 63, 64], some ([0, 1], 2))) _ ?_ ?_
      all_goals try simp only [St.casts, St.cast, nilS, St.put, St.newO, St.setO, delA, List.getElem?_cons_zero, List.getElem?_cons_succ, List.set_cons_zero, List.set_cons_succ, getA, Nat.reduceEqDiff, reduceCtorEq, keepT, renT, renSh, renC, renO, renOb, idxN, List.map_cons, List.map_nil, List.length_cons, List.length_nil, Nat.reduceAdd, Nat.zero_add, decide_true, St.keep, refsT, refsO, refsL, refsC, refsOk, decide_eq_true_eq, List.contains_cons, List.contains_nil, Bool.or_false, Bool.or_true, Bool.true_or, Bool.false_or, Bool.and_true, Bool.true_and, beq_self_eq_true, Nat.reduceBEq, reduceIte, Nat.blt_eq, Nat.reduceLT, decide_true, Nat.reduceLeDiff, Bool.false_eq_true, Bool.and_eq_true, and_self, true_and, and_true]
      · omega
      · exact ⟨i + 1, by omega, by omega, rfl, (by first | rfl | rw [hj])⟩
    · skip
      obtain ⟨j, hj⟩ := Int.eq_ofNat_of_zero_le hc.1
      obtain ⟨y, hy⟩ : ∃ y, L.logs[j]? = some y := ⟨_, List.getElem?_eq_getElem (by omega)⟩
      have d1 : (j : Int) ≤ (L.logs.length : Int) := by omega
      have d2 : ¬ (j : Int) < 0 := by omega
      have d4 : ¬ (L.logs.length : Int) ≤ (j : Int) := by omega
      have d3 : keptM L (j : Int) = (y.kept, (y.stores.length : Int)) := by unfold keptM; rw [if_neg d2]; simp [hy]
      have d5 : R.kept[j]? = some y.kept := by rw [h.kept, List.getElem?_map, hy]; rfl
      have d6 := rel_log h hy
      have q1 : IntKind.i64.wrap ((j : Int) + 1) = (j : Int) + 1 := by rw [IntKind.wrap_i64]; omega
      have hcL := ok_r5Log g R j hpl (by omega)
      rw [d6] at hcL
      refine ev_seq_k fun K76 hn76 hr76 he76 => ?_
      refine ev_seq_k fun K77 hn77 hr77 he77 => ?_
      refine ev_ops_k fun K78 hk78 => ?_
      refine evL_take 2 fun K79 hk79 => ?_
      simp only [shA, if_true, if_false, ite_true, ite_false, forall_const, ite_self, eq_self, reduceIte, reduceCtorEq, Nat.reduceEqDiff, Nat.reduceAdd, Nat.reduceLeDiff, Nat.reduceSub, Int.reduceToNat, Nat.reduceBEq, Nat.reduceMul, Nat.reduceLT, Int.reduceLE, Int.reduceLT, Nat.reduceMod, List.length_map, bne_self_eq_false, hj, d1, d2, d3, d4, d5, q1, List.getElem?_map, Int.toNat_natCast]
      repeat (refine ⟨by first | assumption | omega | decide | (simp; done) | (simp_all; done) | (simp; omega), ?_⟩)
      refine hk79 _ ?_
      refine evL_take 1 fun K80 hk80 => ?_
      simp only [shA, if_true, if_false, ite_true, ite_false, forall_const, ite_self, eq_self, reduceIte, reduceCtorEq, Nat.reduceEqDiff, Nat.reduceAdd, Nat.reduceLeDiff, Nat.reduceSub, Int.reduceToNat, Nat.reduceBEq, Nat.reduceMul, Nat.reduceLT, Int.reduceLE, Int.reduceLT, Nat.reduceMod, List.length_map, bne_self_eq_false, hj, d1, d2, d3, d4, d5, q1, List.getElem?_map, Int.toNat_natCast]
      refine Or.inl (Or.inl ⟨_, hM, ?_⟩)
      refine hk80 _ ?_
      simp only [shA, if_true, if_false, ite_true, ite_false, forall_const, ite_self, eq_self, reduceIte, reduceCtorEq, Nat.reduceEqDiff, Nat.reduceAdd, Nat.reduceLeDiff, Nat.reduceSub, Int.reduceToNat, Nat.reduceBEq, Nat.reduceMul, Nat.reduceLT, Int.reduceLE, Int.reduceLT, Nat.reduceMod, List.length_map, bne_self_eq_false, hj, d1, d2, d3, d4, d5, q1, List.getElem?_map, Int.toNat_natCast]
      repeat (refine ⟨by first | assumption | omega | decide | (simp; done) | (simp_all; done) | (simp; omega), ?_⟩)
      refine hk78 _ ?_
      refine hn77 (some ([2, 3, 4, 7, 13, 25, 26, 27, 28, 33, 34, 44, 45, 46, 47, 48, 58, 59, 60, 61, 62, 63, 64], none)) _ ?_
      refine ev_cond_k rfl (fun hc0 => ?_) (fun hx => absurd hx (by simp at hx))
      clear hc0
      refine hn76 (some ([2, 3, 4, 7, 25, 26, 27, 28, 33, 34, 44, 45, 46, 47, 48, 58, 59, 60, 61, 62, 63, 64], none)) _ ?_
      refine ev_seq_k fun K81 hn81 hr81 he81 => ?_
      refine ev_block_k fun K82 hn82 hx82 hr82 he82 => ?_
      refine ev_seq_k fun K83 hn83 hr83 he83 => ?_
      refine ev_ops_k fun K84 hk84 => ?_
      refine evL_take 1 fun K85 hk85 => ?_
      simp only [shA, if_true, if_false, ite_true, ite_false, forall_const, ite_self, eq_self, reduceIte, reduceCtorEq, Nat.reduceEqDiff, Nat.reduceAdd, Nat.reduceLeDiff, Nat.reduceSub, Int.reduceToNat, Nat.reduceBEq, Nat.reduceMul, Nat.reduceLT, Int.reduceLE, Int.reduceLT, Nat.reduceMod, List.length_map, bne_self_eq_false, hj, d1, d2, d3, d4, d5, q1, List.getElem?_map, Int.toNat_natCast]
      repeat (refine ⟨by first | assumption | omega | decide | (simp; done) | (simp_all; done) | (simp; omega), ?_⟩)
      refine hk85 _ ?_
      refine evL_take 1 fun K86 hk86 => ?_
      simp only [shA, if_true, if_false, ite_true, ite_false, forall_const, ite_self, eq_self, reduceIte, reduceCtorEq, Nat.reduceEqDiff, Nat.reduceAdd, Nat.reduceLeDiff, Nat.reduceSub, Int.reduceToNat, Nat.reduceBEq, Nat.reduceMul, Nat.reduceLT, Int.reduceLE, Int.reduceLT, Nat.reduceMod, List.length_map, bne_self_eq_false, hj, d1, d2, d3, d4, d5, q1, List.getElem?_map, Int.toNat_natCast]
      refine hk86 _ ?_
      refine evL_take 1 fun K87 hk87 => ?_
      simp only [shA, if_true, if_false, ite_true, ite_false, forall_const, ite_self, eq_self, reduceIte, reduceCtorEq, Nat.reduceEqDiff, Nat.reduceAdd, Nat.reduceLeDiff, Nat.reduceSub, Int.reduceToNat, Nat.reduceBEq, Nat.reduceMul, Nat.reduceLT, Int.reduceLE, Int.reduceLT, Nat.reduceMod, List.length_map, bne_self_eq_false, hj, d1, d2, d3, d4, d5, q1, List.getElem?_map, Int.toNat_natCast]
      refine Or.inl (Or.inl ⟨_, ok_lKept L _, ?_⟩)
      refine hk87 _ ?_
      simp only [shA, if_true, if_false, ite_true, ite_false, forall_const, ite_self, eq_self, reduceIte, reduceCtorEq, Nat.reduceEqDiff, Nat.reduceAdd, Nat.reduceLeDiff, Nat.reduceSub, Int.reduceToNat, Nat.reduceBEq, Nat.reduceMul, Nat.reduceLT, Int.reduceLE, Int.reduceLT, Nat.reduceMod, List.length_map, bne_self_eq_false, hj, d1, d2, d3, d4, d5, q1, List.getElem?_map, Int.toNat_natCast]
      refine hk84 _ ?_
      refine hn83 (some ([2, 3, 4, 7, 8, 9, 25, 26, 27, 28, 33, 34, 44, 45, 46, 47, 48, 58, 59, 60, 61, 62, 63, 64], none)) _ ?_
      refine ev_seq_k fun K88 hn88 hr88 he88 => ?_
      refine ev_ops_k fun K89 hk89 => ?_
      refine evL_take 2 fun K90 hk90 => ?_
      simp only [shA, if_true, if_false, ite_true, ite_false, forall_const, ite_self, eq_self, reduceIte, reduceCtorEq, Nat.reduceEqDiff, Nat.reduceAdd, Nat.reduceLeDiff, Nat.reduceSub, Int.reduceToNat, Nat.reduceBEq, Nat.reduceMul, Nat.reduceLT, Int.reduceLE, Int.reduceLT, Nat.reduceMod, List.length_map, bne_self_eq_false, hj, d1, d2, d3, d4, d5, q1, List.getElem?_map, Int.toNat_natCast]
      repeat (refine ⟨by first | assumption | omega | decide | (simp; done) | (simp_all; done) | (simp; omega), ?_⟩)
      refine hk90 _ ?_
      refine evL_take 3 fun K91 hk91 => ?_
      simp only [shA, if_true, if_false, ite_true, ite_false, forall_const, ite_self, eq_self, reduceIte, reduceCtorEq, Nat.reduceEqDiff, Nat.reduceAdd, Nat.reduceLeDiff, Nat.reduceSub, Int.reduceToNat, Nat.reduceBEq, Nat.reduceMul, Nat.reduceLT, Int.reduceLE, Int.reduceLT, Nat.reduceMod, List.length_map, bne_self_eq_false, hj, d1, d2, d3, d4, d5, q1, List.getElem?_map, Int.toNat_natCast]
      repeat (refine ⟨by first | assumption | omega | decide | (simp; done) | (simp_all; done) | (simp; omega), ?_⟩)
      refine hk91 _ ?_
      refine evL_take 1 fun K92 hk92 => ?_
      simp only [shA, if_true, if_false, ite_true, ite_false, forall_const, ite_self, eq_self, reduceIte, reduceCtorEq, Nat.reduceEqDiff, Nat.reduceAdd, Nat.reduceLeDiff, Nat.reduceSub, Int.reduceToNat, Nat.reduceBEq, Nat.reduceMul, Nat.reduceLT, Int.reduceLE, Int.reduceLT, Nat.reduceMod, List.length_map, bne_self_eq_false, hj, d1, d2, d3, d4, d5, q1, List.getElem?_map, Int.toNat_natCast]
      refine Or.inl (Or.inl ⟨_, hM, ?_⟩)
      refine hk92 _ ?_
      refine evL_take 1 fun K93 hk93 => ?_
      simp only [shA, if_true, if_false, ite_true, ite_false, forall_const, ite_self, eq_self, reduceIte, reduceCtorEq, Nat.reduceEqDiff, Nat.reduceAdd, Nat.reduceLeDiff, Nat.reduceSub, Int.reduceToNat, Nat.reduceBEq, Nat.reduceMul, Nat.reduceLT, Int.reduceLE, Int.reduceLT, Nat.reduceMod, List.length_map, bne_self_eq_false, hj, d1, d2, d3, d4, d5, q1, List.getElem?_map, Int.toNat_natCast]
      repeat (refine ⟨by first | assumption | omega | decide | (simp; done) | (simp_all; done) | (simp; omega), ?_⟩)
      refine hk93 _ ?_
      simp only [shA, if_true, if_false, ite_true, ite_false, forall_const, ite_self, eq_self, reduceIte, reduceCtorEq, Nat.reduceEqDiff, Nat.reduceAdd, Nat.reduceLeDiff, Nat.reduceSub, Int.reduceToNat, Nat.reduceBEq, Nat.reduceMul, Nat.reduceLT, Int.reduceLE, Int.reduceLT, Nat.reduceMod, List.length_map, bne_self_eq_false, hj, d1, d2, d3, d4, d5, q1, List.getElem?_map, Int.toNat_natCast]
      refine hk89 _ ?_
      refine hn88 (some ([2, 3, 4, 7, 8, 9, 29, 33, 34, 44, 45, 46, 47, 48, 58, 59, 60, 61, 62, 63, 64], none)) _ ?_
      refine ev_cond_k rfl (fun hx => absurd hx (by simp at hx)) (fun hc1 => ?_)
      clear hc1
      refine ev_seq_k fun K94 hn94 hr94 he94 => ?_
      refine ev_ops_k fun K95 hk95 => ?_
      refine evL_take 3 fun K96 hk96 => ?_
      simp only [shA, if_true, if_false, ite_true, ite_false, forall_const, ite_self, eq_self, reduceIte, reduceCtorEq, Nat.reduceEqDiff, Nat.reduceAdd, Nat.reduceLeDiff, Nat.reduceSub, Int.reduceToNat, Nat.reduceBEq, Nat.reduceMul, Nat.reduceLT, Int.reduceLE, Int.reduceLT, Nat.reduceMod, List.length_map, bne_self_eq_false, hj, d1, d2, d3, d4, d5, q1, List.getElem?_map, Int.toNat_natCast]
      repeat (refine ⟨by first | assumption | omega | decide | (simp; done) | (simp_all; done) | (simp; omega), ?_⟩)
      refine hk96 _ ?_
      refine evL_take 2 fun K97 hk97 => ?_
      simp only [shA, if_true, if_false, ite_true, ite_false, forall_const, ite_self, eq_self, reduceIte, reduceCtorEq, Nat.reduceEqDiff, Nat.reduceAdd, Nat.reduceLeDiff, Nat.reduceSub, Int.reduceToNat, Nat.reduceBEq, Nat.reduceMul, Nat.reduceLT, Int.reduceLE, Int.reduceLT, Nat.reduceMod, List.length_map, bne_self_eq_false, hj, d1, d2, d3, d4, d5, q1, List.getElem?_map, Int.toNat_natCast]
      repeat (refine ⟨by first | assumption | omega | decide | (simp; done) | (simp_all; done) | (simp; omega), ?_⟩)
      refine hk97 _ ?_
      refine evL_take 1 fun K98 hk98 => ?_
      simp only [shA, if_true, if_false, ite_true, ite_false, forall_const, ite_self, eq_self, reduceIte, reduceCtorEq, Nat.reduceEqDiff, Nat.reduceAdd, Nat.reduceLeDiff, Nat.reduceSub, Int.reduceToNat, Nat.reduceBEq, Nat.reduceMul, Nat.reduceLT, Int.reduceLE, Int.reduceLT, Nat.reduceMod, List.length_map, bne_self_eq_false, hj, d1, d2, d3, d4, d5, q1, List.getElem?_map, Int.toNat_natCast]
      repeat (refine ⟨by first | assumption | omega | decide | (simp; done) | (simp_all; done) | (simp; omega), ?_⟩)
      refine hk98 _ ?_
      refine evL_take 1 fun K99 hk99 => ?_
      simp only [shA, if_true, if_false, ite_true, ite_false, forall_const, ite_self, eq_self, reduceIte, reduceCtorEq, Nat.reduceEqDiff, Nat.reduceAdd, Nat.reduceLeDiff, Nat.reduceSub, Int.reduceToNat, Nat.reduceBEq, Nat.reduceMul, Nat.reduceLT, Int.reduceLE, Int.reduceLT, Nat.reduceMod, List.length_map, bne_self_eq_false, hj, d1, d2, d3, d4, d5, q1, List.getElem?_map, Int.toNat_natCast]
      repeat (refine ⟨by first | assumption | omega | decide | (simp; done) | (simp_all; done) | (simp; omega), ?_⟩)
      refine hk99 _ ?_
      refine evL_take 3 fun K100 hk100 => ?_
      simp only [shA, if_true, if_false, ite_true, ite_false, forall_const, ite_self, eq_self, reduceIte, reduceCtorEq, Nat.reduceEqDiff, Nat.reduceAdd, Nat.reduceLeDiff, Nat.reduceSub, Int.reduceToNat, Nat.reduceBEq, Nat.reduceMul, Nat.reduceLT, Int.reduceLE, Int.reduceLT, Nat.reduceMod, List.length_map, bne_self_eq_false, hj, d1, d2, d3, d4, d5, q1, List.getElem?_map, Int.toNat_natCast]
      repeat (refine ⟨by first | assumption | omega | decide | (simp; done) | (simp_all; done) | (simp; omega), ?_⟩)
      refine hk100 _ ?_
      refine evL_take 1 fun K101 hk101 => ?_
      simp only [shA, if_true, if_false, ite_true, ite_false, forall_const, ite_self, eq_self, reduceIte, reduceCtorEq, Nat.reduceEqDiff, Nat.reduceAdd, Nat.reduceLeDiff, Nat.reduceSub, Int.reduceToNat, Nat.reduceBEq, Nat.reduceMul, Nat.reduceLT, Int.reduceLE, Int.reduceLT, Nat.reduceMod, List.length_map, bne_self_eq_false, hj, d1, d2, d3, d4, d5, q1, List.getElem?_map, Int.toNat_natCast]
      refine hk101 _ ?_
      refine evL_take 1 fun K102 hk102 => ?_
      simp only [shA, if_true, if_false, ite_true, ite_false, forall_const, ite_self, eq_self, reduceIte, reduceCtorEq, Nat.reduceEqDiff, Nat.reduceAdd, Nat.reduceLeDiff, Nat.reduceSub, Int.reduceToNat, Nat.reduceBEq, Nat.reduceMul, Nat.reduceLT, Int.reduceLE, Int.reduceLT, Nat.reduceMod, List.length_map, bne_self_eq_false, hj, d1, d2, d3, d4, d5, q1, List.getElem?_map, Int.toNat_natCast]
      refine Or.inl (Or.inl ⟨_, hcL, ?_⟩)
      refine hk102 _ ?_
      refine evL_take 1 fun K103 hk103 => ?_
      simp only [shA, if_true, if_false, ite_true, ite_false, forall_const, ite_self, eq_self, reduceIte, reduceCtorEq, Nat.reduceEqDiff, Nat.reduceAdd, Nat.reduceLeDiff, Nat.reduceSub, Int.reduceToNat, Nat.reduceBEq, Nat.reduceMul, Nat.reduceLT, Int.reduceLE, Int.reduceLT, Nat.reduceMod, List.length_map, bne_self_eq_false, hj, d1, d2, d3, d4, d5, q1, List.getElem?_map, Int.toNat_natCast]
      repeat (refine ⟨by first | assumption | omega | decide | (simp; done) | (simp_all; done) | (simp; omega), ?_⟩)
      refine hk103 _ ?_
      simp only [shA, if_true, if_false, ite_true, ite_false, forall_const, ite_self, eq_self, reduceIte, reduceCtorEq, Nat.reduceEqDiff, Nat.reduceAdd, Nat.reduceLeDiff, Nat.reduceSub, Int.reduceToNat, Nat.reduceBEq, Nat.reduceMul, Nat.reduceLT, Int.reduceLE, Int.reduceLT, Nat.reduceMod, List.length_map, bne_self_eq_false, hj, d1, d2, d3, d4, d5, q1, List.getElem?_map, Int.toNat_natCast]
      refine hk95 _ ?_
      refine hn94 (some ([2, 3, 4, 7, 49, 58, 59, 60, 61, 62, 63, 64], none)) _ ?_
      refine ev_cond_k rfl (fun hx => absurd hx (by simp at hx)) (fun hc3 => ?_)
      clear hc3
      refine hn82 _ ?_
      refine hn81 (some ([2, 3, 4, 7, 58, 59, 60, 61, 62, 63, 64], none)) _ ?_
      refine ev_ops_k fun K104 hk104 => ?_
      refine evL_take 2 fun K105 hk105 => ?_
      simp only [shA, if_true, if_false, ite_true, ite_false, forall_const, ite_self, eq_self, reduceIte, reduceCtorEq, Nat.reduceEqDiff, Nat.reduceAdd, Nat.reduceLeDiff, Nat.reduceSub, Int.reduceToNat, Nat.reduceBEq, Nat.reduceMul, Nat.reduceLT, Int.reduceLE, Int.reduceLT, Nat.reduceMod, List.length_map, bne_self_eq_false, hj, d1, d2, d3, d4, d5, q1, List.getElem?_map, Int.toNat_natCast]
      repeat (refine ⟨by first | assumption | omega | decide | (simp; done) | (simp_all; done) | (simp; omega), ?_⟩)
      refine hk105 _ ?_
      simp only [shA, if_true, if_false, ite_true, ite_false, forall_const, ite_self, eq_self, reduceIte, reduceCtorEq, Nat.reduceEqDiff, Nat.reduceAdd, Nat.reduceLeDiff, Nat.reduceSub, Int.reduceToNat, Nat.reduceBEq, Nat.reduceMul, Nat.reduceLT, Int.reduceLE, Int.reduceLT, Nat.reduceMod, List.length_map, bne_self_eq_false, hj, d1, d2, d3, d4, d5, q1, List.getElem?_map, Int.toNat_natCast]
      refine hk104 _ ?_
      refine hn7 ((L.logs.length + 1 - (i + 1)).toNat) (some ([2, 3, 4, 7, 58, 59, 60, 61, 62, 63, 64], some ([0, 1], 2))) _ ?_ ?_
      all_goals try simp only [St.casts, St.cast, nilS, St.put, St.newO, St.setO, delA, List.getElem?_cons_zero, List.getElem?_cons_succ, List.set_cons_zero, List.set_cons_succ, getA, Nat.reduceEqDiff, reduceCtorEq, keepT, renT, renSh, renC, renO, renOb, idxN, List.map_cons, List.map_nil, List.length_cons, List.length_nil, Nat.reduceAdd, Nat.zero_add, decide_true, St.keep, refsT, refsO, refsL, refsC, refsOk, decide_eq_true_eq, List.contains_cons, List.contains_nil, Bool.or_false, Bool.or_true, Bool.true_or, Bool.false_or, Bool.and_true, Bool.true_and, beq_self_eq_true, Nat.reduceBEq, reduceIte, Nat.blt_eq, Nat.reduceLT, decide_true, Nat.reduceLeDiff, Bool.false_eq_true, Bool.and_eq_true, and_self, true_and, and_true]
      · omega
      · exact ⟨i + 1, by omega, by omega, rfl, (by first | rfl | rw [hj])⟩
end Go.Proofs.Ytlbhfpcbbembgaa
