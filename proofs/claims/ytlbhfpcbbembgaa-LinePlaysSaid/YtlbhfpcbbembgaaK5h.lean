/-
  Layer 5 by shadows: the example of the chapter.
-/
import Derived.Test.YtlbhfpcbbembgaaK5g
namespace Go.Proofs.Ytlbhfpcbbembgaa
set_option linter.unusedSimpArgs false
set_option linter.unusedVariables false
open Go.RowKit Go.Maps

set_option maxHeartbeats 4000000 in
theorem ok_l5awake : Ok 24 [] (sB true) := by
  refine ok_of_tr Try.func24 tr_l5awake rfl ?_
  have k5 : ∀ {L n}, LGood L n → n ≤ 1000 → ∀ y ∈ L.logs, y.stores.length ≤ 1000 := fun h hn y hy => Nat.le_trans (h.most y hy) hn
  have c1 := ok_lStore (newM w8) 0 ⟨5, 0, 0⟩ (by decide) (by decide) (good_new w8 (by decide)).lines.many (good_new w8 (by decide)).lines.most (k5 (good_new w8 (by decide)) (by decide))
  have c2 := ok_lStore ex1 1 ⟨6, 0, 0⟩ (by decide) (by decide) good1.lines.many good1.lines.most (k5 good1 (by decide))
  have c3 := ok_lFlush ex2 1 0 good2.lines good2.asks (by decide) (by decide)
  have c4 := ok_lStore ex3 0 ⟨7, 0, 0⟩ (by decide) (by decide) good3.lines.many good3.lines.most (k5 good3 (by decide))
  have c5 := ok_lSync ex4 1 good4.lines good4.asks (by decide)
  have c6 := ok_lKept ex5 0
  have c7 := fun c => ok_lCrash ex5 c good5.lines (k5 good5 (by decide))
  have c0 := ok_lineNew 0 w8 (by decide)
  have cm := ok_lMix 3 0 1 (by decide)
  rw [ex_m] at cm
  rw [ex_kept] at c6
  obtain ⟨a0, a1, al⟩ := ex_a
  obtain ⟨b0, bl⟩ := ex_b
  obtain ⟨d0, d1, dl⟩ := ex_c
  have hw8 : List.replicate 8 [Sh.v (Value.int .i64 0), .v (.int .u32 0), .v (.int .u32 0)] = w8.map eWord := rfl
  change Ok _ _ (.tup [eLines ex1, sI 0]) at c1
  change Ok _ _ (.tup [eLines ex2, sI 0]) at c2
  change Ok _ _ (.tup [eLines ex3, sI 0]) at c3
  change Ok _ _ (.tup [eLines ex4, sI 0]) at c4
  change Ok _ _ (.tup [eLines ex5, sI 0]) at c5
  generalize newM w8 = L0 at c0 c1
  generalize ex1 = L1 at c1 c2
  generalize ex2 = L2 at c2 c3
  generalize ex3 = L3 at c3 c4
  generalize ex4 = L4 at c4 c5
  generalize ex5 = L5 at c5 c6 c7 a0 a1 al b0 bl d0 d1 dl
  generalize w8 = W at c0 hw8
  have h88 : ((8 : Nat) : Int) = 8 := rfl
  unfold evFn sc_l5awake
  refine ev_seq_k fun K1 hn1 hr1 he1 => ?_
  refine ev_ops_k fun K2 hk2 => ?_
  simp only [shA, if_true, if_false, ite_true, ite_false, forall_const, ite_self, eq_self, reduceIte, reduceCtorEq, Nat.reduceEqDiff, Nat.reduceAdd, Nat.reduceLeDiff, Nat.reduceSub, Int.reduceToNat, Nat.reduceBEq, Nat.reduceMul, Nat.reduceLT, Int.reduceLE, Int.reduceLT, Nat.reduceMod, bne_self_eq_false, Int.reduceBEq, Int.reduceBNe, h88, hw8, a0, a1, al, b0, bl, d0, d1, dl, List.length_map, List.getElem?_map]
  refine hk2 _ ?_
  refine hn1 (some ([56, 57, 60, 61, 62, 65, 66, 67, 70, 71, 72, 77, 78, 81, 82, 83, 84, 85, 88, 89, 90, 91, 92, 95, 96, 97, 98, 99, 102, 103, 104, 105, 106, 109, 110, 111, 112, 113, 116, 117], none)) _ ?_
  refine ev_seq_k fun K3 hn3 hr3 he3 => ?_
  refine ev_ops_k fun K4 hk4 => ?_
  refine evL_take 1 fun K5 hk5 => ?_
  simp only [shA, if_true, if_false, ite_true, ite_false, forall_const, ite_self, eq_self, reduceIte, reduceCtorEq, Nat.reduceEqDiff, Nat.reduceAdd, Nat.reduceLeDiff, Nat.reduceSub, Int.reduceToNat, Nat.reduceBEq, Nat.reduceMul, Nat.reduceLT, Int.reduceLE, Int.reduceLT, Nat.reduceMod, bne_self_eq_false, Int.reduceBEq, Int.reduceBNe, h88, hw8, a0, a1, al, b0, bl, d0, d1, dl, List.length_map, List.getElem?_map]
  repeat (refine ⟨by first | assumption | omega | decide | (simp; done) | (simp_all; done) | (simp; omega), ?_⟩)
  refine hk5 _ ?_
  refine evL_take 1 fun K6 hk6 => ?_
  simp only [shA, if_true, if_false, ite_true, ite_false, forall_const, ite_self, eq_self, reduceIte, reduceCtorEq, Nat.reduceEqDiff, Nat.reduceAdd, Nat.reduceLeDiff, Nat.reduceSub, Int.reduceToNat, Nat.reduceBEq, Nat.reduceMul, Nat.reduceLT, Int.reduceLE, Int.reduceLT, Nat.reduceMod, bne_self_eq_false, Int.reduceBEq, Int.reduceBNe, h88, hw8, a0, a1, al, b0, bl, d0, d1, dl, List.length_map, List.getElem?_map]
  refine Or.inl (Or.inl ⟨_, c0, ?_⟩)
  refine hk6 _ ?_
  refine evL_take 5 fun K7 hk7 => ?_
  simp only [shA, if_true, if_false, ite_true, ite_false, forall_const, ite_self, eq_self, reduceIte, reduceCtorEq, Nat.reduceEqDiff, Nat.reduceAdd, Nat.reduceLeDiff, Nat.reduceSub, Int.reduceToNat, Nat.reduceBEq, Nat.reduceMul, Nat.reduceLT, Int.reduceLE, Int.reduceLT, Nat.reduceMod, bne_self_eq_false, Int.reduceBEq, Int.reduceBNe, h88, hw8, a0, a1, al, b0, bl, d0, d1, dl, List.length_map, List.getElem?_map]
  repeat (refine ⟨by first | assumption | omega | decide | (simp; done) | (simp_all; done) | (simp; omega), ?_⟩)
  refine hk7 _ ?_
  simp only [shA, if_true, if_false, ite_true, ite_false, forall_const, ite_self, eq_self, reduceIte, reduceCtorEq, Nat.reduceEqDiff, Nat.reduceAdd, Nat.reduceLeDiff, Nat.reduceSub, Int.reduceToNat, Nat.reduceBEq, Nat.reduceMul, Nat.reduceLT, Int.reduceLE, Int.reduceLT, Nat.reduceMod, bne_self_eq_false, Int.reduceBEq, Int.reduceBNe, h88, hw8, a0, a1, al, b0, bl, d0, d1, dl, List.length_map, List.getElem?_map]
  refine hk4 _ ?_
  refine hn3 (some ([1, 2, 56, 57, 60, 61, 62, 65, 66, 67, 70, 71, 72, 77, 78, 81, 82, 83, 84, 85, 88, 89, 90, 91, 92, 95, 96, 97, 98, 99, 102, 103, 104, 105, 106, 109, 110, 111, 112, 113, 116, 117], none)) _ ?_
  refine ev_seq_k fun K8 hn8 hr8 he8 => ?_
  refine ev_ops_k fun K9 hk9 => ?_
  refine evL_take 1 fun K10 hk10 => ?_
  simp only [shA, if_true, if_false, ite_true, ite_false, forall_const, ite_self, eq_self, reduceIte, reduceCtorEq, Nat.reduceEqDiff, Nat.reduceAdd, Nat.reduceLeDiff, Nat.reduceSub, Int.reduceToNat, Nat.reduceBEq, Nat.reduceMul, Nat.reduceLT, Int.reduceLE, Int.reduceLT, Nat.reduceMod, bne_self_eq_false, Int.reduceBEq, Int.reduceBNe, h88, hw8, a0, a1, al, b0, bl, d0, d1, dl, List.length_map, List.getElem?_map]
  repeat (refine ⟨by first | assumption | omega | decide | (simp; done) | (simp_all; done) | (simp; omega), ?_⟩)
  refine hk10 _ ?_
  refine evL_take 1 fun K11 hk11 => ?_
  simp only [shA, if_true, if_false, ite_true, ite_false, forall_const, ite_self, eq_self, reduceIte, reduceCtorEq, Nat.reduceEqDiff, Nat.reduceAdd, Nat.reduceLeDiff, Nat.reduceSub, Int.reduceToNat, Nat.reduceBEq, Nat.reduceMul, Nat.reduceLT, Int.reduceLE, Int.reduceLT, Nat.reduceMod, bne_self_eq_false, Int.reduceBEq, Int.reduceBNe, h88, hw8, a0, a1, al, b0, bl, d0, d1, dl, List.length_map, List.getElem?_map]
  refine hk11 _ ?_
  refine evL_take 1 fun K12 hk12 => ?_
  simp only [shA, if_true, if_false, ite_true, ite_false, forall_const, ite_self, eq_self, reduceIte, reduceCtorEq, Nat.reduceEqDiff, Nat.reduceAdd, Nat.reduceLeDiff, Nat.reduceSub, Int.reduceToNat, Nat.reduceBEq, Nat.reduceMul, Nat.reduceLT, Int.reduceLE, Int.reduceLT, Nat.reduceMod, bne_self_eq_false, Int.reduceBEq, Int.reduceBNe, h88, hw8, a0, a1, al, b0, bl, d0, d1, dl, List.length_map, List.getElem?_map]
  refine Or.inl (Or.inl ⟨_, c1, ?_⟩)
  refine hk12 _ ?_
  simp only [shA, if_true, if_false, ite_true, ite_false, forall_const, ite_self, eq_self, reduceIte, reduceCtorEq, Nat.reduceEqDiff, Nat.reduceAdd, Nat.reduceLeDiff, Nat.reduceSub, Int.reduceToNat, Nat.reduceBEq, Nat.reduceMul, Nat.reduceLT, Int.reduceLE, Int.reduceLT, Nat.reduceMod, bne_self_eq_false, Int.reduceBEq, Int.reduceBNe, h88, hw8, a0, a1, al, b0, bl, d0, d1, dl, List.length_map, List.getElem?_map]
  repeat (refine ⟨by first | assumption | omega | decide | (simp; done) | (simp_all; done) | (simp; omega), ?_⟩)
  refine hk9 _ ?_
  refine hn8 (some ([1, 2, 56, 57, 60, 61, 62, 65, 66, 67, 70, 71, 72, 77, 78, 81, 82, 83, 84, 85, 88, 89, 90, 91, 92, 95, 96, 97, 98, 99, 102, 103, 104, 105, 106, 109, 110, 111, 112, 113, 116, 117], none)) _ ?_
  refine ev_seq_k fun K13 hn13 hr13 he13 => ?_
  refine ev_ops_k fun K14 hk14 => ?_
  refine evL_take 1 fun K15 hk15 => ?_
  simp only [shA, if_true, if_false, ite_true, ite_false, forall_const, ite_self, eq_self, reduceIte, reduceCtorEq, Nat.reduceEqDiff, Nat.reduceAdd, Nat.reduceLeDiff, Nat.reduceSub, Int.reduceToNat, Nat.reduceBEq, Nat.reduceMul, Nat.reduceLT, Int.reduceLE, Int.reduceLT, Nat.reduceMod, bne_self_eq_false, Int.reduceBEq, Int.reduceBNe, h88, hw8, a0, a1, al, b0, bl, d0, d1, dl, List.length_map, List.getElem?_map]
  repeat (refine ⟨by first | assumption | omega | decide | (simp; done) | (simp_all; done) | (simp; omega), ?_⟩)
  refine hk15 _ ?_
  refine evL_take 1 fun K16 hk16 => ?_
  simp only [shA, if_true, if_false, ite_true, ite_false, forall_const, ite_self, eq_self, reduceIte, reduceCtorEq, Nat.reduceEqDiff, Nat.reduceAdd, Nat.reduceLeDiff, Nat.reduceSub, Int.reduceToNat, Nat.reduceBEq, Nat.reduceMul, Nat.reduceLT, Int.reduceLE, Int.reduceLT, Nat.reduceMod, bne_self_eq_false, Int.reduceBEq, Int.reduceBNe, h88, hw8, a0, a1, al, b0, bl, d0, d1, dl, List.length_map, List.getElem?_map]
  refine hk16 _ ?_
  refine evL_take 1 fun K17 hk17 => ?_
  simp only [shA, if_true, if_false, ite_true, ite_false, forall_const, ite_self, eq_self, reduceIte, reduceCtorEq, Nat.reduceEqDiff, Nat.reduceAdd, Nat.reduceLeDiff, Nat.reduceSub, Int.reduceToNat, Nat.reduceBEq, Nat.reduceMul, Nat.reduceLT, Int.reduceLE, Int.reduceLT, Nat.reduceMod, bne_self_eq_false, Int.reduceBEq, Int.reduceBNe, h88, hw8, a0, a1, al, b0, bl, d0, d1, dl, List.length_map, List.getElem?_map]
  refine Or.inl (Or.inl ⟨_, c2, ?_⟩)
  refine hk17 _ ?_
  simp only [shA, if_true, if_false, ite_true, ite_false, forall_const, ite_self, eq_self, reduceIte, reduceCtorEq, Nat.reduceEqDiff, Nat.reduceAdd, Nat.reduceLeDiff, Nat.reduceSub, Int.reduceToNat, Nat.reduceBEq, Nat.reduceMul, Nat.reduceLT, Int.reduceLE, Int.reduceLT, Nat.reduceMod, bne_self_eq_false, Int.reduceBEq, Int.reduceBNe, h88, hw8, a0, a1, al, b0, bl, d0, d1, dl, List.length_map, List.getElem?_map]
  repeat (refine ⟨by first | assumption | omega | decide | (simp; done) | (simp_all; done) | (simp; omega), ?_⟩)
  refine hk14 _ ?_
  refine hn13 (some ([1, 2, 56, 57, 60, 61, 62, 65, 66, 67, 70, 71, 72, 77, 78, 81, 82, 83, 84, 85, 88, 89, 90, 91, 92, 95, 96, 97, 98, 99, 102, 103, 104, 105, 106, 109, 110, 111, 112, 113, 116, 117], none)) _ ?_
  refine ev_seq_k fun K18 hn18 hr18 he18 => ?_
  refine ev_ops_k fun K19 hk19 => ?_
  refine evL_take 1 fun K20 hk20 => ?_
  simp only [shA, if_true, if_false, ite_true, ite_false, forall_const, ite_self, eq_self, reduceIte, reduceCtorEq, Nat.reduceEqDiff, Nat.reduceAdd, Nat.reduceLeDiff, Nat.reduceSub, Int.reduceToNat, Nat.reduceBEq, Nat.reduceMul, Nat.reduceLT, Int.reduceLE, Int.reduceLT, Nat.reduceMod, bne_self_eq_false, Int.reduceBEq, Int.reduceBNe, h88, hw8, a0, a1, al, b0, bl, d0, d1, dl, List.length_map, List.getElem?_map]
  repeat (refine ⟨by first | assumption | omega | decide | (simp; done) | (simp_all; done) | (simp; omega), ?_⟩)
  refine hk20 _ ?_
  refine evL_take 1 fun K21 hk21 => ?_
  simp only [shA, if_true, if_false, ite_true, ite_false, forall_const, ite_self, eq_self, reduceIte, reduceCtorEq, Nat.reduceEqDiff, Nat.reduceAdd, Nat.reduceLeDiff, Nat.reduceSub, Int.reduceToNat, Nat.reduceBEq, Nat.reduceMul, Nat.reduceLT, Int.reduceLE, Int.reduceLT, Nat.reduceMod, bne_self_eq_false, Int.reduceBEq, Int.reduceBNe, h88, hw8, a0, a1, al, b0, bl, d0, d1, dl, List.length_map, List.getElem?_map]
  refine Or.inl (Or.inl ⟨_, c3, ?_⟩)
  refine hk21 _ ?_
  simp only [shA, if_true, if_false, ite_true, ite_false, forall_const, ite_self, eq_self, reduceIte, reduceCtorEq, Nat.reduceEqDiff, Nat.reduceAdd, Nat.reduceLeDiff, Nat.reduceSub, Int.reduceToNat, Nat.reduceBEq, Nat.reduceMul, Nat.reduceLT, Int.reduceLE, Int.reduceLT, Nat.reduceMod, bne_self_eq_false, Int.reduceBEq, Int.reduceBNe, h88, hw8, a0, a1, al, b0, bl, d0, d1, dl, List.length_map, List.getElem?_map]
  repeat (refine ⟨by first | assumption | omega | decide | (simp; done) | (simp_all; done) | (simp; omega), ?_⟩)
  refine hk19 _ ?_
  refine hn18 (some ([1, 2, 56, 57, 60, 61, 62, 65, 66, 67, 70, 71, 72, 77, 78, 81, 82, 83, 84, 85, 88, 89, 90, 91, 92, 95, 96, 97, 98, 99, 102, 103, 104, 105, 106, 109, 110, 111, 112, 113, 116, 117], none)) _ ?_
  refine ev_seq_k fun K22 hn22 hr22 he22 => ?_
  refine ev_ops_k fun K23 hk23 => ?_
  refine evL_take 1 fun K24 hk24 => ?_
  simp only [shA, if_true, if_false, ite_true, ite_false, forall_const, ite_self, eq_self, reduceIte, reduceCtorEq, Nat.reduceEqDiff, Nat.reduceAdd, Nat.reduceLeDiff, Nat.reduceSub, Int.reduceToNat, Nat.reduceBEq, Nat.reduceMul, Nat.reduceLT, Int.reduceLE, Int.reduceLT, Nat.reduceMod, bne_self_eq_false, Int.reduceBEq, Int.reduceBNe, h88, hw8, a0, a1, al, b0, bl, d0, d1, dl, List.length_map, List.getElem?_map]
  repeat (refine ⟨by first | assumption | omega | decide | (simp; done) | (simp_all; done) | (simp; omega), ?_⟩)
  refine hk24 _ ?_
  refine evL_take 1 fun K25 hk25 => ?_
  simp only [shA, if_true, if_false, ite_true, ite_false, forall_const, ite_self, eq_self, reduceIte, reduceCtorEq, Nat.reduceEqDiff, Nat.reduceAdd, Nat.reduceLeDiff, Nat.reduceSub, Int.reduceToNat, Nat.reduceBEq, Nat.reduceMul, Nat.reduceLT, Int.reduceLE, Int.reduceLT, Nat.reduceMod, bne_self_eq_false, Int.reduceBEq, Int.reduceBNe, h88, hw8, a0, a1, al, b0, bl, d0, d1, dl, List.length_map, List.getElem?_map]
  refine hk25 _ ?_
  refine evL_take 1 fun K26 hk26 => ?_
  simp only [shA, if_true, if_false, ite_true, ite_false, forall_const, ite_self, eq_self, reduceIte, reduceCtorEq, Nat.reduceEqDiff, Nat.reduceAdd, Nat.reduceLeDiff, Nat.reduceSub, Int.reduceToNat, Nat.reduceBEq, Nat.reduceMul, Nat.reduceLT, Int.reduceLE, Int.reduceLT, Nat.reduceMod, bne_self_eq_false, Int.reduceBEq, Int.reduceBNe, h88, hw8, a0, a1, al, b0, bl, d0, d1, dl, List.length_map, List.getElem?_map]
  refine Or.inl (Or.inl ⟨_, c4, ?_⟩)
  refine hk26 _ ?_
  simp only [shA, if_true, if_false, ite_true, ite_false, forall_const, ite_self, eq_self, reduceIte, reduceCtorEq, Nat.reduceEqDiff, Nat.reduceAdd, Nat.reduceLeDiff, Nat.reduceSub, Int.reduceToNat, Nat.reduceBEq, Nat.reduceMul, Nat.reduceLT, Int.reduceLE, Int.reduceLT, Nat.reduceMod, bne_self_eq_false, Int.reduceBEq, Int.reduceBNe, h88, hw8, a0, a1, al, b0, bl, d0, d1, dl, List.length_map, List.getElem?_map]
  repeat (refine ⟨by first | assumption | omega | decide | (simp; done) | (simp_all; done) | (simp; omega), ?_⟩)
  refine hk23 _ ?_
  refine hn22 (some ([1, 2, 56, 57, 60, 61, 62, 65, 66, 67, 70, 71, 72, 77, 78, 81, 82, 83, 84, 85, 88, 89, 90, 91, 92, 95, 96, 97, 98, 99, 102, 103, 104, 105, 106, 109, 110, 111, 112, 113, 116, 117], none)) _ ?_
  refine ev_seq_k fun K27 hn27 hr27 he27 => ?_
  refine ev_ops_k fun K28 hk28 => ?_
  refine evL_take 1 fun K29 hk29 => ?_
  simp only [shA, if_true, if_false, ite_true, ite_false, forall_const, ite_self, eq_self, reduceIte, reduceCtorEq, Nat.reduceEqDiff, Nat.reduceAdd, Nat.reduceLeDiff, Nat.reduceSub, Int.reduceToNat, Nat.reduceBEq, Nat.reduceMul, Nat.reduceLT, Int.reduceLE, Int.reduceLT, Nat.reduceMod, bne_self_eq_false, Int.reduceBEq, Int.reduceBNe, h88, hw8, a0, a1, al, b0, bl, d0, d1, dl, List.length_map, List.getElem?_map]
  repeat (refine ⟨by first | assumption | omega | decide | (simp; done) | (simp_all; done) | (simp; omega), ?_⟩)
  refine hk29 _ ?_
  refine evL_take 1 fun K30 hk30 => ?_
  simp only [shA, if_true, if_false, ite_true, ite_false, forall_const, ite_self, eq_self, reduceIte, reduceCtorEq, Nat.reduceEqDiff, Nat.reduceAdd, Nat.reduceLeDiff, Nat.reduceSub, Int.reduceToNat, Nat.reduceBEq, Nat.reduceMul, Nat.reduceLT, Int.reduceLE, Int.reduceLT, Nat.reduceMod, bne_self_eq_false, Int.reduceBEq, Int.reduceBNe, h88, hw8, a0, a1, al, b0, bl, d0, d1, dl, List.length_map, List.getElem?_map]
  refine Or.inl (Or.inl ⟨_, c5, ?_⟩)
  refine hk30 _ ?_
  refine evL_take 4 fun K31 hk31 => ?_
  simp only [shA, if_true, if_false, ite_true, ite_false, forall_const, ite_self, eq_self, reduceIte, reduceCtorEq, Nat.reduceEqDiff, Nat.reduceAdd, Nat.reduceLeDiff, Nat.reduceSub, Int.reduceToNat, Nat.reduceBEq, Nat.reduceMul, Nat.reduceLT, Int.reduceLE, Int.reduceLT, Nat.reduceMod, bne_self_eq_false, Int.reduceBEq, Int.reduceBNe, h88, hw8, a0, a1, al, b0, bl, d0, d1, dl, List.length_map, List.getElem?_map]
  repeat (refine ⟨by first | assumption | omega | decide | (simp; done) | (simp_all; done) | (simp; omega), ?_⟩)
  refine hk31 _ ?_
  simp only [shA, if_true, if_false, ite_true, ite_false, forall_const, ite_self, eq_self, reduceIte, reduceCtorEq, Nat.reduceEqDiff, Nat.reduceAdd, Nat.reduceLeDiff, Nat.reduceSub, Int.reduceToNat, Nat.reduceBEq, Nat.reduceMul, Nat.reduceLT, Int.reduceLE, Int.reduceLT, Nat.reduceMod, bne_self_eq_false, Int.reduceBEq, Int.reduceBNe, h88, hw8, a0, a1, al, b0, bl, d0, d1, dl, List.length_map, List.getElem?_map]
  refine hk28 _ ?_
  refine hn27 (some ([1, 2, 3, 56, 57, 60, 61, 62, 65, 66, 67, 70, 71, 72, 77, 78, 81, 82, 83, 84, 85, 88, 89, 90, 91, 92, 95, 96, 97, 98, 99, 102, 103, 104, 105, 106, 109, 110, 111, 112, 113, 116, 117], none)) _ ?_
  refine ev_seq_k fun K32 hn32 hr32 he32 => ?_
  refine ev_ops_k fun K33 hk33 => ?_
  refine evL_take 1 fun K34 hk34 => ?_
  simp only [shA, if_true, if_false, ite_true, ite_false, forall_const, ite_self, eq_self, reduceIte, reduceCtorEq, Nat.reduceEqDiff, Nat.reduceAdd, Nat.reduceLeDiff, Nat.reduceSub, Int.reduceToNat, Nat.reduceBEq, Nat.reduceMul, Nat.reduceLT, Int.reduceLE, Int.reduceLT, Nat.reduceMod, bne_self_eq_false, Int.reduceBEq, Int.reduceBNe, h88, hw8, a0, a1, al, b0, bl, d0, d1, dl, List.length_map, List.getElem?_map]
  repeat (refine ⟨by first | assumption | omega | decide | (simp; done) | (simp_all; done) | (simp; omega), ?_⟩)
  refine hk34 _ ?_
  refine evL_take 1 fun K35 hk35 => ?_
  simp only [shA, if_true, if_false, ite_true, ite_false, forall_const, ite_self, eq_self, reduceIte, reduceCtorEq, Nat.reduceEqDiff, Nat.reduceAdd, Nat.reduceLeDiff, Nat.reduceSub, Int.reduceToNat, Nat.reduceBEq, Nat.reduceMul, Nat.reduceLT, Int.reduceLE, Int.reduceLT, Nat.reduceMod, bne_self_eq_false, Int.reduceBEq, Int.reduceBNe, h88, hw8, a0, a1, al, b0, bl, d0, d1, dl, List.length_map, List.getElem?_map]
  refine Or.inl (Or.inl ⟨_, c6, ?_⟩)
  refine hk35 _ ?_
  simp only [shA, if_true, if_false, ite_true, ite_false, forall_const, ite_self, eq_self, reduceIte, reduceCtorEq, Nat.reduceEqDiff, Nat.reduceAdd, Nat.reduceLeDiff, Nat.reduceSub, Int.reduceToNat, Nat.reduceBEq, Nat.reduceMul, Nat.reduceLT, Int.reduceLE, Int.reduceLT, Nat.reduceMod, bne_self_eq_false, Int.reduceBEq, Int.reduceBNe, h88, hw8, a0, a1, al, b0, bl, d0, d1, dl, List.length_map, List.getElem?_map]
  refine hk33 _ ?_
  refine hn32 (some ([1, 2, 3, 4, 5, 56, 57, 60, 61, 62, 65, 66, 67, 70, 71, 72, 77, 78, 81, 82, 83, 84, 85, 88, 89, 90, 91, 92, 95, 96, 97, 98, 99, 102, 103, 104, 105, 106, 109, 110, 111, 112, 113, 116, 117], none)) _ ?_
  refine ev_seq_k fun K36 hn36 hr36 he36 => ?_
  refine ev_drw_k [] (n := 5) fun K37 hk37 => ?_
  simp only [List.take_succ_cons, List.take_zero, St.frzAll, St.frzSh, St.frzRow, St.frzBox, St.frzCells, St.argL, St.arg1, St.res, Sh.pure, St.setO, getA, delA, keepT, St.keep, reduceIte, Nat.reduceEqDiff, reduceCtorEq, Option.bind_some, Option.map_some, List.contains_cons, List.contains_nil, Nat.reduceBEq, Bool.or_false, Bool.or_true, Bool.false_or, beq_self_eq_true, Bool.false_eq_true]
  refine evF_take 1 fun K39 hk39 => ?_
  simp only [shA, if_true, if_false, ite_true, ite_false, forall_const, ite_self, eq_self, reduceIte, reduceCtorEq, Nat.reduceEqDiff, Nat.reduceAdd, Nat.reduceLeDiff, Nat.reduceSub, Int.reduceToNat, Nat.reduceBEq, Nat.reduceMul, Nat.reduceLT, Int.reduceLE, Int.reduceLT, Nat.reduceMod, bne_self_eq_false, Int.reduceBEq, Int.reduceBNe, h88, hw8, a0, a1, al, b0, bl, d0, d1, dl, List.length_map, List.getElem?_map]
  repeat (refine ⟨by first | assumption | omega | decide | (simp; done) | (simp_all; done) | (simp; omega), ?_⟩)
  refine hk39 _ _ _ ?_
  refine evF_take 1 fun K40 hk40 => ?_
  simp only [shA, if_true, if_false, ite_true, ite_false, forall_const, ite_self, eq_self, reduceIte, reduceCtorEq, Nat.reduceEqDiff, Nat.reduceAdd, Nat.reduceLeDiff, Nat.reduceSub, Int.reduceToNat, Nat.reduceBEq, Nat.reduceMul, Nat.reduceLT, Int.reduceLE, Int.reduceLT, Nat.reduceMod, bne_self_eq_false, Int.reduceBEq, Int.reduceBNe, h88, hw8, a0, a1, al, b0, bl, d0, d1, dl, List.length_map, List.getElem?_map]
  refine ⟨_, c7 (-1), ?_⟩
  refine hk40 _ _ _ ?_
  refine evF_take 1 fun K41 hk41 => ?_
  simp only [shA, if_true, if_false, ite_true, ite_false, forall_const, ite_self, eq_self, reduceIte, reduceCtorEq, Nat.reduceEqDiff, Nat.reduceAdd, Nat.reduceLeDiff, Nat.reduceSub, Int.reduceToNat, Nat.reduceBEq, Nat.reduceMul, Nat.reduceLT, Int.reduceLE, Int.reduceLT, Nat.reduceMod, bne_self_eq_false, Int.reduceBEq, Int.reduceBNe, h88, hw8, a0, a1, al, b0, bl, d0, d1, dl, List.length_map, List.getElem?_map]
  repeat (refine ⟨by first | assumption | omega | decide | (simp; done) | (simp_all; done) | (simp; omega), ?_⟩)
  refine hk41 _ _ _ ?_
  refine evF_take 1 fun K42 hk42 => ?_
  simp only [shA, if_true, if_false, ite_true, ite_false, forall_const, ite_self, eq_self, reduceIte, reduceCtorEq, Nat.reduceEqDiff, Nat.reduceAdd, Nat.reduceLeDiff, Nat.reduceSub, Int.reduceToNat, Nat.reduceBEq, Nat.reduceMul, Nat.reduceLT, Int.reduceLE, Int.reduceLT, Nat.reduceMod, bne_self_eq_false, Int.reduceBEq, Int.reduceBNe, h88, hw8, a0, a1, al, b0, bl, d0, d1, dl, List.length_map, List.getElem?_map]
  refine ⟨_, c7 (-2), ?_⟩
  refine hk42 _ _ _ ?_
  simp only [shA, if_true, if_false, ite_true, ite_false, forall_const, ite_self, eq_self, reduceIte, reduceCtorEq, Nat.reduceEqDiff, Nat.reduceAdd, Nat.reduceLeDiff, Nat.reduceSub, Int.reduceToNat, Nat.reduceBEq, Nat.reduceMul, Nat.reduceLT, Int.reduceLE, Int.reduceLT, Nat.reduceMod, bne_self_eq_false, Int.reduceBEq, Int.reduceBNe, h88, hw8, a0, a1, al, b0, bl, d0, d1, dl, List.length_map, List.getElem?_map]
  repeat (refine ⟨by first | assumption | omega | decide | (simp; done) | (simp_all; done) | (simp; omega), ?_⟩)
  refine hk37 _ ?_
  simp only [List.drop_succ_cons, List.drop_zero]
  refine evL_take 1 fun K43 hk43 => ?_
  simp only [shA, if_true, if_false, ite_true, ite_false, forall_const, ite_self, eq_self, reduceIte, reduceCtorEq, Nat.reduceEqDiff, Nat.reduceAdd, Nat.reduceLeDiff, Nat.reduceSub, Int.reduceToNat, Nat.reduceBEq, Nat.reduceMul, Nat.reduceLT, Int.reduceLE, Int.reduceLT, Nat.reduceMod, bne_self_eq_false, Int.reduceBEq, Int.reduceBNe, h88, hw8, a0, a1, al, b0, bl, d0, d1, dl, List.length_map, List.getElem?_map]
  refine Or.inl (Or.inl ⟨_, c7 3, ?_⟩)
  refine hk43 _ ?_
  simp only [shA, if_true, if_false, ite_true, ite_false, forall_const, ite_self, eq_self, reduceIte, reduceCtorEq, Nat.reduceEqDiff, Nat.reduceAdd, Nat.reduceLeDiff, Nat.reduceSub, Int.reduceToNat, Nat.reduceBEq, Nat.reduceMul, Nat.reduceLT, Int.reduceLE, Int.reduceLT, Nat.reduceMod, bne_self_eq_false, Int.reduceBEq, Int.reduceBNe, h88, hw8, a0, a1, al, b0, bl, d0, d1, dl, List.length_map, List.getElem?_map]
  refine hn36 (some ([2, 3, 4, 5, 6, 7, 8, 56, 57, 60, 61, 62, 65, 66, 67, 70, 71, 72, 77, 78, 81, 82, 83, 84, 85, 88, 89, 90, 91, 92, 95, 96, 97, 98, 99, 102, 103, 104, 105, 106, 109, 110, 111, 112, 113, 116, 117], none)) _ ?_
  refine ev_seq_k fun K44 hn44 hr44 he44 => ?_
  refine ev_seq_k fun K45 hn45 hr45 he45 => ?_
  refine ev_ops_k fun K46 hk46 => ?_
  refine evL_take 2 fun K47 hk47 => ?_
  simp only [shA, if_true, if_false, ite_true, ite_false, forall_const, ite_self, eq_self, reduceIte, reduceCtorEq, Nat.reduceEqDiff, Nat.reduceAdd, Nat.reduceLeDiff, Nat.reduceSub, Int.reduceToNat, Nat.reduceBEq, Nat.reduceMul, Nat.reduceLT, Int.reduceLE, Int.reduceLT, Nat.reduceMod, bne_self_eq_false, Int.reduceBEq, Int.reduceBNe, h88, hw8, a0, a1, al, b0, bl, d0, d1, dl, List.length_map, List.getElem?_map]
  repeat (refine ⟨by first | assumption | omega | decide | (simp; done) | (simp_all; done) | (simp; omega), ?_⟩)
  refine hk47 _ ?_
  refine evL_take 3 fun K48 hk48 => ?_
  simp only [shA, if_true, if_false, ite_true, ite_false, forall_const, ite_self, eq_self, reduceIte, reduceCtorEq, Nat.reduceEqDiff, Nat.reduceAdd, Nat.reduceLeDiff, Nat.reduceSub, Int.reduceToNat, Nat.reduceBEq, Nat.reduceMul, Nat.reduceLT, Int.reduceLE, Int.reduceLT, Nat.reduceMod, bne_self_eq_false, Int.reduceBEq, Int.reduceBNe, h88, hw8, a0, a1, al, b0, bl, d0, d1, dl, List.length_map, List.getElem?_map]
  repeat (refine ⟨by first | assumption | omega | decide | (simp; done) | (simp_all; done) | (simp; omega), ?_⟩)
  refine hk48 _ ?_
  refine evL_take 5 fun K49 hk49 => ?_
  simp only [shA, if_true, if_false, ite_true, ite_false, forall_const, ite_self, eq_self, reduceIte, reduceCtorEq, Nat.reduceEqDiff, Nat.reduceAdd, Nat.reduceLeDiff, Nat.reduceSub, Int.reduceToNat, Nat.reduceBEq, Nat.reduceMul, Nat.reduceLT, Int.reduceLE, Int.reduceLT, Nat.reduceMod, bne_self_eq_false, Int.reduceBEq, Int.reduceBNe, h88, hw8, a0, a1, al, b0, bl, d0, d1, dl, List.length_map, List.getElem?_map]
  repeat (refine ⟨by first | assumption | omega | decide | (simp; done) | (simp_all; done) | (simp; omega), ?_⟩)
  refine hk49 _ ?_
  refine evL_take 5 fun K50 hk50 => ?_
  simp only [shA, if_true, if_false, ite_true, ite_false, forall_const, ite_self, eq_self, reduceIte, reduceCtorEq, Nat.reduceEqDiff, Nat.reduceAdd, Nat.reduceLeDiff, Nat.reduceSub, Int.reduceToNat, Nat.reduceBEq, Nat.reduceMul, Nat.reduceLT, Int.reduceLE, Int.reduceLT, Nat.reduceMod, bne_self_eq_false, Int.reduceBEq, Int.reduceBNe, h88, hw8, a0, a1, al, b0, bl, d0, d1, dl, List.length_map, List.getElem?_map]
  repeat (refine ⟨by first | assumption | omega | decide | (simp; done) | (simp_all; done) | (simp; omega), ?_⟩)
  refine hk50 _ ?_
  refine evL_take 5 fun K51 hk51 => ?_
  simp only [shA, if_true, if_false, ite_true, ite_false, forall_const, ite_self, eq_self, reduceIte, reduceCtorEq, Nat.reduceEqDiff, Nat.reduceAdd, Nat.reduceLeDiff, Nat.reduceSub, Int.reduceToNat, Nat.reduceBEq, Nat.reduceMul, Nat.reduceLT, Int.reduceLE, Int.reduceLT, Nat.reduceMod, bne_self_eq_false, Int.reduceBEq, Int.reduceBNe, h88, hw8, a0, a1, al, b0, bl, d0, d1, dl, List.length_map, List.getElem?_map]
  repeat (refine ⟨by first | assumption | omega | decide | (simp; done) | (simp_all; done) | (simp; omega), ?_⟩)
  refine hk51 _ ?_
  simp only [shA, if_true, if_false, ite_true, ite_false, forall_const, ite_self, eq_self, reduceIte, reduceCtorEq, Nat.reduceEqDiff, Nat.reduceAdd, Nat.reduceLeDiff, Nat.reduceSub, Int.reduceToNat, Nat.reduceBEq, Nat.reduceMul, Nat.reduceLT, Int.reduceLE, Int.reduceLT, Nat.reduceMod, bne_self_eq_false, Int.reduceBEq, Int.reduceBNe, h88, hw8, a0, a1, al, b0, bl, d0, d1, dl, List.length_map, List.getElem?_map]
  refine hk46 _ ?_
  refine hn45 (some ([4, 5, 6, 7, 8, 73, 77, 78, 81, 82, 83, 84, 85, 88, 89, 90, 91, 92, 95, 96, 97, 98, 99, 102, 103, 104, 105, 106, 109, 110, 111, 112, 113, 116, 117], none)) _ ?_
  refine ev_cond_k rfl (fun hx => absurd hx (by simp at hx)) (fun hc0 => ?_)
  clear hc0
  refine hn44 (some ([4, 5, 6, 7, 8, 77, 78, 81, 82, 83, 84, 85, 88, 89, 90, 91, 92, 95, 96, 97, 98, 99, 102, 103, 104, 105, 106, 109, 110, 111, 112, 113, 116, 117], none)) _ ?_
  refine ev_seq_k fun K52 hn52 hr52 he52 => ?_
  refine ev_ops_k fun K53 hk53 => ?_
  refine evL_take 2 fun K54 hk54 => ?_
  simp only [shA, if_true, if_false, ite_true, ite_false, forall_const, ite_self, eq_self, reduceIte, reduceCtorEq, Nat.reduceEqDiff, Nat.reduceAdd, Nat.reduceLeDiff, Nat.reduceSub, Int.reduceToNat, Nat.reduceBEq, Nat.reduceMul, Nat.reduceLT, Int.reduceLE, Int.reduceLT, Nat.reduceMod, bne_self_eq_false, Int.reduceBEq, Int.reduceBNe, h88, hw8, a0, a1, al, b0, bl, d0, d1, dl, List.length_map, List.getElem?_map]
  repeat (refine ⟨by first | assumption | omega | decide | (simp; done) | (simp_all; done) | (simp; omega), ?_⟩)
  refine hk54 _ ?_
  refine evL_take 3 fun K55 hk55 => ?_
  simp only [shA, if_true, if_false, ite_true, ite_false, forall_const, ite_self, eq_self, reduceIte, reduceCtorEq, Nat.reduceEqDiff, Nat.reduceAdd, Nat.reduceLeDiff, Nat.reduceSub, Int.reduceToNat, Nat.reduceBEq, Nat.reduceMul, Nat.reduceLT, Int.reduceLE, Int.reduceLT, Nat.reduceMod, bne_self_eq_false, Int.reduceBEq, Int.reduceBNe, h88, hw8, a0, a1, al, b0, bl, d0, d1, dl, List.length_map, List.getElem?_map]
  repeat (refine ⟨by first | assumption | omega | decide | (simp; done) | (simp_all; done) | (simp; omega), ?_⟩)
  refine hk55 _ ?_
  refine evL_take 4 fun K56 hk56 => ?_
  simp only [shA, if_true, if_false, ite_true, ite_false, forall_const, ite_self, eq_self, reduceIte, reduceCtorEq, Nat.reduceEqDiff, Nat.reduceAdd, Nat.reduceLeDiff, Nat.reduceSub, Int.reduceToNat, Nat.reduceBEq, Nat.reduceMul, Nat.reduceLT, Int.reduceLE, Int.reduceLT, Nat.reduceMod, bne_self_eq_false, Int.reduceBEq, Int.reduceBNe, h88, hw8, a0, a1, al, b0, bl, d0, d1, dl, List.length_map, List.getElem?_map]
  repeat (refine ⟨by first | assumption | omega | decide | (simp; done) | (simp_all; done) | (simp; omega), ?_⟩)
  refine hk56 _ ?_
  refine evL_take 2 fun K57 hk57 => ?_
  simp only [shA, if_true, if_false, ite_true, ite_false, forall_const, ite_self, eq_self, reduceIte, reduceCtorEq, Nat.reduceEqDiff, Nat.reduceAdd, Nat.reduceLeDiff, Nat.reduceSub, Int.reduceToNat, Nat.reduceBEq, Nat.reduceMul, Nat.reduceLT, Int.reduceLE, Int.reduceLT, Nat.reduceMod, bne_self_eq_false, Int.reduceBEq, Int.reduceBNe, h88, hw8, a0, a1, al, b0, bl, d0, d1, dl, List.length_map, List.getElem?_map]
  repeat (refine ⟨by first | assumption | omega | decide | (simp; done) | (simp_all; done) | (simp; omega), ?_⟩)
  refine hk57 _ ?_
  refine evL_take 1 fun K58 hk58 => ?_
  simp only [shA, if_true, if_false, ite_true, ite_false, forall_const, ite_self, eq_self, reduceIte, reduceCtorEq, Nat.reduceEqDiff, Nat.reduceAdd, Nat.reduceLeDiff, Nat.reduceSub, Int.reduceToNat, Nat.reduceBEq, Nat.reduceMul, Nat.reduceLT, Int.reduceLE, Int.reduceLT, Nat.reduceMod, bne_self_eq_false, Int.reduceBEq, Int.reduceBNe, h88, hw8, a0, a1, al, b0, bl, d0, d1, dl, List.length_map, List.getElem?_map]
  repeat (refine ⟨by first | assumption | omega | decide | (simp; done) | (simp_all; done) | (simp; omega), ?_⟩)
  refine hk58 _ ?_
  refine evL_take 4 fun K59 hk59 => ?_
  simp only [shA, if_true, if_false, ite_true, ite_false, forall_const, ite_self, eq_self, reduceIte, reduceCtorEq, Nat.reduceEqDiff, Nat.reduceAdd, Nat.reduceLeDiff, Nat.reduceSub, Int.reduceToNat, Nat.reduceBEq, Nat.reduceMul, Nat.reduceLT, Int.reduceLE, Int.reduceLT, Nat.reduceMod, bne_self_eq_false, Int.reduceBEq, Int.reduceBNe, h88, hw8, a0, a1, al, b0, bl, d0, d1, dl, List.length_map, List.getElem?_map]
  repeat (refine ⟨by first | assumption | omega | decide | (simp; done) | (simp_all; done) | (simp; omega), ?_⟩)
  refine hk59 _ ?_
  refine evL_take 2 fun K60 hk60 => ?_
  simp only [shA, if_true, if_false, ite_true, ite_false, forall_const, ite_self, eq_self, reduceIte, reduceCtorEq, Nat.reduceEqDiff, Nat.reduceAdd, Nat.reduceLeDiff, Nat.reduceSub, Int.reduceToNat, Nat.reduceBEq, Nat.reduceMul, Nat.reduceLT, Int.reduceLE, Int.reduceLT, Nat.reduceMod, bne_self_eq_false, Int.reduceBEq, Int.reduceBNe, h88, hw8, a0, a1, al, b0, bl, d0, d1, dl, List.length_map, List.getElem?_map]
  repeat (refine ⟨by first | assumption | omega | decide | (simp; done) | (simp_all; done) | (simp; omega), ?_⟩)
  refine hk60 _ ?_
  refine evL_take 1 fun K61 hk61 => ?_
  simp only [shA, if_true, if_false, ite_true, ite_false, forall_const, ite_self, eq_self, reduceIte, reduceCtorEq, Nat.reduceEqDiff, Nat.reduceAdd, Nat.reduceLeDiff, Nat.reduceSub, Int.reduceToNat, Nat.reduceBEq, Nat.reduceMul, Nat.reduceLT, Int.reduceLE, Int.reduceLT, Nat.reduceMod, bne_self_eq_false, Int.reduceBEq, Int.reduceBNe, h88, hw8, a0, a1, al, b0, bl, d0, d1, dl, List.length_map, List.getElem?_map]
  repeat (refine ⟨by first | assumption | omega | decide | (simp; done) | (simp_all; done) | (simp; omega), ?_⟩)
  refine hk61 _ ?_
  refine evL_take 4 fun K62 hk62 => ?_
  simp only [shA, if_true, if_false, ite_true, ite_false, forall_const, ite_self, eq_self, reduceIte, reduceCtorEq, Nat.reduceEqDiff, Nat.reduceAdd, Nat.reduceLeDiff, Nat.reduceSub, Int.reduceToNat, Nat.reduceBEq, Nat.reduceMul, Nat.reduceLT, Int.reduceLE, Int.reduceLT, Nat.reduceMod, bne_self_eq_false, Int.reduceBEq, Int.reduceBNe, h88, hw8, a0, a1, al, b0, bl, d0, d1, dl, List.length_map, List.getElem?_map]
  repeat (refine ⟨by first | assumption | omega | decide | (simp; done) | (simp_all; done) | (simp; omega), ?_⟩)
  refine hk62 _ ?_
  refine evL_take 2 fun K63 hk63 => ?_
  simp only [shA, if_true, if_false, ite_true, ite_false, forall_const, ite_self, eq_self, reduceIte, reduceCtorEq, Nat.reduceEqDiff, Nat.reduceAdd, Nat.reduceLeDiff, Nat.reduceSub, Int.reduceToNat, Nat.reduceBEq, Nat.reduceMul, Nat.reduceLT, Int.reduceLE, Int.reduceLT, Nat.reduceMod, bne_self_eq_false, Int.reduceBEq, Int.reduceBNe, h88, hw8, a0, a1, al, b0, bl, d0, d1, dl, List.length_map, List.getElem?_map]
  repeat (refine ⟨by first | assumption | omega | decide | (simp; done) | (simp_all; done) | (simp; omega), ?_⟩)
  refine hk63 _ ?_
  refine evL_take 1 fun K64 hk64 => ?_
  simp only [shA, if_true, if_false, ite_true, ite_false, forall_const, ite_self, eq_self, reduceIte, reduceCtorEq, Nat.reduceEqDiff, Nat.reduceAdd, Nat.reduceLeDiff, Nat.reduceSub, Int.reduceToNat, Nat.reduceBEq, Nat.reduceMul, Nat.reduceLT, Int.reduceLE, Int.reduceLT, Nat.reduceMod, bne_self_eq_false, Int.reduceBEq, Int.reduceBNe, h88, hw8, a0, a1, al, b0, bl, d0, d1, dl, List.length_map, List.getElem?_map]
  repeat (refine ⟨by first | assumption | omega | decide | (simp; done) | (simp_all; done) | (simp; omega), ?_⟩)
  refine hk64 _ ?_
  refine evL_take 4 fun K65 hk65 => ?_
  simp only [shA, if_true, if_false, ite_true, ite_false, forall_const, ite_self, eq_self, reduceIte, reduceCtorEq, Nat.reduceEqDiff, Nat.reduceAdd, Nat.reduceLeDiff, Nat.reduceSub, Int.reduceToNat, Nat.reduceBEq, Nat.reduceMul, Nat.reduceLT, Int.reduceLE, Int.reduceLT, Nat.reduceMod, bne_self_eq_false, Int.reduceBEq, Int.reduceBNe, h88, hw8, a0, a1, al, b0, bl, d0, d1, dl, List.length_map, List.getElem?_map]
  repeat (refine ⟨by first | assumption | omega | decide | (simp; done) | (simp_all; done) | (simp; omega), ?_⟩)
  refine hk65 _ ?_
  refine evL_take 2 fun K66 hk66 => ?_
  simp only [shA, if_true, if_false, ite_true, ite_false, forall_const, ite_self, eq_self, reduceIte, reduceCtorEq, Nat.reduceEqDiff, Nat.reduceAdd, Nat.reduceLeDiff, Nat.reduceSub, Int.reduceToNat, Nat.reduceBEq, Nat.reduceMul, Nat.reduceLT, Int.reduceLE, Int.reduceLT, Nat.reduceMod, bne_self_eq_false, Int.reduceBEq, Int.reduceBNe, h88, hw8, a0, a1, al, b0, bl, d0, d1, dl, List.length_map, List.getElem?_map]
  repeat (refine ⟨by first | assumption | omega | decide | (simp; done) | (simp_all; done) | (simp; omega), ?_⟩)
  refine hk66 _ ?_
  refine evL_take 1 fun K67 hk67 => ?_
  simp only [shA, if_true, if_false, ite_true, ite_false, forall_const, ite_self, eq_self, reduceIte, reduceCtorEq, Nat.reduceEqDiff, Nat.reduceAdd, Nat.reduceLeDiff, Nat.reduceSub, Int.reduceToNat, Nat.reduceBEq, Nat.reduceMul, Nat.reduceLT, Int.reduceLE, Int.reduceLT, Nat.reduceMod, bne_self_eq_false, Int.reduceBEq, Int.reduceBNe, h88, hw8, a0, a1, al, b0, bl, d0, d1, dl, List.length_map, List.getElem?_map]
  repeat (refine ⟨by first | assumption | omega | decide | (simp; done) | (simp_all; done) | (simp; omega), ?_⟩)
  refine hk67 _ ?_
  refine evL_take 4 fun K68 hk68 => ?_
  simp only [shA, if_true, if_false, ite_true, ite_false, forall_const, ite_self, eq_self, reduceIte, reduceCtorEq, Nat.reduceEqDiff, Nat.reduceAdd, Nat.reduceLeDiff, Nat.reduceSub, Int.reduceToNat, Nat.reduceBEq, Nat.reduceMul, Nat.reduceLT, Int.reduceLE, Int.reduceLT, Nat.reduceMod, bne_self_eq_false, Int.reduceBEq, Int.reduceBNe, h88, hw8, a0, a1, al, b0, bl, d0, d1, dl, List.length_map, List.getElem?_map]
  repeat (refine ⟨by first | assumption | omega | decide | (simp; done) | (simp_all; done) | (simp; omega), ?_⟩)
  refine hk68 _ ?_
  refine evL_take 2 fun K69 hk69 => ?_
  simp only [shA, if_true, if_false, ite_true, ite_false, forall_const, ite_self, eq_self, reduceIte, reduceCtorEq, Nat.reduceEqDiff, Nat.reduceAdd, Nat.reduceLeDiff, Nat.reduceSub, Int.reduceToNat, Nat.reduceBEq, Nat.reduceMul, Nat.reduceLT, Int.reduceLE, Int.reduceLT, Nat.reduceMod, bne_self_eq_false, Int.reduceBEq, Int.reduceBNe, h88, hw8, a0, a1, al, b0, bl, d0, d1, dl, List.length_map, List.getElem?_map]
  repeat (refine ⟨by first | assumption | omega | decide | (simp; done) | (simp_all; done) | (simp; omega), ?_⟩)
  refine hk69 _ ?_
  refine evL_take 1 fun K70 hk70 => ?_
  simp only [shA, if_true, if_false, ite_true, ite_false, forall_const, ite_self, eq_self, reduceIte, reduceCtorEq, Nat.reduceEqDiff, Nat.reduceAdd, Nat.reduceLeDiff, Nat.reduceSub, Int.reduceToNat, Nat.reduceBEq, Nat.reduceMul, Nat.reduceLT, Int.reduceLE, Int.reduceLT, Nat.reduceMod, bne_self_eq_false, Int.reduceBEq, Int.reduceBNe, h88, hw8, a0, a1, al, b0, bl, d0, d1, dl, List.length_map, List.getElem?_map]
  repeat (refine ⟨by first | assumption | omega | decide | (simp; done) | (simp_all; done) | (simp; omega), ?_⟩)
  refine hk70 _ ?_
  refine evL_take 2 fun K71 hk71 => ?_
  simp only [shA, if_true, if_false, ite_true, ite_false, forall_const, ite_self, eq_self, reduceIte, reduceCtorEq, Nat.reduceEqDiff, Nat.reduceAdd, Nat.reduceLeDiff, Nat.reduceSub, Int.reduceToNat, Nat.reduceBEq, Nat.reduceMul, Nat.reduceLT, Int.reduceLE, Int.reduceLT, Nat.reduceMod, bne_self_eq_false, Int.reduceBEq, Int.reduceBNe, h88, hw8, a0, a1, al, b0, bl, d0, d1, dl, List.length_map, List.getElem?_map]
  refine hk71 _ ?_
  refine evL_take 1 fun K72 hk72 => ?_
  simp only [shA, if_true, if_false, ite_true, ite_false, forall_const, ite_self, eq_self, reduceIte, reduceCtorEq, Nat.reduceEqDiff, Nat.reduceAdd, Nat.reduceLeDiff, Nat.reduceSub, Int.reduceToNat, Nat.reduceBEq, Nat.reduceMul, Nat.reduceLT, Int.reduceLE, Int.reduceLT, Nat.reduceMod, bne_self_eq_false, Int.reduceBEq, Int.reduceBNe, h88, hw8, a0, a1, al, b0, bl, d0, d1, dl, List.length_map, List.getElem?_map]
  refine Or.inl (Or.inl ⟨_, cm, ?_⟩)
  refine hk72 _ ?_
  refine evL_take 1 fun K73 hk73 => ?_
  simp only [shA, if_true, if_false, ite_true, ite_false, forall_const, ite_self, eq_self, reduceIte, reduceCtorEq, Nat.reduceEqDiff, Nat.reduceAdd, Nat.reduceLeDiff, Nat.reduceSub, Int.reduceToNat, Nat.reduceBEq, Nat.reduceMul, Nat.reduceLT, Int.reduceLE, Int.reduceLT, Nat.reduceMod, bne_self_eq_false, Int.reduceBEq, Int.reduceBNe, h88, hw8, a0, a1, al, b0, bl, d0, d1, dl, List.length_map, List.getElem?_map]
  repeat (refine ⟨by first | assumption | omega | decide | (simp; done) | (simp_all; done) | (simp; omega), ?_⟩)
  refine hk73 _ ?_
  simp only [shA, if_true, if_false, ite_true, ite_false, forall_const, ite_self, eq_self, reduceIte, reduceCtorEq, Nat.reduceEqDiff, Nat.reduceAdd, Nat.reduceLeDiff, Nat.reduceSub, Int.reduceToNat, Nat.reduceBEq, Nat.reduceMul, Nat.reduceLT, Int.reduceLE, Int.reduceLT, Nat.reduceMod, bne_self_eq_false, Int.reduceBEq, Int.reduceBNe, h88, hw8, a0, a1, al, b0, bl, d0, d1, dl, List.length_map, List.getElem?_map]
  refine hk53 _ ?_
  refine hn52 (some ([0], none)) _ ?_
  simp only [shA, if_true, if_false, ite_true, ite_false, forall_const, ite_self, eq_self, reduceIte, reduceCtorEq, Nat.reduceEqDiff, Nat.reduceAdd, Nat.reduceLeDiff, Nat.reduceSub, Int.reduceToNat, Nat.reduceBEq, Nat.reduceMul, Nat.reduceLT, Int.reduceLE, Int.reduceLT, Nat.reduceMod, ev, fin, rv_l5awake, bne_self_eq_false, Int.reduceBEq, Int.reduceBNe, h88, hw8, a0, a1, al, b0, bl, d0, d1, dl, List.length_map, List.getElem?_map]
end Go.Proofs.Ytlbhfpcbbembgaa
