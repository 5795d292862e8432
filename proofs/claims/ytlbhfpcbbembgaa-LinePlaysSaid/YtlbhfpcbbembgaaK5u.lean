/-
  LinePlays: the walk.
-/
import Derived.Test.YtlbhfpcbbembgaaK5t
namespace Go.Proofs.Ytlbhfpcbbembgaa
set_option linter.unusedSimpArgs false
set_option linter.unusedVariables false
open Go.RowKit Go.Maps

theorem ok_r5ManyN (g : Nat) (ws : List WordV) (h : ws.length ≤ 4096) : Ok 51 [.agg [.sl 3 g (ws.map eWord), .sl 4 0 [], .any, .sl 3 0 []]] (sI (((ws.length + 7) / 8 : Nat) : Int)) := by
  have q1 : IntKind.i64.wrap ((ws.length : Int) + 7) = (ws.length : Int) + 7 := by rw [IntKind.wrap_i64]; omega
  have q2 : IntKind.i64.wrap (((ws.length : Int) + 7).tdiv 8) = ((ws.length + 7) / 8 : Nat) := by rw [IntKind.wrap_i64, Int.tdiv_eq_ediv_of_nonneg (by omega)]; omega
  refine ok_of_tr Try.func51 tr_r5Many rfl ?_
  unfold evFn sc_r5Many
  refine ev_seq_k fun K1 hn1 hr1 he1 => ?_
  refine ev_ops_k fun K2 hk2 => ?_
  simp only [shA, if_true, if_false, ite_true, ite_false, forall_const, ite_self, eq_self, reduceIte, reduceCtorEq, Nat.reduceEqDiff, Nat.reduceAdd, Nat.reduceLeDiff, Nat.reduceSub, Int.reduceToNat, Nat.reduceBEq, Nat.reduceMul, Nat.reduceLT, Int.reduceLE, Int.reduceLT, Nat.reduceMod, List.length_map, q1, q2]
  refine hk2 _ ?_
  refine hn1 (some ([1], none)) _ ?_
  refine ev_seq_k fun K3 hn3 hr3 he3 => ?_
  refine ev_ops_k fun K4 hk4 => ?_
  refine evL_take 2 fun K5 hk5 => ?_
  simp only [shA, if_true, if_false, ite_true, ite_false, forall_const, ite_self, eq_self, reduceIte, reduceCtorEq, Nat.reduceEqDiff, Nat.reduceAdd, Nat.reduceLeDiff, Nat.reduceSub, Int.reduceToNat, Nat.reduceBEq, Nat.reduceMul, Nat.reduceLT, Int.reduceLE, Int.reduceLT, Nat.reduceMod, List.length_map, q1, q2]
  repeat (refine ⟨by first | assumption | omega | decide | (simp; done) | (simp_all; done) | (simp; omega), ?_⟩)
  refine hk5 _ ?_
  refine evL_take 2 fun K6 hk6 => ?_
  simp only [shA, if_true, if_false, ite_true, ite_false, forall_const, ite_self, eq_self, reduceIte, reduceCtorEq, Nat.reduceEqDiff, Nat.reduceAdd, Nat.reduceLeDiff, Nat.reduceSub, Int.reduceToNat, Nat.reduceBEq, Nat.reduceMul, Nat.reduceLT, Int.reduceLE, Int.reduceLT, Nat.reduceMod, List.length_map, q1, q2]
  repeat (refine ⟨by first | assumption | omega | decide | (simp; done) | (simp_all; done) | (simp; omega), ?_⟩)
  refine hk6 _ ?_
  refine evL_take 1 fun K7 hk7 => ?_
  simp only [shA, if_true, if_false, ite_true, ite_false, forall_const, ite_self, eq_self, reduceIte, reduceCtorEq, Nat.reduceEqDiff, Nat.reduceAdd, Nat.reduceLeDiff, Nat.reduceSub, Int.reduceToNat, Nat.reduceBEq, Nat.reduceMul, Nat.reduceLT, Int.reduceLE, Int.reduceLT, Nat.reduceMod, List.length_map, q1, q2]
  repeat (refine ⟨by first | assumption | omega | decide | (simp; done) | (simp_all; done) | (simp; omega), ?_⟩)
  refine hk7 _ ?_
  simp only [shA, if_true, if_false, ite_true, ite_false, forall_const, ite_self, eq_self, reduceIte, reduceCtorEq, Nat.reduceEqDiff, Nat.reduceAdd, Nat.reduceLeDiff, Nat.reduceSub, Int.reduceToNat, Nat.reduceBEq, Nat.reduceMul, Nat.reduceLT, Int.reduceLE, Int.reduceLT, Nat.reduceMod, List.length_map, q1, q2]
  refine hk4 _ ?_
  refine hn3 (some ([2], none)) _ ?_
  simp only [shA, if_true, if_false, ite_true, ite_false, forall_const, ite_self, eq_self, reduceIte, reduceCtorEq, Nat.reduceEqDiff, Nat.reduceAdd, Nat.reduceLeDiff, Nat.reduceSub, Int.reduceToNat, Nat.reduceBEq, Nat.reduceMul, Nat.reduceLT, Int.reduceLE, Int.reduceLT, Nat.reduceMod, ev, fin, rv_r5Many, List.length_map, q1, q2]
def NewInv5 (g : Nat) (ws : List WordV) (many m : Nat) (S : St) : Prop :=
  ∃ i, i ≤ many ∧ m = many - i ∧ S = ⟨[(2, .ptr 0 0 0), (3, .ptr 1 0 0), (4, sI i)], [(0, zR), (1, .box 81 [.sl 3 g (ws.map eWord), .sl 4 0 [], .own 2, .sl 3 0 []]), (2, .row 3 1 ((List.replicate i (0 : Int)).map eI))], 3⟩
set_option maxHeartbeats 4000000 in
theorem ok_r5New (g : Nat) (ws : List WordV) (h : ws.length ≤ 4096) : Ok 35 [.sl 3 g (ws.map eWord)] (eRef g (r5newM ws)) := by
  refine ok_of_tr Try.func35 tr_r5New rfl ?_
  have hM := ok_r5ManyN g ws h
  have hmm : (ws.length + 7) / 8 ≤ 1000 := by omega
  unfold r5newM
  generalize (ws.length + 7) / 8 = many at hM hmm
  unfold evFn sc_r5New
  refine ev_seq_k fun K1 hn1 hr1 he1 => ?_
  refine ev_ops_k fun K2 hk2 => ?_
  simp only [shA, if_true, if_false, ite_true, ite_false, forall_const, ite_self, eq_self, reduceIte, reduceCtorEq, Nat.reduceEqDiff, Nat.reduceAdd, Nat.reduceLeDiff, Nat.reduceSub, Int.reduceToNat, Nat.reduceBEq, Nat.reduceMul, Nat.reduceLT, Int.reduceLE, Int.reduceLT, Nat.reduceMod, List.length_map, List.length_replicate]
  refine hk2 _ ?_
  refine hn1 (some ([0, 2], none)) _ ?_
  refine ev_seq_k fun K3 hn3 hr3 he3 => ?_
  refine ev_ops_k fun K4 hk4 => ?_
  simp only [shA, if_true, if_false, ite_true, ite_false, forall_const, ite_self, eq_self, reduceIte, reduceCtorEq, Nat.reduceEqDiff, Nat.reduceAdd, Nat.reduceLeDiff, Nat.reduceSub, Int.reduceToNat, Nat.reduceBEq, Nat.reduceMul, Nat.reduceLT, Int.reduceLE, Int.reduceLT, Nat.reduceMod, List.length_map, List.length_replicate]
  repeat (refine ⟨by first | assumption | omega | decide | (simp; done) | (simp_all; done) | (simp; omega), ?_⟩)
  refine hk4 _ ?_
  refine hn3 (some ([2, 3], none)) _ ?_
  refine ev_seq_k fun K5 hn5 hr5 he5 => ?_
  refine ev_seq_k fun K6 hn6 hr6 he6 => ?_
  refine ev_ops_k fun K7 hk7 => ?_
  simp only [shA, if_true, if_false, ite_true, ite_false, forall_const, ite_self, eq_self, reduceIte, reduceCtorEq, Nat.reduceEqDiff, Nat.reduceAdd, Nat.reduceLeDiff, Nat.reduceSub, Int.reduceToNat, Nat.reduceBEq, Nat.reduceMul, Nat.reduceLT, Int.reduceLE, Int.reduceLT, Nat.reduceMod, List.length_map, List.length_replicate]
  refine hk7 _ ?_
  refine hn6 (some ([2, 3, 4], none)) _ ?_
  refine ev_block_k fun K8 hn8 hx8 hr8 he8 => ?_
  refine ev_loop_k (NewInv5 g ws many) (many) (some ([2, 3, 4], some ([0, 1, 2], 3))) ([.cell 1 2 (some 3) 1]) ?_ ?_
  · try simp only [St.casts, St.cast, nilS, St.put, St.newO, St.setO, delA, List.getElem?_cons_zero, List.getElem?_cons_succ, List.set_cons_zero, List.set_cons_succ, getA, Nat.reduceEqDiff, reduceCtorEq, keepT, renT, renSh, renC, renO, renOb, idxN, List.map_cons, List.map_nil, List.length_cons, List.length_nil, Nat.reduceAdd, Nat.zero_add, decide_true, St.keep, refsT, refsO, refsL, refsC, refsOk, decide_eq_true_eq, List.contains_cons, List.contains_nil, Bool.or_false, Bool.or_true, Bool.true_or, Bool.false_or, Bool.and_true, Bool.true_and, beq_self_eq_true, Nat.reduceBEq, reduceIte, Nat.blt_eq, Nat.reduceLT, decide_true, Nat.reduceLeDiff, Bool.false_eq_true, Bool.and_eq_true, and_self, true_and, and_true]
    exact ⟨0, by omega, by omega, rfl⟩
  · intro k S1 hI
    obtain ⟨i, hi, rfl, rfl⟩ := hI
    intro K9 hn9 hr9 he9
    refine ev_seq_k fun K10 hn10 hr10 he10 => ?_
    refine ev_seq_k fun K11 hn11 hr11 he11 => ?_
    refine ev_ops_k fun K12 hk12 => ?_
    refine evL_take 2 fun K13 hk13 => ?_
    simp only [shA, if_true, if_false, ite_true, ite_false, forall_const, ite_self, eq_self, reduceIte, reduceCtorEq, Nat.reduceEqDiff, Nat.reduceAdd, Nat.reduceLeDiff, Nat.reduceSub, Int.reduceToNat, Nat.reduceBEq, Nat.reduceMul, Nat.reduceLT, Int.reduceLE, Int.reduceLT, Nat.reduceMod, List.length_map, List.length_replicate]
    repeat (refine ⟨by first | assumption | omega | decide | (simp; done) | (simp_all; done) | (simp; omega), ?_⟩)
    refine hk13 _ ?_
    refine evL_take 1 fun K14 hk14 => ?_
    simp only [shA, if_true, if_false, ite_true, ite_false, forall_const, ite_self, eq_self, reduceIte, reduceCtorEq, Nat.reduceEqDiff, Nat.reduceAdd, Nat.reduceLeDiff, Nat.reduceSub, Int.reduceToNat, Nat.reduceBEq, Nat.reduceMul, Nat.reduceLT, Int.reduceLE, Int.reduceLT, Nat.reduceMod, List.length_map, List.length_replicate]
    refine Or.inr (evCallC_mk ([.anyc 8 2]) ?_)
    simp only [shA, if_true, if_false, ite_true, ite_false, forall_const, ite_self, eq_self, reduceIte, reduceCtorEq, Nat.reduceEqDiff, Nat.reduceAdd, Nat.reduceLeDiff, Nat.reduceSub, Int.reduceToNat, Nat.reduceBEq, Nat.reduceMul, Nat.reduceLT, Int.reduceLE, Int.reduceLT, Nat.reduceMod, List.length_map, List.length_replicate]
    refine Or.inl ⟨_, hM, ?_⟩
    refine hk14 _ ?_
    simp only [shA, if_true, if_false, ite_true, ite_false, forall_const, ite_self, eq_self, reduceIte, reduceCtorEq, Nat.reduceEqDiff, Nat.reduceAdd, Nat.reduceLeDiff, Nat.reduceSub, Int.reduceToNat, Nat.reduceBEq, Nat.reduceMul, Nat.reduceLT, Int.reduceLE, Int.reduceLT, Nat.reduceMod, List.length_map, List.length_replicate]
    repeat (refine ⟨by first | assumption | omega | decide | (simp; done) | (simp_all; done) | (simp; omega), ?_⟩)
    refine hk12 _ ?_
    refine hn11 (some ([2, 3, 4, 10], none)) _ ?_
    refine ev_cond_k rfl (fun hc0 => ?_) (fun hc0 => ?_)
    · try simp only [decide_eq_true_eq, decide_eq_false_iff_not, Bool.not_eq_true', Bool.not_eq_false', Bool.not_eq_eq_eq_not, Bool.not_true, Bool.not_false, beq_iff_eq, bne_iff_ne, beq_eq_false_iff_ne, bne_eq_false_iff_eq, ne_eq, Int.not_le, Int.not_lt] at hc0
      have q2 : IntKind.i64.wrap ((i : Int) + 1) = ((i + 1 : Nat) : Int) := by rw [IntKind.wrap_i64]; omega
      refine hn10 (some ([2, 3, 4], none)) _ ?_
      refine ev_seq_k fun K15 hn15 hr15 he15 => ?_
      refine ev_block_k fun K16 hn16 hx16 hr16 he16 => ?_
      refine ev_ops_k fun K17 hk17 => ?_
      refine evL_take 2 fun K18 hk18 => ?_
      simp only [shA, if_true, if_false, ite_true, ite_false, forall_const, ite_self, eq_self, reduceIte, reduceCtorEq, Nat.reduceEqDiff, Nat.reduceAdd, Nat.reduceLeDiff, Nat.reduceSub, Int.reduceToNat, Nat.reduceBEq, Nat.reduceMul, Nat.reduceLT, Int.reduceLE, Int.reduceLT, Nat.reduceMod, List.length_map, List.length_replicate, q2]
      repeat (refine ⟨by first | assumption | omega | decide | (simp; done) | (simp_all; done) | (simp; omega), ?_⟩)
      refine hk18 _ ?_
      refine evL_take 1 fun K19 hk19 => ?_
      simp only [shA, if_true, if_false, ite_true, ite_false, forall_const, ite_self, eq_self, reduceIte, reduceCtorEq, Nat.reduceEqDiff, Nat.reduceAdd, Nat.reduceLeDiff, Nat.reduceSub, Int.reduceToNat, Nat.reduceBEq, Nat.reduceMul, Nat.reduceLT, Int.reduceLE, Int.reduceLT, Nat.reduceMod, List.length_map, List.length_replicate, q2]
      repeat (refine ⟨by first | assumption | omega | decide | (simp; done) | (simp_all; done) | (simp; omega), ?_⟩)
      refine hk19 _ ?_
      refine evL_take 1 fun K20 hk20 => ?_
      simp only [shA, if_true, if_false, ite_true, ite_false, forall_const, ite_self, eq_self, reduceIte, reduceCtorEq, Nat.reduceEqDiff, Nat.reduceAdd, Nat.reduceLeDiff, Nat.reduceSub, Int.reduceToNat, Nat.reduceBEq, Nat.reduceMul, Nat.reduceLT, Int.reduceLE, Int.reduceLT, Nat.reduceMod, List.length_map, List.length_replicate, q2]
      repeat (refine ⟨by first | assumption | omega | decide | (simp; done) | (simp_all; done) | (simp; omega), ?_⟩)
      refine hk20 _ ?_
      simp only [shA, if_true, if_false, ite_true, ite_false, forall_const, ite_self, eq_self, reduceIte, reduceCtorEq, Nat.reduceEqDiff, Nat.reduceAdd, Nat.reduceLeDiff, Nat.reduceSub, Int.reduceToNat, Nat.reduceBEq, Nat.reduceMul, Nat.reduceLT, Int.reduceLE, Int.reduceLT, Nat.reduceMod, List.length_map, List.length_replicate, q2]
      repeat (refine ⟨by first | assumption | omega | decide | (simp; done) | (simp_all; done) | (simp; omega), ?_⟩)
      refine hk17 _ ?_
      refine hn16 _ ?_
      refine hn15 (some ([2, 3, 4], none)) _ ?_
      refine ev_ops_k fun K21 hk21 => ?_
      refine evL_take 2 fun K22 hk22 => ?_
      simp only [shA, if_true, if_false, ite_true, ite_false, forall_const, ite_self, eq_self, reduceIte, reduceCtorEq, Nat.reduceEqDiff, Nat.reduceAdd, Nat.reduceLeDiff, Nat.reduceSub, Int.reduceToNat, Nat.reduceBEq, Nat.reduceMul, Nat.reduceLT, Int.reduceLE, Int.reduceLT, Nat.reduceMod, List.length_map, List.length_replicate, q2]
      repeat (refine ⟨by first | assumption | omega | decide | (simp; done) | (simp_all; done) | (simp; omega), ?_⟩)
      refine hk22 _ ?_
      simp only [shA, if_true, if_false, ite_true, ite_false, forall_const, ite_self, eq_self, reduceIte, reduceCtorEq, Nat.reduceEqDiff, Nat.reduceAdd, Nat.reduceLeDiff, Nat.reduceSub, Int.reduceToNat, Nat.reduceBEq, Nat.reduceMul, Nat.reduceLT, Int.reduceLE, Int.reduceLT, Nat.reduceMod, List.length_map, List.length_replicate, q2]
      refine hk21 _ ?_
      refine hn9 (many - (i + 1)) (some ([2, 3, 4], some ([0, 1, 3], 3))) _ ?_ ?_
      all_goals try simp only [St.casts, St.cast, nilS, St.put, St.newO, St.setO, delA, List.getElem?_cons_zero, List.getElem?_cons_succ, List.set_cons_zero, List.set_cons_succ, getA, Nat.reduceEqDiff, reduceCtorEq, keepT, renT, renSh, renC, renO, renOb, idxN, List.map_cons, List.map_nil, List.length_cons, List.length_nil, Nat.reduceAdd, Nat.zero_add, decide_true, St.keep, refsT, refsO, refsL, refsC, refsOk, decide_eq_true_eq, List.contains_cons, List.contains_nil, Bool.or_false, Bool.or_true, Bool.true_or, Bool.false_or, Bool.and_true, Bool.true_and, beq_self_eq_true, Nat.reduceBEq, reduceIte, Nat.blt_eq, Nat.reduceLT, decide_true, Nat.reduceLeDiff, Bool.false_eq_true, Bool.and_eq_true, and_self, true_and, and_true]
      · omega
      · refine ⟨i + 1, by omega, by omega, ?_⟩
        rw [List.replicate_succ', List.map_append]
        rfl
    · try simp only [decide_eq_true_eq, decide_eq_false_iff_not, Bool.not_eq_true', Bool.not_eq_false', Bool.not_eq_eq_eq_not, Bool.not_true, Bool.not_false, beq_iff_eq, bne_iff_ne, beq_eq_false_iff_ne, bne_eq_false_iff_eq, ne_eq, Int.not_le, Int.not_lt] at hc0
      obtain rfl : i = many := by omega
      refine he10 0 _ ?_
      refine he9 0 _ ?_
      refine hx8 _ ?_
      refine hn5 (some ([2, 3], none)) _ ?_
      refine ev_seq_k fun K23 hn23 hr23 he23 => ?_
      refine ev_ops_k fun K24 hk24 => ?_
      refine evL_take 1 fun K25 hk25 => ?_
      simp only [shA, if_true, if_false, ite_true, ite_false, forall_const, ite_self, eq_self, reduceIte, reduceCtorEq, Nat.reduceEqDiff, Nat.reduceAdd, Nat.reduceLeDiff, Nat.reduceSub, Int.reduceToNat, Nat.reduceBEq, Nat.reduceMul, Nat.reduceLT, Int.reduceLE, Int.reduceLT, Nat.reduceMod, List.length_map, List.length_replicate]
      repeat (refine ⟨by first | assumption | omega | decide | (simp; done) | (simp_all; done) | (simp; omega), ?_⟩)
      refine hk25 _ ?_
      simp only [shA, if_true, if_false, ite_true, ite_false, forall_const, ite_self, eq_self, reduceIte, reduceCtorEq, Nat.reduceEqDiff, Nat.reduceAdd, Nat.reduceLeDiff, Nat.reduceSub, Int.reduceToNat, Nat.reduceBEq, Nat.reduceMul, Nat.reduceLT, Int.reduceLE, Int.reduceLT, Nat.reduceMod, List.length_map, List.length_replicate]
      repeat (refine ⟨by first | assumption | omega | decide | (simp; done) | (simp_all; done) | (simp; omega), ?_⟩)
      refine hk24 _ ?_
      refine hn23 (some ([2], none)) _ ?_
      simp only [shA, if_true, if_false, ite_true, ite_false, forall_const, ite_self, eq_self, reduceIte, reduceCtorEq, Nat.reduceEqDiff, Nat.reduceAdd, Nat.reduceLeDiff, Nat.reduceSub, Int.reduceToNat, Nat.reduceBEq, Nat.reduceMul, Nat.reduceLT, Int.reduceLE, Int.reduceLT, Nat.reduceMod, ev, fin, rv_r5New, List.length_map, List.length_replicate]
      rfl

/-- The two runs behind the first n operations. -/
def runP (w : List WordV) (l : List ActV) : Nat → LinesM × RefM
  | 0 => (newM w, r5newM w)
  | n + 1 => match l[n]? with
    | some a => ((doneM (runP w l n).1 a).1, (meantM (runP w l n).2 a).1)
    | none => runP w l n
theorem runP_succ {w : List WordV} {l : List ActV} {n : Nat} {a : ActV} (h : l[n]? = some a) : runP w l (n + 1) = ((doneM (runP w l n).1 a).1, (meantM (runP w l n).2 a).1) := by
  rw [runP, h]
theorem runP_good (w : List WordV) (l : List ActV) (hw : w.length ≤ 4096) : ∀ n, LGood (runP w l n).1 n ∧ RelR (runP w l n).1 (runP w l n).2 ∧ (runP w l n).2.puts.length ≤ n ∧ (runP w l n).2.asks.length ≤ n
  | 0 => ⟨good_new w hw, rel_new w, Nat.le_refl _, Nat.le_refl _⟩
  | n + 1 => by
    obtain ⟨h1, h2, h3, h4⟩ := runP_good w l hw n
    unfold runP
    cases e : l[n]? with
    | none => exact ⟨⟨h1.lines, h1.asks, fun y hy => by have := h1.most y hy; omega⟩, h2, Nat.le_succ_of_le h3, Nat.le_succ_of_le h4⟩
    | some a => exact ⟨(done_good h1 a).1, (rel_done h1 h2 a).1, (meant_cnt _ a n h3 h4).1, (meant_cnt _ a n h3 h4).2⟩
def PInv0 (w : List WordV) (g : Nat) (l : List ActV) (g2 : Nat) (c : Int) (k : Nat) (S : St) : Prop :=
  ∃ n, n ≤ l.length ∧ k = l.length - n ∧ S = ⟨[(1, .sl 6 g2 (l.map eAct)), (2, sI c), (7, .ptr 0 0 0), (9, .ptr 1 0 0), (10, sI n)], [(0, boxL (runP w l n).1), (1, boxR g (runP w l n).2)], 2⟩

set_option maxHeartbeats 8000000 in
theorem ok_LinePlays (w : List WordV) (g : Nat) (l : List ActV) (g2 : Nat) (c : Int) (hl : ∀ a ∈ l, 0 ≤ a.kind ∧ a.kind ≤ 255) : Ok 11 [.sl 3 g (w.map eWord), .sl 6 g2 (l.map eAct), sI c] (sB true) := by
  refine ok_of_tr Try.func11 tr_LinePlays rfl ?_
  by_cases hgr : 40 < w.length ∨ 80 < l.length
  · have d1 : decide (40 < w.length ∨ 80 < l.length) = true := decide_eq_true hgr
    unfold evFn sc_LinePlays
    refine ev_seq_k fun K1 hn1 hr1 he1 => ?_
    refine ev_ops_k fun K2 hk2 => ?_
    simp only [shA, if_true, if_false, ite_true, ite_false, forall_const, ite_self, eq_self, reduceIte, reduceCtorEq, Nat.reduceEqDiff, Nat.reduceAdd, Nat.reduceLeDiff, Nat.reduceSub, Int.reduceToNat, Nat.reduceBEq, Nat.reduceMul, Nat.reduceLT, Int.reduceLE, Int.reduceLT, Nat.reduceMod, d1]
    refine hk2 _ ?_
    refine hn1 (some ([0, 1, 2, 29, 30, 31, 32, 33, 63, 64, 65, 66, 67, 70, 71, 72, 73, 74, 75, 76, 77, 78, 79], none)) _ ?_
    refine ev_seq_k fun K3 hn3 hr3 he3 => ?_
    refine ev_seq_k fun K4 hn4 hr4 he4 => ?_
    refine ev_ops_k fun K5 hk5 => ?_
    refine evL_take 2 fun K6 hk6 => ?_
    simp only [shA, if_true, if_false, ite_true, ite_false, forall_const, ite_self, eq_self, reduceIte, reduceCtorEq, Nat.reduceEqDiff, Nat.reduceAdd, Nat.reduceLeDiff, Nat.reduceSub, Int.reduceToNat, Nat.reduceBEq, Nat.reduceMul, Nat.reduceLT, Int.reduceLE, Int.reduceLT, Nat.reduceMod, d1]
    refine hk6 _ ?_
    simp only [shA, if_true, if_false, ite_true, ite_false, forall_const, ite_self, eq_self, reduceIte, reduceCtorEq, Nat.reduceEqDiff, Nat.reduceAdd, Nat.reduceLeDiff, Nat.reduceSub, Int.reduceToNat, Nat.reduceBEq, Nat.reduceMul, Nat.reduceLT, Int.reduceLE, Int.reduceLT, Nat.reduceMod, d1]
    refine Or.inl (Or.inl ⟨_, ok_l5great g g2 w l, ?_⟩)
    refine hk5 _ ?_
    refine hn4 (some ([0, 1, 2, 17, 29, 30, 31, 32, 33, 63, 64, 65, 66, 67, 70, 71, 72, 73, 74, 75, 76, 77, 78, 79], none)) _ ?_
    refine ev_cond_k rfl (fun hc0 => ?_) (fun hx => absurd hx (by rw [d1] at hx; cases hx))
    clear hc0
    refine ev_seq_k fun K7 hn7 hr7 he7 => ?_
    refine ev_ops_k fun K8 hk8 => ?_
    refine evL_take 1 fun K9 hk9 => ?_
    simp only [shA, if_true, if_false, ite_true, ite_false, forall_const, ite_self, eq_self, reduceIte, reduceCtorEq, Nat.reduceEqDiff, Nat.reduceAdd, Nat.reduceLeDiff, Nat.reduceSub, Int.reduceToNat, Nat.reduceBEq, Nat.reduceMul, Nat.reduceLT, Int.reduceLE, Int.reduceLT, Nat.reduceMod, d1]
    refine Or.inl (Or.inl ⟨_, ok_l5awake, ?_⟩)
    refine hk9 _ ?_
    simp only [shA, if_true, if_false, ite_true, ite_false, forall_const, ite_self, eq_self, reduceIte, reduceCtorEq, Nat.reduceEqDiff, Nat.reduceAdd, Nat.reduceLeDiff, Nat.reduceSub, Int.reduceToNat, Nat.reduceBEq, Nat.reduceMul, Nat.reduceLT, Int.reduceLE, Int.reduceLT, Nat.reduceMod, d1]
    refine hk8 _ ?_
    refine hn7 (some ([6], none)) _ ?_
    refine hr3 _ ?_
    simp only [shA, if_true, if_false, ite_true, ite_false, forall_const, ite_self, eq_self, reduceIte, reduceCtorEq, Nat.reduceEqDiff, Nat.reduceAdd, Nat.reduceLeDiff, Nat.reduceSub, Int.reduceToNat, Nat.reduceBEq, Nat.reduceMul, Nat.reduceLT, Int.reduceLE, Int.reduceLT, Nat.reduceMod, ev, fin, rv_LinePlays, d1]
  have d1 : decide (40 < w.length ∨ 80 < l.length) = false := decide_eq_false hgr
  have hgd := runP_good w l (by omega)
  have hsame : ∀ n, n ≤ 1000 → Ok 36 [eLines (runP w l n).1, eRef g (runP w l n).2, sI c] (sB true) := fun n hn => by
    obtain ⟨h1, h2, h3, h4⟩ := hgd n
    exact ok_l5same g _ _ c n h1 h2 (rgood_of h1 h2 h3 h4) hn
  have hs0 := hsame 0 (by omega)
  have hrun0 : runP w l 0 = (newM w, r5newM w) := rfl
  rw [hrun0] at hs0
  unfold evFn sc_LinePlays
  refine ev_seq_k fun K1 hn1 hr1 he1 => ?_
  refine ev_ops_k fun K2 hk2 => ?_
  simp only [shA, if_true, if_false, ite_true, ite_false, forall_const, ite_self, eq_self, reduceIte, reduceCtorEq, Nat.reduceEqDiff, Nat.reduceAdd, Nat.reduceLeDiff, Nat.reduceSub, Int.reduceToNat, Nat.reduceBEq, Nat.reduceMul, Nat.reduceLT, Int.reduceLE, Int.reduceLT, Nat.reduceMod, d1, List.length_map, bne_self_eq_false, Int.reduceBEq, Int.reduceBNe]
  refine hk2 _ ?_
  refine hn1 (some ([0, 1, 2, 29, 30, 31, 32, 33, 63, 64, 65, 66, 67, 70, 71, 72, 73, 74, 75, 76, 77, 78, 79], none)) _ ?_
  refine ev_seq_k fun K3 hn3 hr3 he3 => ?_
  refine ev_seq_k fun K4 hn4 hr4 he4 => ?_
  refine ev_ops_k fun K5 hk5 => ?_
  refine evL_take 2 fun K6 hk6 => ?_
  simp only [shA, if_true, if_false, ite_true, ite_false, forall_const, ite_self, eq_self, reduceIte, reduceCtorEq, Nat.reduceEqDiff, Nat.reduceAdd, Nat.reduceLeDiff, Nat.reduceSub, Int.reduceToNat, Nat.reduceBEq, Nat.reduceMul, Nat.reduceLT, Int.reduceLE, Int.reduceLT, Nat.reduceMod, d1, List.length_map, bne_self_eq_false, Int.reduceBEq, Int.reduceBNe]
  refine hk6 _ ?_
  simp only [shA, if_true, if_false, ite_true, ite_false, forall_const, ite_self, eq_self, reduceIte, reduceCtorEq, Nat.reduceEqDiff, Nat.reduceAdd, Nat.reduceLeDiff, Nat.reduceSub, Int.reduceToNat, Nat.reduceBEq, Nat.reduceMul, Nat.reduceLT, Int.reduceLE, Int.reduceLT, Nat.reduceMod, d1, List.length_map, bne_self_eq_false, Int.reduceBEq, Int.reduceBNe]
  refine Or.inl (Or.inl ⟨_, ok_l5great g g2 w l, ?_⟩)
  refine hk5 _ ?_
  refine hn4 (some ([0, 1, 2, 17, 29, 30, 31, 32, 33, 63, 64, 65, 66, 67, 70, 71, 72, 73, 74, 75, 76, 77, 78, 79], none)) _ ?_
  refine ev_cond_k rfl (fun hx => absurd hx (by rw [d1] at hx; cases hx)) (fun hc0 => ?_)
  clear hc0
  refine hn3 (some ([0, 1, 2, 29, 30, 31, 32, 33, 63, 64, 65, 66, 67, 70, 71, 72, 73, 74, 75, 76, 77, 78, 79], none)) _ ?_
  refine ev_seq_k fun K7 hn7 hr7 he7 => ?_
  refine ev_ops_k fun K8 hk8 => ?_
  refine evL_take 1 fun K9 hk9 => ?_
  simp only [shA, if_true, if_false, ite_true, ite_false, forall_const, ite_self, eq_self, reduceIte, reduceCtorEq, Nat.reduceEqDiff, Nat.reduceAdd, Nat.reduceLeDiff, Nat.reduceSub, Int.reduceToNat, Nat.reduceBEq, Nat.reduceMul, Nat.reduceLT, Int.reduceLE, Int.reduceLT, Nat.reduceMod, d1, List.length_map, bne_self_eq_false, Int.reduceBEq, Int.reduceBNe]
  refine hk9 _ ?_
  refine evL_take 1 fun K10 hk10 => ?_
  simp only [shA, if_true, if_false, ite_true, ite_false, forall_const, ite_self, eq_self, reduceIte, reduceCtorEq, Nat.reduceEqDiff, Nat.reduceAdd, Nat.reduceLeDiff, Nat.reduceSub, Int.reduceToNat, Nat.reduceBEq, Nat.reduceMul, Nat.reduceLT, Int.reduceLE, Int.reduceLT, Nat.reduceMod, d1, List.length_map, bne_self_eq_false, Int.reduceBEq, Int.reduceBNe]
  refine Or.inl (Or.inl ⟨_, ok_lineNew g w (by omega), ?_⟩)
  refine hk10 _ ?_
  refine evL_take 5 fun K11 hk11 => ?_
  simp only [shA, if_true, if_false, ite_true, ite_false, forall_const, ite_self, eq_self, reduceIte, reduceCtorEq, Nat.reduceEqDiff, Nat.reduceAdd, Nat.reduceLeDiff, Nat.reduceSub, Int.reduceToNat, Nat.reduceBEq, Nat.reduceMul, Nat.reduceLT, Int.reduceLE, Int.reduceLT, Nat.reduceMod, d1, List.length_map, bne_self_eq_false, Int.reduceBEq, Int.reduceBNe]
  repeat (refine ⟨by first | assumption | omega | decide | (simp; done) | (simp_all; done) | (simp; omega), ?_⟩)
  refine hk11 _ ?_
  simp only [shA, if_true, if_false, ite_true, ite_false, forall_const, ite_self, eq_self, reduceIte, reduceCtorEq, Nat.reduceEqDiff, Nat.reduceAdd, Nat.reduceLeDiff, Nat.reduceSub, Int.reduceToNat, Nat.reduceBEq, Nat.reduceMul, Nat.reduceLT, Int.reduceLE, Int.reduceLT, Nat.reduceMod, d1, List.length_map, bne_self_eq_false, Int.reduceBEq, Int.reduceBNe]
  refine hk8 _ ?_
  refine hn7 (some ([0, 1, 2, 7, 8, 29, 30, 31, 32, 33, 63, 64, 65, 66, 67, 70, 71, 72, 73, 74, 75, 76, 77, 78, 79], none)) _ ?_
  refine ev_seq_k fun K12 hn12 hr12 he12 => ?_
  refine ev_ops_k fun K13 hk13 => ?_
  refine evL_take 1 fun K14 hk14 => ?_
  simp only [shA, if_true, if_false, ite_true, ite_false, forall_const, ite_self, eq_self, reduceIte, reduceCtorEq, Nat.reduceEqDiff, Nat.reduceAdd, Nat.reduceLeDiff, Nat.reduceSub, Int.reduceToNat, Nat.reduceBEq, Nat.reduceMul, Nat.reduceLT, Int.reduceLE, Int.reduceLT, Nat.reduceMod, d1, List.length_map, bne_self_eq_false, Int.reduceBEq, Int.reduceBNe]
  refine hk14 _ ?_
  refine evL_take 1 fun K15 hk15 => ?_
  simp only [shA, if_true, if_false, ite_true, ite_false, forall_const, ite_self, eq_self, reduceIte, reduceCtorEq, Nat.reduceEqDiff, Nat.reduceAdd, Nat.reduceLeDiff, Nat.reduceSub, Int.reduceToNat, Nat.reduceBEq, Nat.reduceMul, Nat.reduceLT, Int.reduceLE, Int.reduceLT, Nat.reduceMod, d1, List.length_map, bne_self_eq_false, Int.reduceBEq, Int.reduceBNe]
  refine Or.inl (Or.inl ⟨_, ok_r5New g w (by omega), ?_⟩)
  refine hk15 _ ?_
  simp only [shA, if_true, if_false, ite_true, ite_false, forall_const, ite_self, eq_self, reduceIte, reduceCtorEq, Nat.reduceEqDiff, Nat.reduceAdd, Nat.reduceLeDiff, Nat.reduceSub, Int.reduceToNat, Nat.reduceBEq, Nat.reduceMul, Nat.reduceLT, Int.reduceLE, Int.reduceLT, Nat.reduceMod, d1, List.length_map, bne_self_eq_false, Int.reduceBEq, Int.reduceBNe]
  repeat (refine ⟨by first | assumption | omega | decide | (simp; done) | (simp_all; done) | (simp; omega), ?_⟩)
  refine hk13 _ ?_
  refine hn12 (some ([1, 2, 7, 8, 9, 29, 30, 31, 32, 33, 63, 64, 65, 66, 67, 70, 71, 72, 73, 74, 75, 76, 77, 78, 79], none)) _ ?_
  refine ev_seq_k fun K16 hn16 hr16 he16 => ?_
  refine ev_seq_k fun K17 hn17 hr17 he17 => ?_
  refine ev_ops_k fun K18 hk18 => ?_
  refine evL_take 2 fun K19 hk19 => ?_
  simp only [shA, if_true, if_false, ite_true, ite_false, forall_const, ite_self, eq_self, reduceIte, reduceCtorEq, Nat.reduceEqDiff, Nat.reduceAdd, Nat.reduceLeDiff, Nat.reduceSub, Int.reduceToNat, Nat.reduceBEq, Nat.reduceMul, Nat.reduceLT, Int.reduceLE, Int.reduceLT, Nat.reduceMod, d1, List.length_map, bne_self_eq_false, Int.reduceBEq, Int.reduceBNe]
  repeat (refine ⟨by first | assumption | omega | decide | (simp; done) | (simp_all; done) | (simp; omega), ?_⟩)
  refine hk19 _ ?_
  refine evL_take 2 fun K20 hk20 => ?_
  simp only [shA, if_true, if_false, ite_true, ite_false, forall_const, ite_self, eq_self, reduceIte, reduceCtorEq, Nat.reduceEqDiff, Nat.reduceAdd, Nat.reduceLeDiff, Nat.reduceSub, Int.reduceToNat, Nat.reduceBEq, Nat.reduceMul, Nat.reduceLT, Int.reduceLE, Int.reduceLT, Nat.reduceMod, d1, List.length_map, bne_self_eq_false, Int.reduceBEq, Int.reduceBNe]
  repeat (refine ⟨by first | assumption | omega | decide | (simp; done) | (simp_all; done) | (simp; omega), ?_⟩)
  refine hk20 _ ?_
  refine evL_take 1 fun K21 hk21 => ?_
  simp only [shA, if_true, if_false, ite_true, ite_false, forall_const, ite_self, eq_self, reduceIte, reduceCtorEq, Nat.reduceEqDiff, Nat.reduceAdd, Nat.reduceLeDiff, Nat.reduceSub, Int.reduceToNat, Nat.reduceBEq, Nat.reduceMul, Nat.reduceLT, Int.reduceLE, Int.reduceLT, Nat.reduceMod, d1, List.length_map, bne_self_eq_false, Int.reduceBEq, Int.reduceBNe]
  repeat (refine ⟨by first | assumption | omega | decide | (simp; done) | (simp_all; done) | (simp; omega), ?_⟩)
  refine hk21 _ ?_
  refine evL_take 1 fun K22 hk22 => ?_
  simp only [shA, if_true, if_false, ite_true, ite_false, forall_const, ite_self, eq_self, reduceIte, reduceCtorEq, Nat.reduceEqDiff, Nat.reduceAdd, Nat.reduceLeDiff, Nat.reduceSub, Int.reduceToNat, Nat.reduceBEq, Nat.reduceMul, Nat.reduceLT, Int.reduceLE, Int.reduceLT, Nat.reduceMod, d1, List.length_map, bne_self_eq_false, Int.reduceBEq, Int.reduceBNe]
  refine hk22 _ ?_
  refine evL_take 1 fun K23 hk23 => ?_
  simp only [shA, if_true, if_false, ite_true, ite_false, forall_const, ite_self, eq_self, reduceIte, reduceCtorEq, Nat.reduceEqDiff, Nat.reduceAdd, Nat.reduceLeDiff, Nat.reduceSub, Int.reduceToNat, Nat.reduceBEq, Nat.reduceMul, Nat.reduceLT, Int.reduceLE, Int.reduceLT, Nat.reduceMod, d1, List.length_map, bne_self_eq_false, Int.reduceBEq, Int.reduceBNe]
  refine Or.inl (Or.inl ⟨_, hs0, ?_⟩)
  refine hk23 _ ?_
  simp only [shA, if_true, if_false, ite_true, ite_false, forall_const, ite_self, eq_self, reduceIte, reduceCtorEq, Nat.reduceEqDiff, Nat.reduceAdd, Nat.reduceLeDiff, Nat.reduceSub, Int.reduceToNat, Nat.reduceBEq, Nat.reduceMul, Nat.reduceLT, Int.reduceLE, Int.reduceLT, Nat.reduceMod, d1, List.length_map, bne_self_eq_false, Int.reduceBEq, Int.reduceBNe]
  refine hk18 _ ?_
  refine hn17 (some ([1, 2, 7, 9, 34, 63, 64, 65, 66, 67, 70, 71, 72, 73, 74, 75, 76, 77, 78, 79], none)) _ ?_
  refine ev_cond_k rfl (fun hx => absurd hx (by simp at hx)) (fun hc1 => ?_)
  clear hc1
  refine hn16 (some ([1, 2, 7, 9, 63, 64, 65, 66, 67, 70, 71, 72, 73, 74, 75, 76, 77, 78, 79], none)) _ ?_
  refine ev_seq_k fun K24 hn24 hr24 he24 => ?_
  refine ev_seq_k fun K25 hn25 hr25 he25 => ?_
  refine ev_ops_k fun K26 hk26 => ?_
  simp only [shA, if_true, if_false, ite_true, ite_false, forall_const, ite_self, eq_self, reduceIte, reduceCtorEq, Nat.reduceEqDiff, Nat.reduceAdd, Nat.reduceLeDiff, Nat.reduceSub, Int.reduceToNat, Nat.reduceBEq, Nat.reduceMul, Nat.reduceLT, Int.reduceLE, Int.reduceLT, Nat.reduceMod, d1, List.length_map, bne_self_eq_false, Int.reduceBEq, Int.reduceBNe]
  refine hk26 _ ?_
  refine hn25 (some ([1, 2, 7, 9, 10, 63, 64, 65, 66, 67, 70, 71, 72, 73, 74, 75, 76, 77, 78, 79], none)) _ ?_
  refine ev_block_k fun K27 hn27 hx27 hr27 he27 => ?_
  refine ev_loop_k (PInv0 w g l g2 c) (l.length) (some ([1, 2, 7, 9, 10], some ([0, 1], 2))) ([]) ?_ ?_
  · try simp only [St.casts, St.cast, nilS, St.put, St.newO, St.setO, delA, List.getElem?_cons_zero, List.getElem?_cons_succ, List.set_cons_zero, List.set_cons_succ, getA, Nat.reduceEqDiff, reduceCtorEq, keepT, renT, renSh, renC, renO, renOb, idxN, List.map_cons, List.map_nil, List.length_cons, List.length_nil, Nat.reduceAdd, Nat.zero_add, decide_true, St.keep, refsT, refsO, refsL, refsC, refsOk, decide_eq_true_eq, List.contains_cons, List.contains_nil, Bool.or_false, Bool.or_true, Bool.true_or, Bool.false_or, Bool.and_true, Bool.true_and, beq_self_eq_true, Nat.reduceBEq, reduceIte, Nat.blt_eq, Nat.reduceLT, decide_true, Nat.reduceLeDiff, Bool.false_eq_true, Bool.and_eq_true, and_self, true_and, and_true]
    exact ⟨0, by omega, by omega, rfl⟩
  · intro k S1 hI
    obtain ⟨n, hn, rfl, rfl⟩ := hI
    obtain ⟨gx, gr, p3, p4⟩ := hgd n
    have hrg := rgood_of gx gr p3 p4
    have hcase : n = l.length ∨ ∃ a, l[n]? = some a ∧ ((n : Int) % 8 = 0 ∨ ¬ (n : Int) % 8 = 0) := by
      rcases Nat.lt_or_ge n l.length with h | h
      · exact .inr ⟨l[n], by simp, by omega⟩
      · exact .inl (by omega)
    intro K28 hn28 hr28 he28
    rcases hcase with hc | ⟨a, ha, hc | hc⟩
    · skip
      subst hc
      have d2 : ¬ (l.length : Int) < (l.length : Int) := by omega
      refine ev_seq_k fun K29 hn29 hr29 he29 => ?_
      refine ev_seq_k fun K30 hn30 hr30 he30 => ?_
      refine ev_ops_k fun K31 hk31 => ?_
      simp only [shA, if_true, if_false, ite_true, ite_false, forall_const, ite_self, eq_self, reduceIte, reduceCtorEq, Nat.reduceEqDiff, Nat.reduceAdd, Nat.reduceLeDiff, Nat.reduceSub, Int.reduceToNat, Nat.reduceBEq, Nat.reduceMul, Nat.reduceLT, Int.reduceLE, Int.reduceLT, Nat.reduceMod, d1, List.length_map, bne_self_eq_false, Int.reduceBEq, Int.reduceBNe, d2]
      repeat (refine ⟨by first | assumption | omega | decide | (simp; done) | (simp_all; done) | (simp; omega), ?_⟩)
      refine hk31 _ ?_
      refine hn30 (some ([1, 2, 7, 9, 10, 38, 63, 64, 65, 66, 67, 70, 71, 72, 73, 74, 75, 76, 77, 78, 79], none)) _ ?_
      refine ev_cond_k rfl (fun hx => absurd hx (by simp at hx)) (fun hc2 => ?_)
      clear hc2
      refine he29 0 _ ?_
      refine he28 0 _ ?_
      refine hx27 _ ?_
      refine hn24 (some ([], none)) _ ?_
      refine ev_seq_k fun K32 hn32 hr32 he32 => ?_
      refine ev_ops_k fun K33 hk33 => ?_
      refine evL_take 1 fun K34 hk34 => ?_
      simp only [shA, if_true, if_false, ite_true, ite_false, forall_const, ite_self, eq_self, reduceIte, reduceCtorEq, Nat.reduceEqDiff, Nat.reduceAdd, Nat.reduceLeDiff, Nat.reduceSub, Int.reduceToNat, Nat.reduceBEq, Nat.reduceMul, Nat.reduceLT, Int.reduceLE, Int.reduceLT, Nat.reduceMod, d1, List.length_map, bne_self_eq_false, Int.reduceBEq, Int.reduceBNe, d2]
      refine Or.inl (Or.inl ⟨_, ok_l5awake, ?_⟩)
      refine hk34 _ ?_
      simp only [shA, if_true, if_false, ite_true, ite_false, forall_const, ite_self, eq_self, reduceIte, reduceCtorEq, Nat.reduceEqDiff, Nat.reduceAdd, Nat.reduceLeDiff, Nat.reduceSub, Int.reduceToNat, Nat.reduceBEq, Nat.reduceMul, Nat.reduceLT, Int.reduceLE, Int.reduceLT, Nat.reduceMod, d1, List.length_map, bne_self_eq_false, Int.reduceBEq, Int.reduceBNe, d2]
      refine hk33 _ ?_
      refine hn32 (some ([6], none)) _ ?_
      simp only [shA, if_true, if_false, ite_true, ite_false, forall_const, ite_self, eq_self, reduceIte, reduceCtorEq, Nat.reduceEqDiff, Nat.reduceAdd, Nat.reduceLeDiff, Nat.reduceSub, Int.reduceToNat, Nat.reduceBEq, Nat.reduceMul, Nat.reduceLT, Int.reduceLE, Int.reduceLT, Nat.reduceMod, ev, fin, rv_LinePlays, d1, List.length_map, bne_self_eq_false, Int.reduceBEq, Int.reduceBNe, d2]
    · skip
      have d2 : (n : Int) < (l.length : Int) := by have := (List.getElem?_eq_some_iff.1 ha).1; omega
      have hkd := hl a (List.mem_of_getElem? ha)
      have q0 : (n : Int).tmod 8 = (n : Int) % 8 := Int.tmod_eq_emod_of_nonneg (by omega)
      have q1 : ((n : Int) % 8 == 0) = true := by simp [hc]
      have q3 : IntKind.i64.wrap ((n : Int) + 1) = ((n + 1 : Nat) : Int) := by rw [IntKind.wrap_i64]; omega
      obtain ⟨r1, r2⟩ := rel_done gx gr a
      have hd1 := ok_l5done _ n a gx (by omega) hkd
      have hd2 := ok_l5meant g _ n a hrg (by omega) hkd
      rw [← r2] at hd2
      have hsn := hsame (n + 1) (by omega)
      rw [runP_succ ha] at hsn
      have hso := hsame n (by omega)
      refine ev_seq_k fun K35 hn35 hr35 he35 => ?_
      refine ev_seq_k fun K36 hn36 hr36 he36 => ?_
      refine ev_ops_k fun K37 hk37 => ?_
      simp only [shA, if_true, if_false, ite_true, ite_false, forall_const, ite_self, eq_self, reduceIte, reduceCtorEq, Nat.reduceEqDiff, Nat.reduceAdd, Nat.reduceLeDiff, Nat.reduceSub, Int.reduceToNat, Nat.reduceBEq, Nat.reduceMul, Nat.reduceLT, Int.reduceLE, Int.reduceLT, Nat.reduceMod, d1, List.length_map, bne_self_eq_false, Int.reduceBEq, Int.reduceBNe, List.getElem?_map, Int.toNat_natCast, d2, ha, q0, q1, q3]
      repeat (refine ⟨by first | assumption | omega | decide | (simp; done) | (simp_all; done) | (simp; omega), ?_⟩)
      refine hk37 _ ?_
      refine hn36 (some ([1, 2, 7, 9, 10, 38, 63, 64, 65, 66, 67, 70, 71, 72, 73, 74, 75, 76, 77, 78, 79], none)) _ ?_
      refine ev_cond_k rfl (fun hc2 => ?_) (fun hx => absurd hx (by simp at hx))
      clear hc2
      refine hn35 (some ([1, 2, 7, 9, 10, 63, 64, 65, 66, 67, 70, 71, 72, 73, 74, 75, 76, 77, 78, 79], none)) _ ?_
      refine ev_seq_k fun K38 hn38 hr38 he38 => ?_
      refine ev_block_k fun K39 hn39 hx39 hr39 he39 => ?_
      refine ev_seq_k fun K40 hn40 hr40 he40 => ?_
      refine ev_drw_k [] (n := 10) fun K41 hk41 => ?_
      simp only [List.take_succ_cons, List.take_zero, St.frzAll, St.frzSh, St.frzRow, St.frzBox, St.frzCells, St.argL, St.arg1, St.res, Sh.pure, St.setO, getA, delA, keepT, St.keep, reduceIte, Nat.reduceEqDiff, reduceCtorEq, Option.bind_some, Option.map_some, List.contains_cons, List.contains_nil, Nat.reduceBEq, Bool.or_false, Bool.or_true, Bool.false_or, beq_self_eq_true, Bool.false_eq_true]
      refine evF_take 1 fun K43 hk43 => ?_
      simp only [shA, if_true, if_false, ite_true, ite_false, forall_const, ite_self, eq_self, reduceIte, reduceCtorEq, Nat.reduceEqDiff, Nat.reduceAdd, Nat.reduceLeDiff, Nat.reduceSub, Int.reduceToNat, Nat.reduceBEq, Nat.reduceMul, Nat.reduceLT, Int.reduceLE, Int.reduceLT, Nat.reduceMod, d1, List.length_map, bne_self_eq_false, Int.reduceBEq, Int.reduceBNe, List.getElem?_map, Int.toNat_natCast, d2, ha, q0, q1, q3]
      repeat (refine ⟨by first | assumption | omega | decide | (simp; done) | (simp_all; done) | (simp; omega), ?_⟩)
      refine hk43 _ _ _ ?_
      refine evF_take 3 fun K44 hk44 => ?_
      simp only [shA, if_true, if_false, ite_true, ite_false, forall_const, ite_self, eq_self, reduceIte, reduceCtorEq, Nat.reduceEqDiff, Nat.reduceAdd, Nat.reduceLeDiff, Nat.reduceSub, Int.reduceToNat, Nat.reduceBEq, Nat.reduceMul, Nat.reduceLT, Int.reduceLE, Int.reduceLT, Nat.reduceMod, d1, List.length_map, bne_self_eq_false, Int.reduceBEq, Int.reduceBNe, List.getElem?_map, Int.toNat_natCast, d2, ha, q0, q1, q3]
      repeat (refine ⟨by first | assumption | omega | decide | (simp; done) | (simp_all; done) | (simp; omega), ?_⟩)
      refine hk44 _ _ _ ?_
      refine evF_take 1 fun K45 hk45 => ?_
      simp only [shA, if_true, if_false, ite_true, ite_false, forall_const, ite_self, eq_self, reduceIte, reduceCtorEq, Nat.reduceEqDiff, Nat.reduceAdd, Nat.reduceLeDiff, Nat.reduceSub, Int.reduceToNat, Nat.reduceBEq, Nat.reduceMul, Nat.reduceLT, Int.reduceLE, Int.reduceLT, Nat.reduceMod, d1, List.length_map, bne_self_eq_false, Int.reduceBEq, Int.reduceBNe, List.getElem?_map, Int.toNat_natCast, d2, ha, q0, q1, q3]
      repeat (refine ⟨by first | assumption | omega | decide | (simp; done) | (simp_all; done) | (simp; omega), ?_⟩)
      refine hk45 _ _ _ ?_
      refine evF_take 1 fun K46 hk46 => ?_
      simp only [shA, if_true, if_false, ite_true, ite_false, forall_const, ite_self, eq_self, reduceIte, reduceCtorEq, Nat.reduceEqDiff, Nat.reduceAdd, Nat.reduceLeDiff, Nat.reduceSub, Int.reduceToNat, Nat.reduceBEq, Nat.reduceMul, Nat.reduceLT, Int.reduceLE, Int.reduceLT, Nat.reduceMod, d1, List.length_map, bne_self_eq_false, Int.reduceBEq, Int.reduceBNe, List.getElem?_map, Int.toNat_natCast, d2, ha, q0, q1, q3]
      refine ⟨_, hd1, ?_⟩
      refine hk46 _ _ _ ?_
      simp only [shA, if_true, if_false, ite_true, ite_false, forall_const, ite_self, eq_self, reduceIte, reduceCtorEq, Nat.reduceEqDiff, Nat.reduceAdd, Nat.reduceLeDiff, Nat.reduceSub, Int.reduceToNat, Nat.reduceBEq, Nat.reduceMul, Nat.reduceLT, Int.reduceLE, Int.reduceLT, Nat.reduceMod, d1, List.length_map, bne_self_eq_false, Int.reduceBEq, Int.reduceBNe, List.getElem?_map, Int.toNat_natCast, d2, ha, q0, q1, q3]
      refine hk41 _ ?_
      simp only [List.drop_succ_cons, List.drop_zero]
      refine evL_take 1 fun K47 hk47 => ?_
      simp only [shA, if_true, if_false, ite_true, ite_false, forall_const, ite_self, eq_self, reduceIte, reduceCtorEq, Nat.reduceEqDiff, Nat.reduceAdd, Nat.reduceLeDiff, Nat.reduceSub, Int.reduceToNat, Nat.reduceBEq, Nat.reduceMul, Nat.reduceLT, Int.reduceLE, Int.reduceLT, Nat.reduceMod, d1, List.length_map, bne_self_eq_false, Int.reduceBEq, Int.reduceBNe, List.getElem?_map, Int.toNat_natCast, d2, ha, q0, q1, q3]
      repeat (refine ⟨by first | assumption | omega | decide | (simp; done) | (simp_all; done) | (simp; omega), ?_⟩)
      refine hk47 _ ?_
      simp only [shA, if_true, if_false, ite_true, ite_false, forall_const, ite_self, eq_self, reduceIte, reduceCtorEq, Nat.reduceEqDiff, Nat.reduceAdd, Nat.reduceLeDiff, Nat.reduceSub, Int.reduceToNat, Nat.reduceBEq, Nat.reduceMul, Nat.reduceLT, Int.reduceLE, Int.reduceLT, Nat.reduceMod, d1, List.length_map, bne_self_eq_false, Int.reduceBEq, Int.reduceBNe, List.getElem?_map, Int.toNat_natCast, d2, ha, q0, q1, q3]
      refine hn40 (some ([1, 2, 7, 9, 10, 11, 12, 63, 64, 65, 66, 67, 70, 71, 72, 73, 74, 75, 76, 77, 78, 79], none)) _ ?_
      refine ev_seq_k fun K48 hn48 hr48 he48 => ?_
      refine ev_drw_k [] (n := 10) fun K49 hk49 => ?_
      simp only [List.take_succ_cons, List.take_zero, St.frzAll, St.frzSh, St.frzRow, St.frzBox, St.frzCells, St.argL, St.arg1, St.res, Sh.pure, St.setO, getA, delA, keepT, St.keep, reduceIte, Nat.reduceEqDiff, reduceCtorEq, Option.bind_some, Option.map_some, List.contains_cons, List.contains_nil, Nat.reduceBEq, Bool.or_false, Bool.or_true, Bool.false_or, beq_self_eq_true, Bool.false_eq_true]
      refine evF_take 1 fun K51 hk51 => ?_
      simp only [shA, if_true, if_false, ite_true, ite_false, forall_const, ite_self, eq_self, reduceIte, reduceCtorEq, Nat.reduceEqDiff, Nat.reduceAdd, Nat.reduceLeDiff, Nat.reduceSub, Int.reduceToNat, Nat.reduceBEq, Nat.reduceMul, Nat.reduceLT, Int.reduceLE, Int.reduceLT, Nat.reduceMod, d1, List.length_map, bne_self_eq_false, Int.reduceBEq, Int.reduceBNe, List.getElem?_map, Int.toNat_natCast, d2, ha, q0, q1, q3]
      repeat (refine ⟨by first | assumption | omega | decide | (simp; done) | (simp_all; done) | (simp; omega), ?_⟩)
      refine hk51 _ _ _ ?_
      refine evF_take 3 fun K52 hk52 => ?_
      simp only [shA, if_true, if_false, ite_true, ite_false, forall_const, ite_self, eq_self, reduceIte, reduceCtorEq, Nat.reduceEqDiff, Nat.reduceAdd, Nat.reduceLeDiff, Nat.reduceSub, Int.reduceToNat, Nat.reduceBEq, Nat.reduceMul, Nat.reduceLT, Int.reduceLE, Int.reduceLT, Nat.reduceMod, d1, List.length_map, bne_self_eq_false, Int.reduceBEq, Int.reduceBNe, List.getElem?_map, Int.toNat_natCast, d2, ha, q0, q1, q3]
      repeat (refine ⟨by first | assumption | omega | decide | (simp; done) | (simp_all; done) | (simp; omega), ?_⟩)
      refine hk52 _ _ _ ?_
      refine evF_take 1 fun K53 hk53 => ?_
      simp only [shA, if_true, if_false, ite_true, ite_false, forall_const, ite_self, eq_self, reduceIte, reduceCtorEq, Nat.reduceEqDiff, Nat.reduceAdd, Nat.reduceLeDiff, Nat.reduceSub, Int.reduceToNat, Nat.reduceBEq, Nat.reduceMul, Nat.reduceLT, Int.reduceLE, Int.reduceLT, Nat.reduceMod, d1, List.length_map, bne_self_eq_false, Int.reduceBEq, Int.reduceBNe, List.getElem?_map, Int.toNat_natCast, d2, ha, q0, q1, q3]
      repeat (refine ⟨by first | assumption | omega | decide | (simp; done) | (simp_all; done) | (simp; omega), ?_⟩)
      refine hk53 _ _ _ ?_
      refine evF_take 1 fun K54 hk54 => ?_
      simp only [shA, if_true, if_false, ite_true, ite_false, forall_const, ite_self, eq_self, reduceIte, reduceCtorEq, Nat.reduceEqDiff, Nat.reduceAdd, Nat.reduceLeDiff, Nat.reduceSub, Int.reduceToNat, Nat.reduceBEq, Nat.reduceMul, Nat.reduceLT, Int.reduceLE, Int.reduceLT, Nat.reduceMod, d1, List.length_map, bne_self_eq_false, Int.reduceBEq, Int.reduceBNe, List.getElem?_map, Int.toNat_natCast, d2, ha, q0, q1, q3]
      refine ⟨_, hd2, ?_⟩
      refine hk54 _ _ _ ?_
      simp only [shA, if_true, if_false, ite_true, ite_false, forall_const, ite_self, eq_self, reduceIte, reduceCtorEq, Nat.reduceEqDiff, Nat.reduceAdd, Nat.reduceLeDiff, Nat.reduceSub, Int.reduceToNat, Nat.reduceBEq, Nat.reduceMul, Nat.reduceLT, Int.reduceLE, Int.reduceLT, Nat.reduceMod, d1, List.length_map, bne_self_eq_false, Int.reduceBEq, Int.reduceBNe, List.getElem?_map, Int.toNat_natCast, d2, ha, q0, q1, q3]
      refine hk49 _ ?_
      simp only [List.drop_succ_cons, List.drop_zero]
      refine evL_take 1 fun K55 hk55 => ?_
      simp only [shA, if_true, if_false, ite_true, ite_false, forall_const, ite_self, eq_self, reduceIte, reduceCtorEq, Nat.reduceEqDiff, Nat.reduceAdd, Nat.reduceLeDiff, Nat.reduceSub, Int.reduceToNat, Nat.reduceBEq, Nat.reduceMul, Nat.reduceLT, Int.reduceLE, Int.reduceLT, Nat.reduceMod, d1, List.length_map, bne_self_eq_false, Int.reduceBEq, Int.reduceBNe, List.getElem?_map, Int.toNat_natCast, d2, ha, q0, q1, q3]
      repeat (refine ⟨by first | assumption | omega | decide | (simp; done) | (simp_all; done) | (simp; omega), ?_⟩)
      refine hk55 _ ?_
      simp only [shA, if_true, if_false, ite_true, ite_false, forall_const, ite_self, eq_self, reduceIte, reduceCtorEq, Nat.reduceEqDiff, Nat.reduceAdd, Nat.reduceLeDiff, Nat.reduceSub, Int.reduceToNat, Nat.reduceBEq, Nat.reduceMul, Nat.reduceLT, Int.reduceLE, Int.reduceLT, Nat.reduceMod, d1, List.length_map, bne_self_eq_false, Int.reduceBEq, Int.reduceBNe, List.getElem?_map, Int.toNat_natCast, d2, ha, q0, q1, q3]
      refine hn48 (some ([1, 2, 7, 9, 10, 11, 12, 13, 14, 63, 64, 65, 66, 67, 70, 71, 72, 73, 74, 75, 76, 77, 78, 79], none)) _ ?_
      refine ev_seq_k fun K56 hn56 hr56 he56 => ?_
      refine ev_seq_k fun K57 hn57 hr57 he57 => ?_
      refine ev_ops_k fun K58 hk58 => ?_
      refine evL_take 3 fun K59 hk59 => ?_
      simp only [shA, if_true, if_false, ite_true, ite_false, forall_const, ite_self, eq_self, reduceIte, reduceCtorEq, Nat.reduceEqDiff, Nat.reduceAdd, Nat.reduceLeDiff, Nat.reduceSub, Int.reduceToNat, Nat.reduceBEq, Nat.reduceMul, Nat.reduceLT, Int.reduceLE, Int.reduceLT, Nat.reduceMod, d1, List.length_map, bne_self_eq_false, Int.reduceBEq, Int.reduceBNe, List.getElem?_map, Int.toNat_natCast, d2, ha, q0, q1, q3]
      repeat (refine ⟨by first | assumption | omega | decide | (simp; done) | (simp_all; done) | (simp; omega), ?_⟩)
      refine hk59 _ ?_
      refine evL_take 2 fun K60 hk60 => ?_
      simp only [shA, if_true, if_false, ite_true, ite_false, forall_const, ite_self, eq_self, reduceIte, reduceCtorEq, Nat.reduceEqDiff, Nat.reduceAdd, Nat.reduceLeDiff, Nat.reduceSub, Int.reduceToNat, Nat.reduceBEq, Nat.reduceMul, Nat.reduceLT, Int.reduceLE, Int.reduceLT, Nat.reduceMod, d1, List.length_map, bne_self_eq_false, Int.reduceBEq, Int.reduceBNe, List.getElem?_map, Int.toNat_natCast, d2, ha, q0, q1, q3]
      repeat (refine ⟨by first | assumption | omega | decide | (simp; done) | (simp_all; done) | (simp; omega), ?_⟩)
      refine hk60 _ ?_
      refine evL_take 1 fun K61 hk61 => ?_
      simp only [shA, if_true, if_false, ite_true, ite_false, forall_const, ite_self, eq_self, reduceIte, reduceCtorEq, Nat.reduceEqDiff, Nat.reduceAdd, Nat.reduceLeDiff, Nat.reduceSub, Int.reduceToNat, Nat.reduceBEq, Nat.reduceMul, Nat.reduceLT, Int.reduceLE, Int.reduceLT, Nat.reduceMod, d1, List.length_map, bne_self_eq_false, Int.reduceBEq, Int.reduceBNe, List.getElem?_map, Int.toNat_natCast, d2, ha, q0, q1, q3]
      repeat (refine ⟨by first | assumption | omega | decide | (simp; done) | (simp_all; done) | (simp; omega), ?_⟩)
      refine hk61 _ ?_
      refine evL_take 1 fun K62 hk62 => ?_
      simp only [shA, if_true, if_false, ite_true, ite_false, forall_const, ite_self, eq_self, reduceIte, reduceCtorEq, Nat.reduceEqDiff, Nat.reduceAdd, Nat.reduceLeDiff, Nat.reduceSub, Int.reduceToNat, Nat.reduceBEq, Nat.reduceMul, Nat.reduceLT, Int.reduceLE, Int.reduceLT, Nat.reduceMod, d1, List.length_map, bne_self_eq_false, Int.reduceBEq, Int.reduceBNe, List.getElem?_map, Int.toNat_natCast, d2, ha, q0, q1, q3]
      refine hk62 _ ?_
      refine evL_take 1 fun K63 hk63 => ?_
      simp only [shA, if_true, if_false, ite_true, ite_false, forall_const, ite_self, eq_self, reduceIte, reduceCtorEq, Nat.reduceEqDiff, Nat.reduceAdd, Nat.reduceLeDiff, Nat.reduceSub, Int.reduceToNat, Nat.reduceBEq, Nat.reduceMul, Nat.reduceLT, Int.reduceLE, Int.reduceLT, Nat.reduceMod, d1, List.length_map, bne_self_eq_false, Int.reduceBEq, Int.reduceBNe, List.getElem?_map, Int.toNat_natCast, d2, ha, q0, q1, q3]
      refine Or.inl (Or.inl ⟨_, hsn, ?_⟩)
      refine hk63 _ ?_
      refine evL_take 5 fun K64 hk64 => ?_
      simp only [shA, if_true, if_false, ite_true, ite_false, forall_const, ite_self, eq_self, reduceIte, reduceCtorEq, Nat.reduceEqDiff, Nat.reduceAdd, Nat.reduceLeDiff, Nat.reduceSub, Int.reduceToNat, Nat.reduceBEq, Nat.reduceMul, Nat.reduceLT, Int.reduceLE, Int.reduceLT, Nat.reduceMod, d1, List.length_map, bne_self_eq_false, Int.reduceBEq, Int.reduceBNe, List.getElem?_map, Int.toNat_natCast, d2, ha, q0, q1, q3]
      repeat (refine ⟨by first | assumption | omega | decide | (simp; done) | (simp_all; done) | (simp; omega), ?_⟩)
      refine hk64 _ ?_
      refine evL_take 1 fun K65 hk65 => ?_
      simp only [shA, if_true, if_false, ite_true, ite_false, forall_const, ite_self, eq_self, reduceIte, reduceCtorEq, Nat.reduceEqDiff, Nat.reduceAdd, Nat.reduceLeDiff, Nat.reduceSub, Int.reduceToNat, Nat.reduceBEq, Nat.reduceMul, Nat.reduceLT, Int.reduceLE, Int.reduceLT, Nat.reduceMod, d1, List.length_map, bne_self_eq_false, Int.reduceBEq, Int.reduceBNe, List.getElem?_map, Int.toNat_natCast, d2, ha, q0, q1, q3]
      repeat (refine ⟨by first | assumption | omega | decide | (simp; done) | (simp_all; done) | (simp; omega), ?_⟩)
      refine hk65 _ ?_
      refine evL_take 2 fun K66 hk66 => ?_
      simp only [shA, if_true, if_false, ite_true, ite_false, forall_const, ite_self, eq_self, reduceIte, reduceCtorEq, Nat.reduceEqDiff, Nat.reduceAdd, Nat.reduceLeDiff, Nat.reduceSub, Int.reduceToNat, Nat.reduceBEq, Nat.reduceMul, Nat.reduceLT, Int.reduceLE, Int.reduceLT, Nat.reduceMod, d1, List.length_map, bne_self_eq_false, Int.reduceBEq, Int.reduceBNe, List.getElem?_map, Int.toNat_natCast, d2, ha, q0, q1, q3]
      repeat (refine ⟨by first | assumption | omega | decide | (simp; done) | (simp_all; done) | (simp; omega), ?_⟩)
      refine hk66 _ ?_
      refine evL_take 1 fun K67 hk67 => ?_
      simp only [shA, if_true, if_false, ite_true, ite_false, forall_const, ite_self, eq_self, reduceIte, reduceCtorEq, Nat.reduceEqDiff, Nat.reduceAdd, Nat.reduceLeDiff, Nat.reduceSub, Int.reduceToNat, Nat.reduceBEq, Nat.reduceMul, Nat.reduceLT, Int.reduceLE, Int.reduceLT, Nat.reduceMod, d1, List.length_map, bne_self_eq_false, Int.reduceBEq, Int.reduceBNe, List.getElem?_map, Int.toNat_natCast, d2, ha, q0, q1, q3]
      repeat (refine ⟨by first | assumption | omega | decide | (simp; done) | (simp_all; done) | (simp; omega), ?_⟩)
      refine hk67 _ ?_
      refine evL_take 1 fun K68 hk68 => ?_
      simp only [shA, if_true, if_false, ite_true, ite_false, forall_const, ite_self, eq_self, reduceIte, reduceCtorEq, Nat.reduceEqDiff, Nat.reduceAdd, Nat.reduceLeDiff, Nat.reduceSub, Int.reduceToNat, Nat.reduceBEq, Nat.reduceMul, Nat.reduceLT, Int.reduceLE, Int.reduceLT, Nat.reduceMod, d1, List.length_map, bne_self_eq_false, Int.reduceBEq, Int.reduceBNe, List.getElem?_map, Int.toNat_natCast, d2, ha, q0, q1, q3]
      refine hk68 _ ?_
      refine evL_take 1 fun K69 hk69 => ?_
      simp only [shA, if_true, if_false, ite_true, ite_false, forall_const, ite_self, eq_self, reduceIte, reduceCtorEq, Nat.reduceEqDiff, Nat.reduceAdd, Nat.reduceLeDiff, Nat.reduceSub, Int.reduceToNat, Nat.reduceBEq, Nat.reduceMul, Nat.reduceLT, Int.reduceLE, Int.reduceLT, Nat.reduceMod, d1, List.length_map, bne_self_eq_false, Int.reduceBEq, Int.reduceBNe, List.getElem?_map, Int.toNat_natCast, d2, ha, q0, q1, q3]
      refine Or.inl (Or.inl ⟨_, hso, ?_⟩)
      refine hk69 _ ?_
      simp only [shA, if_true, if_false, ite_true, ite_false, forall_const, ite_self, eq_self, reduceIte, reduceCtorEq, Nat.reduceEqDiff, Nat.reduceAdd, Nat.reduceLeDiff, Nat.reduceSub, Int.reduceToNat, Nat.reduceBEq, Nat.reduceMul, Nat.reduceLT, Int.reduceLE, Int.reduceLT, Nat.reduceMod, d1, List.length_map, bne_self_eq_false, Int.reduceBEq, Int.reduceBNe, List.getElem?_map, Int.toNat_natCast, d2, ha, q0, q1, q3]
      refine hk58 _ ?_
      refine hn57 (some ([1, 2, 7, 9, 10, 11, 13, 80], none)) _ ?_
      refine ev_cond_k rfl (fun hx => absurd hx (by simp at hx)) (fun hc3 => ?_)
      clear hc3
      refine hn56 (some ([1, 2, 7, 9, 10, 11, 13], none)) _ ?_
      refine ev_ord_k ([]) ?S70 (fun K70 hk70 => ?_) ?_
      rotate_left
      · skip
        refine ⟨?_, ?_⟩
        · skip
          refine evTr_step rfl fun K71 hk71 => ?_
          simp only [shA, if_true, if_false, ite_true, ite_false, forall_const, ite_self, eq_self, reduceIte, reduceCtorEq, Nat.reduceEqDiff, Nat.reduceAdd, Nat.reduceLeDiff, Nat.reduceSub, Int.reduceToNat, Nat.reduceBEq, Nat.reduceMul, Nat.reduceLT, Int.reduceLE, Int.reduceLT, Nat.reduceMod, d1, List.length_map, bne_self_eq_false, Int.reduceBEq, Int.reduceBNe, List.getElem?_map, Int.toNat_natCast, d2, ha, q0, q1, q3]
          repeat (refine ⟨by first | assumption | omega | decide | (simp; done) | (simp_all; done) | (simp; omega), ?_⟩)
          refine hk71 _ ?_
          refine ⟨?_, ?_⟩
          · skip
            refine evTr_step rfl fun K72 hk72 => ?_
            simp only [shA, if_true, if_false, ite_true, ite_false, forall_const, ite_self, eq_self, reduceIte, reduceCtorEq, Nat.reduceEqDiff, Nat.reduceAdd, Nat.reduceLeDiff, Nat.reduceSub, Int.reduceToNat, Nat.reduceBEq, Nat.reduceMul, Nat.reduceLT, Int.reduceLE, Int.reduceLT, Nat.reduceMod, d1, List.length_map, bne_self_eq_false, Int.reduceBEq, Int.reduceBNe, List.getElem?_map, Int.toNat_natCast, d2, ha, q0, q1, q3]
            repeat (refine ⟨by first | assumption | omega | decide | (simp; done) | (simp_all; done) | (simp; omega), ?_⟩)
            refine hk72 _ ?_
            refine evTr_step rfl fun K73 hk73 => ?_
            simp only [shA, if_true, if_false, ite_true, ite_false, forall_const, ite_self, eq_self, reduceIte, reduceCtorEq, Nat.reduceEqDiff, Nat.reduceAdd, Nat.reduceLeDiff, Nat.reduceSub, Int.reduceToNat, Nat.reduceBEq, Nat.reduceMul, Nat.reduceLT, Int.reduceLE, Int.reduceLT, Nat.reduceMod, d1, List.length_map, bne_self_eq_false, Int.reduceBEq, Int.reduceBNe, List.getElem?_map, Int.toNat_natCast, d2, ha, q0, q1, q3]
            repeat (refine ⟨by first | assumption | omega | decide | (simp; done) | (simp_all; done) | (simp; omega), ?_⟩)
            refine hk73 _ ?_
            refine evTr_step rfl fun K74 hk74 => ?_
            simp only [shA, if_true, if_false, ite_true, ite_false, forall_const, ite_self, eq_self, reduceIte, reduceCtorEq, Nat.reduceEqDiff, Nat.reduceAdd, Nat.reduceLeDiff, Nat.reduceSub, Int.reduceToNat, Nat.reduceBEq, Nat.reduceMul, Nat.reduceLT, Int.reduceLE, Int.reduceLT, Nat.reduceMod, d1, List.length_map, bne_self_eq_false, Int.reduceBEq, Int.reduceBNe, List.getElem?_map, Int.toNat_natCast, d2, ha, q0, q1, q3]
            repeat (refine ⟨by first | assumption | omega | decide | (simp; done) | (simp_all; done) | (simp; omega), ?_⟩)
            refine hk74 _ ?_
            refine hk70 _ (some ([1, 2, 7, 9, 10], none)) ?_
            first | (simp only [St.keep, keepT, getA, St.sorted, srtO, insO, reduceIte, Nat.reduceEqDiff, Nat.reduceLeDiff, reduceCtorEq]; done) | (simp only [St.keep, keepT, getA, St.sorted, srtO, insO, reduceIte, Nat.reduceEqDiff, Nat.reduceLeDiff, reduceCtorEq]; rfl) | rfl
          · skip
            refine evTr_step rfl fun K75 hk75 => ?_
            simp only [shA, if_true, if_false, ite_true, ite_false, forall_const, ite_self, eq_self, reduceIte, reduceCtorEq, Nat.reduceEqDiff, Nat.reduceAdd, Nat.reduceLeDiff, Nat.reduceSub, Int.reduceToNat, Nat.reduceBEq, Nat.reduceMul, Nat.reduceLT, Int.reduceLE, Int.reduceLT, Nat.reduceMod, d1, List.length_map, bne_self_eq_false, Int.reduceBEq, Int.reduceBNe, List.getElem?_map, Int.toNat_natCast, d2, ha, q0, q1, q3]
            repeat (refine ⟨by first | assumption | omega | decide | (simp; done) | (simp_all; done) | (simp; omega), ?_⟩)
            refine hk75 _ ?_
            refine evTr_step rfl fun K76 hk76 => ?_
            simp only [shA, if_true, if_false, ite_true, ite_false, forall_const, ite_self, eq_self, reduceIte, reduceCtorEq, Nat.reduceEqDiff, Nat.reduceAdd, Nat.reduceLeDiff, Nat.reduceSub, Int.reduceToNat, Nat.reduceBEq, Nat.reduceMul, Nat.reduceLT, Int.reduceLE, Int.reduceLT, Nat.reduceMod, d1, List.length_map, bne_self_eq_false, Int.reduceBEq, Int.reduceBNe, List.getElem?_map, Int.toNat_natCast, d2, ha, q0, q1, q3]
            repeat (refine ⟨by first | assumption | omega | decide | (simp; done) | (simp_all; done) | (simp; omega), ?_⟩)
            refine hk76 _ ?_
            refine evTr_step rfl fun K77 hk77 => ?_
            simp only [shA, if_true, if_false, ite_true, ite_false, forall_const, ite_self, eq_self, reduceIte, reduceCtorEq, Nat.reduceEqDiff, Nat.reduceAdd, Nat.reduceLeDiff, Nat.reduceSub, Int.reduceToNat, Nat.reduceBEq, Nat.reduceMul, Nat.reduceLT, Int.reduceLE, Int.reduceLT, Nat.reduceMod, d1, List.length_map, bne_self_eq_false, Int.reduceBEq, Int.reduceBNe, List.getElem?_map, Int.toNat_natCast, d2, ha, q0, q1, q3]
            repeat (refine ⟨by first | assumption | omega | decide | (simp; done) | (simp_all; done) | (simp; omega), ?_⟩)
            refine hk77 _ ?_
            refine hk70 _ (some ([1, 2, 7, 9, 10], none)) ?_
            first | (simp only [St.keep, keepT, getA, St.sorted, srtO, insO, reduceIte, Nat.reduceEqDiff, Nat.reduceLeDiff, reduceCtorEq]; done) | (simp only [St.keep, keepT, getA, St.sorted, srtO, insO, reduceIte, Nat.reduceEqDiff, Nat.reduceLeDiff, reduceCtorEq]; rfl) | rfl
        · skip
          refine evTr_step rfl fun K78 hk78 => ?_
          simp only [shA, if_true, if_false, ite_true, ite_false, forall_const, ite_self, eq_self, reduceIte, reduceCtorEq, Nat.reduceEqDiff, Nat.reduceAdd, Nat.reduceLeDiff, Nat.reduceSub, Int.reduceToNat, Nat.reduceBEq, Nat.reduceMul, Nat.reduceLT, Int.reduceLE, Int.reduceLT, Nat.reduceMod, d1, List.length_map, bne_self_eq_false, Int.reduceBEq, Int.reduceBNe, List.getElem?_map, Int.toNat_natCast, d2, ha, q0, q1, q3]
          repeat (refine ⟨by first | assumption | omega | decide | (simp; done) | (simp_all; done) | (simp; omega), ?_⟩)
          refine hk78 _ ?_
          refine evTr_step rfl fun K79 hk79 => ?_
          simp only [shA, if_true, if_false, ite_true, ite_false, forall_const, ite_self, eq_self, reduceIte, reduceCtorEq, Nat.reduceEqDiff, Nat.reduceAdd, Nat.reduceLeDiff, Nat.reduceSub, Int.reduceToNat, Nat.reduceBEq, Nat.reduceMul, Nat.reduceLT, Int.reduceLE, Int.reduceLT, Nat.reduceMod, d1, List.length_map, bne_self_eq_false, Int.reduceBEq, Int.reduceBNe, List.getElem?_map, Int.toNat_natCast, d2, ha, q0, q1, q3]
          repeat (refine ⟨by first | assumption | omega | decide | (simp; done) | (simp_all; done) | (simp; omega), ?_⟩)
          refine hk79 _ ?_
          refine evTr_step rfl fun K80 hk80 => ?_
          simp only [shA, if_true, if_false, ite_true, ite_false, forall_const, ite_self, eq_self, reduceIte, reduceCtorEq, Nat.reduceEqDiff, Nat.reduceAdd, Nat.reduceLeDiff, Nat.reduceSub, Int.reduceToNat, Nat.reduceBEq, Nat.reduceMul, Nat.reduceLT, Int.reduceLE, Int.reduceLT, Nat.reduceMod, d1, List.length_map, bne_self_eq_false, Int.reduceBEq, Int.reduceBNe, List.getElem?_map, Int.toNat_natCast, d2, ha, q0, q1, q3]
          repeat (refine ⟨by first | assumption | omega | decide | (simp; done) | (simp_all; done) | (simp; omega), ?_⟩)
          refine hk80 _ ?_
          refine evTr_step rfl fun K81 hk81 => ?_
          simp only [shA, if_true, if_false, ite_true, ite_false, forall_const, ite_self, eq_self, reduceIte, reduceCtorEq, Nat.reduceEqDiff, Nat.reduceAdd, Nat.reduceLeDiff, Nat.reduceSub, Int.reduceToNat, Nat.reduceBEq, Nat.reduceMul, Nat.reduceLT, Int.reduceLE, Int.reduceLT, Nat.reduceMod, d1, List.length_map, bne_self_eq_false, Int.reduceBEq, Int.reduceBNe, List.getElem?_map, Int.toNat_natCast, d2, ha, q0, q1, q3]
          repeat (refine ⟨by first | assumption | omega | decide | (simp; done) | (simp_all; done) | (simp; omega), ?_⟩)
          refine hk81 _ ?_
          refine hk70 _ (some ([1, 2, 7, 9, 10], none)) ?_
          first | (simp only [St.keep, keepT, getA, St.sorted, srtO, insO, reduceIte, Nat.reduceEqDiff, Nat.reduceLeDiff, reduceCtorEq]; done) | (simp only [St.keep, keepT, getA, St.sorted, srtO, insO, reduceIte, Nat.reduceEqDiff, Nat.reduceLeDiff, reduceCtorEq]; rfl) | rfl
      refine hn39 _ ?_
      refine hn38 (some ([1, 2, 7, 9, 10], none)) _ ?_
      refine ev_ops_k fun K82 hk82 => ?_
      refine evL_take 2 fun K83 hk83 => ?_
      simp only [shA, if_true, if_false, ite_true, ite_false, forall_const, ite_self, eq_self, reduceIte, reduceCtorEq, Nat.reduceEqDiff, Nat.reduceAdd, Nat.reduceLeDiff, Nat.reduceSub, Int.reduceToNat, Nat.reduceBEq, Nat.reduceMul, Nat.reduceLT, Int.reduceLE, Int.reduceLT, Nat.reduceMod, d1, List.length_map, bne_self_eq_false, Int.reduceBEq, Int.reduceBNe, List.getElem?_map, Int.toNat_natCast, d2, ha, q0, q1, q3]
      repeat (refine ⟨by first | assumption | omega | decide | (simp; done) | (simp_all; done) | (simp; omega), ?_⟩)
      refine hk83 _ ?_
      simp only [shA, if_true, if_false, ite_true, ite_false, forall_const, ite_self, eq_self, reduceIte, reduceCtorEq, Nat.reduceEqDiff, Nat.reduceAdd, Nat.reduceLeDiff, Nat.reduceSub, Int.reduceToNat, Nat.reduceBEq, Nat.reduceMul, Nat.reduceLT, Int.reduceLE, Int.reduceLT, Nat.reduceMod, d1, List.length_map, bne_self_eq_false, Int.reduceBEq, Int.reduceBNe, List.getElem?_map, Int.toNat_natCast, d2, ha, q0, q1, q3]
      refine hk82 _ ?_
      refine hn28 (l.length - (n + 1)) (some ([1, 2, 7, 9, 10], some ([0, 1], 2))) _ ?_ ?_
      all_goals try simp only [St.casts, St.cast, nilS, St.put, St.newO, St.setO, delA, List.getElem?_cons_zero, List.getElem?_cons_succ, List.set_cons_zero, List.set_cons_succ, getA, Nat.reduceEqDiff, reduceCtorEq, keepT, renT, renSh, renC, renO, renOb, idxN, List.map_cons, List.map_nil, List.length_cons, List.length_nil, Nat.reduceAdd, Nat.zero_add, decide_true, St.keep, refsT, refsO, refsL, refsC, refsOk, decide_eq_true_eq, List.contains_cons, List.contains_nil, Bool.or_false, Bool.or_true, Bool.true_or, Bool.false_or, Bool.and_true, Bool.true_and, beq_self_eq_true, Nat.reduceBEq, reduceIte, Nat.blt_eq, Nat.reduceLT, decide_true, Nat.reduceLeDiff, Bool.false_eq_true, Bool.and_eq_true, and_self, true_and, and_true]
      · omega
      · refine ⟨n + 1, by omega, by omega, ?_⟩
        rw [runP_succ ha]
    · skip
      have d2 : (n : Int) < (l.length : Int) := by have := (List.getElem?_eq_some_iff.1 ha).1; omega
      have hkd := hl a (List.mem_of_getElem? ha)
      have q0 : (n : Int).tmod 8 = (n : Int) % 8 := Int.tmod_eq_emod_of_nonneg (by omega)
      have q1 : ((n : Int) % 8 == 0) = false := by simp [hc]
      have q3 : IntKind.i64.wrap ((n : Int) + 1) = ((n + 1 : Nat) : Int) := by rw [IntKind.wrap_i64]; omega
      obtain ⟨r1, r2⟩ := rel_done gx gr a
      have hd1 := ok_l5done _ n a gx (by omega) hkd
      have hd2 := ok_l5meant g _ n a hrg (by omega) hkd
      rw [← r2] at hd2
      have hsn := hsame (n + 1) (by omega)
      rw [runP_succ ha] at hsn
      refine ev_seq_k fun K84 hn84 hr84 he84 => ?_
      refine ev_seq_k fun K85 hn85 hr85 he85 => ?_
      refine ev_ops_k fun K86 hk86 => ?_
      simp only [shA, if_true, if_false, ite_true, ite_false, forall_const, ite_self, eq_self, reduceIte, reduceCtorEq, Nat.reduceEqDiff, Nat.reduceAdd, Nat.reduceLeDiff, Nat.reduceSub, Int.reduceToNat, Nat.reduceBEq, Nat.reduceMul, Nat.reduceLT, Int.reduceLE, Int.reduceLT, Nat.reduceMod, d1, List.length_map, bne_self_eq_false, Int.reduceBEq, Int.reduceBNe, List.getElem?_map, Int.toNat_natCast, d2, ha, q0, q1, q3]
      repeat (refine ⟨by first | assumption | omega | decide | (simp; done) | (simp_all; done) | (simp; omega), ?_⟩)
      refine hk86 _ ?_
      refine hn85 (some ([1, 2, 7, 9, 10, 38, 63, 64, 65, 66, 67, 70, 71, 72, 73, 74, 75, 76, 77, 78, 79], none)) _ ?_
      refine ev_cond_k rfl (fun hc2 => ?_) (fun hx => absurd hx (by simp at hx))
      clear hc2
      refine hn84 (some ([1, 2, 7, 9, 10, 63, 64, 65, 66, 67, 70, 71, 72, 73, 74, 75, 76, 77, 78, 79], none)) _ ?_
      refine ev_seq_k fun K87 hn87 hr87 he87 => ?_
      refine ev_block_k fun K88 hn88 hx88 hr88 he88 => ?_
      refine ev_seq_k fun K89 hn89 hr89 he89 => ?_
      refine ev_drw_k [] (n := 10) fun K90 hk90 => ?_
      simp only [List.take_succ_cons, List.take_zero, St.frzAll, St.frzSh, St.frzRow, St.frzBox, St.frzCells, St.argL, St.arg1, St.res, Sh.pure, St.setO, getA, delA, keepT, St.keep, reduceIte, Nat.reduceEqDiff, reduceCtorEq, Option.bind_some, Option.map_some, List.contains_cons, List.contains_nil, Nat.reduceBEq, Bool.or_false, Bool.or_true, Bool.false_or, beq_self_eq_true, Bool.false_eq_true]
      refine evF_take 1 fun K92 hk92 => ?_
      simp only [shA, if_true, if_false, ite_true, ite_false, forall_const, ite_self, eq_self, reduceIte, reduceCtorEq, Nat.reduceEqDiff, Nat.reduceAdd, Nat.reduceLeDiff, Nat.reduceSub, Int.reduceToNat, Nat.reduceBEq, Nat.reduceMul, Nat.reduceLT, Int.reduceLE, Int.reduceLT, Nat.reduceMod, d1, List.length_map, bne_self_eq_false, Int.reduceBEq, Int.reduceBNe, List.getElem?_map, Int.toNat_natCast, d2, ha, q0, q1, q3]
      repeat (refine ⟨by first | assumption | omega | decide | (simp; done) | (simp_all; done) | (simp; omega), ?_⟩)
      refine hk92 _ _ _ ?_
      refine evF_take 3 fun K93 hk93 => ?_
      simp only [shA, if_true, if_false, ite_true, ite_false, forall_const, ite_self, eq_self, reduceIte, reduceCtorEq, Nat.reduceEqDiff, Nat.reduceAdd, Nat.reduceLeDiff, Nat.reduceSub, Int.reduceToNat, Nat.reduceBEq, Nat.reduceMul, Nat.reduceLT, Int.reduceLE, Int.reduceLT, Nat.reduceMod, d1, List.length_map, bne_self_eq_false, Int.reduceBEq, Int.reduceBNe, List.getElem?_map, Int.toNat_natCast, d2, ha, q0, q1, q3]
      repeat (refine ⟨by first | assumption | omega | decide | (simp; done) | (simp_all; done) | (simp; omega), ?_⟩)
      refine hk93 _ _ _ ?_
      refine evF_take 1 fun K94 hk94 => ?_
      simp only [shA, if_true, if_false, ite_true, ite_false, forall_const, ite_self, eq_self, reduceIte, reduceCtorEq, Nat.reduceEqDiff, Nat.reduceAdd, Nat.reduceLeDiff, Nat.reduceSub, Int.reduceToNat, Nat.reduceBEq, Nat.reduceMul, Nat.reduceLT, Int.reduceLE, Int.reduceLT, Nat.reduceMod, d1, List.length_map, bne_self_eq_false, Int.reduceBEq, Int.reduceBNe, List.getElem?_map, Int.toNat_natCast, d2, ha, q0, q1, q3]
      repeat (refine ⟨by first | assumption | omega | decide | (simp; done) | (simp_all; done) | (simp; omega), ?_⟩)
      refine hk94 _ _ _ ?_
      refine evF_take 1 fun K95 hk95 => ?_
      simp only [shA, if_true, if_false, ite_true, ite_false, forall_const, ite_self, eq_self, reduceIte, reduceCtorEq, Nat.reduceEqDiff, Nat.reduceAdd, Nat.reduceLeDiff, Nat.reduceSub, Int.reduceToNat, Nat.reduceBEq, Nat.reduceMul, Nat.reduceLT, Int.reduceLE, Int.reduceLT, Nat.reduceMod, d1, List.length_map, bne_self_eq_false, Int.reduceBEq, Int.reduceBNe, List.getElem?_map, Int.toNat_natCast, d2, ha, q0, q1, q3]
      refine ⟨_, hd1, ?_⟩
      refine hk95 _ _ _ ?_
      simp only [shA, if_true, if_false, ite_true, ite_false, forall_const, ite_self, eq_self, reduceIte, reduceCtorEq, Nat.reduceEqDiff, Nat.reduceAdd, Nat.reduceLeDiff, Nat.reduceSub, Int.reduceToNat, Nat.reduceBEq, Nat.reduceMul, Nat.reduceLT, Int.reduceLE, Int.reduceLT, Nat.reduceMod, d1, List.length_map, bne_self_eq_false, Int.reduceBEq, Int.reduceBNe, List.getElem?_map, Int.toNat_natCast, d2, ha, q0, q1, q3]
      refine hk90 _ ?_
      simp only [List.drop_succ_cons, List.drop_zero]
      refine evL_take 1 fun K96 hk96 => ?_
      simp only [shA, if_true, if_false, ite_true, ite_false, forall_const, ite_self, eq_self, reduceIte, reduceCtorEq, Nat.reduceEqDiff, Nat.reduceAdd, Nat.reduceLeDiff, Nat.reduceSub, Int.reduceToNat, Nat.reduceBEq, Nat.reduceMul, Nat.reduceLT, Int.reduceLE, Int.reduceLT, Nat.reduceMod, d1, List.length_map, bne_self_eq_false, Int.reduceBEq, Int.reduceBNe, List.getElem?_map, Int.toNat_natCast, d2, ha, q0, q1, q3]
      repeat (refine ⟨by first | assumption | omega | decide | (simp; done) | (simp_all; done) | (simp; omega), ?_⟩)
      refine hk96 _ ?_
      simp only [shA, if_true, if_false, ite_true, ite_false, forall_const, ite_self, eq_self, reduceIte, reduceCtorEq, Nat.reduceEqDiff, Nat.reduceAdd, Nat.reduceLeDiff, Nat.reduceSub, Int.reduceToNat, Nat.reduceBEq, Nat.reduceMul, Nat.reduceLT, Int.reduceLE, Int.reduceLT, Nat.reduceMod, d1, List.length_map, bne_self_eq_false, Int.reduceBEq, Int.reduceBNe, List.getElem?_map, Int.toNat_natCast, d2, ha, q0, q1, q3]
      refine hn89 (some ([1, 2, 7, 9, 10, 11, 12, 63, 64, 65, 66, 67, 70, 71, 72, 73, 74, 75, 76, 77, 78, 79], none)) _ ?_
      refine ev_seq_k fun K97 hn97 hr97 he97 => ?_
      refine ev_drw_k [] (n := 10) fun K98 hk98 => ?_
      simp only [List.take_succ_cons, List.take_zero, St.frzAll, St.frzSh, St.frzRow, St.frzBox, St.frzCells, St.argL, St.arg1, St.res, Sh.pure, St.setO, getA, delA, keepT, St.keep, reduceIte, Nat.reduceEqDiff, reduceCtorEq, Option.bind_some, Option.map_some, List.contains_cons, List.contains_nil, Nat.reduceBEq, Bool.or_false, Bool.or_true, Bool.false_or, beq_self_eq_true, Bool.false_eq_true]
      refine evF_take 1 fun K100 hk100 => ?_
      simp only [shA, if_true, if_false, ite_true, ite_false, forall_const, ite_self, eq_self, reduceIte, reduceCtorEq, Nat.reduceEqDiff, Nat.reduceAdd, Nat.reduceLeDiff, Nat.reduceSub, Int.reduceToNat, Nat.reduceBEq, Nat.reduceMul, Nat.reduceLT, Int.reduceLE, Int.reduceLT, Nat.reduceMod, d1, List.length_map, bne_self_eq_false, Int.reduceBEq, Int.reduceBNe, List.getElem?_map, Int.toNat_natCast, d2, ha, q0, q1, q3]
      repeat (refine ⟨by first | assumption | omega | decide | (simp; done) | (simp_all; done) | (simp; omega), ?_⟩)
      refine hk100 _ _ _ ?_
      refine evF_take 3 fun K101 hk101 => ?_
      simp only [shA, if_true, if_false, ite_true, ite_false, forall_const, ite_self, eq_self, reduceIte, reduceCtorEq, Nat.reduceEqDiff, Nat.reduceAdd, Nat.reduceLeDiff, Nat.reduceSub, Int.reduceToNat, Nat.reduceBEq, Nat.reduceMul, Nat.reduceLT, Int.reduceLE, Int.reduceLT, Nat.reduceMod, d1, List.length_map, bne_self_eq_false, Int.reduceBEq, Int.reduceBNe, List.getElem?_map, Int.toNat_natCast, d2, ha, q0, q1, q3]
      repeat (refine ⟨by first | assumption | omega | decide | (simp; done) | (simp_all; done) | (simp; omega), ?_⟩)
      refine hk101 _ _ _ ?_
      refine evF_take 1 fun K102 hk102 => ?_
      simp only [shA, if_true, if_false, ite_true, ite_false, forall_const, ite_self, eq_self, reduceIte, reduceCtorEq, Nat.reduceEqDiff, Nat.reduceAdd, Nat.reduceLeDiff, Nat.reduceSub, Int.reduceToNat, Nat.reduceBEq, Nat.reduceMul, Nat.reduceLT, Int.reduceLE, Int.reduceLT, Nat.reduceMod, d1, List.length_map, bne_self_eq_false, Int.reduceBEq, Int.reduceBNe, List.getElem?_map, Int.toNat_natCast, d2, ha, q0, q1, q3]
      repeat (refine ⟨by first | assumption | omega | decide | (simp; done) | (simp_all; done) | (simp; omega), ?_⟩)
      refine hk102 _ _ _ ?_
      refine evF_take 1 fun K103 hk103 => ?_
      simp only [shA, if_true, if_false, ite_true, ite_false, forall_const, ite_self, eq_self, reduceIte, reduceCtorEq, Nat.reduceEqDiff, Nat.reduceAdd, Nat.reduceLeDiff, Nat.reduceSub, Int.reduceToNat, Nat.reduceBEq, Nat.reduceMul, Nat.reduceLT, Int.reduceLE, Int.reduceLT, Nat.reduceMod, d1, List.length_map, bne_self_eq_false, Int.reduceBEq, Int.reduceBNe, List.getElem?_map, Int.toNat_natCast, d2, ha, q0, q1, q3]
      refine ⟨_, hd2, ?_⟩
      refine hk103 _ _ _ ?_
      simp only [shA, if_true, if_false, ite_true, ite_false, forall_const, ite_self, eq_self, reduceIte, reduceCtorEq, Nat.reduceEqDiff, Nat.reduceAdd, Nat.reduceLeDiff, Nat.reduceSub, Int.reduceToNat, Nat.reduceBEq, Nat.reduceMul, Nat.reduceLT, Int.reduceLE, Int.reduceLT, Nat.reduceMod, d1, List.length_map, bne_self_eq_false, Int.reduceBEq, Int.reduceBNe, List.getElem?_map, Int.toNat_natCast, d2, ha, q0, q1, q3]
      refine hk98 _ ?_
      simp only [List.drop_succ_cons, List.drop_zero]
      refine evL_take 1 fun K104 hk104 => ?_
      simp only [shA, if_true, if_false, ite_true, ite_false, forall_const, ite_self, eq_self, reduceIte, reduceCtorEq, Nat.reduceEqDiff, Nat.reduceAdd, Nat.reduceLeDiff, Nat.reduceSub, Int.reduceToNat, Nat.reduceBEq, Nat.reduceMul, Nat.reduceLT, Int.reduceLE, Int.reduceLT, Nat.reduceMod, d1, List.length_map, bne_self_eq_false, Int.reduceBEq, Int.reduceBNe, List.getElem?_map, Int.toNat_natCast, d2, ha, q0, q1, q3]
      repeat (refine ⟨by first | assumption | omega | decide | (simp; done) | (simp_all; done) | (simp; omega), ?_⟩)
      refine hk104 _ ?_
      simp only [shA, if_true, if_false, ite_true, ite_false, forall_const, ite_self, eq_self, reduceIte, reduceCtorEq, Nat.reduceEqDiff, Nat.reduceAdd, Nat.reduceLeDiff, Nat.reduceSub, Int.reduceToNat, Nat.reduceBEq, Nat.reduceMul, Nat.reduceLT, Int.reduceLE, Int.reduceLT, Nat.reduceMod, d1, List.length_map, bne_self_eq_false, Int.reduceBEq, Int.reduceBNe, List.getElem?_map, Int.toNat_natCast, d2, ha, q0, q1, q3]
      refine hn97 (some ([1, 2, 7, 9, 10, 11, 12, 13, 14, 63, 64, 65, 66, 67, 70, 71, 72, 73, 74, 75, 76, 77, 78, 79], none)) _ ?_
      refine ev_seq_k fun K105 hn105 hr105 he105 => ?_
      refine ev_seq_k fun K106 hn106 hr106 he106 => ?_
      refine ev_ops_k fun K107 hk107 => ?_
      refine evL_take 3 fun K108 hk108 => ?_
      simp only [shA, if_true, if_false, ite_true, ite_false, forall_const, ite_self, eq_self, reduceIte, reduceCtorEq, Nat.reduceEqDiff, Nat.reduceAdd, Nat.reduceLeDiff, Nat.reduceSub, Int.reduceToNat, Nat.reduceBEq, Nat.reduceMul, Nat.reduceLT, Int.reduceLE, Int.reduceLT, Nat.reduceMod, d1, List.length_map, bne_self_eq_false, Int.reduceBEq, Int.reduceBNe, List.getElem?_map, Int.toNat_natCast, d2, ha, q0, q1, q3]
      repeat (refine ⟨by first | assumption | omega | decide | (simp; done) | (simp_all; done) | (simp; omega), ?_⟩)
      refine hk108 _ ?_
      refine evL_take 2 fun K109 hk109 => ?_
      simp only [shA, if_true, if_false, ite_true, ite_false, forall_const, ite_self, eq_self, reduceIte, reduceCtorEq, Nat.reduceEqDiff, Nat.reduceAdd, Nat.reduceLeDiff, Nat.reduceSub, Int.reduceToNat, Nat.reduceBEq, Nat.reduceMul, Nat.reduceLT, Int.reduceLE, Int.reduceLT, Nat.reduceMod, d1, List.length_map, bne_self_eq_false, Int.reduceBEq, Int.reduceBNe, List.getElem?_map, Int.toNat_natCast, d2, ha, q0, q1, q3]
      repeat (refine ⟨by first | assumption | omega | decide | (simp; done) | (simp_all; done) | (simp; omega), ?_⟩)
      refine hk109 _ ?_
      refine evL_take 1 fun K110 hk110 => ?_
      simp only [shA, if_true, if_false, ite_true, ite_false, forall_const, ite_self, eq_self, reduceIte, reduceCtorEq, Nat.reduceEqDiff, Nat.reduceAdd, Nat.reduceLeDiff, Nat.reduceSub, Int.reduceToNat, Nat.reduceBEq, Nat.reduceMul, Nat.reduceLT, Int.reduceLE, Int.reduceLT, Nat.reduceMod, d1, List.length_map, bne_self_eq_false, Int.reduceBEq, Int.reduceBNe, List.getElem?_map, Int.toNat_natCast, d2, ha, q0, q1, q3]
      repeat (refine ⟨by first | assumption | omega | decide | (simp; done) | (simp_all; done) | (simp; omega), ?_⟩)
      refine hk110 _ ?_
      refine evL_take 1 fun K111 hk111 => ?_
      simp only [shA, if_true, if_false, ite_true, ite_false, forall_const, ite_self, eq_self, reduceIte, reduceCtorEq, Nat.reduceEqDiff, Nat.reduceAdd, Nat.reduceLeDiff, Nat.reduceSub, Int.reduceToNat, Nat.reduceBEq, Nat.reduceMul, Nat.reduceLT, Int.reduceLE, Int.reduceLT, Nat.reduceMod, d1, List.length_map, bne_self_eq_false, Int.reduceBEq, Int.reduceBNe, List.getElem?_map, Int.toNat_natCast, d2, ha, q0, q1, q3]
      refine hk111 _ ?_
      refine evL_take 1 fun K112 hk112 => ?_
      simp only [shA, if_true, if_false, ite_true, ite_false, forall_const, ite_self, eq_self, reduceIte, reduceCtorEq, Nat.reduceEqDiff, Nat.reduceAdd, Nat.reduceLeDiff, Nat.reduceSub, Int.reduceToNat, Nat.reduceBEq, Nat.reduceMul, Nat.reduceLT, Int.reduceLE, Int.reduceLT, Nat.reduceMod, d1, List.length_map, bne_self_eq_false, Int.reduceBEq, Int.reduceBNe, List.getElem?_map, Int.toNat_natCast, d2, ha, q0, q1, q3]
      refine Or.inl (Or.inl ⟨_, hsn, ?_⟩)
      refine hk112 _ ?_
      refine evL_take 5 fun K113 hk113 => ?_
      simp only [shA, if_true, if_false, ite_true, ite_false, forall_const, ite_self, eq_self, reduceIte, reduceCtorEq, Nat.reduceEqDiff, Nat.reduceAdd, Nat.reduceLeDiff, Nat.reduceSub, Int.reduceToNat, Nat.reduceBEq, Nat.reduceMul, Nat.reduceLT, Int.reduceLE, Int.reduceLT, Nat.reduceMod, d1, List.length_map, bne_self_eq_false, Int.reduceBEq, Int.reduceBNe, List.getElem?_map, Int.toNat_natCast, d2, ha, q0, q1, q3]
      repeat (refine ⟨by first | assumption | omega | decide | (simp; done) | (simp_all; done) | (simp; omega), ?_⟩)
      refine hk113 _ ?_
      refine evL_take 1 fun K114 hk114 => ?_
      simp only [shA, if_true, if_false, ite_true, ite_false, forall_const, ite_self, eq_self, reduceIte, reduceCtorEq, Nat.reduceEqDiff, Nat.reduceAdd, Nat.reduceLeDiff, Nat.reduceSub, Int.reduceToNat, Nat.reduceBEq, Nat.reduceMul, Nat.reduceLT, Int.reduceLE, Int.reduceLT, Nat.reduceMod, d1, List.length_map, bne_self_eq_false, Int.reduceBEq, Int.reduceBNe, List.getElem?_map, Int.toNat_natCast, d2, ha, q0, q1, q3]
      repeat (refine ⟨by first | assumption | omega | decide | (simp; done) | (simp_all; done) | (simp; omega), ?_⟩)
      refine hk114 _ ?_
      refine evL_take 2 fun K115 hk115 => ?_
      simp only [shA, if_true, if_false, ite_true, ite_false, forall_const, ite_self, eq_self, reduceIte, reduceCtorEq, Nat.reduceEqDiff, Nat.reduceAdd, Nat.reduceLeDiff, Nat.reduceSub, Int.reduceToNat, Nat.reduceBEq, Nat.reduceMul, Nat.reduceLT, Int.reduceLE, Int.reduceLT, Nat.reduceMod, d1, List.length_map, bne_self_eq_false, Int.reduceBEq, Int.reduceBNe, List.getElem?_map, Int.toNat_natCast, d2, ha, q0, q1, q3]
      repeat (refine ⟨by first | assumption | omega | decide | (simp; done) | (simp_all; done) | (simp; omega), ?_⟩)
      refine hk115 _ ?_
      refine evL_take 1 fun K116 hk116 => ?_
      simp only [shA, if_true, if_false, ite_true, ite_false, forall_const, ite_self, eq_self, reduceIte, reduceCtorEq, Nat.reduceEqDiff, Nat.reduceAdd, Nat.reduceLeDiff, Nat.reduceSub, Int.reduceToNat, Nat.reduceBEq, Nat.reduceMul, Nat.reduceLT, Int.reduceLE, Int.reduceLT, Nat.reduceMod, d1, List.length_map, bne_self_eq_false, Int.reduceBEq, Int.reduceBNe, List.getElem?_map, Int.toNat_natCast, d2, ha, q0, q1, q3]
      repeat (refine ⟨by first | assumption | omega | decide | (simp; done) | (simp_all; done) | (simp; omega), ?_⟩)
      refine hk116 _ ?_
      refine evL_take 1 fun K117 hk117 => ?_
      simp only [shA, if_true, if_false, ite_true, ite_false, forall_const, ite_self, eq_self, reduceIte, reduceCtorEq, Nat.reduceEqDiff, Nat.reduceAdd, Nat.reduceLeDiff, Nat.reduceSub, Int.reduceToNat, Nat.reduceBEq, Nat.reduceMul, Nat.reduceLT, Int.reduceLE, Int.reduceLT, Nat.reduceMod, d1, List.length_map, bne_self_eq_false, Int.reduceBEq, Int.reduceBNe, List.getElem?_map, Int.toNat_natCast, d2, ha, q0, q1, q3]
      refine hk117 _ ?_
      refine evL_take 1 fun K118 hk118 => ?_
      simp only [shA, if_true, if_false, ite_true, ite_false, forall_const, ite_self, eq_self, reduceIte, reduceCtorEq, Nat.reduceEqDiff, Nat.reduceAdd, Nat.reduceLeDiff, Nat.reduceSub, Int.reduceToNat, Nat.reduceBEq, Nat.reduceMul, Nat.reduceLT, Int.reduceLE, Int.reduceLT, Nat.reduceMod, d1, List.length_map, bne_self_eq_false, Int.reduceBEq, Int.reduceBNe, List.getElem?_map, Int.toNat_natCast, d2, ha, q0, q1, q3]
      skip
      refine hk118 _ ?_
      simp only [shA, if_true, if_false, ite_true, ite_false, forall_const, ite_self, eq_self, reduceIte, reduceCtorEq, Nat.reduceEqDiff, Nat.reduceAdd, Nat.reduceLeDiff, Nat.reduceSub, Int.reduceToNat, Nat.reduceBEq, Nat.reduceMul, Nat.reduceLT, Int.reduceLE, Int.reduceLT, Nat.reduceMod, d1, List.length_map, bne_self_eq_false, Int.reduceBEq, Int.reduceBNe, List.getElem?_map, Int.toNat_natCast, d2, ha, q0, q1, q3]
      refine hk107 _ ?_
      refine hn106 (some ([1, 2, 7, 9, 10, 11, 13, 80], none)) _ ?_
      refine ev_cond_k rfl (fun hx => absurd hx (by simp at hx)) (fun hc3 => ?_)
      clear hc3
      refine hn105 (some ([1, 2, 7, 9, 10, 11, 13], none)) _ ?_
      refine ev_ord_k ([]) ?S119 (fun K119 hk119 => ?_) ?_
      rotate_left
      · skip
        refine ⟨?_, ?_⟩
        · skip
          refine evTr_step rfl fun K120 hk120 => ?_
          simp only [shA, if_true, if_false, ite_true, ite_false, forall_const, ite_self, eq_self, reduceIte, reduceCtorEq, Nat.reduceEqDiff, Nat.reduceAdd, Nat.reduceLeDiff, Nat.reduceSub, Int.reduceToNat, Nat.reduceBEq, Nat.reduceMul, Nat.reduceLT, Int.reduceLE, Int.reduceLT, Nat.reduceMod, d1, List.length_map, bne_self_eq_false, Int.reduceBEq, Int.reduceBNe, List.getElem?_map, Int.toNat_natCast, d2, ha, q0, q1, q3]
          repeat (refine ⟨by first | assumption | omega | decide | (simp; done) | (simp_all; done) | (simp; omega), ?_⟩)
          refine hk120 _ ?_
          refine ⟨?_, ?_⟩
          · skip
            refine evTr_step rfl fun K121 hk121 => ?_
            simp only [shA, if_true, if_false, ite_true, ite_false, forall_const, ite_self, eq_self, reduceIte, reduceCtorEq, Nat.reduceEqDiff, Nat.reduceAdd, Nat.reduceLeDiff, Nat.reduceSub, Int.reduceToNat, Nat.reduceBEq, Nat.reduceMul, Nat.reduceLT, Int.reduceLE, Int.reduceLT, Nat.reduceMod, d1, List.length_map, bne_self_eq_false, Int.reduceBEq, Int.reduceBNe, List.getElem?_map, Int.toNat_natCast, d2, ha, q0, q1, q3]
            repeat (refine ⟨by first | assumption | omega | decide | (simp; done) | (simp_all; done) | (simp; omega), ?_⟩)
            refine hk121 _ ?_
            refine evTr_step rfl fun K122 hk122 => ?_
            simp only [shA, if_true, if_false, ite_true, ite_false, forall_const, ite_self, eq_self, reduceIte, reduceCtorEq, Nat.reduceEqDiff, Nat.reduceAdd, Nat.reduceLeDiff, Nat.reduceSub, Int.reduceToNat, Nat.reduceBEq, Nat.reduceMul, Nat.reduceLT, Int.reduceLE, Int.reduceLT, Nat.reduceMod, d1, List.length_map, bne_self_eq_false, Int.reduceBEq, Int.reduceBNe, List.getElem?_map, Int.toNat_natCast, d2, ha, q0, q1, q3]
            repeat (refine ⟨by first | assumption | omega | decide | (simp; done) | (simp_all; done) | (simp; omega), ?_⟩)
            refine hk122 _ ?_
            refine evTr_step rfl fun K123 hk123 => ?_
            simp only [shA, if_true, if_false, ite_true, ite_false, forall_const, ite_self, eq_self, reduceIte, reduceCtorEq, Nat.reduceEqDiff, Nat.reduceAdd, Nat.reduceLeDiff, Nat.reduceSub, Int.reduceToNat, Nat.reduceBEq, Nat.reduceMul, Nat.reduceLT, Int.reduceLE, Int.reduceLT, Nat.reduceMod, d1, List.length_map, bne_self_eq_false, Int.reduceBEq, Int.reduceBNe, List.getElem?_map, Int.toNat_natCast, d2, ha, q0, q1, q3]
            repeat (refine ⟨by first | assumption | omega | decide | (simp; done) | (simp_all; done) | (simp; omega), ?_⟩)
            refine hk123 _ ?_
            refine hk119 _ (some ([1, 2, 7, 9, 10], none)) ?_
            first | (simp only [St.keep, keepT, getA, St.sorted, srtO, insO, reduceIte, Nat.reduceEqDiff, Nat.reduceLeDiff, reduceCtorEq]; done) | (simp only [St.keep, keepT, getA, St.sorted, srtO, insO, reduceIte, Nat.reduceEqDiff, Nat.reduceLeDiff, reduceCtorEq]; rfl) | rfl
          · skip
            refine evTr_step rfl fun K124 hk124 => ?_
            simp only [shA, if_true, if_false, ite_true, ite_false, forall_const, ite_self, eq_self, reduceIte, reduceCtorEq, Nat.reduceEqDiff, Nat.reduceAdd, Nat.reduceLeDiff, Nat.reduceSub, Int.reduceToNat, Nat.reduceBEq, Nat.reduceMul, Nat.reduceLT, Int.reduceLE, Int.reduceLT, Nat.reduceMod, d1, List.length_map, bne_self_eq_false, Int.reduceBEq, Int.reduceBNe, List.getElem?_map, Int.toNat_natCast, d2, ha, q0, q1, q3]
            repeat (refine ⟨by first | assumption | omega | decide | (simp; done) | (simp_all; done) | (simp; omega), ?_⟩)
            refine hk124 _ ?_
            refine evTr_step rfl fun K125 hk125 => ?_
            simp only [shA, if_true, if_false, ite_true, ite_false, forall_const, ite_self, eq_self, reduceIte, reduceCtorEq, Nat.reduceEqDiff, Nat.reduceAdd, Nat.reduceLeDiff, Nat.reduceSub, Int.reduceToNat, Nat.reduceBEq, Nat.reduceMul, Nat.reduceLT, Int.reduceLE, Int.reduceLT, Nat.reduceMod, d1, List.length_map, bne_self_eq_false, Int.reduceBEq, Int.reduceBNe, List.getElem?_map, Int.toNat_natCast, d2, ha, q0, q1, q3]
            repeat (refine ⟨by first | assumption | omega | decide | (simp; done) | (simp_all; done) | (simp; omega), ?_⟩)
            refine hk125 _ ?_
            refine evTr_step rfl fun K126 hk126 => ?_
            simp only [shA, if_true, if_false, ite_true, ite_false, forall_const, ite_self, eq_self, reduceIte, reduceCtorEq, Nat.reduceEqDiff, Nat.reduceAdd, Nat.reduceLeDiff, Nat.reduceSub, Int.reduceToNat, Nat.reduceBEq, Nat.reduceMul, Nat.reduceLT, Int.reduceLE, Int.reduceLT, Nat.reduceMod, d1, List.length_map, bne_self_eq_false, Int.reduceBEq, Int.reduceBNe, List.getElem?_map, Int.toNat_natCast, d2, ha, q0, q1, q3]
            repeat (refine ⟨by first | assumption | omega | decide | (simp; done) | (simp_all; done) | (simp; omega), ?_⟩)
            refine hk126 _ ?_
            refine hk119 _ (some ([1, 2, 7, 9, 10], none)) ?_
            first | (simp only [St.keep, keepT, getA, St.sorted, srtO, insO, reduceIte, Nat.reduceEqDiff, Nat.reduceLeDiff, reduceCtorEq]; done) | (simp only [St.keep, keepT, getA, St.sorted, srtO, insO, reduceIte, Nat.reduceEqDiff, Nat.reduceLeDiff, reduceCtorEq]; rfl) | rfl
        · skip
          refine evTr_step rfl fun K127 hk127 => ?_
          simp only [shA, if_true, if_false, ite_true, ite_false, forall_const, ite_self, eq_self, reduceIte, reduceCtorEq, Nat.reduceEqDiff, Nat.reduceAdd, Nat.reduceLeDiff, Nat.reduceSub, Int.reduceToNat, Nat.reduceBEq, Nat.reduceMul, Nat.reduceLT, Int.reduceLE, Int.reduceLT, Nat.reduceMod, d1, List.length_map, bne_self_eq_false, Int.reduceBEq, Int.reduceBNe, List.getElem?_map, Int.toNat_natCast, d2, ha, q0, q1, q3]
          repeat (refine ⟨by first | assumption | omega | decide | (simp; done) | (simp_all; done) | (simp; omega), ?_⟩)
          refine hk127 _ ?_
          refine evTr_step rfl fun K128 hk128 => ?_
          simp only [shA, if_true, if_false, ite_true, ite_false, forall_const, ite_self, eq_self, reduceIte, reduceCtorEq, Nat.reduceEqDiff, Nat.reduceAdd, Nat.reduceLeDiff, Nat.reduceSub, Int.reduceToNat, Nat.reduceBEq, Nat.reduceMul, Nat.reduceLT, Int.reduceLE, Int.reduceLT, Nat.reduceMod, d1, List.length_map, bne_self_eq_false, Int.reduceBEq, Int.reduceBNe, List.getElem?_map, Int.toNat_natCast, d2, ha, q0, q1, q3]
          repeat (refine ⟨by first | assumption | omega | decide | (simp; done) | (simp_all; done) | (simp; omega), ?_⟩)
          refine hk128 _ ?_
          refine evTr_step rfl fun K129 hk129 => ?_
          simp only [shA, if_true, if_false, ite_true, ite_false, forall_const, ite_self, eq_self, reduceIte, reduceCtorEq, Nat.reduceEqDiff, Nat.reduceAdd, Nat.reduceLeDiff, Nat.reduceSub, Int.reduceToNat, Nat.reduceBEq, Nat.reduceMul, Nat.reduceLT, Int.reduceLE, Int.reduceLT, Nat.reduceMod, d1, List.length_map, bne_self_eq_false, Int.reduceBEq, Int.reduceBNe, List.getElem?_map, Int.toNat_natCast, d2, ha, q0, q1, q3]
          repeat (refine ⟨by first | assumption | omega | decide | (simp; done) | (simp_all; done) | (simp; omega), ?_⟩)
          refine hk129 _ ?_
          refine evTr_step rfl fun K130 hk130 => ?_
          simp only [shA, if_true, if_false, ite_true, ite_false, forall_const, ite_self, eq_self, reduceIte, reduceCtorEq, Nat.reduceEqDiff, Nat.reduceAdd, Nat.reduceLeDiff, Nat.reduceSub, Int.reduceToNat, Nat.reduceBEq, Nat.reduceMul, Nat.reduceLT, Int.reduceLE, Int.reduceLT, Nat.reduceMod, d1, List.length_map, bne_self_eq_false, Int.reduceBEq, Int.reduceBNe, List.getElem?_map, Int.toNat_natCast, d2, ha, q0, q1, q3]
          repeat (refine ⟨by first | assumption | omega | decide | (simp; done) | (simp_all; done) | (simp; omega), ?_⟩)
          refine hk130 _ ?_
          refine hk119 _ (some ([1, 2, 7, 9, 10], none)) ?_
          first | (simp only [St.keep, keepT, getA, St.sorted, srtO, insO, reduceIte, Nat.reduceEqDiff, Nat.reduceLeDiff, reduceCtorEq]; done) | (simp only [St.keep, keepT, getA, St.sorted, srtO, insO, reduceIte, Nat.reduceEqDiff, Nat.reduceLeDiff, reduceCtorEq]; rfl) | rfl
      refine hn88 _ ?_
      refine hn87 (some ([1, 2, 7, 9, 10], none)) _ ?_
      refine ev_ops_k fun K131 hk131 => ?_
      refine evL_take 2 fun K132 hk132 => ?_
      simp only [shA, if_true, if_false, ite_true, ite_false, forall_const, ite_self, eq_self, reduceIte, reduceCtorEq, Nat.reduceEqDiff, Nat.reduceAdd, Nat.reduceLeDiff, Nat.reduceSub, Int.reduceToNat, Nat.reduceBEq, Nat.reduceMul, Nat.reduceLT, Int.reduceLE, Int.reduceLT, Nat.reduceMod, d1, List.length_map, bne_self_eq_false, Int.reduceBEq, Int.reduceBNe, List.getElem?_map, Int.toNat_natCast, d2, ha, q0, q1, q3]
      repeat (refine ⟨by first | assumption | omega | decide | (simp; done) | (simp_all; done) | (simp; omega), ?_⟩)
      refine hk132 _ ?_
      simp only [shA, if_true, if_false, ite_true, ite_false, forall_const, ite_self, eq_self, reduceIte, reduceCtorEq, Nat.reduceEqDiff, Nat.reduceAdd, Nat.reduceLeDiff, Nat.reduceSub, Int.reduceToNat, Nat.reduceBEq, Nat.reduceMul, Nat.reduceLT, Int.reduceLE, Int.reduceLT, Nat.reduceMod, d1, List.length_map, bne_self_eq_false, Int.reduceBEq, Int.reduceBNe, List.getElem?_map, Int.toNat_natCast, d2, ha, q0, q1, q3]
      refine hk131 _ ?_
      refine hn28 (l.length - (n + 1)) (some ([1, 2, 7, 9, 10], some ([0, 1], 2))) _ ?_ ?_
      all_goals try simp only [St.casts, St.cast, nilS, St.put, St.newO, St.setO, delA, List.getElem?_cons_zero, List.getElem?_cons_succ, List.set_cons_zero, List.set_cons_succ, getA, Nat.reduceEqDiff, reduceCtorEq, keepT, renT, renSh, renC, renO, renOb, idxN, List.map_cons, List.map_nil, List.length_cons, List.length_nil, Nat.reduceAdd, Nat.zero_add, decide_true, St.keep, refsT, refsO, refsL, refsC, refsOk, decide_eq_true_eq, List.contains_cons, List.contains_nil, Bool.or_false, Bool.or_true, Bool.true_or, Bool.false_or, Bool.and_true, Bool.true_and, beq_self_eq_true, Nat.reduceBEq, reduceIte, Nat.blt_eq, Nat.reduceLT, decide_true, Nat.reduceLeDiff, Bool.false_eq_true, Bool.and_eq_true, and_self, true_and, and_true]
      · omega
      · refine ⟨n + 1, by omega, by omega, ?_⟩
        rw [runP_succ ha]
end Go.Proofs.Ytlbhfpcbbembgaa
