/-
  The reference of layer 5 by shadows: Same, Left.
-/
import Derived.Test.YtlbhfpcbbembgaaK5p
namespace Go.Proofs.Ytlbhfpcbbembgaa
set_option linter.unusedSimpArgs false
set_option linter.unusedVariables false
open Go.RowKit Go.Maps

def SameInv (g g2 : Nat) (ws : List WordV) (m : Nat) (S : St) : Prop :=
  ∃ k, k ≤ ws.length ∧ m = ws.length - k ∧ S = ⟨[(0, .sl 3 g (ws.map eWord)), (1, .sl 3 g2 (ws.map eWord)), (5, sI k)], [], 0⟩
theorem ok_r5Same (g g2 : Nat) (ws : List WordV) (hn : ws.length ≤ 100000) : Ok 53 [.sl 3 g (ws.map eWord), .sl 3 g2 (ws.map eWord)] (sB true) := by
  refine ok_of_tr Try.func53 tr_r5Same rfl ?_
  unfold evFn sc_r5Same
  refine ev_seq_k fun K1 hn1 hr1 he1 => ?_
  refine ev_ops_k fun K2 hk2 => ?_
  simp only [shA, if_true, if_false, ite_true, ite_false, forall_const, ite_self, eq_self, reduceIte, reduceCtorEq, Nat.reduceEqDiff, Nat.reduceAdd, Nat.reduceLeDiff, Nat.reduceSub, Int.reduceToNat, Nat.reduceBEq, Nat.reduceMul, Nat.reduceLT, Int.reduceLE, Int.reduceLT, Nat.reduceMod, List.length_map, bne_self_eq_false]
  refine hk2 _ ?_
  refine hn1 (some ([0, 1], none)) _ ?_
  refine ev_seq_k fun K3 hn3 hr3 he3 => ?_
  refine ev_seq_k fun K4 hn4 hr4 he4 => ?_
  refine ev_ops_k fun K5 hk5 => ?_
  simp only [shA, if_true, if_false, ite_true, ite_false, forall_const, ite_self, eq_self, reduceIte, reduceCtorEq, Nat.reduceEqDiff, Nat.reduceAdd, Nat.reduceLeDiff, Nat.reduceSub, Int.reduceToNat, Nat.reduceBEq, Nat.reduceMul, Nat.reduceLT, Int.reduceLE, Int.reduceLT, Nat.reduceMod, List.length_map, bne_self_eq_false]
  repeat (refine ⟨by first | assumption | omega | decide | (simp; done) | (simp_all; done) | (simp; omega), ?_⟩)
  refine hk5 _ ?_
  refine hn4 (some ([0, 1, 10], none)) _ ?_
  refine ev_cond_k rfl (fun hx => absurd hx (by simp at hx)) (fun hc0 => ?_)
  clear hc0
  refine hn3 (some ([0, 1], none)) _ ?_
  refine ev_seq_k fun K6 hn6 hr6 he6 => ?_
  refine ev_seq_k fun K7 hn7 hr7 he7 => ?_
  refine ev_ops_k fun K8 hk8 => ?_
  simp only [shA, if_true, if_false, ite_true, ite_false, forall_const, ite_self, eq_self, reduceIte, reduceCtorEq, Nat.reduceEqDiff, Nat.reduceAdd, Nat.reduceLeDiff, Nat.reduceSub, Int.reduceToNat, Nat.reduceBEq, Nat.reduceMul, Nat.reduceLT, Int.reduceLE, Int.reduceLT, Nat.reduceMod, List.length_map, bne_self_eq_false]
  refine hk8 _ ?_
  refine hn7 (some ([0, 1, 5], none)) _ ?_
  refine ev_block_k fun K9 hn9 hx9 hr9 he9 => ?_
  refine ev_loop_k (SameInv g g2 ws) (ws.length) (some ([0, 1, 5], some ([], 0))) ([]) ?_ ?_
  · try simp only [St.casts, St.cast, nilS, St.put, St.newO, St.setO, delA, List.getElem?_cons_zero, List.getElem?_cons_succ, List.set_cons_zero, List.set_cons_succ, getA, Nat.reduceEqDiff, reduceCtorEq, keepT, renT, renSh, renC, renO, renOb, idxN, List.map_cons, List.map_nil, List.length_cons, List.length_nil, Nat.reduceAdd, Nat.zero_add, decide_true, St.keep, refsT, refsO, refsL, refsC, refsOk, decide_eq_true_eq, List.contains_cons, List.contains_nil, Bool.or_false, Bool.or_true, Bool.true_or, Bool.false_or, Bool.and_true, Bool.true_and, beq_self_eq_true, Nat.reduceBEq, reduceIte, Nat.blt_eq, Nat.reduceLT, decide_true, Nat.reduceLeDiff, Bool.false_eq_true, Bool.and_eq_true, and_self, true_and, and_true]
    exact ⟨0, by omega, by omega, rfl⟩
  · intro k S1 hI
    obtain ⟨k, hk, rfl, rfl⟩ := hI
    intro K10 hn10 hr10 he10
    refine ev_seq_k fun K11 hn11 hr11 he11 => ?_
    refine ev_seq_k fun K12 hn12 hr12 he12 => ?_
    refine ev_ops_k fun K13 hk13 => ?_
    simp only [shA, if_true, if_false, ite_true, ite_false, forall_const, ite_self, eq_self, reduceIte, reduceCtorEq, Nat.reduceEqDiff, Nat.reduceAdd, Nat.reduceLeDiff, Nat.reduceSub, Int.reduceToNat, Nat.reduceBEq, Nat.reduceMul, Nat.reduceLT, Int.reduceLE, Int.reduceLT, Nat.reduceMod, List.length_map, bne_self_eq_false]
    repeat (refine ⟨by first | assumption | omega | decide | (simp; done) | (simp_all; done) | (simp; omega), ?_⟩)
    refine hk13 _ ?_
    refine hn12 (some ([0, 1, 5, 14], none)) _ ?_
    refine ev_cond_k rfl (fun hc1 => ?_) (fun hc1 => ?_)
    · try simp only [decide_eq_true_eq, decide_eq_false_iff_not, Bool.not_eq_true', Bool.not_eq_false', Bool.not_eq_eq_eq_not, Bool.not_true, Bool.not_false, beq_iff_eq, bne_iff_ne, beq_eq_false_iff_ne, bne_eq_false_iff_eq, ne_eq, Int.not_le, Int.not_lt] at hc1
      obtain ⟨u, hu⟩ : ∃ u, ws[k]? = some u := ⟨_, List.getElem?_eq_getElem (by omega)⟩
      have q2 : IntKind.i64.wrap ((k : Int) + 1) = ((k + 1 : Nat) : Int) := by rw [IntKind.wrap_i64]; omega
      refine hn11 (some ([0, 1, 5], none)) _ ?_
      refine ev_seq_k fun K14 hn14 hr14 he14 => ?_
      refine ev_block_k fun K15 hn15 hx15 hr15 he15 => ?_
      refine ev_seq_k fun K16 hn16 hr16 he16 => ?_
      refine ev_drw_k [] (n := 8) fun K17 hk17 => ?_
      simp only [List.take_succ_cons, List.take_zero, St.frzAll, St.frzSh, St.frzRow, St.frzBox, St.frzCells, St.argL, St.arg1, St.res, Sh.pure, St.setO, getA, delA, keepT, St.keep, reduceIte, Nat.reduceEqDiff, reduceCtorEq, Option.bind_some, Option.map_some, List.contains_cons, List.contains_nil, Nat.reduceBEq, Bool.or_false, Bool.or_true, Bool.false_or, beq_self_eq_true, Bool.false_eq_true]
      refine evF_take 3 fun K19 hk19 => ?_
      simp only [shA, if_true, if_false, ite_true, ite_false, forall_const, ite_self, eq_self, reduceIte, reduceCtorEq, Nat.reduceEqDiff, Nat.reduceAdd, Nat.reduceLeDiff, Nat.reduceSub, Int.reduceToNat, Nat.reduceBEq, Nat.reduceMul, Nat.reduceLT, Int.reduceLE, Int.reduceLT, Nat.reduceMod, List.length_map, bne_self_eq_false, List.getElem?_map, Int.toNat_natCast, hu, q2]
      repeat (refine ⟨by first | assumption | omega | decide | (simp; done) | (simp_all; done) | (simp; omega), ?_⟩)
      refine hk19 _ _ _ ?_
      refine evF_take 1 fun K20 hk20 => ?_
      simp only [shA, if_true, if_false, ite_true, ite_false, forall_const, ite_self, eq_self, reduceIte, reduceCtorEq, Nat.reduceEqDiff, Nat.reduceAdd, Nat.reduceLeDiff, Nat.reduceSub, Int.reduceToNat, Nat.reduceBEq, Nat.reduceMul, Nat.reduceLT, Int.reduceLE, Int.reduceLT, Nat.reduceMod, List.length_map, bne_self_eq_false, List.getElem?_map, Int.toNat_natCast, hu, q2]
      repeat (refine ⟨by first | assumption | omega | decide | (simp; done) | (simp_all; done) | (simp; omega), ?_⟩)
      refine hk20 _ _ _ ?_
      refine evF_take 3 fun K21 hk21 => ?_
      simp only [shA, if_true, if_false, ite_true, ite_false, forall_const, ite_self, eq_self, reduceIte, reduceCtorEq, Nat.reduceEqDiff, Nat.reduceAdd, Nat.reduceLeDiff, Nat.reduceSub, Int.reduceToNat, Nat.reduceBEq, Nat.reduceMul, Nat.reduceLT, Int.reduceLE, Int.reduceLT, Nat.reduceMod, List.length_map, bne_self_eq_false, List.getElem?_map, Int.toNat_natCast, hu, q2]
      repeat (refine ⟨by first | assumption | omega | decide | (simp; done) | (simp_all; done) | (simp; omega), ?_⟩)
      refine hk21 _ _ _ ?_
      simp only [shA, if_true, if_false, ite_true, ite_false, forall_const, ite_self, eq_self, reduceIte, reduceCtorEq, Nat.reduceEqDiff, Nat.reduceAdd, Nat.reduceLeDiff, Nat.reduceSub, Int.reduceToNat, Nat.reduceBEq, Nat.reduceMul, Nat.reduceLT, Int.reduceLE, Int.reduceLT, Nat.reduceMod, List.length_map, bne_self_eq_false, List.getElem?_map, Int.toNat_natCast, hu, q2]
      repeat (refine ⟨by first | assumption | omega | decide | (simp; done) | (simp_all; done) | (simp; omega), ?_⟩)
      refine hk17 _ ?_
      simp only [List.drop_succ_cons, List.drop_zero]
      simp only [shA, if_true, if_false, ite_true, ite_false, forall_const, ite_self, eq_self, reduceIte, reduceCtorEq, Nat.reduceEqDiff, Nat.reduceAdd, Nat.reduceLeDiff, Nat.reduceSub, Int.reduceToNat, Nat.reduceBEq, Nat.reduceMul, Nat.reduceLT, Int.reduceLE, Int.reduceLT, Nat.reduceMod, List.length_map, bne_self_eq_false, List.getElem?_map, Int.toNat_natCast, hu, q2]
      refine Or.inl ⟨_, eqsh_word_refl u, ?_⟩
      refine hn16 (some ([0, 1, 5, 25], none)) _ ?_
      refine ev_cond_k rfl (fun hx => absurd hx (by simp at hx)) (fun hc2 => ?_)
      clear hc2
      refine hn15 _ ?_
      refine hn14 (some ([0, 1, 5], none)) _ ?_
      refine ev_ops_k fun K22 hk22 => ?_
      refine evL_take 2 fun K23 hk23 => ?_
      simp only [shA, if_true, if_false, ite_true, ite_false, forall_const, ite_self, eq_self, reduceIte, reduceCtorEq, Nat.reduceEqDiff, Nat.reduceAdd, Nat.reduceLeDiff, Nat.reduceSub, Int.reduceToNat, Nat.reduceBEq, Nat.reduceMul, Nat.reduceLT, Int.reduceLE, Int.reduceLT, Nat.reduceMod, List.length_map, bne_self_eq_false, List.getElem?_map, Int.toNat_natCast, hu, q2]
      repeat (refine ⟨by first | assumption | omega | decide | (simp; done) | (simp_all; done) | (simp; omega), ?_⟩)
      refine hk23 _ ?_
      simp only [shA, if_true, if_false, ite_true, ite_false, forall_const, ite_self, eq_self, reduceIte, reduceCtorEq, Nat.reduceEqDiff, Nat.reduceAdd, Nat.reduceLeDiff, Nat.reduceSub, Int.reduceToNat, Nat.reduceBEq, Nat.reduceMul, Nat.reduceLT, Int.reduceLE, Int.reduceLT, Nat.reduceMod, List.length_map, bne_self_eq_false, List.getElem?_map, Int.toNat_natCast, hu, q2]
      refine hk22 _ ?_
      refine hn10 (ws.length - (k + 1)) (some ([0, 1, 5], some ([], 0))) _ ?_ ?_
      all_goals try simp only [St.casts, St.cast, nilS, St.put, St.newO, St.setO, delA, List.getElem?_cons_zero, List.getElem?_cons_succ, List.set_cons_zero, List.set_cons_succ, getA, Nat.reduceEqDiff, reduceCtorEq, keepT, renT, renSh, renC, renO, renOb, idxN, List.map_cons, List.map_nil, List.length_cons, List.length_nil, Nat.reduceAdd, Nat.zero_add, decide_true, St.keep, refsT, refsO, refsL, refsC, refsOk, decide_eq_true_eq, List.contains_cons, List.contains_nil, Bool.or_false, Bool.or_true, Bool.true_or, Bool.false_or, Bool.and_true, Bool.true_and, beq_self_eq_true, Nat.reduceBEq, reduceIte, Nat.blt_eq, Nat.reduceLT, decide_true, Nat.reduceLeDiff, Bool.false_eq_true, Bool.and_eq_true, and_self, true_and, and_true]
      · omega
      · exact ⟨k + 1, by omega, by omega, rfl⟩
    · try simp only [decide_eq_true_eq, decide_eq_false_iff_not, Bool.not_eq_true', Bool.not_eq_false', Bool.not_eq_eq_eq_not, Bool.not_true, Bool.not_false, beq_iff_eq, bne_iff_ne, beq_eq_false_iff_ne, bne_eq_false_iff_eq, ne_eq, Int.not_le, Int.not_lt] at hc1
      refine he11 0 _ ?_
      refine he10 0 _ ?_
      refine hx9 _ ?_
      refine hn6 (some ([], none)) _ ?_
      refine ev_seq_k fun K24 hn24 hr24 he24 => ?_
      refine ev_ops_k fun K25 hk25 => ?_
      simp only [shA, if_true, if_false, ite_true, ite_false, forall_const, ite_self, eq_self, reduceIte, reduceCtorEq, Nat.reduceEqDiff, Nat.reduceAdd, Nat.reduceLeDiff, Nat.reduceSub, Int.reduceToNat, Nat.reduceBEq, Nat.reduceMul, Nat.reduceLT, Int.reduceLE, Int.reduceLT, Nat.reduceMod, List.length_map, bne_self_eq_false]
      refine hk25 _ ?_
      refine hn24 (some ([4], none)) _ ?_
      simp only [shA, if_true, if_false, ite_true, ite_false, forall_const, ite_self, eq_self, reduceIte, reduceCtorEq, Nat.reduceEqDiff, Nat.reduceAdd, Nat.reduceLeDiff, Nat.reduceSub, Int.reduceToNat, Nat.reduceBEq, Nat.reduceMul, Nat.reduceLT, Int.reduceLE, Int.reduceLT, Nat.reduceMod, ev, fin, rv_r5Same, List.length_map, bne_self_eq_false]

def inR (ps : List StoreV) (i : Int) (K : Int) (out : List WordV) : Nat → List WordV
  | 0 => out
  | k + 1 => match ps[k]? with
    | some p => if p.loc.tdiv 8 = i ∧ cntR ps i k < K then putS (inR ps i K out k) p else inR ps i K out k
    | none => inR ps i K out k
def outR (R : RefM) (ks : List Int) : Nat → List WordV
  | 0 => R.first
  | i + 1 => match ks[i]? with
    | some K => inR R.puts i K (outR R ks i) R.puts.length
    | none => outR R ks i
theorem inR_len (ps : List StoreV) (i K : Int) (out : List WordV) : ∀ k, (inR ps i K out k).length = out.length
  | 0 => rfl
  | k + 1 => by
    unfold inR
    split
    · split
      · simp [putS, inR_len ps i K out k]
      · exact inR_len ps i K out k
    · exact inR_len ps i K out k
theorem outR_len (R : RefM) (ks : List Int) : ∀ i, (outR R ks i).length = R.first.length
  | 0 => rfl
  | i + 1 => by
    unfold outR
    split
    · rw [inR_len, outR_len R ks i]
    · exact outR_len R ks i
abbrev boxR (g : Nat) (R : RefM) : Ob := .box 81 [.sl 3 g (R.first.map eWord), .sl 4 0 (R.puts.map eStore), .sl 1 0 (R.kept.map eI), .sl 3 0 (R.asks.map eAsk)]
def LeftInv (g g2 : Nat) (R : RefM) (ks : List Int) (m : Nat) (S : St) : Prop :=
  ∃ i, i ≤ ks.length ∧ m = ks.length - i ∧ S = ⟨[(1, .sl 1 g2 (ks.map eI)), (2, .ptr 0 0 0), (5, .own 1), (6, sI i)], [(0, boxR g R), (1, .row 30 3 ((outR R ks i).map eWord))], 2⟩
def LeftInv2 (g g2 : Nat) (R : RefM) (ks : List Int) (i : Nat) (K : Int) (m : Nat) (S : St) : Prop :=
  ∃ k, k ≤ R.puts.length ∧ m = R.puts.length - k ∧ S = ⟨[(1, .sl 1 g2 (ks.map eI)), (2, .ptr 0 0 0), (5, .own 1), (6, sI i), (7, sI (cntR R.puts i k)), (8, sI k)], [(0, boxR g R), (1, .row 30 3 ((inR R.puts i K (outR R ks i) k).map eWord))], 2⟩
set_option maxHeartbeats 4000000 in
theorem ok_r5Left (g g2 : Nat) (R : RefM) (ks : List Int) (hf : R.first.length ≤ 4096) (hp : ∀ p ∈ R.puts, 0 ≤ p.loc ∧ p.loc < (R.first.length : Int)) (hn : R.puts.length ≤ 1000) (hk : ks.length ≤ 1000) :
    Ok 55 [eRef g R, .sl 1 g2 (ks.map eI)] (.sl 3 0 ((outR R ks ks.length).map eWord)) := by
  refine ok_of_tr Try.func55 tr_r5Left rfl ?_
  unfold evFn sc_r5Left
  refine ev_seq_k fun K1 hn1 hr1 he1 => ?_
  refine ev_ops_k fun K2 hk2 => ?_
  simp only [shA, if_true, if_false, ite_true, ite_false, forall_const, ite_self, eq_self, reduceIte, reduceCtorEq, Nat.reduceEqDiff, Nat.reduceAdd, Nat.reduceLeDiff, Nat.reduceSub, Int.reduceToNat, Nat.reduceBEq, Nat.reduceMul, Nat.reduceLT, Int.reduceLE, Int.reduceLT, Nat.reduceMod, List.length_map]
  refine hk2 _ ?_
  refine hn1 (some ([1, 2], none)) _ ?_
  refine ev_seq_k fun K3 hn3 hr3 he3 => ?_
  refine ev_ops_k fun K4 hk4 => ?_
  refine evL_take 1 fun K5 hk5 => ?_
  simp only [shA, if_true, if_false, ite_true, ite_false, forall_const, ite_self, eq_self, reduceIte, reduceCtorEq, Nat.reduceEqDiff, Nat.reduceAdd, Nat.reduceLeDiff, Nat.reduceSub, Int.reduceToNat, Nat.reduceBEq, Nat.reduceMul, Nat.reduceLT, Int.reduceLE, Int.reduceLT, Nat.reduceMod, List.length_map]
  repeat (refine ⟨by first | assumption | omega | decide | (simp; done) | (simp_all; done) | (simp; omega), ?_⟩)
  refine hk5 _ ?_
  refine evL_take 2 fun K6 hk6 => ?_
  simp only [shA, if_true, if_false, ite_true, ite_false, forall_const, ite_self, eq_self, reduceIte, reduceCtorEq, Nat.reduceEqDiff, Nat.reduceAdd, Nat.reduceLeDiff, Nat.reduceSub, Int.reduceToNat, Nat.reduceBEq, Nat.reduceMul, Nat.reduceLT, Int.reduceLE, Int.reduceLT, Nat.reduceMod, List.length_map]
  repeat (refine ⟨by first | assumption | omega | decide | (simp; done) | (simp_all; done) | (simp; omega), ?_⟩)
  refine hk6 _ ?_
  refine evL_take 1 fun K7 hk7 => ?_
  simp only [shA, if_true, if_false, ite_true, ite_false, forall_const, ite_self, eq_self, reduceIte, reduceCtorEq, Nat.reduceEqDiff, Nat.reduceAdd, Nat.reduceLeDiff, Nat.reduceSub, Int.reduceToNat, Nat.reduceBEq, Nat.reduceMul, Nat.reduceLT, Int.reduceLE, Int.reduceLT, Nat.reduceMod, List.length_map]
  repeat (refine ⟨by first | assumption | omega | decide | (simp; done) | (simp_all; done) | (simp; omega), ?_⟩)
  refine hk7 _ ?_
  simp only [shA, if_true, if_false, ite_true, ite_false, forall_const, ite_self, eq_self, reduceIte, reduceCtorEq, Nat.reduceEqDiff, Nat.reduceAdd, Nat.reduceLeDiff, Nat.reduceSub, Int.reduceToNat, Nat.reduceBEq, Nat.reduceMul, Nat.reduceLT, Int.reduceLE, Int.reduceLT, Nat.reduceMod, List.length_map]
  refine hk4 _ ?_
  refine hn3 (some ([1, 2, 5], none)) _ ?_
  refine ev_seq_k fun K8 hn8 hr8 he8 => ?_
  refine ev_seq_k fun K9 hn9 hr9 he9 => ?_
  refine ev_ops_k fun K10 hk10 => ?_
  simp only [shA, if_true, if_false, ite_true, ite_false, forall_const, ite_self, eq_self, reduceIte, reduceCtorEq, Nat.reduceEqDiff, Nat.reduceAdd, Nat.reduceLeDiff, Nat.reduceSub, Int.reduceToNat, Nat.reduceBEq, Nat.reduceMul, Nat.reduceLT, Int.reduceLE, Int.reduceLT, Nat.reduceMod, List.length_map]
  refine hk10 _ ?_
  refine hn9 (some ([1, 2, 5, 6], none)) _ ?_
  refine ev_block_k fun K11 hn11 hx11 hr11 he11 => ?_
  refine ev_loop_k (LeftInv g g2 R ks) (ks.length) (some ([1, 2, 5, 6], some ([0, 1], 2))) ([]) ?_ ?_
  · try simp only [St.casts, St.cast, nilS, St.put, St.newO, St.setO, delA, List.getElem?_cons_zero, List.getElem?_cons_succ, List.set_cons_zero, List.set_cons_succ, getA, Nat.reduceEqDiff, reduceCtorEq, keepT, renT, renSh, renC, renO, renOb, idxN, List.map_cons, List.map_nil, List.length_cons, List.length_nil, Nat.reduceAdd, Nat.zero_add, decide_true, St.keep, refsT, refsO, refsL, refsC, refsOk, decide_eq_true_eq, List.contains_cons, List.contains_nil, Bool.or_false, Bool.or_true, Bool.true_or, Bool.false_or, Bool.and_true, Bool.true_and, beq_self_eq_true, Nat.reduceBEq, reduceIte, Nat.blt_eq, Nat.reduceLT, decide_true, Nat.reduceLeDiff, Bool.false_eq_true, Bool.and_eq_true, and_self, true_and, and_true]
    exact ⟨0, by omega, by omega, rfl⟩
  · intro k S1 hI
    obtain ⟨i, hi, rfl, rfl⟩ := hI
    intro K12 hn12 hr12 he12
    refine ev_seq_k fun K13 hn13 hr13 he13 => ?_
    refine ev_seq_k fun K14 hn14 hr14 he14 => ?_
    refine ev_ops_k fun K15 hk15 => ?_
    simp only [shA, if_true, if_false, ite_true, ite_false, forall_const, ite_self, eq_self, reduceIte, reduceCtorEq, Nat.reduceEqDiff, Nat.reduceAdd, Nat.reduceLeDiff, Nat.reduceSub, Int.reduceToNat, Nat.reduceBEq, Nat.reduceMul, Nat.reduceLT, Int.reduceLE, Int.reduceLT, Nat.reduceMod, List.length_map]
    repeat (refine ⟨by first | assumption | omega | decide | (simp; done) | (simp_all; done) | (simp; omega), ?_⟩)
    refine hk15 _ ?_
    refine hn14 (some ([1, 2, 5, 6, 17], none)) _ ?_
    refine ev_cond_k rfl (fun hc0 => ?_) (fun hc0 => ?_)
    · try simp only [decide_eq_true_eq, decide_eq_false_iff_not, Bool.not_eq_true', Bool.not_eq_false', Bool.not_eq_eq_eq_not, Bool.not_true, Bool.not_false, beq_iff_eq, bne_iff_ne, beq_eq_false_iff_ne, bne_eq_false_iff_eq, ne_eq, Int.not_le, Int.not_lt] at hc0
      obtain ⟨K, hK⟩ : ∃ K, ks[i]? = some K := ⟨_, List.getElem?_eq_getElem (by omega)⟩
      have q2 : IntKind.i64.wrap ((i : Int) + 1) = ((i + 1 : Nat) : Int) := by rw [IntKind.wrap_i64]; omega
      refine hn13 (some ([1, 2, 5, 6], none)) _ ?_
      refine ev_seq_k fun K16 hn16 hr16 he16 => ?_
      refine ev_block_k fun K17 hn17 hx17 hr17 he17 => ?_
      refine ev_seq_k fun K18 hn18 hr18 he18 => ?_
      refine ev_ops_k fun K19 hk19 => ?_
      simp only [shA, if_true, if_false, ite_true, ite_false, forall_const, ite_self, eq_self, reduceIte, reduceCtorEq, Nat.reduceEqDiff, Nat.reduceAdd, Nat.reduceLeDiff, Nat.reduceSub, Int.reduceToNat, Nat.reduceBEq, Nat.reduceMul, Nat.reduceLT, Int.reduceLE, Int.reduceLT, Nat.reduceMod, List.length_map, List.getElem?_map, Int.toNat_natCast, hK, q2]
      refine hk19 _ ?_
      refine hn18 (some ([1, 2, 5, 6, 7], none)) _ ?_
      refine ev_seq_k fun K20 hn20 hr20 he20 => ?_
      refine ev_ops_k fun K21 hk21 => ?_
      simp only [shA, if_true, if_false, ite_true, ite_false, forall_const, ite_self, eq_self, reduceIte, reduceCtorEq, Nat.reduceEqDiff, Nat.reduceAdd, Nat.reduceLeDiff, Nat.reduceSub, Int.reduceToNat, Nat.reduceBEq, Nat.reduceMul, Nat.reduceLT, Int.reduceLE, Int.reduceLT, Nat.reduceMod, List.length_map, List.getElem?_map, Int.toNat_natCast, hK, q2]
      refine hk21 _ ?_
      refine hn20 (some ([1, 2, 5, 6, 7, 8], none)) _ ?_
      refine ev_block_k fun K22 hn22 hx22 hr22 he22 => ?_
      refine ev_loop_k (LeftInv2 g g2 R ks i K) (R.puts.length) (some ([1, 2, 5, 6, 7, 8], some ([0, 1], 2))) ([]) ?_ ?_
      · try simp only [St.casts, St.cast, nilS, St.put, St.newO, St.setO, delA, List.getElem?_cons_zero, List.getElem?_cons_succ, List.set_cons_zero, List.set_cons_succ, getA, Nat.reduceEqDiff, reduceCtorEq, keepT, renT, renSh, renC, renO, renOb, idxN, List.map_cons, List.map_nil, List.length_cons, List.length_nil, Nat.reduceAdd, Nat.zero_add, decide_true, St.keep, refsT, refsO, refsL, refsC, refsOk, decide_eq_true_eq, List.contains_cons, List.contains_nil, Bool.or_false, Bool.or_true, Bool.true_or, Bool.false_or, Bool.and_true, Bool.true_and, beq_self_eq_true, Nat.reduceBEq, reduceIte, Nat.blt_eq, Nat.reduceLT, decide_true, Nat.reduceLeDiff, Bool.false_eq_true, Bool.and_eq_true, and_self, true_and, and_true]
        exact ⟨0, by omega, by omega, rfl⟩
      · intro k S1 hI
        obtain ⟨k, hk2, rfl, rfl⟩ := hI
        intro K23 hn23 hr23 he23
        refine ev_seq_k fun K24 hn24 hr24 he24 => ?_
        refine ev_seq_k fun K25 hn25 hr25 he25 => ?_
        refine ev_ops_k fun K26 hk26 => ?_
        refine evL_take 3 fun K27 hk27 => ?_
        simp only [shA, if_true, if_false, ite_true, ite_false, forall_const, ite_self, eq_self, reduceIte, reduceCtorEq, Nat.reduceEqDiff, Nat.reduceAdd, Nat.reduceLeDiff, Nat.reduceSub, Int.reduceToNat, Nat.reduceBEq, Nat.reduceMul, Nat.reduceLT, Int.reduceLE, Int.reduceLT, Nat.reduceMod, List.length_map, List.getElem?_map, Int.toNat_natCast, hK, q2]
        repeat (refine ⟨by first | assumption | omega | decide | (simp; done) | (simp_all; done) | (simp; omega), ?_⟩)
        refine hk27 _ ?_
        simp only [shA, if_true, if_false, ite_true, ite_false, forall_const, ite_self, eq_self, reduceIte, reduceCtorEq, Nat.reduceEqDiff, Nat.reduceAdd, Nat.reduceLeDiff, Nat.reduceSub, Int.reduceToNat, Nat.reduceBEq, Nat.reduceMul, Nat.reduceLT, Int.reduceLE, Int.reduceLT, Nat.reduceMod, List.length_map, List.getElem?_map, Int.toNat_natCast, hK, q2]
        repeat (refine ⟨by first | assumption | omega | decide | (simp; done) | (simp_all; done) | (simp; omega), ?_⟩)
        refine hk26 _ ?_
        refine hn25 (some ([1, 2, 5, 6, 7, 8, 24], none)) _ ?_
        refine ev_cond_k rfl (fun hc1 => ?_) (fun hc1 => ?_)
        · try simp only [decide_eq_true_eq, decide_eq_false_iff_not, Bool.not_eq_true', Bool.not_eq_false', Bool.not_eq_eq_eq_not, Bool.not_true, Bool.not_false, beq_iff_eq, bne_iff_ne, beq_eq_false_iff_ne, bne_eq_false_iff_eq, ne_eq, Int.not_le, Int.not_lt] at hc1
          obtain ⟨p, hpk⟩ : ∃ p, R.puts[k]? = some p := ⟨_, List.getElem?_eq_getElem (by omega)⟩
          obtain ⟨p0, p1⟩ := hp p (List.mem_of_getElem? hpk)
          obtain ⟨q, hqq⟩ := Int.eq_ofNat_of_zero_le p0
          have hql : q < (inR R.puts i K (outR R ks i) k).length := by rw [inR_len, outR_len]; omega
          obtain ⟨w0, hw0⟩ : ∃ w0, (inR R.puts i K (outR R ks i) k)[q]? = some w0 := ⟨_, List.getElem?_eq_getElem hql⟩
          have q1 : IntKind.i64.wrap ((q : Int).tdiv 8) = (q : Int).tdiv 8 := by rw [IntKind.wrap_i64, Int.tdiv_eq_ediv_of_nonneg (by omega)]; omega
          have q3 : IntKind.i64.wrap ((k : Int) + 1) = ((k + 1 : Nat) : Int) := by rw [IntKind.wrap_i64]; omega
          have q4 := cntR_le R.puts i k
          have q5 : IntKind.i64.wrap (cntR R.puts i k + 1) = cntR R.puts i k + 1 := by rw [IntKind.wrap_i64]; omega
          have e1 : cntR R.puts i (k + 1) = if (q : Int).tdiv 8 = i then cntR R.puts i k + 1 else cntR R.puts i k := by rw [cntR, hpk]; simp only [hqq]
          have e2 : inR R.puts i K (outR R ks i) (k + 1) = if (q : Int).tdiv 8 = i ∧ cntR R.puts i k < K then putS (inR R.puts i K (outR R ks i) k) p else inR R.puts i K (outR R ks i) k := by rw [inR, hpk]; simp only [hqq]
          refine hn24 (some ([1, 2, 5, 6, 7, 8], none)) _ ?_
          refine ev_seq_k fun K28 hn28 hr28 he28 => ?_
          refine ev_block_k fun K29 hn29 hx29 hr29 he29 => ?_
          refine ev_seq_k fun K30 hn30 hr30 he30 => ?_
          refine ev_ops_k fun K31 hk31 => ?_
          refine evL_take 2 fun K32 hk32 => ?_
          simp only [shA, if_true, if_false, ite_true, ite_false, forall_const, ite_self, eq_self, reduceIte, reduceCtorEq, Nat.reduceEqDiff, Nat.reduceAdd, Nat.reduceLeDiff, Nat.reduceSub, Int.reduceToNat, Nat.reduceBEq, Nat.reduceMul, Nat.reduceLT, Int.reduceLE, Int.reduceLT, Nat.reduceMod, List.length_map, List.getElem?_map, Int.toNat_natCast, hK, q2, hpk, hqq, hw0, q1, q3, q5]
          repeat (refine ⟨by first | assumption | omega | decide | (simp; done) | (simp_all; done) | (simp; omega), ?_⟩)
          refine hk32 _ ?_
          refine evL_take 2 fun K33 hk33 => ?_
          simp only [shA, if_true, if_false, ite_true, ite_false, forall_const, ite_self, eq_self, reduceIte, reduceCtorEq, Nat.reduceEqDiff, Nat.reduceAdd, Nat.reduceLeDiff, Nat.reduceSub, Int.reduceToNat, Nat.reduceBEq, Nat.reduceMul, Nat.reduceLT, Int.reduceLE, Int.reduceLT, Nat.reduceMod, List.length_map, List.getElem?_map, Int.toNat_natCast, hK, q2, hpk, hqq, hw0, q1, q3, q5]
          repeat (refine ⟨by first | assumption | omega | decide | (simp; done) | (simp_all; done) | (simp; omega), ?_⟩)
          refine hk33 _ ?_
          refine evL_take 1 fun K34 hk34 => ?_
          simp only [shA, if_true, if_false, ite_true, ite_false, forall_const, ite_self, eq_self, reduceIte, reduceCtorEq, Nat.reduceEqDiff, Nat.reduceAdd, Nat.reduceLeDiff, Nat.reduceSub, Int.reduceToNat, Nat.reduceBEq, Nat.reduceMul, Nat.reduceLT, Int.reduceLE, Int.reduceLT, Nat.reduceMod, List.length_map, List.getElem?_map, Int.toNat_natCast, hK, q2, hpk, hqq, hw0, q1, q3, q5]
          repeat (refine ⟨by first | assumption | omega | decide | (simp; done) | (simp_all; done) | (simp; omega), ?_⟩)
          refine hk34 _ ?_
          simp only [shA, if_true, if_false, ite_true, ite_false, forall_const, ite_self, eq_self, reduceIte, reduceCtorEq, Nat.reduceEqDiff, Nat.reduceAdd, Nat.reduceLeDiff, Nat.reduceSub, Int.reduceToNat, Nat.reduceBEq, Nat.reduceMul, Nat.reduceLT, Int.reduceLE, Int.reduceLT, Nat.reduceMod, List.length_map, List.getElem?_map, Int.toNat_natCast, hK, q2, hpk, hqq, hw0, q1, q3, q5]
          repeat (refine ⟨by first | assumption | omega | decide | (simp; done) | (simp_all; done) | (simp; omega), ?_⟩)
          refine hk31 _ ?_
          refine hn30 (some ([1, 2, 5, 6, 7, 8, 9], none)) _ ?_
          refine ev_seq_k fun K35 hn35 hr35 he35 => ?_
          refine ev_ops_k fun K36 hk36 => ?_
          refine evL_take 2 fun K37 hk37 => ?_
          simp only [shA, if_true, if_false, ite_true, ite_false, forall_const, ite_self, eq_self, reduceIte, reduceCtorEq, Nat.reduceEqDiff, Nat.reduceAdd, Nat.reduceLeDiff, Nat.reduceSub, Int.reduceToNat, Nat.reduceBEq, Nat.reduceMul, Nat.reduceLT, Int.reduceLE, Int.reduceLT, Nat.reduceMod, List.length_map, List.getElem?_map, Int.toNat_natCast, hK, q2, hpk, hqq, hw0, q1, q3, q5]
          repeat (refine ⟨by first | assumption | omega | decide | (simp; done) | (simp_all; done) | (simp; omega), ?_⟩)
          refine hk37 _ ?_
          refine evL_take 1 fun K38 hk38 => ?_
          simp only [shA, if_true, if_false, ite_true, ite_false, forall_const, ite_self, eq_self, reduceIte, reduceCtorEq, Nat.reduceEqDiff, Nat.reduceAdd, Nat.reduceLeDiff, Nat.reduceSub, Int.reduceToNat, Nat.reduceBEq, Nat.reduceMul, Nat.reduceLT, Int.reduceLE, Int.reduceLT, Nat.reduceMod, List.length_map, List.getElem?_map, Int.toNat_natCast, hK, q2, hpk, hqq, hw0, q1, q3, q5]
          repeat (refine ⟨by first | assumption | omega | decide | (simp; done) | (simp_all; done) | (simp; omega), ?_⟩)
          refine hk38 _ ?_
          simp only [shA, if_true, if_false, ite_true, ite_false, forall_const, ite_self, eq_self, reduceIte, reduceCtorEq, Nat.reduceEqDiff, Nat.reduceAdd, Nat.reduceLeDiff, Nat.reduceSub, Int.reduceToNat, Nat.reduceBEq, Nat.reduceMul, Nat.reduceLT, Int.reduceLE, Int.reduceLT, Nat.reduceMod, List.length_map, List.getElem?_map, Int.toNat_natCast, hK, q2, hpk, hqq, hw0, q1, q3, q5]
          repeat (refine ⟨by first | assumption | omega | decide | (simp; done) | (simp_all; done) | (simp; omega), ?_⟩)
          refine hk36 _ ?_
          refine hn35 (some ([1, 2, 5, 6, 7, 8, 9, 36], none)) _ ?_
          refine ev_cond_k rfl (fun hc2 => ?_) (fun hc2 => ?_)
          · try simp only [decide_eq_true_eq, decide_eq_false_iff_not, Bool.not_eq_true', Bool.not_eq_false', Bool.not_eq_eq_eq_not, Bool.not_true, Bool.not_false, beq_iff_eq, bne_iff_ne, beq_eq_false_iff_ne, bne_eq_false_iff_eq, ne_eq, Int.not_le, Int.not_lt] at hc2
            refine ev_seq_k fun K39 hn39 hr39 he39 => ?_
            refine ev_seq_k fun K40 hn40 hr40 he40 => ?_
            refine ev_ops_k fun K41 hk41 => ?_
            refine evL_take 4 fun K42 hk42 => ?_
            simp only [shA, if_true, if_false, ite_true, ite_false, forall_const, ite_self, eq_self, reduceIte, reduceCtorEq, Nat.reduceEqDiff, Nat.reduceAdd, Nat.reduceLeDiff, Nat.reduceSub, Int.reduceToNat, Nat.reduceBEq, Nat.reduceMul, Nat.reduceLT, Int.reduceLE, Int.reduceLT, Nat.reduceMod, List.length_map, List.getElem?_map, Int.toNat_natCast, hK, q2, hpk, hqq, hw0, q1, q3, q5]
            repeat (refine ⟨by first | assumption | omega | decide | (simp; done) | (simp_all; done) | (simp; omega), ?_⟩)
            refine hk42 _ ?_
            refine evL_take 1 fun K43 hk43 => ?_
            simp only [shA, if_true, if_false, ite_true, ite_false, forall_const, ite_self, eq_self, reduceIte, reduceCtorEq, Nat.reduceEqDiff, Nat.reduceAdd, Nat.reduceLeDiff, Nat.reduceSub, Int.reduceToNat, Nat.reduceBEq, Nat.reduceMul, Nat.reduceLT, Int.reduceLE, Int.reduceLT, Nat.reduceMod, List.length_map, List.getElem?_map, Int.toNat_natCast, hK, q2, hpk, hqq, hw0, q1, q3, q5]
            repeat (refine ⟨by first | assumption | omega | decide | (simp; done) | (simp_all; done) | (simp; omega), ?_⟩)
            refine hk43 _ ?_
            simp only [shA, if_true, if_false, ite_true, ite_false, forall_const, ite_self, eq_self, reduceIte, reduceCtorEq, Nat.reduceEqDiff, Nat.reduceAdd, Nat.reduceLeDiff, Nat.reduceSub, Int.reduceToNat, Nat.reduceBEq, Nat.reduceMul, Nat.reduceLT, Int.reduceLE, Int.reduceLT, Nat.reduceMod, List.length_map, List.getElem?_map, Int.toNat_natCast, hK, q2, hpk, hqq, hw0, q1, q3, q5]
            repeat (refine ⟨by first | assumption | omega | decide | (simp; done) | (simp_all; done) | (simp; omega), ?_⟩)
            refine hk41 _ ?_
            refine hn40 (some ([1, 2, 5, 6, 7, 8, 9, 42], none)) _ ?_
            refine ev_cond_k rfl (fun hc3 => ?_) (fun hc3 => ?_)
            · try simp only [decide_eq_true_eq, decide_eq_false_iff_not, Bool.not_eq_true', Bool.not_eq_false', Bool.not_eq_eq_eq_not, Bool.not_true, Bool.not_false, beq_iff_eq, bne_iff_ne, beq_eq_false_iff_ne, bne_eq_false_iff_eq, ne_eq, Int.not_le, Int.not_lt] at hc3
              refine ev_ops_k fun K44 hk44 => ?_
              refine evL_take 3 fun K45 hk45 => ?_
              simp only [shA, if_true, if_false, ite_true, ite_false, forall_const, ite_self, eq_self, reduceIte, reduceCtorEq, Nat.reduceEqDiff, Nat.reduceAdd, Nat.reduceLeDiff, Nat.reduceSub, Int.reduceToNat, Nat.reduceBEq, Nat.reduceMul, Nat.reduceLT, Int.reduceLE, Int.reduceLT, Nat.reduceMod, List.length_map, List.getElem?_map, Int.toNat_natCast, hK, q2, hpk, hqq, hw0, q1, q3, q5]
              repeat (refine ⟨by first | assumption | omega | decide | (simp; done) | (simp_all; done) | (simp; omega), ?_⟩)
              refine hk45 _ ?_
              refine evL_take 2 fun K46 hk46 => ?_
              simp only [shA, if_true, if_false, ite_true, ite_false, forall_const, ite_self, eq_self, reduceIte, reduceCtorEq, Nat.reduceEqDiff, Nat.reduceAdd, Nat.reduceLeDiff, Nat.reduceSub, Int.reduceToNat, Nat.reduceBEq, Nat.reduceMul, Nat.reduceLT, Int.reduceLE, Int.reduceLT, Nat.reduceMod, List.length_map, List.getElem?_map, Int.toNat_natCast, hK, q2, hpk, hqq, hw0, q1, q3, q5]
              repeat (refine ⟨by first | assumption | omega | decide | (simp; done) | (simp_all; done) | (simp; omega), ?_⟩)
              refine hk46 _ ?_
              refine evL_take 1 fun K47 hk47 => ?_
              simp only [shA, if_true, if_false, ite_true, ite_false, forall_const, ite_self, eq_self, reduceIte, reduceCtorEq, Nat.reduceEqDiff, Nat.reduceAdd, Nat.reduceLeDiff, Nat.reduceSub, Int.reduceToNat, Nat.reduceBEq, Nat.reduceMul, Nat.reduceLT, Int.reduceLE, Int.reduceLT, Nat.reduceMod, List.length_map, List.getElem?_map, Int.toNat_natCast, hK, q2, hpk, hqq, hw0, q1, q3, q5]
              repeat (refine ⟨by first | assumption | omega | decide | (simp; done) | (simp_all; done) | (simp; omega), ?_⟩)
              refine hk47 _ ?_
              simp only [shA, if_true, if_false, ite_true, ite_false, forall_const, ite_self, eq_self, reduceIte, reduceCtorEq, Nat.reduceEqDiff, Nat.reduceAdd, Nat.reduceLeDiff, Nat.reduceSub, Int.reduceToNat, Nat.reduceBEq, Nat.reduceMul, Nat.reduceLT, Int.reduceLE, Int.reduceLT, Nat.reduceMod, List.length_map, List.getElem?_map, Int.toNat_natCast, hK, q2, hpk, hqq, hw0, q1, q3, q5]
              repeat (refine ⟨by first | assumption | omega | decide | (simp; done) | (simp_all; done) | (simp; omega), ?_⟩)
              refine hk44 _ ?_
              refine hn39 (some ([1, 2, 5, 6, 7, 8], none)) _ ?_
              refine ev_ops_k fun K48 hk48 => ?_
              refine evL_take 2 fun K49 hk49 => ?_
              simp only [shA, if_true, if_false, ite_true, ite_false, forall_const, ite_self, eq_self, reduceIte, reduceCtorEq, Nat.reduceEqDiff, Nat.reduceAdd, Nat.reduceLeDiff, Nat.reduceSub, Int.reduceToNat, Nat.reduceBEq, Nat.reduceMul, Nat.reduceLT, Int.reduceLE, Int.reduceLT, Nat.reduceMod, List.length_map, List.getElem?_map, Int.toNat_natCast, hK, q2, hpk, hqq, hw0, q1, q3, q5]
              repeat (refine ⟨by first | assumption | omega | decide | (simp; done) | (simp_all; done) | (simp; omega), ?_⟩)
              refine hk49 _ ?_
              simp only [shA, if_true, if_false, ite_true, ite_false, forall_const, ite_self, eq_self, reduceIte, reduceCtorEq, Nat.reduceEqDiff, Nat.reduceAdd, Nat.reduceLeDiff, Nat.reduceSub, Int.reduceToNat, Nat.reduceBEq, Nat.reduceMul, Nat.reduceLT, Int.reduceLE, Int.reduceLT, Nat.reduceMod, List.length_map, List.getElem?_map, Int.toNat_natCast, hK, q2, hpk, hqq, hw0, q1, q3, q5]
              refine hk48 _ ?_
              refine hn29 _ ?_
              refine hn28 (some ([1, 2, 5, 6, 7, 8], none)) _ ?_
              refine ev_ops_k fun K50 hk50 => ?_
              refine evL_take 2 fun K51 hk51 => ?_
              simp only [shA, if_true, if_false, ite_true, ite_false, forall_const, ite_self, eq_self, reduceIte, reduceCtorEq, Nat.reduceEqDiff, Nat.reduceAdd, Nat.reduceLeDiff, Nat.reduceSub, Int.reduceToNat, Nat.reduceBEq, Nat.reduceMul, Nat.reduceLT, Int.reduceLE, Int.reduceLT, Nat.reduceMod, List.length_map, List.getElem?_map, Int.toNat_natCast, hK, q2, hpk, hqq, hw0, q1, q3, q5]
              repeat (refine ⟨by first | assumption | omega | decide | (simp; done) | (simp_all; done) | (simp; omega), ?_⟩)
              refine hk51 _ ?_
              simp only [shA, if_true, if_false, ite_true, ite_false, forall_const, ite_self, eq_self, reduceIte, reduceCtorEq, Nat.reduceEqDiff, Nat.reduceAdd, Nat.reduceLeDiff, Nat.reduceSub, Int.reduceToNat, Nat.reduceBEq, Nat.reduceMul, Nat.reduceLT, Int.reduceLE, Int.reduceLT, Nat.reduceMod, List.length_map, List.getElem?_map, Int.toNat_natCast, hK, q2, hpk, hqq, hw0, q1, q3, q5]
              refine hk50 _ ?_
              refine hn23 (R.puts.length - (k + 1)) (some ([1, 2, 5, 6, 7, 8], some ([0, 1], 2))) _ ?_ ?_
              all_goals try simp only [St.casts, St.cast, nilS, St.put, St.newO, St.setO, delA, List.getElem?_cons_zero, List.getElem?_cons_succ, List.set_cons_zero, List.set_cons_succ, getA, Nat.reduceEqDiff, reduceCtorEq, keepT, renT, renSh, renC, renO, renOb, idxN, List.map_cons, List.map_nil, List.length_cons, List.length_nil, Nat.reduceAdd, Nat.zero_add, decide_true, St.keep, refsT, refsO, refsL, refsC, refsOk, decide_eq_true_eq, List.contains_cons, List.contains_nil, Bool.or_false, Bool.or_true, Bool.true_or, Bool.false_or, Bool.and_true, Bool.true_and, beq_self_eq_true, Nat.reduceBEq, reduceIte, Nat.blt_eq, Nat.reduceLT, decide_true, Nat.reduceLeDiff, Bool.false_eq_true, Bool.and_eq_true, and_self, true_and, and_true]
              · omega
              · refine ⟨k + 1, by omega, by omega, ?_⟩
                rw [e1, e2]
                first
                | (rw [if_pos hc2, if_pos ⟨hc2, hc3⟩]; simp only [putS, hqq, Int.toNat_natCast, List.map_set] <;> rfl)
                | (rw [if_pos hc2, if_neg (fun h => hc3 h.2)])
                | (rw [if_pos hc2, if_neg (fun h => by have := h.2; omega)])
                | (rw [if_neg hc2, if_neg (fun h => hc2 h.1)])
            · try simp only [decide_eq_true_eq, decide_eq_false_iff_not, Bool.not_eq_true', Bool.not_eq_false', Bool.not_eq_eq_eq_not, Bool.not_true, Bool.not_false, beq_iff_eq, bne_iff_ne, beq_eq_false_iff_ne, bne_eq_false_iff_eq, ne_eq, Int.not_le, Int.not_lt] at hc3
              refine hn39 (some ([1, 2, 5, 6, 7, 8], none)) _ ?_
              refine ev_ops_k fun K52 hk52 => ?_
              refine evL_take 2 fun K53 hk53 => ?_
              simp only [shA, if_true, if_false, ite_true, ite_false, forall_const, ite_self, eq_self, reduceIte, reduceCtorEq, Nat.reduceEqDiff, Nat.reduceAdd, Nat.reduceLeDiff, Nat.reduceSub, Int.reduceToNat, Nat.reduceBEq, Nat.reduceMul, Nat.reduceLT, Int.reduceLE, Int.reduceLT, Nat.reduceMod, List.length_map, List.getElem?_map, Int.toNat_natCast, hK, q2, hpk, hqq, hw0, q1, q3, q5]
              repeat (refine ⟨by first | assumption | omega | decide | (simp; done) | (simp_all; done) | (simp; omega), ?_⟩)
              refine hk53 _ ?_
              simp only [shA, if_true, if_false, ite_true, ite_false, forall_const, ite_self, eq_self, reduceIte, reduceCtorEq, Nat.reduceEqDiff, Nat.reduceAdd, Nat.reduceLeDiff, Nat.reduceSub, Int.reduceToNat, Nat.reduceBEq, Nat.reduceMul, Nat.reduceLT, Int.reduceLE, Int.reduceLT, Nat.reduceMod, List.length_map, List.getElem?_map, Int.toNat_natCast, hK, q2, hpk, hqq, hw0, q1, q3, q5]
              refine hk52 _ ?_
              refine hn29 _ ?_
              refine hn28 (some ([1, 2, 5, 6, 7, 8], none)) _ ?_
              refine ev_ops_k fun K54 hk54 => ?_
              refine evL_take 2 fun K55 hk55 => ?_
              simp only [shA, if_true, if_false, ite_true, ite_false, forall_const, ite_self, eq_self, reduceIte, reduceCtorEq, Nat.reduceEqDiff, Nat.reduceAdd, Nat.reduceLeDiff, Nat.reduceSub, Int.reduceToNat, Nat.reduceBEq, Nat.reduceMul, Nat.reduceLT, Int.reduceLE, Int.reduceLT, Nat.reduceMod, List.length_map, List.getElem?_map, Int.toNat_natCast, hK, q2, hpk, hqq, hw0, q1, q3, q5]
              repeat (refine ⟨by first | assumption | omega | decide | (simp; done) | (simp_all; done) | (simp; omega), ?_⟩)
              refine hk55 _ ?_
              simp only [shA, if_true, if_false, ite_true, ite_false, forall_const, ite_self, eq_self, reduceIte, reduceCtorEq, Nat.reduceEqDiff, Nat.reduceAdd, Nat.reduceLeDiff, Nat.reduceSub, Int.reduceToNat, Nat.reduceBEq, Nat.reduceMul, Nat.reduceLT, Int.reduceLE, Int.reduceLT, Nat.reduceMod, List.length_map, List.getElem?_map, Int.toNat_natCast, hK, q2, hpk, hqq, hw0, q1, q3, q5]
              refine hk54 _ ?_
              refine hn23 (R.puts.length - (k + 1)) (some ([1, 2, 5, 6, 7, 8], some ([0, 1], 2))) _ ?_ ?_
              all_goals try simp only [St.casts, St.cast, nilS, St.put, St.newO, St.setO, delA, List.getElem?_cons_zero, List.getElem?_cons_succ, List.set_cons_zero, List.set_cons_succ, getA, Nat.reduceEqDiff, reduceCtorEq, keepT, renT, renSh, renC, renO, renOb, idxN, List.map_cons, List.map_nil, List.length_cons, List.length_nil, Nat.reduceAdd, Nat.zero_add, decide_true, St.keep, refsT, refsO, refsL, refsC, refsOk, decide_eq_true_eq, List.contains_cons, List.contains_nil, Bool.or_false, Bool.or_true, Bool.true_or, Bool.false_or, Bool.and_true, Bool.true_and, beq_self_eq_true, Nat.reduceBEq, reduceIte, Nat.blt_eq, Nat.reduceLT, decide_true, Nat.reduceLeDiff, Bool.false_eq_true, Bool.and_eq_true, and_self, true_and, and_true]
              · omega
              · refine ⟨k + 1, by omega, by omega, ?_⟩
                rw [e1, e2]
                first
                | (rw [if_pos hc2, if_pos ⟨hc2, hc3⟩]; simp only [putS, hqq, Int.toNat_natCast, List.map_set] <;> rfl)
                | (rw [if_pos hc2, if_neg (fun h => hc3 h.2)])
                | (rw [if_pos hc2, if_neg (fun h => by have := h.2; omega)])
                | (rw [if_neg hc2, if_neg (fun h => hc2 h.1)])
          · try simp only [decide_eq_true_eq, decide_eq_false_iff_not, Bool.not_eq_true', Bool.not_eq_false', Bool.not_eq_eq_eq_not, Bool.not_true, Bool.not_false, beq_iff_eq, bne_iff_ne, beq_eq_false_iff_ne, bne_eq_false_iff_eq, ne_eq, Int.not_le, Int.not_lt] at hc2
            refine hn29 _ ?_
            refine hn28 (some ([1, 2, 5, 6, 7, 8], none)) _ ?_
            refine ev_ops_k fun K56 hk56 => ?_
            refine evL_take 2 fun K57 hk57 => ?_
            simp only [shA, if_true, if_false, ite_true, ite_false, forall_const, ite_self, eq_self, reduceIte, reduceCtorEq, Nat.reduceEqDiff, Nat.reduceAdd, Nat.reduceLeDiff, Nat.reduceSub, Int.reduceToNat, Nat.reduceBEq, Nat.reduceMul, Nat.reduceLT, Int.reduceLE, Int.reduceLT, Nat.reduceMod, List.length_map, List.getElem?_map, Int.toNat_natCast, hK, q2, hpk, hqq, hw0, q1, q3, q5]
            repeat (refine ⟨by first | assumption | omega | decide | (simp; done) | (simp_all; done) | (simp; omega), ?_⟩)
            refine hk57 _ ?_
            simp only [shA, if_true, if_false, ite_true, ite_false, forall_const, ite_self, eq_self, reduceIte, reduceCtorEq, Nat.reduceEqDiff, Nat.reduceAdd, Nat.reduceLeDiff, Nat.reduceSub, Int.reduceToNat, Nat.reduceBEq, Nat.reduceMul, Nat.reduceLT, Int.reduceLE, Int.reduceLT, Nat.reduceMod, List.length_map, List.getElem?_map, Int.toNat_natCast, hK, q2, hpk, hqq, hw0, q1, q3, q5]
            refine hk56 _ ?_
            refine hn23 (R.puts.length - (k + 1)) (some ([1, 2, 5, 6, 7, 8], some ([0, 1], 2))) _ ?_ ?_
            all_goals try simp only [St.casts, St.cast, nilS, St.put, St.newO, St.setO, delA, List.getElem?_cons_zero, List.getElem?_cons_succ, List.set_cons_zero, List.set_cons_succ, getA, Nat.reduceEqDiff, reduceCtorEq, keepT, renT, renSh, renC, renO, renOb, idxN, List.map_cons, List.map_nil, List.length_cons, List.length_nil, Nat.reduceAdd, Nat.zero_add, decide_true, St.keep, refsT, refsO, refsL, refsC, refsOk, decide_eq_true_eq, List.contains_cons, List.contains_nil, Bool.or_false, Bool.or_true, Bool.true_or, Bool.false_or, Bool.and_true, Bool.true_and, beq_self_eq_true, Nat.reduceBEq, reduceIte, Nat.blt_eq, Nat.reduceLT, decide_true, Nat.reduceLeDiff, Bool.false_eq_true, Bool.and_eq_true, and_self, true_and, and_true]
            · omega
            · refine ⟨k + 1, by omega, by omega, ?_⟩
              rw [e1, e2]
              first
              | (rw [if_pos hc2, if_pos ⟨hc2, hc3⟩]; simp only [putS, hqq, Int.toNat_natCast, List.map_set] <;> rfl)
              | (rw [if_pos hc2, if_neg (fun h => hc3 h.2)])
              | (rw [if_pos hc2, if_neg (fun h => by have := h.2; omega)])
              | (rw [if_neg hc2, if_neg (fun h => hc2 h.1)])
        · try simp only [decide_eq_true_eq, decide_eq_false_iff_not, Bool.not_eq_true', Bool.not_eq_false', Bool.not_eq_eq_eq_not, Bool.not_true, Bool.not_false, beq_iff_eq, bne_iff_ne, beq_eq_false_iff_ne, bne_eq_false_iff_eq, ne_eq, Int.not_le, Int.not_lt] at hc1
          obtain rfl : k = R.puts.length := by omega
          refine he24 2 _ ?_
          refine he23 2 _ ?_
          refine hx22 _ ?_
          refine hn17 _ ?_
          refine hn16 (some ([1, 2, 5, 6], none)) _ ?_
          refine ev_ops_k fun K58 hk58 => ?_
          refine evL_take 2 fun K59 hk59 => ?_
          simp only [shA, if_true, if_false, ite_true, ite_false, forall_const, ite_self, eq_self, reduceIte, reduceCtorEq, Nat.reduceEqDiff, Nat.reduceAdd, Nat.reduceLeDiff, Nat.reduceSub, Int.reduceToNat, Nat.reduceBEq, Nat.reduceMul, Nat.reduceLT, Int.reduceLE, Int.reduceLT, Nat.reduceMod, List.length_map, List.getElem?_map, Int.toNat_natCast, hK, q2]
          repeat (refine ⟨by first | assumption | omega | decide | (simp; done) | (simp_all; done) | (simp; omega), ?_⟩)
          refine hk59 _ ?_
          simp only [shA, if_true, if_false, ite_true, ite_false, forall_const, ite_self, eq_self, reduceIte, reduceCtorEq, Nat.reduceEqDiff, Nat.reduceAdd, Nat.reduceLeDiff, Nat.reduceSub, Int.reduceToNat, Nat.reduceBEq, Nat.reduceMul, Nat.reduceLT, Int.reduceLE, Int.reduceLT, Nat.reduceMod, List.length_map, List.getElem?_map, Int.toNat_natCast, hK, q2]
          refine hk58 _ ?_
          refine hn12 (ks.length - (i + 1)) (some ([1, 2, 5, 6], some ([0, 1], 2))) _ ?_ ?_
          all_goals try simp only [St.casts, St.cast, nilS, St.put, St.newO, St.setO, delA, List.getElem?_cons_zero, List.getElem?_cons_succ, List.set_cons_zero, List.set_cons_succ, getA, Nat.reduceEqDiff, reduceCtorEq, keepT, renT, renSh, renC, renO, renOb, idxN, List.map_cons, List.map_nil, List.length_cons, List.length_nil, Nat.reduceAdd, Nat.zero_add, decide_true, St.keep, refsT, refsO, refsL, refsC, refsOk, decide_eq_true_eq, List.contains_cons, List.contains_nil, Bool.or_false, Bool.or_true, Bool.true_or, Bool.false_or, Bool.and_true, Bool.true_and, beq_self_eq_true, Nat.reduceBEq, reduceIte, Nat.blt_eq, Nat.reduceLT, decide_true, Nat.reduceLeDiff, Bool.false_eq_true, Bool.and_eq_true, and_self, true_and, and_true]
          · omega
          · refine ⟨i + 1, by omega, by omega, ?_⟩
            have e3 : outR R ks (i + 1) = inR R.puts i K (outR R ks i) R.puts.length := by rw [outR, hK]
            rw [e3]
    · try simp only [decide_eq_true_eq, decide_eq_false_iff_not, Bool.not_eq_true', Bool.not_eq_false', Bool.not_eq_eq_eq_not, Bool.not_true, Bool.not_false, beq_iff_eq, bne_iff_ne, beq_eq_false_iff_ne, bne_eq_false_iff_eq, ne_eq, Int.not_le, Int.not_lt] at hc0
      obtain rfl : i = ks.length := by omega
      refine he13 0 _ ?_
      refine he12 0 _ ?_
      refine hx11 _ ?_
      refine hn8 (some ([5], none)) _ ?_
      refine ev_seq_k fun K60 hn60 hr60 he60 => ?_
      refine ev_ops_k fun K61 hk61 => ?_
      simp only [shA, if_true, if_false, ite_true, ite_false, forall_const, ite_self, eq_self, reduceIte, reduceCtorEq, Nat.reduceEqDiff, Nat.reduceAdd, Nat.reduceLeDiff, Nat.reduceSub, Int.reduceToNat, Nat.reduceBEq, Nat.reduceMul, Nat.reduceLT, Int.reduceLE, Int.reduceLT, Nat.reduceMod, List.length_map]
      refine hk61 _ ?_
      refine hn60 (some ([4], none)) _ ?_
      simp only [shA, if_true, if_false, ite_true, ite_false, forall_const, ite_self, eq_self, reduceIte, reduceCtorEq, Nat.reduceEqDiff, Nat.reduceAdd, Nat.reduceLeDiff, Nat.reduceSub, Int.reduceToNat, Nat.reduceBEq, Nat.reduceMul, Nat.reduceLT, Int.reduceLE, Int.reduceLT, Nat.reduceMod, ev, fin, rv_r5Left, List.length_map]
end Go.Proofs.Ytlbhfpcbbembgaa
