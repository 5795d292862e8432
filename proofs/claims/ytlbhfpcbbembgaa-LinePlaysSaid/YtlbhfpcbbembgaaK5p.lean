/-
  The reference of layer 5 by shadows: the small functions.
-/
import Derived.Test.YtlbhfpcbbembgaaK5m
import Derived.Test.YtlbhfpcbbembgaaEqW
namespace Go.Proofs.Ytlbhfpcbbembgaa
set_option linter.unusedSimpArgs false
set_option linter.unusedVariables false
open Go.RowKit Go.Maps

structure AskV where
  thread : Int
  line : Int
  upto : Int
abbrev eAsk (a : AskV) : List Sh := [sI a.thread, sI a.line, sI a.upto]
structure RefM where
  first : List WordV
  puts : List StoreV
  kept : List Int
  asks : List AskV
abbrev eI (n : Int) : List Sh := [sI n]
abbrev eRef (g : Nat) (R : RefM) : Sh := .agg [.sl 3 g (R.first.map eWord), .sl 4 0 (R.puts.map eStore), .sl 1 0 (R.kept.map eI), .sl 3 0 (R.asks.map eAsk)]
/-- How many of the first k puts lie on a line. -/
def cntR (ps : List StoreV) (i : Int) : Nat → Int
  | 0 => 0
  | k + 1 => match ps[k]? with
    | some p => if p.loc.tdiv 8 = i then cntR ps i k + 1 else cntR ps i k
    | none => cntR ps i k
theorem cntR_le (ps : List StoreV) (i : Int) : ∀ k, 0 ≤ cntR ps i k ∧ cntR ps i k ≤ (k : Int)
  | 0 => ⟨Int.le_refl _, Int.le_refl _⟩
  | k + 1 => by
    have := cntR_le ps i k
    unfold cntR
    split
    · split <;> omega
    · omega
theorem ok_r5Many (g : Nat) (R : RefM) (h : R.first.length ≤ 4096) : Ok 51 [eRef g R] (sI (((R.first.length + 7) / 8 : Nat) : Int)) := by
  have q1 : IntKind.i64.wrap ((R.first.length : Int) + 7) = (R.first.length : Int) + 7 := by rw [IntKind.wrap_i64]; omega
  have q2 : IntKind.i64.wrap (((R.first.length : Int) + 7).tdiv 8) = ((R.first.length + 7) / 8 : Nat) := by rw [IntKind.wrap_i64, Int.tdiv_eq_ediv_of_nonneg (by omega)]; omega
  refine ok_of_tr Try.func51 tr_r5Many rfl ?_
  unfold evFn sc_r5Many
  refine ev_seq_k fun K1 hn1 hr1 he1 => ?_
  refine ev_ops_k fun K2 hk2 => ?_
  simp only [shA, if_true, if_false, ite_true, ite_false, forall_const, ite_self, eq_self, reduceIte, reduceCtorEq, Nat.reduceEqDiff, Nat.reduceAdd, Nat.reduceLeDiff, Nat.reduceSub, Int.reduceToNat, Nat.reduceBEq, Nat.reduceMul, Nat.reduceLT, Int.reduceLE, Int.reduceLT, Nat.reduceMod, List.length_map, q1, q2]
  refine hk2 _ ?_
  refine hn1 (some ([1], none)) _ ?_
  refine ev_seq_k fun K3 hn3 hr3 he3 => ?_
  refine ev_ops_k fun K4 hk4 => ?_
  refine evL_take 2 fun K5 hk5 => ?_
  simp only [shA, if_true, if_false, ite_true, ite_false, forall_const, ite_self, eq_self, reduceIte, reduceCtorEq, Nat.reduceEqDiff, Nat.reduceAdd, Nat.reduceLeDiff, Nat.reduceSub, Int.reduceToNat, Nat.reduceBEq, Nat.reduceMul, Nat.reduceLT, Int.reduceLE, Int.reduceLT, Nat.reduceMod, List.length_map, q1, q2]
  repeat (refine ⟨by first | assumption | omega | decide | (simp; done) | (simp_all; done) | (simp; omega), ?_⟩)
  refine hk5 _ ?_
  refine evL_take 2 fun K6 hk6 => ?_
  simp only [shA, if_true, if_false, ite_true, ite_false, forall_const, ite_self, eq_self, reduceIte, reduceCtorEq, Nat.reduceEqDiff, Nat.reduceAdd, Nat.reduceLeDiff, Nat.reduceSub, Int.reduceToNat, Nat.reduceBEq, Nat.reduceMul, Nat.reduceLT, Int.reduceLE, Int.reduceLT, Nat.reduceMod, List.length_map, q1, q2]
  repeat (refine ⟨by first | assumption | omega | decide | (simp; done) | (simp_all; done) | (simp; omega), ?_⟩)
  refine hk6 _ ?_
  refine evL_take 1 fun K7 hk7 => ?_
  simp only [shA, if_true, if_false, ite_true, ite_false, forall_const, ite_self, eq_self, reduceIte, reduceCtorEq, Nat.reduceEqDiff, Nat.reduceAdd, Nat.reduceLeDiff, Nat.reduceSub, Int.reduceToNat, Nat.reduceBEq, Nat.reduceMul, Nat.reduceLT, Int.reduceLE, Int.reduceLT, Nat.reduceMod, List.length_map, q1, q2]
  repeat (refine ⟨by first | assumption | omega | decide | (simp; done) | (simp_all; done) | (simp; omega), ?_⟩)
  refine hk7 _ ?_
  simp only [shA, if_true, if_false, ite_true, ite_false, forall_const, ite_self, eq_self, reduceIte, reduceCtorEq, Nat.reduceEqDiff, Nat.reduceAdd, Nat.reduceLeDiff, Nat.reduceSub, Int.reduceToNat, Nat.reduceBEq, Nat.reduceMul, Nat.reduceLT, Int.reduceLE, Int.reduceLT, Nat.reduceMod, List.length_map, q1, q2]
  refine hk4 _ ?_
  refine hn3 (some ([2], none)) _ ?_
  simp only [shA, if_true, if_false, ite_true, ite_false, forall_const, ite_self, eq_self, reduceIte, reduceCtorEq, Nat.reduceEqDiff, Nat.reduceAdd, Nat.reduceLeDiff, Nat.reduceSub, Int.reduceToNat, Nat.reduceBEq, Nat.reduceMul, Nat.reduceLT, Int.reduceLE, Int.reduceLT, Nat.reduceMod, ev, fin, rv_r5Many, List.length_map, q1, q2]
theorem ok_r5Is (g : Nat) (R : RefM) (a : Int) : Ok 63 [eRef g R, sI a] (sB (decide (0 ≤ a ∧ a < (R.first.length : Int)))) := by
  refine ok_of_tr Try.func63 tr_r5Is rfl ?_
  by_cases h1 : 0 ≤ a <;> by_cases h2 : a < (R.first.length : Int)
  all_goals
    unfold evFn sc_r5Is
    refine ev_seq_k fun K1 hn1 hr1 he1 => ?_
    refine ev_ops_k fun K2 hk2 => ?_
    simp only [shA, if_true, if_false, ite_true, ite_false, forall_const, ite_self, eq_self, reduceIte, reduceCtorEq, Nat.reduceEqDiff, Nat.reduceAdd, Nat.reduceLeDiff, Nat.reduceSub, Int.reduceToNat, Nat.reduceBEq, Nat.reduceMul, Nat.reduceLT, Int.reduceLE, Int.reduceLT, Nat.reduceMod, h1, h2, List.length_map]
    refine hk2 _ ?_
    refine hn1 (some ([1, 2, 8, 9, 10, 11, 12], none)) _ ?_
    refine ev_seq_k fun K3 hn3 hr3 he3 => ?_
    refine ev_ops_k fun K4 hk4 => ?_
    refine evL_take 2 fun K5 hk5 => ?_
    simp only [shA, if_true, if_false, ite_true, ite_false, forall_const, ite_self, eq_self, reduceIte, reduceCtorEq, Nat.reduceEqDiff, Nat.reduceAdd, Nat.reduceLeDiff, Nat.reduceSub, Int.reduceToNat, Nat.reduceBEq, Nat.reduceMul, Nat.reduceLT, Int.reduceLE, Int.reduceLT, Nat.reduceMod, h1, h2, List.length_map]
    repeat (refine ⟨by first | assumption | omega | decide | (simp; done) | (simp_all; done) | (simp; omega), ?_⟩)
    refine hk5 _ ?_
    refine evL_take 4 fun K6 hk6 => ?_
    simp only [shA, if_true, if_false, ite_true, ite_false, forall_const, ite_self, eq_self, reduceIte, reduceCtorEq, Nat.reduceEqDiff, Nat.reduceAdd, Nat.reduceLeDiff, Nat.reduceSub, Int.reduceToNat, Nat.reduceBEq, Nat.reduceMul, Nat.reduceLT, Int.reduceLE, Int.reduceLT, Nat.reduceMod, h1, h2, List.length_map]
    repeat (refine ⟨by first | assumption | omega | decide | (simp; done) | (simp_all; done) | (simp; omega), ?_⟩)
    refine hk6 _ ?_
    refine evL_take 2 fun K7 hk7 => ?_
    simp only [shA, if_true, if_false, ite_true, ite_false, forall_const, ite_self, eq_self, reduceIte, reduceCtorEq, Nat.reduceEqDiff, Nat.reduceAdd, Nat.reduceLeDiff, Nat.reduceSub, Int.reduceToNat, Nat.reduceBEq, Nat.reduceMul, Nat.reduceLT, Int.reduceLE, Int.reduceLT, Nat.reduceMod, h1, h2, List.length_map]
    repeat (refine ⟨by first | assumption | omega | decide | (simp; done) | (simp_all; done) | (simp; omega), ?_⟩)
    refine hk7 _ ?_
    simp only [shA, if_true, if_false, ite_true, ite_false, forall_const, ite_self, eq_self, reduceIte, reduceCtorEq, Nat.reduceEqDiff, Nat.reduceAdd, Nat.reduceLeDiff, Nat.reduceSub, Int.reduceToNat, Nat.reduceBEq, Nat.reduceMul, Nat.reduceLT, Int.reduceLE, Int.reduceLT, Nat.reduceMod, h1, h2, List.length_map]
    refine hk4 _ ?_
    refine hn3 (some ([4], none)) _ ?_
    simp only [shA, if_true, if_false, ite_true, ite_false, forall_const, ite_self, eq_self, reduceIte, reduceCtorEq, Nat.reduceEqDiff, Nat.reduceAdd, Nat.reduceLeDiff, Nat.reduceSub, Int.reduceToNat, Nat.reduceBEq, Nat.reduceMul, Nat.reduceLT, Int.reduceLE, Int.reduceLT, Nat.reduceMod, ev, fin, rv_r5Is, h1, h2, List.length_map]
def LogInv (g : Nat) (R : RefM) (i : Int) (m : Nat) (S : St) : Prop :=
  ∃ k, k ≤ R.puts.length ∧ m = R.puts.length - k ∧ S = ⟨[(1, sI i), (2, .ptr 0 0 0), (5, sI (cntR R.puts i k)), (6, sI k)], [(0, .box 81 [.sl 3 g (R.first.map eWord), .sl 4 0 (R.puts.map eStore), .sl 1 0 (R.kept.map eI), .sl 3 0 (R.asks.map eAsk)])], 1⟩
set_option maxHeartbeats 2000000 in
theorem ok_r5Log (g : Nat) (R : RefM) (i : Int) (hp : ∀ p ∈ R.puts, 0 ≤ p.loc ∧ p.loc ≤ 4096) (hn : R.puts.length ≤ 1000) : Ok 52 [eRef g R, sI i] (sI (cntR R.puts i R.puts.length)) := by
  refine ok_of_tr Try.func52 tr_r5Log rfl ?_
  unfold evFn sc_r5Log
  refine ev_seq_k fun K1 hn1 hr1 he1 => ?_
  refine ev_ops_k fun K2 hk2 => ?_
  simp only [shA, if_true, if_false, ite_true, ite_false, forall_const, ite_self, eq_self, reduceIte, reduceCtorEq, Nat.reduceEqDiff, Nat.reduceAdd, Nat.reduceLeDiff, Nat.reduceSub, Int.reduceToNat, Nat.reduceBEq, Nat.reduceMul, Nat.reduceLT, Int.reduceLE, Int.reduceLT, Nat.reduceMod, List.length_map]
  refine hk2 _ ?_
  refine hn1 (some ([1, 2], none)) _ ?_
  refine ev_seq_k fun K3 hn3 hr3 he3 => ?_
  refine ev_ops_k fun K4 hk4 => ?_
  simp only [shA, if_true, if_false, ite_true, ite_false, forall_const, ite_self, eq_self, reduceIte, reduceCtorEq, Nat.reduceEqDiff, Nat.reduceAdd, Nat.reduceLeDiff, Nat.reduceSub, Int.reduceToNat, Nat.reduceBEq, Nat.reduceMul, Nat.reduceLT, Int.reduceLE, Int.reduceLT, Nat.reduceMod, List.length_map]
  refine hk4 _ ?_
  refine hn3 (some ([1, 2, 5], none)) _ ?_
  refine ev_seq_k fun K5 hn5 hr5 he5 => ?_
  refine ev_seq_k fun K6 hn6 hr6 he6 => ?_
  refine ev_ops_k fun K7 hk7 => ?_
  simp only [shA, if_true, if_false, ite_true, ite_false, forall_const, ite_self, eq_self, reduceIte, reduceCtorEq, Nat.reduceEqDiff, Nat.reduceAdd, Nat.reduceLeDiff, Nat.reduceSub, Int.reduceToNat, Nat.reduceBEq, Nat.reduceMul, Nat.reduceLT, Int.reduceLE, Int.reduceLT, Nat.reduceMod, List.length_map]
  refine hk7 _ ?_
  refine hn6 (some ([1, 2, 5, 6], none)) _ ?_
  refine ev_block_k fun K8 hn8 hx8 hr8 he8 => ?_
  refine ev_loop_k (LogInv g R i) (R.puts.length) (some ([1, 2, 5, 6], some ([0], 1))) ([]) ?_ ?_
  · try simp only [St.casts, St.cast, nilS, St.put, St.newO, St.setO, delA, List.getElem?_cons_zero, List.getElem?_cons_succ, List.set_cons_zero, List.set_cons_succ, getA, Nat.reduceEqDiff, reduceCtorEq, keepT, renT, renSh, renC, renO, renOb, idxN, List.map_cons, List.map_nil, List.length_cons, List.length_nil, Nat.reduceAdd, Nat.zero_add, decide_true, St.keep, refsT, refsO, refsL, refsC, refsOk, decide_eq_true_eq, List.contains_cons, List.contains_nil, Bool.or_false, Bool.or_true, Bool.true_or, Bool.false_or, Bool.and_true, Bool.true_and, beq_self_eq_true, Nat.reduceBEq, reduceIte, Nat.blt_eq, Nat.reduceLT, decide_true, Nat.reduceLeDiff, Bool.false_eq_true, Bool.and_eq_true, and_self, true_and, and_true]
    exact ⟨0, by omega, by omega, rfl⟩
  · intro k S1 hI
    obtain ⟨k, hk, rfl, rfl⟩ := hI
    intro K9 hn9 hr9 he9
    refine ev_seq_k fun K10 hn10 hr10 he10 => ?_
    refine ev_seq_k fun K11 hn11 hr11 he11 => ?_
    refine ev_ops_k fun K12 hk12 => ?_
    refine evL_take 3 fun K13 hk13 => ?_
    simp only [shA, if_true, if_false, ite_true, ite_false, forall_const, ite_self, eq_self, reduceIte, reduceCtorEq, Nat.reduceEqDiff, Nat.reduceAdd, Nat.reduceLeDiff, Nat.reduceSub, Int.reduceToNat, Nat.reduceBEq, Nat.reduceMul, Nat.reduceLT, Int.reduceLE, Int.reduceLT, Nat.reduceMod, List.length_map]
    repeat (refine ⟨by first | assumption | omega | decide | (simp; done) | (simp_all; done) | (simp; omega), ?_⟩)
    refine hk13 _ ?_
    simp only [shA, if_true, if_false, ite_true, ite_false, forall_const, ite_self, eq_self, reduceIte, reduceCtorEq, Nat.reduceEqDiff, Nat.reduceAdd, Nat.reduceLeDiff, Nat.reduceSub, Int.reduceToNat, Nat.reduceBEq, Nat.reduceMul, Nat.reduceLT, Int.reduceLE, Int.reduceLT, Nat.reduceMod, List.length_map]
    repeat (refine ⟨by first | assumption | omega | decide | (simp; done) | (simp_all; done) | (simp; omega), ?_⟩)
    refine hk12 _ ?_
    refine hn11 (some ([1, 2, 5, 6, 11], none)) _ ?_
    refine ev_cond_k rfl (fun hc0 => ?_) (fun hc0 => ?_)
    · try simp only [decide_eq_true_eq, decide_eq_false_iff_not, Bool.not_eq_true', Bool.not_eq_false', Bool.not_eq_eq_eq_not, Bool.not_true, Bool.not_false, beq_iff_eq, bne_iff_ne, beq_eq_false_iff_ne, bne_eq_false_iff_eq, ne_eq, Int.not_le, Int.not_lt] at hc0
      obtain ⟨p, hpk⟩ : ∃ p, R.puts[k]? = some p := ⟨_, List.getElem?_eq_getElem (by omega)⟩
      obtain ⟨p0, p1⟩ := hp p (List.mem_of_getElem? hpk)
      have q1 : IntKind.i64.wrap (p.loc.tdiv 8) = p.loc.tdiv 8 := by rw [IntKind.wrap_i64, Int.tdiv_eq_ediv_of_nonneg p0]; omega
      have q2 : IntKind.i64.wrap ((k : Int) + 1) = ((k + 1 : Nat) : Int) := by rw [IntKind.wrap_i64]; omega
      have q4 := cntR_le R.puts i k
      have q3 : IntKind.i64.wrap (cntR R.puts i k + 1) = cntR R.puts i k + 1 := by rw [IntKind.wrap_i64]; omega
      refine hn10 (some ([1, 2, 5, 6], none)) _ ?_
      refine ev_seq_k fun K14 hn14 hr14 he14 => ?_
      refine ev_block_k fun K15 hn15 hx15 hr15 he15 => ?_
      refine ev_seq_k fun K16 hn16 hr16 he16 => ?_
      refine ev_ops_k fun K17 hk17 => ?_
      refine evL_take 2 fun K18 hk18 => ?_
      simp only [shA, if_true, if_false, ite_true, ite_false, forall_const, ite_self, eq_self, reduceIte, reduceCtorEq, Nat.reduceEqDiff, Nat.reduceAdd, Nat.reduceLeDiff, Nat.reduceSub, Int.reduceToNat, Nat.reduceBEq, Nat.reduceMul, Nat.reduceLT, Int.reduceLE, Int.reduceLT, Nat.reduceMod, List.length_map, List.getElem?_map, Int.toNat_natCast, hpk, q1, q2, q3]
      repeat (refine ⟨by first | assumption | omega | decide | (simp; done) | (simp_all; done) | (simp; omega), ?_⟩)
      refine hk18 _ ?_
      refine evL_take 2 fun K19 hk19 => ?_
      simp only [shA, if_true, if_false, ite_true, ite_false, forall_const, ite_self, eq_self, reduceIte, reduceCtorEq, Nat.reduceEqDiff, Nat.reduceAdd, Nat.reduceLeDiff, Nat.reduceSub, Int.reduceToNat, Nat.reduceBEq, Nat.reduceMul, Nat.reduceLT, Int.reduceLE, Int.reduceLT, Nat.reduceMod, List.length_map, List.getElem?_map, Int.toNat_natCast, hpk, q1, q2, q3]
      repeat (refine ⟨by first | assumption | omega | decide | (simp; done) | (simp_all; done) | (simp; omega), ?_⟩)
      refine hk19 _ ?_
      refine evL_take 2 fun K20 hk20 => ?_
      simp only [shA, if_true, if_false, ite_true, ite_false, forall_const, ite_self, eq_self, reduceIte, reduceCtorEq, Nat.reduceEqDiff, Nat.reduceAdd, Nat.reduceLeDiff, Nat.reduceSub, Int.reduceToNat, Nat.reduceBEq, Nat.reduceMul, Nat.reduceLT, Int.reduceLE, Int.reduceLT, Nat.reduceMod, List.length_map, List.getElem?_map, Int.toNat_natCast, hpk, q1, q2, q3]
      repeat (refine ⟨by first | assumption | omega | decide | (simp; done) | (simp_all; done) | (simp; omega), ?_⟩)
      refine hk20 _ ?_
      refine evL_take 1 fun K21 hk21 => ?_
      simp only [shA, if_true, if_false, ite_true, ite_false, forall_const, ite_self, eq_self, reduceIte, reduceCtorEq, Nat.reduceEqDiff, Nat.reduceAdd, Nat.reduceLeDiff, Nat.reduceSub, Int.reduceToNat, Nat.reduceBEq, Nat.reduceMul, Nat.reduceLT, Int.reduceLE, Int.reduceLT, Nat.reduceMod, List.length_map, List.getElem?_map, Int.toNat_natCast, hpk, q1, q2, q3]
      repeat (refine ⟨by first | assumption | omega | decide | (simp; done) | (simp_all; done) | (simp; omega), ?_⟩)
      refine hk21 _ ?_
      simp only [shA, if_true, if_false, ite_true, ite_false, forall_const, ite_self, eq_self, reduceIte, reduceCtorEq, Nat.reduceEqDiff, Nat.reduceAdd, Nat.reduceLeDiff, Nat.reduceSub, Int.reduceToNat, Nat.reduceBEq, Nat.reduceMul, Nat.reduceLT, Int.reduceLE, Int.reduceLT, Nat.reduceMod, List.length_map, List.getElem?_map, Int.toNat_natCast, hpk, q1, q2, q3]
      repeat (refine ⟨by first | assumption | omega | decide | (simp; done) | (simp_all; done) | (simp; omega), ?_⟩)
      refine hk17 _ ?_
      refine hn16 (some ([1, 2, 5, 6, 22], none)) _ ?_
      refine ev_cond_k rfl (fun hc1 => ?_) (fun hc1 => ?_)
      · try simp only [decide_eq_true_eq, decide_eq_false_iff_not, Bool.not_eq_true', Bool.not_eq_false', Bool.not_eq_eq_eq_not, Bool.not_true, Bool.not_false, beq_iff_eq, bne_iff_ne, beq_eq_false_iff_ne, bne_eq_false_iff_eq, ne_eq, Int.not_le, Int.not_lt] at hc1
        refine ev_ops_k fun K22 hk22 => ?_
        refine evL_take 2 fun K23 hk23 => ?_
        simp only [shA, if_true, if_false, ite_true, ite_false, forall_const, ite_self, eq_self, reduceIte, reduceCtorEq, Nat.reduceEqDiff, Nat.reduceAdd, Nat.reduceLeDiff, Nat.reduceSub, Int.reduceToNat, Nat.reduceBEq, Nat.reduceMul, Nat.reduceLT, Int.reduceLE, Int.reduceLT, Nat.reduceMod, List.length_map, List.getElem?_map, Int.toNat_natCast, hpk, q1, q2, q3]
        repeat (refine ⟨by first | assumption | omega | decide | (simp; done) | (simp_all; done) | (simp; omega), ?_⟩)
        refine hk23 _ ?_
        simp only [shA, if_true, if_false, ite_true, ite_false, forall_const, ite_self, eq_self, reduceIte, reduceCtorEq, Nat.reduceEqDiff, Nat.reduceAdd, Nat.reduceLeDiff, Nat.reduceSub, Int.reduceToNat, Nat.reduceBEq, Nat.reduceMul, Nat.reduceLT, Int.reduceLE, Int.reduceLT, Nat.reduceMod, List.length_map, List.getElem?_map, Int.toNat_natCast, hpk, q1, q2, q3]
        refine hk22 _ ?_
        refine hn15 _ ?_
        refine hn14 (some ([1, 2, 5, 6], none)) _ ?_
        refine ev_ops_k fun K24 hk24 => ?_
        refine evL_take 2 fun K25 hk25 => ?_
        simp only [shA, if_true, if_false, ite_true, ite_false, forall_const, ite_self, eq_self, reduceIte, reduceCtorEq, Nat.reduceEqDiff, Nat.reduceAdd, Nat.reduceLeDiff, Nat.reduceSub, Int.reduceToNat, Nat.reduceBEq, Nat.reduceMul, Nat.reduceLT, Int.reduceLE, Int.reduceLT, Nat.reduceMod, List.length_map, List.getElem?_map, Int.toNat_natCast, hpk, q1, q2, q3]
        repeat (refine ⟨by first | assumption | omega | decide | (simp; done) | (simp_all; done) | (simp; omega), ?_⟩)
        refine hk25 _ ?_
        simp only [shA, if_true, if_false, ite_true, ite_false, forall_const, ite_self, eq_self, reduceIte, reduceCtorEq, Nat.reduceEqDiff, Nat.reduceAdd, Nat.reduceLeDiff, Nat.reduceSub, Int.reduceToNat, Nat.reduceBEq, Nat.reduceMul, Nat.reduceLT, Int.reduceLE, Int.reduceLT, Nat.reduceMod, List.length_map, List.getElem?_map, Int.toNat_natCast, hpk, q1, q2, q3]
        refine hk24 _ ?_
        refine hn9 (R.puts.length - (k + 1)) (some ([1, 2, 5, 6], some ([0], 1))) _ ?_ ?_
        all_goals try simp only [St.casts, St.cast, nilS, St.put, St.newO, St.setO, delA, List.getElem?_cons_zero, List.getElem?_cons_succ, List.set_cons_zero, List.set_cons_succ, getA, Nat.reduceEqDiff, reduceCtorEq, keepT, renT, renSh, renC, renO, renOb, idxN, List.map_cons, List.map_nil, List.length_cons, List.length_nil, Nat.reduceAdd, Nat.zero_add, decide_true, St.keep, refsT, refsO, refsL, refsC, refsOk, decide_eq_true_eq, List.contains_cons, List.contains_nil, Bool.or_false, Bool.or_true, Bool.true_or, Bool.false_or, Bool.and_true, Bool.true_and, beq_self_eq_true, Nat.reduceBEq, reduceIte, Nat.blt_eq, Nat.reduceLT, decide_true, Nat.reduceLeDiff, Bool.false_eq_true, Bool.and_eq_true, and_self, true_and, and_true]
        · omega
        · refine ⟨k + 1, by omega, by omega, ?_⟩
          have e : cntR R.puts i (k + 1) = if p.loc.tdiv 8 = i then cntR R.puts i k + 1 else cntR R.puts i k := by rw [cntR, hpk]
          rw [e]
          first | rw [if_pos hc1] | rw [if_neg hc1]
      · try simp only [decide_eq_true_eq, decide_eq_false_iff_not, Bool.not_eq_true', Bool.not_eq_false', Bool.not_eq_eq_eq_not, Bool.not_true, Bool.not_false, beq_iff_eq, bne_iff_ne, beq_eq_false_iff_ne, bne_eq_false_iff_eq, ne_eq, Int.not_le, Int.not_lt] at hc1
        refine hn15 _ ?_
        refine hn14 (some ([1, 2, 5, 6], none)) _ ?_
        refine ev_ops_k fun K26 hk26 => ?_
        refine evL_take 2 fun K27 hk27 => ?_
        simp only [shA, if_true, if_false, ite_true, ite_false, forall_const, ite_self, eq_self, reduceIte, reduceCtorEq, Nat.reduceEqDiff, Nat.reduceAdd, Nat.reduceLeDiff, Nat.reduceSub, Int.reduceToNat, Nat.reduceBEq, Nat.reduceMul, Nat.reduceLT, Int.reduceLE, Int.reduceLT, Nat.reduceMod, List.length_map, List.getElem?_map, Int.toNat_natCast, hpk, q1, q2, q3]
        repeat (refine ⟨by first | assumption | omega | decide | (simp; done) | (simp_all; done) | (simp; omega), ?_⟩)
        refine hk27 _ ?_
        simp only [shA, if_true, if_false, ite_true, ite_false, forall_const, ite_self, eq_self, reduceIte, reduceCtorEq, Nat.reduceEqDiff, Nat.reduceAdd, Nat.reduceLeDiff, Nat.reduceSub, Int.reduceToNat, Nat.reduceBEq, Nat.reduceMul, Nat.reduceLT, Int.reduceLE, Int.reduceLT, Nat.reduceMod, List.length_map, List.getElem?_map, Int.toNat_natCast, hpk, q1, q2, q3]
        refine hk26 _ ?_
        refine hn9 (R.puts.length - (k + 1)) (some ([1, 2, 5, 6], some ([0], 1))) _ ?_ ?_
        all_goals try simp only [St.casts, St.cast, nilS, St.put, St.newO, St.setO, delA, List.getElem?_cons_zero, List.getElem?_cons_succ, List.set_cons_zero, List.set_cons_succ, getA, Nat.reduceEqDiff, reduceCtorEq, keepT, renT, renSh, renC, renO, renOb, idxN, List.map_cons, List.map_nil, List.length_cons, List.length_nil, Nat.reduceAdd, Nat.zero_add, decide_true, St.keep, refsT, refsO, refsL, refsC, refsOk, decide_eq_true_eq, List.contains_cons, List.contains_nil, Bool.or_false, Bool.or_true, Bool.true_or, Bool.false_or, Bool.and_true, Bool.true_and, beq_self_eq_true, Nat.reduceBEq, reduceIte, Nat.blt_eq, Nat.reduceLT, decide_true, Nat.reduceLeDiff, Bool.false_eq_true, Bool.and_eq_true, and_self, true_and, and_true]
        · omega
        · refine ⟨k + 1, by omega, by omega, ?_⟩
          have e : cntR R.puts i (k + 1) = if p.loc.tdiv 8 = i then cntR R.puts i k + 1 else cntR R.puts i k := by rw [cntR, hpk]
          rw [e]
          first | rw [if_pos hc1] | rw [if_neg hc1]
    · try simp only [decide_eq_true_eq, decide_eq_false_iff_not, Bool.not_eq_true', Bool.not_eq_false', Bool.not_eq_eq_eq_not, Bool.not_true, Bool.not_false, beq_iff_eq, bne_iff_ne, beq_eq_false_iff_ne, bne_eq_false_iff_eq, ne_eq, Int.not_le, Int.not_lt] at hc0
      obtain rfl : k = R.puts.length := by omega
      refine he10 0 _ ?_
      refine he9 0 _ ?_
      refine hx8 _ ?_
      refine hn5 (some ([5], none)) _ ?_
      refine ev_seq_k fun K28 hn28 hr28 he28 => ?_
      refine ev_ops_k fun K29 hk29 => ?_
      simp only [shA, if_true, if_false, ite_true, ite_false, forall_const, ite_self, eq_self, reduceIte, reduceCtorEq, Nat.reduceEqDiff, Nat.reduceAdd, Nat.reduceLeDiff, Nat.reduceSub, Int.reduceToNat, Nat.reduceBEq, Nat.reduceMul, Nat.reduceLT, Int.reduceLE, Int.reduceLT, Nat.reduceMod, List.length_map]
      refine hk29 _ ?_
      refine hn28 (some ([4], none)) _ ?_
      simp only [shA, if_true, if_false, ite_true, ite_false, forall_const, ite_self, eq_self, reduceIte, reduceCtorEq, Nat.reduceEqDiff, Nat.reduceAdd, Nat.reduceLeDiff, Nat.reduceSub, Int.reduceToNat, Nat.reduceBEq, Nat.reduceMul, Nat.reduceLT, Int.reduceLE, Int.reduceLT, Nat.reduceMod, ev, fin, rv_r5Log, List.length_map]
end Go.Proofs.Ytlbhfpcbbembgaa
