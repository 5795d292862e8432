/-
  Layer 5 by shadows: Store, Kept, New.
-/
import Derived.Test.YtlbhfpcbbembgaaK5a
import Derived.Test.YtlbhfpcbbembgaaLine1
namespace Go.Proofs.Ytlbhfpcbbembgaa
set_option linter.unusedSimpArgs false
set_option linter.unusedVariables false
open Go.RowKit Go.Maps

theorem modify_set {α : Type} {l : List α} {m : Nat} {y : α} (f : α → α) (h : l[m]? = some y) : l.modify m f = l.set m (f y) := by
  apply List.ext_getElem?
  intro i
  rw [List.getElem?_modify, List.getElem?_set]
  by_cases e : m = i
  · subst e
    obtain ⟨h', hy⟩ := List.getElem?_eq_some_iff.1 h
    simp [h', hy]
  · simp [e]

def storeM (L : LinesM) (a : Int) (w : WordV) : LinesM := { L with logs := L.logs.modify (a.toNat / 8) fun x => { x with stores := x.stores ++ [⟨a, w⟩] } }

theorem ok_clipStore (g : Nat) (es : List (List Sh)) : Ok 45 [.sl 4 g es] (.sl 4 1 es) := by
  refine ok_of_tr Try.func45 tr_clipStore rfl ?_
  unfold evFn sc_clipStore
  refine ev_seq_k fun K1 hn1 hr1 he1 => ?_
  refine ev_ops_k fun K2 hk2 => ?_
  simp only [shA, if_true, if_false, ite_true, ite_false, forall_const, ite_self, eq_self, reduceIte, reduceCtorEq, Nat.reduceEqDiff, Nat.reduceAdd, Nat.reduceLeDiff, Nat.reduceSub, Int.reduceToNat, Nat.reduceBEq, Nat.reduceMul, Nat.reduceLT, Int.reduceLE, Int.reduceLT, Nat.reduceMod, Int.toNat_natCast, List.take_length]
  refine hk2 _ ?_
  refine hn1 (some ([0], none)) _ ?_
  refine ev_seq_k fun K3 hn3 hr3 he3 => ?_
  refine ev_ops_k fun K4 hk4 => ?_
  refine evL_take 6 fun K5 hk5 => ?_
  simp only [shA, if_true, if_false, ite_true, ite_false, forall_const, ite_self, eq_self, reduceIte, reduceCtorEq, Nat.reduceEqDiff, Nat.reduceAdd, Nat.reduceLeDiff, Nat.reduceSub, Int.reduceToNat, Nat.reduceBEq, Nat.reduceMul, Nat.reduceLT, Int.reduceLE, Int.reduceLT, Nat.reduceMod, Int.toNat_natCast, List.take_length]
  repeat (refine ⟨by first | assumption | omega | decide | (simp; done) | (simp_all; done) | (simp; omega), ?_⟩)
  refine hk5 _ ?_
  simp only [shA, if_true, if_false, ite_true, ite_false, forall_const, ite_self, eq_self, reduceIte, reduceCtorEq, Nat.reduceEqDiff, Nat.reduceAdd, Nat.reduceLeDiff, Nat.reduceSub, Int.reduceToNat, Nat.reduceBEq, Nat.reduceMul, Nat.reduceLT, Int.reduceLE, Int.reduceLT, Nat.reduceMod, Int.toNat_natCast, List.take_length]
  refine hk4 _ ?_
  refine hn3 (some ([2], none)) _ ?_
  simp only [shA, if_true, if_false, ite_true, ite_false, forall_const, ite_self, eq_self, reduceIte, reduceCtorEq, Nat.reduceEqDiff, Nat.reduceAdd, Nat.reduceLeDiff, Nat.reduceSub, Int.reduceToNat, Nat.reduceBEq, Nat.reduceMul, Nat.reduceLT, Int.reduceLE, Int.reduceLT, Nat.reduceMod, ev, fin, rv_clipStore, Int.toNat_natCast, List.take_length]

theorem ok_lStore_bad (L : LinesM) (a : Int) (v : WordV) (h : ¬ (0 ≤ a ∧ a < (L.first.length : Int))) : Ok 28 [eLines L, sI a, .agg (eWord v)] (.tup [eLines L, sI 1]) := by
  refine ok_of_tr Try.func28 tr_lStore rfl ?_
  unfold evFn sc_lStore
  refine ev_seq_k fun K1 hn1 hr1 he1 => ?_
  refine ev_ops_k fun K2 hk2 => ?_
  simp only [shA, if_true, if_false, ite_true, ite_false, forall_const, ite_self, eq_self, reduceIte, reduceCtorEq, Nat.reduceEqDiff, Nat.reduceAdd, Nat.reduceLeDiff, Nat.reduceSub, Int.reduceToNat, Nat.reduceBEq, Nat.reduceMul, Nat.reduceLT, Int.reduceLE, Int.reduceLT, Nat.reduceMod]
  refine hk2 _ ?_
  refine hn1 (some ([1, 3, 5, 6], none)) _ ?_
  refine ev_seq_k fun K3 hn3 hr3 he3 => ?_
  refine ev_seq_k fun K4 hn4 hr4 he4 => ?_
  refine ev_ops_k fun K5 hk5 => ?_
  refine evL_take 1 fun K6 hk6 => ?_
  simp only [shA, if_true, if_false, ite_true, ite_false, forall_const, ite_self, eq_self, reduceIte, reduceCtorEq, Nat.reduceEqDiff, Nat.reduceAdd, Nat.reduceLeDiff, Nat.reduceSub, Int.reduceToNat, Nat.reduceBEq, Nat.reduceMul, Nat.reduceLT, Int.reduceLE, Int.reduceLT, Nat.reduceMod]
  repeat (refine ⟨by first | assumption | omega | decide | (simp; done) | (simp_all; done) | (simp; omega), ?_⟩)
  refine hk6 _ ?_
  refine evL_take 1 fun K7 hk7 => ?_
  simp only [shA, if_true, if_false, ite_true, ite_false, forall_const, ite_self, eq_self, reduceIte, reduceCtorEq, Nat.reduceEqDiff, Nat.reduceAdd, Nat.reduceLeDiff, Nat.reduceSub, Int.reduceToNat, Nat.reduceBEq, Nat.reduceMul, Nat.reduceLT, Int.reduceLE, Int.reduceLT, Nat.reduceMod]
  refine hk7 _ ?_
  refine evL_take 1 fun K8 hk8 => ?_
  simp only [shA, if_true, if_false, ite_true, ite_false, forall_const, ite_self, eq_self, reduceIte, reduceCtorEq, Nat.reduceEqDiff, Nat.reduceAdd, Nat.reduceLeDiff, Nat.reduceSub, Int.reduceToNat, Nat.reduceBEq, Nat.reduceMul, Nat.reduceLT, Int.reduceLE, Int.reduceLT, Nat.reduceMod]
  refine Or.inl (Or.inl ⟨_, ok_lHas L a, ?_⟩)
  refine hk8 _ ?_
  simp only [shA, if_true, if_false, ite_true, ite_false, forall_const, ite_self, eq_self, reduceIte, reduceCtorEq, Nat.reduceEqDiff, Nat.reduceAdd, Nat.reduceLeDiff, Nat.reduceSub, Int.reduceToNat, Nat.reduceBEq, Nat.reduceMul, Nat.reduceLT, Int.reduceLE, Int.reduceLT, Nat.reduceMod]
  refine hk5 _ ?_
  refine hn4 (some ([1, 3, 5, 6, 12], none)) _ ?_
  refine ev_cond_k rfl (fun hc0 => ?_) (fun hx => absurd hx (by simp [h] at hx))
  clear hc0
  refine ev_seq_k fun K9 hn9 hr9 he9 => ?_
  refine ev_ops_k fun K10 hk10 => ?_
  refine evL_take 1 fun K11 hk11 => ?_
  simp only [shA, if_true, if_false, ite_true, ite_false, forall_const, ite_self, eq_self, reduceIte, reduceCtorEq, Nat.reduceEqDiff, Nat.reduceAdd, Nat.reduceLeDiff, Nat.reduceSub, Int.reduceToNat, Nat.reduceBEq, Nat.reduceMul, Nat.reduceLT, Int.reduceLE, Int.reduceLT, Nat.reduceMod]
  repeat (refine ⟨by first | assumption | omega | decide | (simp; done) | (simp_all; done) | (simp; omega), ?_⟩)
  refine hk11 _ ?_
  refine evL_take 1 fun K12 hk12 => ?_
  simp only [shA, if_true, if_false, ite_true, ite_false, forall_const, ite_self, eq_self, reduceIte, reduceCtorEq, Nat.reduceEqDiff, Nat.reduceAdd, Nat.reduceLeDiff, Nat.reduceSub, Int.reduceToNat, Nat.reduceBEq, Nat.reduceMul, Nat.reduceLT, Int.reduceLE, Int.reduceLT, Nat.reduceMod]
  repeat (refine ⟨by first | assumption | omega | decide | (simp; done) | (simp_all; done) | (simp; omega), ?_⟩)
  refine hk12 _ ?_
  simp only [shA, if_true, if_false, ite_true, ite_false, forall_const, ite_self, eq_self, reduceIte, reduceCtorEq, Nat.reduceEqDiff, Nat.reduceAdd, Nat.reduceLeDiff, Nat.reduceSub, Int.reduceToNat, Nat.reduceBEq, Nat.reduceMul, Nat.reduceLT, Int.reduceLE, Int.reduceLT, Nat.reduceMod]
  refine hk10 _ ?_
  refine hn9 (some ([6, 7], none)) _ ?_
  refine hr3 _ ?_
  simp only [shA, if_true, if_false, ite_true, ite_false, forall_const, ite_self, eq_self, reduceIte, reduceCtorEq, Nat.reduceEqDiff, Nat.reduceAdd, Nat.reduceLeDiff, Nat.reduceSub, Int.reduceToNat, Nat.reduceBEq, Nat.reduceMul, Nat.reduceLT, Int.reduceLE, Int.reduceLT, Nat.reduceMod, ev, fin, rv_lStore]

theorem ok_lStore (L : LinesM) (a : Int) (v : WordV) (h0 : 0 ≤ a) (h1 : a < (L.first.length : Int)) (hl : L.logs.length = (L.first.length + 7) / 8) (hm : L.first.length ≤ 4096) (hs : ∀ y ∈ L.logs, y.stores.length ≤ 1000) :
    Ok 28 [eLines L, sI a, .agg (eWord v)] (.tup [eLines (storeM L a v), sI 0]) := by
  refine ok_of_tr Try.func28 tr_lStore rfl ?_
  obtain ⟨m, hmm⟩ : ∃ m, m = a.toNat / 8 := ⟨_, rfl⟩
  have hq : IntKind.i64.wrap (a.tdiv 8) = (m : Int) := by rw [IntKind.wrap_i64, Int.tdiv_eq_ediv_of_nonneg h0]; omega
  have hml : m < L.logs.length := by omega
  obtain ⟨y, hy⟩ : ∃ y, L.logs[m]? = some y := ⟨L.logs[m], by simp⟩
  have hys := hs y (List.mem_of_getElem? hy)
  unfold evFn sc_lStore
  refine ev_seq_k fun K1 hn1 hr1 he1 => ?_
  refine ev_ops_k fun K2 hk2 => ?_
  simp only [shA, if_true, if_false, ite_true, ite_false, forall_const, ite_self, eq_self, reduceIte, reduceCtorEq, Nat.reduceEqDiff, Nat.reduceAdd, Nat.reduceLeDiff, Nat.reduceSub, Int.reduceToNat, Nat.reduceBEq, Nat.reduceMul, Nat.reduceLT, Int.reduceLE, Int.reduceLT, Nat.reduceMod, Int.toNat_natCast, List.getElem?_map, hy, List.length_map, hq]
  refine hk2 _ ?_
  refine hn1 (some ([1, 3, 5, 6], none)) _ ?_
  refine ev_seq_k fun K3 hn3 hr3 he3 => ?_
  refine ev_seq_k fun K4 hn4 hr4 he4 => ?_
  refine ev_ops_k fun K5 hk5 => ?_
  refine evL_take 1 fun K6 hk6 => ?_
  simp only [shA, if_true, if_false, ite_true, ite_false, forall_const, ite_self, eq_self, reduceIte, reduceCtorEq, Nat.reduceEqDiff, Nat.reduceAdd, Nat.reduceLeDiff, Nat.reduceSub, Int.reduceToNat, Nat.reduceBEq, Nat.reduceMul, Nat.reduceLT, Int.reduceLE, Int.reduceLT, Nat.reduceMod, Int.toNat_natCast, List.getElem?_map, hy, List.length_map, hq]
  repeat (refine ⟨by first | assumption | omega | decide | (simp; done) | (simp_all; done) | (simp; omega), ?_⟩)
  refine hk6 _ ?_
  refine evL_take 1 fun K7 hk7 => ?_
  simp only [shA, if_true, if_false, ite_true, ite_false, forall_const, ite_self, eq_self, reduceIte, reduceCtorEq, Nat.reduceEqDiff, Nat.reduceAdd, Nat.reduceLeDiff, Nat.reduceSub, Int.reduceToNat, Nat.reduceBEq, Nat.reduceMul, Nat.reduceLT, Int.reduceLE, Int.reduceLT, Nat.reduceMod, Int.toNat_natCast, List.getElem?_map, hy, List.length_map, hq]
  refine hk7 _ ?_
  refine evL_take 1 fun K8 hk8 => ?_
  simp only [shA, if_true, if_false, ite_true, ite_false, forall_const, ite_self, eq_self, reduceIte, reduceCtorEq, Nat.reduceEqDiff, Nat.reduceAdd, Nat.reduceLeDiff, Nat.reduceSub, Int.reduceToNat, Nat.reduceBEq, Nat.reduceMul, Nat.reduceLT, Int.reduceLE, Int.reduceLT, Nat.reduceMod, Int.toNat_natCast, List.getElem?_map, hy, List.length_map, hq]
  refine Or.inl (Or.inl ⟨_, ok_lHas L a, ?_⟩)
  refine hk8 _ ?_
  simp only [shA, if_true, if_false, ite_true, ite_false, forall_const, ite_self, eq_self, reduceIte, reduceCtorEq, Nat.reduceEqDiff, Nat.reduceAdd, Nat.reduceLeDiff, Nat.reduceSub, Int.reduceToNat, Nat.reduceBEq, Nat.reduceMul, Nat.reduceLT, Int.reduceLE, Int.reduceLT, Nat.reduceMod, Int.toNat_natCast, List.getElem?_map, hy, List.length_map, hq]
  refine hk5 _ ?_
  refine hn4 (some ([1, 3, 5, 6, 12], none)) _ ?_
  refine ev_cond_k rfl (fun hx => absurd hx (by simp [h0, h1] at hx)) (fun hc0 => ?_)
  clear hc0
  refine hn3 (some ([1, 3, 5, 6], none)) _ ?_
  refine ev_seq_k fun K9 hn9 hr9 he9 => ?_
  refine ev_ops_k fun K10 hk10 => ?_
  refine evL_take 2 fun K11 hk11 => ?_
  simp only [shA, if_true, if_false, ite_true, ite_false, forall_const, ite_self, eq_self, reduceIte, reduceCtorEq, Nat.reduceEqDiff, Nat.reduceAdd, Nat.reduceLeDiff, Nat.reduceSub, Int.reduceToNat, Nat.reduceBEq, Nat.reduceMul, Nat.reduceLT, Int.reduceLE, Int.reduceLT, Nat.reduceMod, Int.toNat_natCast, List.getElem?_map, hy, List.length_map, hq]
  repeat (refine ⟨by first | assumption | omega | decide | (simp; done) | (simp_all; done) | (simp; omega), ?_⟩)
  refine hk11 _ ?_
  refine evL_take 1 fun K12 hk12 => ?_
  simp only [shA, if_true, if_false, ite_true, ite_false, forall_const, ite_self, eq_self, reduceIte, reduceCtorEq, Nat.reduceEqDiff, Nat.reduceAdd, Nat.reduceLeDiff, Nat.reduceSub, Int.reduceToNat, Nat.reduceBEq, Nat.reduceMul, Nat.reduceLT, Int.reduceLE, Int.reduceLT, Nat.reduceMod, Int.toNat_natCast, List.getElem?_map, hy, List.length_map, hq]
  refine Or.inl (Or.inr (Or.inl ⟨_, _, _, row_cloneLog 0 _ (by simp; omega), ?_⟩))
  refine hk12 _ ?_
  simp only [shA, if_true, if_false, ite_true, ite_false, forall_const, ite_self, eq_self, reduceIte, reduceCtorEq, Nat.reduceEqDiff, Nat.reduceAdd, Nat.reduceLeDiff, Nat.reduceSub, Int.reduceToNat, Nat.reduceBEq, Nat.reduceMul, Nat.reduceLT, Int.reduceLE, Int.reduceLT, Nat.reduceMod, Int.toNat_natCast, List.getElem?_map, hy, List.length_map, hq]
  repeat (refine ⟨by first | assumption | omega | decide | (simp; done) | (simp_all; done) | (simp; omega), ?_⟩)
  refine hk10 _ ?_
  refine hn9 (some ([1, 3, 5, 6], none)) _ ?_
  refine ev_seq_k fun K13 hn13 hr13 he13 => ?_
  refine ev_ops_k fun K14 hk14 => ?_
  refine evL_take 2 fun K15 hk15 => ?_
  simp only [shA, if_true, if_false, ite_true, ite_false, forall_const, ite_self, eq_self, reduceIte, reduceCtorEq, Nat.reduceEqDiff, Nat.reduceAdd, Nat.reduceLeDiff, Nat.reduceSub, Int.reduceToNat, Nat.reduceBEq, Nat.reduceMul, Nat.reduceLT, Int.reduceLE, Int.reduceLT, Nat.reduceMod, Int.toNat_natCast, List.getElem?_map, hy, List.length_map, hq]
  repeat (refine ⟨by first | assumption | omega | decide | (simp; done) | (simp_all; done) | (simp; omega), ?_⟩)
  refine hk15 _ ?_
  refine evL_take 2 fun K16 hk16 => ?_
  simp only [shA, if_true, if_false, ite_true, ite_false, forall_const, ite_self, eq_self, reduceIte, reduceCtorEq, Nat.reduceEqDiff, Nat.reduceAdd, Nat.reduceLeDiff, Nat.reduceSub, Int.reduceToNat, Nat.reduceBEq, Nat.reduceMul, Nat.reduceLT, Int.reduceLE, Int.reduceLT, Nat.reduceMod, Int.toNat_natCast, List.getElem?_map, hy, List.length_map, hq]
  repeat (refine ⟨by first | assumption | omega | decide | (simp; done) | (simp_all; done) | (simp; omega), ?_⟩)
  refine hk16 _ ?_
  refine evL_take 1 fun K17 hk17 => ?_
  simp only [shA, if_true, if_false, ite_true, ite_false, forall_const, ite_self, eq_self, reduceIte, reduceCtorEq, Nat.reduceEqDiff, Nat.reduceAdd, Nat.reduceLeDiff, Nat.reduceSub, Int.reduceToNat, Nat.reduceBEq, Nat.reduceMul, Nat.reduceLT, Int.reduceLE, Int.reduceLT, Nat.reduceMod, Int.toNat_natCast, List.getElem?_map, hy, List.length_map, hq]
  repeat (refine ⟨by first | assumption | omega | decide | (simp; done) | (simp_all; done) | (simp; omega), ?_⟩)
  refine hk17 _ ?_
  simp only [shA, if_true, if_false, ite_true, ite_false, forall_const, ite_self, eq_self, reduceIte, reduceCtorEq, Nat.reduceEqDiff, Nat.reduceAdd, Nat.reduceLeDiff, Nat.reduceSub, Int.reduceToNat, Nat.reduceBEq, Nat.reduceMul, Nat.reduceLT, Int.reduceLE, Int.reduceLT, Nat.reduceMod, Int.toNat_natCast, List.getElem?_map, hy, List.length_map, hq]
  refine hk14 _ ?_
  refine hn13 (some ([1, 3, 5, 6, 8], none)) _ ?_
  refine ev_seq_k fun K18 hn18 hr18 he18 => ?_
  refine ev_drw_k [] (n := 10) fun K19 hk19 => ?_
  simp only [List.take_succ_cons, List.take_zero, St.frzAll, St.frzSh, St.frzRow, St.frzBox, St.frzCells, St.argL, St.arg1, St.res, Sh.pure, St.setO, getA, delA, keepT, St.keep, reduceIte, Nat.reduceEqDiff, reduceCtorEq, Option.bind_some, Option.map_some, List.contains_cons, List.contains_nil, Nat.reduceBEq, Bool.or_false, Bool.or_true, Bool.false_or, beq_self_eq_true, Bool.false_eq_true]
  refine evF_take 5 fun K21 hk21 => ?_
  simp only [shA, if_true, if_false, ite_true, ite_false, forall_const, ite_self, eq_self, reduceIte, reduceCtorEq, Nat.reduceEqDiff, Nat.reduceAdd, Nat.reduceLeDiff, Nat.reduceSub, Int.reduceToNat, Nat.reduceBEq, Nat.reduceMul, Nat.reduceLT, Int.reduceLE, Int.reduceLT, Nat.reduceMod, Int.toNat_natCast, List.getElem?_map, hy, List.length_map, hq]
  repeat (refine ⟨by first | assumption | omega | decide | (simp; done) | (simp_all; done) | (simp; omega), ?_⟩)
  refine hk21 _ _ _ ?_
  refine evF_take 1 fun K22 hk22 => ?_
  simp only [shA, if_true, if_false, ite_true, ite_false, forall_const, ite_self, eq_self, reduceIte, reduceCtorEq, Nat.reduceEqDiff, Nat.reduceAdd, Nat.reduceLeDiff, Nat.reduceSub, Int.reduceToNat, Nat.reduceBEq, Nat.reduceMul, Nat.reduceLT, Int.reduceLE, Int.reduceLT, Nat.reduceMod, Int.toNat_natCast, List.getElem?_map, hy, List.length_map, hq]
  refine ⟨_, ok_clipStore _ _, ?_⟩
  refine hk22 _ _ _ ?_
  refine evF_take 2 fun K23 hk23 => ?_
  simp only [shA, if_true, if_false, ite_true, ite_false, forall_const, ite_self, eq_self, reduceIte, reduceCtorEq, Nat.reduceEqDiff, Nat.reduceAdd, Nat.reduceLeDiff, Nat.reduceSub, Int.reduceToNat, Nat.reduceBEq, Nat.reduceMul, Nat.reduceLT, Int.reduceLE, Int.reduceLT, Nat.reduceMod, Int.toNat_natCast, List.getElem?_map, hy, List.length_map, hq]
  repeat (refine ⟨by first | assumption | omega | decide | (simp; done) | (simp_all; done) | (simp; omega), ?_⟩)
  refine hk23 _ _ _ ?_
  simp only [shA, if_true, if_false, ite_true, ite_false, forall_const, ite_self, eq_self, reduceIte, reduceCtorEq, Nat.reduceEqDiff, Nat.reduceAdd, Nat.reduceLeDiff, Nat.reduceSub, Int.reduceToNat, Nat.reduceBEq, Nat.reduceMul, Nat.reduceLT, Int.reduceLE, Int.reduceLT, Nat.reduceMod, Int.toNat_natCast, List.getElem?_map, hy, List.length_map, hq]
  repeat (refine ⟨by first | assumption | omega | decide | (simp; done) | (simp_all; done) | (simp; omega), ?_⟩)
  refine hk19 _ ?_
  simp only [List.drop_succ_cons, List.drop_zero]
  refine evL_take 1 fun K24 hk24 => ?_
  simp only [shA, if_true, if_false, ite_true, ite_false, forall_const, ite_self, eq_self, reduceIte, reduceCtorEq, Nat.reduceEqDiff, Nat.reduceAdd, Nat.reduceLeDiff, Nat.reduceSub, Int.reduceToNat, Nat.reduceBEq, Nat.reduceMul, Nat.reduceLT, Int.reduceLE, Int.reduceLT, Nat.reduceMod, Int.toNat_natCast, List.getElem?_map, hy, List.length_map, hq]
  repeat (refine ⟨by first | assumption | omega | decide | (simp; done) | (simp_all; done) | (simp; omega), ?_⟩)
  refine hk24 _ ?_
  simp only [shA, if_true, if_false, ite_true, ite_false, forall_const, ite_self, eq_self, reduceIte, reduceCtorEq, Nat.reduceEqDiff, Nat.reduceAdd, Nat.reduceLeDiff, Nat.reduceSub, Int.reduceToNat, Nat.reduceBEq, Nat.reduceMul, Nat.reduceLT, Int.reduceLE, Int.reduceLT, Nat.reduceMod, Int.toNat_natCast, List.getElem?_map, hy, List.length_map, hq]
  repeat (refine ⟨by first | assumption | omega | decide | (simp; done) | (simp_all; done) | (simp; omega), ?_⟩)
  refine hn18 (some ([3, 6], none)) _ ?_
  refine ev_seq_k fun K25 hn25 hr25 he25 => ?_
  refine ev_ops_k fun K26 hk26 => ?_
  refine evL_take 1 fun K27 hk27 => ?_
  simp only [shA, if_true, if_false, ite_true, ite_false, forall_const, ite_self, eq_self, reduceIte, reduceCtorEq, Nat.reduceEqDiff, Nat.reduceAdd, Nat.reduceLeDiff, Nat.reduceSub, Int.reduceToNat, Nat.reduceBEq, Nat.reduceMul, Nat.reduceLT, Int.reduceLE, Int.reduceLT, Nat.reduceMod, Int.toNat_natCast, List.getElem?_map, hy, List.length_map, hq]
  repeat (refine ⟨by first | assumption | omega | decide | (simp; done) | (simp_all; done) | (simp; omega), ?_⟩)
  refine hk27 _ ?_
  refine evL_take 1 fun K28 hk28 => ?_
  simp only [shA, if_true, if_false, ite_true, ite_false, forall_const, ite_self, eq_self, reduceIte, reduceCtorEq, Nat.reduceEqDiff, Nat.reduceAdd, Nat.reduceLeDiff, Nat.reduceSub, Int.reduceToNat, Nat.reduceBEq, Nat.reduceMul, Nat.reduceLT, Int.reduceLE, Int.reduceLT, Nat.reduceMod, Int.toNat_natCast, List.getElem?_map, hy, List.length_map, hq]
  repeat (refine ⟨by first | assumption | omega | decide | (simp; done) | (simp_all; done) | (simp; omega), ?_⟩)
  refine hk28 _ ?_
  simp only [shA, if_true, if_false, ite_true, ite_false, forall_const, ite_self, eq_self, reduceIte, reduceCtorEq, Nat.reduceEqDiff, Nat.reduceAdd, Nat.reduceLeDiff, Nat.reduceSub, Int.reduceToNat, Nat.reduceBEq, Nat.reduceMul, Nat.reduceLT, Int.reduceLE, Int.reduceLT, Nat.reduceMod, Int.toNat_natCast, List.getElem?_map, hy, List.length_map, hq]
  refine hk26 _ ?_
  refine hn25 (some ([6, 7], none)) _ ?_
  simp only [shA, if_true, if_false, ite_true, ite_false, forall_const, ite_self, eq_self, reduceIte, reduceCtorEq, Nat.reduceEqDiff, Nat.reduceAdd, Nat.reduceLeDiff, Nat.reduceSub, Int.reduceToNat, Nat.reduceBEq, Nat.reduceMul, Nat.reduceLT, Int.reduceLE, Int.reduceLT, Nat.reduceMod, ev, fin, rv_lStore, Int.toNat_natCast, List.getElem?_map, hy, List.length_map, hq]
  have e : storeM L a v = { L with logs := L.logs.set m { y with stores := y.stores ++ [⟨a, v⟩] } } := by
    unfold storeM; rw [← hmm]; congr 1; exact modify_set _ hy
  rw [e]
  simp [List.map_set, eLog]

def keptM (L : LinesM) (i : Int) : Int × Int := if i < 0 then (0, 0) else match L.logs[i.toNat]? with | some y => (y.kept, (y.stores.length : Int)) | none => (0, 0)
theorem ok_lKept (L : LinesM) (i : Int) : Ok 34 [eLines L, sI i] (.tup [sI (keptM L i).1, sI (keptM L i).2]) := by
  refine ok_of_tr Try.func34 tr_lKept rfl ?_
  by_cases h1 : i < 0
  · have e : keptM L i = (0, 0) := by unfold keptM; rw [if_pos h1]
    rw [e]
    unfold evFn sc_lKept
    refine ev_seq_k fun K1 hn1 hr1 he1 => ?_
    refine ev_ops_k fun K2 hk2 => ?_
    simp only [shA, if_true, if_false, ite_true, ite_false, forall_const, ite_self, eq_self, reduceIte, reduceCtorEq, Nat.reduceEqDiff, Nat.reduceAdd, Nat.reduceLeDiff, Nat.reduceSub, Int.reduceToNat, Nat.reduceBEq, Nat.reduceMul, Nat.reduceLT, Int.reduceLE, Int.reduceLT, Nat.reduceMod, h1]
    refine hk2 _ ?_
    refine hn1 (some ([1, 2, 9, 10, 11, 12, 13], none)) _ ?_
    refine ev_seq_k fun K3 hn3 hr3 he3 => ?_
    refine ev_seq_k fun K4 hn4 hr4 he4 => ?_
    refine ev_ops_k fun K5 hk5 => ?_
    refine evL_take 2 fun K6 hk6 => ?_
    simp only [shA, if_true, if_false, ite_true, ite_false, forall_const, ite_self, eq_self, reduceIte, reduceCtorEq, Nat.reduceEqDiff, Nat.reduceAdd, Nat.reduceLeDiff, Nat.reduceSub, Int.reduceToNat, Nat.reduceBEq, Nat.reduceMul, Nat.reduceLT, Int.reduceLE, Int.reduceLT, Nat.reduceMod, h1]
    repeat (refine ⟨by first | assumption | omega | decide | (simp; done) | (simp_all; done) | (simp; omega), ?_⟩)
    refine hk6 _ ?_
    refine evL_take 4 fun K7 hk7 => ?_
    simp only [shA, if_true, if_false, ite_true, ite_false, forall_const, ite_self, eq_self, reduceIte, reduceCtorEq, Nat.reduceEqDiff, Nat.reduceAdd, Nat.reduceLeDiff, Nat.reduceSub, Int.reduceToNat, Nat.reduceBEq, Nat.reduceMul, Nat.reduceLT, Int.reduceLE, Int.reduceLT, Nat.reduceMod, h1]
    repeat (refine ⟨by first | assumption | omega | decide | (simp; done) | (simp_all; done) | (simp; omega), ?_⟩)
    refine hk7 _ ?_
    refine evL_take 2 fun K8 hk8 => ?_
    simp only [shA, if_true, if_false, ite_true, ite_false, forall_const, ite_self, eq_self, reduceIte, reduceCtorEq, Nat.reduceEqDiff, Nat.reduceAdd, Nat.reduceLeDiff, Nat.reduceSub, Int.reduceToNat, Nat.reduceBEq, Nat.reduceMul, Nat.reduceLT, Int.reduceLE, Int.reduceLT, Nat.reduceMod, h1]
    repeat (refine ⟨by first | assumption | omega | decide | (simp; done) | (simp_all; done) | (simp; omega), ?_⟩)
    refine hk8 _ ?_
    simp only [shA, if_true, if_false, ite_true, ite_false, forall_const, ite_self, eq_self, reduceIte, reduceCtorEq, Nat.reduceEqDiff, Nat.reduceAdd, Nat.reduceLeDiff, Nat.reduceSub, Int.reduceToNat, Nat.reduceBEq, Nat.reduceMul, Nat.reduceLT, Int.reduceLE, Int.reduceLT, Nat.reduceMod, h1]
    refine hk5 _ ?_
    refine hn4 (some ([1, 2, 14], none)) _ ?_
    refine ev_cond_k rfl (fun hc0 => ?_) (fun hx => absurd hx (by simp at hx))
    clear hc0
    refine ev_seq_k fun K9 hn9 hr9 he9 => ?_
    refine ev_ops_k fun K10 hk10 => ?_
    simp only [shA, if_true, if_false, ite_true, ite_false, forall_const, ite_self, eq_self, reduceIte, reduceCtorEq, Nat.reduceEqDiff, Nat.reduceAdd, Nat.reduceLeDiff, Nat.reduceSub, Int.reduceToNat, Nat.reduceBEq, Nat.reduceMul, Nat.reduceLT, Int.reduceLE, Int.reduceLT, Nat.reduceMod, h1]
    refine hk10 _ ?_
    refine hn9 (some ([4, 5], none)) _ ?_
    refine hr3 _ ?_
    simp only [shA, if_true, if_false, ite_true, ite_false, forall_const, ite_self, eq_self, reduceIte, reduceCtorEq, Nat.reduceEqDiff, Nat.reduceAdd, Nat.reduceLeDiff, Nat.reduceSub, Int.reduceToNat, Nat.reduceBEq, Nat.reduceMul, Nat.reduceLT, Int.reduceLE, Int.reduceLT, Nat.reduceMod, ev, fin, rv_lKept, h1]
  obtain ⟨m, rfl⟩ := Int.eq_ofNat_of_zero_le (show 0 ≤ i by omega)
  by_cases h2 : (L.logs.length : Int) ≤ (m : Int)
  · have e : keptM L m = (0, 0) := by unfold keptM; rw [if_neg h1]; simp [show L.logs[m]? = none from by simp; omega]
    rw [e]
    unfold evFn sc_lKept
    refine ev_seq_k fun K1 hn1 hr1 he1 => ?_
    refine ev_ops_k fun K2 hk2 => ?_
    simp only [shA, if_true, if_false, ite_true, ite_false, forall_const, ite_self, eq_self, reduceIte, reduceCtorEq, Nat.reduceEqDiff, Nat.reduceAdd, Nat.reduceLeDiff, Nat.reduceSub, Int.reduceToNat, Nat.reduceBEq, Nat.reduceMul, Nat.reduceLT, Int.reduceLE, Int.reduceLT, Nat.reduceMod, h1, h2, List.length_map]
    refine hk2 _ ?_
    refine hn1 (some ([1, 2, 9, 10, 11, 12, 13], none)) _ ?_
    refine ev_seq_k fun K3 hn3 hr3 he3 => ?_
    refine ev_seq_k fun K4 hn4 hr4 he4 => ?_
    refine ev_ops_k fun K5 hk5 => ?_
    refine evL_take 2 fun K6 hk6 => ?_
    simp only [shA, if_true, if_false, ite_true, ite_false, forall_const, ite_self, eq_self, reduceIte, reduceCtorEq, Nat.reduceEqDiff, Nat.reduceAdd, Nat.reduceLeDiff, Nat.reduceSub, Int.reduceToNat, Nat.reduceBEq, Nat.reduceMul, Nat.reduceLT, Int.reduceLE, Int.reduceLT, Nat.reduceMod, h1, h2, List.length_map]
    repeat (refine ⟨by first | assumption | omega | decide | (simp; done) | (simp_all; done) | (simp; omega), ?_⟩)
    refine hk6 _ ?_
    refine evL_take 4 fun K7 hk7 => ?_
    simp only [shA, if_true, if_false, ite_true, ite_false, forall_const, ite_self, eq_self, reduceIte, reduceCtorEq, Nat.reduceEqDiff, Nat.reduceAdd, Nat.reduceLeDiff, Nat.reduceSub, Int.reduceToNat, Nat.reduceBEq, Nat.reduceMul, Nat.reduceLT, Int.reduceLE, Int.reduceLT, Nat.reduceMod, h1, h2, List.length_map]
    repeat (refine ⟨by first | assumption | omega | decide | (simp; done) | (simp_all; done) | (simp; omega), ?_⟩)
    refine hk7 _ ?_
    refine evL_take 2 fun K8 hk8 => ?_
    simp only [shA, if_true, if_false, ite_true, ite_false, forall_const, ite_self, eq_self, reduceIte, reduceCtorEq, Nat.reduceEqDiff, Nat.reduceAdd, Nat.reduceLeDiff, Nat.reduceSub, Int.reduceToNat, Nat.reduceBEq, Nat.reduceMul, Nat.reduceLT, Int.reduceLE, Int.reduceLT, Nat.reduceMod, h1, h2, List.length_map]
    repeat (refine ⟨by first | assumption | omega | decide | (simp; done) | (simp_all; done) | (simp; omega), ?_⟩)
    refine hk8 _ ?_
    simp only [shA, if_true, if_false, ite_true, ite_false, forall_const, ite_self, eq_self, reduceIte, reduceCtorEq, Nat.reduceEqDiff, Nat.reduceAdd, Nat.reduceLeDiff, Nat.reduceSub, Int.reduceToNat, Nat.reduceBEq, Nat.reduceMul, Nat.reduceLT, Int.reduceLE, Int.reduceLT, Nat.reduceMod, h1, h2, List.length_map]
    refine hk5 _ ?_
    refine hn4 (some ([1, 2, 14], none)) _ ?_
    refine ev_cond_k rfl (fun hc0 => ?_) (fun hx => absurd hx (by simp at hx))
    clear hc0
    refine ev_seq_k fun K9 hn9 hr9 he9 => ?_
    refine ev_ops_k fun K10 hk10 => ?_
    simp only [shA, if_true, if_false, ite_true, ite_false, forall_const, ite_self, eq_self, reduceIte, reduceCtorEq, Nat.reduceEqDiff, Nat.reduceAdd, Nat.reduceLeDiff, Nat.reduceSub, Int.reduceToNat, Nat.reduceBEq, Nat.reduceMul, Nat.reduceLT, Int.reduceLE, Int.reduceLT, Nat.reduceMod, h1, h2, List.length_map]
    refine hk10 _ ?_
    refine hn9 (some ([4, 5], none)) _ ?_
    refine hr3 _ ?_
    simp only [shA, if_true, if_false, ite_true, ite_false, forall_const, ite_self, eq_self, reduceIte, reduceCtorEq, Nat.reduceEqDiff, Nat.reduceAdd, Nat.reduceLeDiff, Nat.reduceSub, Int.reduceToNat, Nat.reduceBEq, Nat.reduceMul, Nat.reduceLT, Int.reduceLE, Int.reduceLT, Nat.reduceMod, ev, fin, rv_lKept, h1, h2, List.length_map]
  · obtain ⟨y, hy⟩ : ∃ y, L.logs[m]? = some y := ⟨L.logs[m]'(by omega), by simp⟩
    have e : keptM L m = (y.kept, (y.stores.length : Int)) := by unfold keptM; rw [if_neg h1]; simp [hy]
    rw [e]
    unfold evFn sc_lKept
    refine ev_seq_k fun K1 hn1 hr1 he1 => ?_
    refine ev_ops_k fun K2 hk2 => ?_
    simp only [shA, if_true, if_false, ite_true, ite_false, forall_const, ite_self, eq_self, reduceIte, reduceCtorEq, Nat.reduceEqDiff, Nat.reduceAdd, Nat.reduceLeDiff, Nat.reduceSub, Int.reduceToNat, Nat.reduceBEq, Nat.reduceMul, Nat.reduceLT, Int.reduceLE, Int.reduceLT, Nat.reduceMod, h1, h2, List.length_map, Int.toNat_natCast, List.getElem?_map, hy]
    refine hk2 _ ?_
    refine hn1 (some ([1, 2, 9, 10, 11, 12, 13], none)) _ ?_
    refine ev_seq_k fun K3 hn3 hr3 he3 => ?_
    refine ev_seq_k fun K4 hn4 hr4 he4 => ?_
    refine ev_ops_k fun K5 hk5 => ?_
    refine evL_take 2 fun K6 hk6 => ?_
    simp only [shA, if_true, if_false, ite_true, ite_false, forall_const, ite_self, eq_self, reduceIte, reduceCtorEq, Nat.reduceEqDiff, Nat.reduceAdd, Nat.reduceLeDiff, Nat.reduceSub, Int.reduceToNat, Nat.reduceBEq, Nat.reduceMul, Nat.reduceLT, Int.reduceLE, Int.reduceLT, Nat.reduceMod, h1, h2, List.length_map, Int.toNat_natCast, List.getElem?_map, hy]
    repeat (refine ⟨by first | assumption | omega | decide | (simp; done) | (simp_all; done) | (simp; omega), ?_⟩)
    refine hk6 _ ?_
    refine evL_take 4 fun K7 hk7 => ?_
    simp only [shA, if_true, if_false, ite_true, ite_false, forall_const, ite_self, eq_self, reduceIte, reduceCtorEq, Nat.reduceEqDiff, Nat.reduceAdd, Nat.reduceLeDiff, Nat.reduceSub, Int.reduceToNat, Nat.reduceBEq, Nat.reduceMul, Nat.reduceLT, Int.reduceLE, Int.reduceLT, Nat.reduceMod, h1, h2, List.length_map, Int.toNat_natCast, List.getElem?_map, hy]
    repeat (refine ⟨by first | assumption | omega | decide | (simp; done) | (simp_all; done) | (simp; omega), ?_⟩)
    refine hk7 _ ?_
    refine evL_take 2 fun K8 hk8 => ?_
    simp only [shA, if_true, if_false, ite_true, ite_false, forall_const, ite_self, eq_self, reduceIte, reduceCtorEq, Nat.reduceEqDiff, Nat.reduceAdd, Nat.reduceLeDiff, Nat.reduceSub, Int.reduceToNat, Nat.reduceBEq, Nat.reduceMul, Nat.reduceLT, Int.reduceLE, Int.reduceLT, Nat.reduceMod, h1, h2, List.length_map, Int.toNat_natCast, List.getElem?_map, hy]
    repeat (refine ⟨by first | assumption | omega | decide | (simp; done) | (simp_all; done) | (simp; omega), ?_⟩)
    refine hk8 _ ?_
    simp only [shA, if_true, if_false, ite_true, ite_false, forall_const, ite_self, eq_self, reduceIte, reduceCtorEq, Nat.reduceEqDiff, Nat.reduceAdd, Nat.reduceLeDiff, Nat.reduceSub, Int.reduceToNat, Nat.reduceBEq, Nat.reduceMul, Nat.reduceLT, Int.reduceLE, Int.reduceLT, Nat.reduceMod, h1, h2, List.length_map, Int.toNat_natCast, List.getElem?_map, hy]
    refine hk5 _ ?_
    refine hn4 (some ([1, 2, 14], none)) _ ?_
    refine ev_cond_k rfl (fun hx => absurd hx (by simp at hx)) (fun hc0 => ?_)
    clear hc0
    refine hn3 (some ([1, 2], none)) _ ?_
    refine ev_seq_k fun K9 hn9 hr9 he9 => ?_
    refine ev_drw_k [] (n := 14) fun K10 hk10 => ?_
    simp only [List.take_succ_cons, List.take_zero, St.frzAll, St.frzSh, St.frzRow, St.frzBox, St.frzCells, St.argL, St.arg1, St.res, Sh.pure, St.setO, getA, delA, keepT, St.keep, reduceIte, Nat.reduceEqDiff, reduceCtorEq, Option.bind_some, Option.map_some, List.contains_cons, List.contains_nil, Nat.reduceBEq, Bool.or_false, Bool.or_true, Bool.false_or, beq_self_eq_true, Bool.false_eq_true]
    refine evF_take 2 fun K12 hk12 => ?_
    simp only [shA, if_true, if_false, ite_true, ite_false, forall_const, ite_self, eq_self, reduceIte, reduceCtorEq, Nat.reduceEqDiff, Nat.reduceAdd, Nat.reduceLeDiff, Nat.reduceSub, Int.reduceToNat, Nat.reduceBEq, Nat.reduceMul, Nat.reduceLT, Int.reduceLE, Int.reduceLT, Nat.reduceMod, h1, h2, List.length_map, Int.toNat_natCast, List.getElem?_map, hy]
    repeat (refine ⟨by first | assumption | omega | decide | (simp; done) | (simp_all; done) | (simp; omega), ?_⟩)
    refine hk12 _ _ _ ?_
    refine evF_take 2 fun K13 hk13 => ?_
    simp only [shA, if_true, if_false, ite_true, ite_false, forall_const, ite_self, eq_self, reduceIte, reduceCtorEq, Nat.reduceEqDiff, Nat.reduceAdd, Nat.reduceLeDiff, Nat.reduceSub, Int.reduceToNat, Nat.reduceBEq, Nat.reduceMul, Nat.reduceLT, Int.reduceLE, Int.reduceLT, Nat.reduceMod, h1, h2, List.length_map, Int.toNat_natCast, List.getElem?_map, hy]
    repeat (refine ⟨by first | assumption | omega | decide | (simp; done) | (simp_all; done) | (simp; omega), ?_⟩)
    refine hk13 _ _ _ ?_
    refine evF_take 2 fun K14 hk14 => ?_
    simp only [shA, if_true, if_false, ite_true, ite_false, forall_const, ite_self, eq_self, reduceIte, reduceCtorEq, Nat.reduceEqDiff, Nat.reduceAdd, Nat.reduceLeDiff, Nat.reduceSub, Int.reduceToNat, Nat.reduceBEq, Nat.reduceMul, Nat.reduceLT, Int.reduceLE, Int.reduceLT, Nat.reduceMod, h1, h2, List.length_map, Int.toNat_natCast, List.getElem?_map, hy]
    repeat (refine ⟨by first | assumption | omega | decide | (simp; done) | (simp_all; done) | (simp; omega), ?_⟩)
    refine hk14 _ _ _ ?_
    refine evF_take 2 fun K15 hk15 => ?_
    simp only [shA, if_true, if_false, ite_true, ite_false, forall_const, ite_self, eq_self, reduceIte, reduceCtorEq, Nat.reduceEqDiff, Nat.reduceAdd, Nat.reduceLeDiff, Nat.reduceSub, Int.reduceToNat, Nat.reduceBEq, Nat.reduceMul, Nat.reduceLT, Int.reduceLE, Int.reduceLT, Nat.reduceMod, h1, h2, List.length_map, Int.toNat_natCast, List.getElem?_map, hy]
    repeat (refine ⟨by first | assumption | omega | decide | (simp; done) | (simp_all; done) | (simp; omega), ?_⟩)
    refine hk15 _ _ _ ?_
    refine evF_take 2 fun K16 hk16 => ?_
    simp only [shA, if_true, if_false, ite_true, ite_false, forall_const, ite_self, eq_self, reduceIte, reduceCtorEq, Nat.reduceEqDiff, Nat.reduceAdd, Nat.reduceLeDiff, Nat.reduceSub, Int.reduceToNat, Nat.reduceBEq, Nat.reduceMul, Nat.reduceLT, Int.reduceLE, Int.reduceLT, Nat.reduceMod, h1, h2, List.length_map, Int.toNat_natCast, List.getElem?_map, hy]
    repeat (refine ⟨by first | assumption | omega | decide | (simp; done) | (simp_all; done) | (simp; omega), ?_⟩)
    refine hk16 _ _ _ ?_
    refine evF_take 2 fun K17 hk17 => ?_
    simp only [shA, if_true, if_false, ite_true, ite_false, forall_const, ite_self, eq_self, reduceIte, reduceCtorEq, Nat.reduceEqDiff, Nat.reduceAdd, Nat.reduceLeDiff, Nat.reduceSub, Int.reduceToNat, Nat.reduceBEq, Nat.reduceMul, Nat.reduceLT, Int.reduceLE, Int.reduceLT, Nat.reduceMod, h1, h2, List.length_map, Int.toNat_natCast, List.getElem?_map, hy]
    repeat (refine ⟨by first | assumption | omega | decide | (simp; done) | (simp_all; done) | (simp; omega), ?_⟩)
    refine hk17 _ _ _ ?_
    simp only [shA, if_true, if_false, ite_true, ite_false, forall_const, ite_self, eq_self, reduceIte, reduceCtorEq, Nat.reduceEqDiff, Nat.reduceAdd, Nat.reduceLeDiff, Nat.reduceSub, Int.reduceToNat, Nat.reduceBEq, Nat.reduceMul, Nat.reduceLT, Int.reduceLE, Int.reduceLT, Nat.reduceMod, h1, h2, List.length_map, Int.toNat_natCast, List.getElem?_map, hy]
    refine hk10 _ ?_
    simp only [List.drop_succ_cons, List.drop_zero]
    simp only [shA, if_true, if_false, ite_true, ite_false, forall_const, ite_self, eq_self, reduceIte, reduceCtorEq, Nat.reduceEqDiff, Nat.reduceAdd, Nat.reduceLeDiff, Nat.reduceSub, Int.reduceToNat, Nat.reduceBEq, Nat.reduceMul, Nat.reduceLT, Int.reduceLE, Int.reduceLT, Nat.reduceMod, h1, h2, List.length_map, Int.toNat_natCast, List.getElem?_map, hy]
    refine hn9 (some ([4, 5], none)) _ ?_
    simp only [shA, if_true, if_false, ite_true, ite_false, forall_const, ite_self, eq_self, reduceIte, reduceCtorEq, Nat.reduceEqDiff, Nat.reduceAdd, Nat.reduceLeDiff, Nat.reduceSub, Int.reduceToNat, Nat.reduceBEq, Nat.reduceMul, Nat.reduceLT, Int.reduceLE, Int.reduceLT, Nat.reduceMod, ev, fin, rv_lKept, h1, h2, List.length_map, Int.toNat_natCast, List.getElem?_map, hy]

theorem ok_of_retv {f : FuncId} {xs : List Value} {r : Value} (h : ∀ w, RetV Try.prog f xs.toArray w r) (hr : r.oneCell' = true) : Ok f (xs.map .v) (.v r) := by
  intro w H vs hs hv
  have e : vs = xs := by
    clear h
    induction xs generalizing vs with
    | nil => cases hv; rfl
    | cons x xs ih => cases hv with | cons h1 t => cases h1; rw [ih _ t]
  subst e
  exact RetV.use (h w) fun w' hb => ret_mk (c := fun v : Value => v) r H (Grow.of_below hs hb) (.v hr)
theorem ok_lMix (c i m : Int) (hm : m ≤ 1099511627776) : Ok 25 [sI c, sI i, sI m] (sI (mixF c i m)) := ok_of_retv (xs := [.int .i64 c, .int .i64 i, .int .i64 m]) (fun w => lMix_ret c i m w hm) rfl
theorem ok_r5Mix (c i m : Int) (hm : m ≤ 1099511627776) : Ok 26 [sI c, sI i, sI m] (sI (mixF c i m)) := ok_of_retv (xs := [.int .i64 c, .int .i64 i, .int .i64 m]) (fun w => r5Mix_ret c i m w hm) rfl

def newM (l : List WordV) : LinesM := ⟨l, List.replicate ((l.length + 7) / 8) ⟨[], 0⟩, fun _ => none⟩
theorem ok_lineNew (g : Nat) (l : List WordV) (h : l.length ≤ 4096) : Ok 27 [.sl 3 g (l.map eWord)] (.tup [eLines (newM l), sI 0]) := by
  refine ok_of_tr Try.func27 tr_lineNew rfl ?_
  have h1 : ¬ (4096 : Int) < (l.length : Int) := by omega
  have q1 : IntKind.i64.wrap ((l.length : Int) + 8) = (l.length : Int) + 8 := by rw [IntKind.wrap_i64]; omega
  have q2 : IntKind.i64.wrap ((l.length : Int) + 8 - 1) = (l.length : Int) + 7 := by rw [IntKind.wrap_i64]; omega
  have q3 : IntKind.i64.wrap (((l.length : Int) + 7).tdiv 8) = ((l.length + 7) / 8 : Nat) := by rw [IntKind.wrap_i64, Int.tdiv_eq_ediv_of_nonneg (by omega)]; omega
  unfold evFn sc_lineNew
  refine ev_seq_k fun K1 hn1 hr1 he1 => ?_
  refine ev_ops_k fun K2 hk2 => ?_
  simp only [shA, if_true, if_false, ite_true, ite_false, forall_const, ite_self, eq_self, reduceIte, reduceCtorEq, Nat.reduceEqDiff, Nat.reduceAdd, Nat.reduceLeDiff, Nat.reduceSub, Int.reduceToNat, Nat.reduceBEq, Nat.reduceMul, Nat.reduceLT, Int.reduceLE, Int.reduceLT, Nat.reduceMod, h1, List.length_map, q1, q2, q3, Int.toNat_natCast]
  refine hk2 _ ?_
  refine hn1 (some ([0, 2], none)) _ ?_
  refine ev_seq_k fun K3 hn3 hr3 he3 => ?_
  refine ev_seq_k fun K4 hn4 hr4 he4 => ?_
  refine ev_ops_k fun K5 hk5 => ?_
  simp only [shA, if_true, if_false, ite_true, ite_false, forall_const, ite_self, eq_self, reduceIte, reduceCtorEq, Nat.reduceEqDiff, Nat.reduceAdd, Nat.reduceLeDiff, Nat.reduceSub, Int.reduceToNat, Nat.reduceBEq, Nat.reduceMul, Nat.reduceLT, Int.reduceLE, Int.reduceLT, Nat.reduceMod, h1, List.length_map, q1, q2, q3, Int.toNat_natCast]
  repeat (refine ⟨by first | assumption | omega | decide | (simp; done) | (simp_all; done) | (simp; omega), ?_⟩)
  refine hk5 _ ?_
  refine hn4 (some ([0, 2, 6], none)) _ ?_
  refine ev_cond_k rfl (fun hx => absurd hx (by simp at hx)) (fun hc0 => ?_)
  clear hc0
  refine hn3 (some ([0, 2], none)) _ ?_
  refine ev_seq_k fun K6 hn6 hr6 he6 => ?_
  refine ev_drw_k [] (n := 8) fun K7 hk7 => ?_
  simp only [List.take_succ_cons, List.take_zero, St.frzAll, St.frzSh, St.frzRow, St.frzBox, St.frzCells, St.argL, St.arg1, St.res, Sh.pure, St.setO, getA, delA, keepT, St.keep, reduceIte, Nat.reduceEqDiff, reduceCtorEq, Option.bind_some, Option.map_some, List.contains_cons, List.contains_nil, Nat.reduceBEq, Bool.or_false, Bool.or_true, Bool.false_or, beq_self_eq_true, Bool.false_eq_true]
  refine evF_take 1 fun K9 hk9 => ?_
  simp only [shA, if_true, if_false, ite_true, ite_false, forall_const, ite_self, eq_self, reduceIte, reduceCtorEq, Nat.reduceEqDiff, Nat.reduceAdd, Nat.reduceLeDiff, Nat.reduceSub, Int.reduceToNat, Nat.reduceBEq, Nat.reduceMul, Nat.reduceLT, Int.reduceLE, Int.reduceLT, Nat.reduceMod, h1, List.length_map, q1, q2, q3, Int.toNat_natCast]
  refine hk9 _ _ _ ?_
  refine evF_take 1 fun K10 hk10 => ?_
  simp only [shA, if_true, if_false, ite_true, ite_false, forall_const, ite_self, eq_self, reduceIte, reduceCtorEq, Nat.reduceEqDiff, Nat.reduceAdd, Nat.reduceLeDiff, Nat.reduceSub, Int.reduceToNat, Nat.reduceBEq, Nat.reduceMul, Nat.reduceLT, Int.reduceLE, Int.reduceLT, Nat.reduceMod, h1, List.length_map, q1, q2, q3, Int.toNat_natCast]
  refine ⟨_, (row_cloneWord g (l.map eWord) (by simp; omega)).ok, ?_⟩
  refine hk10 _ _ _ ?_
  refine evF_take 3 fun K11 hk11 => ?_
  simp only [shA, if_true, if_false, ite_true, ite_false, forall_const, ite_self, eq_self, reduceIte, reduceCtorEq, Nat.reduceEqDiff, Nat.reduceAdd, Nat.reduceLeDiff, Nat.reduceSub, Int.reduceToNat, Nat.reduceBEq, Nat.reduceMul, Nat.reduceLT, Int.reduceLE, Int.reduceLT, Nat.reduceMod, h1, List.length_map, q1, q2, q3, Int.toNat_natCast]
  repeat (refine ⟨by first | assumption | omega | decide | (simp; done) | (simp_all; done) | (simp; omega), ?_⟩)
  refine hk11 _ _ _ ?_
  refine evF_take 1 fun K12 hk12 => ?_
  simp only [shA, if_true, if_false, ite_true, ite_false, forall_const, ite_self, eq_self, reduceIte, reduceCtorEq, Nat.reduceEqDiff, Nat.reduceAdd, Nat.reduceLeDiff, Nat.reduceSub, Int.reduceToNat, Nat.reduceBEq, Nat.reduceMul, Nat.reduceLT, Int.reduceLE, Int.reduceLT, Nat.reduceMod, h1, List.length_map, q1, q2, q3, Int.toNat_natCast]
  repeat (refine ⟨by first | assumption | omega | decide | (simp; done) | (simp_all; done) | (simp; omega), ?_⟩)
  refine hk12 _ _ _ ?_
  refine evF_take 1 fun K13 hk13 => ?_
  simp only [shA, if_true, if_false, ite_true, ite_false, forall_const, ite_self, eq_self, reduceIte, reduceCtorEq, Nat.reduceEqDiff, Nat.reduceAdd, Nat.reduceLeDiff, Nat.reduceSub, Int.reduceToNat, Nat.reduceBEq, Nat.reduceMul, Nat.reduceLT, Int.reduceLE, Int.reduceLT, Nat.reduceMod, h1, List.length_map, q1, q2, q3, Int.toNat_natCast]
  repeat (refine ⟨by first | assumption | omega | decide | (simp; done) | (simp_all; done) | (simp; omega), ?_⟩)
  refine hk13 _ _ _ ?_
  simp only [shA, if_true, if_false, ite_true, ite_false, forall_const, ite_self, eq_self, reduceIte, reduceCtorEq, Nat.reduceEqDiff, Nat.reduceAdd, Nat.reduceLeDiff, Nat.reduceSub, Int.reduceToNat, Nat.reduceBEq, Nat.reduceMul, Nat.reduceLT, Int.reduceLE, Int.reduceLT, Nat.reduceMod, h1, List.length_map, q1, q2, q3, Int.toNat_natCast]
  repeat (refine ⟨by first | assumption | omega | decide | (simp; done) | (simp_all; done) | (simp; omega), ?_⟩)
  refine hk7 _ ?_
  simp only [List.drop_succ_cons, List.drop_zero]
  refine evL_take 2 fun K14 hk14 => ?_
  simp only [shA, if_true, if_false, ite_true, ite_false, forall_const, ite_self, eq_self, reduceIte, reduceCtorEq, Nat.reduceEqDiff, Nat.reduceAdd, Nat.reduceLeDiff, Nat.reduceSub, Int.reduceToNat, Nat.reduceBEq, Nat.reduceMul, Nat.reduceLT, Int.reduceLE, Int.reduceLT, Nat.reduceMod, h1, List.length_map, q1, q2, q3, Int.toNat_natCast]
  repeat (refine ⟨by first | assumption | omega | decide | (simp; done) | (simp_all; done) | (simp; omega), ?_⟩)
  refine hk14 _ ?_
  simp only [shA, if_true, if_false, ite_true, ite_false, forall_const, ite_self, eq_self, reduceIte, reduceCtorEq, Nat.reduceEqDiff, Nat.reduceAdd, Nat.reduceLeDiff, Nat.reduceSub, Int.reduceToNat, Nat.reduceBEq, Nat.reduceMul, Nat.reduceLT, Int.reduceLE, Int.reduceLT, Nat.reduceMod, h1, List.length_map, q1, q2, q3, Int.toNat_natCast]
  refine hn6 (some ([2, 3], none)) _ ?_
  simp only [shA, if_true, if_false, ite_true, ite_false, forall_const, ite_self, eq_self, reduceIte, reduceCtorEq, Nat.reduceEqDiff, Nat.reduceAdd, Nat.reduceLeDiff, Nat.reduceSub, Int.reduceToNat, Nat.reduceBEq, Nat.reduceMul, Nat.reduceLT, Int.reduceLE, Int.reduceLT, Nat.reduceMod, ev, fin, rv_lineNew, h1, List.length_map, q1, q2, q3, Int.toNat_natCast]
  unfold newM
  simp
end Go.Proofs.Ytlbhfpcbbembgaa
